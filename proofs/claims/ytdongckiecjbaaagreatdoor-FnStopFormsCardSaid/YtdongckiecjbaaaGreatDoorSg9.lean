/- Texts of this claim in one file: MainFacts. -/
import Derived.Test.YtdongckiecjbaaaGreatDoorSg8
import Derived.Test.YtdongckiecjbaaaGreatDoorRows
import Derived.ProofKit
import Derived.SevenTiedAt
import Derived.JoinedOf
namespace Go.Proofs.YtdongckiecjbaaaGreatDoor
set_option maxRecDepth 100000
theorem seat_main : Tryz.pinned.checked.prog.mainIs = some ((true, "5422724aa076ff6b21c2bdae20489dfb8090e15c8343305b3c8c12acc2c1d5c0").1, ((true, "5422724aa076ff6b21c2bdae20489dfb8090e15c8343305b3c8c12acc2c1d5c0").2).toList) := by kernel_rfl
end Go.Proofs.YtdongckiecjbaaaGreatDoor
