/- Texts of this claim in one file: FnStopFormsGoFacts. -/
import Derived.Test.YtdongckiecjbaaaGreatDoorSg9
import Derived.Test.YtdongckiecjbaaaGreatDoorRows
import Derived.ProofKit
import Derived.SevenTiedAt
import Derived.JoinedOf
namespace Go.Proofs.YtdongckiecjbaaaGreatDoor
set_option maxRecDepth 100000
theorem gN : false = Rows.fnStopFormsRow.goesBy Tryz.pinned.checked.prog := by kernel_rfl
end Go.Proofs.YtdongckiecjbaaaGreatDoor
