/- Texts of this claim in one file: MainFacts. -/
import Derived.Test.YtianphgdbfekdaaGreatDoorPp8
import Derived.Test.YtianphgdbfekdaaGreatDoorRows
import Derived.ProofKit
import Derived.SevenTiedAt
import Derived.JoinedOf
namespace Go.Proofs.YtianphgdbfekdaaGreatDoor
set_option maxRecDepth 100000
theorem seat_main : Tryz.pinned.checked.prog.mainIs = some ((true, "a2b13d0727076521c806dde5af7f676b596717338450dacb51d699020e40f874").1, ((true, "a2b13d0727076521c806dde5af7f676b596717338450dacb51d699020e40f874").2).toList) := by kernel_rfl
end Go.Proofs.YtianphgdbfekdaaGreatDoor
