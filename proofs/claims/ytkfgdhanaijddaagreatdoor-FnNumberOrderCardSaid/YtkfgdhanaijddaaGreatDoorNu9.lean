/- Texts of this claim in one file: MainFacts. -/
import Derived.Test.YtkfgdhanaijddaaGreatDoorNu8
import Derived.Test.YtkfgdhanaijddaaGreatDoorRows
import Derived.ProofKit
import Derived.SevenTiedAt
import Derived.JoinedOf
namespace Go.Proofs.YtkfgdhanaijddaaGreatDoor
set_option maxRecDepth 100000
theorem seat_main : Tryz.pinned.checked.prog.mainIs = some ((true, "60dc7040ae92ec386c6079771626270607e9da80e776a8905a20b69bfd17a1cd").1, ((true, "60dc7040ae92ec386c6079771626270607e9da80e776a8905a20b69bfd17a1cd").2).toList) := by kernel_rfl
end Go.Proofs.YtkfgdhanaijddaaGreatDoor
