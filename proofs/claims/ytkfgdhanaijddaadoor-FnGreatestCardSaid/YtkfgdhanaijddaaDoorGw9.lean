/- Texts of this claim in one file: MainFacts. -/
import Derived.Test.YtkfgdhanaijddaaDoorGw8
import Derived.Test.YtkfgdhanaijddaaDoorRows
import Derived.ProofKit
import Derived.SevenTiedAt
import Derived.JoinedOf
namespace Go.Proofs.YtkfgdhanaijddaaDoor
set_option maxRecDepth 100000
theorem seat_main : Tryd.pinned.checked.prog.mainIs = some ((true, "7bff4c77e6785e83780cc1e43beb674e3af3ed333277f29e86881a83afd0eca4").1, ((true, "7bff4c77e6785e83780cc1e43beb674e3af3ed333277f29e86881a83afd0eca4").2).toList) := by kernel_rfl
end Go.Proofs.YtkfgdhanaijddaaDoor
