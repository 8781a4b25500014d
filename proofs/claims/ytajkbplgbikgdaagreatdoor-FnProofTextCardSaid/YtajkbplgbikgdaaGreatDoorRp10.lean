/- Texts of this claim in one file: MainFacts. -/
import Derived.Test.YtajkbplgbikgdaaGreatDoorRp9
import Derived.Test.YtajkbplgbikgdaaGreatDoorRows
import Derived.ProofKit
import Derived.SevenTiedAt
import Derived.JoinedOf
namespace Go.Proofs.YtajkbplgbikgdaaGreatDoor
set_option maxRecDepth 100000
theorem seat_main : Tryz.pinned.checked.prog.mainIs = some ((true, "53b0b64773f00fd2ed2c6aec0a4789789daf509c599175de29b5bdd69c95c5e0").1, ((true, "53b0b64773f00fd2ed2c6aec0a4789789daf509c599175de29b5bdd69c95c5e0").2).toList) := by kernel_rfl
end Go.Proofs.YtajkbplgbikgdaaGreatDoor
