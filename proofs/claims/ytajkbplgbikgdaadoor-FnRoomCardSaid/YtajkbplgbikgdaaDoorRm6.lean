/- Texts of this claim in one file: MainFacts. -/
import Derived.Test.YtajkbplgbikgdaaDoorRm5
import Derived.Test.YtajkbplgbikgdaaDoorRows
import Derived.ProofKit
import Derived.SevenTiedAt
import Derived.JoinedOf
namespace Go.Proofs.YtajkbplgbikgdaaDoor
set_option maxRecDepth 100000
theorem seat_main : Tryd.pinned.checked.prog.mainIs = some ((true, "fc5430e08b29f3363172e890bbdcc318857cc06de626eaa7a43e92e97417180b").1, ((true, "fc5430e08b29f3363172e890bbdcc318857cc06de626eaa7a43e92e97417180b").2).toList) := by kernel_rfl
end Go.Proofs.YtajkbplgbikgdaaDoor
