/- Texts of this claim in one file: FnFitsGoFacts. -/
import Derived.Test.YtjdchbdfohiaaaaGreatDoorFi9
import Derived.Test.YtjdchbdfohiaaaaGreatDoorRows
import Derived.ProofKit
import Derived.SevenTiedAt
import Derived.JoinedOf
namespace Go.Proofs.YtjdchbdfohiaaaaGreatDoor
set_option maxRecDepth 100000
theorem fnFits_still : false = Rows.fnFitsRow.goesBy Tryz.pinned.checked.prog := by kernel_rfl
end Go.Proofs.YtjdchbdfohiaaaaGreatDoor
