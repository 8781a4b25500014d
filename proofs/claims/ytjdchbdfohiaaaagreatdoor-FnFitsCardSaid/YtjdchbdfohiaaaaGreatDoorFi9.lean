/- Texts of this claim in one file: MainFacts. -/
import Derived.Test.YtjdchbdfohiaaaaGreatDoorFi8
import Derived.Test.YtjdchbdfohiaaaaGreatDoorRows
import Derived.ProofKit
import Derived.SevenTiedAt
import Derived.JoinedOf
namespace Go.Proofs.YtjdchbdfohiaaaaGreatDoor
set_option maxRecDepth 100000
theorem seat_main : Tryz.pinned.checked.prog.mainIs = some ((true, "54adc1c2e1fa2f536a9a0fa2cdbe9196a3d291d88a86f7feec701dccff449fd8").1, ((true, "54adc1c2e1fa2f536a9a0fa2cdbe9196a3d291d88a86f7feec701dccff449fd8").2).toList) := by kernel_rfl
end Go.Proofs.YtjdchbdfohiaaaaGreatDoor
