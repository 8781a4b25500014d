/- Texts of this claim in one file: MainFacts. -/
import Derived.Test.YtbfhkngkfadmnaaGreatDoorRf8
import Derived.Test.YtbfhkngkfadmnaaGreatDoorRows
import Derived.ProofKit
import Derived.SevenTiedAt
import Derived.JoinedOf
namespace Go.Proofs.YtbfhkngkfadmnaaGreatDoor
set_option maxRecDepth 100000
theorem seat_main : Tryz.pinned.checked.prog.mainIs = some ((true, "6f908f42fb0569146658889fb5c55a9e22ee826753450af01cafbcad8b097662").1, ((true, "6f908f42fb0569146658889fb5c55a9e22ee826753450af01cafbcad8b097662").2).toList) := by kernel_rfl
end Go.Proofs.YtbfhkngkfadmnaaGreatDoor
