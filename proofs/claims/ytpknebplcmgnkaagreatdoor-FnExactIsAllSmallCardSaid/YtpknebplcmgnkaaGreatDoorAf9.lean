/- Texts of this claim in one file: MainFacts. -/
import Derived.Test.YtpknebplcmgnkaaGreatDoorAf8
import Derived.Test.YtpknebplcmgnkaaGreatDoorRows
import Derived.ProofKit
import Derived.SevenTiedAt
import Derived.JoinedOf
namespace Go.Proofs.YtpknebplcmgnkaaGreatDoor
set_option maxRecDepth 100000
theorem seat_main : Tryz.pinned.checked.prog.mainIs = some ((true, "26eb691d432efe9bdfa9202cfb56581ac29a39f5a1dd262bb5202f36a961cbca").1, ((true, "26eb691d432efe9bdfa9202cfb56581ac29a39f5a1dd262bb5202f36a961cbca").2).toList) := by kernel_rfl
end Go.Proofs.YtpknebplcmgnkaaGreatDoor
