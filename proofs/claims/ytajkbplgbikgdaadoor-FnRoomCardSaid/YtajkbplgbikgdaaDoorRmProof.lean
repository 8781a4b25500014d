/- Texts of this claim in one file: FnRoomProof. -/
import Derived.Test.YtajkbplgbikgdaaDoorRm7
namespace Go.Proofs.YtajkbplgbikgdaaDoor
open Go.ChangeShapes Go.WideShapes Go.ChangeAt Go.RowKit Go.GL
theorem fnRoom_holds : Rows.FnRoomCardSaid :=
 Claim7.holds_tied_plain_at .later [] [.data, .pinned] true (true, "fc5430e08b29f3363172e890bbdcc318857cc06de626eaa7a43e92e97417180b") false
  fnRoom_row (fun _ h => by cases h) (by kernel_rfl) (fun _ h => by cases h) fnRoom_row_tie rfl ⟨rfl, rfl⟩ seat_main rfl
  (fun f fn hf hfn => by
   obtain rfl : f = 3 := Option.some.inj ((show Tryd.prog.funcNamed "loop.example/g00868/laws.FnRoom" = some 3 by kernel_rfl).symm.trans hf) |>.symm
   obtain rfl : fn = Tryd.f3 := (Option.some.inj (Tryd.func3.symm.trans hfn)).symm
   exact ⟨by kernel_rfl, fun j t ht => by
    rw [Tryd.params3] at ht
    have hm : t ∈ [22] := by simpa using Array.mem_of_getElem? ht
    have hall : ([22].all fun u => !Tryd.prog.wantsStandIn u) = true := by kernel_rfl
    exact (show Tryd.prog.wantsStandIn t = false by simpa using List.all_eq_true.1 hall t hm)⟩)
  fnRoom_still
end Go.Proofs.YtajkbplgbikgdaaDoor
