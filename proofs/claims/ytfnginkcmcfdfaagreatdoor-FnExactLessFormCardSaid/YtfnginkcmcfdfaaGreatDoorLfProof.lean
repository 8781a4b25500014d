/- Texts of this claim in one file: FnExactLessFormProof. -/
import Derived.Test.YtfnginkcmcfdfaaGreatDoorLf9
namespace Go.Proofs.YtfnginkcmcfdfaaGreatDoor
open Go.ChangeShapes Go.WideShapes Go.ChangeAt Go.RowKit Go.GL
theorem fnExactLessForm_holds : Rows.FnExactLessFormCardSaid :=
 Claim7.holds_tied_plain_at .later [] [.data, .data, .data] true (true, "b6589457b183390351fe447f52b09d75d14c69b6eccc4f6dda3a2d94e545a32d") false
  fnExactLessForm_row (fun _ h => by cases h) (by kernel_rfl) (fun _ h => by cases h) fnExactLessForm_row_tie rfl ⟨rfl, rfl⟩ seat_main rfl
  (fun f fn hf hfn => by
   obtain rfl : f = 6 := Option.some.inj ((show Tryz.prog.funcNamed "loop.example/g00868/laws.FnExactLessForm" = some 6 by kernel_rfl).symm.trans hf) |>.symm
   obtain rfl : fn = Tryz.f6 := (Option.some.inj (Tryz.func6.symm.trans hfn)).symm
   exact ⟨by kernel_rfl, fun j t ht => by
    rw [Tryz.params6] at ht
    have hm : t ∈ [24, 24] := by simpa using Array.mem_of_getElem? ht
    have hall : ([24, 24].all fun u => !Tryz.prog.wantsStandIn u) = true := by kernel_rfl
    exact (show Tryz.prog.wantsStandIn t = false by simpa using List.all_eq_true.1 hall t hm)⟩)
  fnExactLessForm_still
end Go.Proofs.YtfnginkcmcfdfaaGreatDoor
