/- Texts of this claim in one file: FnExactUpsFormProof. -/
import Derived.Test.YtfnginkcmcfdfaaGreatDoorUs9
namespace Go.Proofs.YtfnginkcmcfdfaaGreatDoor
open Go.ChangeShapes Go.WideShapes Go.ChangeAt Go.RowKit Go.GL
theorem fnExactUpsForm_holds : Rows.FnExactUpsFormCardSaid :=
 Claim7.holds_tied_plain_at .later [] [.data, .data, .data] true (true, "b6589457b183390351fe447f52b09d75d14c69b6eccc4f6dda3a2d94e545a32d") false
  fnExactUpsForm_row (fun _ h => by cases h) (by kernel_rfl) (fun _ h => by cases h) fnExactUpsForm_row_tie rfl ⟨rfl, rfl⟩ seat_main rfl
  (fun f fn hf hfn => by
   obtain rfl : f = 10 := Option.some.inj ((show Tryz.prog.funcNamed "loop.example/g00868/laws.FnExactUpsForm" = some 10 by kernel_rfl).symm.trans hf) |>.symm
   obtain rfl : fn = Tryz.f10 := (Option.some.inj (Tryz.func10.symm.trans hfn)).symm
   exact ⟨by kernel_rfl, fun j t ht => by
    rw [Tryz.params10] at ht
    have hm : t ∈ [3, 3] := by simpa using Array.mem_of_getElem? ht
    have hall : ([3, 3].all fun u => !Tryz.prog.wantsStandIn u) = true := by kernel_rfl
    exact (show Tryz.prog.wantsStandIn t = false by simpa using List.all_eq_true.1 hall t hm)⟩)
  fnExactUpsForm_still
end Go.Proofs.YtfnginkcmcfdfaaGreatDoor
