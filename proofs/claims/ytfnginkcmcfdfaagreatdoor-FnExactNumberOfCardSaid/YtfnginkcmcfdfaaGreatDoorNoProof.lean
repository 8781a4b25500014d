/- Texts of this claim in one file: FnExactNumberOfProof. -/
import Derived.Test.YtfnginkcmcfdfaaGreatDoorNo10
namespace Go.Proofs.YtfnginkcmcfdfaaGreatDoor
open Go.ChangeShapes Go.WideShapes Go.ChangeAt Go.RowKit Go.GL
theorem fnExactNumberOf_holds : Rows.FnExactNumberOfCardSaid :=
 Claim7.holds_tied_plain_at .later [] [.data, .data, .data] true (true, "b6589457b183390351fe447f52b09d75d14c69b6eccc4f6dda3a2d94e545a32d") false
  fnExactNumberOf_row (fun _ h => by cases h) (by kernel_rfl) (fun _ h => by cases h) fnExactNumberOf_row_tie rfl ⟨rfl, rfl⟩ seat_main rfl
  (fun f fn hf hfn => by
   obtain rfl : f = 7 := Option.some.inj ((show Tryz.prog.funcNamed "loop.example/g00868/laws.FnExactNumberOf" = some 7 by kernel_rfl).symm.trans hf) |>.symm
   obtain rfl : fn = Tryz.f7 := (Option.some.inj (Tryz.func7.symm.trans hfn)).symm
   exact ⟨by kernel_rfl, fun j t ht => by
    rw [Tryz.params7] at ht
    have hm : t ∈ [24] := by simpa using Array.mem_of_getElem? ht
    have hall : ([24].all fun u => !Tryz.prog.wantsStandIn u) = true := by kernel_rfl
    exact (show Tryz.prog.wantsStandIn t = false by simpa using List.all_eq_true.1 hall t hm)⟩)
  fnExactNumberOf_still
end Go.Proofs.YtfnginkcmcfdfaaGreatDoor
