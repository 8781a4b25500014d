/- Texts of this claim in one file: FnExactSumFormsProof. -/
import Derived.Test.YtpknebplcmgnkaaGreatDoorSf10
namespace Go.Proofs.YtpknebplcmgnkaaGreatDoor
open Go.ChangeShapes Go.WideShapes Go.ChangeAt Go.RowKit Go.GL
theorem fnExactSumForms_holds : Rows.FnExactSumFormsCardSaid :=
 Claim7.holds_tied_plain_at .later [] [.data, .data, .data] true (true, "26eb691d432efe9bdfa9202cfb56581ac29a39f5a1dd262bb5202f36a961cbca") false
  fnExactSumForms_row (fun _ h => by cases h) (by kernel_rfl) (fun _ h => by cases h) fnExactSumForms_row_tie rfl ⟨rfl, rfl⟩ seat_main rfl
  (fun f fn hf hfn => by
   obtain rfl : f = 12 := Option.some.inj ((show Tryz.prog.funcNamed "loop.example/g00868/laws.FnExactSumForms" = some 12 by kernel_rfl).symm.trans hf) |>.symm
   obtain rfl : fn = Tryz.f12 := (Option.some.inj (Tryz.func12.symm.trans hfn)).symm
   exact ⟨by kernel_rfl, fun j t ht => by
    rw [Tryz.params12] at ht
    have hm : t ∈ [24, 24] := by simpa using Array.mem_of_getElem? ht
    have hall : ([24, 24].all fun u => !Tryz.prog.wantsStandIn u) = true := by kernel_rfl
    exact (show Tryz.prog.wantsStandIn t = false by simpa using List.all_eq_true.1 hall t hm)⟩)
  fnExactSumForms_still
end Go.Proofs.YtpknebplcmgnkaaGreatDoor
