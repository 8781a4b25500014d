/- Texts of this claim in one file: FnExactMinusFormsProof. -/
import Derived.Test.YtpknebplcmgnkaaGreatDoorMf10
namespace Go.Proofs.YtpknebplcmgnkaaGreatDoor
open Go.ChangeShapes Go.WideShapes Go.ChangeAt Go.RowKit Go.GL
theorem fnExactMinusForms_holds : Rows.FnExactMinusFormsCardSaid :=
 Claim7.holds_tied_plain_at .later [] [.data, .data, .data] true (true, "26eb691d432efe9bdfa9202cfb56581ac29a39f5a1dd262bb5202f36a961cbca") false
  fnExactMinusForms_row (fun _ h => by cases h) (by kernel_rfl) (fun _ h => by cases h) fnExactMinusForms_row_tie rfl ⟨rfl, rfl⟩ seat_main rfl
  (fun f fn hf hfn => by
   obtain rfl : f = 14 := Option.some.inj ((show Tryz.prog.funcNamed "loop.example/g00868/laws.FnExactMinusForms" = some 14 by kernel_rfl).symm.trans hf) |>.symm
   obtain rfl : fn = Tryz.f14 := (Option.some.inj (Tryz.func14.symm.trans hfn)).symm
   exact ⟨by kernel_rfl, fun j t ht => by
    rw [Tryz.params14] at ht
    have hm : t ∈ [24, 24] := by simpa using Array.mem_of_getElem? ht
    have hall : ([24, 24].all fun u => !Tryz.prog.wantsStandIn u) = true := by kernel_rfl
    exact (show Tryz.prog.wantsStandIn t = false by simpa using List.all_eq_true.1 hall t hm)⟩)
  fnExactMinusForms_still
end Go.Proofs.YtpknebplcmgnkaaGreatDoor
