/- Texts of this claim in one file: FnExactNegFormProof. -/
import Derived.Test.YtpknebplcmgnkaaGreatDoorNf10
namespace Go.Proofs.YtpknebplcmgnkaaGreatDoor
open Go.ChangeShapes Go.WideShapes Go.ChangeAt Go.RowKit Go.GL
theorem fnExactNegForm_holds : Rows.FnExactNegFormCardSaid :=
 Claim7.holds_tied_plain_at .later [] [.data, .data, .data] true (true, "26eb691d432efe9bdfa9202cfb56581ac29a39f5a1dd262bb5202f36a961cbca") false
  fnExactNegForm_row (fun _ h => by cases h) (by kernel_rfl) (fun _ h => by cases h) fnExactNegForm_row_tie rfl ⟨rfl, rfl⟩ seat_main rfl
  (fun f fn hf hfn => by
   obtain rfl : f = 10 := Option.some.inj ((show Tryz.prog.funcNamed "loop.example/g00868/laws.FnExactNegForm" = some 10 by kernel_rfl).symm.trans hf) |>.symm
   obtain rfl : fn = Tryz.f10 := (Option.some.inj (Tryz.func10.symm.trans hfn)).symm
   exact ⟨by kernel_rfl, fun j t ht => by
    rw [Tryz.params10] at ht
    have hm : t ∈ [24] := by simpa using Array.mem_of_getElem? ht
    have hall : ([24].all fun u => !Tryz.prog.wantsStandIn u) = true := by kernel_rfl
    exact (show Tryz.prog.wantsStandIn t = false by simpa using List.all_eq_true.1 hall t hm)⟩)
  fnExactNegForm_still
end Go.Proofs.YtpknebplcmgnkaaGreatDoor
