/- Texts of this claim in one file: FnExactMakeFormProof. -/
import Derived.Test.YtpknebplcmgnkaaGreatDoorKf10
namespace Go.Proofs.YtpknebplcmgnkaaGreatDoor
open Go.ChangeShapes Go.WideShapes Go.ChangeAt Go.RowKit Go.GL
theorem fnExactMakeForm_holds : Rows.FnExactMakeFormCardSaid :=
 Claim7.holds_tied_plain_at .later [] [.data, .data, .data] true (true, "26eb691d432efe9bdfa9202cfb56581ac29a39f5a1dd262bb5202f36a961cbca") false
  fnExactMakeForm_row (fun _ h => by cases h) (by kernel_rfl) (fun _ h => by cases h) fnExactMakeForm_row_tie rfl ⟨rfl, rfl⟩ seat_main rfl
  (fun f fn hf hfn => by
   obtain rfl : f = 13 := Option.some.inj ((show Tryz.prog.funcNamed "loop.example/g00868/laws.FnExactMakeForm" = some 13 by kernel_rfl).symm.trans hf) |>.symm
   obtain rfl : fn = Tryz.f13 := (Option.some.inj (Tryz.func13.symm.trans hfn)).symm
   exact ⟨by kernel_rfl, fun j t ht => by
    rw [Tryz.params13] at ht
    have hm : t ∈ [51, 51] := by simpa using Array.mem_of_getElem? ht
    have hall : ([51, 51].all fun u => !Tryz.prog.wantsStandIn u) = true := by kernel_rfl
    exact (show Tryz.prog.wantsStandIn t = false by simpa using List.all_eq_true.1 hall t hm)⟩)
  fnExactMakeForm_still
end Go.Proofs.YtpknebplcmgnkaaGreatDoor
