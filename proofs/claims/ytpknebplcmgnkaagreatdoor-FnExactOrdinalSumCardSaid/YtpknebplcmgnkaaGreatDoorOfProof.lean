/- Texts of this claim in one file: FnExactOrdinalSumProof. -/
import Derived.Test.YtpknebplcmgnkaaGreatDoorOf10
namespace Go.Proofs.YtpknebplcmgnkaaGreatDoor
open Go.ChangeShapes Go.WideShapes Go.ChangeAt Go.RowKit Go.GL
theorem fnExactOrdinalSum_holds : Rows.FnExactOrdinalSumCardSaid :=
 Claim7.holds_tied_plain_at .later [] [.data, .data, .data] true (true, "26eb691d432efe9bdfa9202cfb56581ac29a39f5a1dd262bb5202f36a961cbca") false
  fnExactOrdinalSum_row (fun _ h => by cases h) (by kernel_rfl) (fun _ h => by cases h) fnExactOrdinalSum_row_tie rfl ⟨rfl, rfl⟩ seat_main rfl
  (fun f fn hf hfn => by
   obtain rfl : f = 11 := Option.some.inj ((show Tryz.prog.funcNamed "loop.example/g00868/laws.FnExactOrdinalSum" = some 11 by kernel_rfl).symm.trans hf) |>.symm
   obtain rfl : fn = Tryz.f11 := (Option.some.inj (Tryz.func11.symm.trans hfn)).symm
   exact ⟨by kernel_rfl, fun j t ht => by
    rw [Tryz.params11] at ht
    have hm : t ∈ [24, 24] := by simpa using Array.mem_of_getElem? ht
    have hall : ([24, 24].all fun u => !Tryz.prog.wantsStandIn u) = true := by kernel_rfl
    exact (show Tryz.prog.wantsStandIn t = false by simpa using List.all_eq_true.1 hall t hm)⟩)
  fnExactOrdinalSum_still
end Go.Proofs.YtpknebplcmgnkaaGreatDoor
