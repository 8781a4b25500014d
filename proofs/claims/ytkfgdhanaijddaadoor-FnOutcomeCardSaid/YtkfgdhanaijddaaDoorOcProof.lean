/- Texts of this claim in one file: FnOutcomeProof. -/
import Derived.Test.YtkfgdhanaijddaaDoorOc9
namespace Go.Proofs.YtkfgdhanaijddaaDoor
open Go.ChangeShapes Go.WideShapes Go.ChangeAt Go.RowKit Go.GL
theorem fnOutcome_holds : Rows.FnOutcomeCardSaid :=
 Claim7.holds_tied_plain_at .later [] [.data, .data, .data] true (true, "7bff4c77e6785e83780cc1e43beb674e3af3ed333277f29e86881a83afd0eca4") false
  fnOutcome_row (fun _ h => by cases h) (by kernel_rfl) (fun _ h => by cases h) fnOutcome_row_tie rfl ⟨rfl, rfl⟩ seat_main rfl
  (fun f fn hf hfn => by
   obtain rfl : f = 4 := Option.some.inj ((show Tryd.prog.funcNamed "loop.example/g00868/laws.FnOutcome" = some 4 by kernel_rfl).symm.trans hf) |>.symm
   obtain rfl : fn = Tryd.f4 := (Option.some.inj (Tryd.func4.symm.trans hfn)).symm
   exact ⟨by kernel_rfl, fun j t ht => by
    rw [Tryd.params4] at ht
    have hm : t ∈ [22] := by simpa using Array.mem_of_getElem? ht
    have hall : ([22].all fun u => !Tryd.prog.wantsStandIn u) = true := by kernel_rfl
    exact (show Tryd.prog.wantsStandIn t = false by simpa using List.all_eq_true.1 hall t hm)⟩)
  fnOutcome_still
end Go.Proofs.YtkfgdhanaijddaaDoor
