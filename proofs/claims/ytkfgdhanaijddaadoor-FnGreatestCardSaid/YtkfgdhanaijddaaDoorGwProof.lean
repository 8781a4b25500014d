/- Texts of this claim in one file: FnGreatestProof. -/
import Derived.Test.YtkfgdhanaijddaaDoorGw10
namespace Go.Proofs.YtkfgdhanaijddaaDoor
open Go.ChangeShapes Go.WideShapes Go.ChangeAt Go.RowKit Go.GL
theorem fnGreatest_holds : Rows.FnGreatestCardSaid :=
 Claim7.holds_tied_plain_at .later [] [.data, .data, .data] true (true, "7bff4c77e6785e83780cc1e43beb674e3af3ed333277f29e86881a83afd0eca4") false
  fnGreatest_row (fun _ h => by cases h) (by kernel_rfl) (fun _ h => by cases h) fnGreatest_row_tie rfl ⟨rfl, rfl⟩ seat_main rfl
  (fun f fn hf hfn => by
   obtain rfl : f = 5 := Option.some.inj ((show Tryd.prog.funcNamed "loop.example/g00868/laws.FnGreatest" = some 5 by kernel_rfl).symm.trans hf) |>.symm
   obtain rfl : fn = Tryd.f5 := (Option.some.inj (Tryd.func5.symm.trans hfn)).symm
   exact ⟨by kernel_rfl, fun j t ht => by
    rw [Tryd.params5] at ht
    have hm : t ∈ [22] := by simpa using Array.mem_of_getElem? ht
    have hall : ([22].all fun u => !Tryd.prog.wantsStandIn u) = true := by kernel_rfl
    exact (show Tryd.prog.wantsStandIn t = false by simpa using List.all_eq_true.1 hall t hm)⟩)
  fnGreatest_still
end Go.Proofs.YtkfgdhanaijddaaDoor
