/- Texts of this claim. -/
import Derived.Test.YtdleojbknkbpiaaGreatDoorFb10
namespace Go.Proofs.YtdleojbknkbpiaaGreatDoor
open Go.ChangeShapes Go.WideShapes Go.ChangeAt Go.RowKit Go.GL
theorem fnBent_holds : Rows.FnBentCardSaid :=
 Claim7.holds_tied_plain_at .later [] [.data, .data, .data] true (true, "caa729c35e40c999fe83e7d02e6b92b454c12b546348ca69283a37d9928a945d") false
  fnBent_row (fun _ h => by cases h) (by kernel_rfl) (fun _ h => by cases h) fnBent_row_tie rfl ⟨rfl, rfl⟩ seat_main rfl
  (fun f fn hf hfn => by
   obtain rfl : f = 3 := Option.some.inj ((show Tryz.prog.funcNamed "loop.example/g00868/laws.FnBent" = some 3 by kernel_rfl).symm.trans hf) |>.symm
   obtain rfl : fn = Tryz.f3 := (Option.some.inj (Tryz.func3.symm.trans hfn)).symm
   exact ⟨by kernel_rfl, fun j t ht => by
    rw [Tryz.params3] at ht
    have hm : t ∈ [22] := by simpa using Array.mem_of_getElem? ht
    have hall : ([22].all fun u => !Tryz.prog.wantsStandIn u) = true := by kernel_rfl
    exact (show Tryz.prog.wantsStandIn t = false by simpa using List.all_eq_true.1 hall t hm)⟩)
  sN
end Go.Proofs.YtdleojbknkbpiaaGreatDoor
