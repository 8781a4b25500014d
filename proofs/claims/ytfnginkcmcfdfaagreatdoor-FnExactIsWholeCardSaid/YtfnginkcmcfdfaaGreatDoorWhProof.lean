/- Texts of this claim in one file: FnExactIsWholeProof. -/
import Derived.Test.YtfnginkcmcfdfaaGreatDoorWh10
namespace Go.Proofs.YtfnginkcmcfdfaaGreatDoor
open Go.ChangeShapes Go.WideShapes Go.ChangeAt Go.RowKit Go.GL
theorem fnExactIsWhole_holds : Rows.FnExactIsWholeCardSaid :=
 Claim7.holds_tied_plain_at .later [] [.data, .data, .data] true (true, "b6589457b183390351fe447f52b09d75d14c69b6eccc4f6dda3a2d94e545a32d") false
  fnExactIsWhole_row (fun _ h => by cases h) (by kernel_rfl) (fun _ h => by cases h) fnExactIsWhole_row_tie rfl ⟨rfl, rfl⟩ seat_main rfl
  (fun f fn hf hfn => by
   obtain rfl : f = 5 := Option.some.inj ((show Tryz.prog.funcNamed "loop.example/g00868/laws.FnExactIsWhole" = some 5 by kernel_rfl).symm.trans hf) |>.symm
   obtain rfl : fn = Tryz.f5 := (Option.some.inj (Tryz.func5.symm.trans hfn)).symm
   exact ⟨by kernel_rfl, fun j t ht => by
    rw [Tryz.params5] at ht
    have hm : t ∈ [24] := by simpa using Array.mem_of_getElem? ht
    have hall : ([24].all fun u => !Tryz.prog.wantsStandIn u) = true := by kernel_rfl
    exact (show Tryz.prog.wantsStandIn t = false by simpa using List.all_eq_true.1 hall t hm)⟩)
  fnExactIsWhole_still
end Go.Proofs.YtfnginkcmcfdfaaGreatDoor
