/- Texts of this claim in one file: FnExactIsNearProof. -/
import Derived.Test.YtakkjmlnmcemaaaGreatDoorIn10
namespace Go.Proofs.YtakkjmlnmcemaaaGreatDoor
open Go.ChangeShapes Go.WideShapes Go.ChangeAt Go.RowKit Go.GL
theorem fnExactIsNear_holds : Rows.FnExactIsNearCardSaid :=
 Claim7.holds_tied_plain_at .later [] [.data, .data, .data] true (true, "5b8eb7db8275d11e9a5d8b30f2561acef869a8daab065eeba205a08083cc091f") false
  mJ (fun _ h => by cases h) (by kernel_rfl) (fun _ h => by cases h) fnExactIsNear_row_tie rfl ⟨rfl, rfl⟩ seat_main rfl
  (fun f fn hf hfn => by
   obtain rfl : f = 6 := Option.some.inj ((show Tryz.prog.funcNamed "loop.example/g00868/laws.FnExactIsNear" = some 6 by kernel_rfl).symm.trans hf) |>.symm
   obtain rfl : fn = Tryz.f6 := (Option.some.inj (Tryz.func6.symm.trans hfn)).symm
   exact ⟨by kernel_rfl, fun j t ht => by
    rw [Tryz.params6] at ht
    have hm : t ∈ [24, 39] := by simpa using Array.mem_of_getElem? ht
    have hall : ([24, 39].all fun u => !Tryz.prog.wantsStandIn u) = true := by kernel_rfl
    exact (show Tryz.prog.wantsStandIn t = false by simpa using List.all_eq_true.1 hall t hm)⟩)
  tO
end Go.Proofs.YtakkjmlnmcemaaaGreatDoor
