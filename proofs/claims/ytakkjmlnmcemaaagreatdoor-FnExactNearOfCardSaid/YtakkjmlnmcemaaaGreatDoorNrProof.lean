/- Texts of this claim in one file: FnExactNearOfProof. -/
import Derived.Test.YtakkjmlnmcemaaaGreatDoorNr10
namespace Go.Proofs.YtakkjmlnmcemaaaGreatDoor
open Go.ChangeShapes Go.WideShapes Go.ChangeAt Go.RowKit Go.GL
theorem fnExactNearOf_holds : Rows.FnExactNearOfCardSaid :=
 Claim7.holds_tied_plain_at .later [] [.data, .data, .data] true (true, "5b8eb7db8275d11e9a5d8b30f2561acef869a8daab065eeba205a08083cc091f") false
  mI (fun _ h => by cases h) (by kernel_rfl) (fun _ h => by cases h) fnExactNearOf_row_tie rfl ⟨rfl, rfl⟩ seat_main rfl
  (fun f fn hf hfn => by
   obtain rfl : f = 7 := Option.some.inj ((show Tryz.prog.funcNamed "loop.example/g00868/laws.FnExactNearOf" = some 7 by kernel_rfl).symm.trans hf) |>.symm
   obtain rfl : fn = Tryz.f7 := (Option.some.inj (Tryz.func7.symm.trans hfn)).symm
   exact ⟨by kernel_rfl, fun j t ht => by
    rw [Tryz.params7] at ht
    have hm : t ∈ [24] := by simpa using Array.mem_of_getElem? ht
    have hall : ([24].all fun u => !Tryz.prog.wantsStandIn u) = true := by kernel_rfl
    exact (show Tryz.prog.wantsStandIn t = false by simpa using List.all_eq_true.1 hall t hm)⟩)
  tO
end Go.Proofs.YtakkjmlnmcemaaaGreatDoor
