/- Texts of this claim in one file: FnExactPositionPartsProof. -/
import Derived.Test.YtianphgdbfekdaaGreatDoorPp10
namespace Go.Proofs.YtianphgdbfekdaaGreatDoor
open Go.ChangeShapes Go.WideShapes Go.ChangeAt Go.RowKit Go.GL
theorem fnExactPositionParts_holds : Rows.FnExactPositionPartsCardSaid :=
 Claim7.holds_tied_plain_at .later [] [.data, .pinned] true (true, "a2b13d0727076521c806dde5af7f676b596717338450dacb51d699020e40f874") false
  fnExactPositionParts_row (fun _ h => by cases h) (by kernel_rfl) (fun _ h => by cases h) fnExactPositionParts_row_tie rfl ⟨rfl, rfl⟩ seat_main rfl
  (fun f fn hf hfn => by
   obtain rfl : f = 3 := Option.some.inj ((show Tryz.prog.funcNamed "loop.example/g00868/laws.FnExactPositionParts" = some 3 by kernel_rfl).symm.trans hf) |>.symm
   obtain rfl : fn = Tryz.f3 := (Option.some.inj (Tryz.func3.symm.trans hfn)).symm
   exact ⟨by kernel_rfl, fun j t ht => by
    rw [Tryz.params3] at ht
    have hm : t ∈ [9] := by simpa using Array.mem_of_getElem? ht
    have hall : ([9].all fun u => !Tryz.prog.wantsStandIn u) = true := by kernel_rfl
    exact (show Tryz.prog.wantsStandIn t = false by simpa using List.all_eq_true.1 hall t hm)⟩)
  fnExactPositionParts_still
end Go.Proofs.YtianphgdbfekdaaGreatDoor
