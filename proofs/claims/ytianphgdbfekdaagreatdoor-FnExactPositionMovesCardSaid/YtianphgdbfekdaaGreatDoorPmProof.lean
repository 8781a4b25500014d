/- Texts of this claim in one file: FnExactPositionMovesProof. -/
import Derived.Test.YtianphgdbfekdaaGreatDoorPm9
namespace Go.Proofs.YtianphgdbfekdaaGreatDoor
open Go.ChangeShapes Go.WideShapes Go.ChangeAt Go.RowKit Go.GL
theorem fnExactPositionMoves_holds : Rows.FnExactPositionMovesCardSaid :=
 Claim7.holds_tied_plain_at .later [] [.data, .data, .data, .data, .pinned] true (true, "a2b13d0727076521c806dde5af7f676b596717338450dacb51d699020e40f874") false
  fnExactPositionMoves_row (fun _ h => by cases h) (by kernel_rfl) (fun _ h => by cases h) fnExactPositionMoves_row_tie rfl ⟨rfl, rfl⟩ seat_main rfl
  (fun f fn hf hfn => by
   obtain rfl : f = 4 := Option.some.inj ((show Tryz.prog.funcNamed "loop.example/g00868/laws.FnExactPositionMoves" = some 4 by kernel_rfl).symm.trans hf) |>.symm
   obtain rfl : fn = Tryz.f4 := (Option.some.inj (Tryz.func4.symm.trans hfn)).symm
   exact ⟨by kernel_rfl, fun j t ht => by
    rw [Tryz.params4] at ht
    have hm : t ∈ [9, 4] := by simpa using Array.mem_of_getElem? ht
    have hall : ([9, 4].all fun u => !Tryz.prog.wantsStandIn u) = true := by kernel_rfl
    exact (show Tryz.prog.wantsStandIn t = false by simpa using List.all_eq_true.1 hall t hm)⟩)
  fnExactPositionMoves_still
end Go.Proofs.YtianphgdbfekdaaGreatDoor
