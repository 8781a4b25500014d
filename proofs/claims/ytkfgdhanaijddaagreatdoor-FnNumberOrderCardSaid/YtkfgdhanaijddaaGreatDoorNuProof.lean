/- Texts of this claim in one file: FnNumberOrderProof. -/
import Derived.Test.YtkfgdhanaijddaaGreatDoorNu10
namespace Go.Proofs.YtkfgdhanaijddaaGreatDoor
open Go.ChangeShapes Go.WideShapes Go.ChangeAt Go.RowKit Go.GL
theorem fnNumberOrder_holds : Rows.FnNumberOrderCardSaid :=
 Claim7.holds_tied_plain_at .later [] [.data, .data, .data] true (true, "60dc7040ae92ec386c6079771626270607e9da80e776a8905a20b69bfd17a1cd") false
  fnNumberOrder_row (fun _ h => by cases h) (by kernel_rfl) (fun _ h => by cases h) fnNumberOrder_row_tie rfl ⟨rfl, rfl⟩ seat_main rfl
  (fun f fn hf hfn => by
   obtain rfl : f = 7 := Option.some.inj ((show Tryz.prog.funcNamed "loop.example/g00868/laws.FnNumberOrder" = some 7 by kernel_rfl).symm.trans hf) |>.symm
   obtain rfl : fn = Tryz.f7 := (Option.some.inj (Tryz.func7.symm.trans hfn)).symm
   exact ⟨by kernel_rfl, fun j t ht => by
    rw [Tryz.params7] at ht
    have hm : t ∈ [22] := by simpa using Array.mem_of_getElem? ht
    have hall : ([22].all fun u => !Tryz.prog.wantsStandIn u) = true := by kernel_rfl
    exact (show Tryz.prog.wantsStandIn t = false by simpa using List.all_eq_true.1 hall t hm)⟩)
  fnNumberOrder_still
end Go.Proofs.YtkfgdhanaijddaaGreatDoor
