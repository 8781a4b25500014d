/- Texts of this claim in one file: FnStopFormsProof. -/
import Derived.Test.YtdongckiecjbaaaGreatDoorSg10
namespace Go.Proofs.YtdongckiecjbaaaGreatDoor
open Go.ChangeShapes Go.WideShapes Go.ChangeAt Go.RowKit Go.GL
theorem fnStopForms_holds : Rows.FnStopFormsCardSaid :=
 Claim7.holds_tied_plain_at .later [] [.data, .data, .data] true (true, "5422724aa076ff6b21c2bdae20489dfb8090e15c8343305b3c8c12acc2c1d5c0") false
  rB (fun _ h => by cases h) (by kernel_rfl) (fun _ h => by cases h) fnStopForms_row_tie rfl ⟨rfl, rfl⟩ seat_main rfl
  (fun f fn hf hfn => by
   obtain rfl : f = 3 := Option.some.inj ((show Tryz.prog.funcNamed "loop.example/g00868/laws.FnStopForms" = some 3 by kernel_rfl).symm.trans hf) |>.symm
   obtain rfl : fn = Tryz.f3 := (Option.some.inj (Tryz.func3.symm.trans hfn)).symm
   exact ⟨by kernel_rfl, fun j t ht => by
    rw [Tryz.params3] at ht
    have hm : t ∈ [22] := by simpa using Array.mem_of_getElem? ht
    have hall : ([22].all fun u => !Tryz.prog.wantsStandIn u) = true := by kernel_rfl
    exact (show Tryz.prog.wantsStandIn t = false by simpa using List.all_eq_true.1 hall t hm)⟩)
  gN
end Go.Proofs.YtdongckiecjbaaaGreatDoor
