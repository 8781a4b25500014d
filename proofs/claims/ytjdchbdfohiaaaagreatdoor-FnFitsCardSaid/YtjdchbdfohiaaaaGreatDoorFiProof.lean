/- Texts of this claim in one file: FnFitsProof. -/
import Derived.Test.YtjdchbdfohiaaaaGreatDoorFi10
namespace Go.Proofs.YtjdchbdfohiaaaaGreatDoor
open Go.ChangeShapes Go.WideShapes Go.ChangeAt Go.RowKit Go.GL
theorem fnFits_holds : Rows.FnFitsCardSaid :=
 Claim7.holds_tied_plain_at .later [] [.data, .data, .data] true (true, "54adc1c2e1fa2f536a9a0fa2cdbe9196a3d291d88a86f7feec701dccff449fd8") false
  fnFits_row (fun _ h => by cases h) (by kernel_rfl) (fun _ h => by cases h) fnFits_row_tie rfl ⟨rfl, rfl⟩ seat_main rfl
  (fun f fn hf hfn => by
   obtain rfl : f = 3 := Option.some.inj ((show Tryz.prog.funcNamed "loop.example/g00868/laws.FnFits" = some 3 by kernel_rfl).symm.trans hf) |>.symm
   obtain rfl : fn = Tryz.f3 := (Option.some.inj (Tryz.func3.symm.trans hfn)).symm
   exact ⟨by kernel_rfl, fun j t ht => by
    rw [Tryz.params3] at ht
    have hm : t ∈ [22] := by simpa using Array.mem_of_getElem? ht
    have hall : ([22].all fun u => !Tryz.prog.wantsStandIn u) = true := by kernel_rfl
    exact (show Tryz.prog.wantsStandIn t = false by simpa using List.all_eq_true.1 hall t hm)⟩)
  fnFits_still
end Go.Proofs.YtjdchbdfohiaaaaGreatDoor
