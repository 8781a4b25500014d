/- Texts of this claim in one file: FnProofTextProof. -/
import Derived.Test.YtajkbplgbikgdaaGreatDoorRp11
namespace Go.Proofs.YtajkbplgbikgdaaGreatDoor
open Go.ChangeShapes Go.WideShapes Go.ChangeAt Go.RowKit Go.GL
theorem fnProofText_holds : Rows.FnProofTextCardSaid :=
 Claim7.holds_tied_plain_at .later [] [.data, .data, .data, .data, .sentinel, .sentinel, .pinned] true (true, "53b0b64773f00fd2ed2c6aec0a4789789daf509c599175de29b5bdd69c95c5e0") true
  mJ (fun _ h => by cases h) (by kernel_rfl) (fun _ h => by cases h) fnProofText_row_tie rfl ⟨rfl, rfl⟩ seat_main rfl
  (fun f fn hf hfn => by
   obtain rfl : f = 4 := Option.some.inj ((show Tryz.prog.funcNamed "loop.example/g00868/laws.FnProofText" = some 4 by kernel_rfl).symm.trans hf) |>.symm
   obtain rfl : fn = Tryz.f4 := (Option.some.inj (Tryz.func4.symm.trans hfn)).symm
   exact ⟨by kernel_rfl, fun j t ht => by
    rw [Tryz.params4] at ht
    have hm : t ∈ [22] := by simpa using Array.mem_of_getElem? ht
    have hall : ([22].all fun u => !Tryz.prog.wantsStandIn u) = true := by kernel_rfl
    exact (show Tryz.prog.wantsStandIn t = false by simpa using List.all_eq_true.1 hall t hm)⟩)
  tR
end Go.Proofs.YtajkbplgbikgdaaGreatDoor
