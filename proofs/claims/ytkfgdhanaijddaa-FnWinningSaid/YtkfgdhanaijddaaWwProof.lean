/- Texts of this claim in one file: FnWinningProof. -/
import Derived.Test.YtkfgdhanaijddaaWw5
import Derived.Test.YtkfgdhanaijddaaRows
import Derived.ProofKit
import Derived.OpenShut
import Derived.ShutString
import Derived.ChangeOld
import Derived.Below
namespace Go.Proofs.Ytkfgdhanaijddaa.fnWinningFrame
open Go.ChangeShapes Go.WideShapes Go.ChangeAt Go.RowKit Go.GL
open Go.ChangeMaps (open_string shut_string)
set_option linter.unusedVariables false
theorem own : ownKnob Try.prog.godebug = none := by kernel_rfl
theorem laidOut : laidOutB Try.prog = true := by kernel_rfl
set_option maxRecDepth 100000 in
theorem lifted (os : Os) (started : os.Started) (H : Type) (enc : TypeId × Value → H) :
  ReturnsInHanded {} Try.checked os 3 .any (Rows.fnWinningSpec.pre6 enc Try.prog Try.f3 Rows.fnWinningRow.domain false) (Rows.fnWinningSpec.post enc Try.prog Try.f3 false true false false) := by
 refine returnsInHanded_of_change (C := Try.checked) own started (by kernel_rfl) Try.func3
  (ChangeSpec.witness6 (enc := enc) (C := Try.checked) false ⟨#[], #[.slice none 0 0], []⟩ 8 (by kernel_rfl) (by kernel_rfl) (by kernel_rfl) (by kernel_rfl)) ?_
 intro W base args ds gs before hval0 hW hcnd _
 have hval : ∀ (j : Nat) t v, Try.f3.params[j]? = some t → args[j]? = some v → Value.okWide Try.prog W .any base t v := hval0
 have hW' := hW
 obtain ⟨p, q, b, hV, rfl, hfz, hnd⟩ := hW
 have hA : DataW.TrodAll enc Try.prog W 0 (fun _ => true) true Try.f3.params.toList args.toList ds p := b
 rw [Try.params3] at hA hval
 obtain ⟨c, l, n, o, d, q0, hargs, rfl, rfl, f, g⟩ := trodAll_cons hA
 obtain ⟨rfl, rfl, rfl⟩ := trodAll_nil g
 obtain rfl : args = #[c] := by cases args; simp_all
 obtain ⟨rfl, rfl⟩ := trodVars_none hV
 have a := f
 have i : ∀ x ∈ d, x.block < W.heap.size := by obtain ⟨m, hm⟩ := a; exact DataW.trod_lt m _ _ _ hm
 obtain ⟨r, k⟩ := arg_slice (E := eByte) Try.underlying22 (by kernel_rfl) (by decide) (reads_byte Try.underlying5) (hval 0 22 c rfl rfl) a
 clear b hval0
 refine (LWW.law (Gall.pins W) k).mono fun e W' ⟨_, he, hx⟩ => ?_
 have bel := hx.below
 subst he
 exact ⟨_, rfl, _, _, _, [], _, [], hW', trodAll_mk1 (shut_bool Try.underlying4 _), (trodAll_cons_mk (Below.trod laidOut (by kernel_rfl) (of_decide_eq_true (by kernel_rfl)) a bel i) trodAll_mk0), rfl, bel.frame _, fun h => by cases h⟩
theorem over : Rows.fnWinningRow.holds Try.pinned (OpenSpec.ofChange Rows.fnWinningSpec) :=
 OpenClaim.holds_of_wide 3 Try.f3 rfl rfl rfl rfl rfl rfl rfl ⟨rfl, rfl, rfl, rfl, rfl⟩ rfl rfl rfl rfl rfl (by kernel_rfl) Try.func3 fnWinning_closed
  (of_decide_eq_true (by kernel_rfl)) (by unfold Func.isWrapper; first | (rw [if_pos (by decide +kernel)]; kernel_rfl) | (rw [if_neg (by decide +kernel)]; exact ⟨rfl, rfl⟩))
  (fun os started H enc _ => lifted os started H enc)
end Go.Proofs.Ytkfgdhanaijddaa.fnWinningFrame
namespace Go.Proofs.Ytkfgdhanaijddaa
theorem fnWinning_holds : Rows.FnWinningSaid := fnWinningFrame.over
end Go.Proofs.Ytkfgdhanaijddaa
