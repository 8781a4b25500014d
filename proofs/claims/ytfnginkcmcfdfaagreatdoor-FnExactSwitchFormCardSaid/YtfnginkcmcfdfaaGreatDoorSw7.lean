/- Texts of this claim in one file: FnExactSwitchFormRowF. -/
import Derived.Test.YtfnginkcmcfdfaaGreatDoorSw6
import Derived.Test.YtfnginkcmcfdfaaGreatDoorRows
import Derived.Test.YtfnginkcmcfdfaaGreatDoorTie
import Derived.Test.YtfnginkcmcfdfaaGreatDoorCards
import Derived.ProofKit
import Derived.LaidMore
import Derived.Stop.Joined
import Derived.SevenTiedAt
import Derived.OpenShut
import Derived.ShutString
import Derived.ChangeOld
import Derived.Below
namespace Go.Proofs.YtfnginkcmcfdfaaGreatDoor.fnExactSwitchFormFrame
open Go.ChangeShapes Go.WideShapes Go.ChangeAt Go.RowKit Go.GL
open Go.ChangeMaps (open_string shut_string)
theorem own : ownKnob Tryz.prog.godebug = none := by kernel_rfl
theorem laidOut : laidOutB Tryz.prog = true := by kernel_rfl
theorem door_met (os : Os) (args : Array Value) : laidMetH Tryz.prog [("math/bits.deBruijn32tab", Rows.laid_math_bits_deBruijn32tab), ("math/bits.deBruijn64tab", Rows.laid_math_bits_deBruijn64tab), ("internal/strconv.uint64pow10", Rows.laid_internal_strconv_uint64pow10)] ((World.doorLaid Tryz.prog 400 os).forCall (fun _ _ => 0) ⟨#[], args, []⟩).memory :=
 laidMetH_of_parts3 (fuel := 8) (laidMet_of_run' 8 (by kernel_rfl) (by kernel_rfl)) (by kernel_rfl) (by kernel_rfl)
set_option maxRecDepth 100000 in
theorem lifted (os : Os) (started : os.Started) (H : Type) (enc : TypeId × Value → H) :
  ReturnsInHanded {} Tryz.checked os 11 .any (fun w args => (Rows.fnExactSwitchFormSpec.pre enc Tryz.prog Tryz.f11 [] false w args ∧ laidMetH Tryz.prog [("math/bits.deBruijn32tab", Rows.laid_math_bits_deBruijn32tab), ("math/bits.deBruijn64tab", Rows.laid_math_bits_deBruijn64tab), ("internal/strconv.uint64pow10", Rows.laid_internal_strconv_uint64pow10)] w) ∧ sizedMet enc Tryz.prog Tryz.f11 (OpenSpec.ofChange Rows.fnExactSwitchFormSpec) false w args) (Rows.fnExactSwitchFormSpec.post enc Tryz.prog Tryz.f11 false true false false) := by
 refine returnsInHanded_of_change_and (C := Tryz.checked) (X := fun w _ => laidMetH Tryz.prog [("math/bits.deBruijn32tab", Rows.laid_math_bits_deBruijn32tab), ("math/bits.deBruijn64tab", Rows.laid_math_bits_deBruijn64tab), ("internal/strconv.uint64pow10", Rows.laid_internal_strconv_uint64pow10)] w) (fun _ _ _ hh h => h.of_heap hh) own started (by kernel_rfl) Tryz.func11
  (ChangeSpec.witness_shaped (enc := enc) (C := Tryz.checked) (os := os) (X := fun w _ => laidMetH Tryz.prog [("math/bits.deBruijn32tab", Rows.laid_math_bits_deBruijn32tab), ("math/bits.deBruijn64tab", Rows.laid_math_bits_deBruijn64tab), ("internal/strconv.uint64pow10", Rows.laid_internal_strconv_uint64pow10)] w) false (World.doorLaid Tryz.prog 400 os) #[.agg #[.int .i64 0, .int .i64 0], .agg #[.int .i64 0, .int .i64 0]] 8 rfl (World.shaped_of_RefB (by kernel_rfl) (by kernel_rfl)) (by kernel_rfl) (by kernel_rfl) (by kernel_rfl) (door_met os _)) ?_
 intro W base args ds gs before hval0 hW _ _ hL _
 have hval : ∀ (j : Nat) t v, Tryz.f11.params[j]? = some t → args[j]? = some v → Value.okWide Tryz.prog W .any base t v := hval0
 have hW' := hW
 obtain ⟨p, q, c, hV, rfl, hfz, hnd⟩ := hW
 have hA : DataW.TrodAll enc Tryz.prog W 0 (fun _ => true) true Tryz.f11.params.toList args.toList ds p := c
 rw [Tryz.params11] at hA hval
 obtain ⟨d, u, y, z, g, q0, hargs, rfl, rfl, i, k⟩ := trodAll_cons hA
 obtain ⟨f, aa, d1, ac, l, q1, rfl, rfl, rfl, n, o⟩ := trodAll_cons k
 obtain ⟨rfl, rfl, rfl⟩ := trodAll_nil o
 obtain rfl : args = #[d, f] := by cases args; simp_all
 obtain ⟨rfl, rfl⟩ := trodVars_none hV
 have a := i
 have r : ∀ x ∈ g, x.block < W.heap.size := by obtain ⟨m, hm⟩ := a; exact DataW.trod_lt m _ _ _ hm
 have b := n
 have s : ∀ x ∈ l, x.block < W.heap.size := by obtain ⟨m, hm⟩ := b; exact DataW.trod_lt m _ _ _ hm
 obtain ⟨a0, c0, rfl, w0, z0⟩ := arg_pair Tryz.underlying26 rfl rfl (by kernel_rfl) (by kernel_rfl) (by kernel_rfl) Tryz.underlying3 Tryz.underlying3 (hval 0 26 d rfl rfl) a
 obtain ⟨a1, c1, rfl, w1, z1⟩ := arg_pair Tryz.underlying26 rfl rfl (by kernel_rfl) (by kernel_rfl) (by kernel_rfl) Tryz.underlying3 Tryz.underlying3 (hval 1 26 f rfl rfl) b
 clear c hval0
 refine (LSW.law (Gall.pins W) ).mono fun e W' ⟨_, he, hx⟩ => ?_
 have bel := hx.below
 subst he
 exact ⟨_, rfl, _, _, _, [], _, [], hW', trodAll_mk1 (shut_bool Tryz.underlying4 _), (trodAll_cons_mk (Below.trod laidOut (by kernel_rfl) (of_decide_eq_true (by kernel_rfl)) a bel r) (trodAll_cons_mk (Below.trod laidOut (by kernel_rfl) (of_decide_eq_true (by kernel_rfl)) b bel s) trodAll_mk0)), rfl, bel.frame _, fun h => by cases h⟩
theorem over : Rows.fnExactSwitchFormRow.holds Tryz.pinned (OpenSpec.ofChange Rows.fnExactSwitchFormSpec) :=
 OpenClaim.holds_of_wide 11 Tryz.f11 rfl rfl rfl rfl rfl rfl rfl ⟨rfl, rfl, rfl, rfl, rfl⟩ rfl rfl rfl rfl rfl (by kernel_rfl) Tryz.func11 fnExactSwitchForm_closed
  (of_decide_eq_true (by kernel_rfl)) (by unfold Func.isWrapper; first | (rw [if_pos (by decide +kernel)]; kernel_rfl) | (rw [if_neg (by decide +kernel)]; exact ⟨rfl, rfl⟩))
  (fun os started H enc _ => lifted os started H enc)
end Go.Proofs.YtfnginkcmcfdfaaGreatDoor.fnExactSwitchFormFrame
namespace Go.Proofs.YtfnginkcmcfdfaaGreatDoor
theorem fnExactSwitchForm_row : Rows.FnExactSwitchFormSaid := fnExactSwitchFormFrame.over
end Go.Proofs.YtfnginkcmcfdfaaGreatDoor
