/- Texts of this claim in one file: FnExactUpsFormRowF. -/
import Derived.Test.YtfnginkcmcfdfaaGreatDoorUs6
import Derived.Test.YtfnginkcmcfdfaaGreatDoorRows
import Derived.Test.YtfnginkcmcfdfaaGreatDoorTie
import Derived.Test.YtfnginkcmcfdfaaGreatDoorCards
import Derived.ProofKit
import Derived.LaidMore
import Derived.Stop.Joined
import Derived.SevenTiedAt
import Derived.OpenShut
import Derived.ShutString
import Derived.ChangeOld
import Derived.Below
namespace Go.Proofs.YtfnginkcmcfdfaaGreatDoor.fnExactUpsFormFrame
open Go.ChangeShapes Go.WideShapes Go.ChangeAt Go.RowKit Go.GL
open Go.ChangeMaps (open_string shut_string)
theorem own : ownKnob Tryz.prog.godebug = none := by kernel_rfl
theorem laidOut : laidOutB Tryz.prog = true := by kernel_rfl
theorem door_met (os : Os) (args : Array Value) : laidMetH Tryz.prog [("math/bits.deBruijn32tab", Rows.laid_math_bits_deBruijn32tab), ("math/bits.deBruijn64tab", Rows.laid_math_bits_deBruijn64tab), ("internal/strconv.uint64pow10", Rows.laid_internal_strconv_uint64pow10)] ((World.doorLaid Tryz.prog 400 os).forCall (fun _ _ => 0) ⟨#[], args, []⟩).memory :=
 laidMetH_of_parts3 (fuel := 8) (laidMet_of_run' 8 (by kernel_rfl) (by kernel_rfl)) (by kernel_rfl) (by kernel_rfl)
set_option maxRecDepth 100000 in
theorem lifted (os : Os) (started : os.Started) (H : Type) (enc : TypeId × Value → H) :
  ReturnsInHanded {} Tryz.checked os 10 .any (fun w args => (Rows.fnExactUpsFormSpec.pre enc Tryz.prog Tryz.f10 [] false w args ∧ laidMetH Tryz.prog [("math/bits.deBruijn32tab", Rows.laid_math_bits_deBruijn32tab), ("math/bits.deBruijn64tab", Rows.laid_math_bits_deBruijn64tab), ("internal/strconv.uint64pow10", Rows.laid_internal_strconv_uint64pow10)] w) ∧ sizedMet enc Tryz.prog Tryz.f10 (OpenSpec.ofChange Rows.fnExactUpsFormSpec) false w args) (Rows.fnExactUpsFormSpec.post enc Tryz.prog Tryz.f10 false true false false) := by
 refine returnsInHanded_of_change_and (C := Tryz.checked) (X := fun w _ => laidMetH Tryz.prog [("math/bits.deBruijn32tab", Rows.laid_math_bits_deBruijn32tab), ("math/bits.deBruijn64tab", Rows.laid_math_bits_deBruijn64tab), ("internal/strconv.uint64pow10", Rows.laid_internal_strconv_uint64pow10)] w) (fun _ _ _ hh h => h.of_heap hh) own started (by kernel_rfl) Tryz.func10
  (ChangeSpec.witness_shaped (enc := enc) (C := Tryz.checked) (os := os) (X := fun w _ => laidMetH Tryz.prog [("math/bits.deBruijn32tab", Rows.laid_math_bits_deBruijn32tab), ("math/bits.deBruijn64tab", Rows.laid_math_bits_deBruijn64tab), ("internal/strconv.uint64pow10", Rows.laid_internal_strconv_uint64pow10)] w) false (World.doorLaid Tryz.prog 400 os) #[.int .i64 0, .int .i64 0] 8 rfl (World.shaped_of_RefB (by kernel_rfl) (by kernel_rfl)) (by kernel_rfl) (by kernel_rfl) (by kernel_rfl) (door_met os _)) ?_
 intro W base args ds gs before hval0 hW _ _ hL _
 have hval : ∀ (j : Nat) t v, Tryz.f10.params[j]? = some t → args[j]? = some v → Value.okWide Tryz.prog W .any base t v := hval0
 have hW' := hW
 obtain ⟨p, q, a, hV, rfl, hfz, hnd⟩ := hW
 have hA : DataW.TrodAll enc Tryz.prog W 0 (fun _ => true) true Tryz.f10.params.toList args.toList ds p := a
 rw [Tryz.params10] at hA hval
 obtain ⟨b, u, y, z, k, q0, hargs, rfl, rfl, c, l⟩ := trodAll_cons hA
 obtain ⟨d, aa, d1, ac, n, q1, rfl, rfl, rfl, f, o⟩ := trodAll_cons l
 obtain ⟨rfl, rfl, rfl⟩ := trodAll_nil o
 obtain rfl : args = #[b, d] := by cases args; simp_all
 obtain ⟨rfl, rfl⟩ := trodVars_none hV
 have g := c
 have r : ∀ x ∈ k, x.block < W.heap.size := by obtain ⟨m, hm⟩ := g; exact DataW.trod_lt m _ _ _ hm
 have i := f
 have s : ∀ x ∈ n, x.block < W.heap.size := by obtain ⟨m, hm⟩ := i; exact DataW.trod_lt m _ _ _ hm
 obtain ⟨a0, rfl, rfl, rfl, _⟩ := open_int Tryz.underlying3 (hval 0 3 b rfl rfl) c
 obtain ⟨a1, rfl, rfl, rfl, _⟩ := open_int Tryz.underlying3 (hval 1 3 d rfl rfl) f
 clear a hval0
 refine (LUP.law (Gall.pins W) ).mono fun e W' ⟨_, he, hx⟩ => ?_
 have bel := hx.below
 subst he
 exact ⟨_, rfl, _, _, _, [], _, [], hW', trodAll_mk1 (shut_bool Tryz.underlying4 _), (trodAll_cons_mk (Below.trod laidOut (by kernel_rfl) (of_decide_eq_true (by kernel_rfl)) g bel r) (trodAll_cons_mk (Below.trod laidOut (by kernel_rfl) (of_decide_eq_true (by kernel_rfl)) i bel s) trodAll_mk0)), rfl, bel.frame _, fun h => by cases h⟩
theorem over : Rows.fnExactUpsFormRow.holds Tryz.pinned (OpenSpec.ofChange Rows.fnExactUpsFormSpec) :=
 OpenClaim.holds_of_wide 10 Tryz.f10 rfl rfl rfl rfl rfl rfl rfl ⟨rfl, rfl, rfl, rfl, rfl⟩ rfl rfl rfl rfl rfl (by kernel_rfl) Tryz.func10 fnExactUpsForm_closed
  (of_decide_eq_true (by kernel_rfl)) (by unfold Func.isWrapper; first | (rw [if_pos (by decide +kernel)]; kernel_rfl) | (rw [if_neg (by decide +kernel)]; exact ⟨rfl, rfl⟩))
  (fun os started H enc _ => lifted os started H enc)
end Go.Proofs.YtfnginkcmcfdfaaGreatDoor.fnExactUpsFormFrame
namespace Go.Proofs.YtfnginkcmcfdfaaGreatDoor
theorem fnExactUpsForm_row : Rows.FnExactUpsFormSaid := fnExactUpsFormFrame.over
end Go.Proofs.YtfnginkcmcfdfaaGreatDoor
