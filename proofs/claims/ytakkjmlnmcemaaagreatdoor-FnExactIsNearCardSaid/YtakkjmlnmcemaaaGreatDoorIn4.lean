/- Texts of this claim. -/
import Derived.Test.YtakkjmlnmcemaaaGreatDoorIn3
import Derived.Test.YtakkjmlnmcemaaaGreatDoorChecked
import Derived.Shelf.Sort.Plain
import Derived.Ground.Names2Prog
import Derived.Shelf.Slices.CompactI
import Derived.Shelf.Slices.In.SortNone
import Derived.Test.YtakkjmlnmcemaaaGreatDoorProg
namespace Go.GL
open Go Go.RowKit
noncomputable def btT (p : Nat) (u : Int) : Int := if p < 16 then 2 * u + 1 else 0
noncomputable def btP (p : Nat) : Int := if p < 16 then (p : Int) + 1 else 17
variable {A m u t z y : Int} {p a b : Nat}
theorem shr_eq {pw : Nat} (h : pw ≤ 24) : Int.fdiv A (2 ^ (min (24 - (pw : Int)).toNat 64)) = A / ((2 ^ (24 - pw) : Nat) : Int) := by
 rw [show (24 - (pw : Int)).toNat = 24 - pw by omega, Nat.min_eq_left (by omega), Int.fdiv_eq_ediv_of_nonneg _ (Int.le_of_lt (Int.pow_pos (by decide))), Int.natCast_pow]; rfl
theorem sQ (k : Nat) : (2 : Int) ^ k = ((2 ^ k : Nat) : Int) := by rw [Int.natCast_pow]; rfl
theorem shl_eq {pw : Nat} (h : pw ≤ 24) : (2 : Int) ^ (24 - (pw : Int)).toNat = ((2 ^ (24 - pw) : Nat) : Int) := by
 rw [show (24 - (pw : Int)).toNat = 24 - pw by omega, sQ]
theorem div_up (hm : 0 < m) : A < (A / m + 1) * m ∧ (A / m + 1) * m ≤ A + m := by
 have h1 := Int.mul_ediv_add_emod A m
 have h2 := Int.emod_lt_of_pos A hm
 have h3 := Int.emod_nonneg A (Int.ne_of_gt hm)
 rw [Int.add_mul, Int.one_mul, Int.mul_comm (A / m)]
 omega
theorem rJ (k : Nat) : (0 : Int) < ((2 ^ k : Nat) : Int) := by have := Nat.two_pow_pos k; omega
theorem bt_top {pw : Nat} (hA : 0 ≤ A) (h : pw ≤ 24) : (0 ≤ Int.fdiv A (2 ^ (min (24 - (pw : Int)).toNat 64)) ∧ Int.fdiv A (2 ^ (min (24 - (pw : Int)).toNat 64)) ≤ A) ∧ 0 ≤ (Int.fdiv A (2 ^ (min (24 - (pw : Int)).toNat 64)) + 1) * 2 ^ (24 - (pw : Int)).toNat ∧ (Int.fdiv A (2 ^ (min (24 - (pw : Int)).toNat 64)) + 1) * 2 ^ (24 - (pw : Int)).toNat ≤ A + 16777216 := by
 rw [shr_eq h, shl_eq h]
 have h1 := div_up (A := A) (rJ (24 - pw))
 have h2 : 2 ^ (24 - pw) ≤ 2 ^ 24 := Nat.pow_le_pow_right (by decide) (by omega)
 have h3 := Int.ediv_nonneg hA (Int.le_of_lt (rJ (24 - pw)))
 have h4 : A / ((2 ^ (24 - pw) : Nat) : Int) ≤ A := Int.ediv_le_self _ hA
 exact ⟨⟨h3, h4⟩, by omega, by omega⟩
theorem mult_up {c : Int} (hm : 0 < m) (h : u * m < c * m) : (u + 1) * m ≤ c * m :=
 Int.mul_le_mul_of_nonneg_right (by have := Int.lt_of_mul_lt_mul_right h (Int.le_of_lt hm); omega) (Int.le_of_lt hm)
theorem bt_low {pw : Nat} (h : pw ≤ p) (hp : p ≤ 24) : ¬ (Int.fdiv (u * 2 ^ (24 - p)) (2 ^ (min (24 - (pw : Int)).toNat 64)) + 1) * 2 ^ (24 - (pw : Int)).toNat < (u + 1) * 2 ^ (24 - p) := by
 rw [shr_eq (by omega), shl_eq (by omega), sQ]
 have h1 := (div_up (A := u * ((2 ^ (24 - p) : Nat) : Int)) (rJ (24 - pw))).1
 have e : ((2 ^ (24 - pw) : Nat) : Int) = ((2 ^ (p - pw) : Nat) : Int) * ((2 ^ (24 - p) : Nat) : Int) := by
  rw [← Int.natCast_mul, ← Nat.pow_add, show p - pw + (24 - p) = 24 - pw by omega]
 generalize hq : u * ((2 ^ (24 - p) : Nat) : Int) / ((2 ^ (24 - pw) : Nat) : Int) = c at h1 ⊢
 rw [e, ← Int.mul_assoc] at h1 ⊢
 have := mult_up (rJ (24 - p)) h1
 omega
theorem bt_hit (hp : p + 1 ≤ 24) : Int.fdiv (u * 2 ^ (24 - p)) (2 ^ (min (24 - ((p + 1 : Nat) : Int)).toNat 64)) + 1 = 2 * u + 1 ∧ (2 * u + 1) * 2 ^ (24 - ((p + 1 : Nat) : Int)).toNat < (u + 1) * 2 ^ (24 - p) := by
 rw [shr_eq hp, shl_eq hp, sQ]
 have e : ((2 ^ (24 - p) : Nat) : Int) = 2 * ((2 ^ (24 - (p + 1)) : Nat) : Int) := by
  rw [show 24 - p = (24 - (p + 1)) + 1 by omega, Nat.pow_succ, Nat.mul_comm, Int.natCast_mul]; rfl
 have hm := rJ (24 - (p + 1))
 rw [e]
 generalize ((2 ^ (24 - (p + 1)) : Nat) : Int) = m at hm ⊢
 constructor
 ·rw [← Int.mul_assoc, Int.mul_ediv_cancel _ (Int.ne_of_gt hm)]; omega
 ·rw [← Int.mul_assoc]
  exact Int.mul_lt_mul_of_pos_right (by omega) hm
theorem bt_n (hp : p ≤ 24) : ¬ scI 24 (Int.fdiv (u * 2 ^ (24 - p)) (2 ^ (min (24 : Int).toNat 64)) + 1) 0 < (u + 1) * 2 ^ (24 - p) := by
 have := bt_low (u := u) (pw := 0) (cI p) hp
 exact this
theorem scI_zero : scI 24 0 0 = 0 := by unfold scI; exact Int.zero_mul _
theorem scI_neg : scI 24 (-t) z = -scI 24 t z := by unfold scI; exact Int.neg_mul _ _
theorem mul_nn {k : Nat} (h : 0 ≤ u) : 0 ≤ u * 2 ^ k := Int.mul_nonneg h (Int.le_of_lt (Int.pow_pos (by decide)))
theorem mul_ps {k : Nat} (h : 0 < u) : 0 < u * 2 ^ k := Int.mul_pos h (Int.pow_pos (by decide))
theorem scI_zero_iff {s : Int} (h : scI 24 s y = 0) : s = 0 := by
 unfold scI at h
 rcases Int.mul_eq_zero.1 h with h | h
 ·exact h
 ·exact absurd h (Int.ne_of_gt (Int.pow_pos (by decide)))
theorem floor_lim (ht : -1000000 ≤ t ∧ t ≤ 1000000) (hz : 0 ≤ z) : Int.fdiv (scI 24 t z) (2 ^ (min (24 : Int).toNat 64)) ≤ 1000000 := by
 rw [show min (24 : Int).toNat 64 = 24 from rfl, Int.fdiv_eq_ediv_of_nonneg _ (by decide)]
 refine Int.ediv_le_of_le_mul (by decide) ?_
 unfold scI
 have h1 : (2 : Nat) ^ (24 - z).toNat ≤ 2 ^ 24 := Nat.pow_le_pow_right (by decide) (by omega)
 have h2 : (t * 2 ^ (24 - z).toNat).natAbs ≤ 1000000 * 2 ^ 24 := by
  rw [Int.natAbs_mul, Int.natAbs_pow]
  exact Nat.mul_le_mul (by omega) h1
 omega
theorem scI_lim6 (ht : -1000000 ≤ t ∧ t ≤ 1000000) (hz : 0 ≤ z) : (scI 24 t z).natAbs ≤ 16777216000000 := by
 unfold scI
 have h1 : (2 : Nat) ^ (24 - z).toNat ≤ 2 ^ 24 := Nat.pow_le_pow_right (by decide) (by omega)
 rw [Int.natAbs_mul, Int.natAbs_pow]
 exact Nat.mul_le_mul (show t.natAbs ≤ 1000000 by omega) h1
theorem u_lim (hA : scI 24 t z = u * 2 ^ (24 - p)) (ht : -1000000 ≤ t ∧ t ≤ 1000000) (hz : 0 ≤ z) (hp : p ≤ 16) : u.natAbs ≤ 65536000000 := by
 have h1 := scI_lim6 ht hz
 rw [hA, Int.natAbs_mul, Int.natAbs_pow] at h1
 have h2 : 2 ^ 8 ≤ (2 : Int).natAbs ^ (24 - p) := Nat.pow_le_pow_right (by decide) (by omega)
 have h3 := Nat.mul_le_mul_left u.natAbs h2
 omega
theorem bt_lim (p : Nat) (u : Int) : (btT p u).natAbs ≤ 2 * u.natAbs + 1 := by
 unfold btT
 split <;> omega
theorem bt_neg (p : Nat) (u : Int) : -btT p (-(u + 1)) = btT p u := by
 unfold btT
 split <;> omega
theorem GoodD.neg (h : GoodD t z) : GoodD (-t) z := ⟨by have := h.top; omega, h.pow, h.odd.elim cF fun e => cG fun x => e ((nO t).2 (by have := (nO (-t)).1 x; omega))⟩
theorem good_zero (h : GoodD 0 y) : y = 0 := h.odd.elim id fun e => absurd rfl e
theorem sg_ar {ns : List Nd} (h : SG ns) : Ar ns (births ns) := by
 have := (Ar.empty.add (fs := ns) h.wf.ok (by have := h.wf.ok.len; simpa using this)).ar
 rw [fK h.wf h.diff] at this
 exact this
theorem sg_pool {ns : List Nd} (h : SG ns) : PoolOk (bkq ns (births ns)) := bkq_ok (sg_ar h)
theorem canon_sub {c x : Nat} (h : CanonG c) (hs : SubG c x) : CanonG x := by
 induction hs with
 | self => exact h
 | left _ hl ih => exact ih.left hl
 | right _ hl ih => exact ih.right hl
structure VsOk (ns : List Nd) (vs : List (Int × Int)) (bs : List Bool) (k : Nat) : Prop where
 vl : vs.length = k
 bl : bs.length = k
 v : ∀ i, i < k → vs.getD i default = (vgT (den ns i), vgP (den ns i))
 b : ∀ i, i < k → bs.getD i false = vgB (den ns i)
theorem VsOk.start {ns : List Nd} : VsOk ns [] [] 0 := ⟨rfl, rfl, fun i hi => absurd hi (cK i), fun i hi => absurd hi (cK i)⟩
theorem VsOk.next {ns : List Nd} {vs : List (Int × Int)} {bs : List Bool} {k : Nat} (h : VsOk ns vs bs k) : VsOk ns (vs ++ [(vgT (den ns k), vgP (den ns k))]) (bs ++ [vgB (den ns k)]) (k + 1) := by
 have h1 := h.vl
 have h2 := h.bl
 refine ⟨by simp [h1], by simp [h2], fun i hi => ?_, fun i hi => ?_⟩
 ·by_cases he : i = k
  ·subst he; rw [← h1]; simp [List.getD]
  ·rw [yX (by omega)]; exact h.v i (by omega)
 ·by_cases he : i = k
  ·subst he; rw [← h2]; simp [List.getD]
  ·rw [yX (by omega)]; exact h.b i (by omega)
structure NodeOk (ns : List Nd) (k : Nat) (xs ys : List Int) : Prop where
 num : NumD (den ns k) ↔ (xs.length ≤ 1 ∧ ys.length ≤ 1) ∧ (∀ x, x < xs.length → NumD (den ns (xs.getD x 0).toNat)) ∧ (∀ x, x < ys.length → NumD (den ns (ys.getD x 0).toNat)) ∧
  (0 < xs.length → 0 < ys.length → decP (geG (den ns (xs.getD 0 0).toNat) (den ns (ys.getD 0 0).toNat)) = false)
 l : xs.length ≤ 1 → 0 < xs.length → ys.length = 0 → den ns k = mkG [den ns (xs.getD 0 0).toNat] []
 r : ys.length ≤ 1 → 0 < ys.length → xs.length = 0 → den ns k = mkG [] [den ns (ys.getD 0 0).toNat]
 lr : (xs.length ≤ 1 ∧ ys.length ≤ 1) → 0 < xs.length → 0 < ys.length → den ns k = mkG [den ns (xs.getD 0 0).toNat] [den ns (ys.getD 0 0).toNat]
 nn : xs.length = 0 → ys.length = 0 → den ns k = mkG [] []
theorem node_ok {c : Nat} {ns : List Nd} (hf : IsForm c ns) (hc : CanonG c) {k : Nat} (hk : k < ns.length) {xs ys : List Int} (hx : xs = (ns.getD k default).l) (hy : ys = (ns.getD k default).r) : NodeOk ns k xs ys := by
 subst hx; subst hy
 have hok := sg_pool hf.1
 have hp : PlaceOk (bkq ns (births ns)) (k : Int) := ⟨Int.natCast_nonneg k, by show (k : Int) < (ns.length : Int); omega⟩
 have hck : CanonG (pd (bkq ns (births ns)) (k : Int)) := by
  refine canon_sub hc ?_
  rw [← hf.2]
  exact (sg_sub hf.1).1 ⟨k, hk, rfl⟩
 exact ⟨sT hok hp hck, pd_l hok hp, pd_r hok hp, pd_lr hok hp, pd_nn hok hp⟩
theorem pM (ha : vgB a = true) (hb : vgB b = true) : scI 24 (vgT a) (vgP a) < scI 24 (vgT b) (vgP b) ↔ ¬ geG a b := by
 have e1 : scI 24 (vgT a) (vgP a) = scD 24 a := sc_I 24 a
 have e2 : scI 24 (vgT b) (vgP b) = scD 24 b := sc_I 24 b
 have key : ∀ g, vgB g = true → g = dyG 24 (scD 24 g) := fun g hg => by
  obtain ⟨p, t, h1, h2, h3, h4⟩ := pJ hg
  have hp := h1.pow
  have := kS (24 - p) p t
  rw [show p + (24 - p) = 24 by omega] at this
  unfold scD
  rw [h3, h4, Int.toNat_natCast, this]; exact h2
 rw [e1, e2]
 generalize hx : scD 24 a = x
 generalize hy : scD 24 b = y
 have ka := key a ha
 have kb := key b hb
 rw [hx] at ka
 rw [hy] at kb
 rw [ka, kb, dy_ge]
 omega
theorem bt_val (h : NumD (mkG [a] [b])) (ha : vgB a = true) (hb : vgB b = true) : ∃ (p : Nat) (u : Int), p ≤ 16 ∧ scI 24 (vgT a) (vgP a) = u * 2 ^ (24 - p) ∧ scI 24 (vgT b) (vgP b) = (u + 1) * 2 ^ (24 - p) ∧
  vgT (mkG [a] [b]) = lowR (decP (GoodD (btT p u) (btP p))) (btT p u) ∧ vgP (mkG [a] [b]) = lowR (decP (GoodD (btT p u) (btP p))) (btP p) ∧ vgB (mkG [a] [b]) = decP (GoodD (btT p u) (btP p)) := by
 obtain ⟨p, u, hp, e, hs⟩ := vb_yes h ha hb
 obtain ⟨k, l⟩ := hs 24 (by decide)
 have m : scI 24 (vgT a) (vgP a) = scD 24 a := sc_I 24 a
 have n : scI 24 (vgT b) (vgP b) = scD 24 b := sc_I 24 b
 refine ⟨p, u, hp, m.trans k, n.trans l, ?_⟩
 obtain ⟨c, d⟩ := vg_low (p := p + 1) (t := 2 * u + 1) (cG (by omega))
 have f := kV (p := p + 1) (t := 2 * u + 1) (cG (by omega))
 rw [← e] at c d f
 by_cases hh : p < 16
 ·have i : btT p u = 2 * u + 1 := if_pos hh
  have j : btP p = ((p + 1 : Nat) : Int) := (if_pos hh).trans (by omega)
  rw [i, j]; exact ⟨c, d, f⟩
 ·have i : btT p u = 0 := if_neg hh
  have j : btP p = 17 := if_neg hh
  have o : decP (GoodD (2 * u + 1) ((p + 1 : Nat) : Int)) = false := decP_false.2 fun g => by have := g.pow; omega
  have q : decP (GoodD 0 17) = false := decP_false.2 fun g => by have := g.pow; omega
  rw [o] at c d f
  rw [i, j, q]; exact ⟨c, d, f⟩
theorem pair_zero {s : Int} (h : GoodD s y) (hs : s = 0) : ((s, y) : Int × Int) = (0, 0) := by
 subst hs; rw [good_zero h]
section
variable {ns : List Nd} {k : Nat} {xs ys : List Int}
theorem nd_l (h : NodeOk ns k xs ys) (h1 : xs.length = 1) (h2 : ys.length = 0) (hb : vgB (den ns (xs.getD 0 0).toNat) = true) : NumD (mkG [den ns (xs.getD 0 0).toNat] []) ∧ den ns k = mkG [den ns (xs.getD 0 0).toNat] [] := by
 have e := h.l (by omega) (by omega) h2
 refine ⟨e ▸ h.num.2 ⟨⟨by omega, by omega⟩, fun x hx => ?_, fun x hx => by omega, fun _ _ => by omega⟩, e⟩
 have h0 : x = 0 := by omega
 subst h0; exact mN hb
theorem nd_r (h : NodeOk ns k xs ys) (h1 : ys.length = 1) (h2 : xs.length = 0) (hb : vgB (den ns (ys.getD 0 0).toNat) = true) : NumD (mkG [] [den ns (ys.getD 0 0).toNat]) ∧ den ns k = mkG [] [den ns (ys.getD 0 0).toNat] := by
 have e := h.r (by omega) (by omega) h2
 refine ⟨e ▸ h.num.2 ⟨⟨by omega, by omega⟩, fun x hx => by omega, fun x hx => ?_, fun _ _ => by omega⟩, e⟩
 have h0 : x = 0 := by omega
 subst h0; exact mN hb
theorem nd_lr (h : NodeOk ns k xs ys) (h1 : xs.length = 1 ∧ ys.length = 1) (ha : vgB (den ns (xs.getD 0 0).toNat) = true) (hb : vgB (den ns (ys.getD 0 0).toNat) = true) (hl : ¬ geG (den ns (xs.getD 0 0).toNat) (den ns (ys.getD 0 0).toNat)) :
  NumD (mkG [den ns (xs.getD 0 0).toNat] [den ns (ys.getD 0 0).toNat]) ∧ den ns k = mkG [den ns (xs.getD 0 0).toNat] [den ns (ys.getD 0 0).toNat] := by
 have e := h.lr ⟨by omega, by omega⟩ (by omega) (by omega)
 refine ⟨e ▸ h.num.2 ⟨⟨by omega, by omega⟩, fun x hx => ?_, fun x hx => ?_, fun _ _ => decP_false.2 hl⟩, e⟩
 ·have h0 : x = 0 := by omega
  subst h0; exact mN ha
 ·have h0 : x = 0 := by omega
  subst h0; exact mN hb
theorem nd_many (h : NodeOk ns k xs ys) (h1 : ¬ (xs.length ≤ 1 ∧ ys.length ≤ 1)) : vgB (den ns k) = false := pZ fun g => h1 (h.num.1 g).1
theorem nd_nol (h : NodeOk ns k xs ys) (h1 : xs.length = 1) (ha : vgB (den ns (xs.getD 0 0).toNat) = false) : vgB (den ns k) = false := by
 by_cases g : NumD (den ns k)
 ·have g1 := (h.num.1 g).1
  by_cases hr : ys.length = 0
  ·have e := h.l (by omega) (by omega) hr
   rw [e] at g ⊢
   exact vl_no g ha
  ·have e := h.lr g1 (by omega) (by omega)
   rw [e] at g ⊢
   exact vb_no g (cF ha)
 ·exact pZ g
theorem nd_nor (h : NodeOk ns k xs ys) (h1 : ys.length = 1) (ha : vgB (den ns (ys.getD 0 0).toNat) = false) : vgB (den ns k) = false := by
 by_cases g : NumD (den ns k)
 ·have g1 := (h.num.1 g).1
  by_cases hr : xs.length = 0
  ·have e := h.r (by omega) (by omega) hr
   rw [e] at g ⊢
   exact vr_no g ha
  ·have e := h.lr g1 (by omega) (by omega)
   rw [e] at g ⊢
   exact vb_no g (cG ha)
 ·exact pZ g
theorem nd_ge (h : NodeOk ns k xs ys) (h1 : xs.length = 1 ∧ ys.length = 1) (hg : geG (den ns (xs.getD 0 0).toNat) (den ns (ys.getD 0 0).toNat)) : vgB (den ns k) = false :=
 pZ fun g => decP_false.1 ((h.num.1 g).2.2.2 (by omega) (by omega)) hg
theorem nd_nn (h : NodeOk ns k xs ys) (h1 : xs.length = 0) (h2 : ys.length = 0) : vgB (den ns k) = true ∧ vgT (den ns k) = 0 ∧ vgP (den ns k) = 0 := by
 rw [h.nn h1 h2]; exact v_nil
end
end Go.GL
namespace Go.GL
open Go Go.RowKit
variable {t z : Int}
theorem sc_up (hz : 0 ≤ z ∧ z ≤ 16) : scI 24 t z = scI 16 t z * 256 := by
 unfold scI
 rw [show (24 - z).toNat = (16 - z).toNat + 8 by omega, Int.pow_add, Int.mul_assoc]; rfl
theorem sc_cmp {s y : Int} (hz : 0 ≤ z ∧ z ≤ 16) (hy : 0 ≤ y ∧ y ≤ 16) : scI 24 t z < scI 24 s y ↔ scI 16 t z < scI 16 s y := by
 rw [sc_up hz, sc_up hy]; omega
end Go.GL
namespace Go.GL
open Go Go.RowKit
structure GmOk (ns : List Nd) (ws : List Bool) (k : Nat) : Prop where
 len : ws.length = k
 at_ : ∀ i, i < k → ws.getD i false = decP (NumD (den ns i))
variable {ns : List Nd} {k : Nat} {xs ys : List Int}
theorem GmOk.start : GmOk ns [] 0 := ⟨rfl, fun i hi => absurd hi (cK i)⟩
theorem GmOk.next {ws : List Bool} {b : Bool} (h : GmOk ns ws k) (hb : b = decP (NumD (den ns k))) : GmOk ns (ws ++ [b]) (k + 1) := by
 refine ⟨by rw [List.length_append, h.len]; rfl, fun i hi => ?_⟩
 have hl := h.len
 by_cases he : i = k
 ·subst he; rw [← hb]; subst hl; simp [List.getD]
 ·rw [yX (by omega)]; exact h.at_ i (by omega)
theorem gm_num (h : NodeOk ns k xs ys) (h1 : xs.length ≤ 1 ∧ ys.length ≤ 1) (hx : 0 < xs.length → NumD (den ns (xs.getD 0 0).toNat)) (hy : 0 < ys.length → NumD (den ns (ys.getD 0 0).toNat))
  (hg : 0 < xs.length → 0 < ys.length → decP (geG (den ns (xs.getD 0 0).toNat) (den ns (ys.getD 0 0).toNat)) = false) : NumD (den ns k) :=
 h.num.2 ⟨h1, fun x hx' => by
  have : x = 0 := by omega
  subst this; exact hx (by omega), fun x hx' => by
  have : x = 0 := by omega
  subst this; exact hy (by omega), hg⟩
theorem gm_few (h : NodeOk ns k xs ys) (g : NumD (den ns k)) : xs.length ≤ 1 ∧ ys.length ≤ 1 := (h.num.1 g).1
theorem gm_l (h : NodeOk ns k xs ys) (g : NumD (den ns k)) (hx : 0 < xs.length) : NumD (den ns (xs.getD 0 0).toNat) := (h.num.1 g).2.1 0 hx
theorem gm_r (h : NodeOk ns k xs ys) (g : NumD (den ns k)) (hx : 0 < ys.length) : NumD (den ns (ys.getD 0 0).toNat) := (h.num.1 g).2.2.1 0 hx
theorem gm_ge (h : NodeOk ns k xs ys) (g : NumD (den ns k)) (hx : 0 < xs.length) (hy : 0 < ys.length) : decP (geG (den ns (xs.getD 0 0).toNat) (den ns (ys.getD 0 0).toNat)) = false := (h.num.1 g).2.2.2 hx hy
end Go.GL
namespace Go.GL
open Go Go.RowKit
variable {ns : List Nd} {k i : Nat} {ws : List Bool} {gr : Bool} {xs : List (Int × Int)} {ls : List Int} {t z : Int} {b x : Int × Int}
theorem gm_both {xs ys : List Int} (h : NodeOk ns k xs ys) (h1 : xs.length = 1 ∧ ys.length = 1) (hl : NumD (den ns (xs.getD 0 0).toNat)) (hr : NumD (den ns (ys.getD 0 0).toNat)) :
  (!decP (geG (den ns (xs.getD 0 0).toNat) (den ns (ys.getD 0 0).toNat))) = decP (NumD (den ns k)) := by
 cases hg : decP (geG (den ns (xs.getD 0 0).toNat) (den ns (ys.getD 0 0).toNat)) with
 | true => exact (decP_false.2 fun g => by have := gm_ge h g (by omega) (by omega); rw [hg] at this; cases this).symm
 | false => exact (decP_true.2 (gm_num h (by omega) (fun _ => hl) (fun _ => hr) fun _ _ => hg)).symm
theorem GmOk.yes (h : GmOk ns ws k) (hi : i < k) (hw : ws.getD i false = true) : NumD (den ns i) := decP_true.1 ((h.at_ i hi).symm.trans hw)
theorem GmOk.no (h : GmOk ns ws k) (hi : i < k) (hw : ws.getD i false = false) : ¬ NumD (den ns i) := decP_false.1 ((h.at_ i hi).symm.trans hw)
theorem gm_last {c : Nat} (hf : IsForm c ns) (h : GmOk ns ws ns.length) : ws.getD (ns.length - 1) false = decP (NumD c) := by
 have hlo := hf.1.lo
 have := h.at_ (ns.length - 1) (by omega)
 rw [this]
 exact cgA (fun x => decP (NumD x)) hf.2
theorem best_yes (h : (t, z) = bstK gr xs ls i) (hb : btD gr (t, z) (xs.getD (ls.getD i 0).toNat default) = true) :
  ((xs.getD (ls.getD i 0).toNat default).1, (xs.getD (ls.getD i 0).toNat default).2) = bstK gr xs ls (i + 1) := by
 rw [h] at hb; exact (bst_yes hb).symm
theorem best_no (h : (t, z) = bstK gr xs ls i) (hb : btD gr (t, z) (xs.getD (ls.getD i 0).toNat default) = false) : (t, z) = bstK gr xs ls (i + 1) := by
 rw [h] at hb; exact h.trans (bst_no hb).symm
theorem bt_ty (hg : gr = true) (hb : 0 ≤ b.2 ∧ b.2 ≤ 16) (hx : 0 ≤ x.2 ∧ x.2 ≤ 16) (h : scI 24 b.1 b.2 < scI 24 x.1 x.2) : btD gr b x = true := by
 unfold btD; rw [if_pos hg]; exact decide_eq_true ((sc_cmp hb hx).1 h)
theorem bt_tn (hg : gr = true) (hb : 0 ≤ b.2 ∧ b.2 ≤ 16) (hx : 0 ≤ x.2 ∧ x.2 ≤ 16) (h : ¬ scI 24 b.1 b.2 < scI 24 x.1 x.2) : btD gr b x = false := by
 unfold btD; rw [if_pos hg]; exact decide_eq_false fun g => h ((sc_cmp hb hx).2 g)
theorem bt_fy (hg : gr = false) (hb : 0 ≤ b.2 ∧ b.2 ≤ 16) (hx : 0 ≤ x.2 ∧ x.2 ≤ 16) (h : scI 24 x.1 x.2 < scI 24 b.1 b.2) : btD gr b x = true := by
 unfold btD; rw [if_neg (by rw [hg]; exact Bool.noConfusion)]; exact decide_eq_true ((sc_cmp hx hb).1 h)
theorem bt_fn (hg : gr = false) (hb : 0 ≤ b.2 ∧ b.2 ≤ 16) (hx : 0 ≤ x.2 ∧ x.2 ≤ 16) (h : ¬ scI 24 x.1 x.2 < scI 24 b.1 b.2) : btD gr b x = false := by
 unfold btD; rw [if_neg (by rw [hg]; exact Bool.noConfusion)]; exact decide_eq_false fun g => h ((sc_cmp hx hb).2 g)
end Go.GL
namespace Go.GL
open Go Go.RowKit
noncomputable def inrB (fs : List Nd) (t z : Int) : Bool := spB fs && decP (GoodD t z)
noncomputable def inrV (fs : List Nd) (t z : Int) : Bool := inrB fs t z && decide (spL fs = (t, z) ∧ spR fs = (t, z))
variable {fs : List Nd} {t z : Int}
theorem in_no (h : spB fs = false ∨ decP (GoodD t z) = false) : inrB fs t z = false ∧ inrV fs t z = false := by
 have e : inrB fs t z = false := by
  unfold inrB
  rcases h with h | h <;> rw [h]
  ·rfl
  ·exact Bool.and_false _
 unfold inrV; rw [e]; exact ⟨rfl, rfl⟩
theorem in_yes (h : spB fs = true) (k : decP (GoodD t z) = true) : inrB fs t z = true ∧ inrV fs t z = decide (spL fs = (t, z) ∧ spR fs = (t, z)) := by
 have e : inrB fs t z = true := by unfold inrB; rw [h, k]; rfl
 unfold inrV; rw [e]; exact ⟨rfl, rfl⟩
theorem in_dec {p : Prop} [Decidable p] (h : (spL fs = (t, z) ∧ spR fs = (t, z)) ↔ p) : decide (spL fs = (t, z) ∧ spR fs = (t, z)) = decide p := decide_eq_decide.2 h
end Go.GL
set_option maxRecDepth 20000
set_option maxHeartbeats 2000000
namespace Go.Proofs.YtakkjmlnmcemaaaGreatDoor
open Go.RowKit Go.GL Go.Proofs
namespace L1
end L1
section
abbrev nGo := "runtime.NumGoroutine"
theorem ag133 : (Tryz.prog.underlying 133).map aggD = some true := by kernel_rfl
theorem ag22 : (Tryz.prog.underlying 22).map aggD = some false := by kernel_rfl
theorem ag24 : (Tryz.prog.underlying 24).map aggD = some true := by kernel_rfl
theorem ag27 : (Tryz.prog.underlying 27).map aggD = some true := by kernel_rfl
theorem ag3 : (Tryz.prog.underlying 3).map aggD = some false := by kernel_rfl
theorem ag30 : (Tryz.prog.underlying 30).map aggD = some false := by kernel_rfl
theorem ag32 : (Tryz.prog.underlying 32).map aggD = some true := by kernel_rfl
theorem ag39 : (Tryz.prog.underlying 39).map aggD = some true := by kernel_rfl
theorem ag4 : (Tryz.prog.underlying 4).map aggD = some false := by kernel_rfl
theorem ag56 : (Tryz.prog.underlying 56).map aggD = some false := by kernel_rfl
theorem ag58 : (Tryz.prog.underlying 58).map aggD = some true := by kernel_rfl
theorem ag59 : (Tryz.prog.underlying 59).map aggD = some false := by kernel_rfl
theorem ag60 : (Tryz.prog.underlying 60).map aggD = some false := by kernel_rfl
theorem ag62 : (Tryz.prog.underlying 62).map aggD = some true := by kernel_rfl
theorem ag65 : (Tryz.prog.underlying 65).map aggD = some true := by kernel_rfl
theorem ag68 : (Tryz.prog.underlying 68).map aggD = some true := by kernel_rfl
theorem ag75 : (Tryz.prog.underlying 75).map aggD = some false := by kernel_rfl
theorem ag91 : (Tryz.prog.underlying 91).map aggD = some false := by kernel_rfl
theorem ag92 : (Tryz.prog.underlying 92).map aggD = some false := by kernel_rfl
theorem ag93 : (Tryz.prog.underlying 93).map aggD = some false := by kernel_rfl
theorem ag95 : (Tryz.prog.underlying 95).map aggD = some false := by kernel_rfl
theorem ap27 : (Tryz.prog.info? 27).map (fun i => (i.size, i.bytes, (i.zero.map (·.cells.size)))) = some (2, 16, some 2) := by kernel_rfl
theorem ap3 : (Tryz.prog.info? 3).map (fun i => (i.size, i.bytes, (i.zero.map (·.cells.size)))) = some (1, 8, some 1) := by kernel_rfl
theorem ap4 : (Tryz.prog.info? 4).map (fun i => (i.size, i.bytes, (i.zero.map (·.cells.size)))) = some (1, 1, some 1) := by kernel_rfl
theorem ap5 : (Tryz.prog.info? 5).map (fun i => (i.size, i.bytes, (i.zero.map (·.cells.size)))) = some (1, 1, some 1) := by kernel_rfl
theorem ap56 : (Tryz.prog.info? 56).map (fun i => (i.size, i.bytes, (i.zero.map (·.cells.size)))) = some (1, 24, some 1) := by kernel_rfl
theorem ap65 : (Tryz.prog.info? 65).map (fun i => (i.size, i.bytes, (i.zero.map (·.cells.size)))) = some (2, 48, some 2) := by kernel_rfl
theorem nm100 : (Tryz.f100.name == nGo) = false := by kernel_rfl
theorem nm101 : (Tryz.f101.name == nGo) = false := by kernel_rfl
theorem sU : (Tryz.f102.name == nGo) = false := by kernel_rfl
theorem nm103 : (Tryz.f103.name == nGo) = false := by kernel_rfl
theorem nm104 : (Tryz.f104.name == nGo) = false := by kernel_rfl
theorem nm105 : (Tryz.f105.name == nGo) = false := by kernel_rfl
theorem nm106 : (Tryz.f106.name == nGo) = false := by kernel_rfl
theorem nm107 : (Tryz.f107.name == nGo) = false := by kernel_rfl
theorem nm108 : (Tryz.f108.name == nGo) = false := by kernel_rfl
theorem nm109 : (Tryz.f109.name == nGo) = false := by kernel_rfl
theorem nm11 : (Tryz.f11.name == nGo) = false := by kernel_rfl
theorem nm110 : (Tryz.f110.name == nGo) = false := by kernel_rfl
theorem nm111 : (Tryz.f111.name == nGo) = false := by kernel_rfl
theorem nm112 : (Tryz.f112.name == nGo) = false := by kernel_rfl
theorem nm113 : (Tryz.f113.name == nGo) = false := by kernel_rfl
theorem nm114 : (Tryz.f114.name == nGo) = false := by kernel_rfl
theorem nm115 : (Tryz.f115.name == nGo) = false := by kernel_rfl
theorem nm116 : (Tryz.f116.name == nGo) = false := by kernel_rfl
theorem nm117 : (Tryz.f117.name == nGo) = false := by kernel_rfl
theorem nm118 : (Tryz.f118.name == nGo) = false := by kernel_rfl
theorem nm121 : (Tryz.f121.name == nGo) = false := by kernel_rfl
theorem nm136 : (Tryz.f136.name == nGo) = false := by kernel_rfl
theorem nm14 : (Tryz.f14.name == nGo) = false := by kernel_rfl
theorem nm144 : (Tryz.f144.name == nGo) = false := by kernel_rfl
theorem nm19 : (Tryz.f19.name == nGo) = false := by kernel_rfl
theorem nm20 : (Tryz.f20.name == nGo) = false := by kernel_rfl
theorem nm21 : (Tryz.f21.name == nGo) = false := by kernel_rfl
theorem nm26 : (Tryz.f26.name == nGo) = false := by kernel_rfl
theorem nm27 : (Tryz.f27.name == nGo) = false := by kernel_rfl
theorem nm28 : (Tryz.f28.name == nGo) = false := by kernel_rfl
theorem nm29 : (Tryz.f29.name == nGo) = false := by kernel_rfl
theorem nm30 : (Tryz.f30.name == nGo) = false := by kernel_rfl
theorem nm31 : (Tryz.f31.name == nGo) = false := by kernel_rfl
theorem nm32 : (Tryz.f32.name == nGo) = false := by kernel_rfl
theorem nm33 : (Tryz.f33.name == nGo) = false := by kernel_rfl
theorem nm34 : (Tryz.f34.name == nGo) = false := by kernel_rfl
theorem nm35 : (Tryz.f35.name == nGo) = false := by kernel_rfl
theorem nm37 : (Tryz.f37.name == nGo) = false := by kernel_rfl
theorem nm38 : (Tryz.f38.name == nGo) = false := by kernel_rfl
theorem nm39 : (Tryz.f39.name == nGo) = false := by kernel_rfl
theorem nm42 : (Tryz.f42.name == nGo) = false := by kernel_rfl
theorem nm43 : (Tryz.f43.name == nGo) = false := by kernel_rfl
theorem nm44 : (Tryz.f44.name == nGo) = false := by kernel_rfl
theorem nm45 : (Tryz.f45.name == nGo) = false := by kernel_rfl
theorem nm46 : (Tryz.f46.name == nGo) = false := by kernel_rfl
theorem nm47 : (Tryz.f47.name == nGo) = false := by kernel_rfl
theorem nm48 : (Tryz.f48.name == nGo) = false := by kernel_rfl
theorem nm49 : (Tryz.f49.name == nGo) = false := by kernel_rfl
theorem nm50 : (Tryz.f50.name == nGo) = false := by kernel_rfl
theorem nm51 : (Tryz.f51.name == nGo) = false := by kernel_rfl
theorem nm52 : (Tryz.f52.name == nGo) = false := by kernel_rfl
theorem nm53 : (Tryz.f53.name == nGo) = false := by kernel_rfl
theorem nm54 : (Tryz.f54.name == nGo) = false := by kernel_rfl
theorem nm56 : (Tryz.f56.name == nGo) = false := by kernel_rfl
theorem nm57 : (Tryz.f57.name == nGo) = false := by kernel_rfl
theorem nm58 : (Tryz.f58.name == nGo) = false := by kernel_rfl
theorem nm59 : (Tryz.f59.name == nGo) = false := by kernel_rfl
theorem nm60 : (Tryz.f60.name == nGo) = false := by kernel_rfl
theorem nm61 : (Tryz.f61.name == nGo) = false := by kernel_rfl
theorem nm62 : (Tryz.f62.name == nGo) = false := by kernel_rfl
theorem nm63 : (Tryz.f63.name == nGo) = false := by kernel_rfl
theorem nm64 : (Tryz.f64.name == nGo) = false := by kernel_rfl
theorem nm65 : (Tryz.f65.name == nGo) = false := by kernel_rfl
theorem nm66 : (Tryz.f66.name == nGo) = false := by kernel_rfl
theorem nm68 : (Tryz.f68.name == nGo) = false := by kernel_rfl
theorem nm70 : (Tryz.f70.name == nGo) = false := by kernel_rfl
theorem nm71 : (Tryz.f71.name == nGo) = false := by kernel_rfl
theorem nm72 : (Tryz.f72.name == nGo) = false := by kernel_rfl
theorem nm73 : (Tryz.f73.name == nGo) = false := by kernel_rfl
theorem nm74 : (Tryz.f74.name == nGo) = false := by kernel_rfl
theorem nm75 : (Tryz.f75.name == nGo) = false := by kernel_rfl
theorem nm76 : (Tryz.f76.name == nGo) = false := by kernel_rfl
theorem nm77 : (Tryz.f77.name == nGo) = false := by kernel_rfl
theorem nm78 : (Tryz.f78.name == nGo) = false := by kernel_rfl
theorem nm79 : (Tryz.f79.name == nGo) = false := by kernel_rfl
theorem nm80 : (Tryz.f80.name == nGo) = false := by kernel_rfl
theorem nm81 : (Tryz.f81.name == nGo) = false := by kernel_rfl
theorem nm82 : (Tryz.f82.name == nGo) = false := by kernel_rfl
theorem nm83 : (Tryz.f83.name == nGo) = false := by kernel_rfl
theorem nm84 : (Tryz.f84.name == nGo) = false := by kernel_rfl
theorem nm85 : (Tryz.f85.name == nGo) = false := by kernel_rfl
theorem nm86 : (Tryz.f86.name == nGo) = false := by kernel_rfl
theorem nm87 : (Tryz.f87.name == nGo) = false := by kernel_rfl
theorem nm88 : (Tryz.f88.name == nGo) = false := by kernel_rfl
theorem nm89 : (Tryz.f89.name == nGo) = false := by kernel_rfl
theorem nm9 : (Tryz.f9.name == nGo) = false := by kernel_rfl
theorem nm90 : (Tryz.f90.name == nGo) = false := by kernel_rfl
theorem nm91 : (Tryz.f91.name == nGo) = false := by kernel_rfl
theorem nm92 : (Tryz.f92.name == nGo) = false := by kernel_rfl
theorem nm93 : (Tryz.f93.name == nGo) = false := by kernel_rfl
theorem nm94 : (Tryz.f94.name == nGo) = false := by kernel_rfl
theorem nm95 : (Tryz.f95.name == nGo) = false := by kernel_rfl
theorem nm96 : (Tryz.f96.name == nGo) = false := by kernel_rfl
theorem nm97 : (Tryz.f97.name == nGo) = false := by kernel_rfl
theorem nm98 : (Tryz.f98.name == nGo) = false := by kernel_rfl
theorem nm99 : (Tryz.f99.name == nGo) = false := by kernel_rfl
theorem nz22 : (Tryz.prog.info? 22).map (·.size == 0) = some false := by kernel_rfl
theorem nz3 : (Tryz.prog.info? 3).map (·.size == 0) = some false := by kernel_rfl
theorem nz30 : (Tryz.prog.info? 30).map (·.size == 0) = some false := by kernel_rfl
theorem nz56 : (Tryz.prog.info? 56).map (·.size == 0) = some false := by kernel_rfl
theorem nz59 : (Tryz.prog.info? 59).map (·.size == 0) = some false := by kernel_rfl
theorem nz60 : (Tryz.prog.info? 60).map (·.size == 0) = some false := by kernel_rfl
theorem nz75 : (Tryz.prog.info? 75).map (·.size == 0) = some false := by kernel_rfl
theorem nz91 : (Tryz.prog.info? 91).map (·.size == 0) = some false := by kernel_rfl
theorem nz92 : (Tryz.prog.info? 92).map (·.size == 0) = some false := by kernel_rfl
theorem nz93 : (Tryz.prog.info? 93).map (·.size == 0) = some false := by kernel_rfl
theorem nz95 : (Tryz.prog.info? 95).map (·.size == 0) = some false := by kernel_rfl
theorem sz133 : (Tryz.prog.info? 133).map (·.size) = some 2 := by kernel_rfl
theorem sz24 : (Tryz.prog.info? 24).map (·.size) = some 1 := by kernel_rfl
theorem sz27 : (Tryz.prog.info? 27).map (·.size) = some 2 := by kernel_rfl
theorem sz3 : (Tryz.prog.info? 3).map (·.size) = some 1 := by kernel_rfl
theorem sz30 : (Tryz.prog.info? 30).map (·.size) = some 1 := by kernel_rfl
theorem sz32 : (Tryz.prog.info? 32).map (·.size) = some 1 := by kernel_rfl
theorem sz39 : (Tryz.prog.info? 39).map (·.size) = some 2 := by kernel_rfl
theorem sz4 : (Tryz.prog.info? 4).map (·.size) = some 1 := by kernel_rfl
theorem sz5 : (Tryz.prog.info? 5).map (·.size) = some 1 := by kernel_rfl
theorem sz56 : (Tryz.prog.info? 56).map (·.size) = some 1 := by kernel_rfl
theorem sz58 : (Tryz.prog.info? 58).map (·.size) = some 2 := by kernel_rfl
theorem sz59 : (Tryz.prog.info? 59).map (·.size) = some 1 := by kernel_rfl
theorem sz60 : (Tryz.prog.info? 60).map (·.size) = some 1 := by kernel_rfl
theorem sz62 : (Tryz.prog.info? 62).map (·.size) = some 3 := by kernel_rfl
theorem sz65 : (Tryz.prog.info? 65).map (·.size) = some 2 := by kernel_rfl
theorem sz68 : (Tryz.prog.info? 68).map (·.size) = some 3 := by kernel_rfl
theorem sz95 : (Tryz.prog.info? 95).map (·.size) = some 1 := by kernel_rfl
theorem zr126 : (Tryz.prog.info? 126).bind (·.zero) = some (.agg #[.pointer none, .slice none 0 0]) := by kernel_rfl
theorem zr133 : (Tryz.prog.info? 133).bind (·.zero) = some (.agg #[.int .i64 0, .int .i64 0]) := by kernel_rfl
theorem zr162 : (Tryz.prog.info? 162).bind (·.zero) = some (.agg #[.int .u8 0, .int .u8 0, .int .u8 0, .int .u8 0, .int .u8 0, .int .u8 0, .int .u8 0, .int .u8 0, .int .u8 0, .int .u8 0, .int .u8 0, .int .u8 0, .int .u8 0, .int .u8 0, .int .u8 0, .int .u8 0, .int .u8 0, .int .u8 0, .int .u8 0, .int .u8 0, .int .u8 0, .int .u8 0, .int .u8 0, .int .u8 0, .int .u8 0, .int .u8 0, .int .u8 0, .int .u8 0, .int .u8 0, .int .u8 0, .int .u8 0, .int .u8 0, .int .u8 0, .int .u8 0, .int .u8 0, .int .u8 0, .int .u8 0, .int .u8 0, .int .u8 0, .int .u8 0, .int .u8 0, .int .u8 0, .int .u8 0, .int .u8 0, .int .u8 0, .int .u8 0, .int .u8 0, .int .u8 0, .int .u8 0, .int .u8 0, .int .u8 0, .int .u8 0, .int .u8 0, .int .u8 0, .int .u8 0, .int .u8 0, .int .u8 0, .int .u8 0, .int .u8 0, .int .u8 0, .int .u8 0, .int .u8 0, .int .u8 0, .int .u8 0, .int .u8 0]) := by kernel_rfl
theorem zr27 : (Tryz.prog.info? 27).bind (·.zero) = some (.agg #[.int .i64 0, .int .i64 0]) := by kernel_rfl
theorem zr3 : (Tryz.prog.info? 3).bind (·.zero) = some (.int .i64 0) := by kernel_rfl
theorem zr32 : (Tryz.prog.info? 32).bind (·.zero) = some (.agg #[.slice none 0 0]) := by kernel_rfl
theorem zr4 : (Tryz.prog.info? 4).bind (·.zero) = some (.bool false) := by kernel_rfl
theorem zr5 : (Tryz.prog.info? 5).bind (·.zero) = some (.int .u8 0) := by kernel_rfl
theorem zr56 : (Tryz.prog.info? 56).bind (·.zero) = some (.slice none 0 0) := by kernel_rfl
theorem zr62 : (Tryz.prog.info? 62).bind (·.zero) = some (.agg #[.slice none 0 0, .slice none 0 0, .slice none 0 0]) := by kernel_rfl
theorem zr65 : (Tryz.prog.info? 65).bind (·.zero) = some (.agg #[.slice none 0 0, .slice none 0 0]) := by kernel_rfl
theorem zr68 : (Tryz.prog.info? 68).bind (·.zero) = some (.agg #[.slice none 0 0, .slice none 0 0, .slice none 0 0]) := by kernel_rfl
theorem zr77 : (Tryz.prog.info? 77).bind (·.zero) = some (.agg #[.slice none 0 0, .slice none 0 0]) := by kernel_rfl
theorem zr97 : (Tryz.prog.info? 97).bind (·.zero) = some (.agg #[.slice none 0 0, .slice none 0 0, .slice none 0 0, .map none, .map none, .map none, .map none, .map none]) := by kernel_rfl
theorem dE : type_of% @Tryz.underlying56 := @Tryz.underlying56
theorem dF : type_of% @Tryz.underlying30 := @Tryz.underlying30
theorem dG : type_of% @Tryz.underlying65 := @Tryz.underlying65
theorem dH : type_of% @Tryz.underlying27 := @Tryz.underlying27
theorem dI : type_of% @Tryz.underlying60 := @Tryz.underlying60
theorem dJ : type_of% @Tryz.underlying32 := @Tryz.underlying32
theorem dK : type_of% @Tryz.underlying59 := @Tryz.underlying59
theorem dL : type_of% @Tryz.underlying77 := @Tryz.underlying77
theorem dN : type_of% @Tryz.underlying97 := @Tryz.underlying97
theorem dR : type_of% @Tryz.underlying62 := @Tryz.underlying62
theorem dS : type_of% @Tryz.underlying3 := @Tryz.underlying3
theorem dU : type_of% @Tryz.underlying68 := @Tryz.underlying68
theorem dV : type_of% @Tryz.underlying95 := @Tryz.underlying95
theorem dW : type_of% @Tryz.underlying126 := @Tryz.underlying126
theorem dX : type_of% @Tryz.underlying128 := @Tryz.underlying128
theorem dY : type_of% @Tryz.underlying9 := @Tryz.underlying9
theorem dZ : type_of% @Tryz.underlying4 := @Tryz.underlying4
theorem cA : type_of% @Tryz.underlying133 := @Tryz.underlying133
end
namespace L1
theorem mk3 : (Tryz.prog.info? 3).map (fun i => (i.size, i.bytes, i.zero)) = some (1, 8, some (.int .i64 0)) := by kernel_rfl
theorem mk65 : (Tryz.prog.info? 65).map (fun i => (i.size, i.bytes, i.zero)) = some (2, 48, some (.agg #[.slice none 0 0, .slice none 0 0])) := by kernel_rfl
variable {G : Pin} {v u : Value} {xs : List Int} {ns ys : List Nd}
theorem nP {w : World} {left : Int} (hP : Pins G w) (hv : RSl eInt G v xs) (hl : 0 ≤ left ∧ left ≤ 1048576) :
  Calls Tryz.prog 70 #[v, .int .i64 left] w fun e w' => e = .returned (.int .i64 (szInts xs left)) ∧ w' = w := by
 refine zY (n := 12) Tryz.func70 Tryz.ntmps70 rfl rfl ?_
 have hX0 := exr noS hP
 have hm := hv.max
 refine w9d ?_
 refine qM (.int .i64 0) ?_
 refine qe (w9a ?_)
 refine qM (.int .i64 left) ?_
 refine qM v ?_
 refine qD rfl (zM Tryz.underlying56 (v := v) rfl hv) (qD rfl (xY rfl rfl (by omega)) (qM (.int .i64 (left - (xs.length : Int))) ?_))
 refine qe (zA (w9b ?_))
 refine qM (.int .i64 (left - (xs.length : Int))) ?_
 refine qD rfl (yU rfl rfl) (qe (zA ?_))
 refine yC (p := (left - (xs.length : Int) : Int) < 0) rfl rfl (fun h1 => ?_) (fun h1 => ?_)
 refine w9d ?_
 refine qM (.int .i64 (-1)) ?_
 refine qe (zA ?_)
 exact cP (zP (zQ (v := .int .i64 (-1)) rfl rfl rfl (⟨cgA eI (by unfold szInts; split <;> omega), rfl⟩)))
 refine cO (w9a ?_)
 refine qM (.int .i64 (left - (xs.length : Int))) ?_
 refine qM (.int .i64 (left - (xs.length : Int))) ?_
 refine qe (zA ?_)
 exact cP (zP (zQ (v := .int .i64 (left - (xs.length : Int))) rfl rfl rfl (⟨cgA eI (by unfold szInts; split <;> omega), rfl⟩)))
theorem szNode_spec {w : World} {n : Nd} {left : Int} (hP : Pins G w) (hu : RSl eInt G u n.l) (hv : RSl eInt G v n.r) (hl : 0 ≤ left ∧ left ≤ 1048576) :
  Calls Tryz.prog 42 [.agg #[u, v], vJ left].toArray w fun e w' => ∃ G', e = .returned (vJ (szNd n left)) ∧ Ext noS G w G' w' := by
 refine zY (n := 18) Tryz.func42 Tryz.ntmps42 rfl rfl ?_
 have c := exr noS hP
 refine w9d ?_
 refine qI rfl (xH [u, v] (v := .agg #[u, v]) rfl rfl c.pins (fun h q s i j m => ?_))
 have o : w.heap.size ≤ h := by have := c.size; omega
 obtain ⟨t, f, a, g, x⟩ := i.shut (c.step j m) o
 refine qM (vJ 0) ?_
 refine qe (w9a ?_)
 refine qD rfl (zH (k := 0) rfl Tryz.underlying58 rfl nz56 rfl) (qD rfl (zJ (u := u) ag56 rfl (a.pins _ _ _ (g 0 _ rfl))) (qM (vJ left) ?_))
 refine qI rfl (zL (vs := [u, vJ left]) Tryz.func70 nm70 rfl rfl rfl ?_)
 refine cD (nP a.pins (hu.mono f) (by omega)) ?_
 rintro _ _ ⟨rfl, rfl⟩
 refine rt9 (qM (vJ (szInts n.l left)) ?_)
 refine qe (zA (w9b ?_))
 refine qM (vJ (szInts n.l left)) ?_
 refine qD rfl (yU rfl rfl) (qe (zA ?_))
 refine yC (p := (szInts n.l left : Int) < 0) rfl rfl (fun b => ?_) (fun b => ?_)
 refine w9d ?_
 refine qM (vJ (-1)) ?_
 refine qe (zA ?_)
 exact cP (zP (zQ (v := vJ (-1)) rfl rfl rfl (⟨_, cgA eI (by unfold szNd; rw [if_pos b]), a⟩)))
 refine cO (w9a ?_)
 refine qD rfl (zH (k := 1) rfl Tryz.underlying58 rfl nz56 rfl) (qD rfl (zJ (u := v) ag56 rfl (a.pins _ _ _ (g 1 _ rfl))) (qM (vJ (szInts n.l left)) ?_))
 have hq := szInts_ok b hl
 refine qI rfl (zL (vs := [v, vJ (szInts n.l left)]) Tryz.func70 nm70 rfl rfl rfl ?_)
 refine cD (nP a.pins (hv.mono f) (by omega)) ?_
 rintro _ _ ⟨rfl, rfl⟩
 refine rt9 (qM (vJ (szInts n.r (szInts n.l left))) ?_)
 refine qe (zA (w9b ?_))
 refine qM (vJ (szInts n.r (szInts n.l left))) ?_
 refine qD rfl (yU rfl rfl) (qe (zA ?_))
 refine yC (p := (szInts n.r (szInts n.l left) : Int) < 0) rfl rfl (fun d => ?_) (fun d => ?_)
 refine w9d ?_
 refine qM (vJ (-1)) ?_
 refine qe (zA ?_)
 exact cP (zP (zQ (v := vJ (-1)) rfl rfl rfl (⟨_, cgA eI (by unfold szNd; rw [if_neg b, if_pos d]), a⟩)))
 refine cO (w9a ?_)
 refine qM (vJ (szInts n.r (szInts n.l left))) ?_
 refine qM (vJ (szInts n.r (szInts n.l left))) ?_
 refine qe (zA ?_)
 exact cP (zP (zQ (v := vJ (szInts n.r (szInts n.l left))) rfl rfl rfl (⟨_, cgA eI (by unfold szNd; rw [if_neg b, if_neg d]), a⟩)))
theorem szNodeS_spec {w : World} {left : Int} (hP : Pins G w) (hv : RSl eNode G v ns) (hl : 0 ≤ left ∧ left ≤ 1048576) :
  Calls Tryz.prog 26 #[v, vJ left] w fun e w' => ∃ G', e = .returned (vJ (szNds ns left)) ∧ Ext noS G w G' w' := by
 refine zY (n := 27) Tryz.func26 Tryz.ntmps26 rfl rfl ?_
 have g := exr noS hP
 have hm := hv.max
 refine w9d ?_
 refine qM (vJ 0) ?_
 refine qe (w9a ?_)
 refine qM (vJ left) ?_
 refine qM v ?_
 refine qD rfl (zM Tryz.underlying22 (v := v) rfl hv) (qD rfl (xY rfl rfl (by omega)) (qM (vJ (left - (ns.length : Int))) ?_))
 refine qe (zA (w9b ?_))
 refine qM (vJ (left - (ns.length : Int))) ?_
 refine qD rfl (yU rfl rfl) (qe (zA ?_))
 refine yC (p := (left - (ns.length : Int) : Int) < 0) rfl rfl (fun a => ?_) (fun a => ?_)
 refine w9d ?_
 refine qM (vJ (-1)) ?_
 refine qe (zA ?_)
 exact cP (zP (zQ (v := vJ (-1)) rfl rfl rfl (⟨_, cgA eI (by unfold szNds; rw [if_pos a]), g⟩)))
 refine cO (zA (w9b ?_))
 refine qM (vJ 0) ?_
 refine qe (zA ?_)
 refine zZ (yR (fun k en W => ∃ (h : Nat → Value) (j : Nat) (q : Int) (f : Pin), en = (upd (upd (upd h 0 v) 1 (vJ q)) 5 (vJ (j : Int))) ∧ k = ns.length - j ∧ Ext noS G w f W ∧ Pin.le G f ∧ (j ≤ ns.length) ∧ (0 ≤ q ∧ q ≤ 1048576) ∧ (szGo ns (left - ns.length) = szGo (ns.drop j) q)) _ ⟨_, 0, left - (ns.length : Int), G, (pS 5 (pS 1 (pU 0))), rfl, g, cJ _, cI _, (by omega), rfl⟩ ?_)
 rintro k2 _ w3 ⟨h, j, q, f, rfl, ad, b, c, hj, hq, hr⟩
 refine w9b ?_
 refine qM (vJ (j : Int)) ?_
 refine qM v ?_
 refine qD rfl (zM Tryz.underlying22 (v := v) rfl hv) (qD rfl (yU rfl rfl) (qe (zA ?_)))
 refine yC (p := ((j : Int) : Int) < (ns.length : Int)) rfl rfl (fun t => ?_) (fun t => ?_)
 refine cO (zA (zB ?_))
 refine zZ (w9d ?_)
 refine qM v ?_
 refine qM (vJ (j : Int)) ?_
 refine qD rfl (zF Tryz.underlying22 sz58 (v := v) rfl rfl hv (by omega) (by omega)) ?_
 obtain ⟨u, x, i, m, y⟩ := jD (hv.at (z := (j : Int)) (by omega) (by omega)) (j := j) rfl
 have ae := i.max
 have af := m.max
 refine qD rfl (y ag58 sz58 rfl (cC b.pins c)) (qM (vJ q) ?_)
 refine qI rfl (zL (vs := [.agg #[u, x], vJ q]) Tryz.func42 nm42 rfl rfl rfl ?_)
 refine cD (szNode_spec (n := ⟨(ns.getD j default).l, (ns.getD j default).r⟩) b.pins (i.mono c) (m.mono c) (by omega)) ?_
 rintro _ ag ⟨aa, rfl, o⟩
 refine rt9 ?_
 have s := b.tr o
 refine qM (vJ (szNd ⟨(ns.getD j default).l, (ns.getD j default).r⟩ q)) ?_
 refine qe (w9a ?_)
 refine qM (vJ (szNd ⟨(ns.getD j default).l, (ns.getD j default).r⟩ q)) ?_
 refine qD rfl (yU rfl rfl) (qe (zA ?_))
 refine yC (p := (szNd ⟨(ns.getD j default).l, (ns.getD j default).r⟩ q : Int) < 0) rfl rfl (fun d => ?_) (fun d => ?_)
 refine w9d ?_
 refine qM (vJ (-1)) ?_
 refine qe (zA ?_)
 exact cP (zP (zQ (v := vJ (-1)) rfl rfl rfl (⟨_, cgA eI (by unfold szNds; rw [if_neg a]; exact (hr.trans (szGo_stop (by omega) d)).symm), s⟩)))
 refine cO (w9c ?_)
 refine qM (vJ (j : Int)) ?_
 refine qD rfl (yH rfl rfl (by omega)) (qM (vJ ((j : Int) + 1)) ?_)
 refine qe (zV ?_)
 have hz := szNd_ok d
 refine ⟨_, ?_, _, rfl, _, j + 1, szNd ⟨(ns.getD j default).l, (ns.getD j default).r⟩ q, aa, (pS 5 (pS 1 (pU 0))), rfl, s, (cB c o.le), (by omega), (by have a := hz.1; have h2 := hz.2.1; exact ⟨a, by omega⟩), (hr.trans (szGo_next (by omega) d))⟩
 omega
 refine cQ (zX (yO (yK (w9a ?_))))
 refine qM (vJ q) ?_
 refine qM (vJ q) ?_
 refine qe (zA ?_)
 exact cP (zP (zQ (v := vJ q) rfl rfl rfl (⟨_, cgA eI (by unfold szNds; rw [if_neg a]; exact (hr.trans (szGo_end (by omega))).symm), b⟩)))
theorem szForm_spec {w : World} {left : Int} (hP : Pins G w) (hv : RSl eNode G v ns) (hl : 0 ≤ left ∧ left ≤ 1048576) :
  Calls Tryz.prog 9 [.agg #[v], .int .i64 left].toArray w fun e w' => ∃ z G', e = .returned (.int .i64 z) ∧ (z < 0 ∧ szNds ns left < 0 ∨ 0 ≤ z ∧ z ≤ left ∧ ¬ szNds ns left < 0) ∧ Ext noS G w G' w' := by
 refine zY (n := 12) Tryz.func9 Tryz.ntmps9 rfl rfl ?_
 have a := exr noS hP
 refine w9d ?_
 refine qI rfl (xH [v] (v := .agg #[v]) rfl rfl a.pins (fun d q r f g h => ?_))
 have i : w.heap.size ≤ d := by have := a.size; omega
 obtain ⟨s, j, b, l, t⟩ := f.shut (a.step g h) i
 refine qM (.int .i64 0) ?_
 refine qe (w9a ?_)
 refine qD rfl (zH (k := 0) rfl Tryz.underlying24 rfl nz22 rfl) (qD rfl (zJ (u := v) ag22 rfl (b.pins _ _ _ (l 0 _ rfl))) (qM (.int .i64 left) ?_))
 refine qI rfl (zL (vs := [v, .int .i64 left]) Tryz.func26 nm26 rfl rfl rfl ?_)
 refine cD (szNodeS_spec b.pins (hv.mono j) (by omega)) ?_
 rintro _ x ⟨y, rfl, m⟩
 refine rt9 ?_
 have c := b.tr m
 refine qM (.int .i64 (szNds ns left)) ?_
 refine qe (zA (w9b ?_))
 refine qM (.int .i64 (szNds ns left)) ?_
 refine qD rfl (yU rfl rfl) (qe (zA ?_))
 refine yC (p := (szNds ns left : Int) < 0) rfl rfl (fun o => ?_) (fun o => ?_)
 refine w9d ?_
 refine qM (.int .i64 (-1)) ?_
 refine qe (zA ?_)
 refine cP (zP (zQ (v := .int .i64 (-1)) rfl rfl rfl ?_))
 have hzl := @szNds_le ns left
 exact ⟨_, _, rfl, by omega, c⟩
 refine cO (w9a ?_)
 refine qM (.int .i64 (szNds ns left)) ?_
 refine qM (.int .i64 (szNds ns left)) ?_
 refine qe (zA ?_)
 refine cP (zP (zQ (v := .int .i64 (szNds ns left)) rfl rfl rfl ?_))
 have hzl := @szNds_le ns left
 exact ⟨_, _, rfl, by omega, c⟩
theorem nN {w : World} (hP : Pins G w) (hv : RSl eInt G v xs) (hs : xs.length ≤ 1048576) :
  Calls Tryz.prog 74 #[v] w fun e w' => ∃ (u : Value) (G' : Pin), e = .returned u ∧ Own eInt 3 G' w' w.heap.size u xs ∧ Ext noS G w G' w' := by
 refine zY (n := 22) Tryz.func74 Tryz.ntmps74 rfl rfl ?_
 have d := exr noS hP
 refine w9d ?_
 refine qM vN ?_
 refine qe (w9a ?_)
 refine qM v ?_
 refine qD rfl (zM Tryz.underlying56 (v := v) rfl hv) (qI rfl (fR (E := eInt) 0 8 (vJ 0) Tryz.underlying56 mk3 (fun _ => rfl) rfl rfl d.pins (by omega) (by omega) (by omega) (fun a g h i l x => ?_)))
 have m : Own eInt 3 G g w.heap.size a (List.replicate xs.length 0) := h.weaken d.size
 have y : (List.replicate xs.length 0).length = xs.length := List.length_replicate ..
 refine qM a ?_
 refine qe (zA (w9b ?_))
 refine qM (vJ 0) ?_
 refine qe (zA ?_)
 refine zZ (yR (fun k en W => ∃ (f : Nat → Value) (j : Nat) (os : List Int), en = (upd (upd (upd (upd f 0 v) 2 vN) 3 a) 4 (vJ (j : Int))) ∧ k = xs.length - j ∧ Ext noS G w G W ∧ (j ≤ xs.length) ∧ (os = cpy xs j 0) ∧ (os.length = xs.length) ∧ (Own eInt 3 G W w.heap.size a (os))) _ ⟨_, 0, List.replicate xs.length 0, (pS 4 (pS 3 (pS 2 (pU 0)))), rfl, (d.step i l), cI _, cpy_start, (by simp), m⟩ ?_)
 rintro aa _ ab ⟨f, j, os, rfl, ac, b, hj, hr, hol, c⟩
 refine w9b ?_
 refine qM (vJ (j : Int)) ?_
 refine qM v ?_
 refine qD rfl (zM Tryz.underlying56 (v := v) rfl hv) (qD rfl (yU rfl rfl) (qe (zA ?_)))
 refine yC (p := ((j : Int) : Int) < (xs.length : Int)) rfl rfl (fun o => ?_) (fun o => ?_)
 refine cO (zA (zB ?_))
 refine zZ (zC (qM a ?_))
 refine qM (vJ (j : Int)) ?_
 refine qM v ?_
 refine qM (vJ (j : Int)) ?_
 refine qD rfl (zF Tryz.underlying56 sz3 (v := v) rfl rfl hv (by omega) (by omega)) (qD rfl (zG (r := xs.getD j 0) rfl ag3 (z := (j : Int)) rfl hv b.pins (by omega) (by omega)) (qD rfl (zF Tryz.underlying56 sz3 (v := a) rfl rfl c.read (by omega) (by omega)) (q0 rfl rfl rfl (jK (E := eInt) (v := a) (u := vJ (xs.getD j 0)) (z := (j : Int)) (xs.getD j 0) sz3 rfl rfl rfl rfl b.pins c (by omega) (by omega) (fun ad q s t ae => ?_)))))
 refine qe (w9c ?_)
 refine qM (vJ (j : Int)) ?_
 refine qD rfl (yH rfl rfl (by omega)) (qM (vJ ((j : Int) + 1)) ?_)
 refine qe (zV (⟨_, ?_, _, rfl, _, j + 1, os.set j (xs.getD j 0), (pS 4 (pS 3 (pS 2 (pU 0)))), rfl, (b.write s t ((yD c))), (by omega), (by rw [hr]; exact cpy_next 0 (by omega)), ((cT ..).trans hol), q⟩))
 omega
 refine cQ (zX (yO (yK (w9a ?_))))
 refine qM a ?_
 refine qM a ?_
 refine qe (zA ?_)
 exact cP (zP (zQ (v := a) rfl rfl rfl (⟨_, _, rfl, (by rw [cpy_end (by omega)] at hr; rw [← hr]; exact c), b⟩)))
theorem toNode_spec {w : World} {n : Nd} (hP : Pins G w) (hu : RSl eInt G u n.l) (hv : RSl eInt G v n.r) (hs : n.l.length ≤ 1048576 ∧ n.r.length ≤ 1048576) :
  Calls Tryz.prog 44 [.agg #[u, v]].toArray w fun e w' => ∃ (u v : Value) (G' : Pin), e = .returned (.agg #[u, v]) ∧ RSl eInt G' u n.l ∧ RSl eInt G' v n.r ∧ Ext noS G w G' w' := by
 refine zY (n := 13) Tryz.func44 Tryz.ntmps44 rfl rfl ?_
 have m := exr noS hP
 refine w9d ?_
 refine qI rfl (xH [u, v] (v := .agg #[u, v]) rfl rfl m.pins (fun b1 w2 bl ar au av => ?_))
 have aw : w.heap.size ≤ b1 := by have := m.size; omega
 obtain ⟨G9, z, o, aa, bn⟩ := ar.shut (m.step au av) aw
 refine qI rfl (yI [vN, vN] zr65 rfl o.pins (fun ax bo bp ab ay az => ?_))
 have p := o.step ay az
 have a0 : w.heap.size ≤ ax := by have := o.size; omega
 refine qe (w9a ?_)
 refine qI rfl (yI [vN, vN] zr65 rfl p.pins (fun a1 bq a2 ac a3 ad => ?_))
 have d := p.step a3 ad
 have ae := ab.below ad
 have af := zI (cgA some a2) ab.lt
 have ag : w.heap.size ≤ a1 := by have := p.size; omega
 refine qe (w9a ?_)
 refine qD rfl (zH (k := 0) rfl Tryz.underlying58 rfl nz56 rfl) (qD rfl (zJ (u := u) ag56 rfl (d.pins _ _ _ (aa 0 _ rfl))) (qI rfl (zL (vs := [u]) Tryz.func74 nm74 rfl rfl rfl ?_)))
 refine cD (nN d.pins (hu.mono z) (by omega)) ?_
 rintro _ a4 ⟨a, a5, rfl, q, c⟩
 refine rt9 ?_
 have ah := d.tr c
 have ai := yN q.lt ac.lt
 have s := q.weaken d.size
 refine qD rfl (zH (k := 0) rfl Tryz.underlying65 rfl nz56 rfl) (q0 rfl rfl rfl (o_stp (cs' := [a, vN]) (us := [a]) (v := a) sz56 rfl rfl (qR s.one) (yZ s.one) ah.pins (ac.ext c) (cE rfl) rfl (fun br aj a6 t bs => ?_)))
 have f := ah.write a6 t ((zS ag))
 have ak := s.keptA t ai
 have al := (ae.ext c).keptA t af.symm
 refine qe (w9a ?_)
 refine qD rfl (zH (k := 1) rfl Tryz.underlying58 rfl nz56 rfl) (qD rfl (zJ (u := v) ag56 rfl ((cC f.pins c.le) _ _ _ (aa 1 _ rfl))) (qI rfl (zL (vs := [v]) Tryz.func74 nm74 rfl rfl rfl ?_)))
 refine cD (nN f.pins (hv.mono (cB z c.le)) (by omega)) ?_
 rintro _ a7 ⟨b, a8, rfl, g, h⟩
 refine rt9 ?_
 have am := f.tr h
 have x := g.weaken f.size
 refine qD rfl (zH (k := 1) rfl Tryz.underlying65 rfl nz56 rfl) (q0 rfl rfl rfl (o_stp (cs' := [a, b]) (us := [b]) (v := b) sz56 rfl rfl (qR x.one) (yZ x.one) am.pins (aj.ext h) (cE rfl) rfl (fun bt a9 ba i bu => ?_)))
 have an := am.write ba i ((zS ag))
 have ao := (ak.ext h).keptA i ai
 have ap := x.keptA i (yN g.lt aj.lt)
 refine qe (w9a ?_)
 refine qD rfl (yA (cs := [a, b]) ag65 sz65 rfl (fun j u hj => a9.cell (by simpa using hj))) (q0 rfl rfl rfl (o_stp (cs' := [a, b]) (us := [a, b]) (v := .agg #[a, b]) sz65 rfl rfl rfl (yQ ao.one ap.one) an.pins ((al.ext h).keptA i af.symm) (cE rfl) rfl (fun bv bb bc y bw => ?_)))
 refine qe (zA ?_)
 refine cP (zP (jQ (cs := [a, b]) rfl rfl rfl ag65 sz65 (fun j u hj => by rw [cS]; exact bb.cell hj) ?_))
 obtain ⟨bx, bd, be, bf, bg⟩ := (ao.keptA y (yN q.lt ae.lt)).sealed (an.write bc y ((zS a0)))
 obtain ⟨bz, bh, bi, bj, b0⟩ := ((ap.keptA y (yN g.lt al.lt)).moreO bd bg (zT g.lt ak.lt)).sealed be
 exact ⟨_, _, _, rfl, (bf.mono bh), bj, bi⟩
theorem toNodeS_spec {w : World} (hP : Pins G w) (hv : RSl eNode G v ns) (hsm : Small ns) :
  Calls Tryz.prog 28 #[v] w fun e w' => ∃ (u : Value) (G' : Pin), e = .returned u ∧ RSl eNode G' u ns ∧ Ext noS G w G' w' := by
 refine zY (n := 23) Tryz.func28 Tryz.ntmps28 rfl rfl ?_
 have f := exr noS hP
 have hln := hsm.len
 refine w9d ?_
 refine qM vN ?_
 refine qe (w9a ?_)
 refine qM v ?_
 refine qD rfl (zM Tryz.underlying22 (v := v) rfl hv) (qI rfl (fR (E := eNode) (⟨[], []⟩ : Nd) 48 (.agg #[vN, vN]) Tryz.underlying30 mk65 zero_node rfl rfl f.pins (by omega) (by omega) (by omega) (fun a t x y aa aq => ?_)))
 have ab : Own eNode 65 G t w.heap.size a (List.replicate ns.length (⟨[], []⟩ : Nd)) := x.weaken f.size
 have ar : (List.replicate ns.length (⟨[], []⟩ : Nd)).length = ns.length := List.length_replicate ..
 refine qM a ?_
 refine qe (zA (w9b ?_))
 refine qM (vJ 0) ?_
 refine qe (zA ?_)
 refine zZ (yR (fun k en W => ∃ (i : Nat → Value) (j : Nat) (os : List Nd) (b : Pin), en = (upd (upd (upd (upd i 0 v) 2 vN) 3 a) 4 (vJ (j : Int))) ∧ k = ns.length - j ∧ Ext noS G w b W ∧ Pin.le G b ∧ (j ≤ ns.length) ∧ (os = cpy ns j ⟨[], []⟩) ∧ (os.length = ns.length) ∧ (Own eNode 65 b W w.heap.size a (os))) _ ⟨_, 0, List.replicate ns.length (⟨[], []⟩ : Nd), G, (pS 4 (pS 3 (pS 2 (pU 0)))), rfl, (f.step y aa), cJ _, cI _, cpy_start, (by simp), ab⟩ ?_)
 rintro au _ av ⟨i, j, os, b, rfl, aw, c, d, hj, hr, hol, m⟩
 refine w9b ?_
 refine qM (vJ (j : Int)) ?_
 refine qM v ?_
 refine qD rfl (zM Tryz.underlying22 (v := v) rfl hv) (qD rfl (yU rfl rfl) (qe (zA ?_)))
 refine yC (p := ((j : Int) : Int) < (ns.length : Int)) rfl rfl (fun ac => ?_) (fun ac => ?_)
 have hso := hsm.opts j (by omega)
 refine cO (zA (zB ?_))
 refine zZ (zC (qM a ?_))
 refine qM (vJ (j : Int)) ?_
 refine qM v ?_
 refine qM (vJ (j : Int)) ?_
 refine qD rfl (zF Tryz.underlying22 sz58 (v := v) rfl rfl hv (by omega) (by omega)) ?_
 obtain ⟨ad, ae, o, q, af⟩ := jD (hv.at (z := (j : Int)) (by omega) (by omega)) (j := j) rfl
 have ax := o.max
 have ay := q.max
 refine qD rfl (af ag58 sz58 rfl (cC c.pins d)) (qI rfl (zL (vs := [.agg #[ad, ae]]) Tryz.func44 nm44 rfl rfl rfl ?_))
 refine cD (toNode_spec (n := ⟨(ns.getD j default).l, (ns.getD j default).r⟩) c.pins (o.mono d) (q.mono d) (by omega)) ?_
 rintro _ az ⟨ag, ah, ai, rfl, aj, ak, g⟩
 refine rt9 ?_
 have s := c.tr g
 have h := m.ext g
 refine qD rfl (zF Tryz.underlying30 sz65 (v := a) rfl rfl h.read (by omega) (by omega)) (q0 rfl rfl rfl (jK (E := eNode) (v := a) (u := .agg #[ag, ah]) (z := (j : Int)) ((⟨(ns.getD j default).l, (ns.getD j default).r⟩ : Nd)) sz65 rfl rfl rfl ⟨_, _, rfl, aj, ak⟩ s.pins h (by omega) (by omega) (fun a0 al am an a1 => ?_)))
 refine qe (w9c ?_)
 refine qM (vJ (j : Int)) ?_
 refine qD rfl (yH rfl rfl (by omega)) (qM (vJ ((j : Int) + 1)) ?_)
 refine qe (zV (⟨_, ?_, _, rfl, _, j + 1, os.set j (ns.getD j default), ai, (pS 4 (pS 3 (pS 2 (pU 0)))), rfl, (s.write am an ((yD h))), (cB d g.le), (by omega), (by rw [hr]; exact cpy_next default (by omega)), ((cT ..).trans hol), al⟩))
 omega
 refine cQ (zX (yO (yK (w9a ?_))))
 refine qM a ?_
 refine qM a ?_
 refine qe (zA ?_)
 refine cP (zP (zQ (v := a) rfl rfl rfl ?_))
 obtain ⟨a2, a3, ao, ap, a4⟩ := m.sealed c
 exact ⟨_, _, rfl, (by rw [cpy_end (by omega)] at hr; rw [← hr]; exact ap), ao⟩
theorem gI {w : World} (hP : Pins G w) (hv : RSl eNode G v ns) (hsm : Small ns) :
  Calls Tryz.prog 11 [.agg #[v]].toArray w fun e w' => ∃ (u : Value) (G' : Pin), e = .returned (.agg #[u]) ∧ RSl eNode G' u ns ∧ Ext noS G w G' w' := by
 refine zY (n := 9) Tryz.func11 Tryz.ntmps11 rfl rfl ?_
 have c := exr noS hP
 refine w9d ?_
 refine qI rfl (xH [v] (v := .agg #[v]) rfl rfl c.pins (fun q w2 ap r s t => ?_))
 have x : w.heap.size ≤ q := by have := c.size; omega
 obtain ⟨G9, y, d, z, ar⟩ := r.shut (c.step s t) x
 refine qI rfl (yI [.slice none 0 0] zr32 rfl d.pins (fun aa au av i ab ac => ?_))
 have f := d.step ab ac
 have ad : w.heap.size ≤ aa := by have := d.size; omega
 refine qe (w9a ?_)
 refine qI rfl (yI [.slice none 0 0] zr32 rfl f.pins (fun ae aw af ag ah l => ?_))
 have g := f.step ah l
 have ai : w.heap.size ≤ ae := by have := f.size; omega
 refine qe (w9a ?_)
 refine qD rfl (zH (k := 0) rfl Tryz.underlying24 rfl nz22 rfl) (qD rfl (zJ (u := v) ag22 rfl (g.pins _ _ _ (z 0 _ rfl))) (qI rfl (zL (vs := [v]) Tryz.func28 nm28 rfl rfl rfl ?_)))
 refine cD (toNodeS_spec g.pins (hv.mono y) hsm) ?_
 rintro _ ax ⟨a, ay, rfl, b, h⟩
 refine rt9 ?_
 have m := g.tr h
 refine qD rfl (zH (k := 0) rfl Tryz.underlying32 rfl nz30 rfl) (q0 rfl rfl rfl (o_stp (cs' := [a]) (us := [a]) (v := a) sz30 rfl rfl (qR b.one) (yZ b.one) m.pins (ag.ext h) (cE rfl) rfl (fun az aj ak o a0 => ?_)))
 have p := m.write ak o ((zS ai))
 refine qe (w9a ?_)
 refine qD rfl (yA (cs := [a]) ag32 sz32 rfl (fun j u hj => aj.cell (by simpa using hj))) (q0 rfl rfl rfl (o_stp (cs' := [a]) (us := [a]) (v := .agg #[a]) sz32 rfl rfl rfl (yZ b.one) p.pins (((i.below l).ext h).keptA o (zI (cgA some af) i.lt).symm) (cE rfl) rfl (fun a1 al am an a2 => ?_)))
 refine qe (zA ?_)
 exact cP (zP (jQ (cs := [a]) rfl rfl rfl ag32 sz32 (fun j u hj => by rw [cS]; exact al.cell hj) (⟨_, _, rfl, b, (p.write am an ((zS ad)))⟩)))
theorem nZ {w : World} {ys : List Int} (hP : Pins G w) (hu : RSl eInt G u xs) (hv : RSl eInt G v ys) :
  Calls Tryz.prog 77 #[u, v] w fun e w' => e = .returned (.bool (decide (xs = ys))) ∧ Ext noS G w G w' := by
 refine zY (n := 26) Tryz.func77 Tryz.ntmps77 rfl rfl ?_
 have f := exr noS hP
 have hm := hu.max
 refine w9d ?_
 refine qM (.bool false) ?_
 refine qe (zA (w9b ?_))
 refine qM u ?_
 refine qD rfl (zM Tryz.underlying56 (v := u) rfl hu) (qM v ?_)
 refine qD rfl (zM Tryz.underlying56 (v := v) rfl hv) (qD rfl (vV rfl rfl) (qe (zA ?_)))
 refine yC (p := ((xs.length : Int) : Int) ≠ (ys.length : Int)) rfl rfl (fun g => ?_) (fun g => ?_)
 refine w9d ?_
 refine qM (.bool false) ?_
 refine qe (zA ?_)
 exact cP (zP (zQ (v := .bool false) rfl rfl rfl (⟨cgA eB ((decide_eq_false (fun e => g (by rw [e]))).symm), f⟩)))
 refine cO (zA (w9b ?_))
 refine qM (vJ 0) ?_
 refine qe (zA ?_)
 refine zZ (yR (fun k en W => ∃ (h : Nat → Value) (j : Nat), en = (upd (upd (upd h 0 u) 1 v) 5 (vJ (j : Int))) ∧ k = xs.length - j ∧ Ext noS G w G W ∧ (j ≤ xs.length) ∧ (xs.length = ys.length) ∧ (∀ i, i < j → xs.getD i 0 = ys.getD i 0)) _ ⟨_, 0, (pS 5 (pS 1 (pU 0))), rfl, f, cI _, (by omega), (fun i hi => absurd hi (cK i))⟩ ?_)
 rintro o _ b ⟨h, j, rfl, q, c, hj, heq, hp⟩
 refine w9b ?_
 refine qM (vJ (j : Int)) ?_
 refine qM u ?_
 refine qD rfl (zM Tryz.underlying56 (v := u) rfl hu) (qD rfl (yU rfl rfl) (qe (zA ?_)))
 refine yC (p := ((j : Int) : Int) < (xs.length : Int)) rfl rfl (fun m => ?_) (fun m => ?_)
 refine cO (zA (zB ?_))
 refine zZ (zB (yW (S := fun wz => Pins G wz) (last := 9) (by kernel_rfl) rfl ?_))
 have l := bdr b
 have a := c.step (c.pins.below l) l
 refine dM 0 u a.pins ?_
 refine dM 1 (vJ (j : Int)) a.pins ?_
 refine dT (i := 2) rfl rfl (by kernel_rfl) (fun _ _ => zF Tryz.underlying56 sz3 (v := u) rfl rfl hu (by omega) (by omega)) a.pins ?_
 refine dT (i := 3) rfl rfl (by kernel_rfl) (fun _ hS => zG (r := xs.getD j 0) rfl ag3 (z := (j : Int)) rfl hu hS (by omega) (by omega)) a.pins ?_
 refine dM 4 v a.pins ?_
 refine dM 5 (vJ (j : Int)) a.pins ?_
 refine dT (i := 6) rfl rfl (by kernel_rfl) (fun _ _ => zF Tryz.underlying56 sz3 (v := v) rfl rfl hv (by omega) (by omega)) a.pins ?_
 refine dT (i := 7) rfl rfl (by kernel_rfl) (fun _ hS => zG (r := ys.getD j 0) rfl ag3 (z := (j : Int)) rfl hv hS (by omega) (by omega)) a.pins ?_
 refine dT (i := 8) rfl rfl (by kernel_rfl) (fun _ _ => vV rfl rfl) a.pins ?_
 refine yL (by kernel_rfl) (zA (yC (p := (xs.getD j 0 : Int) ≠ (ys.getD j 0)) rfl rfl (fun d => ?_) (fun d => ?_)))
 refine w9d ?_
 refine qM (.bool false) ?_
 refine qe (zA ?_)
 exact cP (zP (zQ (v := .bool false) rfl rfl rfl (⟨cgA eB ((decide_eq_false (fun e => d (by rw [e]))).symm), a⟩)))
 refine cO (w9c ?_)
 refine qM (vJ (j : Int)) ?_
 refine qD rfl (yH rfl rfl (by omega)) (qM (vJ ((j : Int) + 1)) ?_)
 refine qe (zV (⟨_, ?_, _, rfl, _, j + 1, (pS 5 (pS 1 (pU 0))), rfl, a, (by omega), heq, (eqstep hp d)⟩))
 omega
 refine cQ (zX (yO (yK (w9a ?_))))
 refine qM (.bool true) ?_
 refine qe (zA ?_)
 exact cP (zP (zQ (v := .bool true) rfl rfl rfl (⟨cgA eB ((decide_eq_true (eqdone heq (by omega) hp)).symm), c⟩)))
theorem eqNode_spec {w : World} {al ar bl br : Value} {a b : Nd} (hP : Pins G w) (hal : RSl eInt G al a.l) (har : RSl eInt G ar a.r) (hbl : RSl eInt G bl b.l) (hbr : RSl eInt G br b.r) :
  Calls Tryz.prog 46 [.agg #[al, ar], .agg #[bl, br]].toArray w fun e w' => ∃ G', e = .returned (.bool (decide (a = b))) ∧ Ext noS G w G' w' := by
 refine zY (n := 17) Tryz.func46 Tryz.ntmps46 rfl rfl ?_
 have j := exr noS hP
 refine w9d ?_
 refine qI rfl (xH [al, ar] (v := .agg #[al, ar]) rfl rfl j.pins (fun x w2 ai y z aa => ?_))
 have ab : w.heap.size ≤ x := by have := j.size; omega
 obtain ⟨G9, h, m, o, ak⟩ := y.shut (j.step z aa) ab
 refine qI rfl (xH [bl, br] (v := .agg #[bl, br]) rfl rfl m.pins (fun ac am an ad ae af => ?_))
 have ag : w.heap.size ≤ ac := by have := m.size; omega
 obtain ⟨ao, f, i, p, ap⟩ := ad.shut (m.step ae af) ag
 refine qM (.bool false) ?_
 refine qe (zA (w9b ?_))
 refine qD rfl (zH (k := 0) rfl Tryz.underlying65 rfl nz56 rfl) (qD rfl (zJ (u := al) ag56 rfl ((cC i.pins f) _ _ _ (o 0 _ rfl))) (qD rfl (zH (k := 0) rfl Tryz.underlying65 rfl nz56 rfl) (qD rfl (zJ (u := bl) ag56 rfl (i.pins _ _ _ (p 0 _ rfl))) (qI rfl (zL (vs := [al, bl]) Tryz.func77 nm77 rfl rfl rfl ?_)))))
 refine cD (nZ i.pins (hal.mono (cB h f)) (hbl.mono (cB h f))) ?_
 rintro _ aq ⟨rfl, q⟩
 refine rt9 ?_
 have g := i.step q.pins q.below
 refine qD rfl (xD rfl) (qe (zA ?_))
 refine xU rfl rfl (fun c => ?_) (fun c => ?_)
 replace c := of_decide_eq_true c
 refine cO (zA (w9b ?_))
 refine qD rfl (zH (k := 1) rfl Tryz.underlying65 rfl nz56 rfl) (qD rfl (zJ (u := ar) ag56 rfl ((cC g.pins f) _ _ _ (o 1 _ rfl))) (qD rfl (zH (k := 1) rfl Tryz.underlying65 rfl nz56 rfl) (qD rfl (zJ (u := br) ag56 rfl (g.pins _ _ _ (p 1 _ rfl))) (qI rfl (zL (vs := [ar, br]) Tryz.func77 nm77 rfl rfl rfl ?_)))))
 refine cD (nZ g.pins (har.mono (cB h f)) (hbr.mono (cB h f))) ?_
 rintro _ au ⟨rfl, s⟩
 refine rt9 ?_
 have t := g.step s.pins s.below
 refine qD rfl (xD rfl) (qe (zA ?_))
 refine xU rfl rfl (fun d => ?_) (fun d => ?_)
 replace d := of_decide_eq_true d
 refine cO (w9a ?_)
 refine qM (.bool true) ?_
 refine qe (zA ?_)
 exact cP (zP (zQ (v := .bool true) rfl rfl rfl (⟨_, cgA eB (decide_eq_true (mX c d)).symm, t⟩)))
 replace d := of_decide_eq_false d
 refine w9d ?_
 refine qM (.bool false) ?_
 refine qe (zA ?_)
 exact cP (zP (zQ (v := .bool false) rfl rfl rfl (⟨_, cgA eB (decide_eq_false (fun e => d (by rw [e]))).symm, t⟩)))
 replace c := of_decide_eq_false c
 refine w9d ?_
 refine qM (.bool false) ?_
 refine qe (zA ?_)
 exact cP (zP (zQ (v := .bool false) rfl rfl rfl (⟨_, cgA eB (decide_eq_false (fun e => c (by rw [e]))).symm, g⟩)))
theorem eqNodeS_spec {w : World} {xs : List Nd} (hP : Pins G w) (hu : RSl eNode G u xs) (hv : RSl eNode G v ys) :
  Calls Tryz.prog 30 #[u, v] w fun e w' => ∃ G', e = .returned (.bool (decide (xs = ys))) ∧ Ext noS G w G' w' := by
 refine zY (n := 27) Tryz.func30 Tryz.ntmps30 rfl rfl ?_
 have s := exr noS hP
 have hm := hu.max
 refine w9d ?_
 refine qM (.bool false) ?_
 refine qe (zA (w9b ?_))
 refine qM u ?_
 refine qD rfl (zM Tryz.underlying30 (v := u) rfl hu) (qM v ?_)
 refine qD rfl (zM Tryz.underlying30 (v := v) rfl hv) (qD rfl (vV rfl rfl) (qe (zA ?_)))
 refine yC (p := ((xs.length : Int) : Int) ≠ (ys.length : Int)) rfl rfl (fun t => ?_) (fun t => ?_)
 refine w9d ?_
 refine qM (.bool false) ?_
 refine qe (zA ?_)
 exact cP (zP (zQ (v := .bool false) rfl rfl rfl (⟨_, cgA eB (decide_eq_false (fun e => t (by rw [e]))).symm, s⟩)))
 refine cO (zA (w9b ?_))
 refine qM (vJ 0) ?_
 refine qe (zA ?_)
 refine zZ (yR (fun k en W => ∃ (x : Nat → Value) (j : Nat) (g : Pin), en = (upd (upd (upd x 0 u) 1 v) 5 (vJ (j : Int))) ∧ k = xs.length - j ∧ Ext noS G w g W ∧ Pin.le G g ∧ (j ≤ xs.length) ∧ (xs.length = ys.length) ∧ (∀ i, i < j → xs.getD i default = ys.getD i default)) _ ⟨_, 0, G, (pS 5 (pS 1 (pU 0))), rfl, s, cJ _, cI _, (by omega), (fun i hi => absurd hi (cK i))⟩ ?_)
 rintro k2 _ o ⟨x, j, g, rfl, an, q, f, hj, heq, hp⟩
 refine w9b ?_
 refine qM (vJ (j : Int)) ?_
 refine qM u ?_
 refine qD rfl (zM Tryz.underlying30 (v := u) rfl hu) (qD rfl (yU rfl rfl) (qe (zA ?_)))
 refine yC (p := ((j : Int) : Int) < (xs.length : Int)) rfl rfl (fun h6 => ?_) (fun h6 => ?_)
 refine cO (zA (zB ?_))
 refine zZ (zB (yW (S := fun wz => Pins g wz) (last := 10) (by kernel_rfl) rfl ?_))
 have y := bdr o
 have c := q.step (q.pins.below y) y
 refine dM 0 u c.pins ?_
 refine dM 1 (vJ (j : Int)) c.pins ?_
 refine dT (i := 2) rfl rfl (by kernel_rfl) (fun _ _ => zF Tryz.underlying30 sz65 (v := u) rfl rfl hu (by omega) (by omega)) c.pins ?_
 obtain ⟨af, ag, aa, ab, ah⟩ := jD (hu.at (z := (j : Int)) (by omega) (by omega)) (j := j) rfl
 have ao := aa.max
 have ap := ab.max
 refine dT (i := 3) rfl rfl (by kernel_rfl) (fun _ hS => ah ag65 sz65 rfl (cC hS f)) c.pins ?_
 refine dM 4 v c.pins ?_
 refine dM 5 (vJ (j : Int)) c.pins ?_
 refine dT (i := 6) rfl rfl (by kernel_rfl) (fun _ _ => zF Tryz.underlying30 sz65 (v := v) rfl rfl hv (by omega) (by omega)) c.pins ?_
 obtain ⟨ai, aj, ac, ad, ak⟩ := jD (hv.at (z := (j : Int)) (by omega) (by omega)) (j := j) rfl
 have aq := ac.max
 have ar := ad.max
 refine dT (i := 7) rfl rfl (by kernel_rfl) (fun _ hS => ak ag65 sz65 rfl (cC hS f)) c.pins ?_
 refine dP (i := 8) rfl rfl (zL (vs := [.agg #[af, ag], .agg #[ai, aj]]) Tryz.func46 nm46 rfl rfl rfl ?_)
 refine cD (eqNode_spec (a := ⟨(xs.getD j default).l, (xs.getD j default).r⟩) (b := ⟨(ys.getD j default).l, (ys.getD j default).r⟩) c.pins (aa.mono f) (ab.mono f) (ac.mono f) (ad.mono f)) ?_
 rintro _ au ⟨al, rfl, h⟩
 refine rt9 ?_
 have m := c.tr h
 refine ⟨fun _ => (cC m.pins h.le), ?_⟩
 refine dT (i := 9) rfl rfl (by kernel_rfl) (fun _ _ => xD rfl) (cC m.pins h.le) ?_
 refine yL (by kernel_rfl) (zA (xU rfl rfl (fun d => ?_) (fun d => ?_)))
 replace d := of_decide_eq_true d
 refine cO (w9c ?_)
 refine qM (vJ (j : Int)) ?_
 refine qD rfl (yH rfl rfl (by omega)) (qM (vJ ((j : Int) + 1)) ?_)
 refine qe (zV (⟨_, ?_, _, rfl, _, j + 1, al, (pS 5 (pS 1 (pU 0))), rfl, m, (cB f h.le), (by omega), heq, (eqstepN hp (cgA Nd.l d) (cgA Nd.r d))⟩))
 omega
 replace d := of_decide_eq_false d
 refine w9d ?_
 refine qM (.bool false) ?_
 refine qe (zA ?_)
 exact cP (zP (zQ (v := .bool false) rfl rfl rfl (⟨_, cgA eB (decide_eq_false (fun e => d (by rw [e]))).symm, m⟩)))
 refine cQ (zX (yO (yK (w9a ?_))))
 refine qM (.bool true) ?_
 refine qe (zA ?_)
 exact cP (zP (zQ (v := .bool true) rfl rfl rfl (⟨_, cgA eB (decide_eq_true (eqdoneN heq (by omega) hp)).symm, q⟩)))
theorem eqForm_spec {w : World} {xs : List Nd} (hP : Pins G w) (hu : RSl eNode G u xs) (hv : RSl eNode G v ys) :
  Calls Tryz.prog 14 [.agg #[u], .agg #[v]].toArray w fun e w' => ∃ G', e = .returned (.bool (decide (xs = ys))) ∧ Ext noS G w G' w' := by
 refine zY (n := 11) Tryz.func14 Tryz.ntmps14 rfl rfl ?_
 have c := exr noS hP
 refine w9d ?_
 refine qI rfl (xH [u] (v := .agg #[u]) rfl rfl c.pins (fun i w2 ab j l m => ?_))
 have o : w.heap.size ≤ i := by have := c.size; omega
 obtain ⟨G9, g, d, p, ad⟩ := j.shut (c.step l m) o
 refine qI rfl (xH [v] (v := .agg #[v]) rfl rfl d.pins (fun q ae af r s t => ?_))
 have x : w.heap.size ≤ q := by have := d.size; omega
 obtain ⟨ag, f, b, y, ah⟩ := r.shut (d.step s t) x
 refine qM (.bool false) ?_
 refine qe (zA (w9b ?_))
 refine qD rfl (zH (k := 0) rfl Tryz.underlying32 rfl nz30 rfl) (qD rfl (zJ (u := u) ag30 rfl ((cC b.pins f) _ _ _ (p 0 _ rfl))) (qD rfl (zH (k := 0) rfl Tryz.underlying32 rfl nz30 rfl) (qD rfl (zJ (u := v) ag30 rfl (b.pins _ _ _ (y 0 _ rfl))) (qI rfl (zL (vs := [u, v]) Tryz.func30 nm30 rfl rfl rfl ?_)))))
 refine cD (eqNodeS_spec b.pins (hu.mono (cB g f)) (hv.mono (cB g f))) ?_
 rintro _ ai ⟨aj, rfl, z⟩
 refine rt9 ?_
 have h := b.tr z
 refine qD rfl (xD rfl) (qe (zA ?_))
 refine xU rfl rfl (fun a => ?_) (fun a => ?_)
 replace a := of_decide_eq_true a
 refine cO (w9a ?_)
 refine qM (.bool true) ?_
 refine qe (zA ?_)
 exact cP (zP (zQ (v := .bool true) rfl rfl rfl (⟨_, cgA eB (decide_eq_true a).symm, h⟩)))
 replace a := of_decide_eq_false a
 refine w9d ?_
 refine qM (.bool false) ?_
 refine qe (zA ?_)
 exact cP (zP (zQ (v := .bool false) rfl rfl rfl (⟨_, cgA eB (decide_eq_false a).symm, h⟩)))
end L1
end Go.Proofs.YtakkjmlnmcemaaaGreatDoor
namespace Go.GL
open Go Go.RowKit Go.GL
theorem tC {P : Program} {n : Nat} {env : Nat → Value} {w : World} {fn : Func} {R : Ending → World → Prop} {s t b s2 b2 s3 : Nat} {cs ds : List Value} {v : Value} (hr : fn.results = #[.cell s t, .cell s2 t, .tmp s3]) (hs : Nat.blt s n = true) (hs2 : Nat.blt s2 n = true) (hs3 : Nat.blt s3 n = true) (hv : env s = .pointer (some ⟨b, 0, none⟩)) (hv2 : env s2 = .pointer (some ⟨b2, 0, none⟩)) (hv3 : env s3 = v) (ha : (P.underlying t).map aggD = some true) (hz : (P.info? t).map (·.size) = some cs.length) (hz2 : ds.length = cs.length)
  (hc : ∀ j u, cs[j]? = some u → w.cell? ⟨b, 0 + j, none⟩ = some u) (hd : ∀ j u, ds[j]? = some u → w.cell? ⟨b2, 0 + j, none⟩ = some u) (h : R (.returned (.tuple #[.agg cs.toArray, .agg ds.toArray, v])) w) : bodyPost P fn R .ret (F n env) w := by
 have h2 : s < n := by simpa [Nat.blt_eq] using hs
 have h3 : s2 < n := by simpa [Nat.blt_eq] using hs2
 have h4 : s3 < n := by simpa [Nat.blt_eq] using hs3
 have key : ∀ (b : Nat) (cs : List Value), (P.info? t).map (·.size) = some cs.length → (∀ j u, cs[j]? = some u → w.cell? ⟨b, 0 + j, none⟩ = some u) → (loadVar t ⟨b, 0, none⟩).run P w = .ok (.agg cs.toArray) w := fun b cs hz hc => by
  have hcell : ∀ j u, cs[j]? = some u → w.cell? ((⟨b, 0, none⟩ : Addr).add j) = some u := fun j u hj => by
   have := hc j u hj
   simp only [Addr.add]
   split
   ·simp_all
   ·exact this
  unfold loadVar
  simp only [Sem.run_bind, jG ha, Result.andThen_ok, if_true, qC hz, run_loadCells_list (P := P) w ⟨b, 0, none⟩ cs hcell, Sem.run_pure]
 have hl1 := key b cs hz hc
 have hl2 := key b2 ds (by rw [hz2]; exact hz) hd
 refine bodyPost_ret (v := .tuple #[.agg cs.toArray, .agg ds.toArray, v]) ?_ rfl h
 have he : (F n env).tmps[s]?.getD undef = .pointer (some ⟨b, 0, none⟩) := by simp [F, h2, hv]
 have he2 : (F n env).tmps[s2]?.getD undef = .pointer (some ⟨b2, 0, none⟩) := by simp [F, h3, hv2]
 have he3 : (F n env).tmps[s3]?.getD undef = v := by simp [F, h4, hv3]
 simp [results, hr, he, he2, he3, asAddr, hl1, hl2]
end Go.GL
namespace Go.Proofs
open Go.Shelf
def Tryz.lays189_ren : Go.Shelf.Ren := ⟨fun | 189 => 116 | 125 => 120 | 257 => 119 | 128 => 131 | 129 => 132 | 294 => 122 | 295 => 123 | 296 => 124 | 297 => 125 | 298 => 126 | 299 => 127 | 216 => 128 | 300 => 129 | 301 => 130 | 328 => 137 | 329 => 138 | 330 => 139 | 331 => 140 | 332 => 141 | 215 => 89 | 343 => 146 | n => n, fun | 28 => 56 | 3 => 3 | 46 => 109 | 0 => 0 | 51 => 147 | 53 => 138 | 4 => 4 | 183 => 142 | 182 => 141 | 131 => 99 | 5 => 5 | 9 => 9 | 218 => 154 | 222 => 158 | 228 => 163 | 229 => 164 | n => n, fun | n => n⟩
theorem Tryz.lays189 : Go.Proofs.Lays.n189 Tryz.prog Tryz.lays189_ren := {
 mixed := by kernel_rfl
 f125 := Tryz.func120.trans (congrArg some (by kernel_rfl))
 f128 := Tryz.func131.trans (congrArg some (by kernel_rfl))
 f129 := Tryz.func132.trans (congrArg some (by kernel_rfl))
 f189 := Tryz.func116.trans (congrArg some (by kernel_rfl))
 f215 := Tryz.func89.trans (congrArg some (by kernel_rfl))
 f216 := Tryz.func128.trans (congrArg some (by kernel_rfl))
 f257 := Tryz.func119.trans (congrArg some (by kernel_rfl))
 f294 := Tryz.func122.trans (congrArg some (by kernel_rfl))
 f295 := Tryz.func123.trans (congrArg some (by kernel_rfl))
 f296 := Tryz.func124.trans (congrArg some (by kernel_rfl))
 f297 := Tryz.func125.trans (congrArg some (by kernel_rfl))
 f298 := Tryz.func126.trans (congrArg some (by kernel_rfl))
 f299 := Tryz.func127.trans (congrArg some (by kernel_rfl))
 f300 := Tryz.func129.trans (congrArg some (by kernel_rfl))
 f301 := Tryz.func130.trans (congrArg some (by kernel_rfl))
 f328 := Tryz.func137.trans (congrArg some (by kernel_rfl))
 f329 := Tryz.func138.trans (congrArg some (by kernel_rfl))
 f330 := Tryz.func139.trans (congrArg some (by kernel_rfl))
 f331 := Tryz.func140.trans (congrArg some (by kernel_rfl))
 f332 := Tryz.func141.trans (congrArg some (by kernel_rfl))
 f343 := Tryz.func146.trans (congrArg some (by kernel_rfl))
 t0 := Tryz.underlying0
 a0 := Tryz.isAgg0
 z0 := Tryz.sizeOf0
 v0 := Tryz.zeroValue0
 t3 := Tryz.underlying3
 a3 := Tryz.isAgg3
 z3 := Tryz.sizeOf3
 v3 := Tryz.zeroValue3
 t4 := Tryz.underlying4
 a4 := Tryz.isAgg4
 z4 := Tryz.sizeOf4
 v4 := Tryz.zeroValue4
 t5 := Tryz.underlying5
 a5 := Tryz.isAgg5
 z5 := Tryz.sizeOf5
 v5 := Tryz.zeroValue5
 t9 := Tryz.underlying9
 a9 := Tryz.isAgg9
 z9 := Tryz.sizeOf9
 v9 := Tryz.zeroValue9
 t28 := Tryz.underlying56
 a28 := Tryz.isAgg56
 z28 := Tryz.sizeOf56
 v28 := Tryz.zeroValue56
 t46 := Tryz.underlying109
 a46 := Tryz.isAgg109
 z46 := Tryz.sizeOf109
 v46 := Tryz.zeroValue109
 t51 := Tryz.underlying147
 a51 := Tryz.isAgg147
 z51 := Tryz.sizeOf147
 v51 := Tryz.zeroValue147
 t53 := Tryz.underlying138
 a53 := Tryz.isAgg138
 z53 := Tryz.sizeOf138
 v53 := Tryz.zeroValue138
 t131 := Tryz.underlying99
 a131 := Tryz.isAgg99
 z131 := Tryz.sizeOf99
 v131 := Tryz.zeroValue99
 t182 := Tryz.underlying141
 a182 := Tryz.isAgg141
 z182 := Tryz.sizeOf141
 v182 := Tryz.zeroValue141
 t183 := Tryz.underlying142
 a183 := Tryz.isAgg142
 z183 := Tryz.sizeOf142
 v183 := Tryz.zeroValue142
 t218 := Tryz.underlying154
 a218 := Tryz.isAgg154
 z218 := Tryz.sizeOf154
 v218 := Tryz.zeroValue154
 t222 := Tryz.underlying158
 a222 := Tryz.isAgg158
 z222 := Tryz.sizeOf158
 v222 := Tryz.zeroValue158
 t228 := Tryz.underlying163
 a228 := Tryz.isAgg163
 z228 := Tryz.sizeOf163
 v228 := Tryz.zeroValue163
 t229 := Tryz.underlying164
 a229 := Tryz.isAgg164
 z229 := Tryz.sizeOf164
 v229 := Tryz.zeroValue164 }
open Go.Sort Go.RowKit in
theorem Tryz.slices_Sort_int (blk off cap : Nat) (zs : List Int) (w : World) (hH : Holds (Value.int .i64) w blk off zs.toArray) (hblk : blk < w.heap.size) (hsz : zs.length < 4611686018427387904) :
  Calls Tryz.prog 116 #[.slice (some ⟨blk, off, none⟩) zs.length cap] w fun e w' =>
   e = .returned (.tuple #[]) ∧ ∃ n os, w' = grow (putRow (Value.int .i64) (Sort.ahead w n) blk off (zs.mergeSort fun x y => decide (x ≤ y)).toArray) os := Any.slices_Sort_int Tryz.lays189 blk off cap zs w hH hblk hsz
def Tryz.laysNm220_ren : Go.Shelf.Ren := ⟨fun | 20 => 117 | n => n, fun | 22 => 56 | 3 => 3 | 4 => 4 | 0 => 0 | n => n, fun | n => n⟩
theorem Tryz.laysNm220 : Go.Proofs.Lays2.n20 Tryz.prog Tryz.laysNm220_ren := {
 mixed := by kernel_rfl
 f20 := Tryz.func117.trans (congrArg some (by kernel_rfl))
 t0 := Tryz.underlying0
 a0 := Tryz.isAgg0
 z0 := Tryz.sizeOf0
 v0 := Tryz.zeroValue0
 t3 := Tryz.underlying3
 a3 := Tryz.isAgg3
 z3 := Tryz.sizeOf3
 v3 := Tryz.zeroValue3
 t4 := Tryz.underlying4
 a4 := Tryz.isAgg4
 z4 := Tryz.sizeOf4
 v4 := Tryz.zeroValue4
 t22 := Tryz.underlying56
 a22 := Tryz.isAgg56
 z22 := Tryz.sizeOf56
 v22 := Tryz.zeroValue56
 i3 := by kernel_rfl }
open Go.RowKit Go.Lib Go.Sort in
theorem Tryz.slices_Compact_int (blk off cap : Nat) (zs : List Int) (w : World) (hH : Holds (Value.int .i64) w blk off zs.toArray) (hsz : zs.length ≤ 9223372036854775807) (hcap : zs.length ≤ cap) :
  Calls Tryz.prog 117 #[.slice (some ⟨blk, off, none⟩) zs.length cap] w fun e w' => e = .returned (.slice (some ⟨blk, off, none⟩) (Lib.compact zs).length cap) ∧ ∃ q, w' = putRow (Value.int .i64) (Sort.ahead w q) blk off (Lib.compact zs ++ List.replicate (zs.length - (Lib.compact zs).length) 0).toArray := Any.slices_Compact_int Tryz.laysNm220 blk off cap zs w hH hsz hcap
open Go.RowKit Go.Lib Go.Sort in
theorem Tryz.slices_Compact_int_empty (a : Option Addr) (cap : Nat) (w : World) :
  Calls Tryz.prog 117 #[.slice a 0 cap] w fun e w' => e = .returned (.slice a 0 cap) ∧ w' = w := Any.slices_Compact_int_empty Tryz.laysNm220 a cap w
open Go.RowKit Go.Sort in
theorem Tryz.slices_Sort_int_none (p : Option Addr) (cap : Nat) (w : World) :
  Calls Tryz.prog 116 #[.slice p 0 cap] w fun e w' => e = .returned (.tuple #[]) ∧ w' = w := Any.slices_Sort_int_none Tryz.lays189 p cap w
end Go.Proofs
namespace Go.GL
open Go Go.RowKit
theorem ge_mk {a b : Nat} (hr : ∀ r, roG a r → ∃ m, roG b m ∧ geG r m) (hl : ∀ l, loG b l → ∃ x, loG a x ∧ geG x l) : geG a b :=
 ge_iff.2 ⟨fun r h hg => by obtain ⟨m, hm, e⟩ := hr r h; exact vY hm (xI hg e), fun l h hg => by obtain ⟨x, hx, e⟩ := hl l h; exact vS hx (xI e hg)⟩
section
variable {q : PSt} {lf : Bool} {g : Nat} {W W' ss ss' kept kept' : List Int}
theorem RdW.set (h : RdW q lf g W ss kept) (hs : ∀ j, j ∈ ss' ↔ j ∈ ss) (hw : ∀ j, (j ∈ ss' ∨ j ∈ W') ↔ (j ∈ ss ∨ j ∈ W)) (nd : ss'.Nodup) (hk : ∀ j, j ∈ kept' ↔ j ∈ kept) (ndk : kept'.Nodup) : RdW q lf g W' ss' kept' := by
 refine ⟨fun i hi => h.all i (((hw i).1 hi.symm).symm), nd, ndk, fun i => by rw [hk, hs]; exact h.keep i, fun i hi hr => ?_, fun l hl => ?_⟩
 ·obtain ⟨r, h1, h2, h3⟩ := h.pass i ((hs i).1 hi) hr
  exact ⟨r, h1, h2, fun l hl => by obtain ⟨j, hj, e⟩ := h3 l hl; exact ⟨j, (hw j).2 hj, e⟩⟩
 ·obtain ⟨i, hi, e⟩ := h.opts l hl
  exact ⟨i, (hw i).2 hi, e⟩
end
structure LnOk (q : PSt) (lf : Bool) (g : Nat) (ln : List Int) (i : Nat) (out : List Int) : Prop where
 rd : RdW q lf g (ln.drop i) (ln.take i) out
 nd : ln.Nodup
 srt : out.Pairwise (· < ·)
section
variable {q : PSt} {lf : Bool} {g : Nat} {ln ln' out : List Int} {i : Nat}
theorem gQ {l : List Int} (h : l.Pairwise (· < ·)) : l.Nodup := h.imp fun {a b} hab e => by omega
theorem LnOk.start (hok : PoolOk q) {f : Int} (hf : PlaceOk q f) (hc : ∀ l, opD lf (pd q f) l → CanonG l) : LnOk q lf (pd q f) (ol q lf f) 0 [] := by
 have om := mW hok (lf := lf) hf
 refine ⟨?_, ?_, List.Pairwise.nil⟩
 ·rw [List.drop_zero, List.take_zero]
  refine ⟨fun j hj => ?_, List.nodup_nil, List.nodup_nil, fun j => by simp, (fun j hj => (List.not_mem_nil hj).elim), fun l hl => ?_⟩
  ·have hj := om.1 j (hj.resolve_right (by simp))
   exact ⟨hj.1, hc _ hj.2, rU hj.2⟩
  ·obtain ⟨z, hz, e⟩ := om.2 l hl
   exact ⟨z, cG hz, e ▸ eqG.refl _⟩
 ·have hr := hok.ar.rise f.toNat (by have := hf.1; have := hf.2; omega)
  unfold ol
  split
  ·exact gQ hr.1
  ·exact gQ hr.2
theorem mem_cut (hi : i < ln.length) (j : Int) : j ∈ ln.drop i ↔ j ∈ ln.drop (i + 1) ++ [ln.getD i 0] := by
 rw [xA ln 0 hi, List.mem_append, List.mem_cons, List.mem_singleton]
 exact or_comm
theorem mem_tk (hi : i < ln.length) : ln.take (i + 1) = ln.take i ++ [ln.getD i 0] := jF ln 0 hi
theorem LnOk.rd2 (h : LnOk q lf g ln i out) (hi : i < ln.length) : RdW q lf g (ln.drop (i + 1) ++ [ln.getD i 0]) (ln.take i) out :=
 h.rd.set (fun _ => Iff.rfl) (fun j => or_congr Iff.rfl (mem_cut hi j).symm) h.rd.nd (fun _ => Iff.rfl) h.rd.ndk
theorem LnOk.new (h : LnOk q lf g ln i out) (hi : i < ln.length) : ln.getD i 0 ∉ ln.take i := by
 have hn := h.nd
 rw [← List.take_append_drop i ln, xA ln 0 hi, List.nodup_append] at hn
 exact fun hm => hn.2.2 _ hm _ List.mem_cons_self rfl
theorem LnOk.at_ (h : LnOk q lf g ln i out) (hi : i < ln.length) : PlaceOk q (ln.getD i 0) := (h.rd2 hi).all _ (cF (List.mem_append_right _ (List.mem_singleton_self _))) |>.1
theorem LnOk.len (h : LnOk q lf g ln i out) : ln.length ≤ q.ns.length := jH _ _ h.nd fun x hx => by
 rw [← List.take_append_drop i ln] at hx
 have := (h.rd.all x ((List.mem_append.1 hx).symm)).1
 exact ⟨this.1, this.2⟩
theorem LnOk.keep (h : LnOk q lf g ln i out) (hi : i < ln.length) (hr : ¬ revP lf g (pd q (ln.getD i 0))) : LnOk q lf g ln (i + 1) (putL out (ln.getD i 0)) := by
 have k := (h.rd2 hi).kept (h.new hi) hr
 refine ⟨k.set (fun j => by rw [mem_tk hi]) (fun j => by rw [mem_tk hi]) (by rw [mem_tk hi]; exact k.nd) (fun j => ?_) (gQ (tG h.srt)), h.nd, tG h.srt⟩
 rw [mem_putL, List.mem_append, List.mem_singleton]; exact or_comm
theorem LnOk.pass (hok : PoolOk q) (h : LnOk q lf g ln i out) (hi : i < ln.length) {t : Int} (ht : PlaceOk q t) (ho : opD (!lf) (pd q (ln.getD i 0)) (pd q t)) (hg : geD lf g (pd q t))
  {ex : List Int} (he : ln' = ln ++ ex) (hn : ln'.Nodup) (h1 : ∀ z ∈ ol q lf t, z ∈ ln') (h2 : ∀ z ∈ ex, z ∈ ol q lf t) : LnOk q lf g ln' (i + 1) out := by
 have k := (h.rd2 hi).pass_on hok (h.new hi) ht ho hg
 have et : ln'.take (i + 1) = ln.take i ++ [ln.getD i 0] := by rw [he, List.take_append_of_le_length (by omega), mem_tk hi]
 have ed : ln'.drop (i + 1) = ln.drop (i + 1) ++ ex := by rw [he, List.drop_append_of_le_length (by omega)]
 have hl : ∀ j, j ∈ ln' ↔ (j ∈ ln.take i ++ [ln.getD i 0]) ∨ j ∈ ln.drop (i + 1) ++ ex := fun j => by
  rw [← et, ← ed, ← List.mem_append, List.take_append_drop]
 refine ⟨k.set (fun j => by rw [et]) (fun j => ?_) (by rw [et]; exact k.nd) (fun _ => Iff.rfl) k.ndk, hn, h.srt⟩
 rw [et, ed]
 constructor
 ·rintro (a | a)
  ·exact cF a
  ·rcases List.mem_append.1 a with a | a
   ·exact cG (List.mem_append_left _ a)
   ·exact cG (List.mem_append_right _ (h2 j a))
 ·rintro (a | a)
  ·exact cF a
  ·rcases List.mem_append.1 a with a | a
   ·exact cG (List.mem_append_left _ a)
   ·exact (hl j).1 (h1 j a)
theorem LnOk.done (h : LnOk q lf g ln i out) (hi : ln.length ≤ i) : RdW q lf g [] ln out := by
 have k := h.rd
 rwa [List.drop_eq_nil_of_le hi, List.take_of_length_le hi] at k
end
structure ExOk (ln ln' more : List Int) (k : Nat) : Prop where
 ex : ∃ ex, ln' = ln ++ ex ∧ ∀ z ∈ ex, z ∈ more
 nd : ln'.Nodup
 all : ∀ z ∈ more.take k, z ∈ ln'
section
variable {ln ln' more : List Int} {k : Nat}
theorem ExOk.start (h : ln.Nodup) : ExOk ln ln more 0 := ⟨⟨[], by simp, fun z hz => by cases hz⟩, h, fun z hz => by simp at hz⟩
theorem ExOk.skip (h : ExOk ln ln' more k) (hk : k < more.length) (hm : more.getD k 0 ∈ ln') : ExOk ln ln' more (k + 1) := ⟨h.ex, h.nd, fun z hz => by
 rw [jF more 0 hk] at hz
 rcases List.mem_append.1 hz with a | a
 ·exact h.all z a
 ·rw [List.mem_singleton.1 a]; exact hm⟩
theorem ExOk.add (h : ExOk ln ln' more k) (hk : k < more.length) (hm : more.getD k 0 ∉ ln') : ExOk ln (ln' ++ [more.getD k 0]) more (k + 1) := by
 obtain ⟨ex, he, h2⟩ := h.ex
 refine ⟨⟨ex ++ [more.getD k 0], by rw [he, List.append_assoc], fun z hz => ?_⟩, List.nodup_append.2 ⟨h.nd, by simp, fun a ha b hb => by rw [List.mem_singleton.1 hb]; exact fun e => hm (e ▸ ha)⟩, fun z hz => ?_⟩
 ·rcases List.mem_append.1 hz with a | a
  ·exact h2 z a
  ·rw [List.mem_singleton.1 a]; exact yE hk
 ·rw [jF more 0 hk] at hz
  rcases List.mem_append.1 hz with a | a
  ·exact List.mem_append_left _ (h.all z a)
  ·exact List.mem_append_right _ a
end
variable {t : Int} {xs : List Int}
theorem ExOk.pass {q : PSt} {lf : Bool} {g : Nat} {ln ln' more out : List Int} {i k : Nat} (e : ExOk ln ln' more k) (hk : more.length ≤ k) (hm : more = ol q lf t) (hok : PoolOk q) (h : LnOk q lf g ln i out) (hi : i < ln.length) (ht : PlaceOk q t) (ho : opD (!lf) (pd q (ln.getD i 0)) (pd q t)) (hg : geD lf g (pd q t)) : LnOk q lf g ln' (i + 1) out := by
 obtain ⟨ex, he, h2⟩ := e.ex
 have ha := e.all
 rw [List.take_of_length_le hk] at ha
 subst hm
 exact h.pass hok hi ht ho hg he e.nd ha h2
theorem ol_yes {q : PSt} {lf : Bool} (h : lf = true) : (q.ns.getD t.toNat default).l = ol q lf t := by unfold ol; rw [if_pos h]
theorem ol_no {q : PSt} {lf : Bool} (h : lf = false) : (q.ns.getD t.toNat default).r = ol q lf t := by unfold ol; rw [h]; rfl
theorem has_yes {j : Nat} {n : Int} (hj : j < xs.length) (h : xs.getD j 0 = n) : decide (n ∈ xs) = true := decide_eq_true (h ▸ yE hj)
theorem has_no {n : Int} (h : ∀ i, i < xs.length → xs.getD i 0 ≠ n) : decide (n ∈ xs) = false := decide_eq_false fun hm => by
 obtain ⟨i, hi, e⟩ := List.getElem_of_mem hm
 exact h i hi (by simp [List.getD, hi, e])
theorem can_node {q1 q2 : PSt} (hok2 : PoolOk q2) {g c : Nat} {r2 : Int} {sL oL sR oR : List Int} (h1 : RdW q1 true g [] sL oL) (h2 : RdW q1 false g [] sR oR)
  (hr : PlaceOk q2 r2) (hg : pd q2 r2 = mkG (oL.map (pd q1)) (oR.map (pd q1)))
  (hc : c = mkG ((woL (ol q2 true r2) (domL (gX q2 (ol q2 true r2)) true (ol q2 true r2).length (ol q2 true r2).length) (ol q2 true r2).length).map (pd q2)) ((woL (ol q2 false r2) (domL (gX q2 (ol q2 false r2)) false (ol q2 false r2).length (ol q2 false r2).length) (ol q2 false r2).length).map (pd q2))) : CanonG c ∧ eqG c g := by
 have hx : ∀ (lf : Bool) (s o : List Int), RdW q1 lf g [] s o → (∀ i, opD lf (pd q2 r2) i ↔ i ∈ o.map (pd q1)) → RedOk lf g (s.map (pd q1)) ((ol q2 lf r2).map (pd q2)) ∧
   MaxOf lf ((ol q2 lf r2).map (pd q2)) ((woL (ol q2 lf r2) (domL (gX q2 (ol q2 lf r2)) lf (ol q2 lf r2).length (ol q2 lf r2).length) (ol q2 lf r2).length).map (pd q2)) := by
  intro lf s o h ho
  have om := mW hok2 (lf := lf) hr
  have hd := h.done
  have hm : ∀ i, i ∈ (ol q2 lf r2).map (pd q2) ↔ i ∈ o.map (pd q1) := fun i => by
   rw [← ho i, List.mem_map]
   exact ⟨fun ⟨z, hz, e⟩ => e ▸ (om.1 z hz).2, fun hi => by obtain ⟨z, hz, e⟩ := om.2 i hi; exact ⟨z, hz, e⟩⟩
  refine ⟨⟨hd.canon, hd.low, fun i => (hm i).trans (hd.keep i), hd.pass, hd.opts⟩, max_wo hok2 ?_ fun z hz => ⟨(om.1 z hz).1, ?_⟩⟩
  ·have hrs := hok2.ar.rise r2.toNat (by have := hr.1; have := hr.2; omega)
   unfold ol
   split
   ·exact gQ hrs.1
   ·exact gQ hrs.2
  ·have := (hm (pd q2 z)).1 (List.mem_map.2 ⟨z, hz, rfl⟩)
   exact hd.canon _ ((hd.keep _).1 this).1
 obtain ⟨a1, a2⟩ := hx true sL oL h1 fun i => by rw [opD_t, hg, lo_mk]
 obtain ⟨b1, b2⟩ := hx false sR oR h2 fun i => by rw [opD_f, hg, ro_mk]
 subst hc
 exact canon_of a1 b1 a2 b2 (fun i => lo_mk) fun i => ro_mk
theorem RdW.kpl {q : PSt} {lf : Bool} {g : Nat} {ln out : List Int} (h : RdW q lf g [] ln out) : ∀ z ∈ out, PlaceOk q z := fun z hz => (h.all z (cG ((h.keep z).1 hz).1)).1
theorem wo_pl {q : PSt} {lf : Bool} (hok : PoolOk q) (ht : PlaceOk q t) {D : List Int} : ∀ z ∈ woL (ol q lf t) D (ol q lf t).length, PlaceOk q z := fun z hz => by
 obtain ⟨i, hi, _, rfl⟩ := (tX _).1 hz
 exact ((mW hok ht).1 _ (yE hi)).1
theorem can_opts {q q1 : PSt} {r : Int} {ys : List Int} (h1 : ∀ z ∈ xs, PlaceOk q z ∧ CanonG (pd q z)) (h2 : ∀ z ∈ ys, PlaceOk q z ∧ CanonG (pd q z)) (hg : pd q1 r = mkG (xs.map (pd q)) (ys.map (pd q))) (lf : Bool) : ∀ l, opD lf (pd q1 r) l → CanonG l := fun l hl => by
 rw [hg] at hl
 cases lf
 ·obtain ⟨z, hz, rfl⟩ := List.mem_map.1 (ro_mk.1 (opD_f.1 hl))
  exact (h2 z hz).2
 ·obtain ⟨z, hz, rfl⟩ := List.mem_map.1 (lo_mk.1 (opD_t.1 hl))
  exact (h1 z hz).2
structure StepOk (ns : List Nd) (bs : List Int) (n1 : List Nd) (b1 : List Int) (z : Int) (m : Nat) : Prop where
 ok : PoolOk (bkq n1 b1)
 px : PX (bkq ns bs) (bkq n1 b1)
 pl : PlaceOk (bkq n1 b1) z
 len : n1.length ≤ ns.length + m
structure CnOk (q : PSt) (ats : List Int) (k : Nat) (fs : List Nd) : Prop where
 len : ats.length = k
 at_ : ∀ i, i < k → PlaceOk q (ats.getD i 0) ∧ CanonG (pd q (ats.getD i 0)) ∧ eqG (pd q (ats.getD i 0)) (den fs i)
section
variable {q q' : PSt} {ats : List Int} {k : Nat} {fs : List Nd}
theorem CnOk.start : CnOk q [] 0 fs := ⟨rfl, fun i hi => absurd hi (cK i)⟩
theorem CnOk.step (h : CnOk q ats k fs) (hx : PX q q') (hok : PoolOk q) (hok' : PoolOk q') {z : Int} (hz : PlaceOk q' z) (hc : CanonG (pd q' z)) (he : eqG (pd q' z) (den fs k)) : CnOk q' (ats ++ [z]) (k + 1) fs := by
 refine ⟨by rw [List.length_append, h.len]; rfl, fun i hi => ?_⟩
 by_cases e : i < k
 ·rw [yX (by rw [h.len]; exact e)]
  obtain ⟨h1, h2, h3⟩ := h.at_ i e
  rw [hx.pd hok hok' h1]
  exact ⟨hx.place h1, h2, h3⟩
 ·have e2 : i = k := by omega
  subst e2
  rw [xJ h.len.symm]
  exact ⟨hz, hc, he⟩
theorem CnOk.pl (h : CnOk q ats k fs) {l : List Int} (hl : ∀ z ∈ l, 0 ≤ z ∧ z < (k : Int)) : ∀ z ∈ atL ats l, PlaceOk q z ∧ CanonG (pd q z) := fun z hz => by
 obtain ⟨o, ho, rfl⟩ := mem_atL.1 hz
 have := h.at_ o.toNat (by have := hl o ho; omega)
 exact ⟨this.1, this.2.1⟩
theorem CnOk.node (h : CnOk q ats k fs) (ho : OptsOk fs) (hk : k < fs.length) : eqG (mkG ((atL ats (fs.getD k default).l).map (pd q)) ((atL ats (fs.getD k default).r).map (pd q))) (den fs k) := by
 have oo := xB ho hk
 have key : ∀ (l : List Int), (∀ z ∈ l, 0 ≤ z ∧ z < (k : Int)) → (∀ x ∈ (atL ats l).map (pd q), ∃ z ∈ l, eqG x (den fs z.toNat)) ∧ ∀ z ∈ l, ∃ x ∈ (atL ats l).map (pd q), eqG x (den fs z.toNat) := fun l hl => by
  refine ⟨fun x hx => ?_, fun z hz => ?_⟩
  ·obtain ⟨y, hy, rfl⟩ := List.mem_map.1 hx
   obtain ⟨o, ho2, rfl⟩ := mem_atL.1 hy
   exact ⟨o, ho2, (h.at_ o.toNat (by have := hl o ho2; omega)).2.2⟩
  ·exact ⟨_, List.mem_map.2 ⟨_, mem_atL.2 ⟨z, hz, rfl⟩, rfl⟩, (h.at_ z.toNat (by have := hl z hz; omega)).2.2⟩
 have kl := key _ oo.1
 have kr := key _ oo.2
 constructor
 ·refine ge_mk (fun r hr => ?_) fun l hl => ?_
  ·obtain ⟨z, hz, e⟩ := kr.1 r (ro_mk.1 hr)
   exact ⟨_, (qE ho hk).2 ⟨z, hz, rfl⟩, e.1⟩
  ·obtain ⟨z, hz, rfl⟩ := (qH ho hk).1 hl
   obtain ⟨x, hx, e⟩ := kl.2 z hz
   exact ⟨x, lo_mk.2 hx, e.1⟩
 ·refine ge_mk (fun r hr => ?_) fun l hl => ?_
  ·obtain ⟨z, hz, rfl⟩ := (qE ho hk).1 hr
   obtain ⟨x, hx, e⟩ := kr.2 z hz
   exact ⟨x, ro_mk.2 hx, e.2⟩
  ·obtain ⟨z, hz, e⟩ := kl.1 l (lo_mk.1 hl)
   exact ⟨_, (qH ho hk).2 ⟨z, hz, rfl⟩, e.2⟩
end
end Go.GL
namespace Go.GL
open Go Go.RowKit
section
variable {P : Program} {ops : Array Oper} {Q : Exit → Act → World → Prop} {md : Region.Mode} {S : World → Prop} {lt : List Nat}
def drL (P : Program) (md : Region.Mode) (ops : Array Oper) (Q : Exit → Act → World → Prop) (S : World → Prop) (lt : List Nat) : Nat → Array Bool → Act → World → Prop
 | 0, listed, a, w => Region.ready md ops listed = [] ∧ Q .normal a w
 | fuel + 1, listed, a, w =>
  (Region.ready md ops listed = [] → Q .normal a w) ∧
  ∀ i ∈ Region.ready md ops listed, wpOp P ops Q i (fun a' w' => (i ∉ lt → S w') ∧ drL P md ops Q S lt fuel (listed.setIfInBounds i true) a' w') a w
theorem rG : ∀ (fuel : Nat) (listed : Array Bool) (a : Act) (w : World), drL P md ops Q S lt fuel listed a w → wpAny P md ops Q fuel listed a w
 | 0, _, _, _, h => h
 | fuel + 1, _, _, _, h => ⟨h.1, fun i hi => wpOp_mono (fun a' w' h' => rG fuel _ a' w' h'.2) (h.2 i hi)⟩
variable {i d : Nat} {v : Value}
theorem drL_first {oi : Oper} (hi : ops[i]? = some oi) (hsel : ∀ (j : Nat) (o : Oper) cs b, ops[j]? = some o → o.op ≠ .select cs b)
  (hQ : ∀ c a w, Q (.panic c) (a.put oi.dst v) w → Q (.panic c) a w) {bl : List Nat} (hsub : ∀ j ∈ lt, j ∈ bl) (hlate : ∀ j oj, ops[j]? = some oj → j ∈ bl → ∃ e ∈ oj.after, Region.binds md e = true ∧ (e.on = i ∨ e.on ∈ bl)) :
  ∀ (fuel : Nat) (listed : Array Bool) (a : Act) (w : World),
   (∀ j oj, ops[j]? = some oj → j ≠ i → listed.getD j true = false → (∀ e ∈ oj.after, Region.binds md e = true → e.on ≠ i) → oi.apart ops oj = true) →
   (∀ j ∈ bl, listed.getD j true = false) →
   i ∈ Region.ready md ops listed → YieldsIf P ops S oi v a → S w →
   drL P md ops Q S lt fuel (listed.setIfInBounds i true) (a.put oi.dst v) w → drL P md ops Q S lt (fuel + 1) listed a w := by
 intro fuel
 induction fuel with
 | zero =>
  intro listed a w _ _ hr hy hS H
  refine ⟨fun h => (by rw [h] at hr; cases hr), fun j hj => ?_⟩
  by_cases hji : j = i
  ·subst hji; exact hy.wpOp hi hS ⟨fun _ => hS, H⟩
  ·have := ready_mono hj hji
   rw [H.1] at this
   cases this
 | succ fuel ih =>
  intro listed a w hfree hun2 hr hy hS H
  refine ⟨fun h => (by rw [h] at hr; cases hr), fun j hj => ?_⟩
  by_cases hji : j = i
  ·subst hji; exact hy.wpOp hi hS ⟨fun _ => hS, H⟩
  ·have h1 := H.2 j (ready_mono hj hji)
   obtain ⟨hjun, oj, hoj, hall⟩ := mem_ready.1 hj
   have hlst : ∀ x, listed.getD x true = false → listed.getD x false = true → False := fun x h0 h1 => by
    rcases Nat.lt_or_ge x listed.size with h' | h'
    ·simp [h'] at h0 h1; rw [h0] at h1; cases h1
    ·simp [Array.getElem?_eq_none h'] at h1
   have hnot : ∀ e ∈ oj.after, Region.binds md e = true → e.on ≠ i := fun e he hb heq => by
    have h1 := hall e he hb
    have h0 := (mem_ready.1 hr).1
    rw [heq] at h1
    exact hlst i h0 h1
   have h2 := wpOp_putIf hoj (hfree j oj hoj hji hjun hnot) (fun cs b => hsel i oi cs b hi) (fun cs b => hsel j oj cs b hoj) hQ hy h1
   have hfree' : ∀ k ok, ops[k]? = some ok → k ≠ i → (listed.setIfInBounds j true).getD k true = false →
     (∀ e ∈ ok.after, Region.binds md e = true → e.on ≠ i) → oi.apart ops ok = true := fun k ok hk hki hun hno => by
    refine hfree k ok hk hki ?_ hno
    by_cases hjk : j = k
    ·subst hjk; exact hjun
    ·rw [getD_set_ne true hjk] at hun; exact hun
   have hjb : j ∉ bl := fun hl => by
    obtain ⟨e, he, hb, heq⟩ := hlate j oj hoj hl
    rcases heq with heq | heq
    ·exact hnot e he hb heq
    ·exact hlst e.on (hun2 e.on heq) (hall e he hb)
   have hjl : j ∉ lt := fun h => hjb (hsub j h)
   refine wpOp_mono (fun a' w' h3 => ⟨fun _ => h3.2.1 hjl, ih (listed.setIfInBounds j true) a' w' hfree' (fun k hk => ?_) (ready_mono hr (Ne.symm hji)) h3.1 (h3.2.1 hjl) ?_⟩) h2
   ·have hjk : j ≠ k := fun e => hjb (e ▸ hk)
    rw [getD_set_ne true hjk]; exact hun2 k hk
   ·rw [Array.setIfInBounds_comm _ _ hji]
    exact h3.2.2
def waitsL (ops : Array Oper) (lt bl : List Nat) (listed : Array Bool) (i : Nat) : Bool :=
 lt.all (fun j => bl.contains j) && bl.all fun j => !(listed.getD j true) && match ops[j]? with
  | none => false
  | some oj => oj.after.any fun e => Region.binds .any e && (Nat.beq e.on i || bl.contains e.on)
structure DRL (P : Program) (ops : Array Oper) (Q : Exit → Act → World → Prop) (S : World → Prop) (lt : List Nat) (fuel : Nat) (listed : Array Bool) (a : Act) (w : World) : Prop where
 out : drL P .any ops (NoPanic Q) S lt fuel listed a w
variable {n fuel : Nat} {env : Nat → Value} {listed : Array Bool} {w : World} {o : Oper}
theorem xS (bl : List Nat) (hi : ops[i]? = some o) (hd : o.dst = some d) (hok : okO n o = true) (hw : Region.wanted o (yielded ops (F n env).tmps) = true)
  (hf : (Region.noSelect ops && Region.free .any ops listed i && (Region.ready .any ops listed).contains i && waitsL ops lt bl listed i) = true)
  (hy : ∀ w, S w → (execOp (ev env) o).run P w = .ok (.value v) w) (hS : S w)
  (h : DRL P ops Q S lt fuel (listed.setIfInBounds i true) (F n (upd env d v)) w) : DRL P ops Q S lt (fuel + 1) listed (F n env) w := by
 simp only [Bool.and_eq_true] at hf
 obtain ⟨⟨⟨f, g⟩, k⟩, h4'⟩ := hf
 unfold waitsL at h4'
 obtain ⟨l, m⟩ := (Bool.and_eq_true _ _).mp h4'
 have hsub : ∀ j ∈ lt, j ∈ bl := fun j hj => by simpa using List.all_eq_true.1 l j hj
 have b : ∀ j ∈ bl, listed.getD j true = false ∧ ∀ oj, ops[j]? = some oj → ∃ e ∈ oj.after, Region.binds .any e = true ∧ (e.on = i ∨ e.on ∈ bl) := fun j hj => by
  have a := List.all_eq_true.1 m j hj
  simp only [Bool.and_eq_true, Bool.not_eq_true'] at a
  refine ⟨a.1, fun oj hoj => ?_⟩
  have c := a.2
  rw [hoj] at c
  obtain ⟨e, he, hb⟩ := Array.any_eq_true'.1 c
  simp only [Bool.and_eq_true, Bool.or_eq_true, List.contains_iff_mem] at hb
  exact ⟨e, he, hb.1, hb.2.imp Nat.eq_of_beq_eq_true id⟩
 constructor
 exact drL_first hi (Region.noSelect_spec f) (fun _ _ _ h => h) hsub (fun j oj hoj hj => (b j hj).2 oj hoj) fuel listed _ w (Region.free_spec hi g) (fun j hj => (b j hj).1) (by simpa using k) (cF ⟨hw, fun w hs => by rw [fW hok]; exact hy w hs⟩) hS (by rw [hd, tS]; exact h.out)
structure drOpL (P : Program) (ops : Array Oper) (Q : Exit → Act → World → Prop) (S : World → Prop) (lt : List Nat) (n fuel : Nat) (listed : Array Bool) (env : Nat → Value) (w : World) (i : Nat) : Prop where
 out : wpOp P ops (NoPanic Q) i (fun a' w' => (i ∉ lt → S w') ∧ drL P .any ops (NoPanic Q) S lt fuel (listed.setIfInBounds i true) a' w') (F n env) w
theorem pR (hr : Region.ready .any ops listed = [i]) (h : drOpL P ops Q S lt n fuel listed env w i) : DRL P ops Q S lt (fuel + 1) listed (F n env) w :=
 ⟨⟨fun h0 => (by rw [hr] at h0; cases h0), fun j hj => by rw [hr] at hj; simp at hj; subst hj; exact h.out⟩⟩
theorem drOp1L (hi : ops[i]? = some o) (hd : o.dst = some d) (hok : okO n o = true) (hw : Region.wanted o (yielded ops (F n env).tmps) = true)
  (h : EO P (ev env) o w fun v w' => (i ∉ lt → S w') ∧ DRL P ops Q S lt fuel (listed.setIfInBounds i true) (F n (upd env d v)) w') : drOpL P ops Q S lt n fuel listed env w i := by
 constructor
 unfold wpOp
 simp only [hi, hw, if_true]
 left
 unfold Oper.wp
 rw [fW hok]
 exact h _ _ _ fun v w' hk => by rw [hd, tS]; exact ⟨hk.1, hk.2.out⟩
theorem dr_endL (hr : Region.ready .any ops listed = []) (h : Q .normal (F n env) w) : DRL P ops Q S lt fuel listed (F n env) w := by
 cases fuel with
 | zero => exact ⟨⟨hr, NoPanic.normal h⟩⟩
 | succ k => exact ⟨⟨fun _ => NoPanic.normal h, by rw [hr]; simp⟩⟩
theorem c_drawL {id : Nat} {l : List Oper} {m : Nat} (hm : P.follows .mixedOrders = true) (hl : l.toArray.size = m)
  (h : DRL P l.toArray Q S lt m (Array.replicate m false) (F n env) w.drew) : (Code.region id l.toArray true).wp P Q (F n env) w := by
 refine wp_region_noPanic (wp_region_any hm (rG (S := S) (lt := lt) _ _ _ _ ?_))
 rw [hl]
 exact h.out
end
structure Mk (P : Program) (ρ : Operand → Value) (o : Oper) (G : Pin) (mk : Bool) (Φ : Nat → Value → World → Prop) : Prop where
 run : ∀ w K, Pins G w → (∀ v w', Φ w.heap.size v w' → Pins G w' → Below w.heap.size w w' → (mk = true → w.heap.size < w'.heap.size ∧ v.oneCell' = true) → K v w') → EO P ρ o w K
 keep : ∀ b v w w', Φ b v w → Below w.heap.size w w' → Φ b v w'
structure MkI where
 i : Nat
 d : Nat
 deps : List Nat
 nw : Bool
 Φ : List Value → Nat → Value → World → Prop
structure Agree (D : List Nat) (env en : Nat → Value) : Prop where
 eq : ∀ x, x ∉ D → en x = env x
def okD (D : List Nat) : Operand → Bool
 | .tmp t => !(D.any (Nat.beq t))
 | _ => true
theorem Agree.ev {D : List Nat} {env en : Nat → Value} (h : Agree D env en) {x : Operand} {v : Value} (hx : okD D x = true) (hv : ev env x = v) : ev en x = v := by
 subst hv
 cases x with
 | tmp t =>
  refine h.eq t fun hm => ?_
  simp only [okD, Bool.not_eq_true', List.any_eq_false] at hx
  exact hx t hm (Nat.beq_refl t)
 | const v => rfl
 | global g => rfl
 | func f => rfl
structure MkOp (P : Program) (ops : Array Oper) (n : Nat) (D : List Nat) (env : Nat → Value) (G : Pin) (t : MkI) : Prop where
 ex : ∃ o, ops[t.i]? = some o ∧ o.dst = some t.d ∧ okO n o = true ∧ o.guard = none ∧ ∀ en, Agree D env en → (∀ d ∈ t.deps, (en d).oneCell' = true) → Mk P (ev en) o G t.nw (t.Φ (t.deps.map en))
def NeA (b : Nat) : List Nat → Prop
 | [] => True
 | c :: r => b ≠ c ∧ NeA b r
variable {W : World} {en : Nat → Value} {j : Nat}
theorem NeA.of {b : Nat} : ∀ {l : List Nat}, (∀ c ∈ l, b ≠ c) → NeA b l
 | [], _ => trivial
 | c :: r, h => ⟨h c (by simp), NeA.of fun x hx => h x (by simp [hx])⟩
def MkK (K : (Nat → Value) → Prop) (lo : Nat) (W : World) : List MkI → List Nat → (Nat → Value) → Prop
 | [], _, en => K en
 | t :: r, bs, en => ∀ (b : Nat) (v : Value), t.Φ (t.deps.map en) b v W → (t.nw = true → lo ≤ b ∧ b < W.heap.size ∧ NeA b bs) → MkK K lo W r (bif t.nw then b :: bs else bs) (upd en t.d v)
theorem MkK.fin {K : (Nat → Value) → Prop} {lo : Nat} {bs : List Nat} (h : K en) : MkK K lo W [] bs en := h
def topo : List MkI → List Nat → Prop
 | [], _ => True
 | t :: r, ds => (∀ d ∈ t.deps, d ∈ ds) ∧ topo r (t.d :: ds)
theorem beq_ne {x d : Nat} (h : ¬ x = d) : Nat.beq x d = false := by
 cases hb : Nat.beq x d
 ·rfl
 ·exact absurd (Nat.eq_of_beq_eq_true hb) h
theorem MkK.use {K : (Nat → Value) → Prop} {lo : Nat} {b : Nat → Nat} : ∀ {T : List MkI} {bs ds : List Nat} {ea : Nat → Value},
  MkK K lo W T bs ea → (T.map MkI.d).Nodup → topo T ds → (∀ d ∈ ds, ea d = en d) → (∀ t ∈ T, t.Φ (t.deps.map en) (b t.d) (en t.d) W ∧ (t.nw = true → lo ≤ b t.d ∧ b t.d < W.heap.size)) → (∀ t ∈ T, ∀ s ∈ T, t.nw = true → s.nw = true → t.d ≠ s.d → b t.d ≠ b s.d) →
  (∀ t ∈ T, t.nw = true → ∀ c ∈ bs, b t.d ≠ c) → (∀ x, x ∉ T.map MkI.d → en x = ea x) → K en
 | [], bs, ds, ea, h, _, _, _, _, _, _, he => by
  have : en = ea := funext fun x => he x (by simp)
  rw [this]; exact h
 | t :: r, bs, ds, ea, h, hn, htp, hds, h1, h2, h3, he => by
  have hn' := List.nodup_cons.1 (show (t.d :: r.map MkI.d).Nodup from hn)
  have ht := h1 t (by simp)
  have hdm : t.deps.map ea = t.deps.map en := List.map_congr_left fun d hd => hds d (htp.1 d hd)
  refine MkK.use (h (b t.d) (en t.d) (by rw [hdm]; exact ht.1) (fun hm => ⟨(ht.2 hm).1, (ht.2 hm).2, NeA.of (h3 t (by simp) hm)⟩)) hn'.2 htp.2 (fun d hd => ?_) (fun s hs => h1 s (by simp [hs])) (fun s hs s' hs' => h2 s (by simp [hs]) s' (by simp [hs']))
   (fun s hs hm c hc => ?_) fun x hx => ?_
  ·by_cases hxd : d = t.d
   ·subst hxd; simp [upd]
   ·have hb := beq_ne hxd
    simp only [upd, hb, cond_false]
    rcases List.mem_cons.1 hd with h | h
    ·exact absurd h hxd
    ·exact hds d h
  ·cases htm : t.nw
   ·rw [htm] at hc; exact h3 s (by simp [hs]) hm c hc
   ·rw [htm] at hc
    rcases List.mem_cons.1 hc with rfl | hc
    ·refine h2 s (by simp [hs]) t (by simp) hm htm fun e => hn'.1 ?_
     rw [← e]; exact List.mem_map_of_mem hs
    ·exact h3 s (by simp [hs]) hm c hc
  ·by_cases hxd : x = t.d
   ·subst hxd; simp [upd]
   ·have hb := beq_ne hxd
    simp only [upd, hb, cond_false]
    exact he x (by simp at hx ⊢; exact ⟨hxd, hx⟩)
theorem jA {α β : Type} {f : α → β} : ∀ {l : List α}, (l.map f).Nodup → ∀ {a b : α}, a ∈ l → b ∈ l → f a = f b → a = b
 | [], _, _, _, h, _, _ => by cases h
 | x :: r, hn, a, b, ha, hb, h => by
  have hn' := List.nodup_cons.1 (show (f x :: r.map f).Nodup from hn)
  rcases List.mem_cons.1 ha with rfl | ha' <;> rcases List.mem_cons.1 hb with rfl | hb'
  ·rfl
  ·exact absurd (by rw [h]; exact List.mem_map_of_mem hb') hn'.1
  ·exact absurd (by rw [← h]; exact List.mem_map_of_mem ha') hn'.1
  ·exact jA hn'.2 ha' hb' h
theorem first_not {α : Type} {p : α → Prop} : ∀ {l : List α}, (∃ t ∈ l, ¬ p t) → ∃ A t B, l = A ++ t :: B ∧ ¬ p t ∧ ∀ a ∈ A, p a
 | [], ⟨_, h, _⟩ => by cases h
 | x :: r, ⟨t, h, hp⟩ => by
  by_cases hx : p x
  ·rcases List.mem_cons.1 h with rfl | h
   ·exact absurd hx hp
   ·obtain ⟨A, t', B, e, h1, h2⟩ := first_not ⟨t, h, hp⟩
    exact ⟨x :: A, t', B, by rw [e]; rfl, h1, fun a ha => by
     rcases List.mem_cons.1 ha with rfl | ha
     ·exact hx
     ·exact h2 a ha⟩
  ·exact ⟨[], x, r, rfl, hx, fun _ h => by cases h⟩
def edgesOf (ops : Array Oper) (i : Nat) : List Nat := match ops[i]? with | none => [] | some o => (o.after.toList.filter fun e => Region.binds .any e).map fun e => e.on
def reachE (ops : Array Oper) : Nat → Nat → Nat → Bool
 | 0, _, _ => false
 | k + 1, i, j => (edgesOf ops i).any fun e => Nat.beq e j || reachE ops k e j
def edOk (ops : Array Oper) (listed : Array Bool) : List Nat → List Nat → Bool
 | _, [] => true
 | pre, i :: r => ((edgesOf ops i).all fun e => listed.getD e false || pre.any (Nat.beq e)) && edOk ops listed (i :: pre) r
def mkChk (ops : Array Oper) (listed : Array Bool) (is : List Nat) : Bool :=
 ((List.range ops.size).all fun j => listed.getD j true || is.any (Nat.beq j) || is.all (reachE ops ops.size j)) && (is.all fun j => !(listed.getD j true)) &&
  ((List.range ops.size).all fun j => !(listed.getD j false) || (edgesOf ops j).all fun e => listed.getD e false) && edOk ops listed [] is
theorem mem_edges {ops : Array Oper} {i : Nat} {o : Oper} (ho : ops[i]? = some o) : j ∈ edgesOf ops i ↔ ∃ e ∈ o.after, Region.binds .any e = true ∧ e.on = j := by
 unfold edgesOf
 rw [ho]
 simp [List.mem_map, List.mem_filter, and_assoc]
theorem readyE {ops : Array Oper} {listed : Array Bool} : j ∈ Region.ready .any ops listed ↔ listed.getD j true = false ∧ (∃ o, ops[j]? = some o) ∧ ∀ e ∈ edgesOf ops j, listed.getD e false = true := by
 rw [mem_ready]
 constructor
 ·rintro ⟨h1, o, ho, h2⟩
  refine ⟨h1, ⟨o, ho⟩, fun e he => ?_⟩
  obtain ⟨x, hx, hb, rfl⟩ := (mem_edges ho).1 he
  exact h2 x hx hb
 ·rintro ⟨h1, ⟨o, ho⟩, h2⟩
  exact ⟨h1, o, ho, fun e he hb => h2 _ ((mem_edges ho).2 ⟨e, he, hb, rfl⟩)⟩
theorem rR {ops : Array Oper} {listed : Array Bool} (hI : ∀ j, listed.getD j false = true → ∀ e ∈ edgesOf ops j, listed.getD e false = true) : ∀ (k i j : Nat), reachE ops k i j = true → (∀ e ∈ edgesOf ops i, listed.getD e false = true) → listed.getD j false = true
 | 0, _, _, h, _ => by cases h
 | k + 1, i, j, h, he => by
  obtain ⟨e, h1, h2⟩ := List.any_eq_true.1 h
  rcases Bool.or_eq_true _ _ ▸ h2 with h3 | h3
  ·rw [← Nat.eq_of_beq_eq_true h3]; exact he e h1
  ·exact rR hI k e j h3 (hI e (he e h1))
theorem ed_at {ops : Array Oper} {listed : Array Bool} : ∀ {A : List Nat} {pre : List Nat} {i : Nat} {B : List Nat}, edOk ops listed pre (A ++ i :: B) = true → ∀ e ∈ edgesOf ops i, listed.getD e false = true ∨ e ∈ pre ∨ e ∈ A
 | [], pre, i, B, h, e, he => by
  have h1 := (Bool.and_eq_true _ _ ▸ h : _ ∧ _).1
  have h2 := List.all_eq_true.1 h1 e he
  rcases Bool.or_eq_true _ _ ▸ h2 with h3 | h3
  ·exact cF h3
  ·obtain ⟨x, hx, hb⟩ := List.any_eq_true.1 h3
   rw [Nat.eq_of_beq_eq_true hb]; exact cG (cF hx)
 | a :: A, pre, i, B, h, e, he => by
  have h1 := (Bool.and_eq_true _ _ ▸ h : _ ∧ _).2
  rcases ed_at (A := A) h1 e he with h2 | h2 | h2
  ·exact cF h2
  ·rcases List.mem_cons.1 h2 with rfl | h2
   ·exact cG (cG (by simp))
   ·exact cG (cF h2)
  ·exact cG (cG (by simp [h2]))
theorem eR {α : Type} {p q : α → Bool} : ∀ {l : List α}, (∀ x ∈ l, p x = q x) → l.any p = l.any q
 | [], _ => rfl
 | x :: r, h => by rw [List.any_cons, List.any_cons, h x (by simp), eR fun y hy => h y (by simp [hy])]
def listT (is : List Nat) (listed : Array Bool) : Array Bool := is.foldl (fun a i => a.setIfInBounds i true) listed
theorem tZ : ∀ (is : List Nat) (a : Array Bool), (listT is a).size = a.size
 | [], _ => rfl
 | i :: r, a => by
  show (listT r (a.setIfInBounds i true)).size = _
  rw [tZ r]; simp
theorem rA {d : Bool} : ∀ (is : List Nat) (a : Array Bool) (j : Nat), j < a.size → (listT is a).getD j d = (is.any (Nat.beq j) || a.getD j d)
 | [], _, _, _ => by simp [listT]
 | i :: r, a, j, hj => by
  show (listT r (a.setIfInBounds i true)).getD j d = _
  rw [rA r _ j (by simpa using hj)]
  by_cases h : i = j
  ·subst h; simp [hj, Nat.beq_refl]
  ·rw [getD_set_ne d h, List.any_cons, beq_ne fun e => h e.symm]; simp
section
variable {P : Program} {ops : Array Oper} {Q : Exit → Act → World → Prop} {S : World → Prop} {n : Nat} {env : Nat → Value} {w : World} {G : Pin}
variable {last k : Nat} {D : List Nat}
theorem dr_mkU {T : List MkI} {listed0 : Array Bool} (hT : ∀ t ∈ T, MkOp P ops n (T.map MkI.d) env G t) (hTn : (T.map MkI.d).Nodup) (hTi : (T.map MkI.i).Nodup) (htp : topo T []) (hc : mkChk ops listed0 (T.map MkI.i) = true)
  (hdm : ∀ t ∈ T, ∀ d ∈ t.deps, ∃ s ∈ T, s.d = d ∧ s.nw = true ∧ s.i ∈ edgesOf ops t.i) (hsz : listed0.size = ops.size)
  (hS : ∀ W, Pins G W → Below w.heap.size w W → S W) (hQ : ∀ W, Pins G W → Below w.heap.size w W → MkK (fun en => DR P ops Q S last k (listT (T.map MkI.i) listed0) (F n en) W) w.heap.size W T [] env) :
  ∀ (fuel : Nat) (U : List MkI) (listed : Array Bool) (en : Nat → Value) (W : World) (b : Nat → Nat), U.length + k = fuel → (∀ t ∈ U, t ∈ T) → (U.map MkI.d).Nodup → listed.size = listed0.size →
   (∀ j d, j < listed0.size → listed.getD j d = (listed0.getD j d || T.any fun t => Nat.beq j t.i && decide (t.d ∉ U.map MkI.d))) → (∀ j, listed.getD j false = true → ∀ e ∈ edgesOf ops j, listed.getD e false = true) →
   (∀ x, x ∉ T.map MkI.d → en x = env x) →
   (∀ t ∈ T, t.d ∉ U.map MkI.d → t.Φ (t.deps.map en) (b t.d) (en t.d) W ∧ (t.nw = true → w.heap.size ≤ b t.d ∧ b t.d < W.heap.size ∧ (en t.d).oneCell' = true)) →
   (∀ t ∈ T, ∀ s ∈ T, t.nw = true → s.nw = true → t.d ∉ U.map MkI.d → s.d ∉ U.map MkI.d → t.d ≠ s.d → b t.d ≠ b s.d) → Pins G W → Below w.heap.size w W →
   dr P .any ops (NoPanic Q) S last fuel listed (F n en) W := by
 simp only [mkChk, Bool.and_eq_true] at hc
 obtain ⟨⟨⟨ae, af⟩, aj⟩, ag⟩ := hc
 have z : ∀ t ∈ T, t.i < listed0.size ∧ listed0.getD t.i true = false := fun t ht => by
  have g : listed0.getD t.i true = false := by simpa using List.all_eq_true.1 af t.i (List.mem_map_of_mem ht)
  refine ⟨Classical.byContradiction fun h => ?_, g⟩
  simp [Array.getElem?_eq_none (show listed0.size ≤ t.i by omega)] at g
 intro fuel
 induction fuel with
 | zero =>
  intro U listed en W b hU hUT hUn hls hl hI hen hd hne hP hB
  have aa : U = [] := List.eq_nil_of_length_eq_zero (by omega)
  have ah : k = 0 := by omega
  subst aa; subst ah
  have he : listed = listT (T.map MkI.i) listed0 := by
   apply Array.ext
   ·rw [hls, tZ]
   ·intro j f g
    have m := hl j false (by rw [← hls]; exact f)
    have q := rA (d := false) (T.map MkI.i) listed0 j (by rw [← hls]; exact f)
    simp [f] at m; simp [g] at q
    rw [m, q, Bool.or_comm]; congr 1
  subst he
  exact (MkK.use (en := en) (b := b) (K := fun en => DR P ops Q S last 0 (listT (T.map MkI.i) listed0) (F n en) W) (hQ W hP hB) hTn htp (fun _ h => by cases h) (fun t ht => ⟨(hd t ht (by simp)).1, fun hm => ⟨((hd t ht (by simp)).2 hm).1, ((hd t ht (by simp)).2 hm).2.1⟩⟩)
   (fun t ht s hs hm hm' => hne t ht s hs hm hm' (by simp) (by simp)) (fun _ _ _ _ hc => by cases hc) hen).out
 | succ fuel ih =>
  intro U listed en W b hU hUT hUn hls hl hI hen hd hne hP hB
  by_cases aa : U = []
  ·subst aa
   have he : listed = listT (T.map MkI.i) listed0 := by
    apply Array.ext
    ·rw [hls, tZ]
    ·intro j f g
     have m := hl j false (by rw [← hls]; exact f)
     have q := rA (d := false) (T.map MkI.i) listed0 j (by rw [← hls]; exact f)
     simp [f] at m; simp [g] at q
     rw [m, q, Bool.or_comm]; congr 1
   subst he
   have hk : k = fuel + 1 := by simpa using hU
   subst hk
   exact (MkK.use (en := en) (b := b) (K := fun en => DR P ops Q S last (fuel + 1) (listT (T.map MkI.i) listed0) (F n en) W) (hQ W hP hB) hTn htp (fun _ h => by cases h) (fun t ht => ⟨(hd t ht (by simp)).1, fun hm => ⟨((hd t ht (by simp)).2 hm).1, ((hd t ht (by simp)).2 hm).2.1⟩⟩)
    (fun t ht s hs hm hm' => hne t ht s hs hm hm' (by simp) (by simp)) (fun _ _ _ _ hc => by cases hc) hen).out
  have hag : Agree (T.map MkI.d) env en := ⟨hen⟩
  have hundone : ∀ t ∈ T, t.d ∈ U.map MkI.d → listed.getD t.i true = false := fun t ht htU => by
   rw [hl t.i true (z t ht).1, (z t ht).2, Bool.false_or, List.any_eq_false]
   intro s hs
   simp only [Bool.and_eq_true, decide_eq_true_eq, not_and]
   intro hb
   have : t = s := jA hTi ht hs (Nat.eq_of_beq_eq_true hb)
   subst this
   exact fun h => h htU
  have hdone : ∀ t ∈ T, t.d ∉ U.map MkI.d → listed.getD t.i false = true := fun t ht htU => by
   rw [hl t.i false (z t ht).1]
   simp only [Bool.or_eq_true, List.any_eq_true]
   exact cG ⟨t, ht, by simp only [Nat.beq_refl, Bool.true_and, decide_eq_true_eq]; exact htU⟩
  have hdoneC : ∀ t ∈ T, listed.getD t.i false = true → t.d ∉ U.map MkI.d := fun t ht h hm => by
   have f := hundone t ht hm
   have g := (z t ht).1
   rw [← hls] at g
   simp [g] at h f
   rw [f] at h; cases h
  refine ⟨fun hr => ?_, fun j hj => ?_⟩
  ·exfalso
   obtain ⟨u, y⟩ := List.exists_mem_of_ne_nil U aa
   obtain ⟨A, t, B, hTe, ht, hA⟩ := first_not (l := T) (p := fun t => t.d ∉ U.map MkI.d) ⟨u, hUT u y, fun h => h (List.mem_map_of_mem y)⟩
   have ht' : t.d ∈ U.map MkI.d := Classical.byContradiction ht
   have htT : t ∈ T := by rw [hTe]; simp
   obtain ⟨o, ho, _⟩ := (hT t htT).ex
   have : t.i ∈ Region.ready .any ops listed := readyE.2 ⟨hundone t htT ht', ⟨o, ho⟩, fun e he => by
    have ac := ag
    rw [hTe, List.map_append, List.map_cons] at ac
    rcases ed_at ac e he with f | f | f
    ·have hes : e < listed0.size := by
      refine Classical.byContradiction fun h => ?_
      simp [Array.getElem?_eq_none (show listed0.size ≤ e by omega)] at f
     rw [hl e false hes, f]; rfl
    ·cases f
    ·obtain ⟨a, ha, rfl⟩ := List.mem_map.1 f
     exact hdone a (by rw [hTe]; simp [ha]) (hA a ha)⟩
   rw [hr] at this; cases this
  ·obtain ⟨hjl, ⟨o', ho'⟩, hall⟩ := readyE.1 hj
   have hjs : j < ops.size := (Array.getElem?_eq_some_iff.1 ho').1
   obtain ⟨t, htU, rfl⟩ : ∃ t ∈ U, t.i = j := by
    have f := List.all_eq_true.1 ae j (List.mem_range.2 hjs)
    have g := hl j true (by rw [hsz]; exact hjs)
    rw [hjl] at g
    have g := g.symm
    rw [Bool.or_eq_false_iff] at g
    rw [g.1, Bool.false_or] at f
    rcases Bool.or_eq_true _ _ ▸ f with m | m
    ·obtain ⟨i, hi, hb⟩ := List.any_eq_true.1 m
     obtain ⟨t, ht, rfl⟩ := List.mem_map.1 hi
     have q := List.any_eq_false.1 g.2 t ht
     simp only [hb, Bool.true_and, decide_eq_true_eq, Classical.not_not] at q
     obtain ⟨s, hs, he⟩ := List.mem_map.1 q
     have : s = t := jA hTn (hUT s hs) ht he
     subst this
     exact ⟨s, hs, (Nat.eq_of_beq_eq_true hb).symm⟩
    ·exfalso
     obtain ⟨u, y⟩ := List.exists_mem_of_ne_nil U aa
     have q := List.all_eq_true.1 m u.i (List.mem_map_of_mem (hUT u y))
     exact hdoneC u (hUT u y) (rR hI _ _ _ q hall) (List.mem_map_of_mem y)
   have htT := hUT t htU
   obtain ⟨o, ho, hdst, hok, hg, hmk⟩ := (hT t htT).ex
   have hdep : ∀ d ∈ t.deps, ∃ s ∈ T, s.d = d ∧ s.nw = true ∧ s.d ∉ U.map MkI.d := fun d hdd => by
    obtain ⟨s, hs, he, hm, hie⟩ := hdm t htT d hdd
    exact ⟨s, hs, he, hm, hdoneC s hs (hall _ hie)⟩
   have hm := hmk en hag fun d hdd => by
    obtain ⟨s, hs, rfl, hm, hsU⟩ := hdep d hdd
    exact ((hd s hs hsU).2 hm).2.2
   obtain ⟨A, B, rfl⟩ := List.append_of_mem htU
   simp only [List.map_append, List.map_cons] at hUn
   have hdn : t.d ∉ (A ++ B).map MkI.d := by
    rw [List.nodup_append] at hUn
    obtain ⟨_, g, m⟩ := hUn
    intro hm
    rcases List.mem_append.1 (by simpa using hm : t.d ∈ A.map MkI.d ++ B.map MkI.d) with h | h
    ·exact m _ h _ (by simp) rfl
    ·exact (List.nodup_cons.1 g).1 h
   have hdU : ∀ x, x ∉ (A ++ B).map MkI.d ↔ (x ∉ (A ++ t :: B).map MkI.d ∨ x = t.d) := fun x => by
    constructor
    ·intro hx
     by_cases hxt : x = t.d
     ·exact cG hxt
     ·refine cF fun h => hx ?_
      simp only [List.map_append, List.map_cons, List.mem_append, List.mem_cons] at h ⊢
      rcases h with h | h | h
      ·exact cF h
      ·exact absurd h hxt
      ·exact cG h
    ·rintro (hx | rfl)
     ·intro h; refine hx ?_
      simp only [List.map_append, List.map_cons, List.mem_append, List.mem_cons] at h ⊢
      rcases h with h | h
      ·exact cF h
      ·exact cG (cG h)
     ·exact hdn
   have htd : t.d ∈ (A ++ t :: B).map MkI.d := by simp
   unfold wpOp
   simp only [ho, zR hg, if_true]
   left
   unfold Oper.wp
   rw [fW hok]
   refine hm.run W (fun v w' => (t.i ≠ last → S w') ∧ dr P .any ops (NoPanic Q) S last fuel (listed.setIfInBounds t.i true) (F n (upd en t.d v)) w') hP (fun v w' hΦ hP' hB' hlt => ?_) _ _ _ fun v w' hk => by rw [hdst, tS]; exact hk
   have ad : Below w.heap.size w w' := hB.trans (hB'.mono hB.size)
   have hupd : ∀ x, x ≠ t.d → upd en t.d v x = en x := fun x hx => by simp [upd, beq_ne hx]
   have hself : upd en t.d v t.d = v := by simp [upd]
   have hts : t.i < listed.size := by rw [hls]; exact (z t htT).1
   refine ⟨fun _ => hS _ hP' ad, ?_⟩
   refine ih (A ++ B) _ _ w' (fun x => if x = t.d then W.heap.size else b x) (by simp at hU ⊢; omega) (fun s hs => hUT s (by simp at hs ⊢; rcases hs with h | h <;> simp [h])) ?_ ?_ ?_ ?_ ?_ ?_ ?_ hP' ad
   ·rw [List.nodup_append] at hUn
    obtain ⟨f, g, m⟩ := hUn
    rw [List.map_append, List.nodup_append]
    exact ⟨f, (List.nodup_cons.1 g).2, fun a ha c hc => m a ha c (by simp [hc])⟩
   ·simp [hls]
   ·intro j d hj
    by_cases hjt : t.i = j
    ·subst hjt
     have f : (listed.setIfInBounds t.i true).getD t.i d = true := by simp [hts]
     rw [f]
     symm
     simp only [Bool.or_eq_true, List.any_eq_true]
     exact cG ⟨t, htT, by simp only [Nat.beq_refl, Bool.true_and, decide_eq_true_eq]; exact hdn⟩
    ·rw [getD_set_ne d hjt, hl j d hj]
     congr 1
     refine eR fun s hs => ?_
     by_cases hb : Nat.beq j s.i = true
     ·rw [hb, Bool.true_and, Bool.true_and]
      have hsd : s.d ≠ t.d := fun e => hjt (by rw [← jA hTn hs htT e, Nat.eq_of_beq_eq_true hb])
      exact decide_eq_decide.2 ⟨fun h => (hdU _).2 (cF h), fun h => ((hdU _).1 h).resolve_right hsd⟩
     ·rw [(Bool.not_eq_true _).mp hb, Bool.false_and, Bool.false_and]
   ·intro j hj e he
    have hmono : ∀ x, listed.getD x false = true → (listed.setIfInBounds t.i true).getD x false = true := fun x hx => by
     by_cases hxt : t.i = x
     ·subst hxt; simp [hts]
     ·rw [getD_set_ne false hxt]; exact hx
    by_cases hjt : t.i = j
    ·subst hjt; exact hmono e (hall e he)
    ·rw [getD_set_ne false hjt] at hj; exact hmono e (hI j hj e he)
   ·intro x hx
    rw [hupd x (fun e => hx (by rw [e]; exact List.mem_map_of_mem htT))]; exact hen x hx
   ·intro s hs hsd
    by_cases hst : s.d = t.d
    ·have hse : s = t := jA hTn hs htT hst
     subst hse
     have ab : s.deps.map (upd en s.d v) = s.deps.map en := List.map_congr_left fun d hdd => by
      obtain ⟨r, _, rfl, _, hrU⟩ := hdep d hdd
      exact hupd _ fun e => hrU (by rw [e]; exact htd)
     simp only [if_true, hself, ab]
     exact ⟨hΦ, fun hm => ⟨hB.size, (hlt hm).1, (hlt hm).2⟩⟩
    ·have hsU := ((hdU s.d).1 hsd).resolve_right hst
     simp only [if_neg hst, hupd s.d hst]
     obtain ⟨f, g⟩ := hd s hs hsU
     obtain ⟨o2, al, _, _, _, ai⟩ := (hT s hs).ex
     have hsdep : ∀ d ∈ s.deps, ∃ r ∈ T, r.d = d ∧ r.nw = true ∧ r.d ∉ (A ++ t :: B).map MkI.d := fun d hdd => by
      obtain ⟨r, hr, he, hm, hie⟩ := hdm s hs d hdd
      exact ⟨r, hr, he, hm, hdoneC r hr (hI _ (hdone s hs hsU) _ hie)⟩
     have ab : s.deps.map (upd en t.d v) = s.deps.map en := List.map_congr_left fun d hdd => by
      obtain ⟨r, _, rfl, _, hrU⟩ := hsdep d hdd
      exact hupd _ fun e => hrU (by rw [e]; exact htd)
     rw [ab]
     refine ⟨(ai en hag fun d hdd => ?_).keep _ _ _ _ f hB', fun hm => ⟨(g hm).1, by have := (g hm).2.1; have := hB'.size; omega, (g hm).2.2⟩⟩
     obtain ⟨r, hr, rfl, hm, hrU⟩ := hsdep d hdd
     exact ((hd r hr hrU).2 hm).2.2
   ·intro s hs s' hs' hm hm' hsd hsd' hne'
    by_cases hst : s.d = t.d
    ·have hst' : s'.d ≠ t.d := fun e => hne' (hst.trans e.symm)
     simp only [if_pos hst, if_neg hst']
     have := ((hd s' hs' (((hdU s'.d).1 hsd').resolve_right hst')).2 hm').2.1
     omega
    ·by_cases hst' : s'.d = t.d
     ·simp only [if_neg hst, if_pos hst']
      have := ((hd s hs (((hdU s.d).1 hsd).resolve_right hst)).2 hm).2.1
      omega
     ·simp only [if_neg hst, if_neg hst']
      exact hne s hs s' hs' hm hm' (((hdU s.d).1 hsd).resolve_right hst) (((hdU s'.d).1 hsd').resolve_right hst') hne'
def MkOps (P : Program) (ops : Array Oper) (n : Nat) (D : List Nat) (env : Nat → Value) (G : Pin) : List MkI → Prop
 | [] => True
 | t :: r => MkOp P ops n D env G t ∧ MkOps P ops n D env G r
theorem MkOps.nil : MkOps P ops n D env G [] := trivial
theorem MkOps.cons {t : MkI} {r : List MkI} (h : MkOp P ops n D env G t) (hr : MkOps P ops n D env G r) : MkOps P ops n D env G (t :: r) := ⟨h, hr⟩
theorem MkOp.new {dp : List Nat} {i d : Nat} {mk : Bool} {Φ : List Value → Nat → Value → World → Prop} {o : Oper} (ho : ops[i]? = some o) (hd : o.dst = some d) (hok : okO n o = true) (hg : o.guard = none)
  (h : ∀ en, Agree D env en → (∀ d ∈ dp, (en d).oneCell' = true) → Mk P (ev en) o G mk (Φ (dp.map en))) : MkOp P ops n D env G ⟨i, d, dp, mk, Φ⟩ := ⟨o, ho, hd, hok, hg, h⟩
theorem MkOps.all : ∀ {T : List MkI}, MkOps P ops n D env G T → ∀ t ∈ T, MkOp P ops n D env G t
 | [], _, t, ht => by cases ht
 | s :: r, h, t, ht => by
  rcases List.mem_cons.1 ht with rfl | ht
  ·exact h.1
  ·exact MkOps.all h.2 t ht
def topoB : List (Nat × List Nat) → List Nat → Bool
 | [], _ => true
 | t :: r, ds => (t.2.all fun d => ds.any (Nat.beq d)) && topoB r (t.1 :: ds)
theorem topo_of : ∀ {T : List MkI} {ds : List Nat}, topoB (T.map fun t => (t.d, t.deps)) ds = true → topo T ds
 | [], _, _ => trivial
 | t :: r, ds, h => by
  have h1 := (Bool.and_eq_true _ _ ▸ h : _ ∧ _)
  refine ⟨fun d hd => ?_, topo_of h1.2⟩
  obtain ⟨x, hx, hb⟩ := List.any_eq_true.1 (List.all_eq_true.1 h1.1 d hd)
  rw [Nat.eq_of_beq_eq_true hb]; exact hx
def depB (ops : Array Oper) (l : List (Nat × Nat × List Nat × Bool)) : Bool := l.all fun t => t.2.2.1.all fun d => l.any fun s => Nat.beq s.2.1 d && s.2.2.2 && (edgesOf ops t.1).any (Nat.beq s.1)
theorem dr_mk {fuel : Nat} {listed : Array Bool} (T : List MkI) (l : List (Nat × Nat × List Nat × Bool)) (hl : (T.map fun t => (t.i, t.d, t.deps, t.nw)) = l) (hf : l.length + k = fuel) (hin : (l.map fun t => t.1).Nodup) (hdn : (l.map fun t => t.2.1).Nodup)
  (hc : (mkChk ops listed (l.map fun t => t.1) && depB ops l && topoB (l.map fun t => (t.2.1, t.2.2.1)) [] && Nat.beq listed.size ops.size) = true) (hP : Pins G w) (hS : ∀ W, Pins G W → Below w.heap.size w W → S W) (hops : MkOps P ops n (l.map fun t => t.2.1) env G T)
  (hQ : ∀ W, Pins G W → Below w.heap.size w W → MkK (fun en => DR P ops Q S last k (listT (l.map fun t => t.1) listed) (F n en) W) w.heap.size W T [] env) : DR P ops Q S last fuel listed (F n env) w := by
 subst hl
 have a : ((T.map fun t => (t.i, t.d, t.deps, t.nw)).map fun t => t.1) = T.map MkI.i := by rw [List.map_map]; rfl
 have c : ((T.map fun t => (t.i, t.d, t.deps, t.nw)).map fun t => t.2.1) = T.map MkI.d := by rw [List.map_map]; rfl
 have g : ((T.map fun t => (t.i, t.d, t.deps, t.nw)).map fun t => (t.2.1, t.2.2.1)) = T.map fun t => (t.d, t.deps) := by rw [List.map_map]; rfl
 rw [a] at hin hQ; rw [c] at hdn hops; rw [a, g] at hc
 simp only [Bool.and_eq_true] at hc
 obtain ⟨⟨⟨b, m⟩, o⟩, p⟩ := hc
 have hsz : listed.size = ops.size := Nat.eq_of_beq_eq_true p
 have hcm := b
 simp only [mkChk, Bool.and_eq_true] at hcm
 refine ⟨dr_mkU hops.all hdn hin (topo_of o) b (fun t ht d hd => ?_) hsz hS hQ fuel T listed env w (fun _ => 0) (by simpa using hf) (fun _ h => h) hdn rfl (fun j d hj => ?_) (fun j hj e he => ?_) (fun _ _ => rfl) (fun t ht h => absurd (List.mem_map_of_mem ht) h) (fun t ht _ _ _ _ h => absurd (List.mem_map_of_mem ht) h) hP (Below.refl _ _)⟩
 ·have q := List.all_eq_true.1 m (t.i, t.d, t.deps, t.nw) (List.mem_map_of_mem (f := fun t : MkI => (t.i, t.d, t.deps, t.nw)) ht)
  obtain ⟨s, hs, hb⟩ := List.any_eq_true.1 (List.all_eq_true.1 q d hd)
  obtain ⟨r, hr, rfl⟩ := List.mem_map.1 hs
  simp only [Bool.and_eq_true] at hb
  obtain ⟨e, he, hbe⟩ := List.any_eq_true.1 hb.2
  exact ⟨r, hr, Nat.eq_of_beq_eq_true hb.1.1, hb.1.2, by rw [Nat.eq_of_beq_eq_true hbe]; exact he⟩
 ·have : (T.any fun t => Nat.beq j t.i && decide (t.d ∉ T.map MkI.d)) = false := by
   rw [List.any_eq_false]
   intro t ht
   simp only [Bool.and_eq_true, decide_eq_true_eq, not_and]
   exact fun _ h => h (List.mem_map_of_mem ht)
  rw [this, Bool.or_false]
 ·have hjs : j < ops.size := by
   refine Classical.byContradiction fun h => ?_
   simp [Array.getElem?_eq_none (show listed.size ≤ j by omega)] at hj
  have := List.all_eq_true.1 hcm.1.2 j (List.mem_range.2 hjs)
  rw [hj, Bool.not_true, Bool.false_or] at this
  exact List.all_eq_true.1 this e he
end
section
variable {P : Program} {ρ : Operand → Value} {w : World} {d : Option Nat} {t ty : Nat} {pos : String} {aft : Array Edge} {g : Option (Nat × Bool)} {x y : Operand} {G : Pin} {α : Type} {E : Elt α} {e : Nat}
def fBx (G : Pin) (cs : List Value) : List Value → Nat → Value → World → Prop := fun _ b v w => v = .pointer (some ⟨b, 0, none⟩) ∧ Bx G w b cs
def fOwn {α : Type} (E : Elt α) (e : Nat) (G : Pin) (xs : List α) : List Value → Nat → Value → World → Prop := fun _ b v w => Own E e G w b v xs ∧ v.ownBlock = some b
def fAgg : List Value → Nat → Value → World → Prop := fun vs _ v _ => v = .agg vs.toArray
variable {us : List Value}
variable {b : Nat}
theorem mk_alloc (cs : List Value) {z : Value} (hz : (P.info? t).bind (·.zero) = some z) (hc : z.cells.toList = cs) :
  Mk P ρ ⟨d, .alloc t, ty, pos, aft, g⟩ G true (fBx G cs us) :=
 ⟨fun _ _ hP h => yI cs hz hc hP fun _ _ hb hB hp hl => h _ _ ⟨by rw [hb], hb ▸ hB⟩ hp hl fun _ => ⟨by have := hB.lt; omega, rfl⟩, fun _ _ _ _ h hb => ⟨h.1, h.2.below hb⟩⟩
theorem mk_make {n : Int} (zero : α) (bytes : Nat) (z : Value) (ht : P.underlying t = some (.slice e)) (hi : (P.info? e).map (fun i => (i.size, i.bytes, i.zero)) = some (E.size, bytes, some z))
  (hz : ∀ G, E.rep G z.cells.toList zero) (hx : ρ x = .int .i64 n) (hy : ρ y = .int .i64 n) (h0 : 0 ≤ n) (hb : bytes * n.toNat ≤ 281474976710656) (hm : n ≤ 9223372036854775807) :
  Mk P ρ ⟨d, .makeSlice t x y, ty, pos, aft, g⟩ G true (fOwn E e G (List.replicate n.toNat zero) us) :=
 ⟨fun _ _ hP h => fR zero bytes z ht hi hz hx hy hP h0 hb hm fun _ _ ho hp hl hk => h _ _ ⟨ho, hk⟩ hp hl fun _ => ⟨by have := (ho.lt _ hk).2; omega, ho.one⟩, fun _ _ _ _ h hb => ⟨h.1.below hb, h.2⟩⟩
theorem mk_run {o : Oper} (h : ∀ w, (execOp ρ o).run P w = .ok (.value (.agg us.toArray)) w) : Mk P ρ o G false (fAgg us) :=
 ⟨fun w _ hP k => EO.run (h w) (k _ w rfl hP (Below.refl _ _) fun e => by cases e), fun _ _ _ _ h _ => h⟩
theorem fS {c : Nat} {x : Option Nat} (h : x = some b) (hb : w.heap.size ≤ b) (hl : c < w.heap.size) : Apart x (some c) := fun k a e => by
 rw [h] at a; cases a
 cases e; omega
theorem mY {c : Nat} {x y : Option Nat} (h : x = some b) (hy : y = some c) (hn : b ≠ c) : Apart x y := fun k a e => by
 rw [h] at a; rw [hy] at e; cases a; cases e; exact hn rfl
end
end Go.GL
namespace Go.Proofs.YtakkjmlnmcemaaaGreatDoor
open Go.RowKit Go.GL Go.Proofs
namespace B1
theorem mk3 : (Tryz.prog.info? 3).map (fun i => (i.size, i.bytes, i.zero)) = some (1, 8, some (.int .i64 0)) := by kernel_rfl
theorem mk4 : (Tryz.prog.info? 4).map (fun i => (i.size, i.bytes, i.zero)) = some (1, 1, some (.bool false)) := by kernel_rfl
variable {G : Pin} {v : Value} {xs : List Int} {x : Int} {p : Bool} {ns : List Nd}
theorem fF {w : World} {b : Int} (hP : Pins G w) (hv : RSl eInt G v xs) :
  Calls Tryz.prog 59 #[v, vJ b] w fun e w' => e = .returned (.bool (goodOpts xs b)) ∧ w' = w := by
 refine zY (n := 27) Tryz.func59 Tryz.ntmps59 rfl rfl ?_
 have h := exr noS hP
 have hm := hv.max
 refine w9d ?_
 refine qM (.bool false) ?_
 refine qe (zA (w9b ?_))
 refine qM v ?_
 refine qD rfl (zM dE (v := v) rfl hv) (qD rfl (jW rfl rfl) (qe (zA ?_)))
 refine yC (p := (24 : Int) < (xs.length : Int)) rfl rfl (fun a => ?_) (fun a => ?_)
 refine w9d ?_
 refine qM (.bool false) ?_
 refine qe (zA ?_)
 exact cP (zP (zQ (v := .bool false) rfl rfl rfl (⟨cgA eB (by unfold goodOpts; rw [if_pos a]), rfl⟩)))
 refine cO (w9a ?_)
 refine qM (vJ (-1)) ?_
 refine qe (zA (w9b ?_))
 refine qM v ?_
 refine qD rfl (zM dE (v := v) rfl hv) (qM (vJ 0) ?_)
 refine qe (zA ?_)
 refine zZ (yR (fun k en W => ∃ (f : Nat → Value) (j : Nat) (last : Int), en = (upd (upd (upd (upd (upd f 1 (vJ b)) 5 (vJ last)) 11 v) 12 (vJ (xs.length : Int))) 13 (vJ (j : Int))) ∧ k = xs.length - j ∧ Ext noS G w G W ∧ (j ≤ xs.length) ∧ (W = w) ∧ (goodOpts xs b = goodFrom last b (xs.drop j))) _ ⟨_, 0, (-1), (pS 13 (pS 12 (pS 11 (pS 5 (pU 1))))), rfl, h, cI _, rfl, (by unfold goodOpts; rw [if_neg a]; rfl)⟩ ?_)
 rintro l _ m ⟨f, j, last, rfl, o, g, hj, hw, hr⟩
 subst hw
 refine w9d ?_
 refine qD rfl (yU rfl rfl) (qe (zA (zB ?_)))
 refine yC (p := ((j : Int) : Int) < (xs.length : Int)) rfl rfl (fun i => ?_) (fun i => ?_)
 refine cO (zA (zB ?_))
 refine zZ (w9d ?_)
 refine qD rfl (zF dE sz3 (v := v) rfl rfl hv (by omega) (by omega)) (qD rfl (zG (r := xs.getD j 0) rfl ag3 (z := (j : Int)) rfl hv g.pins (by omega) (by omega)) (qM (vJ (xs.getD j 0)) ?_))
 refine qe (zA (w9b ?_))
 refine qM (vJ (xs.getD j 0)) ?_
 refine qM (vJ last) ?_
 refine qD rfl (tR rfl rfl) (qM (.bool (decide ((xs.getD j 0 : Int) ≤ last))) ?_)
 refine qbd (p := (xs.getD j 0 : Int) ≤ last) (t := 20) rfl (fun c => ?_) (fun c => ?_)
 refine qW ?_
 refine qW ?_
 refine qW ?_
 refine qD rfl (yB (v := .bool true) rfl rfl) (qe (zA ?_))
 refine qK rfl rfl (w9d ?_)
 refine qM (.bool false) ?_
 refine qe (zA ?_)
 exact cP (zP (zQ (v := .bool false) rfl rfl rfl (⟨cgA eB ((hr.trans (mF (by omega) (cF c))).symm), rfl⟩)))
 refine qN (zN (v := vJ (xs.getD j 0)) rfl) ?_
 refine qN (zN (v := vJ b) rfl) ?_
 refine qN (gP rfl rfl) ?_
 refine qD rfl (zU (v := .bool (decide ((b : Int) ≤ (xs.getD j 0)))) rfl rfl) (qe (zA ?_))
 refine yC (p := (b : Int) ≤ (xs.getD j 0)) rfl rfl (fun d => ?_) (fun d => ?_)
 refine w9d ?_
 refine qM (.bool false) ?_
 refine qe (zA ?_)
 exact cP (zP (zQ (v := .bool false) rfl rfl rfl (⟨cgA eB ((hr.trans (mF (by omega) (cG d))).symm), rfl⟩)))
 refine cO (zA (zC ?_))
 refine qM (vJ (xs.getD j 0)) ?_
 refine qM (vJ (xs.getD j 0)) ?_
 refine qe (w9c ?_)
 refine qD rfl (yH rfl rfl (by omega)) (qM (vJ ((j : Int) + 1)) ?_)
 refine qe (zV (⟨_, ?_, _, rfl, _, j + 1, xs.getD j 0, (pS 13 (pS 12 (pS 11 (pS 5 (pU 1))))), rfl, g, (by omega), rfl, (hr.trans (eW (by omega) c d))⟩))
 omega
 refine cQ (zX (yO (yK (w9a ?_))))
 refine qM (.bool true) ?_
 refine qe (zA ?_)
 exact cP (zP (zQ (v := .bool true) rfl rfl rfl (⟨cgA eB ((hr.trans (goodFrom_end (by omega))).symm), rfl⟩)))
theorem eC {w : World} (hP : Pins G w) :
  Calls Tryz.prog 89 #[.int .i64 x] w fun e w' => e = .returned (.bool false) ∧ w' = w := by
 refine zY (n := 6) Tryz.func89 Tryz.ntmps89 rfl rfl ?_
 have hX0 := exr noS hP
 refine w9d ?_
 refine qM (.bool false) ?_
 refine qe (w9a ?_)
 refine qM (.int .i64 x) ?_
 refine qM (.int .i64 x) ?_
 refine qD rfl (vV rfl rfl) (qM (.bool (decide ((x : Int) ≠ x))) ?_)
 refine qe (zA ?_)
 exact cP (zP (zQ (v := .bool (decide ((x : Int) ≠ x))) rfl rfl rfl (⟨cgA eB (decide_eq_false (fun h => h rfl)), rfl⟩)))
theorem gG {w : World} {y : Int} (hP : Pins G w) :
  Calls Tryz.prog 62 #[.int .i64 x, .int .i64 y] w fun e w' => e = .returned (.int .i64 (cmpI x y)) ∧ w' = w := by
 refine zY (n := 20) Tryz.func62 Tryz.ntmps62 rfl rfl ?_
 have hX0 := exr noS hP
 refine w9d ?_
 refine qM (.int .i64 0) ?_
 refine qe (w9a ?_)
 refine qM (.int .i64 x) ?_
 refine qI rfl (zL (vs := [.int .i64 x]) Tryz.func89 nm89 rfl rfl rfl ?_)
 refine cD (eC hX0.pins) ?_
 rintro _ _ ⟨rfl, rfl⟩
 refine rt9 (qM (.bool false) ?_)
 refine qe (w9a ?_)
 refine qM (.int .i64 y) ?_
 refine qI rfl (zL (vs := [.int .i64 y]) Tryz.func89 nm89 rfl rfl rfl ?_)
 refine cD (eC hX0.pins) ?_
 rintro _ _ ⟨rfl, rfl⟩
 refine rt9 (qM (.bool false) ?_)
 refine qe (zA (w9b ?_))
 refine qM (.bool false) ?_
 refine qe (zA ?_)
 refine xT rfl rfl (cO (zA (w9b ?_)))
 refine qM (.bool false) ?_
 refine qe (zA ?_)
 refine xT rfl rfl (cO (zA (w9b ?_)))
 refine qM (.int .i64 x) ?_
 refine qM (.int .i64 y) ?_
 refine qD rfl (yU rfl rfl) (qe (zA ?_))
 refine yC (p := (x : Int) < y) rfl rfl (fun h1 => ?_) (fun h1 => ?_)
 refine w9d ?_
 refine qM (.int .i64 (-1)) ?_
 refine qe (zA ?_)
 exact cP (zP (zQ (v := .int .i64 (-1)) rfl rfl rfl (⟨cgA eI (by unfold cmpI; (first | rw [if_pos (by omega)] | (rw [if_neg (by omega)]; first | rw [if_pos (by omega)] | rw [if_neg (by omega)]))), rfl⟩)))
 refine cO (zA (w9b ?_))
 refine qM (.int .i64 x) ?_
 refine qM (.int .i64 y) ?_
 refine qD rfl (jW rfl rfl) (qe (zA ?_))
 refine yC (p := (y : Int) < x) rfl rfl (fun h2 => ?_) (fun h2 => ?_)
 refine w9d ?_
 refine qM (.int .i64 1) ?_
 refine qe (zA ?_)
 exact cP (zP (zQ (v := .int .i64 1) rfl rfl rfl (⟨cgA eI (by unfold cmpI; (first | rw [if_pos (by omega)] | (rw [if_neg (by omega)]; first | rw [if_pos (by omega)] | rw [if_neg (by omega)]))), rfl⟩)))
 refine cO (w9a ?_)
 refine qM (.int .i64 0) ?_
 refine qe (zA ?_)
 exact cP (zP (zQ (v := .int .i64 0) rfl rfl rfl (⟨cgA eI (by unfold cmpI; (first | rw [if_pos (by omega)] | (rw [if_neg (by omega)]; first | rw [if_pos (by omega)] | rw [if_neg (by omega)]))), rfl⟩)))
theorem cmpOr_spec {w : World} (hP : Pins G w) (hv : RSl eInt G v xs) :
  Calls Tryz.prog 61 #[v] w fun e w' => e = .returned (.int .i64 (orL xs)) ∧ w' = w := by
 refine zY (n := 18) Tryz.func61 Tryz.ntmps61 rfl rfl ?_
 have d := exr noS hP
 have hm := hv.max
 refine w9d ?_
 refine qM (.int .i64 0) ?_
 refine qe (w9a ?_)
 refine qM (.int .i64 0) ?_
 refine qe (zA (w9b ?_))
 refine qM v ?_
 refine qD rfl (zM dE (v := v) rfl hv) (qM (.int .i64 0) ?_)
 refine qe (zA ?_)
 refine zZ (yR (fun (k : Nat) (en : Nat → Value) (W : World) => ∃ (b : Nat → Value) (j : Nat), en = (upd (upd (upd (upd b 3 (.int .i64 0)) 6 v) 7 (.int .i64 (xs.length : Int))) 8 (.int .i64 (j : Int))) ∧ k = xs.length - j ∧ Ext noS G w G W ∧ (j ≤ xs.length) ∧ (W = w) ∧ (orL xs = orL (xs.drop j))) _ ⟨_, 0, (pS 8 (pS 7 (pS 6 (pU 3)))), rfl, d, cI _, rfl, rfl⟩ ?_)
 rintro g _ h ⟨b, j, rfl, i, c, hj, hw, hr⟩
 subst hw
 refine w9d ?_
 refine qD rfl (yU rfl rfl) (qe (zA (zB ?_)))
 refine yC (p := ((j : Int) : Int) < (xs.length : Int)) rfl rfl (fun f => ?_) (fun f => ?_)
 refine cO (zA (zB ?_))
 refine zZ (w9d ?_)
 refine qD rfl (zF dE sz3 (v := v) rfl rfl hv (by omega) (by omega)) (qD rfl (zG (r := xs.getD j 0) rfl ag3 (z := (j : Int)) rfl hv c.pins (by omega) (by omega)) (qM (.int .i64 (xs.getD j 0)) ?_))
 refine qe (w9a ?_)
 refine qM (.int .i64 (xs.getD j 0)) ?_
 refine qM (.int .i64 0) ?_
 refine qD rfl (vV rfl rfl) (qe (zA ?_))
 refine yC (p := (xs.getD j 0 : Int) ≠ 0) rfl rfl (fun a => ?_) (fun a => ?_)
 refine w9d ?_
 refine qM (.int .i64 (xs.getD j 0)) ?_
 refine qM (.int .i64 (xs.getD j 0)) ?_
 refine qe (zA ?_)
 exact cP (zP (zQ (v := .int .i64 (xs.getD j 0)) rfl rfl rfl (⟨cgA eI ((hr.trans (orL_hit (by omega) a)).symm), rfl⟩)))
 refine cO (w9c ?_)
 refine qD rfl (yH rfl rfl (by omega)) (qM (.int .i64 ((j : Int) + 1)) ?_)
 refine qe (zV (⟨_, ?_, _, rfl, _, j + 1, (pS 8 (pS 7 (pS 6 (pU 3)))), rfl, c, (by omega), rfl, (hr.trans (orL_next (by omega) a))⟩))
 omega
 refine cQ (zX (yO (yK (w9a ?_))))
 refine qM (.int .i64 0) ?_
 refine qM (.int .i64 0) ?_
 refine qe (zA ?_)
 exact cP (zP (zQ (v := .int .i64 0) rfl rfl rfl (⟨cgA eI ((hr.trans (orL_end (by omega))).symm), rfl⟩)))
theorem gJ {w : World} {u : Value} {ys : List Int} (hP : Pins G w) (hu : RSl eInt G u xs) (hv : RSl eInt G v ys) :
  Calls Tryz.prog 63 #[u, v] w fun e w' => e = .returned (vJ (cmpL xs ys)) ∧ w' = w := by
 refine zY (n := 36) Tryz.func63 Tryz.ntmps63 rfl rfl ?_
 have d := exr noS hP
 have hm := hu.max
 refine w9d ?_
 refine qM (vJ 0) ?_
 refine qe (zA (w9b ?_))
 refine qM u ?_
 refine qD rfl (zM dE (v := u) rfl hu) (qM (vJ 0) ?_)
 refine qe (zA ?_)
 refine zZ (yR (fun k en W => ∃ (c : Nat → Value) (j : Nat), en = (upd (upd (upd (upd (upd c 0 u) 1 v) 9 u) 10 (vJ (xs.length : Int))) 11 (vJ (j : Int))) ∧ k = xs.length - j ∧ Ext noS G w G W ∧ (j ≤ xs.length ∧ j ≤ ys.length) ∧ (W = w) ∧ (cmpL xs ys = cmpL (xs.drop j) (ys.drop j))) _ ⟨_, 0, (pS 11 (pS 10 (pS 9 (pS 1 (pU 0))))), rfl, d, ⟨cI _, cI _⟩, rfl, rfl⟩ ?_)
 rintro i _ l ⟨c, j, rfl, m, a, hj, hw, hr⟩
 subst hw
 refine w9d ?_
 refine qD rfl (yU rfl rfl) (qe (zA (zB ?_)))
 refine yC (p := ((j : Int) : Int) < (xs.length : Int)) rfl rfl (fun f => ?_) (fun f => ?_)
 refine cO (zA (zB ?_))
 refine zZ (w9d ?_)
 refine qM (vJ (j : Int)) ?_
 refine qD rfl (zF dE sz3 (v := u) rfl rfl hu (by omega) (by omega)) (qD rfl (zG (r := xs.getD j 0) rfl ag3 (z := (j : Int)) rfl hu a.pins (by omega) (by omega)) (qM (vJ (j : Int)) ?_))
 refine qM (vJ (xs.getD j 0)) ?_
 refine qe (zA (w9b ?_))
 refine qM (vJ (j : Int)) ?_
 refine qM v ?_
 refine qD rfl (zM dE (v := v) rfl hv) (qD rfl (gP rfl rfl) (qe (zA ?_)))
 refine yC (p := ((ys.length : Int) : Int) ≤ (j : Int)) rfl rfl (fun g => ?_) (fun g => ?_)
 refine w9d ?_
 refine qM (vJ 1) ?_
 refine qe (zA ?_)
 exact cP (zP (zQ (v := vJ 1) rfl rfl rfl (⟨cgA eI ((hr.trans (nH (by omega) (by omega))).symm), rfl⟩)))
 refine cO (w9a ?_)
 refine qM v ?_
 refine qM (vJ (j : Int)) ?_
 refine qD rfl (zF dE sz3 (v := v) rfl rfl hv (by omega) (by omega)) (qD rfl (zG (r := ys.getD j 0) rfl ag3 (z := (j : Int)) rfl hv a.pins (by omega) (by omega)) (qM (vJ (ys.getD j 0)) ?_))
 refine qe (w9a ?_)
 refine qM (vJ (xs.getD j 0)) ?_
 refine qM (vJ (ys.getD j 0)) ?_
 refine qI rfl (zL (vs := [vJ (xs.getD j 0), vJ (ys.getD j 0)]) Tryz.func62 nm62 rfl rfl rfl ?_)
 refine cD (gG a.pins) ?_
 rintro _ _ ⟨rfl, rfl⟩
 refine rt9 (qM (vJ (cmpI (xs.getD j 0) (ys.getD j 0))) ?_)
 refine qe (w9a ?_)
 refine qM (vJ (cmpI (xs.getD j 0) (ys.getD j 0))) ?_
 refine qD rfl (vV rfl rfl) (qe (zA ?_))
 refine yC (p := (cmpI (xs.getD j 0) (ys.getD j 0) : Int) ≠ 0) rfl rfl (fun b => ?_) (fun b => ?_)
 refine w9d ?_
 refine qM (vJ (cmpI (xs.getD j 0) (ys.getD j 0))) ?_
 refine qM (vJ (cmpI (xs.getD j 0) (ys.getD j 0))) ?_
 refine qe (zA ?_)
 exact cP (zP (zQ (v := vJ (cmpI (xs.getD j 0) (ys.getD j 0))) rfl rfl rfl (⟨cgA eI ((hr.trans (cmpL_ne (by omega) (by omega) b)).symm), rfl⟩)))
 refine cO (w9c ?_)
 refine qD rfl (yH rfl rfl (by omega)) (qM (vJ ((j : Int) + 1)) ?_)
 refine qe (zV (⟨_, ?_, _, rfl, _, j + 1, (pS 11 (pS 10 (pS 9 (pS 1 (pU 0))))), rfl, a, (by omega), rfl, (hr.trans (cmpL_eq (by omega) (by omega) b))⟩))
 omega
 refine cQ (zX (yO (yK (zA (w9b ?_)))))
 refine qM u ?_
 refine qD rfl (zM dE (v := u) rfl hu) (qM v ?_)
 refine qD rfl (zM dE (v := v) rfl hv) (qD rfl (yU rfl rfl) (qe (zA ?_)))
 refine yC (p := ((xs.length : Int) : Int) < (ys.length : Int)) rfl rfl (fun h => ?_) (fun h => ?_)
 refine w9d ?_
 refine qM (vJ (-1)) ?_
 refine qe (zA ?_)
 exact cP (zP (zQ (v := vJ (-1)) rfl rfl rfl (⟨cgA eI ((hr.trans (nI (by omega) (by omega))).symm), rfl⟩)))
 refine cO (w9a ?_)
 refine qM (vJ 0) ?_
 refine qe (zA ?_)
 exact cP (zP (zQ (v := vJ 0) rfl rfl rfl (⟨cgA eI ((hr.trans (nG (by omega) (by omega))).symm), rfl⟩)))
theorem eU {w : World} {xs : List Bool} (hP : Pins G w) (hv : RSl eBool G v xs) :
  Calls Tryz.prog 90 #[v, .bool p] w fun e w' => e = .returned (.int .i64 (idxB xs p)) ∧ w' = w := by
 refine zY (n := 19) Tryz.func90 Tryz.ntmps90 rfl rfl ?_
 have d := exr noS hP
 have hm := hv.max
 refine w9d ?_
 refine qM (.int .i64 0) ?_
 refine qe (zA (w9b ?_))
 refine qM v ?_
 refine qD rfl (zM dI (v := v) rfl hv) (qM (.int .i64 0) ?_)
 refine qe (zA ?_)
 refine zZ (yR (fun (k : Nat) (en : Nat → Value) (W : World) => ∃ (b : Nat → Value) (j : Nat), en = (upd (upd (upd (upd b 0 v) 1 (.bool p)) 7 (.int .i64 (xs.length : Int))) 8 (.int .i64 (j : Int))) ∧ k = xs.length - j ∧ Ext noS G w G W ∧ (j ≤ xs.length) ∧ (W = w) ∧ (idxB xs p = idxFrom p j (xs.drop j))) _ ⟨_, 0, (pS 8 (pS 7 (pS 1 (pU 0)))), rfl, d, cI _, rfl, rfl⟩ ?_)
 rintro g _ h ⟨b, j, rfl, i, c, hj, hw, hr⟩
 subst hw
 refine w9d ?_
 refine qD rfl (yU rfl rfl) (qe (zA (zB ?_)))
 refine yC (p := ((j : Int) : Int) < (xs.length : Int)) rfl rfl (fun f => ?_) (fun f => ?_)
 refine cO (zA (zB ?_))
 refine zZ (w9d ?_)
 refine qM (.int .i64 (j : Int)) ?_
 refine qM (.int .i64 (j : Int)) ?_
 refine qe (w9a ?_)
 refine qM (.bool p) ?_
 refine qM v ?_
 refine qM (.int .i64 (j : Int)) ?_
 refine qD rfl (zF dI sz4 (v := v) rfl rfl hv (by omega) (by omega)) (qD rfl (xQ (r := xs.getD j false) rfl ag4 (z := (j : Int)) rfl hv c.pins (by omega) (by omega)) (qD rfl (r_eqlB dZ rfl rfl) (qe (zA ?_))))
 refine c_if rfl rfl (fun a => ?_) (fun a => ?_)
 refine w9d ?_
 refine qM (.int .i64 (j : Int)) ?_
 refine qM (.int .i64 (j : Int)) ?_
 refine qe (zA ?_)
 exact cP (zP (zQ (v := .int .i64 (j : Int)) rfl rfl rfl (⟨cgA eI ((hr.trans (idx_hit (by omega) a)).symm), rfl⟩)))
 refine cO (w9c ?_)
 refine qD rfl (yH rfl rfl (by omega)) (qM (.int .i64 ((j : Int) + 1)) ?_)
 refine qe (zV (⟨_, ?_, _, rfl, _, j + 1, (pS 8 (pS 7 (pS 1 (pU 0)))), rfl, c, (by omega), rfl, (hr.trans (idx_next (by omega) a))⟩))
 omega
 refine cQ (zX (yO (yK (w9a ?_))))
 refine qM (.int .i64 (-1)) ?_
 refine qe (zA ?_)
 exact cP (zP (zQ (v := .int .i64 (-1)) rfl rfl rfl (⟨cgA eI ((hr.trans (idx_end (by omega))).symm), rfl⟩)))
theorem pD {w : World} {xs : List Bool} (hP : Pins G w) (hv : RSl eBool G v xs) :
  Calls Tryz.prog 64 #[v, .bool p] w fun e w' => e = .returned (.bool (decide ((0 : Int) ≤ idxB xs p))) ∧ w' = w := by
 refine zY (n := 9) Tryz.func64 Tryz.ntmps64 rfl rfl ?_
 have hX0 := exr noS hP
 refine w9d ?_
 refine qM (.bool false) ?_
 refine qe (w9a ?_)
 refine qM v ?_
 refine qM (.bool p) ?_
 refine qI rfl (zL (vs := [v, .bool p]) Tryz.func90 nm90 rfl rfl rfl ?_)
 refine cD (eU hX0.pins hv) ?_
 rintro _ _ ⟨rfl, rfl⟩
 refine rt9 (qD rfl (gP rfl rfl) (qM (.bool (decide ((0 : Int) ≤ (idxB xs p)))) ?_))
 refine qe (zA ?_)
 exact cP (zP (zQ (v := .bool (decide ((0 : Int) ≤ (idxB xs p)))) rfl rfl rfl (⟨rfl, rfl⟩)))
theorem births_spec {w : World} (hP : Pins G w) (hv : RSl eNode G v ns) (ho : OptsOk ns) (hs : ns.length ≤ 1048576) :
  Calls Tryz.prog 60 #[v] w fun e w' => ∃ (u : Value) (G' : Pin), e = .returned u ∧ Own eInt 3 G' w' w.heap.size u (births ns) ∧ Ext noS G w G' w' := by
 refine zY (n := 64) Tryz.func60 Tryz.ntmps60 rfl rfl ?_
 have ao := exr noS hP
 refine w9d ?_
 refine qM vN ?_
 refine qe (w9a ?_)
 refine qM v ?_
 refine qD rfl (zM dF (v := v) rfl hv) (qI rfl (fR (E := eInt) 0 8 (vJ 0) dE mk3 (fun _ => rfl) rfl rfl ao.pins (by omega) (by omega) (by omega) (fun a w2 bb bc bd bv => ?_)))
 have be : Own eInt 3 G w2 w.heap.size a (List.replicate ns.length 0) := bb.weaken ao.size
 have bw : (List.replicate ns.length 0).length = ns.length := List.length_replicate ..
 refine qM a ?_
 refine qe (zA (w9b ?_))
 refine qM v ?_
 refine qD rfl (zM dF (v := v) rfl hv) (qM (vJ 0) ?_)
 refine qe (zA ?_)
 refine zZ (yR (fun k en W => ∃ (o : Nat → Value) (j : Nat) (b : List Int) (af : Pin), en = (upd (upd (upd (upd (upd o 2 vN) 3 a) 13 v) 14 (vJ (ns.length : Int))) 15 (vJ (j : Int))) ∧ k = ns.length - j ∧ Ext noS G w af W ∧ Pin.le G af ∧ (j ≤ ns.length) ∧ (b.length = ns.length) ∧ (BOk b) ∧ (births ns = bgo j (ns.drop j) b) ∧ (Own eInt 3 af W w.heap.size a (b))) _ ⟨_, 0, List.replicate ns.length 0, G, (pS 15 (pS 14 (pS 13 (pS 3 (pU 2))))), rfl, (ao.step bc bd), cJ _, cI _, (by simp), (BOk.replicate _), rfl, be⟩ ?_)
 rintro bx _ bz ⟨o, j, b, af, rfl, b0, y, ag, hj, hnb, hkb, hr, ap⟩
 refine w9d ?_
 refine qD rfl (yU rfl rfl) (qe (zA (zB ?_)))
 refine yC (p := ((j : Int) : Int) < (ns.length : Int)) rfl rfl (fun bf => ?_) (fun bf => ?_)
 refine cO (zA (zB ?_))
 refine zZ (w9d ?_)
 refine qM (vJ (j : Int)) ?_
 refine qD rfl (zF dF sz65 (v := v) rfl rfl hv (by omega) (by omega)) ?_
 obtain ⟨q, s, aa, ab, bg⟩ := jD (hv.at (z := (j : Int)) (by omega) (by omega)) (j := j) rfl
 have b1 := aa.max
 have b4 := ab.max
 refine qD rfl (bg ag65 sz65 rfl (cC y.pins ag)) (qI rfl (yI [vN, vN] zr65 rfl y.pins (fun au b5 bh bi bj av => ?_)))
 have aw := y.step bj av
 have ax := zE (cgA some bh) ap.lt
 have ay : w.heap.size ≤ au := by have := y.size; omega
 refine qM (vJ (j : Int)) ?_
 refine q0 rfl rfl rfl (o_stp (cs' := [q, s]) (us := [q, s]) (v := .agg #[q, s]) sz65 rfl rfl rfl (yQ aa.one ab.one) aw.pins bi (cE rfl) rfl (fun b6 bk bl az b7 => ?_))
 obtain ⟨t, ah, a0, a1, bm⟩ := bk.shut (aw.write bl az ((zS ay))) ay
 refine qe (zA (w9b ?_))
 refine qD rfl (zH (k := 0) rfl dG rfl nz56 rfl) (qD rfl (zJ (u := q) ag56 rfl (a0.pins _ _ _ (a1 0 _ rfl))) (qD rfl (zM dE (v := q) rfl aa) (qM (vJ 0) ?_)))
 refine qe (zA ?_)
 refine zZ (yR (fun k en W => ∃ (o : Nat → Value) (i : Nat) (d : List Int), en = (upd (upd (upd (upd (upd (upd (upd (upd (upd (upd o 2 vN) 3 a) 4 (vJ (j : Int))) 5 (vP au)) 13 v) 14 (vJ (ns.length : Int))) 15 (vJ (j : Int))) 21 q) 22 (vJ (((ns.getD j default).l).length : Int))) 23 (vJ (i : Int))) ∧ k = (ns.getD j default).l.length - i ∧ Ext noS G w t W ∧ (i ≤ (ns.getD j default).l.length) ∧ (d.length = ns.length) ∧ (BOk d) ∧ (brow j b (ns.getD j default).l = brow j d ((ns.getD j default).l.drop i)) ∧ (Own eInt 3 t W w.heap.size a (d))) _ ⟨_, 0, b, (pS 23 (pS 22 (pS 21 (pS 15 (pS 14 (pS 13 (pS 5 (pS 4 (pS 3 (pU 2)))))))))), rfl, a0, cI _, hnb, hkb, rfl, (((ap.below av).keptA az ax.symm).moreA ah bm ax.symm)⟩ ?_)
 rintro b8 _ ai ⟨o, i, d, rfl, b9, x, hii, a2, aj, a3, aq⟩
 refine w9d ?_
 refine qD rfl (yU rfl rfl) (qe (zA (zB ?_)))
 refine yC (p := ((i : Int) : Int) < (((ns.getD j default).l).length : Int)) rfl rfl (fun bn => ?_) (fun bn => ?_)
 have hk := ho.left (j := j) (i := i) (by omega) (by omega)
 have hbj := aj j
 have hbk := aj ((ns.getD j default).l.getD i 0).toNat
 refine cO (zA (zB ?_))
 refine zZ (w9d ?_)
 refine qD rfl (zF dE sz3 (v := q) rfl rfl aa (by omega) (by omega)) (qD rfl (zG (r := ((ns.getD j default).l).getD i 0) rfl ag3 (z := (i : Int)) rfl aa (cC x.pins (cB ag ah)) (by omega) (by omega)) (qM (vJ (((ns.getD j default).l).getD i 0)) ?_))
 refine qe (zA ?_)
 have ac := aq.read
 refine yW (S := fun wz => Pins (Gadd t ai a) wz) (last := 13) (by kernel_rfl) rfl ?_
 have ak := bdr ai
 have a4 := x.step (x.pins.below ak) ak
 have a5 := aq.below ak
 have f := (cM x.pins a).below ak
 refine dM 0 a f ?_
 refine dM 1 (vJ (j : Int)) f ?_
 refine dM 2 a f ?_
 refine dM 3 (vJ (j : Int)) f ?_
 refine dT (i := 4) rfl rfl (by kernel_rfl) (fun _ _ => zF dE sz3 (v := a) rfl rfl ac (by omega) (by omega)) f ?_
 refine dT (i := 5) rfl rfl (by kernel_rfl) (fun _ hS => zG (r := d.getD j 0) rfl ag3 (z := (j : Int)) rfl ac hS (by omega) (by omega)) f ?_
 refine dM 6 a f ?_
 refine dM 7 (vJ (((ns.getD j default).l).getD i 0)) f ?_
 refine dT (i := 8) rfl rfl (by kernel_rfl) (fun _ _ => zF dE sz3 (v := a) rfl rfl ac (by omega) (by omega)) f ?_
 refine dT (i := 9) rfl rfl (by kernel_rfl) (fun _ hS => zG (r := d.getD (((ns.getD j default).l).getD i 0).toNat 0) rfl ag3 (z := ((ns.getD j default).l).getD i 0) rfl ac hS (by omega) (by omega)) f ?_
 refine dT (i := 10) rfl rfl (by kernel_rfl) (fun _ _ => yH rfl rfl (by omega)) f ?_
 refine dT (i := 11) rfl rfl (by kernel_rfl) (fun _ _ => r_max rfl rfl) f ?_
 refine dT (i := 12) rfl rfl (by kernel_rfl) (fun _ _ => zF dE sz3 (v := a) rfl rfl ac (by omega) (by omega)) f ?_
 refine dO (i := 13) (xK (i := 13) rfl rfl rfl (zR rfl _) (jK (E := eInt) (v := a) (u := vJ (max (d.getD j 0) ((d.getD (((ns.getD j default).l).getD i 0).toNat 0) + 1))) (z := (j : Int)) (max (d.getD j 0) ((d.getD (((ns.getD j default).l).getD i 0).toNat 0) + 1)) sz3 rfl rfl rfl rfl a4.pins a5 (by omega) (by omega) (fun ca bo bp bq cb => ?_)))
 refine ⟨fun h => absurd rfl h, ?_⟩
 refine yL (by kernel_rfl) (w9c ?_)
 refine qD rfl (yH rfl rfl (by omega)) (qM (vJ ((i : Int) + 1)) ?_)
 refine qe (zV (⟨_, ?_, _, rfl, _, i + 1, bmax j d ((ns.getD j default).l.getD i 0), (pS 23 (pS 22 (pS 21 (pS 15 (pS 14 (pS 13 (pS 5 (pS 4 (pS 3 (pU 2)))))))))), rfl, (a4.write bp bq ((yD a5))), (by omega), ((kU _ _ _).trans a2), (aj.max hk.1 hk.2), (a3.trans (brow_next (by omega))), bo⟩))
 omega
 refine cQ (zX (yO (yK (w9a ?_))))
 refine qD rfl (zH (k := 1) rfl dG rfl nz56 rfl) (qD rfl (zJ (u := s) ag56 rfl (x.pins _ _ _ (a1 1 _ rfl))) (qD rfl (zM dE (v := s) rfl ab) (qM (vJ 0) ?_)))
 refine qe (zA ?_)
 refine zZ (yR (fun k en W => ∃ (o : Nat → Value) (c : Nat) (g : List Int), en = (upd (upd (upd (upd (upd (upd (upd (upd (upd o 2 vN) 3 a) 4 (vJ (j : Int))) 13 v) 14 (vJ (ns.length : Int))) 15 (vJ (j : Int))) 42 s) 43 (vJ (((ns.getD j default).r).length : Int))) 44 (vJ (c : Int))) ∧ k = (ns.getD j default).r.length - c ∧ Ext noS G w t W ∧ (c ≤ (ns.getD j default).r.length) ∧ (g.length = ns.length) ∧ (BOk g) ∧ (brow j d (ns.getD j default).r = brow j g ((ns.getD j default).r.drop c)) ∧ (Own eInt 3 t W w.heap.size a (g))) _ ⟨_, 0, d, (pS 44 (pS 43 (pS 42 (pS 15 (pS 14 (pS 13 (pS 4 (pS 3 (pU 2))))))))), rfl, x, cI _, a2, aj, rfl, aq⟩ ?_)
 rintro cc _ al ⟨o, c, g, rfl, cd, ad, ce, a6, am, a7, ar⟩
 refine w9d ?_
 refine qD rfl (yU rfl rfl) (qe (zA (zB ?_)))
 refine yC (p := ((c : Int) : Int) < (((ns.getD j default).r).length : Int)) rfl rfl (fun br => ?_) (fun br => ?_)
 have hk := ho.right (j := j) (i := c) (by omega) (by omega)
 have hbj := am j
 have hbk := am ((ns.getD j default).r.getD c 0).toNat
 refine cO (zA (zB ?_))
 refine zZ (w9d ?_)
 refine qD rfl (zF dE sz3 (v := s) rfl rfl ab (by omega) (by omega)) (qD rfl (zG (r := ((ns.getD j default).r).getD c 0) rfl ag3 (z := (c : Int)) rfl ab (cC ad.pins (cB ag ah)) (by omega) (by omega)) (qM (vJ (((ns.getD j default).r).getD c 0)) ?_))
 refine qe (zA ?_)
 have ae := ar.read
 refine yW (S := fun wz => Pins (Gadd t al a) wz) (last := 13) (by kernel_rfl) rfl ?_
 have an := bdr al
 have a8 := ad.step (ad.pins.below an) an
 have a9 := ar.below an
 have m := (cM ad.pins a).below an
 refine dM 0 a m ?_
 refine dM 1 (vJ (j : Int)) m ?_
 refine dM 2 a m ?_
 refine dM 3 (vJ (j : Int)) m ?_
 refine dT (i := 4) rfl rfl (by kernel_rfl) (fun _ _ => zF dE sz3 (v := a) rfl rfl ae (by omega) (by omega)) m ?_
 refine dT (i := 5) rfl rfl (by kernel_rfl) (fun _ hS => zG (r := g.getD j 0) rfl ag3 (z := (j : Int)) rfl ae hS (by omega) (by omega)) m ?_
 refine dM 6 a m ?_
 refine dM 7 (vJ (((ns.getD j default).r).getD c 0)) m ?_
 refine dT (i := 8) rfl rfl (by kernel_rfl) (fun _ _ => zF dE sz3 (v := a) rfl rfl ae (by omega) (by omega)) m ?_
 refine dT (i := 9) rfl rfl (by kernel_rfl) (fun _ hS => zG (r := g.getD (((ns.getD j default).r).getD c 0).toNat 0) rfl ag3 (z := ((ns.getD j default).r).getD c 0) rfl ae hS (by omega) (by omega)) m ?_
 refine dT (i := 10) rfl rfl (by kernel_rfl) (fun _ _ => yH rfl rfl (by omega)) m ?_
 refine dT (i := 11) rfl rfl (by kernel_rfl) (fun _ _ => r_max rfl rfl) m ?_
 refine dT (i := 12) rfl rfl (by kernel_rfl) (fun _ _ => zF dE sz3 (v := a) rfl rfl ae (by omega) (by omega)) m ?_
 refine dO (i := 13) (xK (i := 13) rfl rfl rfl (zR rfl _) (jK (E := eInt) (v := a) (u := vJ (max (g.getD j 0) ((g.getD (((ns.getD j default).r).getD c 0).toNat 0) + 1))) (z := (j : Int)) (max (g.getD j 0) ((g.getD (((ns.getD j default).r).getD c 0).toNat 0) + 1)) sz3 rfl rfl rfl rfl a8.pins a9 (by omega) (by omega) (fun cf bs bt bu cg => ?_)))
 refine ⟨fun h => absurd rfl h, ?_⟩
 refine yL (by kernel_rfl) (w9c ?_)
 refine qD rfl (yH rfl rfl (by omega)) (qM (vJ ((c : Int) + 1)) ?_)
 refine qe (zV (⟨_, ?_, _, rfl, _, c + 1, bmax j g ((ns.getD j default).r.getD c 0), (pS 44 (pS 43 (pS 42 (pS 15 (pS 14 (pS 13 (pS 4 (pS 3 (pU 2))))))))), rfl, (a8.write bt bu ((yD a9))), (by omega), ((kU _ _ _).trans a6), (am.max hk.1 hk.2), (a7.trans (brow_next (by omega))), bs⟩))
 omega
 refine cQ (zX (yO (yK (w9c ?_))))
 refine qD rfl (yH rfl rfl (by omega)) (qM (vJ ((j : Int) + 1)) ?_)
 refine qe (zV (⟨_, ?_, _, rfl, _, j + 1, g, t, (pS 15 (pS 14 (pS 13 (pS 3 (pU 2))))), rfl, ad, (cB ag ah), (by omega), a6, am, (hr.trans ((bgo_next (by omega)).trans (by rw [a3, brow_end (by omega), a7, brow_end (by omega)]))), ar⟩))
 omega
 refine cQ (zX (yO (yK (w9a ?_))))
 refine qM a ?_
 refine qM a ?_
 refine qe (zA ?_)
 exact cP (zP (zQ (v := a) rfl rfl rfl (⟨_, _, rfl, (by rw [hr, bgo_end (by omega)]; exact ap), y⟩)))
theorem used_spec {w : World} {m : Int} (hP : Pins G w) (hv : RSl eNode G v ns) (ho : OptsOk ns) (hs : (0 ≤ m ∧ m < ns.length) ∧ ns.length ≤ 1048576) :
  Calls Tryz.prog 65 #[v, vJ m] w fun e w' => ∃ (u : Value) (G' : Pin), e = .returned u ∧ Own eBool 4 G' w' w.heap.size u (usedM ns m.toNat) ∧ Ext noS G w G' w' := by
 refine zY (n := 56) Tryz.func65 Tryz.ntmps65 rfl rfl ?_
 have ab := exr noS hP
 refine w9d ?_
 refine qM vN ?_
 refine qe (w9a ?_)
 refine qM v ?_
 refine qD rfl (zM dF (v := v) rfl hv) (qI rfl (fR (E := eBool) false 1 (.bool false) dI mk4 (fun _ => rfl) rfl rfl ab.pins (by omega) (by omega) (by omega) (fun a w2 am an ao a5 => ?_)))
 have ag := ab.step an ao
 have ac : Own eBool 4 G w2 w.heap.size a (List.replicate ns.length false) := am.weaken ab.size
 have a6 : (List.replicate ns.length false).length = ns.length := List.length_replicate ..
 refine qM a ?_
 refine qe (w9a ?_)
 refine qM a ?_
 refine qM (vJ m) ?_
 refine qD rfl (zF dI sz4 (v := a) rfl rfl ac.read (by omega) (by omega)) (q0 rfl rfl rfl (jK (E := eBool) (v := a) (u := .bool true) (z := m) (true) sz4 rfl rfl rfl rfl ag.pins ac (by omega) (by omega) (fun a7 ap aq ar a8 => ?_)))
 refine qe (zA (w9b ?_))
 refine qM (vJ m) ?_
 refine qM (vJ m) ?_
 refine qe (zA ?_)
 refine zZ (yR (fun k en W => ∃ (d : Nat → Value) (z : Int) (b : List Bool), en = (upd (upd (upd (upd d 0 v) 4 vN) 5 a) 6 (vJ z)) ∧ k = (z + 1).toNat ∧ Ext noS G w G W ∧ (-1 ≤ z ∧ z ≤ m) ∧ (b.length = ns.length) ∧ (usedM ns m.toNat = ugo ns (z + 1).toNat b) ∧ (Own eBool 4 G W w.heap.size a (b))) _ ⟨_, m, (List.replicate ns.length false).set m.toNat true, (pS 6 (pS 5 (pS 4 (pU 0)))), rfl, (ag.write aq ar ((yD ac))), (by omega), (by simp), (by rw [show (m + 1).toNat = m.toNat + 1 by omega]; rfl), ap⟩ ?_)
 rintro a9 _ ba ⟨d, z, b, rfl, bb, h, hz, hnb, hr, o⟩
 refine w9b ?_
 refine qM (vJ z) ?_
 refine qD rfl (gP rfl rfl) (qe (zA ?_))
 refine yC (p := (0 : Int) ≤ z) rfl rfl (fun au => ?_) (fun au => ?_)
 refine cO (zA (zB ?_))
 refine zZ (w9b ?_)
 refine qM a ?_
 refine qM (vJ z) ?_
 refine qD rfl (zF dI sz4 (v := a) rfl rfl o.read (by omega) (by omega)) (qD rfl (xQ (r := b.getD (z).toNat false) rfl ag4 (z := z) rfl o.read (cM h.pins a) (by omega) (by omega)) (qD rfl (xD rfl) (qe (zA ?_))))
 refine xU rfl rfl (fun ad => ?_) (fun ad => ?_)
 refine cO (zA (w9b ?_))
 refine qM v ?_
 refine qM (vJ z) ?_
 refine qD rfl (zF dF sz65 (v := v) rfl rfl hv (by omega) (by omega)) (qD rfl (xC (off := 0) dG rfl rfl nz56 (z := z) (k := 0) rfl hv (by omega) (by omega)) ?_)
 obtain ⟨ae, s, av⟩ := jZ (hv.at (z := z) (by omega) (by omega)) (j := (z).toNat) rfl
 have bc := s.max
 refine qD rfl (av ag56 rfl h.pins) (qD rfl (zM dE (v := ae) rfl s) (qM (vJ 0) ?_))
 refine qe (zA ?_)
 refine zZ (yR (fun k en W => ∃ (d : Nat → Value) (i : Nat) (f : List Bool), en = (upd (upd (upd (upd (upd (upd (upd d 0 v) 4 vN) 5 a) 6 (vJ z)) 31 ae) 32 (vJ (((ns.getD (z).toNat default).l).length : Int))) 33 (vJ (i : Int))) ∧ k = (ns.getD (z).toNat default).l.length - i ∧ Ext noS G w G W ∧ (i ≤ (ns.getD (z).toNat default).l.length) ∧ (f.length = ns.length) ∧ (setAll b (ns.getD (z).toNat default).l = setAll f ((ns.getD (z).toNat default).l.drop i)) ∧ (Own eBool 4 G W w.heap.size a (f))) _ ⟨_, 0, b, (pS 33 (pS 32 (pS 31 (pS 6 (pS 5 (pS 4 (pU 0))))))), rfl, h, cI _, hnb, rfl, o⟩ ?_)
 rintro bd _ be ⟨d, i, f, rfl, bf, q, hii, ah, ai, t⟩
 refine w9d ?_
 refine qD rfl (yU rfl rfl) (qe (zA (zB ?_)))
 refine yC (p := ((i : Int) : Int) < (((ns.getD (z).toNat default).l).length : Int)) rfl rfl (fun aw => ?_) (fun aw => ?_)
 have hk := ho.left (j := (z).toNat) (i := i) (by omega) (by omega)
 refine cO (zA (zB ?_))
 refine zZ (w9d ?_)
 refine qD rfl (zF dE sz3 (v := ae) rfl rfl s (by omega) (by omega)) (qD rfl (zG (r := ((ns.getD (z).toNat default).l).getD i 0) rfl ag3 (z := (i : Int)) rfl s q.pins (by omega) (by omega)) (qM (vJ (((ns.getD (z).toNat default).l).getD i 0)) ?_))
 refine qe (zA (zC ?_))
 refine qM a ?_
 refine qM (vJ (((ns.getD (z).toNat default).l).getD i 0)) ?_
 refine qD rfl (zF dI sz4 (v := a) rfl rfl t.read (by omega) (by omega)) (q0 rfl rfl rfl (jK (E := eBool) (v := a) (u := .bool true) (z := ((ns.getD (z).toNat default).l).getD i 0) (true) sz4 rfl rfl rfl rfl q.pins t (by omega) (by omega) (fun bg ax ay az bh => ?_)))
 refine qe (w9c ?_)
 refine qD rfl (yH rfl rfl (by omega)) (qM (vJ ((i : Int) + 1)) ?_)
 refine qe (zV (⟨_, ?_, _, rfl, _, i + 1, f.set ((ns.getD (z).toNat default).l.getD i 0).toNat true, (pS 33 (pS 32 (pS 31 (pS 6 (pS 5 (pS 4 (pU 0))))))), rfl, (q.write ay az ((yD t))), (by omega), ((cT ..).trans ah), (ai.trans (kN (by omega))), ax⟩))
 omega
 refine cQ (zX (yO (yK (w9a ?_))))
 refine qM v ?_
 refine qM (vJ z) ?_
 refine qD rfl (zF dF sz65 (v := v) rfl rfl hv (by omega) (by omega)) (qD rfl (xC (off := 1) dG rfl rfl nz56 (z := z) (k := 0) rfl hv (by omega) (by omega)) ?_)
 obtain ⟨af, x, a0⟩ := jY (hv.at (z := z) (by omega) (by omega)) (j := (z).toNat) rfl
 have bi := x.max
 refine qD rfl (a0 ag56 rfl q.pins) (qD rfl (zM dE (v := af) rfl x) (qM (vJ 0) ?_))
 refine qe (zA ?_)
 refine zZ (yR (fun k en W => ∃ (d : Nat → Value) (c : Nat) (g : List Bool), en = (upd (upd (upd (upd (upd (upd (upd d 0 v) 4 vN) 5 a) 6 (vJ z)) 45 af) 46 (vJ (((ns.getD (z).toNat default).r).length : Int))) 47 (vJ (c : Int))) ∧ k = (ns.getD (z).toNat default).r.length - c ∧ Ext noS G w G W ∧ (c ≤ (ns.getD (z).toNat default).r.length) ∧ (g.length = ns.length) ∧ (setAll f (ns.getD (z).toNat default).r = setAll g ((ns.getD (z).toNat default).r.drop c)) ∧ (Own eBool 4 G W w.heap.size a (g))) _ ⟨_, 0, f, (pS 47 (pS 46 (pS 45 (pS 6 (pS 5 (pS 4 (pU 0))))))), rfl, q, cI _, ah, rfl, t⟩ ?_)
 rintro bj _ bk ⟨d, c, g, rfl, bl, y, bm, aj, ak, aa⟩
 refine w9d ?_
 refine qD rfl (yU rfl rfl) (qe (zA (zB ?_)))
 refine yC (p := ((c : Int) : Int) < (((ns.getD (z).toNat default).r).length : Int)) rfl rfl (fun a1 => ?_) (fun a1 => ?_)
 have hk := ho.right (j := (z).toNat) (i := c) (by omega) (by omega)
 refine cO (zA (zB ?_))
 refine zZ (w9d ?_)
 refine qD rfl (zF dE sz3 (v := af) rfl rfl x (by omega) (by omega)) (qD rfl (zG (r := ((ns.getD (z).toNat default).r).getD c 0) rfl ag3 (z := (c : Int)) rfl x y.pins (by omega) (by omega)) (qM (vJ (((ns.getD (z).toNat default).r).getD c 0)) ?_))
 refine qe (zA (zC ?_))
 refine qM a ?_
 refine qM (vJ (((ns.getD (z).toNat default).r).getD c 0)) ?_
 refine qD rfl (zF dI sz4 (v := a) rfl rfl aa.read (by omega) (by omega)) (q0 rfl rfl rfl (jK (E := eBool) (v := a) (u := .bool true) (z := ((ns.getD (z).toNat default).r).getD c 0) (true) sz4 rfl rfl rfl rfl y.pins aa (by omega) (by omega) (fun bn a2 a3 a4 bo => ?_)))
 refine qe (w9c ?_)
 refine qD rfl (yH rfl rfl (by omega)) (qM (vJ ((c : Int) + 1)) ?_)
 refine qe (zV (⟨_, ?_, _, rfl, _, c + 1, g.set ((ns.getD (z).toNat default).r.getD c 0).toNat true, (pS 47 (pS 46 (pS 45 (pS 6 (pS 5 (pS 4 (pU 0))))))), rfl, (y.write a3 a4 ((yD aa))), (by omega), ((cT ..).trans aj), (ak.trans (kN (by omega))), a2⟩))
 omega
 refine cQ (zX (yO (yK (w9c ?_))))
 refine qM (vJ z) ?_
 refine qD rfl (xY rfl rfl (by omega)) (qM (vJ (z - 1)) ?_)
 refine qe (zV (⟨_, ?_, _, rfl, _, z - 1, g, (pS 6 (pS 5 (pS 4 (pU 0)))), rfl, y, (by omega), aj, (hr.trans ((rI (by omega)).trans (by rw [tF ad, ai, fP (by omega), ak, fP (by omega)]))), aa⟩))
 omega
 refine cQ (zX (yK (zA (zC ?_))))
 refine qM (vJ z) ?_
 refine qD rfl (xY rfl rfl (by omega)) (qM (vJ (z - 1)) ?_)
 refine qe (zV (⟨_, ?_, _, rfl, _, z - 1, b, (pS 6 (pS 5 (pS 4 (pU 0)))), rfl, h, (by omega), hnb, (hr.trans ((rI (by omega)).trans (by rw [sA ad]))), o⟩))
 omega
 refine cQ (zX (yO (yK (w9a ?_))))
 refine qM a ?_
 refine qM a ?_
 refine qe (zA ?_)
 exact cP (zP (zQ (v := a) rfl rfl rfl (⟨_, _, rfl, (by rw [hr, ugo_end (by omega)]; exact o), h⟩)))
theorem eX {w : World} (hP : Pins G w) (hv : RSl eNode G v ns) :
  Calls Tryz.prog 38 [.agg #[v]].toArray w fun e w' => ∃ G', e = .returned (.bool (goodB ns)) ∧ Ext noS G w G' w' := by
 refine zY (n := 93) Tryz.func38 Tryz.ntmps38 rfl rfl ?_
 have a6 := exr noS hP
 have hm := hv.max
 refine w9d ?_
 refine qI rfl (xH [v] (v := .agg #[v]) rfl rfl a6.pins (fun b1 w2 eo ck cl cm => ?_))
 have cn : w.heap.size ≤ b1 := by have := a6.size; omega
 obtain ⟨G9, s, aj, y, ep⟩ := ck.shut (a6.step cl cm) cn
 refine qM (.bool false) ?_
 refine qe (zA (w9b ?_))
 refine qD rfl (zH (k := 0) rfl dJ rfl nz30 rfl) (qD rfl (zJ (u := v) ag30 rfl (aj.pins _ _ _ (y 0 _ rfl))) (qD rfl (zM dF (v := v) rfl hv) (qD rfl (yU rfl rfl) (qM (.bool (decide (((ns.length : Int) : Int) < 1))) ?_))))
 refine qbd (p := ((ns.length : Int) : Int) < 1) (t := 13) rfl (fun co => ?_) (fun co => ?_)
 refine qW ?_
 refine qW ?_
 refine qW ?_
 refine qW ?_
 refine qD rfl (yB (v := .bool true) rfl rfl) (qe (zA ?_))
 refine qK rfl rfl (w9d ?_)
 refine qM (.bool false) ?_
 refine qe (zA ?_)
 exact cP (zP (zQ (v := .bool false) rfl rfl rfl (⟨_, cgA eB (goodB_false.2 (fun g => by have := g.lo; omega)).symm, aj⟩)))
 refine qN (zH (k := 0) rfl dJ rfl nz30 rfl) ?_
 refine qN (zJ (u := v) ag30 rfl (aj.pins _ _ _ (y 0 _ rfl))) ?_
 refine qN (zM dF (v := v) rfl hv) ?_
 refine qN (jW rfl rfl) ?_
 refine qD rfl (zU (v := .bool (decide ((120 : Int) < (ns.length : Int)))) rfl rfl) (qe (zA ?_))
 refine yC (p := (120 : Int) < (ns.length : Int)) rfl rfl (fun cp => ?_) (fun cp => ?_)
 refine w9d ?_
 refine qM (.bool false) ?_
 refine qe (zA ?_)
 exact cP (zP (zQ (v := .bool false) rfl rfl rfl (⟨_, cgA eB (goodB_false.2 (fun g => by have := g.hi; omega)).symm, aj⟩)))
 refine cO (zA (w9b ?_))
 refine qD rfl (zH (k := 0) rfl dJ rfl nz30 rfl) (qD rfl (zJ (u := v) ag30 rfl (aj.pins _ _ _ (y 0 _ rfl))) (qD rfl (zM dF (v := v) rfl hv) (qM (vJ 0) ?_)))
 refine qe (zA ?_)
 refine zZ (yR (fun k en W => ∃ (aa : Nat → Value) (j : Nat) (a7 : Pin), en = (upd (upd (upd (upd aa 1 (vP b1)) 20 v) 21 (vJ (ns.length : Int))) 22 (vJ (j : Int))) ∧ k = ns.length - j ∧ Ext noS G w a7 W ∧ Pin.le G9 a7 ∧ (j ≤ ns.length) ∧ (∀ i, i < j → goodOpts (ns.getD i default).l i = true ∧ goodOpts (ns.getD i default).r i = true)) _ ⟨_, 0, G9, (pS 22 (pS 21 (pS 20 (pU 1)))), rfl, aj, cJ _, cI _, (fun i hi => absurd hi (cK i))⟩ ?_)
 rintro eq _ er ⟨aa, j, a7, rfl, es, ab, d, hj, hg⟩
 refine w9d ?_
 refine qD rfl (yU rfl rfl) (qe (zA (zB ?_)))
 refine yC (p := ((j : Int) : Int) < (ns.length : Int)) rfl rfl (fun cq => ?_) (fun cq => ?_)
 refine cO (zA (zB ?_))
 refine zZ (w9d ?_)
 refine qM (vJ (j : Int)) ?_
 refine qD rfl (zF dF sz65 (v := v) rfl rfl hv (by omega) (by omega)) ?_
 obtain ⟨ao, ap, a8, a9, cr⟩ := jD (hv.at (z := (j : Int)) (by omega) (by omega)) (j := j) rfl
 have et := a8.max
 have eu := a9.max
 refine qD rfl (cr ag65 sz65 rfl (cC ab.pins (cB s d))) (qI rfl (yI [vN, vN] zr65 rfl ab.pins (fun cs ev ew ct cu cv => ?_)))
 have bp := ab.step cu cv
 have bq : w.heap.size ≤ cs := by have := ab.size; omega
 refine qM (vJ (j : Int)) ?_
 refine q0 rfl rfl rfl (o_stp (cs' := [ao, ap]) (us := [ao, ap]) (v := .agg #[ao, ap]) sz65 rfl rfl rfl (yQ a8.one a9.one) bp.pins ct (cE rfl) rfl (fun ex cw cx cy ey => ?_))
 obtain ⟨cz, ba, ai, br, ez⟩ := cw.shut (bp.write cx cy ((zS bq))) bq
 refine qe (w9a ?_)
 refine qD rfl (zH (k := 0) rfl dG rfl nz56 rfl) (qD rfl (zJ (u := ao) ag56 rfl (ai.pins _ _ _ (br 0 _ rfl))) (qM (vJ (j : Int)) ?_))
 refine qI rfl (zL (vs := [ao, vJ (j : Int)]) Tryz.func59 nm59 rfl rfl rfl ?_)
 refine cD (fF ai.pins (a8.mono (cB (cB s d) ba))) ?_
 rintro _ _ ⟨rfl, rfl⟩
 refine rt9 (qD rfl (xD rfl) (qM (.bool (!(goodOpts ((ns.getD j default).l) (j : Int)))) ?_))
 refine qbn (t := 32) rfl (fun bb => ?_) (fun bb => ?_)
 refine qN (zH (k := 1) rfl dG rfl nz56 rfl) ?_
 refine qN (zJ (u := ap) ag56 rfl (ai.pins _ _ _ (br 1 _ rfl))) ?_
 refine qN (zN (v := vJ (j : Int)) rfl) ?_
 refine q1g rfl rfl rfl rfl rfl rfl (zL (vs := [ap, vJ (j : Int)]) Tryz.func59 nm59 rfl rfl rfl ?_)
 refine cD (fF ai.pins (a9.mono (cB (cB s d) ba))) ?_
 rintro _ _ ⟨rfl, rfl⟩
 refine rt9 (qN (xD rfl) ?_)
 refine qD rfl (zU (v := .bool (!(goodOpts ((ns.getD j default).r) (j : Int)))) rfl rfl) (qe (zA ?_))
 refine xU rfl rfl (fun bc => ?_) (fun bc => ?_)
 refine cO (w9c ?_)
 refine qD rfl (yH rfl rfl (by omega)) (qM (vJ ((j : Int) + 1)) ?_)
 refine qe (zV (⟨_, ?_, _, rfl, _, j + 1, cz, (pS 22 (pS 21 (pS 20 (pU 1)))), rfl, ai, (cB d ba), (by omega), (fun k hk => if h3 : k = j then h3 ▸ ⟨bb, bc⟩ else hg k (by omega))⟩))
 omega
 refine w9d ?_
 refine qM (.bool false) ?_
 refine qe (zA ?_)
 exact cP (zP (zQ (v := .bool false) rfl rfl rfl (⟨_, cgA eB (goodB_false.2 (fun g => by have := (g.opts j (by omega)).2; rw [bc] at this; cases this)).symm, ai⟩)))
 refine qW ?_
 refine qW ?_
 refine qW ?_
 refine qW ?_
 refine qW ?_
 refine qD rfl (yB (v := .bool true) rfl rfl) (qe (zA ?_))
 refine qK rfl rfl (w9d ?_)
 refine qM (.bool false) ?_
 refine qe (zA ?_)
 exact cP (zP (zQ (v := .bool false) rfl rfl rfl (⟨_, cgA eB (goodB_false.2 (fun g => by have := (g.opts j (by omega)).1; rw [bb] at this; cases this)).symm, ai⟩)))
 refine cQ (zX (yO (yK (w9a ?_))))
 refine qD rfl (zH (k := 0) rfl dJ rfl nz30 rfl) (qD rfl (zJ (u := v) ag30 rfl ((cC ab.pins d) _ _ _ (y 0 _ rfl))) ?_)
 have hopts : ∀ i, i < ns.length → goodOpts (ns.getD i default).l i = true ∧ goodOpts (ns.getD i default).r i = true := fun i hi => hg i (by omega)
 refine qI rfl (zL (vs := [v]) Tryz.func60 nm60 rfl rfl rfl ?_)
 refine cD (births_spec ab.pins (hv.mono (cB s d)) (opts_ok hopts) (by omega)) ?_
 rintro _ c0 ⟨ac, c1, rfl, c2, m⟩
 refine rt9 ?_
 have c3 := c2.weaken ab.size
 refine qM ac ?_
 refine qe (zA (w9b ?_))
 have hnb := kX ns
 obtain ⟨bs, q, c4, a3, e0⟩ := c3.sealed (ab.tr m)
 refine qM (vJ 1) ?_
 refine qe (zA ?_)
 refine zZ (yR (fun k en W => ∃ (aa : Nat → Value) (i : Nat) (aq : Pin), en = (upd (upd (upd aa 1 (vP b1)) 5 ac) 6 (vJ (i : Int))) ∧ k = ns.length - i ∧ Ext noS G w aq W ∧ Pin.le bs aq ∧ (1 ≤ i ∧ i ≤ ns.length) ∧ (∀ k, 1 ≤ k → k < i → pairC ns (births ns) k < 0)) _ ⟨_, 1, bs, (pS 6 (pS 5 (pU 1))), rfl, c4, cJ _, (by omega), (fun k a b => absurd a (by omega))⟩ ?_)
 rintro e1 _ bd ⟨aa, i, aq, rfl, e2, ad, f, hi, hsr⟩
 refine w9b ?_
 refine qM (vJ (i : Int)) ?_
 refine qD rfl (zH (k := 0) rfl dJ rfl nz30 rfl) (qD rfl (zJ (u := v) ag30 rfl ((cC ad.pins (cB (cB (cB d m.le) q) f)) _ _ _ (y 0 _ rfl))) (qD rfl (zM dF (v := v) rfl hv) (qD rfl (yU rfl rfl) (qe (zA ?_)))))
 refine yC (p := ((i : Int) : Int) < (ns.length : Int)) rfl rfl (fun c5 => ?_) (fun c5 => ?_)
 refine cO (zA (zB ?_))
 refine zZ (zB (c_cut (fun (en : Nat → Value) (W : World) => ∃ (aa : Nat → Value) (be : Nat) (ar : Value) (au : Value) (bf : Nat) (av : Value) (aw : Value) (x : Pin), en = (upd (upd (upd (upd (upd aa 1 (vP b1)) 5 ac) 6 (vJ (i : Int))) 7 (vP be)) 8 (vP bf)) ∧ Ext noS G w x W ∧ Pin.le aq x ∧ (RSl eInt x ar ((ns.getD ((i : Int) - 1).toNat default).l)) ∧ (RSl eInt x au ((ns.getD ((i : Int) - 1).toNat default).r)) ∧ (RSl eInt x av ((ns.getD i default).l)) ∧ (RSl eInt x aw ((ns.getD i default).r)) ∧ (BxP x be [ar, au]) ∧ (BxP x bf [av, aw])) ?_ ?_))
 ·rintro _ bg ⟨aa, be, ar, au, bf, av, aw, x, rfl, bt, bh, c6, c7, c8, c9, bu, bv⟩
  refine zA (zB ?_)
  refine yW (S := fun wz => Pins x wz) (last := 23) (by kernel_rfl) rfl ?_
  have bw := bdr bg
  have c := bt.step (bt.pins.below bw) bw
  refine dM 0 ac c.pins ?_
  refine dM 1 (vJ (i : Int)) c.pins ?_
  refine dT (i := 2) rfl rfl (by kernel_rfl) (fun _ _ => xY rfl rfl (by omega)) c.pins ?_
  refine dT (i := 3) rfl rfl (by kernel_rfl) (fun _ _ => zF dE sz3 (v := ac) rfl rfl a3 (by omega) (by omega)) c.pins ?_
  refine dT (i := 4) rfl rfl (by kernel_rfl) (fun _ hS => zG (r := (births ns).getD ((i : Int) - 1).toNat 0) rfl ag3 (z := (i : Int) - 1) rfl a3 (cC hS (cB f bh)) (by omega) (by omega)) c.pins ?_
  refine dM 5 ac c.pins ?_
  refine dM 6 (vJ (i : Int)) c.pins ?_
  refine dT (i := 7) rfl rfl (by kernel_rfl) (fun _ _ => zF dE sz3 (v := ac) rfl rfl a3 (by omega) (by omega)) c.pins ?_
  refine dT (i := 8) rfl rfl (by kernel_rfl) (fun _ hS => zG (r := (births ns).getD i 0) rfl ag3 (z := (i : Int)) rfl a3 (cC hS (cB f bh)) (by omega) (by omega)) c.pins ?_
  refine dT (i := 10) rfl rfl (by kernel_rfl) (fun _ _ => zH (k := 0) rfl dG rfl nz56 rfl) c.pins ?_
  refine dT (i := 11) rfl rfl (by kernel_rfl) (fun _ hS => zJ (u := ar) ag56 rfl (hS _ _ _ (bu 0 _ rfl))) c.pins ?_
  refine dT (i := 12) rfl rfl (by kernel_rfl) (fun _ _ => zH (k := 0) rfl dG rfl nz56 rfl) c.pins ?_
  refine dT (i := 13) rfl rfl (by kernel_rfl) (fun _ hS => zJ (u := av) ag56 rfl (hS _ _ _ (bv 0 _ rfl))) c.pins ?_
  refine dT (i := 15) rfl rfl (by kernel_rfl) (fun _ _ => zH (k := 1) rfl dG rfl nz56 rfl) c.pins ?_
  refine dT (i := 16) rfl rfl (by kernel_rfl) (fun _ hS => zJ (u := au) ag56 rfl (hS _ _ _ (bu 1 _ rfl))) c.pins ?_
  refine dT (i := 17) rfl rfl (by kernel_rfl) (fun _ _ => zH (k := 1) rfl dG rfl nz56 rfl) c.pins ?_
  refine dT (i := 18) rfl rfl (by kernel_rfl) (fun _ hS => zJ (u := aw) ag56 rfl (hS _ _ _ (bv 1 _ rfl))) c.pins ?_
  refine dP (i := 9) rfl rfl (zL (vs := [vJ ((births ns).getD ((i : Int) - 1).toNat 0), vJ ((births ns).getD i 0)]) Tryz.func62 nm62 rfl rfl rfl ?_)
  refine cD (gG c.pins) ?_
  rintro _ _ ⟨rfl, rfl⟩
  refine rt9 (⟨fun _ => c.pins, ?_⟩)
  refine dP (i := 14) rfl rfl (zL (vs := [ar, av]) Tryz.func63 nm63 rfl rfl rfl ?_)
  refine cD (gJ c.pins c6 c8) ?_
  rintro _ _ ⟨rfl, rfl⟩
  refine rt9 (⟨fun _ => c.pins, ?_⟩)
  refine dP (i := 19) rfl rfl (zL (vs := [au, aw]) Tryz.func63 nm63 rfl rfl rfl ?_)
  refine cD (gJ c.pins c7 c9) ?_
  rintro _ _ ⟨rfl, rfl⟩
  refine rt9 (⟨fun _ => c.pins, ?_⟩)
  refine dP (i := 20) rfl rfl (yV (E := eInt) (e := 3) [vJ (cmpI ((births ns).getD ((i : Int) - 1).toNat 0) ((births ns).getD i 0)), vJ (cmpL ((ns.getD ((i : Int) - 1).toNat default).l) ((ns.getD i default).l)), vJ (cmpL ((ns.getD ((i : Int) - 1).toNat default).r) ((ns.getD i default).r))] [cmpI ((births ns).getD ((i : Int) - 1).toNat 0) ((births ns).getD i 0), cmpL ((ns.getD ((i : Int) - 1).toNat default).l) ((ns.getD i default).l), cmpL ((ns.getD ((i : Int) - 1).toNat default).r) ((ns.getD i default).r)] dE sz3 zr3 (by exact reps3 (by rfl) (by rfl) (by rfl)) (tT (by rfl) (by rfl) (by rfl)) rfl rfl rfl rfl (by decide) c.pins (fun bx da db dc dd e3 => ?_))
  have bz := c.step dc dd
  have de := db.weaken c.size
  refine ⟨fun _ => bz.pins, ?_⟩
  obtain ⟨df, bi, ax, dg, e4⟩ := de.sealed bz
  refine dP (i := 21) rfl rfl (zL (vs := [bx]) Tryz.func61 nm61 rfl rfl rfl ?_)
  refine cD (cmpOr_spec ax.pins dg) ?_
  rintro _ _ ⟨rfl, rfl⟩
  refine rt9 (⟨fun _ => (cC ax.pins bi), ?_⟩)
  refine dT (i := 22) rfl rfl (by kernel_rfl) (fun _ _ => gP rfl rfl) (cC ax.pins bi) ?_
  refine yL (by kernel_rfl) (zA (yC (p := (0 : Int) ≤ (orL ([cmpI ((births ns).getD ((i : Int) - 1).toNat 0) ((births ns).getD i 0), cmpL ((ns.getD ((i : Int) - 1).toNat default).l) ((ns.getD i default).l), cmpL ((ns.getD ((i : Int) - 1).toNat default).r) ((ns.getD i default).r)]))) rfl rfl (fun dh => ?_) (fun dh => ?_)))
  refine w9d ?_
  refine qM (.bool false) ?_
  refine qe (zA ?_)
  exact cP (zP (zQ (v := .bool false) rfl rfl rfl (⟨_, cgA eB (goodB_false.2 (fun g => by have := g.sorted i (by omega) (by omega); unfold pairC at this; rw [show i - 1 = ((i : Int) - 1).toNat by omega] at this; omega)).symm, ax⟩)))
  refine cO (w9c ?_)
  refine qM (vJ (i : Int)) ?_
  refine qD rfl (yH rfl rfl (by omega)) (qM (vJ ((i : Int) + 1)) ?_)
  refine qe (zV ?_)
  have hstep : pairC ns (births ns) i < 0 := by
   unfold pairC; rw [show i - 1 = ((i : Int) - 1).toNat by omega]; omega
  refine ⟨_, ?_, _, rfl, _, i + 1, df, (pS 6 (pS 5 (pU 1))), rfl, ax, (cB (cB f bh) bi), (by omega), (fun k h1 h2 => if h3 : k = i then h3 ▸ hstep else hsr k h1 (by omega))⟩
  omega
 refine yW (S := fun wz => Pins aq wz) (last := 14) (by kernel_rfl) rfl ?_
 have b0 := bdr bd
 have o := ad.step (ad.pins.below b0) b0
 refine dT (i := 0) rfl rfl (by kernel_rfl) (fun _ _ => zH (k := 0) rfl dJ rfl nz30 rfl) o.pins ?_
 refine dT (i := 1) rfl rfl (by kernel_rfl) (fun _ hS => zJ (u := v) ag30 rfl ((cC hS (cB (cB (cB d m.le) q) f)) _ _ _ (y 0 _ rfl))) o.pins ?_
 refine dM 2 (vJ (i : Int)) o.pins ?_
 refine dT (i := 3) rfl rfl (by kernel_rfl) (fun _ _ => xY rfl rfl (by omega)) o.pins ?_
 refine dT (i := 4) rfl rfl (by kernel_rfl) (fun _ _ => zF dF sz65 (v := v) rfl rfl hv (by omega) (by omega)) o.pins ?_
 obtain ⟨ae, af, ay, az, dj⟩ := jD (hv.at (z := (i : Int) - 1) (by omega) (by omega)) (j := ((i : Int) - 1).toNat) rfl
 have e5 := ay.max
 have e6 := az.max
 refine dT (i := 5) rfl rfl (by kernel_rfl) (fun _ hS => dj ag65 sz65 rfl (cC hS (cB (cB (cB (cB s d) m.le) q) f))) o.pins ?_
 refine dT (i := 6) rfl rfl (by kernel_rfl) (fun _ _ => zH (k := 0) rfl dJ rfl nz30 rfl) o.pins ?_
 refine dT (i := 7) rfl rfl (by kernel_rfl) (fun _ hS => zJ (u := v) ag30 rfl ((cC hS (cB (cB (cB d m.le) q) f)) _ _ _ (y 0 _ rfl))) o.pins ?_
 refine dM 8 (vJ (i : Int)) o.pins ?_
 refine dT (i := 9) rfl rfl (by kernel_rfl) (fun _ _ => zF dF sz65 (v := v) rfl rfl hv (by omega) (by omega)) o.pins ?_
 obtain ⟨ag, ah, a0, a1, dk⟩ := jD (hv.at (z := (i : Int)) (by omega) (by omega)) (j := i) rfl
 have e7 := a0.max
 have e8 := a1.max
 refine dT (i := 10) rfl rfl (by kernel_rfl) (fun _ hS => dk ag65 sz65 rfl (cC hS (cB (cB (cB (cB s d) m.le) q) f))) o.pins ?_
 refine jJ (i := 11) (j := 12) (by kernel_rfl) ?_ ?_
 refine (dQ (i := 11) rfl rfl (yI [vN, vN] zr65 rfl o.pins (fun b2 e9 fa b3 dl dm => ?_)))
 have a4 := o.step dl dm
 have b4 : w.heap.size ≤ b2 := by have := o.size; omega
 refine ⟨fun _ => a4.pins, ?_⟩
 refine dP (i := 12) rfl rfl (yI [vN, vN] zr65 rfl a4.pins (fun b5 fb dn dp dq b6 => ?_))
 have bk := a4.step dq b6
 have b7 := zI (cgA some dn) b3.lt
 have b8 : w.heap.size ≤ b5 := by have := a4.size; omega
 refine ⟨fun _ => bk.pins, ?_⟩
 refine dO (i := 13) (xK (i := 13) rfl rfl rfl (zR rfl _) (o_stp (cs' := [ae, af]) (us := [ae, af]) (v := .agg #[ae, af]) sz65 rfl rfl rfl (yQ ay.one az.one) bk.pins (b3.below b6) (cE rfl) rfl (fun fc dr ds b9 fd => ?_)))
 obtain ⟨fe, ak, bl, dt, du⟩ := dr.shut (bk.write ds b9 ((zS b4))) b4
 refine ⟨fun _ => (cC bl.pins ak), ?_⟩
 refine dO (i := 14) (xK (i := 14) rfl rfl rfl (zR rfl _) (o_stp (cs' := [ag, ah]) (us := [ag, ah]) (v := .agg #[ag, ah]) sz65 rfl rfl rfl (yQ a0.one a1.one) bl.pins ((dp.keptA b9 b7).moreA du b7) (cE rfl) rfl (fun ff dv dw dx fg => ?_)))
 obtain ⟨dy, al, dz, d0, fh⟩ := dv.shut (bl.write dw dx ((zS b8))) b8
 refine ⟨fun h => absurd rfl h, ?_⟩
 exact yL (by kernel_rfl) (qV ⟨_, b2, ae, af, b5, ag, ah, dy, (pS 8 (pS 7 (pS 6 (pS 5 (pU 1))))), dz, (cB ak al), (ay.mono (cB (cB (cB (cB (cB (cB s d) m.le) q) f) ak) al)), (az.mono (cB (cB (cB (cB (cB (cB s d) m.le) q) f) ak) al)), (a0.mono (cB (cB (cB (cB (cB (cB s d) m.le) q) f) ak) al)), (a1.mono (cB (cB (cB (cB (cB (cB s d) m.le) q) f) ak) al)), (dt.mono al), (d0.mono (cJ _))⟩)
 refine (dQ (i := 12) rfl rfl (yI [vN, vN] zr65 rfl o.pins (fun ca fi fj cb d1 d2 => ?_)))
 have a5 := o.step d1 d2
 have cc : w.heap.size ≤ ca := by have := o.size; omega
 refine ⟨fun _ => a5.pins, ?_⟩
 refine dP (i := 11) rfl rfl (yI [vN, vN] zr65 rfl a5.pins (fun cd fk d3 d4 d5 ce => ?_))
 have bm := a5.step d5 ce
 have cf := zI (cgA some d3) cb.lt
 have cg : w.heap.size ≤ cd := by have := a5.size; omega
 refine ⟨fun _ => bm.pins, ?_⟩
 refine dO (i := 13) (xK (i := 13) rfl rfl rfl (zR rfl _) (o_stp (cs' := [ae, af]) (us := [ae, af]) (v := .agg #[ae, af]) sz65 rfl rfl rfl (yQ ay.one az.one) bm.pins d4 (cE rfl) rfl (fun fl d6 d7 ch fm => ?_)))
 obtain ⟨fn, am, bn, d8, d9⟩ := d6.shut (bm.write d7 ch ((zS cg))) cg
 refine ⟨fun _ => (cC bn.pins am), ?_⟩
 refine dO (i := 14) (xK (i := 14) rfl rfl rfl (zR rfl _) (o_stp (cs' := [ag, ah]) (us := [ag, ah]) (v := .agg #[ag, ah]) sz65 rfl rfl rfl (yQ a0.one a1.one) bn.pins (((cb.below ce).keptA ch cf.symm).moreA d9 cf.symm) (cE rfl) rfl (fun fo ea eb ec fp => ?_)))
 obtain ⟨ed, an, ee, ef, fq⟩ := ea.shut (bn.write eb ec ((zS cc))) cc
 refine ⟨fun h => absurd rfl h, ?_⟩
 exact yL (by kernel_rfl) (qV ⟨_, cd, ae, af, ca, ag, ah, ed, (pS 8 (pS 7 (pS 6 (pS 5 (pU 1))))), ee, (cB am an), (ay.mono (cB (cB (cB (cB (cB (cB s d) m.le) q) f) am) an)), (az.mono (cB (cB (cB (cB (cB (cB s d) m.le) q) f) am) an)), (a0.mono (cB (cB (cB (cB (cB (cB s d) m.le) q) f) am) an)), (a1.mono (cB (cB (cB (cB (cB (cB s d) m.le) q) f) am) an)), (d8.mono an), (ef.mono (cJ _))⟩)
 refine cQ (zX (yO (yK (w9a ?_))))
 refine qD rfl (zH (k := 0) rfl dJ rfl nz30 rfl) (qD rfl (zJ (u := v) ag30 rfl ((cC ad.pins (cB (cB (cB d m.le) q) f)) _ _ _ (y 0 _ rfl))) (qD rfl (zH (k := 0) rfl dJ rfl nz30 rfl) (qD rfl (zJ (u := v) ag30 rfl ((cC ad.pins (cB (cB (cB d m.le) q) f)) _ _ _ (y 0 _ rfl))) (qD rfl (zM dF (v := v) rfl hv) (qD rfl (xY rfl rfl (by omega)) (qI rfl (zL (vs := [v, vJ ((ns.length : Int) - 1)]) Tryz.func65 nm65 rfl rfl rfl ?_)))))))
 refine cD (used_spec ad.pins (hv.mono (cB (cB (cB (cB s d) m.le) q) f)) (opts_ok hopts) (by omega)) ?_
 rintro _ eg ⟨ci, eh, rfl, ei, ej⟩
 refine rt9 ?_
 have ek := ei.weaken ad.size
 obtain ⟨fr, fs, cj, el, ft⟩ := ek.sealed (ad.tr ej)
 refine qI rfl (zL (vs := [ci, .bool false]) Tryz.func64 nm64 rfl rfl rfl ?_)
 refine cD (pD cj.pins el) ?_
 rintro _ _ ⟨rfl, rfl⟩
 refine rt9 (qD rfl (xD rfl) (qM (.bool (!(decide ((0 : Int) ≤ idxB (usedM ns ((ns.length : Int) - 1).toNat) false)))) ?_))
 refine qe (zA ?_)
 exact cP (zP (zQ (v := .bool (!(decide ((0 : Int) ≤ idxB (usedM ns ((ns.length : Int) - 1).toNat) false)))) rfl rfl rfl (⟨_, cgA eB (goodB_used (by omega) (by omega) (by omega) hopts (fun k h1 h2 => hsr k h1 (by omega))).symm, cj⟩)))
end B1
namespace C1
open B1
variable {G : Pin} {x : Int} {v u : Value} {xs : List Int}
theorem fE {w : World} {a b : Int} (hP : Pins G w) :
  Calls Tryz.prog 49 #[.int .i64 x, .int .i64 a, .int .i64 b] w fun e w' => e = .returned (.bool (decide (a ≤ x ∧ x ≤ b))) ∧ w' = w := by
 refine zY (n := 15) Tryz.func49 Tryz.ntmps49 rfl rfl ?_
 have hX0 := exr noS hP
 refine w9d ?_
 refine qM (.bool false) ?_
 refine qe (w9a ?_)
 refine qM (.int .i64 x) ?_
 refine qM (.int .i64 a) ?_
 refine qD rfl (gP rfl rfl) (qM (.bool (decide ((a : Int) ≤ x))) ?_)
 refine qbd (p := (a : Int) ≤ x) (t := 10) rfl (fun h1 => ?_) (fun h1 => ?_)
 refine qN (zN (v := .int .i64 x) rfl) ?_
 refine qN (zN (v := .int .i64 b) rfl) ?_
 refine qN (tR rfl rfl) ?_
 refine qD rfl (yB (v := .bool (decide ((x : Int) ≤ b))) rfl rfl) (qM (.bool (decide ((x : Int) ≤ b))) ?_)
 refine qe (zA ?_)
 exact cP (zP (zQ (v := .bool (decide ((x : Int) ≤ b))) rfl rfl rfl (⟨cgA eB (decide_eq_decide.2 (by omega)), rfl⟩)))
 refine qW ?_
 refine qW ?_
 refine qW ?_
 refine qD rfl (zU (v := .bool false) rfl rfl) (qM (.bool false) ?_)
 refine qe (zA ?_)
 exact cP (zP (zQ (v := .bool false) rfl rfl rfl (⟨cgA eB ((decide_eq_false (by omega)).symm), rfl⟩)))
theorem nX {w : World} {y : Int} (hP : Pins G w) :
  Calls Tryz.prog 104 #[.int .i64 x, .int .i64 y] w fun e w' => e = .returned (.int .i64 (max x y)) ∧ w' = w := by
 refine zY (n := 10) Tryz.func104 Tryz.ntmps104 rfl rfl ?_
 have hX0 := exr noS hP
 refine w9d ?_
 refine qM (.int .i64 0) ?_
 refine qe (zA (w9b ?_))
 refine qM (.int .i64 x) ?_
 refine qM (.int .i64 y) ?_
 refine qD rfl (jW rfl rfl) (qe (zA ?_))
 refine yC (p := (y : Int) < x) rfl rfl (fun h1 => ?_) (fun h1 => ?_)
 refine w9d ?_
 refine qM (.int .i64 x) ?_
 refine qM (.int .i64 x) ?_
 refine qe (zA ?_)
 exact cP (zP (zQ (v := .int .i64 x) rfl rfl rfl (⟨cgA eI (by omega), rfl⟩)))
 refine cO (w9a ?_)
 refine qM (.int .i64 y) ?_
 refine qM (.int .i64 y) ?_
 refine qe (zA ?_)
 exact cP (zP (zQ (v := .int .i64 y) rfl rfl rfl (⟨cgA eI (by omega), rfl⟩)))
theorem tU {w : World} {lo hi : Int} (hP : Pins G w) (hv : RSl eInt G v xs) :
  Calls Tryz.prog 51 #[v, vJ lo, vJ hi] w fun e w' => e = .returned (.bool (decP (Rise xs lo hi))) ∧ Ext noS G w G w' := by
 refine zY (n := 38) Tryz.func51 Tryz.ntmps51 rfl rfl ?_
 have h := exr noS hP
 have hm := hv.max
 refine w9d ?_
 refine qM (.bool false) ?_
 refine qe (zA (w9b ?_))
 refine qM (vJ 0) ?_
 refine qe (zA ?_)
 refine zZ (yR (fun k en W => ∃ (f : Nat → Value) (j : Nat), en = (upd (upd (upd (upd f 0 v) 1 (vJ lo)) 2 (vJ hi)) 7 (vJ (j : Int))) ∧ k = xs.length - j ∧ Ext noS G w G W ∧ (j ≤ xs.length) ∧ (∀ i, i < j → (lo ≤ xs.getD i 0 ∧ xs.getD i 0 ≤ hi) ∧ (0 < i → xs.getD (i - 1) 0 < xs.getD i 0))) _ ⟨_, 0, (pS 7 (pS 2 (pS 1 (pU 0)))), rfl, h, cI _, (fun i hi => absurd hi (cK i))⟩ ?_)
 rintro s _ c ⟨f, j, rfl, u, d, hj, hp⟩
 refine w9b ?_
 refine qM (vJ (j : Int)) ?_
 refine qM v ?_
 refine qD rfl (zM dE (v := v) rfl hv) (qD rfl (yU rfl rfl) (qe (zA ?_)))
 refine yC (p := ((j : Int) : Int) < (xs.length : Int)) rfl rfl (fun l => ?_) (fun l => ?_)
 refine cO (zA (zB ?_))
 refine zZ (zB (yW (S := fun wz => Pins G wz) (last := 24) (by kernel_rfl) rfl ?_))
 have g := bdr c
 have a := d.step (d.pins.below g) g
 refine dM 0 v a.pins ?_
 refine dM 1 (vJ (j : Int)) a.pins ?_
 refine dT (i := 2) rfl rfl (by kernel_rfl) (fun _ _ => zF dE sz3 (v := v) rfl rfl hv (by omega) (by omega)) a.pins ?_
 refine dT (i := 3) rfl rfl (by kernel_rfl) (fun _ hS => zG (r := xs.getD j 0) rfl ag3 (z := (j : Int)) rfl hv hS (by omega) (by omega)) a.pins ?_
 refine dM 4 (vJ lo) a.pins ?_
 refine dM 5 (vJ hi) a.pins ?_
 refine dP (i := 6) rfl rfl (zL (vs := [vJ (xs.getD j 0), vJ lo, vJ hi]) Tryz.func49 nm49 rfl rfl rfl ?_)
 refine cD (fE a.pins) ?_
 rintro _ _ ⟨rfl, rfl⟩
 refine rt9 (⟨fun _ => a.pins, ?_⟩)
 refine dT (i := 7) rfl rfl (by kernel_rfl) (fun _ _ => xD rfl) a.pins ?_
 refine dM 8 (.bool (!(decide ((lo : Int) ≤ (xs.getD j 0) ∧ (xs.getD j 0 : Int) ≤ hi)))) a.pins ?_
 refine drbn (t := 22) rfl (fun b => ?_) (fun b => ?_)
 replace b := of_decide_eq_true b
 refine yP (i := 9) rfl rfl rfl (yG rfl rfl rfl rfl) (by kernel_rfl) (fun _ _ => zN (v := vJ (j : Int)) rfl) a.pins (yP (i := 10) rfl rfl rfl (yG rfl rfl rfl rfl) (by kernel_rfl) (fun _ _ => jW rfl rfl) a.pins (yP (i := 11) rfl rfl rfl (yG rfl rfl rfl rfl) (by kernel_rfl) (fun _ _ => zN (v := .bool (decide ((0 : Int) < (j : Int)))) rfl) a.pins (drbd (p := (0 : Int) < (j : Int)) (t := 25) rfl (fun m => ?_) (fun m => ?_))))
 refine yP (i := 12) rfl rfl rfl (yG rfl rfl rfl rfl) (by kernel_rfl) (fun _ _ => zN (v := v) rfl) a.pins (yP (i := 13) rfl rfl rfl (yG rfl rfl rfl rfl) (by kernel_rfl) (fun _ _ => zN (v := vJ (j : Int)) rfl) a.pins (yP (i := 14) rfl rfl rfl (yG rfl rfl rfl rfl) (by kernel_rfl) (fun _ _ => xY rfl rfl (by omega)) a.pins (yP (i := 15) rfl rfl rfl (yG rfl rfl rfl rfl) (by kernel_rfl) (fun _ _ => zF dE sz3 (v := v) rfl rfl hv (by omega) (by omega)) a.pins (yP (i := 16) rfl rfl rfl (yG rfl rfl rfl rfl) (by kernel_rfl) (fun _ hS => zG (r := xs.getD ((j : Int) - 1).toNat 0) rfl ag3 (z := (j : Int) - 1) rfl hv hS (by omega) (by omega)) a.pins (yP (i := 17) rfl rfl rfl (yG rfl rfl rfl rfl) (by kernel_rfl) (fun _ _ => zN (v := v) rfl) a.pins (yP (i := 18) rfl rfl rfl (yG rfl rfl rfl rfl) (by kernel_rfl) (fun _ _ => zN (v := vJ (j : Int)) rfl) a.pins (yP (i := 19) rfl rfl rfl (yG rfl rfl rfl rfl) (by kernel_rfl) (fun _ _ => zF dE sz3 (v := v) rfl rfl hv (by omega) (by omega)) a.pins (yP (i := 20) rfl rfl rfl (yG rfl rfl rfl rfl) (by kernel_rfl) (fun _ hS => zG (r := xs.getD j 0) rfl ag3 (z := (j : Int)) rfl hv hS (by omega) (by omega)) a.pins (yP (i := 21) rfl rfl rfl (yG rfl rfl rfl rfl) (by kernel_rfl) (fun _ _ => gP rfl rfl) a.pins (yP (i := 22) rfl rfl rfl (yG rfl rfl rfl rfl) (by kernel_rfl) (fun _ _ => yB (v := .bool (decide ((xs.getD j 0 : Int) ≤ (xs.getD ((j : Int) - 1).toNat 0)))) rfl rfl) a.pins (dT (i := 23) rfl rfl (by kernel_rfl) (fun _ _ => zU (v := .bool (decide ((xs.getD j 0 : Int) ≤ (xs.getD ((j : Int) - 1).toNat 0)))) rfl rfl) a.pins ?_)))))))))))
 refine yL (by kernel_rfl) (zA (yC (p := (xs.getD j 0 : Int) ≤ (xs.getD ((j : Int) - 1).toNat 0)) rfl rfl (fun o => ?_) (fun o => ?_)))
 refine w9d ?_
 refine qM (.bool false) ?_
 refine qe (zA ?_)
 exact cP (zP (zQ (v := .bool false) rfl rfl rfl (⟨cgA eB (decP_false.2 (fun hR => by have := hR j (by omega); rw [show j - 1 = ((j : Int) - 1).toNat by omega] at this; omega)).symm, a⟩)))
 refine cO (w9c ?_)
 refine qM (vJ (j : Int)) ?_
 refine qD rfl (yH rfl rfl (by omega)) (qM (vJ ((j : Int) + 1)) ?_)
 refine qe (zV (⟨_, ?_, _, rfl, _, j + 1, (pS 7 (pS 2 (pS 1 (pU 0)))), rfl, a, (by omega), (rise_step hp (by omega) (fun q => by rw [show j - 1 = ((j : Int) - 1).toNat by omega]; omega))⟩))
 omega
 refine yF (i := 12) rfl rfl (yJ rfl rfl rfl rfl rfl) (by kernel_rfl) a.pins (yF (i := 13) rfl rfl (yJ rfl rfl rfl rfl rfl) (by kernel_rfl) a.pins (yF (i := 14) rfl rfl (yJ rfl rfl rfl rfl rfl) (by kernel_rfl) a.pins (yF (i := 15) rfl rfl (yJ rfl rfl rfl rfl rfl) (by kernel_rfl) a.pins (yF (i := 16) rfl rfl (yJ rfl rfl rfl rfl rfl) (by kernel_rfl) a.pins (yF (i := 17) rfl rfl (yJ rfl rfl rfl rfl rfl) (by kernel_rfl) a.pins (yF (i := 18) rfl rfl (yJ rfl rfl rfl rfl rfl) (by kernel_rfl) a.pins (yF (i := 19) rfl rfl (yJ rfl rfl rfl rfl rfl) (by kernel_rfl) a.pins (yF (i := 20) rfl rfl (yJ rfl rfl rfl rfl rfl) (by kernel_rfl) a.pins (yF (i := 21) rfl rfl (yJ rfl rfl rfl rfl rfl) (by kernel_rfl) a.pins (yP (i := 22) rfl rfl rfl (yG rfl rfl rfl rfl) (by kernel_rfl) (fun _ _ => zU (v := .bool false) rfl rfl) a.pins (dT (i := 23) rfl rfl (by kernel_rfl) (fun _ _ => zU (v := .bool false) rfl rfl) a.pins ?_)))))))))))
 refine yL (by kernel_rfl) (zA (xT rfl rfl (cO (w9c ?_))))
 refine qM (vJ (j : Int)) ?_
 refine qD rfl (yH rfl rfl (by omega)) (qM (vJ ((j : Int) + 1)) ?_)
 refine qe (zV (⟨_, ?_, _, rfl, _, j + 1, (pS 7 (pS 2 (pS 1 (pU 0)))), rfl, a, (by omega), (rise_step hp (by omega) (fun q => by rw [show j - 1 = ((j : Int) - 1).toNat by omega]; omega))⟩))
 omega
 replace b := of_decide_eq_false b
 refine yF (i := 9) rfl rfl (yJ rfl rfl rfl rfl rfl) (by kernel_rfl) a.pins (yF (i := 10) rfl rfl (yJ rfl rfl rfl rfl rfl) (by kernel_rfl) a.pins (yF (i := 11) rfl rfl (yJ rfl rfl rfl rfl rfl) (by kernel_rfl) a.pins (yF (i := 12) rfl rfl (qB rfl rfl rfl rfl) (by kernel_rfl) a.pins (yF (i := 13) rfl rfl (qB rfl rfl rfl rfl) (by kernel_rfl) a.pins (yF (i := 14) rfl rfl (qB rfl rfl rfl rfl) (by kernel_rfl) a.pins (yF (i := 15) rfl rfl (qB rfl rfl rfl rfl) (by kernel_rfl) a.pins (yF (i := 16) rfl rfl (qB rfl rfl rfl rfl) (by kernel_rfl) a.pins (yF (i := 17) rfl rfl (qB rfl rfl rfl rfl) (by kernel_rfl) a.pins (yF (i := 18) rfl rfl (qB rfl rfl rfl rfl) (by kernel_rfl) a.pins (yF (i := 19) rfl rfl (qB rfl rfl rfl rfl) (by kernel_rfl) a.pins (yF (i := 20) rfl rfl (qB rfl rfl rfl rfl) (by kernel_rfl) a.pins (yF (i := 21) rfl rfl (qB rfl rfl rfl rfl) (by kernel_rfl) a.pins (yF (i := 22) rfl rfl (yJ rfl rfl rfl rfl rfl) (by kernel_rfl) a.pins (dT (i := 23) rfl rfl (by kernel_rfl) (fun _ _ => yB (v := .bool true) rfl rfl) a.pins ?_))))))))))))))
 refine yL (by kernel_rfl) (zA (qK rfl rfl (w9d ?_)))
 refine qM (.bool false) ?_
 refine qe (zA ?_)
 exact cP (zP (zQ (v := .bool false) rfl rfl rfl (⟨cgA eB (decP_false.2 (fun hR => by have := hR j (by omega); rw [show j - 1 = ((j : Int) - 1).toNat by omega] at this; omega)).symm, a⟩)))
 refine cQ (zX (yO (yK (w9a ?_))))
 refine qM (.bool true) ?_
 refine qe (zA ?_)
 exact cP (zP (zQ (v := .bool true) rfl rfl rfl (⟨cgA eB (decP_true.2 (Rise.done (by omega) hp)).symm, d⟩)))
theorem l3Fits_spec {w : World} {ns : List Nd} (hP : Pins G w) (hv : RSl eNode G v ns) :
  Calls Tryz.prog 50 [.agg #[v]].toArray w fun e w' => ∃ G', e = .returned (.bool (decP (FitsP ns))) ∧ Ext noS G w G' w' := by
 refine zY (n := 37) Tryz.func50 Tryz.ntmps50 rfl rfl ?_
 have c := exr noS hP
 have hm := hv.max
 refine w9d ?_
 refine qI rfl (xH [v] (v := .agg #[v]) rfl rfl c.pins (fun d w2 al q s x => ?_))
 have y : w.heap.size ≤ d := by have := c.size; omega
 obtain ⟨G9, f, ab, b, am⟩ := q.shut (c.step s x) y
 refine qM (.bool false) ?_
 refine qe (zA (w9b ?_))
 refine qM (vJ 0) ?_
 refine qe (zA ?_)
 refine zZ (yR (fun k en W => ∃ (h : Nat → Value) (j : Nat), en = (upd (upd h 1 (vP d)) 3 (vJ (j : Int))) ∧ k = 121 - j ∧ Ext noS G w G9 W ∧ (j ≤ ns.length ∧ j ≤ 121) ∧ (∀ k, k < j → (ns.getD k default).l.length ≤ 24 ∧ (ns.getD k default).r.length ≤ 24)) _ ⟨_, 0, (pS 3 (pU 1)), rfl, ab, (by omega), (fun i hi => absurd hi (cK i))⟩ ?_)
 rintro an _ ao ⟨h, j, rfl, ap, a, hj, hp⟩
 refine w9b ?_
 refine qM (vJ (j : Int)) ?_
 refine qD rfl (zH (k := 0) rfl dJ rfl nz30 rfl) (qD rfl (zJ (u := v) ag30 rfl (a.pins _ _ _ (b 0 _ rfl))) (qD rfl (zM dF (v := v) rfl hv) (qD rfl (yU rfl rfl) (qM (.bool (decide (((j : Int) : Int) < (ns.length : Int)))) ?_))))
 refine qbd (p := ((j : Int) : Int) < (ns.length : Int)) (t := 9) rfl (fun ac => ?_) (fun ac => ?_)
 refine qN (zN (v := vJ (j : Int)) rfl) ?_
 refine qN (tR rfl rfl) ?_
 refine qD rfl (yB (v := .bool (decide (((j : Int) : Int) ≤ 120))) rfl rfl) (qe (zA ?_))
 refine yC (p := ((j : Int) : Int) ≤ 120) rfl rfl (fun ad => ?_) (fun ad => ?_)
 refine cO (zA (zB ?_))
 refine zZ (w9d ?_)
 refine qD rfl (zH (k := 0) rfl dJ rfl nz30 rfl) (qD rfl (zJ (u := v) ag30 rfl (a.pins _ _ _ (b 0 _ rfl))) (qM (vJ (j : Int)) ?_))
 refine qD rfl (zF dF sz65 (v := v) rfl rfl hv (by omega) (by omega)) (qD rfl (xC (off := 0) dG rfl rfl nz56 (z := (j : Int)) (k := 0) rfl hv (by omega) (by omega)) ?_)
 obtain ⟨ae, m, af⟩ := jZ (hv.at (z := (j : Int)) (by omega) (by omega)) (j := j) rfl
 have aq := m.max
 refine qD rfl (af ag56 rfl (cC a.pins f)) (qD rfl (zM dE (v := ae) rfl m) (qD rfl (jW rfl rfl) (qM (.bool (decide ((24 : Int) < (((ns.getD j default).l).length : Int)))) ?_)))
 refine qbd (p := (24 : Int) < (((ns.getD j default).l).length : Int)) (t := 23) rfl (fun ag => ?_) (fun ag => ?_)
 refine qW ?_
 refine qW ?_
 refine qW ?_
 refine qW ?_
 refine qW ?_
 refine qW ?_
 refine qW ?_
 refine qW ?_
 refine qD rfl (yB (v := .bool true) rfl rfl) (qe (zA ?_))
 refine qK rfl rfl (w9d ?_)
 refine qM (.bool false) ?_
 refine qe (zA ?_)
 exact cP (zP (zQ (v := .bool false) rfl rfl rfl (⟨_, cgA eB (decP_false.2 (fun g => by have := g.opts j (by omega); omega)).symm, a⟩)))
 refine qN (zH (k := 0) rfl dJ rfl nz30 rfl) ?_
 refine qN (zJ (u := v) ag30 rfl (a.pins _ _ _ (b 0 _ rfl))) ?_
 refine qN (zN (v := vJ (j : Int)) rfl) ?_
 refine qN (zF dF sz65 (v := v) rfl rfl hv (by omega) (by omega)) ?_
 refine qN (xC (off := 1) dG rfl rfl nz56 (z := (j : Int)) (k := 0) rfl hv (by omega) (by omega)) ?_
 obtain ⟨ah, o, ai⟩ := jY (hv.at (z := (j : Int)) (by omega) (by omega)) (j := j) rfl
 have ar := o.max
 refine qN (ai ag56 rfl (cC a.pins f)) ?_
 refine qN (zM dE (v := ah) rfl o) ?_
 refine qN (jW rfl rfl) ?_
 refine qD rfl (zU (v := .bool (decide ((24 : Int) < (((ns.getD j default).r).length : Int)))) rfl rfl) (qe (zA ?_))
 refine yC (p := (24 : Int) < (((ns.getD j default).r).length : Int)) rfl rfl (fun aj => ?_) (fun aj => ?_)
 refine w9d ?_
 refine qM (.bool false) ?_
 refine qe (zA ?_)
 exact cP (zP (zQ (v := .bool false) rfl rfl rfl (⟨_, cgA eB (decP_false.2 (fun g => by have := g.opts j (by omega); omega)).symm, a⟩)))
 refine cO (w9c ?_)
 refine qM (vJ (j : Int)) ?_
 refine qD rfl (yH rfl rfl (by omega)) (qM (vJ ((j : Int) + 1)) ?_)
 refine qe (zV (⟨_, ?_, _, rfl, _, j + 1, (pS 3 (pU 1)), rfl, a, (by omega), (fun k hk => if h3 : k = j then h3 ▸ ⟨by omega, by omega⟩ else hp k (by omega))⟩))
 omega
 refine cQ (zX (yO (yK (w9a ?_))))
 refine qD rfl (zH (k := 0) rfl dJ rfl nz30 rfl) (qD rfl (zJ (u := v) ag30 rfl (a.pins _ _ _ (b 0 _ rfl))) (qD rfl (zM dF (v := v) rfl hv) (qI rfl (zL (vs := [vJ (ns.length : Int), vJ 1, vJ 120]) Tryz.func49 nm49 rfl rfl rfl ?_))))
 refine cD (fE a.pins) ?_
 rintro _ _ ⟨rfl, rfl⟩
 refine rt9 (qM (.bool (decide ((1 : Int) ≤ (ns.length : Int) ∧ ((ns.length : Int) : Int) ≤ 120))) ?_)
 refine qe (zA ?_)
 exact cP (zP (zQ (v := .bool (decide ((1 : Int) ≤ (ns.length : Int) ∧ ((ns.length : Int) : Int) ≤ 120))) rfl rfl rfl (⟨_, cgA eB (fits_end hp (by omega) (by omega)), a⟩)))
 refine qW ?_
 refine qW ?_
 refine qD rfl (zU (v := .bool false) rfl rfl) (qe (zA ?_))
 refine xT rfl rfl (cQ (zX (yO (yK (w9a ?_)))))
 refine qD rfl (zH (k := 0) rfl dJ rfl nz30 rfl) (qD rfl (zJ (u := v) ag30 rfl (a.pins _ _ _ (b 0 _ rfl))) (qD rfl (zM dF (v := v) rfl hv) (qI rfl (zL (vs := [vJ (ns.length : Int), vJ 1, vJ 120]) Tryz.func49 nm49 rfl rfl rfl ?_))))
 refine cD (fE a.pins) ?_
 rintro _ _ ⟨rfl, rfl⟩
 refine rt9 (qM (.bool (decide ((1 : Int) ≤ (ns.length : Int) ∧ ((ns.length : Int) : Int) ≤ 120))) ?_)
 refine qe (zA ?_)
 exact cP (zP (zQ (v := .bool (decide ((1 : Int) ≤ (ns.length : Int) ∧ ((ns.length : Int) : Int) ≤ 120))) rfl rfl rfl (⟨_, cgA eB (fits_end hp (by omega) (by omega)), a⟩)))
theorem jE {w : World} {n : Int} (hP : Pins G w) (hv : RSl eInt G v xs) (hs : xs.length ≤ 2097152) :
  Calls Tryz.prog 98 #[v, vJ n] w fun e w' => ∃ (u : Value) (G' : Pin), e = .returned u ∧ RSl eInt G' u (putL xs n) ∧ Ext noS G w G' w' := by
 refine zY (n := 45) Tryz.func98 Tryz.ntmps98 rfl rfl ?_
 have cm := exr noS hP
 refine w9d ?_
 refine qM vN ?_
 refine qe (w9a ?_)
 refine qM (vJ 0) ?_
 refine qe (zA (zB ?_))
 refine zZ (yR (fun k en W => ∃ (c : Nat → Value) (j : Nat), en = (upd (upd (upd (upd c 0 v) 1 (vJ n)) 4 vN) 5 (vJ (j : Int))) ∧ k = xs.length - j ∧ Ext noS G w G W ∧ (j ≤ xs.length) ∧ (putL xs n = xs.take j ++ putL (xs.drop j) n)) _ ⟨_, 0, (pS 5 (pS 4 (pS 1 (pU 0)))), rfl, cm, cI _, rfl⟩ ?_)
 rintro k1 _ l ⟨c, j, rfl, fr, d, hj, hr⟩
 refine w9b ?_
 refine qM (vJ (j : Int)) ?_
 refine qM v ?_
 refine qD rfl (zM dE (v := v) rfl hv) (qD rfl (yU rfl rfl) (qM (.bool (decide (((j : Int) : Int) < (xs.length : Int)))) ?_))
 refine qbd (p := ((j : Int) : Int) < (xs.length : Int)) (t := 10) rfl (fun h5 => ?_) (fun h5 => ?_)
 refine qN (zN (v := v) rfl) ?_
 refine qN (zN (v := vJ (j : Int)) rfl) ?_
 refine qN (zF dE sz3 (v := v) rfl rfl hv (by omega) (by omega)) ?_
 refine qN (zG (r := xs.getD j 0) rfl ag3 (z := (j : Int)) rfl hv d.pins (by omega) (by omega)) ?_
 refine qN (zN (v := vJ n) rfl) ?_
 refine qN (yU rfl rfl) ?_
 refine qD rfl (yB (v := .bool (decide ((xs.getD j 0 : Int) < n))) rfl rfl) (qe (zA ?_))
 refine yC (p := (xs.getD j 0 : Int) < n) rfl rfl (fun h6 => ?_) (fun h6 => ?_)
 refine cO (zA (zZ (zC (qM (vJ (j : Int)) ?_))))
 refine qD rfl (yH rfl rfl (by omega)) (qM (vJ ((j : Int) + 1)) ?_)
 refine qe (zW (zV (⟨_, ?_, _, rfl, _, j + 1, (pS 5 (pS 4 (pS 1 (pU 0)))), rfl, d, (by omega), (put_next (by omega) (by omega) hr)⟩)))
 omega
 refine cQ (zX (yO (yK (zA (w9b ?_)))))
 refine qM (vJ (j : Int)) ?_
 refine qM v ?_
 refine qD rfl (zM dE (v := v) rfl hv) (qD rfl (yU rfl rfl) (qM (.bool (decide (((j : Int) : Int) < (xs.length : Int)))) ?_))
 refine qbd (p := ((j : Int) : Int) < (xs.length : Int)) (t := 24) rfl (fun _ => ?_) (fun h => absurd h5 h)
 refine qN (zN (v := v) rfl) ?_
 refine qN (zN (v := vJ (j : Int)) rfl) ?_
 refine qN (zF dE sz3 (v := v) rfl rfl hv (by omega) (by omega)) ?_
 refine qN (zG (r := xs.getD j 0) rfl ag3 (z := (j : Int)) rfl hv d.pins (by omega) (by omega)) ?_
 refine qN (zN (v := vJ n) rfl) ?_
 refine qN (xO rfl rfl) ?_
 refine qD rfl (yB (v := .bool (decide ((xs.getD j 0 : Int) = n))) rfl rfl) (qe (zA ?_))
 refine yC (p := (xs.getD j 0 : Int) = n) rfl rfl (fun h8 => ?_) (fun h8 => ?_)
 refine w9d ?_
 refine qM v ?_
 refine qM v ?_
 refine qe (zA ?_)
 exact cP (zP (zQ (v := v) rfl rfl rfl (⟨_, _, rfl, (by rw [put_hit (by omega) (by omega) hr]; exact hv), d⟩)))
 refine cO (zA (zB ?_))
 refine c_cut (fun (en : Nat → Value) (W : World) => ∃ (c : Nat → Value) (c9 : Value) (af : Pin), en = (upd c 4 c9) ∧ Ext noS G w af W ∧ Pin.le G af ∧ (Own eInt 3 af W w.heap.size c9 (((([]) ++ ((xs.take j).drop 0)) ++ ([n])) ++ ((xs.take xs.length).drop j)))) ?_ ?_
 ·rintro _ fs ⟨c, c9, af, rfl, cp, ft, cq⟩
  refine zA (cP (zP (zQ (v := c9) rfl rfl rfl ?_)))
  obtain ⟨fu, fv, cr, cs, fw⟩ := cq.sealed cp
  exact ⟨_, _, rfl, (by rw [← put_new (fun h => ⟨by omega, by omega⟩) hr]; exact cs), cr⟩
 refine yW (S := fun wz => Pins G wz) (last := 13) (by kernel_rfl) rfl ?_
 have bd := bdr l
 have a := d.step (d.pins.below bd) bd
 refine dM 1 v a.pins ?_
 refine dM 2 (vJ (j : Int)) a.pins ?_
 obtain ⟨ax, ay, ct⟩ := qU hv (lo := none) (hi := some ((j : Int))) (0) (j) (cF ⟨rfl, rfl⟩) (cG ⟨_, rfl, (by omega), rfl⟩) (by omega) (by omega)
 refine dT (i := 3) rfl rfl (by kernel_rfl) (fun _ _ => ct dE sz3 rfl rfl rfl) a.pins ?_
 refine dM 5 (vJ n) a.pins ?_
 refine dM 8 v a.pins ?_
 refine dM 9 (vJ (j : Int)) a.pins ?_
 obtain ⟨az, a0, cu⟩ := qU hv (lo := some ((j : Int))) (hi := none) (j) (xs.length) (cG ⟨_, rfl, (by omega), rfl⟩) (cF ⟨rfl, rfl⟩) (by omega) (by omega)
 refine dT (i := 10) rfl rfl (by kernel_rfl) (fun _ _ => cu dE sz3 rfl rfl rfl) a.pins ?_
 refine jJ (i := 0) (j := 6) (by kernel_rfl) ?_ ?_
 refine (dQ (i := 0) rfl rfl (xE (E := eInt) (e := 3) dE sz3 a.pins (fun a1 cv cw cx cy fx => ?_)))
 have f := a.step cx cy
 have ag := cw.weaken a.size
 refine ⟨fun _ => f.pins, ?_⟩
 refine jJ (i := 4) (j := 6) (by kernel_rfl) ?_ ?_
 refine (dQ (i := 4) rfl rfl (oA (E := eInt) (v := a1) (u := ax) 8 dE ap3 (by decide) rfl rfl f.pins ag ((ay.mono (cJ _)).src f.pins (by decide)) (f.size) (fun cz fy c0 c1 c2 fz => ?_)))
 have ah := f.write c1 c2 ((yD ag))
 have f0 := la2 ([]) ((xs.take j).drop 0)
 refine ⟨fun _ => ah.pins, ?_⟩
 refine dP (i := 6) rfl rfl (yV (E := eInt) (e := 3) [vJ n] [n] dE sz3 zr3 (by exact xP (by rfl)) (yZ (by rfl)) rfl rfl rfl rfl (by decide) ah.pins (fun be c3 c4 c5 bf f1 => ?_))
 have ai := ah.step c5 bf
 have bg := c0.below bf
 have c6 := c4.weaken ah.size
 refine ⟨fun _ => ai.pins, ?_⟩
 refine dP (i := 7) rfl rfl (oA (E := eInt) (v := cz) (u := be) 8 dE ap3 (by decide) rfl rfl ai.pins bg c6.src (ai.size) (fun c7 f2 bh c8 da f3 => ?_))
 have m := ai.write c8 da ((yD bg))
 have f4 := la1 (([]) ++ ((xs.take j).drop 0)) n
 refine ⟨fun _ => m.pins, ?_⟩
 refine dP (i := 11) rfl rfl (oA (E := eInt) (v := c7) (u := az) 8 dE ap3 (by decide) rfl rfl m.pins bh ((a0.mono (cJ _)).src m.pins (by decide)) (m.size) (fun bi f5 db dc dd f6 => ?_))
 have a2 := m.write dc dd ((yD bh))
 have f7 := la2 ((([]) ++ ((xs.take j).drop 0)) ++ ([n])) ((xs.take xs.length).drop j)
 refine ⟨fun _ => a2.pins, ?_⟩
 refine dM 12 bi a2.pins ?_
 exact yL (by kernel_rfl) (qV ⟨_, bi, G, (pU 4), a2, (cJ _), db⟩)
 refine (dQ (i := 6) rfl rfl (yV (E := eInt) (e := 3) [vJ n] [n] dE sz3 zr3 (by exact xP (by rfl)) (yZ (by rfl)) rfl rfl rfl rfl (by decide) f.pins (fun bj de df dg bk dh => ?_)))
 have o := f.step dg bk
 have bl := ag.below bk
 have di := df.weaken f.size
 refine ⟨fun _ => o.pins, ?_⟩
 refine dP (i := 4) rfl rfl (oA (E := eInt) (v := a1) (u := ax) 8 dE ap3 (by decide) rfl rfl o.pins bl ((ay.mono (cJ _)).src o.pins (by decide)) (o.size) (fun dj f8 bm dk bn f9 => ?_))
 have aj := o.write dk bn ((yD bl))
 have ga := la2 ([]) ((xs.take j).drop 0)
 refine ⟨fun _ => aj.pins, ?_⟩
 refine dP (i := 7) rfl rfl (oA (E := eInt) (v := dj) (u := bj) 8 dE ap3 (by decide) rfl rfl aj.pins bm (di.keptA bn (zE dh ag.lt)).src (aj.size) (fun dl gb bo dm dn gc => ?_))
 have q := aj.write dm dn ((yD bm))
 have gd := la1 (([]) ++ ((xs.take j).drop 0)) n
 refine ⟨fun _ => q.pins, ?_⟩
 refine dP (i := 11) rfl rfl (oA (E := eInt) (v := dl) (u := az) 8 dE ap3 (by decide) rfl rfl q.pins bo ((a0.mono (cJ _)).src q.pins (by decide)) (q.size) (fun bp ge dp dq dr gf => ?_))
 have a3 := q.write dq dr ((yD bo))
 have gg := la2 ((([]) ++ ((xs.take j).drop 0)) ++ ([n])) ((xs.take xs.length).drop j)
 refine ⟨fun _ => a3.pins, ?_⟩
 refine dM 12 bp a3.pins ?_
 exact yL (by kernel_rfl) (qV ⟨_, bp, G, (pU 4), a3, (cJ _), dp⟩)
 refine (dQ (i := 6) rfl rfl (yV (E := eInt) (e := 3) [vJ n] [n] dE sz3 zr3 (by exact xP (by rfl)) (yZ (by rfl)) rfl rfl rfl rfl (by decide) a.pins (fun bq ds dt du dv gh => ?_)))
 have ak := a.step du dv
 have br := dt.weaken a.size
 refine ⟨fun _ => ak.pins, ?_⟩
 refine dP (i := 0) rfl rfl (xE (E := eInt) (e := 3) dE sz3 ak.pins (fun bs dw dx dy bt dz => ?_))
 have s := ak.step dy bt
 have bu := dx.weaken ak.size
 refine ⟨fun _ => s.pins, ?_⟩
 refine dP (i := 4) rfl rfl (oA (E := eInt) (v := bs) (u := ax) 8 dE ap3 (by decide) rfl rfl s.pins bu ((ay.mono (cJ _)).src s.pins (by decide)) (s.size) (fun d0 gi bv d1 bw gj => ?_))
 have al := s.write d1 bw ((yD bu))
 have gk := la2 ([]) ((xs.take j).drop 0)
 refine ⟨fun _ => al.pins, ?_⟩
 refine dP (i := 7) rfl rfl (oA (E := eInt) (v := d0) (u := bq) 8 dE ap3 (by decide) rfl rfl al.pins bv ((br.below bt).keptA bw (zE dz br.lt).symm).src (al.size) (fun d2 gl bx d3 d4 gm => ?_))
 have x := al.write d3 d4 ((yD bv))
 have gn := la1 (([]) ++ ((xs.take j).drop 0)) n
 refine ⟨fun _ => x.pins, ?_⟩
 refine dP (i := 11) rfl rfl (oA (E := eInt) (v := d2) (u := az) 8 dE ap3 (by decide) rfl rfl x.pins bx ((a0.mono (cJ _)).src x.pins (by decide)) (x.size) (fun bz gp d5 d6 d7 gq => ?_))
 have a4 := x.write d6 d7 ((yD bx))
 have gr := la2 ((([]) ++ ((xs.take j).drop 0)) ++ ([n])) ((xs.take xs.length).drop j)
 refine ⟨fun _ => a4.pins, ?_⟩
 refine dM 12 bz a4.pins ?_
 exact yL (by kernel_rfl) (qV ⟨_, bz, G, (pU 4), a4, (cJ _), d5⟩)
 refine qW ?_
 refine qW ?_
 refine qW ?_
 refine qW ?_
 refine qW ?_
 refine qW ?_
 refine qD rfl (zU (v := .bool false) rfl rfl) (qe (zA ?_))
 refine xT rfl rfl (cQ (zX (yO (yK (zA (w9b ?_))))))
 refine qM (vJ (j : Int)) ?_
 refine qM v ?_
 refine qD rfl (zM dE (v := v) rfl hv) (qD rfl (yU rfl rfl) (qM (.bool (decide (((j : Int) : Int) < (xs.length : Int)))) ?_))
 refine qbd (p := ((j : Int) : Int) < (xs.length : Int)) (t := 24) rfl (fun h => absurd h h5) (fun _ => ?_)
 refine qW ?_
 refine qW ?_
 refine qW ?_
 refine qW ?_
 refine qW ?_
 refine qW ?_
 refine qD rfl (zU (v := .bool false) rfl rfl) (qe (zA ?_))
 refine xT rfl rfl (cO (zA (zB ?_)))
 refine c_cut (fun (en : Nat → Value) (W : World) => ∃ (c : Nat → Value) (am : Value) (an : Pin), en = (upd c 4 am) ∧ Ext noS G w an W ∧ Pin.le G an ∧ (Own eInt 3 an W w.heap.size am (((([]) ++ ((xs.take j).drop 0)) ++ ([n])) ++ ((xs.take xs.length).drop j)))) ?_ ?_
 ·rintro _ gs ⟨c, am, an, rfl, d8, gt, d9⟩
  refine zA (cP (zP (zQ (v := am) rfl rfl rfl ?_)))
  obtain ⟨gu, gv, ea, eb, gw⟩ := d9.sealed d8
  exact ⟨_, _, rfl, (by rw [← put_new (fun h => ⟨by omega, by omega⟩) hr]; exact eb), ea⟩
 refine yW (S := fun wz => Pins G wz) (last := 13) (by kernel_rfl) rfl ?_
 have b0 := bdr l
 have b := d.step (d.pins.below b0) b0
 refine dM 1 v b.pins ?_
 refine dM 2 (vJ (j : Int)) b.pins ?_
 obtain ⟨a5, a6, ec⟩ := qU hv (lo := none) (hi := some ((j : Int))) (0) (j) (cF ⟨rfl, rfl⟩) (cG ⟨_, rfl, (by omega), rfl⟩) (by omega) (by omega)
 refine dT (i := 3) rfl rfl (by kernel_rfl) (fun _ _ => ec dE sz3 rfl rfl rfl) b.pins ?_
 refine dM 5 (vJ n) b.pins ?_
 refine dM 8 v b.pins ?_
 refine dM 9 (vJ (j : Int)) b.pins ?_
 obtain ⟨a7, a8, ed⟩ := qU hv (lo := some ((j : Int))) (hi := none) (j) (xs.length) (cG ⟨_, rfl, (by omega), rfl⟩) (cF ⟨rfl, rfl⟩) (by omega) (by omega)
 refine dT (i := 10) rfl rfl (by kernel_rfl) (fun _ _ => ed dE sz3 rfl rfl rfl) b.pins ?_
 refine jJ (i := 0) (j := 6) (by kernel_rfl) ?_ ?_
 refine (dQ (i := 0) rfl rfl (xE (E := eInt) (e := 3) dE sz3 b.pins (fun a9 ee ef eg eh gx => ?_)))
 have g := b.step eg eh
 have ao := ef.weaken b.size
 refine ⟨fun _ => g.pins, ?_⟩
 refine jJ (i := 4) (j := 6) (by kernel_rfl) ?_ ?_
 refine (dQ (i := 4) rfl rfl (oA (E := eInt) (v := a9) (u := a5) 8 dE ap3 (by decide) rfl rfl g.pins ao ((a6.mono (cJ _)).src g.pins (by decide)) (g.size) (fun ei gy ej ek el gz => ?_)))
 have ap := g.write ek el ((yD ao))
 have g0 := la2 ([]) ((xs.take j).drop 0)
 refine ⟨fun _ => ap.pins, ?_⟩
 refine dP (i := 6) rfl rfl (yV (E := eInt) (e := 3) [vJ n] [n] dE sz3 zr3 (by exact xP (by rfl)) (yZ (by rfl)) rfl rfl rfl rfl (by decide) ap.pins (fun b1 em eo ep b2 g1 => ?_))
 have aq := ap.step ep b2
 have b3 := ej.below b2
 have eq := eo.weaken ap.size
 refine ⟨fun _ => aq.pins, ?_⟩
 refine dP (i := 7) rfl rfl (oA (E := eInt) (v := ei) (u := b1) 8 dE ap3 (by decide) rfl rfl aq.pins b3 eq.src (aq.size) (fun er g2 b4 es et g3 => ?_))
 have y := aq.write es et ((yD b3))
 have g4 := la1 (([]) ++ ((xs.take j).drop 0)) n
 refine ⟨fun _ => y.pins, ?_⟩
 refine dP (i := 11) rfl rfl (oA (E := eInt) (v := er) (u := a7) 8 dE ap3 (by decide) rfl rfl y.pins b4 ((a8.mono (cJ _)).src y.pins (by decide)) (y.size) (fun b5 g5 eu ev ew g6 => ?_))
 have ba := y.write ev ew ((yD b4))
 have g7 := la2 ((([]) ++ ((xs.take j).drop 0)) ++ ([n])) ((xs.take xs.length).drop j)
 refine ⟨fun _ => ba.pins, ?_⟩
 refine dM 12 b5 ba.pins ?_
 exact yL (by kernel_rfl) (qV ⟨_, b5, G, (pU 4), ba, (cJ _), eu⟩)
 refine (dQ (i := 6) rfl rfl (yV (E := eInt) (e := 3) [vJ n] [n] dE sz3 zr3 (by exact xP (by rfl)) (yZ (by rfl)) rfl rfl rfl rfl (by decide) g.pins (fun b6 ex ey ez b7 e0 => ?_)))
 have aa := g.step ez b7
 have b8 := ao.below b7
 have e1 := ey.weaken g.size
 refine ⟨fun _ => aa.pins, ?_⟩
 refine dP (i := 4) rfl rfl (oA (E := eInt) (v := a9) (u := a5) 8 dE ap3 (by decide) rfl rfl aa.pins b8 ((a6.mono (cJ _)).src aa.pins (by decide)) (aa.size) (fun e2 g8 b9 e3 ca g9 => ?_))
 have ar := aa.write e3 ca ((yD b8))
 have ha := la2 ([]) ((xs.take j).drop 0)
 refine ⟨fun _ => ar.pins, ?_⟩
 refine dP (i := 7) rfl rfl (oA (E := eInt) (v := e2) (u := b6) 8 dE ap3 (by decide) rfl rfl ar.pins b9 (e1.keptA ca (zE e0 ao.lt)).src (ar.size) (fun e4 hb cb e5 e6 hc => ?_))
 have ab := ar.write e5 e6 ((yD b9))
 have hd := la1 (([]) ++ ((xs.take j).drop 0)) n
 refine ⟨fun _ => ab.pins, ?_⟩
 refine dP (i := 11) rfl rfl (oA (E := eInt) (v := e4) (u := a7) 8 dE ap3 (by decide) rfl rfl ab.pins cb ((a8.mono (cJ _)).src ab.pins (by decide)) (ab.size) (fun cc he e7 e8 e9 hf => ?_))
 have bb := ab.write e8 e9 ((yD cb))
 have hg := la2 ((([]) ++ ((xs.take j).drop 0)) ++ ([n])) ((xs.take xs.length).drop j)
 refine ⟨fun _ => bb.pins, ?_⟩
 refine dM 12 cc bb.pins ?_
 exact yL (by kernel_rfl) (qV ⟨_, cc, G, (pU 4), bb, (cJ _), e7⟩)
 refine (dQ (i := 6) rfl rfl (yV (E := eInt) (e := 3) [vJ n] [n] dE sz3 zr3 (by exact xP (by rfl)) (yZ (by rfl)) rfl rfl rfl rfl (by decide) b.pins (fun cd fa fb fc fd hh => ?_)))
 have au := b.step fc fd
 have ce := fb.weaken b.size
 refine ⟨fun _ => au.pins, ?_⟩
 refine dP (i := 0) rfl rfl (xE (E := eInt) (e := 3) dE sz3 au.pins (fun cf fe ff fg cg fh => ?_))
 have ac := au.step fg cg
 have ch := ff.weaken au.size
 refine ⟨fun _ => ac.pins, ?_⟩
 refine dP (i := 4) rfl rfl (oA (E := eInt) (v := cf) (u := a5) 8 dE ap3 (by decide) rfl rfl ac.pins ch ((a6.mono (cJ _)).src ac.pins (by decide)) (ac.size) (fun fi hk ci fj cj hl => ?_))
 have av := ac.write fj cj ((yD ch))
 have hm := la2 ([]) ((xs.take j).drop 0)
 refine ⟨fun _ => av.pins, ?_⟩
 refine dP (i := 7) rfl rfl (oA (E := eInt) (v := fi) (u := cd) 8 dE ap3 (by decide) rfl rfl av.pins ci ((ce.below cg).keptA cj (zE fh ce.lt).symm).src (av.size) (fun fk hn ck fl fm ho => ?_))
 have ad := av.write fl fm ((yD ci))
 have hp := la1 (([]) ++ ((xs.take j).drop 0)) n
 refine ⟨fun _ => ad.pins, ?_⟩
 refine dP (i := 11) rfl rfl (oA (E := eInt) (v := fk) (u := a7) 8 dE ap3 (by decide) rfl rfl ad.pins ck ((a8.mono (cJ _)).src ad.pins (by decide)) (ad.size) (fun cl hq fn fo fp ht => ?_))
 have bc := ad.write fo fp ((yD ck))
 have hu := la2 ((([]) ++ ((xs.take j).drop 0)) ++ ([n])) ((xs.take xs.length).drop j)
 refine ⟨fun _ => bc.pins, ?_⟩
 refine dM 12 cl bc.pins ?_
 exact yL (by kernel_rfl) (qV ⟨_, cl, G, (pU 4), bc, (cJ _), fn⟩)
theorem kR {w : World} {ys : List Int} (hP : Pins G w) (hu : RSl eInt G u xs) (hv : RSl eInt G v ys) :
  Calls Tryz.prog 78 #[u, v] w fun e w' => e = .returned (.bool (decide (xs = ys))) ∧ Ext noS G w G w' := by
 refine zY (n := 26) Tryz.func78 Tryz.ntmps78 rfl rfl ?_
 have f := exr noS hP
 have hm := hu.max
 refine w9d ?_
 refine qM (.bool false) ?_
 refine qe (zA (w9b ?_))
 refine qM u ?_
 refine qD rfl (zM dE (v := u) rfl hu) (qM v ?_)
 refine qD rfl (zM dE (v := v) rfl hv) (qD rfl (vV rfl rfl) (qe (zA ?_)))
 refine yC (p := ((xs.length : Int) : Int) ≠ (ys.length : Int)) rfl rfl (fun g => ?_) (fun g => ?_)
 refine w9d ?_
 refine qM (.bool false) ?_
 refine qe (zA ?_)
 exact cP (zP (zQ (v := .bool false) rfl rfl rfl (⟨cgA eB (decide_eq_false (fun e => g (by rw [e]))).symm, f⟩)))
 refine cO (zA (w9b ?_))
 refine qM (vJ 0) ?_
 refine qe (zA ?_)
 refine zZ (yR (fun k en W => ∃ (h : Nat → Value) (j : Nat), en = (upd (upd (upd h 0 u) 1 v) 5 (vJ (j : Int))) ∧ k = xs.length - j ∧ Ext noS G w G W ∧ (j ≤ xs.length) ∧ (xs.length = ys.length) ∧ (∀ i, i < j → xs.getD i 0 = ys.getD i 0)) _ ⟨_, 0, (pS 5 (pS 1 (pU 0))), rfl, f, cI _, (by omega), (fun i hi => absurd hi (cK i))⟩ ?_)
 rintro o _ b ⟨h, j, rfl, q, c, hj, heq, hp⟩
 refine w9b ?_
 refine qM (vJ (j : Int)) ?_
 refine qM u ?_
 refine qD rfl (zM dE (v := u) rfl hu) (qD rfl (yU rfl rfl) (qe (zA ?_)))
 refine yC (p := ((j : Int) : Int) < (xs.length : Int)) rfl rfl (fun m => ?_) (fun m => ?_)
 refine cO (zA (zB ?_))
 refine zZ (zB (yW (S := fun wz => Pins G wz) (last := 9) (by kernel_rfl) rfl ?_))
 have l := bdr b
 have a := c.step (c.pins.below l) l
 refine dM 0 u a.pins ?_
 refine dM 1 (vJ (j : Int)) a.pins ?_
 refine dT (i := 2) rfl rfl (by kernel_rfl) (fun _ _ => zF dE sz3 (v := u) rfl rfl hu (by omega) (by omega)) a.pins ?_
 refine dT (i := 3) rfl rfl (by kernel_rfl) (fun _ hS => zG (r := xs.getD j 0) rfl ag3 (z := (j : Int)) rfl hu hS (by omega) (by omega)) a.pins ?_
 refine dM 4 v a.pins ?_
 refine dM 5 (vJ (j : Int)) a.pins ?_
 refine dT (i := 6) rfl rfl (by kernel_rfl) (fun _ _ => zF dE sz3 (v := v) rfl rfl hv (by omega) (by omega)) a.pins ?_
 refine dT (i := 7) rfl rfl (by kernel_rfl) (fun _ hS => zG (r := ys.getD j 0) rfl ag3 (z := (j : Int)) rfl hv hS (by omega) (by omega)) a.pins ?_
 refine dT (i := 8) rfl rfl (by kernel_rfl) (fun _ _ => vV rfl rfl) a.pins ?_
 refine yL (by kernel_rfl) (zA (yC (p := (xs.getD j 0 : Int) ≠ (ys.getD j 0)) rfl rfl (fun d => ?_) (fun d => ?_)))
 refine w9d ?_
 refine qM (.bool false) ?_
 refine qe (zA ?_)
 exact cP (zP (zQ (v := .bool false) rfl rfl rfl (⟨cgA eB (decide_eq_false (fun e => d (by rw [e]))).symm, a⟩)))
 refine cO (w9c ?_)
 refine qM (vJ (j : Int)) ?_
 refine qD rfl (yH rfl rfl (by omega)) (qM (vJ ((j : Int) + 1)) ?_)
 refine qe (zV (⟨_, ?_, _, rfl, _, j + 1, (pS 5 (pS 1 (pU 0))), rfl, a, (by omega), heq, (eqstep hp d)⟩))
 omega
 refine cQ (zX (yO (yK (w9a ?_))))
 refine qM (.bool true) ?_
 refine qe (zA ?_)
 exact cP (zP (zQ (v := .bool true) rfl rfl rfl (⟨cgA eB (decide_eq_true (eqdone heq (by omega) hp)).symm, c⟩)))
theorem jB {w : World} {Gr : Pin} {a : List Int} (hP : Pins G w) (hPr : Pins Gr w) (hu : RSl eInt Gr u a) (hv : RSl eInt G v xs) (hs : xs.length ≤ 1048576) (hk : ∀ i, i < xs.length → 0 ≤ xs.getD i 0 ∧ xs.getD i 0 < a.length) :
  Calls Tryz.prog 58 #[u, v] w fun e w' => ∃ (u : Value) (G' : Pin), e = .returned u ∧ Own eInt 3 G' w' w.heap.size u (atL a xs) ∧ Ext noS G w G' w' := by
 refine zY (n := 25) Tryz.func58 Tryz.ntmps58 rfl rfl ?_
 have c := exr noS hP
 refine w9d ?_
 refine qM vN ?_
 refine qe (w9a ?_)
 refine qI rfl (xE (E := eInt) (e := 3) dE sz3 c.pins (fun d t x y aa ak => ?_))
 have ab := x.weaken c.size
 refine qM d ?_
 refine qe (zA (w9b ?_))
 refine qM (vJ 0) ?_
 refine qe (zA ?_)
 refine zZ (yR (fun k en W => ∃ (g : Nat → Value) (j : Nat) (o : Value) (os : List Int), en = (upd (upd (upd (upd (upd g 0 u) 1 v) 4 vN) 5 o) 6 (vJ (j : Int))) ∧ k = xs.length - j ∧ Ext noS G w G W ∧ (j ≤ xs.length) ∧ (os = atL a (xs.take j)) ∧ (os.length = j) ∧ (Own eInt 3 G W w.heap.size o (os))) _ ⟨_, 0, d, [], (pS 6 (pS 5 (pS 4 (pS 1 (pU 0))))), rfl, (c.step y aa), cI _, rfl, rfl, ab⟩ ?_)
 rintro k9 _ am ⟨g, j, o, os, rfl, an, b, hj, hr, hol, h⟩
 refine w9b ?_
 refine qM (vJ (j : Int)) ?_
 refine qM v ?_
 refine qD rfl (zM dE (v := v) rfl hv) (qD rfl (yU rfl rfl) (qe (zA ?_)))
 refine yC (p := ((j : Int) : Int) < (xs.length : Int)) rfl rfl (fun ac => ?_) (fun ac => ?_)
 have hkj := hk j (by omega)
 refine cO (zA (zB ?_))
 refine zZ (zC (qM o ?_))
 refine qM u ?_
 refine qM v ?_
 refine qM (vJ (j : Int)) ?_
 refine qD rfl (zF dE sz3 (v := v) rfl rfl hv (by omega) (by omega)) (qD rfl (zG (r := xs.getD j 0) rfl ag3 (z := (j : Int)) rfl hv b.pins (by omega) (by omega)) (qD rfl (zF dE sz3 (v := u) rfl rfl hu (by omega) (by omega)) (qD rfl (zG (r := a.getD (xs.getD j 0).toNat 0) rfl ag3 (z := xs.getD j 0) rfl hu (hPr.ext0 b) (by omega) (by omega)) (qI rfl (yV (E := eInt) (e := 3) [vJ (a.getD (xs.getD j 0).toNat 0)] [a.getD (xs.getD j 0).toNat 0] dE sz3 zr3 (by exact xP (by rfl)) (yZ (by rfl)) rfl rfl rfl rfl (by decide) b.pins (fun l ad ae af m ao => ?_))))))
 have f := b.step af m
 have q := h.below m
 have ag := ae.weaken b.size
 refine qI rfl (oA (E := eInt) (v := o) (u := l) 8 dE ap3 (by decide) rfl rfl f.pins q ag.src (f.size) (fun s ap ah ai aj aq => ?_))
 have ar := la1 os (a.getD (xs.getD j 0).toNat 0)
 refine qM s ?_
 refine qe (w9c ?_)
 refine qM (vJ (j : Int)) ?_
 refine qD rfl (yH rfl rfl (by omega)) (qM (vJ ((j : Int) + 1)) ?_)
 refine qe (zV (⟨_, ?_, _, rfl, _, j + 1, s, os ++ [a.getD (xs.getD j 0).toNat 0], (pS 6 (pS 5 (pS 4 (pS 1 (pU 0))))), rfl, (f.write ai aj ((yD q))), (by omega), (by rw [hr, at_next (by omega)]), (by rw [List.length_append, hol]; rfl), ah⟩))
 omega
 refine cQ (zX (yO (yK (w9a ?_))))
 refine qM o ?_
 refine qM o ?_
 refine qe (zA ?_)
 exact cP (zP (zQ (v := o) rfl rfl rfl (⟨_, _, rfl, (by rw [kE (by omega)] at hr; rw [← hr]; exact h), b⟩)))
theorem qA {w : World} (hP : Pins G w) (hv : RSl eInt G v xs) (hs : xs.length ≤ 1048576) :
  Calls Tryz.prog 80 #[v] w fun e w' => ∃ (u : Value) (G' : Pin), e = .returned u ∧ RSl eInt G' u (sortL xs) ∧ Ext noS G w G' w' := by
 refine zY (n := 19) Tryz.func80 Tryz.ntmps80 rfl rfl ?_
 have c := exr noS hP
 refine w9d ?_
 refine qM vN ?_
 refine qe (w9a ?_)
 refine qI rfl (xE (E := eInt) (e := 3) dE sz3 c.pins (fun d q s t x ag => ?_))
 have y := s.weaken c.size
 refine qM d ?_
 refine qe (zA (w9b ?_))
 refine qM (vJ 0) ?_
 refine qe (zA ?_)
 refine zZ ?_
 obtain ⟨f, aa, ab, ac, ah⟩ := y.sealed (c.step t x)
 refine yR (fun k en W => ∃ (g : Nat → Value) (j : Nat) (o : Value) (os : List Int) (a : Pin), en = (upd (upd (upd (upd g 0 v) 2 vN) 3 o) 4 (vJ (j : Int))) ∧ k = xs.length - j ∧ Ext noS G w a W ∧ Pin.le f a ∧ (j ≤ xs.length) ∧ (os = sortL (xs.take j)) ∧ (os.length ≤ j) ∧ (RSl eInt a o (os))) _ ⟨_, 0, d, [], f, (pS 4 (pS 3 (pS 2 (pU 0)))), rfl, ab, cJ _, cI _, rfl, cH 0, ac⟩ ?_
 rintro k9 _ aj ⟨g, j, o, os, a, rfl, ak, b, h, hj, hr, hol, i⟩
 refine w9b ?_
 refine qM (vJ (j : Int)) ?_
 refine qM v ?_
 refine qD rfl (zM dE (v := v) rfl hv) (qD rfl (yU rfl rfl) (qe (zA ?_)))
 refine yC (p := ((j : Int) : Int) < (xs.length : Int)) rfl rfl (fun ad => ?_) (fun ad => ?_)
 refine cO (zA (zB ?_))
 refine zZ (zC (qM o ?_))
 refine qM v ?_
 refine qM (vJ (j : Int)) ?_
 refine qD rfl (zF dE sz3 (v := v) rfl rfl hv (by omega) (by omega)) (qD rfl (zG (r := xs.getD j 0) rfl ag3 (z := (j : Int)) rfl hv (cC b.pins (cB aa h)) (by omega) (by omega)) (qI rfl (zL (vs := [o, vJ (xs.getD j 0)]) Tryz.func98 nm98 rfl rfl rfl ?_)))
 refine cD (jE b.pins i (by omega)) ?_
 rintro _ al ⟨l, ae, rfl, af, m⟩
 refine rt9 (qM l ?_)
 refine qe (w9c ?_)
 refine qM (vJ (j : Int)) ?_
 refine qD rfl (yH rfl rfl (by omega)) (qM (vJ ((j : Int) + 1)) ?_)
 refine qe (zV (⟨_, ?_, _, rfl, _, j + 1, l, putL os (xs.getD j 0), ae, (pS 4 (pS 3 (pS 2 (pU 0)))), rfl, (b.tr m), (cB h m.le), (by omega), (by rw [hr, mQ (by omega)]), (cR vQ (by omega)), af⟩))
 omega
 refine cQ (zX (yO (yK (w9a ?_))))
 refine qM o ?_
 refine qM o ?_
 refine qe (zA ?_)
 exact cP (zP (zQ (v := o) rfl rfl rfl (⟨_, _, rfl, (by rw [kE (by omega)] at hr; rw [← hr]; exact i), b⟩)))
end C1
namespace D1
open C1
theorem pl65 : (Tryz.prog.underlying 65).bind (placesD Tryz.prog) = some [(0, 1), (1, 1)] := by kernel_rfl
variable {G : Pin} {u v : Value} {xs ys : List Int}
theorem nU {w : World} (hP : Pins G w) (hu : RSl eInt G u xs) (hv : RSl eInt G v ys) :
  Calls Tryz.prog 99 #[u, v] w fun e w' => e = .returned (vJ (cmpL xs ys)) ∧ Ext noS G w G w' := by
 refine zY (n := 48) Tryz.func99 Tryz.ntmps99 rfl rfl ?_
 have m := exr noS hP
 have hm := hu.max
 refine w9d ?_
 refine qM (vJ 0) ?_
 refine qe (zA (w9b ?_))
 refine qM (vJ 0) ?_
 refine qe (zA ?_)
 refine zZ (yR (fun k en W => ∃ (g : Nat → Value) (j : Nat), en = (upd (upd (upd g 0 u) 1 v) 5 (vJ (j : Int))) ∧ k = xs.length - j ∧ Ext noS G w G W ∧ (j ≤ xs.length ∧ j ≤ ys.length) ∧ (cmpL xs ys = cmpL (xs.drop j) (ys.drop j))) _ ⟨_, 0, (pS 5 (pS 1 (pU 0))), rfl, m, ⟨cI _, cI _⟩, rfl⟩ ?_)
 rintro k1 _ d ⟨g, j, rfl, ad, c, hj, hr⟩
 refine w9b ?_
 refine qM (vJ (j : Int)) ?_
 refine qM u ?_
 refine qD rfl (zM dE (v := u) rfl hu) (qD rfl (yU rfl rfl) (qM (.bool (decide (((j : Int) : Int) < (xs.length : Int)))) ?_))
 refine qbd (p := ((j : Int) : Int) < (xs.length : Int)) (t := 10) rfl (fun o => ?_) (fun o => ?_)
 refine qN (zN (v := vJ (j : Int)) rfl) ?_
 refine qN (zN (v := v) rfl) ?_
 refine qN (zM dE (v := v) rfl hv) ?_
 refine qN (yU rfl rfl) ?_
 refine qD rfl (yB (v := .bool (decide (((j : Int) : Int) < (ys.length : Int)))) rfl rfl) (qe (zA ?_))
 refine yC (p := ((j : Int) : Int) < (ys.length : Int)) rfl rfl (fun q => ?_) (fun q => ?_)
 refine cO (zA (zB ?_))
 refine zZ (zB (yW (S := fun wz => Pins G wz) (last := 9) (by kernel_rfl) rfl ?_))
 have h := bdr d
 have a := c.step (c.pins.below h) h
 refine dM 0 u a.pins ?_
 refine dM 1 (vJ (j : Int)) a.pins ?_
 refine dT (i := 2) rfl rfl (by kernel_rfl) (fun _ _ => zF dE sz3 (v := u) rfl rfl hu (by omega) (by omega)) a.pins ?_
 refine dT (i := 3) rfl rfl (by kernel_rfl) (fun _ hS => zG (r := xs.getD j 0) rfl ag3 (z := (j : Int)) rfl hu hS (by omega) (by omega)) a.pins ?_
 refine dM 4 v a.pins ?_
 refine dM 5 (vJ (j : Int)) a.pins ?_
 refine dT (i := 6) rfl rfl (by kernel_rfl) (fun _ _ => zF dE sz3 (v := v) rfl rfl hv (by omega) (by omega)) a.pins ?_
 refine dT (i := 7) rfl rfl (by kernel_rfl) (fun _ hS => zG (r := ys.getD j 0) rfl ag3 (z := (j : Int)) rfl hv hS (by omega) (by omega)) a.pins ?_
 refine dT (i := 8) rfl rfl (by kernel_rfl) (fun _ _ => vV rfl rfl) a.pins ?_
 refine yL (by kernel_rfl) (zA (yC (p := (xs.getD j 0 : Int) ≠ (ys.getD j 0)) rfl rfl (fun s => ?_) (fun s => ?_)))
 refine zB (zB ?_)
 refine yW (S := fun wz => Pins G wz) (last := 9) (by kernel_rfl) rfl ?_
 have l : Below d.drew.heap.size d.drew d.drew.drew := (Below.refl _ _).drew
 have b := a.step (a.pins.below l) l
 refine dM 0 u b.pins ?_
 refine dM 1 (vJ (j : Int)) b.pins ?_
 refine dT (i := 2) rfl rfl (by kernel_rfl) (fun _ _ => zF dE sz3 (v := u) rfl rfl hu (by omega) (by omega)) b.pins ?_
 refine dT (i := 3) rfl rfl (by kernel_rfl) (fun _ hS => zG (r := xs.getD j 0) rfl ag3 (z := (j : Int)) rfl hu hS (by omega) (by omega)) b.pins ?_
 refine dM 4 v b.pins ?_
 refine dM 5 (vJ (j : Int)) b.pins ?_
 refine dT (i := 6) rfl rfl (by kernel_rfl) (fun _ _ => zF dE sz3 (v := v) rfl rfl hv (by omega) (by omega)) b.pins ?_
 refine dT (i := 7) rfl rfl (by kernel_rfl) (fun _ hS => zG (r := ys.getD j 0) rfl ag3 (z := (j : Int)) rfl hv hS (by omega) (by omega)) b.pins ?_
 refine dT (i := 8) rfl rfl (by kernel_rfl) (fun _ _ => yU rfl rfl) b.pins ?_
 refine yL (by kernel_rfl) (zA (yC (p := (xs.getD j 0 : Int) < (ys.getD j 0)) rfl rfl (fun f => ?_) (fun f => ?_)))
 refine w9d ?_
 refine qM (vJ (-1)) ?_
 refine qe (zA ?_)
 exact cP (zP (zQ (v := vJ (-1)) rfl rfl rfl (⟨cgA eI ((hr.trans ((cmpL_ne (by omega) (by omega) (by unfold cmpI; split <;> omega)).trans (by unfold cmpI; rw [if_pos f]))).symm), b⟩)))
 refine cO (w9a ?_)
 refine qM (vJ 1) ?_
 refine qe (zA ?_)
 exact cP (zP (zQ (v := vJ 1) rfl rfl rfl (⟨cgA eI ((hr.trans ((cmpL_ne (by omega) (by omega) (by unfold cmpI; split <;> omega)).trans (by unfold cmpI; rw [if_neg f, if_pos (by omega)]))).symm), b⟩)))
 refine cO (w9c ?_)
 refine qM (vJ (j : Int)) ?_
 refine qD rfl (yH rfl rfl (by omega)) (qM (vJ ((j : Int) + 1)) ?_)
 refine qe (zV (⟨_, ?_, _, rfl, _, j + 1, (pS 5 (pS 1 (pU 0))), rfl, a, (by omega), (hr.trans (cmpL_eq (by omega) (by omega) (by unfold cmpI; rw [if_neg (by omega), if_neg (by omega)]; omega)))⟩))
 omega
 refine cQ (zX (yO (yK (zA (zB ?_)))))
 refine zZ (w9d ?_)
 refine qM u ?_
 refine qD rfl (zM dE (v := u) rfl hu) (qM v ?_)
 refine qD rfl (zM dE (v := v) rfl hv) (qD rfl (yU rfl rfl) (qM (.bool (decide (((xs.length : Int) : Int) < (ys.length : Int)))) ?_))
 refine qe (zA ?_)
 refine yC (p := ((xs.length : Int) : Int) < (ys.length : Int)) rfl rfl (fun x => ?_) (fun x => ?_)
 refine w9d ?_
 refine qM (vJ (-1)) ?_
 refine qe (zA ?_)
 exact cP (zP (zQ (v := vJ (-1)) rfl rfl rfl (⟨cgA eI ((hr.trans (nI (by omega) (by omega))).symm), c⟩)))
 refine w9d ?_
 refine qM u ?_
 refine qD rfl (zM dE (v := u) rfl hu) (qM v ?_)
 refine qD rfl (zM dE (v := v) rfl hv) (qD rfl (jW rfl rfl) (qM (.bool (decide (((ys.length : Int) : Int) < (xs.length : Int)))) ?_))
 refine qe (zA ?_)
 refine yC (p := ((ys.length : Int) : Int) < (xs.length : Int)) rfl rfl (fun y => ?_) (fun y => ?_)
 refine w9d ?_
 refine qM (vJ 1) ?_
 refine qe (zA ?_)
 exact cP (zP (zQ (v := vJ 1) rfl rfl rfl (⟨cgA eI ((hr.trans (nH (by omega) (by omega))).symm), c⟩)))
 refine cO (zW (w9a ?_))
 refine qM (vJ 0) ?_
 refine qe (zA ?_)
 exact cP (zP (zQ (v := vJ 0) rfl rfl rfl (⟨cgA eI ((hr.trans (nG (by omega) (by omega))).symm), c⟩)))
 refine qW ?_
 refine qW ?_
 refine qW ?_
 refine qW ?_
 refine qD rfl (zU (v := .bool false) rfl rfl) (qe (zA ?_))
 refine xT rfl rfl (cQ (zX (yO (yK (zA (zB ?_))))))
 refine zZ (w9d ?_)
 refine qM u ?_
 refine qD rfl (zM dE (v := u) rfl hu) (qM v ?_)
 refine qD rfl (zM dE (v := v) rfl hv) (qD rfl (yU rfl rfl) (qM (.bool (decide (((xs.length : Int) : Int) < (ys.length : Int)))) ?_))
 refine qe (zA ?_)
 refine yC (p := ((xs.length : Int) : Int) < (ys.length : Int)) rfl rfl (fun aa => ?_) (fun aa => ?_)
 refine w9d ?_
 refine qM (vJ (-1)) ?_
 refine qe (zA ?_)
 exact cP (zP (zQ (v := vJ (-1)) rfl rfl rfl (⟨cgA eI ((hr.trans (nI (by omega) (by omega))).symm), c⟩)))
 refine w9d ?_
 refine qM u ?_
 refine qD rfl (zM dE (v := u) rfl hu) (qM v ?_)
 refine qD rfl (zM dE (v := v) rfl hv) (qD rfl (jW rfl rfl) (qM (.bool (decide (((ys.length : Int) : Int) < (xs.length : Int)))) ?_))
 refine qe (zA ?_)
 refine yC (p := ((ys.length : Int) : Int) < (xs.length : Int)) rfl rfl (fun ab => ?_) (fun ab => ?_)
 refine w9d ?_
 refine qM (vJ 1) ?_
 refine qe (zA ?_)
 exact cP (zP (zQ (v := vJ 1) rfl rfl rfl (⟨cgA eI ((hr.trans (nH (by omega) (by omega))).symm), c⟩)))
 refine cO (zW (w9a ?_))
 refine qM (vJ 0) ?_
 refine qe (zA ?_)
 exact cP (zP (zQ (v := vJ 0) rfl rfl rfl (⟨cgA eI ((hr.trans (nG (by omega) (by omega))).symm), c⟩)))
theorem nC {w : World} {al ar bl br : Value} {a b : Nd} (hP : Pins G w) (hal : RSl eInt G al a.l) (har : RSl eInt G ar a.r) (hbl : RSl eInt G bl b.l) (hbr : RSl eInt G br b.r) :
  Calls Tryz.prog 81 [.agg #[al, ar], .agg #[bl, br]].toArray w fun e w' => ∃ G', e = .returned (.bool (decide (aheadI a b < 0))) ∧ Ext noS G w G' w' := by
 refine zY (n := 21) Tryz.func81 Tryz.ntmps81 rfl rfl ?_
 have h := exr noS hP
 refine w9d ?_
 refine qI rfl (xH [al, ar] (v := .agg #[al, ar]) rfl rfl h.pins (fun t w2 ah x y z => ?_))
 have aa : w.heap.size ≤ t := by have := h.size; omega
 obtain ⟨G9, f, i, j, aj⟩ := x.shut (h.step y z) aa
 refine qI rfl (xH [bl, br] (v := .agg #[bl, br]) rfl rfl i.pins (fun ab ak am ac ad ae => ?_))
 have af : w.heap.size ≤ ab := by have := i.size; omega
 obtain ⟨an, c, g, m, ao⟩ := ac.shut (i.step ad ae) af
 refine qM (.bool false) ?_
 refine qe (zA (w9b ?_))
 refine qD rfl (zH (k := 0) rfl dG rfl nz56 rfl) (qD rfl (zJ (u := al) ag56 rfl ((cC g.pins c) _ _ _ (j 0 _ rfl))) (qD rfl (zH (k := 0) rfl dG rfl nz56 rfl) (qD rfl (zJ (u := bl) ag56 rfl (g.pins _ _ _ (m 0 _ rfl))) (qI rfl (zL (vs := [al, bl]) Tryz.func99 nm99 rfl rfl rfl ?_)))))
 refine cD (nU g.pins (hal.mono (cB f c)) (hbl.mono (cB f c))) ?_
 rintro _ ap ⟨rfl, o⟩
 refine rt9 ?_
 have d := g.step o.pins o.below
 refine qM (vJ (cmpL a.l b.l)) ?_
 refine qe (w9a ?_)
 refine qM (vJ (cmpL a.l b.l)) ?_
 refine qD rfl (vV rfl rfl) (qe (zA ?_))
 refine yC (p := (cmpL a.l b.l : Int) ≠ 0) rfl rfl (fun q => ?_) (fun q => ?_)
 refine w9d ?_
 refine qM (vJ (cmpL a.l b.l)) ?_
 refine qD rfl (yU rfl rfl) (qM (.bool (decide ((cmpL a.l b.l : Int) < 0))) ?_)
 refine qe (zA ?_)
 exact cP (zP (zQ (v := .bool (decide ((cmpL a.l b.l : Int) < 0))) rfl rfl rfl (⟨_, cgA eB (by rw [kL q]), d⟩)))
 refine cO (w9a ?_)
 refine qD rfl (zH (k := 1) rfl dG rfl nz56 rfl) (qD rfl (zJ (u := ar) ag56 rfl ((cC d.pins c) _ _ _ (j 1 _ rfl))) (qD rfl (zH (k := 1) rfl dG rfl nz56 rfl) (qD rfl (zJ (u := br) ag56 rfl (d.pins _ _ _ (m 1 _ rfl))) (qI rfl (zL (vs := [ar, br]) Tryz.func99 nm99 rfl rfl rfl ?_)))))
 refine cD (nU d.pins (har.mono (cB f c)) (hbr.mono (cB f c))) ?_
 rintro _ aq ⟨rfl, s⟩
 refine rt9 (qD rfl (yU rfl rfl) (qM (.bool (decide ((cmpL a.r b.r : Int) < 0))) ?_))
 refine qe (zA ?_)
 exact cP (zP (zQ (v := .bool (decide ((cmpL a.r b.r : Int) < 0))) rfl rfl rfl (⟨_, cgA eB (by rw [vT (by omega)]), (d.step s.pins s.below)⟩)))
theorem l3Same_spec {w : World} {xs ys : List Nd} (hP : Pins G w) (hu : RSl eNode G u xs) (hv : RSl eNode G v ys) :
  Calls Tryz.prog 52 [.agg #[u], .agg #[v]].toArray w fun e w' => ∃ G', e = .returned (.bool (decide (xs = ys))) ∧ Ext noS G w G' w' := by
 refine zY (n := 50) Tryz.func52 Tryz.ntmps52 rfl rfl ?_
 have s := exr noS hP
 have hm := hu.max
 refine w9d ?_
 refine qI rfl (xH [u] (v := .agg #[u]) rfl rfl s.pins (fun b1 w2 a7 an ao ap => ?_))
 have aq : w.heap.size ≤ b1 := by have := s.size; omega
 obtain ⟨G9, d, x, m, a9⟩ := an.shut (s.step ao ap) aq
 refine qI rfl (xH [v] (v := .agg #[v]) rfl rfl x.pins (fun ac ba bb ar au av => ?_))
 have aw : w.heap.size ≤ ac := by have := x.size; omega
 obtain ⟨ad, c, o, y, bc⟩ := ar.shut (x.step au av) aw
 refine qM (.bool false) ?_
 refine qe (zA (w9b ?_))
 refine qD rfl (zH (k := 0) rfl dJ rfl nz30 rfl) (qD rfl (zJ (u := u) ag30 rfl ((cC o.pins c) _ _ _ (m 0 _ rfl))) (qD rfl (zM dF (v := u) rfl hu) (qD rfl (zH (k := 0) rfl dJ rfl nz30 rfl) (qD rfl (zJ (u := v) ag30 rfl (o.pins _ _ _ (y 0 _ rfl))) (qD rfl (zM dF (v := v) rfl hv) (qD rfl (vV rfl rfl) (qe (zA ?_))))))))
 refine yC (p := ((xs.length : Int) : Int) ≠ (ys.length : Int)) rfl rfl (fun ae => ?_) (fun ae => ?_)
 refine w9d ?_
 refine qM (.bool false) ?_
 refine qe (zA ?_)
 exact cP (zP (zQ (v := .bool false) rfl rfl rfl (⟨_, cgA eB (decide_eq_false (fun e => ae (by rw [e]))).symm, o⟩)))
 refine cO (zA (w9b ?_))
 refine qM (vJ 0) ?_
 refine qe (zA ?_)
 refine zZ (yR (fun k en W => ∃ (af : Nat → Value) (j : Nat), en = (upd (upd (upd af 2 (vP b1)) 3 (vP ac)) 5 (vJ (j : Int))) ∧ k = xs.length - j ∧ Ext noS G w ad W ∧ (j ≤ xs.length) ∧ (xs.length = ys.length) ∧ (∀ i, i < j → xs.getD i default = ys.getD i default)) _ ⟨_, 0, (pS 5 (pS 3 (pU 2))), rfl, o, cI _, (by omega), (fun i hi => absurd hi (cK i))⟩ ?_)
 rintro bd _ aa ⟨af, j, rfl, be, q, hj, heq, hp⟩
 refine w9b ?_
 refine qM (vJ (j : Int)) ?_
 refine qD rfl (zH (k := 0) rfl dJ rfl nz30 rfl) (qD rfl (zJ (u := u) ag30 rfl ((cC q.pins c) _ _ _ (m 0 _ rfl))) (qD rfl (zM dF (v := u) rfl hu) (qD rfl (yU rfl rfl) (qe (zA ?_)))))
 refine yC (p := ((j : Int) : Int) < (xs.length : Int)) rfl rfl (fun ax => ?_) (fun ax => ?_)
 refine cO (zA (zB ?_))
 refine zZ (zB (yW (S := fun wz => Pins ad wz) (last := 30) (by kernel_rfl) rfl ?_))
 have ag := bdr aa
 have b := q.step (q.pins.below ag) ag
 refine dT (i := 0) rfl rfl (by kernel_rfl) (fun _ _ => zH (k := 0) rfl dJ rfl nz30 rfl) b.pins ?_
 refine dT (i := 1) rfl rfl (by kernel_rfl) (fun _ hS => zJ (u := u) ag30 rfl ((cC hS c) _ _ _ (m 0 _ rfl))) b.pins ?_
 refine dM 2 (vJ (j : Int)) b.pins ?_
 refine dT (i := 3) rfl rfl (by kernel_rfl) (fun _ _ => zF dF sz65 (v := u) rfl rfl hu (by omega) (by omega)) b.pins ?_
 refine dT (i := 4) rfl rfl (by kernel_rfl) (fun _ _ => xC (off := 0) dG rfl rfl nz56 (z := (j : Int)) (k := 0) rfl hu (by omega) (by omega)) b.pins ?_
 obtain ⟨ay, ah, az⟩ := jZ (hu.at (z := (j : Int)) (by omega) (by omega)) (j := j) rfl
 have bf := ah.max
 refine dT (i := 5) rfl rfl (by kernel_rfl) (fun _ hS => az ag56 rfl (cC hS (cB d c))) b.pins ?_
 refine dT (i := 6) rfl rfl (by kernel_rfl) (fun _ _ => zH (k := 0) rfl dJ rfl nz30 rfl) b.pins ?_
 refine dT (i := 7) rfl rfl (by kernel_rfl) (fun _ hS => zJ (u := v) ag30 rfl (hS _ _ _ (y 0 _ rfl))) b.pins ?_
 refine dM 8 (vJ (j : Int)) b.pins ?_
 refine dT (i := 9) rfl rfl (by kernel_rfl) (fun _ _ => zF dF sz65 (v := v) rfl rfl hv (by omega) (by omega)) b.pins ?_
 refine dT (i := 10) rfl rfl (by kernel_rfl) (fun _ _ => xC (off := 0) dG rfl rfl nz56 (z := (j : Int)) (k := 0) rfl hv (by omega) (by omega)) b.pins ?_
 obtain ⟨a0, ai, a1⟩ := jZ (hv.at (z := (j : Int)) (by omega) (by omega)) (j := j) rfl
 have bg := ai.max
 refine dT (i := 11) rfl rfl (by kernel_rfl) (fun _ hS => a1 ag56 rfl (cC hS (cB d c))) b.pins ?_
 refine dP (i := 12) rfl rfl (zL (vs := [ay, a0]) Tryz.func78 nm78 rfl rfl rfl ?_)
 refine cD (kR b.pins (ah.mono (cB d c)) (ai.mono (cB d c))) ?_
 rintro _ bh ⟨rfl, aj⟩
 refine rt9 ?_
 have a := b.step aj.pins aj.below
 refine ⟨fun _ => a.pins, ?_⟩
 refine dT (i := 13) rfl rfl (by kernel_rfl) (fun _ _ => xD rfl) a.pins ?_
 refine dM 14 (.bool (!(decide (((xs.getD j default).l) = ((ys.getD j default).l))))) a.pins ?_
 refine drbn (t := 34) rfl (fun f => ?_) (fun f => ?_)
 replace f := of_decide_eq_true f
 refine yP (i := 15) rfl rfl rfl (yG rfl rfl rfl rfl) (by kernel_rfl) (fun _ _ => zH (k := 0) rfl dJ rfl nz30 rfl) a.pins (yP (i := 16) rfl rfl rfl (yG rfl rfl rfl rfl) (by kernel_rfl) (fun _ hS => zJ (u := u) ag30 rfl ((cC hS c) _ _ _ (m 0 _ rfl))) a.pins (yP (i := 17) rfl rfl rfl (yG rfl rfl rfl rfl) (by kernel_rfl) (fun _ _ => zN (v := vJ (j : Int)) rfl) a.pins (yP (i := 18) rfl rfl rfl (yG rfl rfl rfl rfl) (by kernel_rfl) (fun _ _ => zF dF sz65 (v := u) rfl rfl hu (by omega) (by omega)) a.pins (yP (i := 19) rfl rfl rfl (yG rfl rfl rfl rfl) (by kernel_rfl) (fun _ _ => xC (off := 1) dG rfl rfl nz56 (z := (j : Int)) (k := 0) rfl hu (by omega) (by omega)) a.pins ?_))))
 obtain ⟨a2, ak, a3⟩ := jY (hu.at (z := (j : Int)) (by omega) (by omega)) (j := j) rfl
 have bi := ak.max
 refine yP (i := 20) rfl rfl rfl (yG rfl rfl rfl rfl) (by kernel_rfl) (fun _ hS => a3 ag56 rfl (cC hS (cB d c))) a.pins (yP (i := 21) rfl rfl rfl (yG rfl rfl rfl rfl) (by kernel_rfl) (fun _ _ => zH (k := 0) rfl dJ rfl nz30 rfl) a.pins (yP (i := 22) rfl rfl rfl (yG rfl rfl rfl rfl) (by kernel_rfl) (fun _ hS => zJ (u := v) ag30 rfl (hS _ _ _ (y 0 _ rfl))) a.pins (yP (i := 23) rfl rfl rfl (yG rfl rfl rfl rfl) (by kernel_rfl) (fun _ _ => zN (v := vJ (j : Int)) rfl) a.pins (yP (i := 24) rfl rfl rfl (yG rfl rfl rfl rfl) (by kernel_rfl) (fun _ _ => zF dF sz65 (v := v) rfl rfl hv (by omega) (by omega)) a.pins (yP (i := 25) rfl rfl rfl (yG rfl rfl rfl rfl) (by kernel_rfl) (fun _ _ => xC (off := 1) dG rfl rfl nz56 (z := (j : Int)) (k := 0) rfl hv (by omega) (by omega)) a.pins ?_)))))
 obtain ⟨a4, al, a5⟩ := jY (hv.at (z := (j : Int)) (by omega) (by omega)) (j := j) rfl
 have bj := al.max
 refine yP (i := 26) rfl rfl rfl (yG rfl rfl rfl rfl) (by kernel_rfl) (fun _ hS => a5 ag56 rfl (cC hS (cB d c))) a.pins ?_
 refine dO (i := 27) (eL (i := 27) rfl rfl rfl (yG rfl rfl rfl rfl) (zL (vs := [a2, a4]) Tryz.func78 nm78 rfl rfl rfl ?_))
 refine cD (kR a.pins (ak.mono (cB d c)) (al.mono (cB d c))) ?_
 rintro _ bk ⟨rfl, am⟩
 refine rt9 ?_
 have h := a.step am.pins am.below
 refine ⟨fun _ => h.pins, ?_⟩
 refine yP (i := 28) rfl rfl rfl (yG rfl rfl rfl rfl) (by kernel_rfl) (fun _ _ => xD rfl) h.pins (dT (i := 29) rfl rfl (by kernel_rfl) (fun _ _ => zU (v := .bool (!(decide (((xs.getD j default).r) = ((ys.getD j default).r))))) rfl rfl) h.pins ?_)
 refine yL (by kernel_rfl) (zA (xU rfl rfl (fun g => ?_) (fun g => ?_)))
 replace g := of_decide_eq_true g
 refine cO (w9c ?_)
 refine qM (vJ (j : Int)) ?_
 refine qD rfl (yH rfl rfl (by omega)) (qM (vJ ((j : Int) + 1)) ?_)
 refine qe (zV (⟨_, ?_, _, rfl, _, j + 1, (pS 5 (pS 3 (pU 2))), rfl, h, (by omega), heq, (eqstepN hp f g)⟩))
 omega
 replace g := of_decide_eq_false g
 refine w9d ?_
 refine qM (.bool false) ?_
 refine qe (zA ?_)
 exact cP (zP (zQ (v := .bool false) rfl rfl rfl (⟨_, cgA eB (decide_eq_false (fun e => g (by rw [e]))).symm, h⟩)))
 replace f := of_decide_eq_false f
 refine yF (i := 15) rfl rfl (yJ rfl rfl rfl rfl rfl) (by kernel_rfl) a.pins (yF (i := 16) rfl rfl (yJ rfl rfl rfl rfl rfl) (by kernel_rfl) a.pins (yF (i := 17) rfl rfl (yJ rfl rfl rfl rfl rfl) (by kernel_rfl) a.pins (yF (i := 18) rfl rfl (yJ rfl rfl rfl rfl rfl) (by kernel_rfl) a.pins (yF (i := 19) rfl rfl (yJ rfl rfl rfl rfl rfl) (by kernel_rfl) a.pins (yF (i := 20) rfl rfl (yJ rfl rfl rfl rfl rfl) (by kernel_rfl) a.pins (yF (i := 21) rfl rfl (yJ rfl rfl rfl rfl rfl) (by kernel_rfl) a.pins (yF (i := 22) rfl rfl (yJ rfl rfl rfl rfl rfl) (by kernel_rfl) a.pins (yF (i := 23) rfl rfl (yJ rfl rfl rfl rfl rfl) (by kernel_rfl) a.pins (yF (i := 24) rfl rfl (yJ rfl rfl rfl rfl rfl) (by kernel_rfl) a.pins (yF (i := 25) rfl rfl (yJ rfl rfl rfl rfl rfl) (by kernel_rfl) a.pins (yF (i := 26) rfl rfl (yJ rfl rfl rfl rfl rfl) (by kernel_rfl) a.pins (yF (i := 27) rfl rfl (yJ rfl rfl rfl rfl rfl) (by kernel_rfl) a.pins (yF (i := 28) rfl rfl (yJ rfl rfl rfl rfl rfl) (by kernel_rfl) a.pins (dT (i := 29) rfl rfl (by kernel_rfl) (fun _ _ => yB (v := .bool true) rfl rfl) a.pins ?_))))))))))))))
 refine yL (by kernel_rfl) (zA (qK rfl rfl (w9d ?_)))
 refine qM (.bool false) ?_
 refine qe (zA ?_)
 exact cP (zP (zQ (v := .bool false) rfl rfl rfl (⟨_, cgA eB (decide_eq_false (fun e => f (by rw [e]))).symm, a⟩)))
 refine cQ (zX (yO (yK (w9a ?_))))
 refine qM (.bool true) ?_
 refine qe (zA ?_)
 exact cP (zP (zQ (v := .bool true) rfl rfl rfl (⟨_, cgA eB (decide_eq_true (eqdoneN heq (by omega) hp)).symm, q⟩)))
theorem put_spec {w : World} {b : Nat} {bu bv : Value} {ns : List Nd} {bs : List Int} (hP : Pins G w) (hB : Bk 65 3 G w b bu bv ns bs) (hok : BookOk ns bs) {x y : Value} (hx : RSl eInt G x xs) (hy : RSl eInt G y ys) (hls : xs.length ≤ 1048576 ∧ ys.length ≤ 1048576) (hk1 : ∀ i, i < xs.length → 0 ≤ xs.getD i 0 ∧ xs.getD i 0 < ns.length) (hk2 : ∀ i, i < ys.length → 0 ≤ ys.getD i 0 ∧ ys.getD i 0 < ns.length) :
  Calls Tryz.prog 84 #[vP b, x, y] w fun e w' => ∃ (u' v' : Value) (G' : Pin), e = .returned (vJ (putK ns bs xs ys)) ∧ Bk 65 3 G' w' b u' v' (putN ns bs xs ys) (putB ns bs xs ys) ∧ Ext (inS b bu bv) G w G' w' ∧ Lo w (inS b bu bv) u'.ownBlock ∧ Lo w (inS b bu bv) v'.ownBlock := by
 refine zY (n := 136) Tryz.func84 Tryz.ntmps84 rfl rfl ?_
 have ba := exr (inS b bu bv) hP
 have hbx := hB.bx
 have hou := hB.ou
 have hov := hB.ov
 have habu := hB.abu
 have habv := hB.abv
 have hauv := hB.auv
 have hlob : Lo w (inS b bu bv) (some b) := lo_b
 have hlou : Lo w (inS b bu bv) bu.ownBlock := lo_u
 have hlov : Lo w (inS b bu bv) bv.ownBlock := lo_v
 have hlen := hok.len
 have hlim := hok.lim
 refine w9d ?_
 refine qM (vJ 0) ?_
 refine qe (w9a ?_)
 refine qI rfl (xE (E := eInt) (e := 3) dE sz3 ba.pins (fun u1 w2 dc dd ay bc => ?_))
 have bd := ba.step dd ay
 have b8 := hou.below ay
 have b9 := hov.below ay
 have ca := hbx.below ay
 have cb := dc.weaken ba.size
 refine qI rfl (xE (E := eInt) (e := 3) dE sz3 bd.pins (fun an de df dg ao az => ?_))
 have dh := df.weaken bd.size
 refine qM u1 ?_
 refine qM an ?_
 refine qe (w9a ?_)
 refine qM (vJ 0) ?_
 refine qe (zA (w9b ?_))
 refine qM (vJ 0) ?_
 refine qe (zA ?_)
 refine zZ ?_
 obtain ⟨cc, af, di, dj, a0⟩ := (cb.below ao).sealed (bd.step dg ao)
 refine yR (fun k en W => ∃ (ac : Nat → Value) (i : Nat) (lo : Value) (ls : List Int) (bn : Int) (GLi : Pin), en = (upd (upd (upd (upd (upd (upd (upd (upd ac 0 (vP b)) 1 x) 2 y) 6 (vJ 0)) 7 lo) 8 an) 9 (vJ bn)) 10 (vJ (i : Int))) ∧ k = xs.length - i ∧ Ext (inS b bu bv) G w GLi W ∧ Pin.le cc GLi ∧ (i ≤ xs.length) ∧ (ls = sortL (xs.take i)) ∧ (ls.length ≤ i) ∧ (bn = bornOf bs (xs.take i) 0) ∧ (0 ≤ bn ∧ bn ≤ ns.length) ∧ (Own eNode 65 GLi W 0 bu (ns)) ∧ (Own eInt 3 GLi W 0 bv (bs)) ∧ (Own eInt 3 GLi W w.heap.size an ([])) ∧ (Bx GLi W b [bu, bv]) ∧ (RSl eInt GLi lo (ls))) _ ⟨_, 0, u1, [], 0, cc, (pS 10 (pS 9 (pS 8 (pS 7 (pS 6 (pS 2 (pS 1 (pU 0)))))))), rfl, di, cJ _, cI _, rfl, cH 0, rfl, (by omega), ((b8.below ao).moreO af a0 (zE bc hou.lt).symm), ((b9.below ao).moreO af a0 (zE bc hov.lt).symm), (dh.moreO af a0 (zE az cb.lt)), ((ca.below ao).moreO a0 (zI bc hbx.lt).symm), dj⟩ ?_
 rintro eb _ ec ⟨ac, i, lo, ls, bn, GLi, rfl, ed, a1, ap, hji, hrls, holls, hbbn, hlbn, cd, ce, cf, cg, a2⟩
 refine w9b ?_
 refine qM (vJ (i : Int)) ?_
 refine qM x ?_
 refine qD rfl (zM dE (v := x) rfl hx) (qD rfl (yU rfl rfl) (qe (zA ?_)))
 refine yC (p := ((i : Int) : Int) < (xs.length : Int)) rfl rfl (fun dk => ?_) (fun dk => ?_)
 have hki := hk1 i (by omega)
 have hbk := hok.born (xs.getD i 0).toNat (by omega)
 refine cO (zA (zB ?_))
 refine zZ (w9d ?_)
 refine qM lo ?_
 refine qM x ?_
 refine qM (vJ (i : Int)) ?_
 refine qD rfl (zF dE sz3 (v := x) rfl rfl hx (by omega) (by omega)) (qD rfl (zG (r := xs.getD i 0) rfl ag3 (z := (i : Int)) rfl hx (cC a1.pins (cB af ap)) (by omega) (by omega)) (qI rfl (zL (vs := [lo, vJ (xs.getD i 0)]) Tryz.func98 nm98 rfl rfl rfl ?_)))
 refine cD (jE a1.pins a2 (by omega)) ?_
 rintro _ a3 ⟨ch, be, rfl, dl, ag⟩
 refine rt9 ?_
 have bf := a1.tr ag
 have ci := ce.ext ag
 refine qM ch ?_
 refine qe (zA ?_)
 have cj := ci.read
 refine yW (S := fun wz => BxR wz b [bu, bv] ∧ Pins be wz ∧ Pins (Gadd be a3 bv) wz) (last := 14) (by kernel_rfl) rfl ?_
 have ah := bdr a3
 have c := bf.step (bf.pins.below ah) ah
 have f := (cg.ext ag).below ah
 have s := (cM bf.pins bv).below ah
 refine dT (i := 0) rfl rfl (by kernel_rfl) (fun _ _ => zN (v := vJ bn) rfl) ⟨f.reads, c.pins, s⟩ ?_
 refine dT (i := 1) rfl rfl (by kernel_rfl) (fun _ _ => zN (v := vP b) rfl) ⟨f.reads, c.pins, s⟩ ?_
 refine dT (i := 2) rfl rfl (by kernel_rfl) (fun _ _ => yY rfl) ⟨f.reads, c.pins, s⟩ ?_
 refine dT (i := 3) rfl rfl (by kernel_rfl) (fun _ _ => zH (k := 1) rfl dL rfl nz56 rfl) ⟨f.reads, c.pins, s⟩ ?_
 refine dT (i := 4) rfl rfl (by kernel_rfl) (fun _ hS => zJ (u := bv) ag56 rfl (hS.1 1 _ rfl)) ⟨f.reads, c.pins, s⟩ ?_
 refine dT (i := 5) rfl rfl (by kernel_rfl) (fun _ _ => zN (v := x) rfl) ⟨f.reads, c.pins, s⟩ ?_
 refine dT (i := 6) rfl rfl (by kernel_rfl) (fun _ _ => zN (v := vJ (i : Int)) rfl) ⟨f.reads, c.pins, s⟩ ?_
 refine dT (i := 7) rfl rfl (by kernel_rfl) (fun _ _ => zF dE sz3 (v := x) rfl rfl hx (by omega) (by omega)) ⟨f.reads, c.pins, s⟩ ?_
 refine dT (i := 8) rfl rfl (by kernel_rfl) (fun _ hS => zG (r := xs.getD i 0) rfl ag3 (z := (i : Int)) rfl hx (cC hS.2.1 (cB (cB af ap) ag.le)) (by omega) (by omega)) ⟨f.reads, c.pins, s⟩ ?_
 refine dT (i := 9) rfl rfl (by kernel_rfl) (fun _ _ => zF dE sz3 (v := bv) rfl rfl cj (by omega) (by omega)) ⟨f.reads, c.pins, s⟩ ?_
 refine dT (i := 10) rfl rfl (by kernel_rfl) (fun _ hS => zG (r := bs.getD (xs.getD i 0).toNat 0) rfl ag3 (z := xs.getD i 0) rfl cj hS.2.2 (by omega) (by omega)) ⟨f.reads, c.pins, s⟩ ?_
 refine dT (i := 11) rfl rfl (by kernel_rfl) (fun _ _ => yH rfl rfl (by omega)) ⟨f.reads, c.pins, s⟩ ?_
 refine dP (i := 12) rfl rfl (zL (vs := [vJ bn, vJ ((bs.getD (xs.getD i 0).toNat 0) + 1)]) Tryz.func104 nm104 rfl rfl rfl ?_)
 refine cD (nX c.pins) ?_
 rintro _ _ ⟨rfl, rfl⟩
 refine rt9 (⟨fun _ => ⟨f.reads, c.pins, s⟩, ?_⟩)
 refine dT (i := 13) rfl rfl (by kernel_rfl) (fun _ _ => qF (v := vJ (max bn ((bs.getD (xs.getD i 0).toNat 0) + 1))) rfl) ⟨f.reads, c.pins, s⟩ ?_
 refine yL (by kernel_rfl) (w9c ?_)
 refine qM (vJ (i : Int)) ?_
 refine qD rfl (yH rfl rfl (by omega)) (qM (vJ ((i : Int) + 1)) ?_)
 refine qe (zV (⟨_, ?_, _, rfl, _, i + 1, ch, putL ls (xs.getD i 0), max bn ((bs.getD (xs.getD i 0).toNat 0) + 1), be, (pS 10 (pS 9 (pS 8 (pS 7 (pS 6 (pS 2 (pS 1 (pU 0)))))))), rfl, c, (cB ap ag.le), (by omega), (by rw [hrls, mQ (by omega)]), (cR vQ (by omega)), (by rw [hbbn, tM (by omega)]), (by omega), ((cd.ext ag).below ah), (ci.below ah), ((cf.ext ag).below ah), f, dl⟩))
 omega
 refine cQ (zX (yO (yK (zA (w9b ?_)))))
 refine qM (vJ 0) ?_
 refine qe (zA ?_)
 refine zZ ?_
 obtain ⟨ck, ak, dm, dn, bg⟩ := cf.sealed a1
 refine yR (fun k en W => ∃ (ac : Nat → Value) (a : Nat) (ro : Value) (rs : List Int) (bm : Int) (ab : Pin), en = (upd (upd (upd (upd (upd (upd (upd ac 0 (vP b)) 2 y) 6 (vJ 0)) 7 lo) 8 ro) 9 (vJ bm)) 11 (vJ (a : Int))) ∧ k = ys.length - a ∧ Ext (inS b bu bv) G w ab W ∧ Pin.le ck ab ∧ (a ≤ ys.length) ∧ (rs = sortL (ys.take a)) ∧ (rs.length ≤ a) ∧ (bm = bornOf bs (ys.take a) bn) ∧ (0 ≤ bm ∧ bm ≤ ns.length) ∧ (Own eNode 65 ab W 0 bu (ns)) ∧ (Own eInt 3 ab W 0 bv (bs)) ∧ (Bx ab W b [bu, bv]) ∧ (RSl eInt ab ro (rs))) _ ⟨_, 0, an, [], bn, ck, (pS 11 (pS 9 (pS 8 (pS 7 (pS 6 (pS 2 (pU 0))))))), rfl, dm, cJ _, cI _, rfl, cH 0, rfl, (by omega), (cd.moreO ak bg (zE az b8.lt).symm), (ce.moreO ak bg (zE az b9.lt).symm), (cg.moreO bg (zI az ca.lt).symm), dn⟩ ?_
 rintro ee _ ef ⟨ac, a, ro, rs, bm, ab, rfl, eg, a4, aq, eh, hrrs, holrs, hbbm, hlbm, cl, cm, cn, a5⟩
 refine w9b ?_
 refine qM (vJ (a : Int)) ?_
 refine qM y ?_
 refine qD rfl (zM dE (v := y) rfl hy) (qD rfl (yU rfl rfl) (qe (zA ?_)))
 refine yC (p := ((a : Int) : Int) < (ys.length : Int)) rfl rfl (fun dp => ?_) (fun dp => ?_)
 have hki := hk2 a (by omega)
 have hbk := hok.born (ys.getD a 0).toNat (by omega)
 refine cO (zA (zB ?_))
 refine zZ (w9d ?_)
 refine qM ro ?_
 refine qM y ?_
 refine qM (vJ (a : Int)) ?_
 refine qD rfl (zF dE sz3 (v := y) rfl rfl hy (by omega) (by omega)) (qD rfl (zG (r := ys.getD a 0) rfl ag3 (z := (a : Int)) rfl hy (cC a4.pins (cB (cB (cB af ap) ak) aq)) (by omega) (by omega)) (qI rfl (zL (vs := [ro, vJ (ys.getD a 0)]) Tryz.func98 nm98 rfl rfl rfl ?_)))
 refine cD (jE a4.pins a5 (by omega)) ?_
 rintro _ a6 ⟨co, bh, rfl, dq, al⟩
 refine rt9 ?_
 have bi := a4.tr al
 have cp := cm.ext al
 refine qM co ?_
 refine qe (zA ?_)
 have cq := cp.read
 refine yW (S := fun wz => BxR wz b [bu, bv] ∧ Pins bh wz ∧ Pins (Gadd bh a6 bv) wz) (last := 14) (by kernel_rfl) rfl ?_
 have am := bdr a6
 have d := bi.step (bi.pins.below am) am
 have m := (cn.ext al).below am
 have aa := (cM bi.pins bv).below am
 refine dT (i := 0) rfl rfl (by kernel_rfl) (fun _ _ => zN (v := vJ bm) rfl) ⟨m.reads, d.pins, aa⟩ ?_
 refine dT (i := 1) rfl rfl (by kernel_rfl) (fun _ _ => zN (v := vP b) rfl) ⟨m.reads, d.pins, aa⟩ ?_
 refine dT (i := 2) rfl rfl (by kernel_rfl) (fun _ _ => yY rfl) ⟨m.reads, d.pins, aa⟩ ?_
 refine dT (i := 3) rfl rfl (by kernel_rfl) (fun _ _ => zH (k := 1) rfl dL rfl nz56 rfl) ⟨m.reads, d.pins, aa⟩ ?_
 refine dT (i := 4) rfl rfl (by kernel_rfl) (fun _ hS => zJ (u := bv) ag56 rfl (hS.1 1 _ rfl)) ⟨m.reads, d.pins, aa⟩ ?_
 refine dT (i := 5) rfl rfl (by kernel_rfl) (fun _ _ => zN (v := y) rfl) ⟨m.reads, d.pins, aa⟩ ?_
 refine dT (i := 6) rfl rfl (by kernel_rfl) (fun _ _ => zN (v := vJ (a : Int)) rfl) ⟨m.reads, d.pins, aa⟩ ?_
 refine dT (i := 7) rfl rfl (by kernel_rfl) (fun _ _ => zF dE sz3 (v := y) rfl rfl hy (by omega) (by omega)) ⟨m.reads, d.pins, aa⟩ ?_
 refine dT (i := 8) rfl rfl (by kernel_rfl) (fun _ hS => zG (r := ys.getD a 0) rfl ag3 (z := (a : Int)) rfl hy (cC hS.2.1 (cB (cB (cB (cB af ap) ak) aq) al.le)) (by omega) (by omega)) ⟨m.reads, d.pins, aa⟩ ?_
 refine dT (i := 9) rfl rfl (by kernel_rfl) (fun _ _ => zF dE sz3 (v := bv) rfl rfl cq (by omega) (by omega)) ⟨m.reads, d.pins, aa⟩ ?_
 refine dT (i := 10) rfl rfl (by kernel_rfl) (fun _ hS => zG (r := bs.getD (ys.getD a 0).toNat 0) rfl ag3 (z := ys.getD a 0) rfl cq hS.2.2 (by omega) (by omega)) ⟨m.reads, d.pins, aa⟩ ?_
 refine dT (i := 11) rfl rfl (by kernel_rfl) (fun _ _ => yH rfl rfl (by omega)) ⟨m.reads, d.pins, aa⟩ ?_
 refine dP (i := 12) rfl rfl (zL (vs := [vJ bm, vJ ((bs.getD (ys.getD a 0).toNat 0) + 1)]) Tryz.func104 nm104 rfl rfl rfl ?_)
 refine cD (nX d.pins) ?_
 rintro _ _ ⟨rfl, rfl⟩
 refine rt9 (⟨fun _ => ⟨m.reads, d.pins, aa⟩, ?_⟩)
 refine dT (i := 13) rfl rfl (by kernel_rfl) (fun _ _ => qF (v := vJ (max bm ((bs.getD (ys.getD a 0).toNat 0) + 1))) rfl) ⟨m.reads, d.pins, aa⟩ ?_
 refine yL (by kernel_rfl) (w9c ?_)
 refine qM (vJ (a : Int)) ?_
 refine qD rfl (yH rfl rfl (by omega)) (qM (vJ ((a : Int) + 1)) ?_)
 refine qe (zV (⟨_, ?_, _, rfl, _, a + 1, co, putL rs (ys.getD a 0), max bm ((bs.getD (ys.getD a 0).toNat 0) + 1), bh, (pS 11 (pS 9 (pS 8 (pS 7 (pS 6 (pS 2 (pU 0))))))), rfl, d, (cB aq al.le), (by omega), (by rw [hrrs, mQ (by omega)]), (cR vQ (by omega)), (by rw [hbbm, tM (by omega)]), (by omega), ((cl.ext al).below am), (cp.below am), m, dq⟩))
 omega
 refine cQ (zX (yO (yK (zA (w9b ?_)))))
 rw [kE (by omega)] at hrls hrrs hbbn hbbm
 have e1 : putNd xs ys = ⟨ls, rs⟩ := by unfold putNd; rw [hrls, hrrs]
 have e2 : putBorn bs xs ys = bm := by unfold putBorn; rw [← hbbn, ← hbbm]
 refine qM (vJ 0) ?_
 refine qe (zA ?_)
 refine zZ ?_
 have e0 : True := trivial
 refine yR (fun k en W => ∃ (ac : Nat → Value) (q : Nat), en = (upd (upd (upd (upd (upd ac 0 (vP b)) 7 lo) 8 ro) 9 (vJ bm)) 12 (vJ (q : Int))) ∧ k = ns.length - q ∧ Ext (inS b bu bv) G w ab W ∧ (q ≤ ns.length) ∧ (∀ i, i < q → NotAt ns bs ⟨ls, rs⟩ bm i) ∧ (Own eNode 65 ab W 0 bu (ns)) ∧ (Own eInt 3 ab W 0 bv (bs)) ∧ (Bx ab W b [bu, bv])) _ ⟨_, 0, (pS 12 (pS 9 (pS 8 (pS 7 (pU 0))))), rfl, a4, cI _, (fun i hi => absurd hi (cK i)), cl, cm, cn⟩ ?_
 rintro ej _ ek ⟨ac, q, rfl, el, ad, em, hp, ai, ar, aj⟩
 refine w9b ?_
 refine qM (vJ (q : Int)) ?_
 refine qM (vP b) ?_
 refine qD rfl (yY rfl) (qD rfl (zH (k := 0) rfl dL rfl nz30 rfl) (qD rfl (zJ (u := bu) ag30 rfl (aj.cell (o := 0) rfl)) (qD rfl (zM dF (v := bu) rfl ai.read) (qD rfl (yU rfl rfl) (qe (zA ?_))))))
 refine yC (p := ((q : Int) : Int) < (ns.length : Int)) rfl rfl (fun dr => ?_) (fun dr => ?_)
 refine cO (zA (zB ?_))
 refine zZ (w9d ?_)
 refine qM (vP b) ?_
 refine qD rfl (yY rfl) (qD rfl (zH (k := 1) rfl dL rfl nz56 rfl) (qD rfl (zJ (u := bv) ag56 rfl (aj.cell (o := 1) rfl)) (qM (vJ (q : Int)) ?_)))
 refine qD rfl (zF dE sz3 (v := bv) rfl rfl ar.read (by omega) (by omega)) (qD rfl (zG (r := bs.getD q 0) rfl ag3 (z := (q : Int)) rfl ar.read (cM ad.pins bv) (by omega) (by omega)) (qM (vJ bm) ?_))
 refine qD rfl (xO rfl rfl) (qM (.bool (decide ((bs.getD q 0 : Int) = bm))) ?_)
 refine qbd (p := (bs.getD q 0 : Int) = bm) (t := 83) rfl (fun bl => ?_) (fun bl => ?_)
 refine qN (zN (v := vP b) rfl) ?_
 refine qN (yY rfl) ?_
 refine qN (zH (k := 0) rfl dL rfl nz30 rfl) ?_
 refine qN (zJ (u := bu) ag30 rfl (aj.cell (o := 0) rfl)) ?_
 refine qN (zN (v := vJ (q : Int)) rfl) ?_
 refine qN (zF dF sz65 (v := bu) rfl rfl ai.read (by omega) (by omega)) ?_
 refine qN (xC (off := 0) dG rfl rfl nz56 (z := (q : Int)) (k := 0) rfl ai.read (by omega) (by omega)) ?_
 obtain ⟨ds, cr, dt⟩ := jZ (ai.at (z := (q : Int)) (by omega) (by omega)) (j := q) rfl
 have eo := cr.max
 refine qN (dt ag56 rfl (cM ad.pins bu)) ?_
 refine qN (zN (v := lo) rfl) ?_
 refine q1g rfl rfl rfl rfl rfl rfl (zL (vs := [ds, lo]) Tryz.func78 nm78 rfl rfl rfl ?_)
 refine cD (kR ad.pins cr (a2.mono (cB ak aq))) ?_
 rintro _ ep ⟨rfl, au⟩
 refine rt9 ?_
 have a7 := ad.step au.pins au.below
 have av := ai.below au.below
 have cs := ar.below au.below
 have bo := aj.below au.below
 refine qD rfl (yB (v := .bool (decide (((ns.getD q default).l) = ls))) rfl rfl) (qM (.bool (decide (((ns.getD q default).l) = ls))) ?_)
 refine qbd (p := ((ns.getD q default).l) = ls) (t := 95) rfl (fun bp => ?_) (fun bp => ?_)
 refine qN (zN (v := vP b) rfl) ?_
 refine qN (yY rfl) ?_
 refine qN (zH (k := 0) rfl dL rfl nz30 rfl) ?_
 refine qN (zJ (u := bu) ag30 rfl (bo.cell (o := 0) rfl)) ?_
 refine qN (zN (v := vJ (q : Int)) rfl) ?_
 refine qN (zF dF sz65 (v := bu) rfl rfl av.read (by omega) (by omega)) ?_
 refine qN (xC (off := 1) dG rfl rfl nz56 (z := (q : Int)) (k := 0) rfl av.read (by omega) (by omega)) ?_
 obtain ⟨du, ct, dv⟩ := jY (av.at (z := (q : Int)) (by omega) (by omega)) (j := q) rfl
 have eq := ct.max
 refine qN (dv ag56 rfl (cM a7.pins bu)) ?_
 refine qN (zN (v := ro) rfl) ?_
 refine q1g rfl rfl rfl rfl rfl rfl (zL (vs := [du, ro]) Tryz.func78 nm78 rfl rfl rfl ?_)
 refine cD (kR a7.pins ct a5) ?_
 rintro _ er ⟨rfl, aw⟩
 refine rt9 ?_
 have cu := a7.step aw.pins aw.below
 have cv := av.below aw.below
 have cw := cs.below aw.below
 have cx := bo.below aw.below
 refine qD rfl (yB (v := .bool (decide (((ns.getD q default).r) = rs))) rfl rfl) (qe (zA ?_))
 refine yC (p := ((ns.getD q default).r) = rs) rfl rfl (fun bq => ?_) (fun bq => ?_)
 refine w9d ?_
 refine qM (vJ (q : Int)) ?_
 refine qM (vJ (q : Int)) ?_
 refine qe (zA ?_)
 refine cP (zP (zQ (v := vJ (q : Int)) rfl rfl rfl ?_))
 have hf : findK ns bs (putNd xs ys) (putBorn bs xs ys) = some q := by rw [e1, e2]; exact find_some (by omega) hp ⟨bl, bp, bq⟩
 have eN : putN ns bs xs ys = ns := by unfold putN; rw [hf]
 have eB : putB ns bs xs ys = bs := by unfold putB; rw [hf]
 refine ⟨bu, bv, _, cgA eI (by unfold putK; rw [hf]), ?_, cu, hlou, hlov⟩
 rw [eN, eB]
 exact ⟨cx, cv, cw, habu, habv, hauv⟩
 refine cO (w9c ?_)
 refine qM (vJ (q : Int)) ?_
 refine qD rfl (yH rfl rfl (by omega)) (qM (vJ ((q : Int) + 1)) ?_)
 refine qe (zV (⟨_, ?_, _, rfl, _, q + 1, (pS 12 (pS 9 (pS 8 (pS 7 (pU 0))))), rfl, cu, (by omega), (fun i hi => if h3 : i = q then h3 ▸ (fun g => absurd g.2.2 bq) else hp i (by omega)), cv, cw, cx⟩))
 omega
 refine qW ?_
 refine qW ?_
 refine qW ?_
 refine qW ?_
 refine qW ?_
 refine qW ?_
 refine qW ?_
 refine qW ?_
 refine qW ?_
 refine qW ?_
 refine qD rfl (zU (v := .bool false) rfl rfl) (qe (zA ?_))
 refine xT rfl rfl (cO (w9c ?_))
 refine qM (vJ (q : Int)) ?_
 refine qD rfl (yH rfl rfl (by omega)) (qM (vJ ((q : Int) + 1)) ?_)
 refine qe (zV (⟨_, ?_, _, rfl, _, q + 1, (pS 12 (pS 9 (pS 8 (pS 7 (pU 0))))), rfl, a7, (by omega), (fun i hi => if h3 : i = q then h3 ▸ (fun g => absurd g.2.1 bp) else hp i (by omega)), av, cs, bo⟩))
 omega
 refine qW ?_
 refine qW ?_
 refine qW ?_
 refine qW ?_
 refine qW ?_
 refine qW ?_
 refine qW ?_
 refine qW ?_
 refine qW ?_
 refine qW ?_
 refine qD rfl (zU (v := .bool false) rfl rfl) (qM (.bool false) ?_)
 refine qW ?_
 refine qW ?_
 refine qW ?_
 refine qW ?_
 refine qW ?_
 refine qW ?_
 refine qW ?_
 refine qW ?_
 refine qW ?_
 refine qW ?_
 refine qD rfl (zU (v := .bool false) rfl rfl) (qe (zA ?_))
 refine xT rfl rfl (cO (w9c ?_))
 refine qM (vJ (q : Int)) ?_
 refine qD rfl (yH rfl rfl (by omega)) (qM (vJ ((q : Int) + 1)) ?_)
 refine qe (zV (⟨_, ?_, _, rfl, _, q + 1, (pS 12 (pS 9 (pS 8 (pS 7 (pU 0))))), rfl, ad, (by omega), (fun i hi => if h3 : i = q then h3 ▸ (fun g => absurd g.1 bl) else hp i (by omega)), ai, ar, aj⟩))
 omega
 refine cQ (zX (yO (yK (w9a ?_))))
 refine qM (vP b) ?_
 refine qM (vP b) ?_
 refine qD rfl (yY rfl) (qD rfl (zH (k := 0) rfl dL rfl nz30 rfl) (qD rfl (zJ (u := bu) ag30 rfl (aj.cell (o := 0) rfl)) (qM lo ?_)))
 refine qM ro ?_
 refine qD rfl (yS [vN, vN] [lo, ro] [(0, lo, [lo]), (1, ro, [ro])] dG zr65 rfl pl65 rfl (cN.2 ⟨(xR a2.one), (cN.2 ⟨(xR a5.one), (fun _ h => by cases h)⟩)⟩) rfl) (qI rfl (qP (E := eNode) (e := 65) [lo, ro] (⟨ls, rs⟩ : Nd) dF sz65 zr65 ⟨_, _, rfl, (a2.mono (cB ak aq)), a5⟩ rfl (by decide) ad.pins (fun cy dw dx dy a8 es => ?_)))
 have br := ad.step dy a8
 have cz := ar.below a8
 have c0 := aj.below a8
 have dz := dx.weaken ad.size
 refine qI rfl (oA (E := eNode) (v := bu) (u := cy) 48 dF ap65 (by decide) rfl rfl br.pins (ai.below a8) dz.src (cI _) (fun ae et bt d0 bw bz => ?_))
 have c1 := br.write d0 bw (hlou)
 have c2 := zD hauv.symm bz cz.lt
 have b0 := zK habu bz c0.lt
 have d1 : Lo w (inS b bu bv) ae.ownBlock := nA hlou bz br.size
 have eu := la1 ns (⟨ls, rs⟩ : Nd)
 refine qD rfl (yY rfl) (qD rfl (zH (k := 0) rfl dL rfl nz30 rfl) (q0 rfl rfl rfl (o_stp (cs' := [ae, bv]) (us := [ae]) (v := ae) sz30 rfl rfl (qR bt.one) (yZ bt.one) c1.pins (c0.keptA bw habu) (cE rfl) rfl (fun ev c3 d2 b1 ew => ?_))))
 have b2 := c1.write d2 b1 (hlob)
 refine qe (w9a ?_)
 refine qM (vP b) ?_
 refine qM (vP b) ?_
 refine qD rfl (yY rfl) (qD rfl (zH (k := 1) rfl dL rfl nz56 rfl) (qD rfl (zJ (u := bv) ag56 rfl (c3.cell (o := 1) rfl)) (qM (vJ bm) ?_)))
 refine qI rfl (yV (E := eInt) (e := 3) [vJ bm] [bm] dE sz3 zr3 (by exact xP (by rfl)) (yZ (by rfl)) rfl rfl rfl rfl (by decide) b2.pins (fun c4 d3 d4 d5 a9 ex => ?_))
 have b3 := b2.step d5 a9
 have c5 := (bt.keptA b1 b0.symm).below a9
 have c6 := c3.below a9
 have d6 := d4.weaken b2.size
 refine qI rfl (oA (E := eInt) (v := bv) (u := c4) 8 dE ap3 (by decide) rfl rfl b3.pins (((cz.keptA bw hauv.symm).keptA b1 habv.symm).below a9) d6.src (cI _) (fun ax ey b4 d7 b5 b6 => ?_))
 have c7 := b3.write d7 b5 (hlov)
 have c8 := zK habv b6 c6.lt
 have d8 : Lo w (inS b bu bv) ax.ownBlock := nA hlov b6 b3.size
 have ez := la1 bs bm
 refine qD rfl (yY rfl) (qD rfl (zH (k := 1) rfl dL rfl nz56 rfl) (q0 rfl rfl rfl (o_stp (cs' := [ae, ax]) (us := [ax]) (v := ax) sz56 rfl rfl (qR b4.one) (yZ b4.one) c7.pins (c6.keptA b5 habv) (cE rfl) rfl (fun e3 c9 d9 b7 e4 => ?_))))
 have ea := c7.write d9 b7 (hlob)
 have da := (c5.keptA b5 c2.symm).keptA b7 b0.symm
 refine qe (w9a ?_)
 refine qM (vP b) ?_
 refine qD rfl (yY rfl) (qD rfl (zH (k := 0) rfl dL rfl nz30 rfl) (qD rfl (zJ (u := ae) ag30 rfl (c9.cell (o := 0) rfl)) (qD rfl (zM dF (v := ae) rfl da.read) (qD rfl (xY rfl rfl (by omega)) (qM (vJ (((ns ++ ([(⟨ls, rs⟩ : Nd)])).length : Int) - 1)) ?_)))))
 refine qe (zA ?_)
 refine cP (zP (zQ (v := vJ (((ns ++ ([(⟨ls, rs⟩ : Nd)])).length : Int) - 1)) rfl rfl rfl ?_))
 have hf : findK ns bs (putNd xs ys) (putBorn bs xs ys) = none := by rw [e1, e2]; exact find_none (by omega) hp
 have eN : putN ns bs xs ys = ns ++ [⟨ls, rs⟩] := by unfold putN; rw [hf, e1]
 have eB : putB ns bs xs ys = bs ++ [bm] := by unfold putB; rw [hf, e2]
 refine ⟨ae, ax, _, cgA eI (by unfold putK; rw [hf]; simp), ?_, ea, d1, d8⟩
 rw [eN, eB]
 exact ⟨c9, da, (b4.keptA b7 c8.symm), b0, c8, (zD c2.symm b6 c5.lt)⟩
end D1
end Go.Proofs.YtakkjmlnmcemaaaGreatDoor
