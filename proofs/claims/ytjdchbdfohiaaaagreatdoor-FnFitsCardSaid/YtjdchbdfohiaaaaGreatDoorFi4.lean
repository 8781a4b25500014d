/- Texts of this claim in one file: Dyad, Val, OrdS, Fit, Star, Valp, Eqd, Betw, Canle, Neqd, Tiny, LitA, Draw, Win, Laws, Three, Fits, Isc, Can6, Late, All, Shelf, B1, C1, D1. -/
import Derived.Test.YtjdchbdfohiaaaaGreatDoorFi3
import Derived.Shelf.Sort.Plain
import Derived.Ground.Names2Prog
import Derived.Shelf.Slices.CompactI
import Derived.Shelf.Slices.In.SortNone
import Derived.Test.YtjdchbdfohiaaaaGreatDoorProg
import Derived.Test.YtjdchbdfohiaaaaGreatDoorChecked
namespace Go.GL
open Go Go.RowKit
theorem kT (p : Nat) (t : Int) : dyG (p + 1) (2 * t) = dyG p t := by
 rw [qV (by omega), show 2 * t / 2 = t by omega]
theorem gD : ∀ (k p : Nat) (t : Int), dyG (p + k) (t * 2 ^ k) = dyG p t
 | 0, p, t => by simp
 | k + 1, p, t => by
  rw [show t * 2 ^ (k + 1) = 2 * (t * 2 ^ k) by rw [Int.pow_succ]; rw [← Int.mul_assoc, Int.mul_comm]]
  rw [← Nat.add_assoc, kT]
  exact gD k p t
variable {t : Int} {l p g : Nat}
theorem int_lo (h : loG (intG t) l) : 0 < t ∧ l = intG (t - 1) := by
 rcases Int.lt_trichotomy t 0 with h1 | h1 | h1
 ·rw [gB h1, lo_mk] at h; cases h
 ·rw [h1, int_zero, lo_mk] at h; cases h
 ·rw [gA h1, lo_mk, List.mem_singleton] at h; exact ⟨h1, h⟩
theorem int_ro (h : roG (intG t) l) : t < 0 ∧ l = intG (t + 1) := by
 rcases Int.lt_trichotomy t 0 with h1 | h1 | h1
 ·rw [gB h1, ro_mk, List.mem_singleton] at h; exact ⟨h1, h⟩
 ·rw [h1, int_zero, ro_mk] at h; cases h
 ·rw [gA h1, ro_mk] at h; cases h
theorem dy_lo : ∀ (p : Nat) (t : Int) {l : Nat}, loG (dyG p t) l → ∃ s, s < t ∧ l = dyG p s
 | 0, t, l, h => ⟨t - 1, by omega, (int_lo h).2⟩
 | p + 1, t, l, h => by
  by_cases e : t % 2 = 0
  ·rw [qV e] at h
   obtain ⟨s, h1, rfl⟩ := dy_lo p _ h
   exact ⟨2 * s, by omega, (kT p s).symm⟩
  ·rw [vS e, lo_mk, List.mem_singleton] at h
   exact ⟨t - 1, by omega, by rw [qV (by omega)]; exact h⟩
theorem dy_ro : ∀ (p : Nat) (t : Int) {l : Nat}, roG (dyG p t) l → ∃ s, t < s ∧ l = dyG p s
 | 0, t, l, h => ⟨t + 1, by omega, (int_ro h).2⟩
 | p + 1, t, l, h => by
  by_cases e : t % 2 = 0
  ·rw [qV e] at h
   obtain ⟨s, h1, rfl⟩ := dy_ro p _ h
   exact ⟨2 * s, by omega, (kT p s).symm⟩
  ·rw [vS e, ro_mk, List.mem_singleton] at h
   exact ⟨t + 1, by omega, by rw [qV (by omega)]; exact h⟩
theorem dy_gap : ∀ (p : Nat) (t s : Int), t < s → (∃ r, roG (dyG p t) (dyG p r) ∧ r ≤ s) ∨ ∃ l, loG (dyG p s) (dyG p l) ∧ t ≤ l
 | 0, t, s, h => by
  by_cases h1 : 0 < s
  ·exact Or.inr ⟨s - 1, by show loG (intG s) (intG (s - 1)); rw [gA h1]; exact lo_mk.2 (List.mem_singleton_self _), by omega⟩
  ·exact Or.inl ⟨t + 1, by show roG (intG t) (intG (t + 1)); rw [gB (show t < 0 by omega)]; exact ro_mk.2 (List.mem_singleton_self _), by omega⟩
 | p + 1, t, s, h => by
  by_cases e : t % 2 = 0
  ·by_cases e2 : s % 2 = 0
   ·rcases dy_gap p (t / 2) (s / 2) (by omega) with ⟨r, h1, h2⟩ | ⟨l, h1, h2⟩
    ·exact Or.inl ⟨2 * r, by rw [qV e, kT]; exact h1, by omega⟩
    ·exact Or.inr ⟨2 * l, by rw [qV e2, kT]; exact h1, by omega⟩
   ·exact Or.inr ⟨s - 1, by rw [vS e2, qV (show (s - 1) % 2 = 0 by omega)]; exact lo_mk.2 (List.mem_singleton_self _), by omega⟩
  ·exact Or.inl ⟨t + 1, by rw [vS e, qV (show (t + 1) % 2 = 0 by omega)]; exact ro_mk.2 (List.mem_singleton_self _), by omega⟩
theorem mP (p : Nat) : ∀ (n : Nat) (t s : Int), dyG p t + dyG p s < n → (geG (dyG p t) (dyG p s) ↔ s ≤ t)
 | 0, t, s, h => absurd h (Nat.not_lt_zero _)
 | n + 1, t, s, h => by
  constructor
  ·intro hg
   refine Int.not_lt.1 fun hl => ?_
   rcases dy_gap p t s hl with ⟨r, h1, h2⟩ | ⟨l, h1, h2⟩
   ·exact (ge_iff.1 hg).1 _ h1 ((mP p n s r (by have := h1.lt; omega)).2 h2)
   ·exact (ge_iff.1 hg).2 _ h1 ((mP p n l t (by have := h1.lt; omega)).2 h2)
  ·intro hs
   refine ge_iff.2 ⟨fun r hr hg => ?_, fun l hl hg => ?_⟩
   ·obtain ⟨u, h1, rfl⟩ := dy_ro p t hr
    have := (mP p n s u (by have := hr.lt; omega)).1 hg; omega
   ·obtain ⟨u, h1, rfl⟩ := dy_lo p s hl
    have := (mP p n u t (by have := hl.lt; omega)).1 hg; omega
theorem dy_ge {s : Int} : geG (dyG p t) (dyG p s) ↔ s ≤ t := mP p _ t s (Nat.lt_succ_self _)
theorem eM {s : Int} (h : dyG p t = dyG p s) : t = s := by
 have h1 : geG (dyG p t) (dyG p s) := by rw [h]; exact jV _
 have h2 : geG (dyG p s) (dyG p t) := by rw [h]; exact jV _
 have := dy_ge.1 h1; have := dy_ge.1 h2; omega
theorem even_pow (t : Int) (k : Nat) : (t * 2 ^ (k + 1)) % 2 = 0 := by
 rw [Int.pow_succ, ← Int.mul_assoc]; omega
theorem dy_red {q : Nat} {s : Int} (h1 : p = 0 ∨ t % 2 ≠ 0) (h2 : q = 0 ∨ s % 2 ≠ 0) (e : dyG p t = dyG q s) : p = q ∧ t = s := by
 rcases Nat.lt_trichotomy p q with h | h | h
 ·obtain ⟨k, rfl⟩ : ∃ k, q = p + (k + 1) := ⟨q - p - 1, by omega⟩
  rw [← gD (k + 1) p t] at e
  have := eM e
  have := even_pow t k
  exact absurd (by rw [← eM e]; exact this) (h2.resolve_left (by omega))
 ·subst h; exact ⟨rfl, eM e⟩
 ·obtain ⟨k, rfl⟩ : ∃ k, p = q + (k + 1) := ⟨p - q - 1, by omega⟩
  rw [← gD (k + 1) q s] at e
  have := even_pow s k
  exact absurd (by rw [eM e]; exact this) (h1.resolve_left (by omega))
def NumD (g : Nat) : Prop := ∃ (p : Nat) (t : Int), (p = 0 ∨ t % 2 ≠ 0) ∧ g = dyG p t
theorem kF (p : Nat) (t : Int) : NumD (dyG p t) := ⟨_, _, (vK p t).2, (rD p t).symm⟩
theorem num_two {a b : Nat} (h : NumD a) (k : NumD b) : ∃ (p : Nat) (s t : Int), a = dyG p s ∧ b = dyG p t := by
 obtain ⟨p, s, _, rfl⟩ := h
 obtain ⟨q, t, _, rfl⟩ := k
 exact ⟨p + q, s * 2 ^ q, t * 2 ^ p, (gD q p s).symm, by rw [Nat.add_comm]; exact (gD p q t).symm⟩
theorem NumD.left {g l : Nat} (h : NumD g) (hl : loG g l) : NumD l ∧ geG g l := by
 obtain ⟨p, t, _, rfl⟩ := h
 obtain ⟨s, h1, rfl⟩ := dy_lo p t hl
 exact ⟨kF p s, dy_ge.2 (by omega)⟩
theorem NumD.right {g l : Nat} (h : NumD g) (hl : roG g l) : NumD l ∧ geG l g := by
 obtain ⟨p, t, _, rfl⟩ := h
 obtain ⟨s, h1, rfl⟩ := dy_ro p t hl
 exact ⟨kF p s, dy_ge.2 (by omega)⟩
theorem dy_revL : ∀ (p : Nat) (t : Int) {l r : Nat}, loG (dyG p t) l → roG l r → ∃ u, t < u ∧ r = dyG p u
 | 0, t, l, r, h, k => by
  obtain ⟨h1, rfl⟩ := int_lo h
  have := (int_ro k).1; omega
 | p + 1, t, l, r, h, k => by
  by_cases e : t % 2 = 0
  ·rw [qV e] at h
   obtain ⟨u, h1, rfl⟩ := dy_revL p _ h k
   exact ⟨2 * u, by omega, (kT p u).symm⟩
  ·rw [vS e, lo_mk, List.mem_singleton] at h
   subst h
   obtain ⟨u, h1, rfl⟩ := dy_ro p _ k
   exact ⟨2 * u, by omega, (kT p u).symm⟩
theorem dy_revR : ∀ (p : Nat) (t : Int) {l r : Nat}, roG (dyG p t) r → loG r l → ∃ u, u < t ∧ l = dyG p u
 | 0, t, l, r, h, k => by
  obtain ⟨h1, rfl⟩ := int_ro h
  have := (int_lo k).1; omega
 | p + 1, t, l, r, h, k => by
  by_cases e : t % 2 = 0
  ·rw [qV e] at h
   obtain ⟨u, h1, rfl⟩ := dy_revR p _ h k
   exact ⟨2 * u, by omega, (kT p u).symm⟩
  ·rw [vS e, ro_mk, List.mem_singleton] at h
   subst h
   obtain ⟨u, h1, rfl⟩ := dy_lo p _ k
   exact ⟨2 * u, by omega, (kT p u).symm⟩
theorem rH (p : Nat) : ∀ (n : Nat) (t : Int), dyG p t < n → CanonG (dyG p t)
 | 0, t, h => absurd h (Nat.not_lt_zero _)
 | n + 1, t, h => by
  have ho := fZ p t _ .self
  refine canon_iff.2 ⟨⟨fun a b ha hb _ => ho.1 a b ha hb, fun a b ha hb _ => ho.2 a b ha hb⟩, ⟨fun l r hl hr hg => ?_, fun r l hr hl hg => ?_⟩, fun l hl => ?_, fun r hr => ?_⟩
  ·obtain ⟨u, h1, rfl⟩ := dy_revL p t hl hr
   have := dy_ge.1 hg; omega
  ·obtain ⟨u, h1, rfl⟩ := dy_revR p t hr hl
   have := dy_ge.1 hg; omega
  ·obtain ⟨s, _, rfl⟩ := dy_lo p t hl
   exact rH p n s (by have := hl.lt; omega)
  ·obtain ⟨s, _, rfl⟩ := dy_ro p t hr
   exact rH p n s (by have := hr.lt; omega)
theorem num_canon (h : NumD g) : CanonG g := by
 obtain ⟨p, t, _, rfl⟩ := h
 exact rH p _ t (Nat.lt_succ_self _)
theorem num_one (h : NumD g) : OneG g := by
 obtain ⟨p, t, _, rfl⟩ := h
 exact fZ p t _ .self
theorem least {P : Nat → Prop} : ∀ (n x : Nat), x < n → P x → ∃ y, P y ∧ ∀ z, z < y → ¬ P z
 | 0, x, h, _ => absurd h (Nat.not_lt_zero _)
 | n + 1, x, h, hx => by
  by_cases hz : ∃ z, z < x ∧ P z
  ·obtain ⟨z, h1, h2⟩ := hz
   exact least n z (by omega) h2
  ·exact ⟨x, hx, fun z h1 h2 => hz ⟨z, h1, h2⟩⟩
def Btw (g x : Nat) : Prop := NumD x ∧ (∀ l, loG g l → ¬ geG l x) ∧ ∀ r, roG g r → ¬ geG x r
theorem btw_eq {x : Nat} (h : Btw g x) (hm : ∀ z, z < x → ¬ Btw g z) : eqG g x := by
 obtain ⟨h1, h2, h3⟩ := h
 have key : ∀ y, y < x → NumD y → (∃ l, loG g l ∧ geG l y) ∨ ∃ r, roG g r ∧ geG y r := fun y hy hn => by
  by_cases a : ∃ l, loG g l ∧ geG l y
  ·exact Or.inl a
  ·by_cases b : ∃ r, roG g r ∧ geG y r
   ·exact Or.inr b
   ·exact absurd ⟨hn, fun l hl hg => a ⟨l, hl, hg⟩, fun r hr hg => b ⟨r, hr, hg⟩⟩ (hm y hy)
 refine ⟨ge_iff.2 ⟨h3, fun y hy hg => ?_⟩, ge_iff.2 ⟨fun y hy hg => ?_, h2⟩⟩
 ·obtain ⟨n1, n2⟩ := h1.left hy
  rcases key y hy.lt n1 with ⟨l, a, b⟩ | ⟨r, a, b⟩
  ·exact vC a (xL b hg)
  ·exact h3 r a (xL n2 b)
 ·obtain ⟨n1, n2⟩ := h1.right hy
  rcases key y hy.lt n1 with ⟨l, a, b⟩ | ⟨r, a, b⟩
  ·exact h2 l a (xL b n2)
  ·exact vI a (xL hg b)
theorem num_of (hc : CanonG g) (ho : OneG g) (hl : ∀ l, loG g l → NumD l) (hr : ∀ r, roG g r → NumD r) (hlr : ∀ l r, loG g l → roG g r → ¬ geG l r) : NumD g := by
 have hx : ∃ x, Btw g x := by
  by_cases a : ∃ l, loG g l
  ·obtain ⟨l, a⟩ := a
   by_cases b : ∃ r, roG g r
   ·obtain ⟨r, b⟩ := b
    obtain ⟨p, s, t, e1, e2⟩ := num_two (hl l a) (hr r b)
    have hst : s < t := Int.not_le.1 fun h => hlr l r a b (by rw [e1, e2]; exact dy_ge.2 h)
    refine ⟨dyG (p + 1) (s + t), kF _ _, fun l' a' hg => ?_, fun r' b' hg => ?_⟩
    ·rw [ho.1 l' l a' a, e1, ← kT] at hg
     have := dy_ge.1 hg; omega
    ·rw [ho.2 r' r b' b, e2, ← kT p t] at hg
     have := dy_ge.1 hg; omega
   ·obtain ⟨p, t, _, e⟩ := hl l a
    refine ⟨dyG p (t + 1), kF _ _, fun l' a' hg => ?_, fun r' b' => absurd ⟨r', b'⟩ b⟩
    rw [ho.1 l' l a' a, e] at hg
    have := dy_ge.1 hg; omega
  ·by_cases b : ∃ r, roG g r
   ·obtain ⟨r, b⟩ := b
    obtain ⟨p, t, _, e⟩ := hr r b
    refine ⟨dyG p (t - 1), kF _ _, fun l' a' => absurd ⟨l', a'⟩ a, fun r' b' hg => ?_⟩
    rw [ho.2 r' r b' b, e] at hg
    have := dy_ge.1 hg; omega
   ·exact ⟨dyG 0 0, kF _ _, fun l' a' => absurd ⟨l', a'⟩ a, fun r' b' => absurd ⟨r', b'⟩ b⟩
 obtain ⟨x, hx⟩ := hx
 obtain ⟨y, h1, h2⟩ := least (P := Btw g) (x + 1) x (Nat.lt_succ_self _) hx
 have he := kI hc (num_canon h1.1) (btw_eq h1 h2)
 rw [he]; exact h1.1
theorem num_less {r : Nat} (h : NumD g) (hl : loG g l) (hr : roG g r) : ¬ geG l r := fun hg => vC hl (xL hg (h.right hr).2)
theorem num_iff (hc : CanonG g) : NumD g ↔ OneG g ∧ (∀ l, loG g l → NumD l) ∧ (∀ r, roG g r → NumD r) ∧ ∀ l r, loG g l → roG g r → ¬ geG l r :=
 ⟨fun h => ⟨num_one h, fun _ hl => (h.left hl).1, fun _ hr => (h.right hr).1, fun _ _ hl hr => num_less h hl hr⟩, fun h => num_of hc h.1 h.2.1 h.2.2.1 h.2.2.2⟩
end Go.GL
namespace Go.GL
open Go Go.RowKit
variable {t : Int} {p g a b : Nat} {l r : List Nat} {fs : List Nd}
theorem GoodD.red (h : GoodD t (p : Int)) : p = 0 ∨ t % 2 ≠ 0 := h.odd.elim (fun e => Or.inl (by omega)) fun e => Or.inr fun x => e ((gN t).2 x)
noncomputable def vgB (g : Nat) : Bool := decP (∃ d : Nat × Int, GoodD d.2 (d.1 : Int) ∧ g = dyG d.1 d.2)
noncomputable def vgD (g : Nat) : Nat × Int := @dite _ (∃ d : Nat × Int, GoodD d.2 (d.1 : Int) ∧ g = dyG d.1 d.2) (Classical.propDecidable _) (fun h => Classical.choose h) (fun _ => (0, 0))
noncomputable def vgT (g : Nat) : Int := (vgD g).2
noncomputable def vgP (g : Nat) : Int := ((vgD g).1 : Int)
theorem pZ (h : GoodD t (p : Int)) : vgB (dyG p t) = true ∧ vgT (dyG p t) = t ∧ vgP (dyG p t) = (p : Int) := by
 have hx : ∃ d : Nat × Int, GoodD d.2 (d.1 : Int) ∧ dyG p t = dyG d.1 d.2 := ⟨(p, t), h, rfl⟩
 have e : vgD (dyG p t) = (p, t) := by
  unfold vgD
  rw [dif_pos hx]
  obtain ⟨h1, h2⟩ := Classical.choose_spec hx
  obtain ⟨e1, e2⟩ := dy_red h1.red h.red h2.symm
  exact Prod.ext e1 e2
 unfold vgT vgP
 rw [e]
 exact ⟨decP_true.2 hx, rfl, rfl⟩
theorem sA (h : vgB g = false) : vgT g = 0 ∧ vgP g = 0 := by
 have hx : ¬ ∃ d : Nat × Int, GoodD d.2 (d.1 : Int) ∧ g = dyG d.1 d.2 := decP_false.1 h
 have e : vgD g = (0, 0) := by unfold vgD; rw [dif_neg hx]
 unfold vgT vgP
 rw [e]
 exact ⟨rfl, rfl⟩
theorem pM (h : vgB g = true) : ∃ (p : Nat) (t : Int), GoodD t (p : Int) ∧ g = dyG p t ∧ vgT g = t ∧ vgP g = (p : Int) := by
 obtain ⟨⟨p, t⟩, h1, h2⟩ := decP_true.1 h
 have h3 := pZ h1
 exact ⟨p, t, h1, h2, by rw [h2]; exact h3.2.1, by rw [h2]; exact h3.2.2⟩
theorem vg_num (h : vgB g = true) : NumD g := by
 obtain ⟨p, t, _, e, _⟩ := pM h
 rw [e]; exact kF p t
theorem vg_not (h : ¬ NumD g) : vgB g = false := by
 cases hb : vgB g with
 | false => rfl
 | true => exact absurd (vg_num hb) h
theorem fV (hr : p = 0 ∨ t % 2 ≠ 0) : vgB (dyG p t) = decP (GoodD t (p : Int)) := tC ⟨fun ⟨d, h1, h2⟩ => by
  obtain ⟨e1, e2⟩ := dy_red hr h1.red h2
  rw [e1, e2]; exact h1, fun h => ⟨(p, t), h, rfl⟩⟩
theorem vg_low (hr : p = 0 ∨ t % 2 ≠ 0) : vgT (dyG p t) = lowR (decP (GoodD t (p : Int))) t ∧ vgP (dyG p t) = lowR (decP (GoodD t (p : Int))) (p : Int) := by
 unfold lowR
 split
 ·rename_i h
  exact (pZ (decP_true.1 h)).2
 ·rename_i h
  have h2 : decP (GoodD t (p : Int)) = false := by simpa using h
  exact sA ((fV hr).trans h2)
theorem mk_l (h : mkG [a] l = mkG [b] r) : a = b := by
 have : loG (mkG [b] r) a := h ▸ lo_mk.2 (List.mem_singleton_self _)
 exact List.mem_singleton.1 (lo_mk.1 this)
theorem mk_r (h : mkG l [a] = mkG r [b]) : a = b := by
 have : roG (mkG r [b]) a := h ▸ ro_mk.2 (List.mem_singleton_self _)
 exact List.mem_singleton.1 (ro_mk.1 this)
theorem mk_ln (h : mkG [a] l = mkG [] r) : False := by
 have : loG (mkG [] r) a := h ▸ lo_mk.2 (List.mem_singleton_self _)
 cases lo_mk.1 this
theorem mk_rn (h : mkG l [a] = mkG r []) : False := by
 have : roG (mkG r []) a := h ▸ ro_mk.2 (List.mem_singleton_self _)
 cases ro_mk.1 this
theorem mQ (p : Nat) (t : Int) (hr : p = 0 ∨ t % 2 ≠ 0) : (p = 0 ∧ t = 0 ∧ dyG p t = mkG [] []) ∨ (p = 0 ∧ 0 < t ∧ dyG p t = mkG [dyG 0 (t - 1)] []) ∨ (p = 0 ∧ t < 0 ∧ dyG p t = mkG [] [dyG 0 (t + 1)]) ∨ ∃ k, p = k + 1 ∧ t % 2 ≠ 0 ∧ dyG p t = mkG [dyG k ((t - 1) / 2)] [dyG k ((t + 1) / 2)] := by
 cases p with
 | zero =>
  rcases Int.lt_trichotomy t 0 with h1 | h1 | h1
  ·exact Or.inr (Or.inr (Or.inl ⟨rfl, h1, gB h1⟩))
  ·subst h1; exact Or.inl ⟨rfl, rfl, rfl⟩
  ·exact Or.inr (Or.inl ⟨rfl, h1, gA h1⟩)
 | succ k =>
  have h1 := hr.resolve_left (by omega)
  exact Or.inr (Or.inr (Or.inr ⟨k, rfl, h1, vS h1⟩))
theorem num_l (h : NumD (mkG [a] [])) : ∃ t : Int, 0 < t ∧ mkG [a] [] = dyG 0 t ∧ a = dyG 0 (t - 1) := by
 obtain ⟨p, t, hr, e⟩ := h
 rcases mQ p t hr with ⟨_, _, e2⟩ | ⟨rfl, h1, e2⟩ | ⟨_, _, e2⟩ | ⟨k, _, _, e2⟩
 ·exact (mk_ln (e.trans e2)).elim
 ·exact ⟨t, h1, e, mk_l (e.trans e2)⟩
 ·exact (mk_ln (e.trans e2)).elim
 ·exact (mk_rn (e.trans e2).symm).elim
theorem num_r (h : NumD (mkG [] [a])) : ∃ t : Int, t < 0 ∧ mkG [] [a] = dyG 0 t ∧ a = dyG 0 (t + 1) := by
 obtain ⟨p, t, hr, e⟩ := h
 rcases mQ p t hr with ⟨_, _, e2⟩ | ⟨_, _, e2⟩ | ⟨rfl, h1, e2⟩ | ⟨k, _, _, e2⟩
 ·exact (mk_rn (e.trans e2)).elim
 ·exact (mk_rn (e.trans e2)).elim
 ·exact ⟨t, h1, e, mk_r (e.trans e2)⟩
 ·exact (mk_ln (e.trans e2).symm).elim
theorem num_lr (h : NumD (mkG [a] [b])) : ∃ (p : Nat) (t : Int), t % 2 ≠ 0 ∧ mkG [a] [b] = dyG (p + 1) t ∧ a = dyG p ((t - 1) / 2) ∧ b = dyG p ((t + 1) / 2) := by
 obtain ⟨p, t, hr, e⟩ := h
 rcases mQ p t hr with ⟨_, _, e2⟩ | ⟨_, _, e2⟩ | ⟨_, _, e2⟩ | ⟨k, rfl, h1, e2⟩
 ·exact (mk_ln (e.trans e2)).elim
 ·exact (mk_rn (e.trans e2)).elim
 ·exact (mk_ln (e.trans e2)).elim
 ·exact ⟨k, t, h1, e, mk_l (e.trans e2), mk_r (e.trans e2)⟩
theorem v_nil : vgB (mkG [] []) = true ∧ vgT (mkG [] []) = 0 ∧ vgP (mkG [] []) = 0 := pZ (p := 0) (t := 0) ⟨by decide, by decide, Or.inl rfl⟩
theorem v_int (e : a = dyG 0 t) (h : vgB a = true) : vgP a = 0 ∧ vgT a = t ∧ GoodD t 0 := by
 rw [e, fV (Or.inl rfl)] at h
 have hg := decP_true.1 h
 have := pZ hg
 rw [e]
 exact ⟨this.2.2, this.2.1, hg⟩
theorem v_int_no (e : a = dyG 0 t) (h : vgB a = false) : ¬ GoodD t 0 := by
 rw [e, fV (Or.inl rfl)] at h
 exact decP_false.1 h
theorem vl_yes (h : NumD (mkG [a] [])) (ha : vgB a = true) : vgP a = 0 ∧ GoodD (vgT a) 0 ∧ mkG [a] [] = dyG 0 (vgT a + 1) := by
 obtain ⟨t, h1, h2, h3⟩ := num_l h
 obtain ⟨e1, e2, e3⟩ := v_int h3 ha
 rw [e2]
 exact ⟨e1, e3, by rw [h2, show t - 1 + 1 = t by omega]⟩
theorem vl_no (h : NumD (mkG [a] [])) (ha : vgB a = false) : vgB (mkG [a] []) = false := by
 obtain ⟨t, h1, h2, h3⟩ := num_l h
 have := v_int_no h3 ha
 rw [h2, fV (Or.inl rfl)]
 exact decP_false.2 fun g => this ⟨by have := g.top; omega, by decide, Or.inl rfl⟩
theorem vr_yes (h : NumD (mkG [] [a])) (ha : vgB a = true) : vgP a = 0 ∧ GoodD (vgT a) 0 ∧ mkG [] [a] = dyG 0 (vgT a - 1) := by
 obtain ⟨t, h1, h2, h3⟩ := num_r h
 obtain ⟨e1, e2, e3⟩ := v_int h3 ha
 rw [e2]
 exact ⟨e1, e3, by rw [h2, show t + 1 - 1 = t by omega]⟩
theorem vr_no (h : NumD (mkG [] [a])) (ha : vgB a = false) : vgB (mkG [] [a]) = false := by
 obtain ⟨t, h1, h2, h3⟩ := num_r h
 have := v_int_no h3 ha
 rw [h2, fV (Or.inl rfl)]
 exact decP_false.2 fun g => this ⟨by have := g.top; omega, by decide, Or.inl rfl⟩
noncomputable def scD (D : Nat) (g : Nat) : Int := vgT g * 2 ^ (D - (vgP g).toNat)
theorem sc_eq {D : Nat} (e : g = dyG p t) (hp : p ≤ D) (hD : 16 ≤ D) (hg : vgB g = true) : scD D g = t * 2 ^ (D - p) := by
 obtain ⟨r, s, h1, h2, h3, h4⟩ := pM hg
 have hr := h1.pow.2
 unfold scD
 rw [h3, h4, Int.toNat_natCast]
 have a1 := gD (D - r) r s
 have a2 := gD (D - p) p t
 rw [show r + (D - r) = D by omega] at a1
 rw [show p + (D - p) = D by omega] at a2
 exact eM (a1.trans ((h2.symm.trans e).trans a2.symm))
theorem vg_pow (hr : p = 0 ∨ t % 2 ≠ 0) (h : vgB (dyG p t) = true) : p ≤ 16 ∧ GoodD t (p : Int) := by
 rw [fV hr] at h
 have hg := decP_true.1 h
 exact ⟨by have := hg.pow; omega, hg⟩
theorem vb_yes (h : NumD (mkG [a] [b])) (ha : vgB a = true) (hb : vgB b = true) : ∃ (p : Nat) (u : Int), p ≤ 16 ∧ mkG [a] [b] = dyG (p + 1) (2 * u + 1) ∧ ∀ D, 16 ≤ D → scD D a = u * 2 ^ (D - p) ∧ scD D b = (u + 1) * 2 ^ (D - p) := by
 obtain ⟨p, t, h1, h2, h3, h4⟩ := num_lr h
 have hp : p ≤ 16 := by
  by_cases h0 : p = 0
  ·omega
  by_cases he : ((t - 1) / 2) % 2 = 0
  ·exact (vg_pow (p := p) (t := (t + 1) / 2) (Or.inr (by omega)) (h4 ▸ hb)).1
  ·exact (vg_pow (p := p) (t := (t - 1) / 2) (Or.inr he) (h3 ▸ ha)).1
 refine ⟨p, (t - 1) / 2, hp, by rw [h2]; congr 1; omega, fun D hD => ⟨sc_eq h3 (by omega) hD ha, ?_⟩⟩
 rw [sc_eq h4 (by omega) hD hb, show (t + 1) / 2 = (t - 1) / 2 + 1 by omega]
theorem vg_half {s : Int} (hs : s.natAbs ≤ 1000000) (hp : p ≤ 16) : vgB (dyG p s) = true := by
 rw [← rD p s, fV (vK p s).2]
 have h1 := vK p s
 have h2 := mA p s
 exact decP_true.2 ⟨by omega, by omega, h1.2.elim (fun e => Or.inl (by omega)) fun e => Or.inr fun x => e ((gN _).1 x)⟩
theorem vb_no (h : NumD (mkG [a] [b])) (hab : vgB a = false ∨ vgB b = false) : vgB (mkG [a] [b]) = false := by
 obtain ⟨p, t, h1, h2, h3, h4⟩ := num_lr h
 rw [h2, fV (Or.inr h1)]
 refine decP_false.2 fun g => ?_
 have g1 := g.top
 have g2 := g.pow
 rcases hab with e | e
 ·rw [h3, vg_half (by omega) (by omega)] at e; cases e
 ·rw [h4, vg_half (by omega) (by omega)] at e; cases e
noncomputable def canN (g : Nat) : Nat := @dite _ (∃ c, CanonG c ∧ eqG c g) (Classical.propDecidable _) (fun h => Classical.choose h) (fun _ => 0)
theorem can_eq {c : Nat} (h1 : CanonG c) (h2 : eqG c g) : canN g = c := by
 have hx : ∃ c, CanonG c ∧ eqG c g := ⟨c, h1, h2⟩
 unfold canN
 rw [dif_pos hx]
 obtain ⟨a, b⟩ := Classical.choose_spec hx
 exact kI a h1 (b.trans h2.symm)
noncomputable def nvB (fs : List Nd) : Bool := goodB fs && vgB (canN (gOf fs))
noncomputable def nvT (fs : List Nd) : Int := if nvB fs = true then vgT (canN (gOf fs)) else 0
noncomputable def nvP (fs : List Nd) : Int := if nvB fs = true then vgP (canN (gOf fs)) else 0
theorem nv_bad (h : goodB fs = false) : nvB fs = false ∧ nvT fs = 0 ∧ nvP fs = 0 := by
 have e : nvB fs = false := by unfold nvB; rw [h]; rfl
 unfold nvT nvP; rw [e]; exact ⟨rfl, rfl, rfl⟩
theorem nv_good {c : Nat} (h : goodB fs = true) (h1 : CanonG c) (h2 : eqG c (gOf fs)) : nvB fs = vgB c ∧ nvT fs = vgT c ∧ nvP fs = vgP c := by
 have e : nvB fs = vgB c := by unfold nvB; rw [h, can_eq h1 h2]; rfl
 unfold nvT nvP; rw [e, can_eq h1 h2]
 cases hb : vgB c with
 | true => exact ⟨rfl, rfl, rfl⟩
 | false => obtain ⟨e1, e2⟩ := sA hb; rw [e1, e2]; exact ⟨rfl, rfl, rfl⟩
end Go.GL
namespace Go.GL
open Go Go.RowKit
section
variable {q q' : PSt} {ats : List Int} {k : Nat} {φ : Nat → Nat}
end
theorem add_nk {fs : List Nd} (hf : FormOk fs) (hl : fs.length ≤ 524288) : PoolOk (bkq (addM [] [] fs).2.1 (addM [] [] fs).2.2) ∧ NkOk (bkq (addM [] [] fs).2.1 (addM [] [] fs).2.2) (addM [] [] fs).1 fs.length (den fs) ∧ (addM [] [] fs).2.1.length ≤ fs.length := by
 have hd := Ar.add Ar.empty hf (by simp; omega)
 have ha := jK qL hf (by simp; omega)
 have hal := ha.len
 have hhi := ha.hi
 refine ⟨rJ hd.ar, ⟨fun z hz => ?_, ?_⟩, by simpa using hhi⟩
 ·obtain ⟨i, hi, rfl⟩ := List.getElem_of_mem hz
  have := ha.places i hi
  rw [show (addM [] [] fs).1.getD i 0 = (addM [] [] fs).1[i] by simp [List.getD, hi]] at this
  exact this
 ·apply List.ext_getElem
  ·simp [hal]
  ·intro i h1 h2
   simp only [List.getElem_map, List.getElem_range]
   have := hd.is i (by simpa using h2)
   rw [show (addM [] [] fs).1.getD i 0 = (addM [] [] fs).1[i]'(by simpa using h1) by simp [List.getD, show i < (addM [] [] fs).1.length by simpa using h1]] at this
   exact this
section
variable {q q' : PSt} {sm : List (Int × Int)} {ats : List Int} {k a n : Nat} {gs : List Nd}
end
end Go.GL
namespace Go.GL
open Go Go.RowKit
def FitG (g x : Nat) : Prop := (∀ l, loG g l → ¬ geG l x) ∧ ∀ r, roG g r → ¬ geG x r
noncomputable def ftB (fs : List Nd) (t z : Int) : Bool := goodB fs && nmB t z
noncomputable def ftV (fs : List Nd) (t z : Int) : Bool := if ftB fs t z = true then decP (FitG (gOf fs) (dyG z.toNat t)) else false
variable {fs ns : List Nd} {t z : Int} {l : List Int} {i : Nat}
theorem ftn_bad (h : goodB fs = false) : ftB fs t z = false ∧ ftV fs t z = false := by
 have e : ftB fs t z = false := by unfold ftB; rw [h]; rfl
 unfold ftV; rw [e]; exact ⟨rfl, rfl⟩
theorem ftn_no (h : nmB t z = false) : ftB fs t z = false ∧ ftV fs t z = false := by
 have e : ftB fs t z = false := by unfold ftB; rw [h, Bool.and_false]
 unfold ftV; rw [e]; exact ⟨rfl, rfl⟩
theorem mM (h : goodB fs = true) (k : nmB t z = true) : ftB fs t z = true ∧ ftV fs t z = decP (FitG (gOf fs) (dyG z.toNat t)) := by
 have e : ftB fs t z = true := by unfold ftB; rw [h, k]; rfl
 unfold ftV; rw [e]; exact ⟨rfl, rfl⟩
theorem opt_form (hg : GoodP ns) (hz : 0 ≤ z ∧ z < ns.length) : IsForm (den ns z.toNat) (partS ns z) := by
 have hh := hg.hi
 obtain ⟨hok, hnk, _⟩ := add_nk (vF hg) (by omega)
 have ha := hnk.at_ (i := z.toNat) (by omega)
 have e := kK hok ha.1
 have f := mO hok ha.1
 rw [← e, ha.2] at f
 exact f
theorem opt_part (hg : GoodP ns) (hz : 0 ≤ z ∧ z < ns.length) : (FormOk (partS ns z) ∧ 1 ≤ (partS ns z).length) ∧ (partS ns z).length ≤ 120 ∧ gOf (partS ns z) = den ns z.toNat := by
 have h := opt_form hg hz
 have hl : (partS ns z).length ≤ 120 := by
  rw [part_eq hg hz]
  exact (part_lens hg (m := z.toNat) (by omega)).1
 exact ⟨⟨tN h (by omega), h.1.lo⟩, hl, h.2⟩
theorem opts_at (h : i < l.length) : (optsS ns l).getD i [] = partS ns (l.getD i 0) := by
 unfold optsS
 simp [List.getD, h]
theorem rW (ns : List Nd) (l : List Int) : (optsS ns l).length = l.length := by simp [optsS]
theorem last_opts (hg : GoodP ns) : (∀ z ∈ (lastN ns).l, 0 ≤ z ∧ z < (ns.length : Int)) ∧ ∀ z ∈ (lastN ns).r, 0 ≤ z ∧ z < (ns.length : Int) := by
 have hlo := hg.lo
 have oo := xA (vF hg).opts (show ns.length - 1 < ns.length by omega)
 exact ⟨fun z hz => by have := oo.1 z hz; omega, fun z hz => by have := oo.2 z hz; omega⟩
theorem nE (hg : GoodP ns) (hl : ∀ z ∈ l, 0 ≤ z ∧ z < (ns.length : Int)) (hi : i < l.length) : (FormOk ((optsS ns l).getD i []) ∧ 1 ≤ ((optsS ns l).getD i []).length) ∧ ((optsS ns l).getD i []).length ≤ 120 ∧ gOf ((optsS ns l).getD i []) = den ns (l.getD i 0).toNat := by
 rw [opts_at hi]
 exact opt_part hg (hl _ (zZ hi))
theorem gY (h : z ∈ l) : ∃ i, i < l.length ∧ l.getD i 0 = z := by
 obtain ⟨i, hi, e⟩ := List.getElem_of_mem h
 exact ⟨i, hi, by simp [List.getD, hi, e]⟩
theorem eL (hg : GoodP ns) {x : Nat} : FitG (gOf ns) x ↔ (∀ i, i < (lastN ns).l.length → decP (geG (gOf ((optsS ns (lastN ns).l).getD i [])) x) = false) ∧ ∀ i, i < (lastN ns).r.length → decP (geG x (gOf ((optsS ns (lastN ns).r).getD i []))) = false := by
 have hlo := hg.lo
 have hL := last_opts hg
 have ho := (vF hg).opts
 constructor
 ·rintro ⟨h1, h2⟩
  refine ⟨fun i hi => decP_false.2 ?_, fun i hi => decP_false.2 ?_⟩
  ·rw [(nE hg hL.1 hi).2.2]
   exact h1 _ ((xX ho (show ns.length - 1 < ns.length by omega)).2 ⟨_, zZ (d := (0 : Int)) hi, rfl⟩)
  ·rw [(nE hg hL.2 hi).2.2]
   exact h2 _ ((xW ho (show ns.length - 1 < ns.length by omega)).2 ⟨_, zZ (d := (0 : Int)) hi, rfl⟩)
 ·rintro ⟨h1, h2⟩
  refine ⟨fun l hl => ?_, fun r hr => ?_⟩
  ·obtain ⟨z, hz, rfl⟩ := (xX ho (show ns.length - 1 < ns.length by omega)).1 hl
   obtain ⟨i, hi, rfl⟩ := gY hz
   have := decP_false.1 (h1 i hi)
   rwa [(nE hg hL.1 hi).2.2] at this
  ·obtain ⟨z, hz, rfl⟩ := (xW ho (show ns.length - 1 < ns.length by omega)).1 hr
   obtain ⟨i, hi, rfl⟩ := gY hz
   have := decP_false.1 (h2 i hi)
   rwa [(nE hg hL.2 hi).2.2] at this
theorem eJ {q : PSt} (hok : PoolOk q) {r x : Int} (hr : PlaceOk q r) : FitG (pd q r) (pd q x) ↔ (∀ i, i < (q.ns.getD r.toNat default).l.length → geB q.ns ((q.ns.getD r.toNat default).l.getD i 0) x = false) ∧ ∀ i, i < (q.ns.getD r.toNat default).r.length → geB q.ns x ((q.ns.getD r.toNat default).r.getD i 0) = false := by
 constructor
 ·rintro ⟨h1, h2⟩
  exact ⟨fun i hi => decP_false.2 (h1 _ ((kR hok hr).2 ⟨_, zZ (d := (0 : Int)) hi, rfl⟩)), fun i hi => decP_false.2 (h2 _ ((kN hok hr).2 ⟨_, zZ (d := (0 : Int)) hi, rfl⟩))⟩
 ·rintro ⟨h1, h2⟩
  refine ⟨fun l hl => ?_, fun l hl => ?_⟩
  ·obtain ⟨z, hz, rfl⟩ := (kR hok hr).1 hl
   obtain ⟨i, hi, rfl⟩ := gY hz
   exact decP_false.1 (h1 i hi)
  ·obtain ⟨z, hz, rfl⟩ := (kN hok hr).1 hl
   obtain ⟨i, hi, rfl⟩ := gY hz
   exact decP_false.1 (h2 i hi)
theorem nmF_form (h : nmB t z = true) : ((FormOk (nmF t z) ∧ 1 ≤ (nmF t z).length) ∧ (nmF t z).length ≤ 120) ∧ gOf (nmF t z) = dyG z.toNat t := by
 have hn := sP h
 have hf := decP_true.1 hn.2.2
 have e : nmF t z = formG (dyG z.toNat t) := if_pos h
 have hl := hf.lim
 rw [e]
 have hi : IsForm (dyG z.toNat t) (formG (dyG z.toNat t)) := by
  have hx : ∃ ns, IsForm (dyG z.toNat t) ns := by
   refine Classical.byContradiction fun hx => ?_
   have e2 : formG (dyG z.toNat t) = [] := by unfold formG; rw [dif_neg hx]
   rw [e2] at hl; simp at hl
  obtain ⟨ns, hx⟩ := hx
  rw [hx.eq]; exact hx
 exact ⟨⟨⟨tN hi (by omega), hl.1⟩, hl.2⟩, hi.2⟩
end Go.GL
namespace Go.GL
open Go Go.RowKit
end Go.GL
namespace Go.GL
open Go Go.RowKit
structure VG3 (g D : Nat) (x : Int) : Prop where
 t : vgT g = lowR (decP (GoodD (lowD D x).1 (((lowD D x).2 : Nat) : Int))) (lowD D x).1
 p : vgP g = lowR (decP (GoodD (lowD D x).1 (((lowD D x).2 : Nat) : Int))) (((lowD D x).2 : Nat) : Int)
 b : vgB g = decP (GoodD (lowD D x).1 (((lowD D x).2 : Nat) : Int))
variable {g D p : Nat} {t : Int}
theorem va_of {x : Int} (hg : g = dyG p t) (hr : p = 0 ∨ t % 2 ≠ 0) (hx : lowD D x = (t, p)) : VG3 g D x := by
 obtain ⟨e1, e2⟩ := vg_low hr
 rw [hg]
 exact ⟨by rw [hx]; exact e1, by rw [hx]; exact e2, by rw [hx]; exact fV hr⟩
theorem sc_I (D g : Nat) : scI (D : Int) (vgT g) (vgP g) = scD D g := by
 unfold scD vgP
 rw [pN, Int.toNat_natCast, Int.toNat_natCast]
theorem va_add {a : Nat} {s : Int} (hp : vgP a = 0) (ht : t = vgT a + s) : lowD D (scI (D : Int) (vgT a) (vgP a) + scI (D : Int) s 0) = (t, 0) := by
 rw [hp]
 have := low_add (D := D) (p := 0) (Nat.zero_le _) (vgT a) s
 rw [show ((0 : Nat) : Int) = 0 from rfl] at this
 rw [this, ht]; rfl
theorem va_l {a : Nat} (h : NumD (mkG [a] [])) (ha : vgB a = true) : VG3 (mkG [a] []) D (scI (D : Int) (vgT a) (vgP a) + scI (D : Int) 1 0) := by
 obtain ⟨e1, _, e3⟩ := vl_yes h ha
 exact va_of e3 (Or.inl rfl) (va_add e1 rfl)
theorem va_r {a : Nat} (h : NumD (mkG [] [a])) (ha : vgB a = true) : VG3 (mkG [] [a]) D (scI (D : Int) (vgT a) (vgP a) + scI (D : Int) (-1) 0) := by
 obtain ⟨e1, _, e3⟩ := vr_yes h ha
 exact va_of (t := vgT a - 1) e3 (Or.inl rfl) (va_add e1 (by omega))
theorem low_odd (h : t % 2 ≠ 0) : lowD (p + 1) t = (t, p + 1) := if_neg h
theorem va_lr {a b : Nat} (h : NumD (mkG [a] [b])) (ha : vgB a = true) (hb : vgB b = true) : VG3 (mkG [a] [b]) 17 (scI 16 (vgT a) (vgP a) + scI 16 (vgT b) (vgP b)) := by
 obtain ⟨p, u, hp, e, hs⟩ := vb_yes h ha hb
 obtain ⟨h1, h2⟩ := hs 16 (Nat.le_refl _)
 have e1 : scI 16 (vgT a) (vgP a) = scD 16 a := sc_I 16 a
 have e2 : scI 16 (vgT b) (vgP b) = scD 16 b := sc_I 16 b
 refine va_of e (Or.inr (by omega)) ?_
 rw [e1, e2, h1, h2, ← Int.add_mul, show u + (u + 1) = 2 * u + 1 by omega]
 have := nH (16 - p) (p + 1) (2 * u + 1)
 rw [show p + 1 + (16 - p) = 17 by omega] at this
 rw [this]
 exact low_odd (by omega)
theorem rO (h : vgB g = true) : GoodD (vgT g) (vgP g) := by
 obtain ⟨p, t, h1, _, h3, h4⟩ := pM h
 rw [h3, h4]; exact h1
section
variable {q : PSt} {a : Int}
theorem one_pool (hok : PoolOk q) (ha : PlaceOk q a) : OneG (pd q a) ↔ (q.ns.getD a.toNat default).l.length ≤ 1 ∧ (q.ns.getD a.toNat default).r.length ≤ 1 := by
 have h0 : a.toNat < q.ns.length := by have := ha.1; have := ha.2; omega
 have oo := xA hok.ar.opts h0
 have rr := hok.ar.rise a.toNat h0
 have key : ∀ l : List Int, l.Pairwise (· < ·) → (∀ z ∈ l, 0 ≤ z ∧ z < (a.toNat : Int)) → (∀ x ∈ l, ∀ y ∈ l, pd q x = pd q y) → l.length ≤ 1 := fun l hp hb he => by
  match l, hp, hb, he with
  | [], _, _, _ => exact Nat.zero_le _
  | [_], _, _, _ => exact Nat.le_refl _
  | x :: y :: l, hp, hb, he =>
   have e := he x List.mem_cons_self y (List.mem_cons_of_mem _ List.mem_cons_self)
   have h1 := hb x List.mem_cons_self
   have h2 := hb y (List.mem_cons_of_mem _ List.mem_cons_self)
   have := hok.ar.inj (i := x.toNat) (j := y.toNat) (by omega) (by omega) e
   have := (List.pairwise_cons.1 hp).1 y List.mem_cons_self
   omega
 have back : ∀ l : List Int, l.length ≤ 1 → ∀ x ∈ l, ∀ y ∈ l, x = y := fun l hl x hx y hy => by
  match l, hl with
  | [], _ => cases hx
  | [c], _ => rw [List.mem_singleton.1 hx, List.mem_singleton.1 hy]
 constructor
 ·intro h
  exact ⟨key _ rr.1 oo.1 fun x hx y hy => h.1 _ _ ((kR hok ha).2 ⟨x, hx, rfl⟩) ((kR hok ha).2 ⟨y, hy, rfl⟩),
   key _ rr.2 oo.2 fun x hx y hy => h.2 _ _ ((kN hok ha).2 ⟨x, hx, rfl⟩) ((kN hok ha).2 ⟨y, hy, rfl⟩)⟩
 ·rintro ⟨h1, h2⟩
  refine ⟨fun i j hi hj => ?_, fun i j hi hj => ?_⟩
  ·obtain ⟨x, hx, rfl⟩ := (kR hok ha).1 hi
   obtain ⟨y, hy, rfl⟩ := (kR hok ha).1 hj
   rw [back _ h1 x hx y hy]
  ·obtain ⟨x, hx, rfl⟩ := (kN hok ha).1 hi
   obtain ⟨y, hy, rfl⟩ := (kN hok ha).1 hj
   rw [back _ h2 x hx y hy]
theorem num_pool (hok : PoolOk q) (ha : PlaceOk q a) (hc : CanonG (pd q a)) : NumD (pd q a) ↔ ((q.ns.getD a.toNat default).l.length ≤ 1 ∧ (q.ns.getD a.toNat default).r.length ≤ 1) ∧ (∀ x, x < (q.ns.getD a.toNat default).l.length → NumD (pd q ((q.ns.getD a.toNat default).l.getD x 0))) ∧ (∀ x, x < (q.ns.getD a.toNat default).r.length → NumD (pd q ((q.ns.getD a.toNat default).r.getD x 0))) ∧
  (0 < (q.ns.getD a.toNat default).l.length → 0 < (q.ns.getD a.toNat default).r.length → geB q.ns ((q.ns.getD a.toNat default).l.getD 0 0) ((q.ns.getD a.toNat default).r.getD 0 0) = false) := by
 rw [num_iff hc, one_pool hok ha]
 have hl : ∀ {P : Nat → Prop}, (∀ l, loG (pd q a) l → P l) ↔ ∀ x, x < (q.ns.getD a.toNat default).l.length → P (pd q ((q.ns.getD a.toNat default).l.getD x 0)) := fun {P} =>
  ⟨fun h x hx => h _ ((kR hok ha).2 ⟨_, zZ (d := (0 : Int)) hx, rfl⟩), fun h l hl => by
   obtain ⟨z, hz, rfl⟩ := (kR hok ha).1 hl
   obtain ⟨i, hi, rfl⟩ := gY hz
   exact h i hi⟩
 have hr : ∀ {P : Nat → Prop}, (∀ l, roG (pd q a) l → P l) ↔ ∀ x, x < (q.ns.getD a.toNat default).r.length → P (pd q ((q.ns.getD a.toNat default).r.getD x 0)) := fun {P} =>
  ⟨fun h x hx => h _ ((kN hok ha).2 ⟨_, zZ (d := (0 : Int)) hx, rfl⟩), fun h l hl => by
   obtain ⟨z, hz, rfl⟩ := (kN hok ha).1 hl
   obtain ⟨i, hi, rfl⟩ := gY hz
   exact h i hi⟩
 rw [hl, hr]
 refine and_congr_right fun h1 => and_congr_right fun _ => and_congr_right fun _ => ⟨fun h h2 h3 => decP_false.2 (h _ _ ((kR hok ha).2 ⟨_, zZ (d := (0 : Int)) h2, rfl⟩) ((kN hok ha).2 ⟨_, zZ (d := (0 : Int)) h3, rfl⟩)), fun h l r hl hr => ?_⟩
 obtain ⟨z, hz, rfl⟩ := (kR hok ha).1 hl
 obtain ⟨i, hi, rfl⟩ := gY hz
 obtain ⟨y, hy, rfl⟩ := (kN hok ha).1 hr
 obtain ⟨j, hj, rfl⟩ := gY hy
 have e1 : i = 0 := by omega
 have e2 : j = 0 := by omega
 subst e1; subst e2
 exact decP_false.1 (h hi hj)
theorem pO (hok : PoolOk q) (ha : PlaceOk q a) : pd q a = mkG ((q.ns.getD a.toNat default).l.map (pd q)) ((q.ns.getD a.toNat default).r.map (pd q)) := jN hok.ar.opts (by have := ha.1; have := ha.2; omega)
theorem mB {l : List Int} (h : l.length ≤ 1) (h0 : 0 < l.length) : l = [l.getD 0 0] := by
 match l, h with
 | [c], _ => rfl
 | [], _ => simp at h0
theorem pd_l (hok : PoolOk q) (ha : PlaceOk q a) (h1 : (q.ns.getD a.toNat default).l.length ≤ 1) (h2 : 0 < (q.ns.getD a.toNat default).l.length) (h3 : (q.ns.getD a.toNat default).r.length = 0) : pd q a = mkG [pd q ((q.ns.getD a.toNat default).l.getD 0 0)] [] := by
 have e := pO hok ha
 rw [mB h1 h2, List.eq_nil_of_length_eq_zero h3] at e
 exact e
theorem pd_r (hok : PoolOk q) (ha : PlaceOk q a) (h1 : (q.ns.getD a.toNat default).r.length ≤ 1) (h2 : 0 < (q.ns.getD a.toNat default).r.length) (h3 : (q.ns.getD a.toNat default).l.length = 0) : pd q a = mkG [] [pd q ((q.ns.getD a.toNat default).r.getD 0 0)] := by
 have e := pO hok ha
 rw [mB h1 h2, List.eq_nil_of_length_eq_zero h3] at e
 exact e
theorem pd_lr (hok : PoolOk q) (ha : PlaceOk q a) (h1 : (q.ns.getD a.toNat default).l.length ≤ 1 ∧ (q.ns.getD a.toNat default).r.length ≤ 1) (h2 : 0 < (q.ns.getD a.toNat default).l.length) (h3 : 0 < (q.ns.getD a.toNat default).r.length) : pd q a = mkG [pd q ((q.ns.getD a.toNat default).l.getD 0 0)] [pd q ((q.ns.getD a.toNat default).r.getD 0 0)] := by
 have e := pO hok ha
 rw [mB h1.1 h2, mB h1.2 h3] at e
 exact e
theorem pd_nn (hok : PoolOk q) (ha : PlaceOk q a) (h2 : (q.ns.getD a.toNat default).l.length = 0) (h3 : (q.ns.getD a.toNat default).r.length = 0) : pd q a = mkG [] [] := by
 have e := pO hok ha
 rw [List.eq_nil_of_length_eq_zero h2, List.eq_nil_of_length_eq_zero h3] at e
 exact e
end
end Go.GL
namespace Go.GL
open Go Go.RowKit
section
variable {P : Program} {ρ : Operand → Value} {w : World} {d : Option Nat} {t e ty t' : Nat} {pos : String} {aft : Array Edge} {g : Option (Nat × Bool)} {x y : Operand}
variable {a b : Int} {f0 f1 : Field}
theorem gJ (n : Nat) {c d : Int} (ht : P.underlying t = some (.struct #[f0, f1])) (hn : f0.name ≠ "_" ∧ f1.name ≠ "_") (h0t : f0.type = e) (h1t : f1.type = e) (h0o : f0.offset = 0) (h1o : f1.offset = 1) (he : P.underlying e = some (.int .i64)) (hst : P.stoodInHeld t = false) :
  (Op.equalIn (n + 1 + 1) t (.agg #[.int .i64 a, .int .i64 b]) (.agg #[.int .i64 c, .int .i64 d])).run P w = .ok (decide ((a, b) = (c, d))) w := by
 have ha : (P.underlying e).map aggD = some false := by rw [he]; rfl
 have hpart : ∀ (u v : Int) (k : Nat) (z : Int), (#[Value.int .i64 u, .int .i64 v] : Array Value)[k]? = some (.int .i64 z) → (part e #[.int .i64 u, .int .i64 v] k).run P w = .ok (.int .i64 z) w := fun u v k z hk => by
  unfold part
  simp only [Sem.run_bind, jF ha, Result.andThen_ok]
  simp [hk]
 have h0 : (Op.equalIn (n + 1) e (.int .i64 a) (.int .i64 c)).run P w = .ok (a == c) w := run_equalIn_int w n e .i64 .i64 a c he
 have h1 : (Op.equalIn (n + 1) e (.int .i64 b) (.int .i64 d)).run P w = .ok (b == d) w := run_equalIn_int w n e .i64 .i64 b d he
 have hf : P.fieldsOf t = #[f0, f1] := by simp [Program.fieldsOf, ht]
 rw [run_equalIn_struct w (n + 1) t _ _ (by rw [hf]; exact ht) hst, hf]
 simp only [Op.eqFields, hn.1, hn.2, h0t, h1t, h0o, h1o, ne_eq, not_false_eq_true, if_true, Sem.run_bind, hpart a b 0 a rfl, hpart c d 0 c rfl, h0, Result.andThen_ok]
 cases hac : (a == c) with
 | false =>
  have h2 : ¬ a = c := by simpa using hac
  simp [h2]
 | true =>
  have h2 : a = c := by simpa using hac
  simp only [Bool.not_true, Bool.false_eq_true, if_false, Sem.run_bind, hpart a b 1 b rfl, hpart c d 1 d rfl, h1, Result.andThen_ok]
  cases hbd : (b == d) with
  | false =>
   have h3 : ¬ b = d := by simpa using hbd
   simp [h2, h3]
  | true =>
   have h3 : b = d := by simpa using hbd
   simp [h2, h3]
theorem r_eqlD {c e2 : Int} (ht : P.underlying t = some (.struct #[f0, f1])) (hn : f0.name ≠ "_" ∧ f1.name ≠ "_") (h0t : f0.type = e) (h1t : f1.type = e) (h0o : f0.offset = 0) (h1o : f1.offset = 1) (he : P.underlying e = some (.int .i64)) (hst : P.stoodInHeld t = false) (hg : P.eqGuardType P.depth t = false)
  (hx : ρ x = .agg [.int .i64 a, .int .i64 b].toArray) (hy : ρ y = .agg [.int .i64 c, .int .i64 e2].toArray) :
  (execOp ρ ⟨d, .binOp .eql t x y t', ty, pos, aft, g⟩).run P w = .ok (.value (.bool (decide ((a, b) = (c, e2))))) w := by
 have h1 := gJ (w := w) 9998 (a := a) (b := b) (c := c) (d := e2) ht hn h0t h1t h0o h1o he hst
 have h2 := run_eqGuard_agg (P := P) w .eql t x y #[.int .i64 a, .int .i64 b] #[.int .i64 c, .int .i64 e2] hg
 have h3 := run_eql_struct (P := P) w t #[.int .i64 a, .int .i64 b] #[.int .i64 c, .int .i64 e2]
 simp only [execOp, hx, hy, Sem.run_bind, h2, Result.andThen_ok, h3, h1]
 rfl
end
end Go.GL
namespace Go.GL
open Go Go.RowKit
section
variable {ns : List Nd} {k : Nat} {xs ys : List Int}
end
end Go.GL
namespace Go.GL
open Go Go.RowKit
variable {lf : Bool} {a b g r i x : Nat}
theorem geD_flip : geD (!lf) a b ↔ geD lf b a := by
 cases lf
 ·exact geD_tt.trans geD_ff.symm
 ·exact geD_ff.trans geD_tt.symm
theorem opD_ot (h : opD (!lf) g r) : ¬ geD lf g r := fun k => jT h (geD_flip.2 k)
def opF (lf : Bool) (g : Nat) : List Nat := if lf = true then lefts g else rights g
theorem mem_opF : i ∈ opF lf g ↔ opD lf g i := by
 cases lf
 ·exact memG_r.trans opD_f.symm
 ·exact memG_l.trans opD_t.symm
def swpG (lf : Bool) (g x : Nat) (s : List Nat) : Nat :=
 if lf = true then mkG ((lefts g).filter (· ≠ x) ++ s) (rights g) else mkG (lefts g) ((rights g).filter (· ≠ x) ++ s)
theorem swp_op {s : List Nat} : opD lf (swpG lf g x s) i ↔ (opD lf g i ∧ i ≠ x) ∨ i ∈ s := by
 unfold swpG opD
 cases lf
 ·simp [ro_mk, memG_r]
 ·simp [lo_mk, memG_l]
theorem swp_ot {s : List Nat} : opD (!lf) (swpG lf g x s) i ↔ opD (!lf) g i := by
 unfold swpG opD
 cases lf
 ·simp [lo_mk, memG_l]
 ·simp [ro_mk, memG_r]
theorem lt_bit {k : Nat} (h0 : ¬ a.testBit k = true) (h1 : b.testBit k = true) (h : ∀ j, k < j → a.testBit j = b.testBit j) : a < b := by
 have e : a / 2 ^ (k + 1) = b / 2 ^ (k + 1) := Nat.eq_of_testBit_eq fun i => by
  rw [Nat.testBit_div_two_pow, Nat.testBit_div_two_pow]; exact h _ (by omega)
 rw [Nat.pow_succ, ← Nat.div_div_eq_div_mul, ← Nat.div_div_eq_div_mul] at e
 rw [Nat.testBit_eq_decide_div_mod_eq, decide_eq_true_eq] at h0 h1
 refine Nat.not_le.1 fun hle => ?_
 have := Nat.div_le_div_right (c := 2 ^ k) hle
 omega
theorem bits_two (h0 : ¬ opD lf a x) (h1 : opD lf b x) (h2 : ∀ i, x < i → (opD lf a i ↔ opD lf b i)) (h3 : ∀ i, opD (!lf) a i ↔ opD (!lf) b i) : a < b := by
 cases lf
 ·refine lt_bit (k := 2 * x + 1) (fun h => h0 (opD_f.2 h)) (opD_f.1 h1) fun j hj => ?_
  rcases Nat.mod_two_eq_zero_or_one j with e | e
  ·rw [show j = 2 * (j / 2) by omega]
   exact Bool.eq_iff_iff.2 ((opD_t.symm.trans (h3 (j / 2))).trans opD_t)
  ·rw [show j = 2 * (j / 2) + 1 by omega]
   exact Bool.eq_iff_iff.2 ((opD_f.symm.trans (h2 (j / 2) (by omega))).trans opD_f)
 ·refine lt_bit (k := 2 * x) (fun h => h0 (opD_t.2 h)) (opD_t.1 h1) fun j hj => ?_
  rcases Nat.mod_two_eq_zero_or_one j with e | e
  ·rw [show j = 2 * (j / 2) by omega]
   exact Bool.eq_iff_iff.2 ((opD_t.symm.trans (h2 (j / 2) (by omega))).trans opD_t)
  ·rw [show j = 2 * (j / 2) + 1 by omega]
   exact Bool.eq_iff_iff.2 ((opD_f.symm.trans (h3 (j / 2))).trans opD_f)
theorem swp_lt {s : List Nat} (h : opD lf g x) (hs : ∀ i ∈ s, i < x) : swpG lf g x s < g :=
 bits_two (x := x) (fun k => (swp_op.1 k).elim (fun k => k.2 rfl) fun k => Nat.lt_irrefl x (hs x k)) h (fun i hi => swp_op.trans ⟨fun k => k.elim (fun k => k.1) fun k => absurd (hs i k) (by omega), fun k => Or.inl ⟨k, by omega⟩⟩) fun i => swp_ot
theorem swp_eq {s : List Nat} (h1 : ∀ i ∈ s, ¬ geD lf i g) (h2 : ¬ geD lf x (swpG lf g x s)) : eqG (swpG lf g x s) g := by
 have a : geD lf (swpG lf g x s) g := geD_iff.2 ⟨fun r hr => opD_ot (swp_ot.1 hr), fun l hl => by
  by_cases e : l = x
  ·subst e; exact h2
  ·exact jT (swp_op.2 (Or.inl ⟨hl, e⟩))⟩
 have b : geD lf g (swpG lf g x s) := geD_iff.2 ⟨fun r hr => opD_ot (swp_ot.2 hr), fun l hl => (swp_op.1 hl).elim (fun k => jT k.1) fun k => h1 l k⟩
 cases lf
 ·exact ⟨geD_ff.1 b, geD_ff.1 a⟩
 ·exact ⟨geD_tt.1 a, geD_tt.1 b⟩
theorem min_dom (hm : ∀ z, z < g → ¬ eqG z g) (ha : opD lf g a) (hb : opD lf g b) (h : geD lf a b) : a = b :=
 Classical.byContradiction fun e => hm _ (swp_lt (s := []) hb fun _ hi => absurd hi List.not_mem_nil)
  (swp_eq (fun _ hi => absurd hi List.not_mem_nil) fun k => jT (swp_op.2 (Or.inl ⟨ha, e⟩)) (qA h k))
theorem min_rev {l : Nat} (hm : ∀ z, z < g → ¬ eqG z g) (hl : opD lf g l) (hr : opD (!lf) l r) : ¬ geD lf g r := fun h =>
 hm _ (swp_lt (s := opF lf r) hl fun i hi => by have := (mem_opF.1 hi).lt; have := hr.lt; omega)
  (swp_eq (fun i hi k => jT (mem_opF.1 hi) (qA k h)) fun k => by
   rcases geD_not ((geD_iff.1 k).1 r hr) with ⟨r1, h1, h2⟩ | ⟨l1, h1, h2⟩
   ·exact opD_ot (swp_ot.1 h1) (qA h h2)
   ·exact jT (swp_op.2 (Or.inr (mem_opF.2 h1))) h2)
theorem min_opt {c : Nat} (hm : ∀ z, z < g → ¬ eqG z g) (hx : opD lf g x) (hc : c ≤ x) (he : eqG c x) : c = x :=
 Classical.byContradiction fun e => hm _ (swp_lt (s := [c]) hx fun i hi => by rw [List.mem_singleton.1 hi]; omega)
  (swp_eq (fun i hi k => by rw [List.mem_singleton.1 hi] at k; exact jT hx (qA (eqG_D he).2 k)) fun k => jT (swp_op.2 (Or.inr (List.mem_singleton_self c))) (qA (eqG_D he).1 k))
theorem eQ : ∀ (n g : Nat), g < n → ∃ c, c ≤ g ∧ CanonG c ∧ eqG c g
 | 0, _, h => absurd h (Nat.not_lt_zero _)
 | n + 1, g, h => by
  by_cases hx : ∃ z, z < g ∧ eqG z g
  ·obtain ⟨z, h1, h2⟩ := hx
   obtain ⟨c, h3, h4, h5⟩ := eQ n z (by omega)
   exact ⟨c, by omega, h4, h5.trans h2⟩
  ·have hm : ∀ z, z < g → ¬ eqG z g := fun z h1 h2 => hx ⟨z, h1, h2⟩
   have ho : ∀ {lf : Bool} {x : Nat}, opD lf g x → CanonG x := fun {lf x} hx => by
    obtain ⟨c, h3, h4, h5⟩ := eQ n x (by have := hx.lt; omega)
    rw [← min_opt hm hx h3 h5]; exact h4
   refine ⟨g, Nat.le_refl g, canon_iff.2 ⟨⟨fun a b ha hb h => min_dom (lf := true) hm (opD_t.2 ha) (opD_t.2 hb) (geD_tt.2 h), fun a b ha hb h => (min_dom (lf := false) hm (opD_f.2 hb) (opD_f.2 ha) (geD_ff.2 h)).symm⟩,
    ⟨fun l r hl hr h => min_rev (lf := true) hm (opD_t.2 hl) (opD_f.2 hr) (geD_tt.2 h), fun r l hr hl h => min_rev (lf := false) hm (opD_f.2 hr) (opD_t.2 hl) (geD_ff.2 h)⟩, fun l hl => ho (lf := true) (opD_t.2 hl), fun r hr => ho (lf := false) (opD_f.2 hr)⟩, .refl g⟩
end Go.GL
namespace Go.GL
open Go Go.RowKit
section
variable {P : Program} {ρ : Operand → Value} {w : World} {d : Option Nat} {t e ty t' : Nat} {pos : String} {aft : Array Edge} {g : Option (Nat × Bool)} {x y : Operand}
variable {a b : Int} {f0 f1 : Field}
theorem r_neqD {c e2 : Int} (ht : P.underlying t = some (.struct #[f0, f1])) (hn : f0.name ≠ "_" ∧ f1.name ≠ "_") (h0t : f0.type = e) (h1t : f1.type = e) (h0o : f0.offset = 0) (h1o : f1.offset = 1) (he : P.underlying e = some (.int .i64)) (hst : P.stoodInHeld t = false) (hg : P.eqGuardType P.depth t = false)
  (hx : ρ x = .agg [.int .i64 a, .int .i64 b].toArray) (hy : ρ y = .agg [.int .i64 c, .int .i64 e2].toArray) :
  (execOp ρ ⟨d, .binOp .neq t x y t', ty, pos, aft, g⟩).run P w = .ok (.value (.bool (!decide ((a, b) = (c, e2))))) w := by
 have h1 := gJ (w := w) 9998 (a := a) (b := b) (c := c) (d := e2) ht hn h0t h1t h0o h1o he hst
 have h2 := run_eqGuard_agg (P := P) w .neq t x y #[.int .i64 a, .int .i64 b] #[.int .i64 c, .int .i64 e2] hg
 have h3 := run_neq_struct (P := P) w t #[.int .i64 a, .int .i64 b] #[.int .i64 c, .int .i64 e2]
 simp only [execOp, hx, hy, Sem.run_bind, h2, Result.andThen_ok, h3, h1]
 rfl
theorem r_neqD_same (ht : P.underlying t = some (.struct #[f0, f1])) (hn : f0.name ≠ "_" ∧ f1.name ≠ "_") (h0t : f0.type = e) (h1t : f1.type = e) (h0o : f0.offset = 0) (h1o : f1.offset = 1) (he : P.underlying e = some (.int .i64)) (hst : P.stoodInHeld t = false) (hg : P.eqGuardType P.depth t = false)
  (hx : ρ x = .agg [.int .i64 a, .int .i64 b].toArray) (hy : ρ y = .agg [.int .i64 a, .int .i64 b].toArray) :
  (execOp ρ ⟨d, .binOp .neq t x y t', ty, pos, aft, g⟩).run P w = .ok (.value (.bool false)) w := by
 have h := r_neqD (d := d) (pos := pos) (ty := ty) (aft := aft) (g := g) (t' := t') (w := w) ht hn h0t h1t h0o h1o he hst hg hx hy
 rwa [decide_eq_true rfl] at h
end
end Go.GL
namespace Go.GL
open Go Go.RowKit
end Go.GL
namespace Go.GL
open Go Go.RowKit
theorem agg_cells (v : Value) : (Value.agg [v].toArray).cells.toList = [v] := by simp [Value.cells]
theorem flat_one : ∀ (vs : List Value), ((vs.map fun v => Value.agg [v].toArray).flatMap fun v => v.cells.toList) = vs
 | [] => rfl
 | v :: vs => by
  rw [List.map_cons, List.flatMap_cons, agg_cells v, flat_one vs]
  rfl
variable {G : Pin} {v : Value} {vs : List Value}
theorem sN {α : Type} {E : Elt α} {P : Program} {ρ : Operand → Value} {w : World} {K : Value → World → Prop} {d : Option Nat} {t ty e : Nat} {pos : String} {aft : Array Edge} {g : Option (Nat × Bool)}
  {n : Nat} {parts : Array (Nat × Operand)} (vs : List Value) (ys : List α) {z : Value} (ht : P.underlying t = some (.slice e)) (hs : (P.info? e).map (·.size) = some 1) (hz : (P.info? e).bind (·.zero) = some z)
  (hr : RepsF E G vs ys) (_ : ∀ u ∈ vs, u.oneCell' = true) (hn : n = vs.length) (hn2 : n = ys.length) (hE : E.size = 1)
  (hpt' : (parts.toList.map fun (i, x) => (i, ρ x)) = ((vs.map fun v => Value.agg [v].toArray).zipIdx 0).map fun x => (x.2, x.1)) (hpos : 0 < n ∧ n ≤ 1000000) (hP : Pins G w)
  (h : ∀ v w', Own E e G w' w.heap.size v ys → Pins G w' → Below w.heap.size w w' → v.ownBlock = some w.heap.size → K v w') : EO P ρ ⟨d, .buildSlice t n parts, ty, pos, aft, g⟩ w K := by
 have hpt := (Array.toList_map ..).trans hpt'
 obtain ⟨inf, hinf, hsz⟩ := Option.map_eq_some_iff.1 hs
 have hzz : inf.zero = some z := by simpa [hinf] using hz
 have hrun := run_buildSlice (P := P) w t e n (parts.map fun (i, x) => (i, ρ x)) vs.toArray inf z ht hinf hzz (by rw [hsz]; omega) (by rw [hsz]; omega)
  (by
   rw [hpt, hsz]
   have hf := Great.fill_whole (s := 1) (by decide) (vs.map fun v => Value.agg [v].toArray) ((Array.range (n * 1)).map (z.cells[· % z.cells.size]!)) (fun v hv => by
    obtain ⟨u, _, rfl⟩ := List.mem_map.1 hv
    have := congrArg List.length (agg_cells u)
    simpa using this) (by simp [hn])
   rw [hf, flat_one vs])
 obtain ⟨v, w', h1, h2, h3, h4, h5⟩ := run_build (E := E) (d := d) (ty := ty) (pos := pos) (aft := aft) (g := g) n parts vs ys hrun hP hn2 (by omega) (by rw [hE]; omega) (fun i y hy => by
  obtain ⟨v, hv, hrep⟩ := hr i y hy
  have : (vs.drop (i * E.size)).take E.size = [v] := by
   rw [hE, Nat.mul_one]
   apply List.ext_getElem?
   intro j
   rw [List.getElem?_take, List.getElem?_drop]
   match j with
   | 0 => simpa using hv
   | j + 1 => simp
  rw [this]; exact hrep)
 exact EO.run h1 (h v w' h2 h3 h4 h5)
theorem repsN {α : Type} {E : Elt α} : RepsF E G [] [] := fun i y hy => by simp at hy
theorem kO {α : Type} {E : Elt α} {y : α} {ys : List α} (h : E.rep G [v] y) (k : RepsF E G vs ys) : RepsF E G (v :: vs) (y :: ys) := fun i z hz => by
 cases i with
 | zero => simp at hz; subst hz; exact ⟨v, rfl, h⟩
 | succ i => simp at hz; obtain ⟨u, hu, hr⟩ := k i z hz; exact ⟨u, by simpa using hu, hr⟩
theorem onesN : ∀ u ∈ ([] : List Value), u.oneCell' = true := fun _ h => (List.not_mem_nil h).elim
theorem kQ (h : v.oneCell' = true) (k : ∀ u ∈ vs, u.oneCell' = true) : ∀ u ∈ v :: vs, u.oneCell' = true := fun u hu => by
 rcases List.mem_cons.1 hu with rfl | hu
 ·exact h
 ·exact k u hu
end Go.GL
namespace Go.GL
open Go Go.RowKit
structure KQ (Q : List Nat) : Prop where
 is : ∀ g ∈ Q, IsForm g (formG g)
 sub : ∀ g ∈ Q, ∀ x, SubG g x → x ∈ Q
theorem KQ.nil : KQ [] := ⟨fun _ h => (List.not_mem_nil h).elim, fun _ h => (List.not_mem_nil h).elim⟩
theorem KQ.w {Q : List Nat} (h : KQ Q) (hl : Q.length ≤ 1000) {g : Nat} (hg : g ∈ Q) : FormOk (formG g) ∧ 1 ≤ (formG g).length ∧ (formG g).length ≤ Q.length := by
 have h1 := form_le (h.is g hg) (h.sub g hg)
 exact ⟨tN (h.is g hg) (by omega), (h.is g hg).1.lo, h1⟩
variable {gs : List Nat}
theorem KQ.allW {Q : List Nat} (h : KQ Q) (hl : Q.length ≤ 1000) (hg : ∀ g ∈ gs, g ∈ Q) (hn : gs.length ≤ 100) : AllW (gs.map formG) := by
 refine ⟨by simpa using hn, fun i hi => ?_⟩
 have hi' : i < gs.length := by simpa using hi
 have e : (gs.map formG).getD i [] = formG gs[i] := by simp [List.getD, hi']
 rw [e]
 obtain ⟨a, b, c⟩ := h.w hl (hg _ (List.getElem_mem hi'))
 exact ⟨a, b, by omega⟩
theorem KQ.gof {Q : List Nat} (h : KQ Q) (hg : ∀ g ∈ gs, g ∈ Q) : (gs.map formG).map gOf = gs := by
 rw [List.map_map]
 refine (List.map_congr_left (g := id) fun g hm => ?_).trans (List.map_id _)
 exact (h.is g (hg g hm)).2
theorem KQ.add {Q : List Nat} (h : KQ Q) (hl : Q.length ≤ 1000) {hs : List Nat} (hg : ∀ g ∈ gs, g ∈ Q) (hh : ∀ g ∈ hs, g ∈ Q) (h1 : gs.length ≤ 100) (h2 : hs.length ≤ 100) : KQ (mkGm (gs.map formG) (hs.map formG) :: Q) := by
 have hi := mk_isform (h.allW hl hg h1) (h.allW hl hh h2)
 have e : mkGm (gs.map formG) (hs.map formG) = mkG gs hs := by unfold mkGm; rw [h.gof hg, h.gof hh]
 rw [e] at hi ⊢
 refine ⟨fun g hm => ?_, fun g hm x hx => ?_⟩
 ·rcases List.mem_cons.1 hm with rfl | hm
  ·exact hi
  ·exact h.is g hm
 ·rcases List.mem_cons.1 hm with rfl | hm
  ·rcases sub_mk hx with rfl | ⟨y, hy, hs⟩
   ·exact List.mem_cons_self
   ·rcases List.mem_append.1 hy with hy | hy
    ·exact List.mem_cons_of_mem _ (h.sub y (hg y hy) x hs)
    ·exact List.mem_cons_of_mem _ (h.sub y (hh y hy) x hs)
  ·exact List.mem_cons_of_mem _ (h.sub g hm x hx)
theorem Bx.anti {G G' : Pin} {w : World} {b : Nat} {cs : List Value} (h : Bx G' w b cs) (hl : Pin.le G G') : Bx G w b cs := ⟨h.heap, fun o u hu => h.free o u (hl _ _ _ hu)⟩
theorem ownV_anti {e base : Nat} {G G' : Pin} {w : World} {v : Value} {xs : List Value} (h : Own eVal e G' w base v xs) (hl : Pin.le G G') : Own eVal e G w base v xs := by
 obtain ⟨cells, h1, h2⟩ := h.ex
 exact ⟨⟨cells, h1, h2⟩, fun k hk o u hu => h.free k hk o u (hl _ _ _ hu)⟩
theorem ext_grown {x : Option Nat} {G G' : Pin} {w w' : World} (h : Ext (inO x) G w G' w') : w.grownBy w' x :=
 ⟨h.os, h.tape, h.output, h.size, fun k hk hne => h.block k hk fun hx => hne hx.symm⟩
theorem ext_back {S : Nat → Prop} {G Gx G' : Pin} {w w' : World} (hl : Pin.le G Gx) (hx : Ext S Gx w G' w') : Ext S G w G w' :=
 ⟨Pin.le_refl _, fun b o u hu => hx.pins b o u (hx.le _ _ _ (hl _ _ _ hu)), fun _ _ _ h => Or.inl h, hx.os, hx.tape, hx.output, hx.size, hx.block⟩
structure Tk (e base : Nat) (G : Pin) (w : World) (v : Value) (ns : List Nd) : Prop where
 own : ∃ Gi, Own eNode e Gi w base v ns ∧ Pin.le Gi G
 rd : RSl eNode G v ns
 lo : 1 ≤ ns.length
section
variable {e base : Nat} {G G' : Pin} {w w' : World} {v : Value} {ns : List Nd} {x row : Option Nat}
theorem Tk.blk (h : Tk e base G w v ns) : ∀ k, v.ownBlock = some k → ∃ o u, G k o u := fun k hk => by
 obtain ⟨a, b, o, n, c, cs, hv, hk2, hr, hg⟩ := h.rd.at_ 0 _ (List.getElem?_eq_getElem h.lo)
 have hb : a.block = b := by
  have h := congrArg Addr.block (hk2 0)
  refine Eq.trans ?_ h
  simp only [Addr.add]; split <;> rfl
 have hl := eNode.len hr
 have hc : 0 < cs.length := by rw [hl]; decide
 refine ⟨o + 0, cs[0], ?_⟩
 have h1 := hg 0 _ (List.getElem?_eq_getElem hc)
 rw [hv] at hk
 have : k = b := by rw [← hb]; exact (Option.some.inj hk).symm
 rw [this]; exact h1
theorem Tk.le (h : Tk e base G w v ns) (hl : Pin.le G G') : Tk e base G' w v ns := by
 obtain ⟨Gi, h1, h2⟩ := h.own
 exact ⟨⟨Gi, h1, dW h2 hl⟩, h.rd.mono hl, h.lo⟩
theorem Tk.kept (h : Tk e base G w v ns) (hg : w.grownBy w' row) (hf : ∀ k, row = some k → ∀ o u, ¬ G k o u) : Tk e base G w' v ns := by
 obtain ⟨Gi, h1, h2⟩ := h.own
 refine ⟨⟨Gi, h1.keptA hg (fun k a b => ?_), h2⟩, h.rd, h.lo⟩
 obtain ⟨o, u, hu⟩ := h.blk k a
 exact hf k b o u hu
theorem Tk.below (h : Tk e base G w v ns) (hb : Below w.heap.size w w') : Tk e base G w' v ns := h.kept (Below.grownBy hb none) fun _ hk => by cases hk
theorem Tk.ext (h : Tk e base G w v ns) (hx : Ext noS G w G' w') : Tk e base G' w' v ns := (h.below hx.below).le hx.le
theorem Tk.turned (h : Tk e base G w v ns) (hx : Ext (inO x) G w G' w') (hf : ∀ k, x = some k → ∀ o u, ¬ G k o u) : Tk e base G' w' v ns := (h.kept (ext_grown hx) hf).le hx.le
theorem Tk.one (h : Tk e base G w v ns) : v.oneCell' = true := h.rd.one
theorem Tk.give {S : Nat → Prop} {G0 : Pin} {w0 : World} (h : Tk e w0.heap.size G w v ns) (hP : Pins G0 w0) (hx : Ext S G0 w0 G w) : ∃ G2, Own eNode e G2 w w0.heap.size v ns ∧ Ext S G0 w0 G2 w ∧ Pin.le G2 G := by
 obtain ⟨Gi, h1, h2⟩ := h.own
 have h2' : Pin.le (fun b o u => Gi b o u ∨ G0 b o u) G := fun b o u hu => hu.elim (h2 b o u) (hx.le b o u)
 refine ⟨fun b o u => Gi b o u ∨ G0 b o u, h1.mono (fun b o u hu => Or.inl hu) (fun k hk o u hu => ?_), ⟨fun b o u hu => Or.inr hu, fun b o u hu => hx.pins b o u (h2' b o u hu), fun b o u hu => hx.fresh b o u (h2' b o u hu), hx.os, hx.tape, hx.output, hx.size, hx.block⟩, h2'⟩
 rcases hu with hu | hu
 ·exact h1.free k hk o u hu
 ·have a := (h1.lt k hk).1
  have b := kW (hP k o u hu)
  omega
end
def Fr (e base : Nat) (G : Pin) (w : World) (Q : List Nat) (vs : List Value) : Prop := ∀ v ∈ vs, ∃ g, g ∈ Q ∧ Tk e base G w v (formG g)
section
variable {e base : Nat} {G G' : Pin} {w w' : World} {Q : List Nat} {vs : List Value} {x row : Option Nat}
theorem Fr.nil : Fr e base G w Q [] := fun _ h => (List.not_mem_nil h).elim
theorem Fr.le (h : Fr e base G w Q vs) (hl : Pin.le G G') : Fr e base G' w Q vs := fun v hv => let ⟨g, a, b⟩ := h v hv; ⟨g, a, b.le hl⟩
theorem Fr.below (h : Fr e base G w Q vs) (hb : Below w.heap.size w w') : Fr e base G w' Q vs := fun v hv => let ⟨g, a, b⟩ := h v hv; ⟨g, a, b.below hb⟩
theorem Fr.ext (h : Fr e base G w Q vs) (hx : Ext noS G w G' w') : Fr e base G' w' Q vs := fun v hv => let ⟨g, a, b⟩ := h v hv; ⟨g, a, b.ext hx⟩
theorem Fr.kept (h : Fr e base G w Q vs) (hg : w.grownBy w' row) (hf : ∀ k, row = some k → ∀ o u, ¬ G k o u) : Fr e base G w' Q vs := fun v hv => let ⟨g, a, b⟩ := h v hv; ⟨g, a, b.kept hg hf⟩
theorem Fr.turned (h : Fr e base G w Q vs) (hx : Ext (inO x) G w G' w') (hf : ∀ k, x = some k → ∀ o u, ¬ G k o u) : Fr e base G' w' Q vs := fun v hv => let ⟨g, a, b⟩ := h v hv; ⟨g, a, b.turned hx hf⟩
theorem Fr.mem (h : Fr e base G w Q vs) {us : List Value} (hu : ∀ u ∈ us, u ∈ vs) : Fr e base G w Q us := fun v hv => h v (hu v hv)
theorem Fr.wide (h : Fr e base G w Q vs) {base' : Nat} (hb : base' ≤ base) : Fr e base' G w Q vs := fun v hv => by
 obtain ⟨g, a, b⟩ := h v hv
 obtain ⟨Gi, h1, h2⟩ := b.own
 exact ⟨g, a, ⟨Gi, h1.weaken hb, h2⟩, b.rd, b.lo⟩
theorem Fr.cons (h : Fr e base G w Q vs) {v : Value} {g : Nat} (hv : Tk e base G w v (formG g)) : Fr e base G w (g :: Q) (v :: vs) := fun u hu => by
 rcases List.mem_cons.1 hu with rfl | hu
 ·exact ⟨g, List.mem_cons_self, hv⟩
 ·obtain ⟨k, a, b⟩ := h u hu; exact ⟨k, List.mem_cons_of_mem _ a, b⟩
theorem Fr.one (h : Fr e base G w Q vs) {v : Value} (hv : v ∈ vs) : v.oneCell' = true := let ⟨_, _, b⟩ := h v hv; b.one
theorem Fr.games (h : Fr e base G w Q vs) : ∃ gs : List Nat, gs.length = vs.length ∧ (∀ g ∈ gs, g ∈ Q) ∧ ∀ i, i < vs.length → RSl eNode G (vs.getD i default) ((gs.map formG).getD i []) := by
 induction vs with
 | nil => exact ⟨[], rfl, fun _ h => (List.not_mem_nil h).elim, fun i hi => absurd hi (Nat.not_lt_zero i)⟩
 | cons v vs ih =>
  obtain ⟨gs, h1, h2, h3⟩ := ih fun u hu => h u (List.mem_cons_of_mem _ hu)
  obtain ⟨g, a, b⟩ := h v List.mem_cons_self
  refine ⟨g :: gs, by simp [h1], fun k hk => ?_, fun i hi => ?_⟩
  ·rcases List.mem_cons.1 hk with rfl | hk
   ·exact a
   ·exact h2 k hk
  ·cases i with
   | zero => simpa using b.rd
   | succ i => simpa using h3 i (by simpa using hi)
end
theorem vals_read {G : Pin} {v : Value} {us : List Value} {fs : List (List Nd)} (hr : RSl eVal G v us) (hl : fs.length = us.length) (hk : ∀ i, i < us.length → RSl eNode G (us.getD i default) (fs.getD i [])) : RSl (eSl eNode) G v fs := by
 obtain ⟨a, c, e, q, g⟩ := hr.sl
 refine ⟨⟨a, c, by rw [e, hl], by omega, g⟩, fun i f hi => ?_⟩
 have hi' : i < fs.length := (List.getElem?_eq_some_iff.1 hi).1
 obtain ⟨a, b, o, n, c, cs, h, j, k, l⟩ := hr.at_ i _ (List.getElem?_eq_getElem (show i < us.length by omega))
 refine ⟨a, b, o, n, c, cs, h, j, ?_, l⟩
 have d := hk i (by omega)
 have m : us.getD i default = us[i]'(by omega) := by simp [List.getD, show i < us.length by omega]
 have p : fs.getD i [] = f := by simp [List.getD, hi]
 rw [m, p] at d
 exact ⟨_, k.1, d⟩
theorem rL (n : Int) : 0 ≤ IntKind.u64.wrap n ∧ IntKind.u64.wrap n < 18446744073709551616 := by
 unfold IntKind.wrap
 simp only [IntKind.bits, IntKind.signed]
 have h1 := Int.emod_nonneg n (b := (2 : Int) ^ 64) (by decide)
 have h2 := Int.emod_lt_of_pos n (b := (2 : Int) ^ 64) (by decide)
 simp at h1 h2 ⊢
 omega
theorem snoc_mem {α : Type} {l : List α} {x : α} : ∀ v ∈ l ++ [x], v ∈ x :: l := fun v hv => by
 rcases List.mem_append.1 hv with h | h
 ·exact List.mem_cons_of_mem _ h
 ·rw [List.mem_singleton.1 h]; exact List.mem_cons_self
section
variable {P : Program} {ρ : Operand → Value} {w : World} {K : Value → World → Prop} {d : Option Nat} {t ty e : Nat} {pos : String} {aft : Array Edge} {g : Option (Nat × Bool)} {x y : Operand} {G : Pin} {v : Value}
variable {xs : List Nd} {z : Int} {u : Value} {l : List Int}
theorem run_setNL {base : Nat} (hs : (P.info? t).map (·.size) = some 1) (hx : ρ x = eptr v z 2 0) (hy : ρ y = u) (hu : RSl eInt G u l) (hP : Pins G w) (hv : Own eNode e G w base v xs) (h0 : 0 ≤ z) (h1 : z < xs.length) :
  ∃ w', (execOp ρ ⟨d, .store t x y, ty, pos, aft, g⟩).run P w = .ok .skip w' ∧ Own eNode e G w' base v (xs.set z.toNat ⟨l, (xs.getD z.toNat default).r⟩) ∧ Pins G w' ∧ w.grownBy w' v.ownBlock ∧ w'.heap.size = w.heap.size := by
 have hz : z.toNat < xs.length := by omega
 obtain ⟨cells, hown, hr⟩ := hv.ex
 have hel := hr z.toNat _ (List.getElem?_eq_getElem hz)
 have m : xs[z.toNat] = xs.getD z.toNat default := by simp [List.getD, hz]
 rw [m] at hel
 obtain ⟨n, b, hcells, o, h⟩ := hel
 have hone := hu.one
 have aj := h.one
 obtain ⟨gb, w', hb, hp, hrun, i, p, s, a4⟩ := hv.setAt (P := P) h0 h1 (q := ⟨l, (xs.getD z.toNat default).r⟩) (cs := [u, b]) ⟨u, b, rfl, hu, h⟩ hP
 rcases hown.2 with ⟨rfl, o⟩ | ⟨g', cap, cur, rfl, hbg, hg, hnc, hcm, hcs, htake⟩
 ·omega
 ·have hgb : gb = g' := by simpa [Value.ownBlock] using hb.symm
  subst hgb
  have e2 : eNode.size = 2 := rfl
  rw [e2] at hrun hcs htake hcells hp
  have ac : z.toNat * 2 + 2 ≤ cur.size := by omega
  rw [← htake] at hcells
  have hc : ∀ k a, ([n, b] : List Value)[k]? = some a → cur.toList[z.toNat * 2 + k]? = some a := fun k a ha => by
   have hk : k < 2 := by have := (List.getElem?_eq_some_iff.1 ha).1; simpa using this
   have j : ((((cur.toList.take (xs.length * 2)).drop (z.toNat * 2)).take 2)[k]?) = some a := by rw [hcells]; exact ha
   rw [List.getElem?_take, if_pos hk, List.getElem?_drop, List.getElem?_take, if_pos (by omega)] at j
   exact j
  have c1 := hc 1 _ rfl
  have c := run_storeCells_at P gb (z.toNat * 2) e [u, b] 0 cur w hg (by simpa using ac) (by intro a ha; simp at ha; rcases ha with rfl | rfl <;> assumption)
  have f := run_storeCells_at P gb (z.toNat * 2) e [u] 0 cur w hg (by simp; omega) (by intro a ha; simp at ha; subst ha; assumption)
  simp only [Nat.add_zero] at c f
  have hw : w' = w.setRow gb (cur.toList.take (z.toNat * 2) ++ [u] ++ cur.toList.drop (z.toNat * 2 + [u].length)).toArray := by
   rw [hrun] at c
   have ae := (Result.ok.inj c).2
   rw [ae]
   congr 2
   have af : cur.toList.drop (z.toNat * 2 + 1) = b :: cur.toList.drop (z.toNat * 2 + 2) := by
    obtain ⟨h7, h8⟩ := List.getElem?_eq_some_iff.1 c1
    rw [List.drop_eq_getElem_cons h7, h8]
   simp [af]
  have hpt : eptr (.slice (some ⟨gb, 0, none⟩) xs.length cap) z 2 0 = .pointer (some ⟨gb, z.toNat * 2, none⟩) := by
   clear hx hrun c f hw hr hc hp i hv hown
   simp only [eptr, Addr.add]; split <;> simp_all
  rw [hpt] at hx
  refine ⟨w', ?_, i, p, s, a4⟩
  have hlv : (storeVar t ⟨gb, z.toNat * 2, none⟩ u).run P w = .ok () w' := by
   have ai : u.cells = #[u] := xM hone
   unfold storeVar
   simp only [Sem.run_bind, xZ hs, Result.andThen_ok, ai]
   simp only [List.size_toArray, List.length_cons, List.length_nil, Nat.zero_add, ne_eq, not_true_eq_false, if_false]
   rw [f, hw]
  simp only [execOp, hx, hy, Instr.storeAt, Instr.sureAddr, Sem.run_bind, Sem.run_pure, Result.andThen_ok, hlv]
theorem o_setNL {base : Nat} (hs : (P.info? t).map (·.size) = some 1) (hx : ρ x = eptr v z 2 0) (hy : ρ y = u) (hu : RSl eInt G u l) (hP : Pins G w) (hv : Own eNode e G w base v xs) (h0 : 0 ≤ z) (h1 : z < xs.length)
  (h : ∀ w', Own eNode e G w' base v (xs.set z.toNat ⟨l, (xs.getD z.toNat default).r⟩) → Pins G w' → w.grownBy w' v.ownBlock → w'.heap.size = w.heap.size → K undef w') : EO P ρ ⟨d, .store t x y, ty, pos, aft, g⟩ w K := by
 obtain ⟨w', h2, h3, h4, h5, h6⟩ := run_setNL (d := d) (ty := ty) (pos := pos) (aft := aft) (g := g) hs hx hy hu hP hv h0 h1
 exact EO.skip h2 (h w' h3 h4 h5 h6)
end
end Go.GL
namespace Go.GL
open Go Go.RowKit
end Go.GL
namespace Go.GL
open Go Go.RowKit
end Go.GL
namespace Go.GL
open Go Go.RowKit
theorem fit_good {g : Nat} (h : fitB g = true) : GoodP (frmG g) ∧ gOf (frmG g) = g := by
 have hp := decP_true.1 h
 have e : frmG g = formG g := by unfold frmG; rw [if_pos h]
 by_cases hx : ∃ ns, IsForm g ns
 ·obtain ⟨ns, hf⟩ := hx
  rw [e, hf.eq]
  rw [hf.eq] at hp
  exact ⟨sg_good hf.1 hp, hf.2⟩
 ·exfalso
  have hn : formG g = [] := by unfold formG; exact dif_neg hx
  have hl := hp.lim.1
  rw [hn] at hl
  exact absurd hl (by decide)
end Go.GL
namespace Go.GL
end Go.GL
namespace Go.GL
open Go Go.RowKit
variable {t z : Int} {p x g : Nat} {fs : List Nd}
theorem c_retcd {P : Program} {n : Nat} {env : Nat → Value} {w : World} {fn : Func} {R : Ending → World → Prop} {s t b s2 b2 t2 : Nat} {cs ds : List Value} (hr : fn.results = #[.cell s t, .cell s2 t2]) (hs : Nat.blt s n = true) (hs2 : Nat.blt s2 n = true) (hv : env s = .pointer (some ⟨b, 0, none⟩)) (hv2 : env s2 = .pointer (some ⟨b2, 0, none⟩)) (ha : (P.underlying t).map aggD = some true) (hz : (P.info? t).map (·.size) = some cs.length) (ha2 : (P.underlying t2).map aggD = some true) (hz2 : (P.info? t2).map (·.size) = some ds.length)
  (hc : ∀ j u, cs[j]? = some u → w.cell? ⟨b, 0 + j, none⟩ = some u) (hd : ∀ j u, ds[j]? = some u → w.cell? ⟨b2, 0 + j, none⟩ = some u) (h : R (.returned (.tuple #[.agg cs.toArray, .agg ds.toArray])) w) : bodyPost P fn R .ret (F n env) w := by
 have h2 : s < n := by simpa [Nat.blt_eq] using hs
 have h3 : s2 < n := by simpa [Nat.blt_eq] using hs2
 have key : ∀ (t b : Nat) (cs : List Value), (P.underlying t).map aggD = some true → (P.info? t).map (·.size) = some cs.length → (∀ j u, cs[j]? = some u → w.cell? ⟨b, 0 + j, none⟩ = some u) → (loadVar t ⟨b, 0, none⟩).run P w = .ok (.agg cs.toArray) w := fun t b cs ha hz hc => by
  have hcell : ∀ j u, cs[j]? = some u → w.cell? ((⟨b, 0, none⟩ : Addr).add j) = some u := fun j u hj => by
   have := hc j u hj
   simp only [Addr.add]
   split
   ·simp_all
   ·exact this
  unfold loadVar
  simp only [Sem.run_bind, jF ha, Result.andThen_ok, if_true, xZ hz, run_loadCells_list (P := P) w ⟨b, 0, none⟩ cs hcell, Sem.run_pure]
 have hl1 := key t b cs ha hz hc
 have hl2 := key t2 b2 ds ha2 hz2 hd
 refine bodyPost_ret (v := .tuple #[.agg cs.toArray, .agg ds.toArray]) ?_ rfl h
 have he : (F n env).tmps[s]?.getD undef = .pointer (some ⟨b, 0, none⟩) := by simp [F, h2, hv]
 have he2 : (F n env).tmps[s2]?.getD undef = .pointer (some ⟨b2, 0, none⟩) := by simp [F, h3, hv2]
 simp [results, hr, he, he2, asAddr, hl1, hl2]
theorem tL {n : Nat} (hn : n ≤ 16) (ht : -1000 ≤ t ∧ t ≤ 1000) : GoodD (lowD n t).1 (((lowD n t).2 : Nat) : Int) := by
 have h1 := vK n t
 have h2 := mA n t
 exact ⟨by omega, by omega, h1.2.elim (fun e => Or.inl (by omega)) fun e => Or.inr fun x => e ((gN _).1 x)⟩
noncomputable def bdI (t z : Int) : Int := if decP (GoodD t z) = true then (bornD z.toNat t : Int) else 0
theorem bd_no (h : decP (GoodD t z) = false) : bdI t z = 0 := by unfold bdI; rw [h]; rfl
theorem bd_yes (h : decP (GoodD t z) = true) : bdI t z = (bornD z.toNat t : Int) := by unfold bdI; rw [if_pos h]
theorem bd_int (h : z = 0) : (bornD z.toNat t : Int) = max t (-t) := by
 subst h
 unfold bornD
 rw [show (0 : Int).toNat = 0 from rfl, if_pos rfl]; omega
theorem bd_dy (h : ¬ z = 0) (h1 : 0 ≤ z) : (bornD z.toNat t : Int) = ((t.natAbs / 2 ^ z.toNat : Nat) : Int) + z + 1 := by
 unfold bornD
 rw [if_neg (by omega)]; omega
theorem sU : ∀ (k : Nat) (a : Int), bornD (lowD k a).2 (lowD k a).1 ≤ (a.natAbs - 1) / 2 ^ k + k + 1
 | 0, a => by
  show bornD 0 a ≤ _
  unfold bornD
  rw [if_pos rfl, Nat.pow_zero, Nat.div_one]; omega
 | k + 1, a => by
  have hd : ∀ x : Nat, x / 2 ^ (k + 1) = x / 2 / 2 ^ k := fun x => by rw [Nat.pow_succ, Nat.mul_comm, ← Nat.div_div_eq_div_mul]
  rw [hd]
  by_cases h : a % 2 = 0
  ·rw [tM h]
   have ih := sU k (a / 2)
   rw [show (a / 2).natAbs - 1 = (a.natAbs - 1) / 2 by omega] at ih
   omega
  ·rw [low_odd h]
   show bornD (k + 1) a ≤ _
   unfold bornD
   rw [if_neg (by omega), hd, show a.natAbs / 2 = (a.natAbs - 1) / 2 by omega]; omega
structure KidD (p : Nat) (t : Int) (q : Nat) (s : Int) : Prop where
 red : q = 0 ∨ s % 2 ≠ 0
 born : bornD q s < bornD p t
 good : GoodD t (p : Int) → GoodD s (q : Int)
theorem kid_int {s : Int} (h : s.natAbs + 1 = t.natAbs) : KidD 0 t 0 s :=
 ⟨Or.inl rfl, by unfold bornD; rw [if_pos rfl, if_pos rfl]; omega, fun g => ⟨by have := g.top; omega, g.pow, Or.inl rfl⟩⟩
theorem kid_dy {k : Nat} {a : Int} (ha : 2 * a = t - 1 ∨ 2 * a = t + 1) : KidD (k + 1) t (lowD k a).2 (lowD k a).1 := by
 have hg := vK k a
 refine ⟨hg.2, ?_, fun g => ⟨?_, ?_, hg.2.elim (fun e => Or.inl (by omega)) fun e => Or.inr fun x => e ((gN _).1 x)⟩⟩
 ·have h := sU k a
  have hm : (a.natAbs - 1) / 2 ^ k ≤ t.natAbs / 2 ^ (k + 1) := by
   rw [Nat.pow_succ, Nat.mul_comm, ← Nat.div_div_eq_div_mul]
   exact Nat.div_le_div_right (by omega)
  unfold bornD at h ⊢
  rw [if_neg (show ¬ k + 1 = 0 by omega)]
  omega
 ·have := mA k a
  have := g.top
  omega
 ·have := g.pow; omega
theorem kid_of (hr : p = 0 ∨ t % 2 ≠ 0) (hx : loG (dyG p t) x ∨ roG (dyG p t) x) : ∃ (q : Nat) (s : Int), x = dyG q s ∧ KidD p t q s := by
 rcases mQ p t hr with ⟨rfl, rfl, e⟩ | ⟨rfl, h, e⟩ | ⟨rfl, h, e⟩ | ⟨k, rfl, h, e⟩
 ·rw [e, lo_mk, ro_mk] at hx
  exact hx.elim (fun h => absurd h List.not_mem_nil) fun h => absurd h List.not_mem_nil
 ·rw [e, lo_mk, ro_mk] at hx
  rcases hx with hx | hx
  ·exact ⟨0, t - 1, List.mem_singleton.1 hx, kid_int (by omega)⟩
  ·exact absurd hx List.not_mem_nil
 ·rw [e, lo_mk, ro_mk] at hx
  rcases hx with hx | hx
  ·exact absurd hx List.not_mem_nil
  ·exact ⟨0, t + 1, List.mem_singleton.1 hx, kid_int (by omega)⟩
 ·rw [e, lo_mk, ro_mk] at hx
  rcases hx with hx | hx
  ·exact ⟨_, _, (List.mem_singleton.1 hx).trans (rD k _).symm, kid_dy (by omega)⟩
  ·exact ⟨_, _, (List.mem_singleton.1 hx).trans (rD k _).symm, kid_dy (by omega)⟩
theorem btw_least (h : Btw g x) (hm : ∀ z, loG x z ∨ roG x z → ¬ Btw g z) : eqG g x := by
 obtain ⟨h1, h2, h3⟩ := h
 have key : ∀ y, (loG x y ∨ roG x y) → NumD y → (∃ l, loG g l ∧ geG l y) ∨ ∃ r, roG g r ∧ geG y r := fun y hy hn => by
  by_cases a : ∃ l, loG g l ∧ geG l y
  ·exact Or.inl a
  ·by_cases b : ∃ r, roG g r ∧ geG y r
   ·exact Or.inr b
   ·exact absurd ⟨hn, fun l hl hg => a ⟨l, hl, hg⟩, fun r hr hg => b ⟨r, hr, hg⟩⟩ (hm y hy)
 refine ⟨ge_iff.2 ⟨h3, fun y hy hg => ?_⟩, ge_iff.2 ⟨fun y hy hg => ?_, h2⟩⟩
 ·obtain ⟨n1, n2⟩ := h1.left hy
  rcases key y (Or.inl hy) n1 with ⟨l, a, b⟩ | ⟨r, a, b⟩
  ·exact vC a (xL b hg)
  ·exact h3 r a (xL n2 b)
 ·obtain ⟨n1, n2⟩ := h1.right hy
  rcases key y (Or.inr hy) n1 with ⟨l, a, b⟩ | ⟨r, a, b⟩
  ·exact h2 l a (xL b n2)
  ·exact vI a (xL hg b)
theorem eR {g : Nat} : ∀ (n p : Nat) (t : Int), bornD p t < n → GoodD t (p : Int) → Btw g (dyG p t) →
  ∃ (q : Nat) (s : Int), GoodD s (q : Int) ∧ eqG (dyG q s) g ∧ (q = p ∧ s = t ∨ bornD q s < bornD p t)
 | 0, _, _, h, _, _ => absurd h (Nat.not_lt_zero _)
 | n + 1, p, t, h, hg, hb => by
  by_cases hx : ∃ z, (loG (dyG p t) z ∨ roG (dyG p t) z) ∧ Btw g z
  ·obtain ⟨z, hz, hbz⟩ := hx
   obtain ⟨q, s, rfl, hk⟩ := kid_of hg.red hz
   have h1 := hk.born
   obtain ⟨q2, s2, h3, h4, h5⟩ := eR n q s (by omega) (hk.good hg) hbz
   refine ⟨q2, s2, h3, h4, Or.inr ?_⟩
   rcases h5 with ⟨rfl, rfl⟩ | h5 <;> omega
  ·exact ⟨p, t, hg, (btw_least hb fun z hz hbz => hx ⟨z, hz, hbz⟩).symm, Or.inl ⟨rfl, rfl⟩⟩
theorem deep_mono : ∀ {n c g : Nat}, c ≤ g → Deep c n → Deep g n
 | 0, _, g, _, _ => .zero g
 | n + 1, c, g, h, hd => by
  have key : ∀ {k i : Nat}, c.testBit k = true → i = k / 2 → Deep i n → Deep g (n + 1) := fun {k i} hb hi hdi => by
   obtain ⟨j, h1, h2⟩ := Nat.exists_ge_and_testBit_of_ge_two_pow (Nat.le_trans (Nat.ge_two_pow_of_testBit hb) h)
   have h3 : Deep (j / 2) n := deep_mono (by omega) hdi
   rcases Nat.mod_two_eq_zero_or_one j with e | e
   ·exact .left (show g.testBit (2 * (j / 2)) = true by rw [show 2 * (j / 2) = j by omega]; exact h2) h3
   ·exact .right (show g.testBit (2 * (j / 2) + 1) = true by rw [show 2 * (j / 2) + 1 = j by omega]; exact h2) h3
  cases hd with
  | left hl hk => exact key hl (by omega) hk
  | right hl hk => exact key hl (by omega) hk
theorem deep_form (hg : GoodP fs) {n : Nat} (h : Deep (gOf fs) n) : n + 1 ≤ fs.length := by
 obtain ⟨l, h1, h2, h3⟩ := h.subs
 have := h2.length_le_of_subset (l₂ := subL fs) fun x hx => subL_mem (good_sg hg) (h3 x hx)
 rw [subL_len] at this
 omega
structure NumL (g n : Nat) (fs : List Nd) : Prop where
 len : fs.length = n + 1
 ok : OptsOk fs
 lens : ∀ i, i < fs.length → (fs.getD i default).l.length ≤ 1 ∧ (fs.getD i default).r.length ≤ 1
 is : den fs n = g
theorem optsOk_at {ns : List Nd} (h : ∀ i, i < ns.length → (∀ z ∈ (ns.getD i default).l, 0 ≤ z ∧ z < (i : Int)) ∧ (∀ z ∈ (ns.getD i default).r, 0 ≤ z ∧ z < (i : Int))) : OptsOk ns := fun i n hn => by
 obtain ⟨hi, rfl⟩ := List.getElem?_eq_some_iff.1 hn
 have := h i hi
 rwa [show ns.getD i default = ns[i] by simp [List.getD, hi]] at this
theorem NumL.put {n : Nat} (h : NumL g n fs) {l r : List Int} (hl : l.length ≤ 1 ∧ r.length ≤ 1) (h1 : ∀ z ∈ l, 0 ≤ z ∧ z < (fs.length : Int)) (h2 : ∀ z ∈ r, 0 ≤ z ∧ z < (fs.length : Int)) {a b : List Nat} (ha : l.map (fun z => den fs z.toNat) = a) (hb : r.map (fun z => den fs z.toNat) = b) :
  NumL (mkG a b) (n + 1) (fs ++ [(⟨l, r⟩ : Nd)]) := by
 have hlen := h.len
 have hat : (fs ++ [(⟨l, r⟩ : Nd)]).getD fs.length default = ⟨l, r⟩ := xI rfl
 have hok : OptsOk (fs ++ [(⟨l, r⟩ : Nd)]) := optsOk_at fun i hi => by
  by_cases e : i = fs.length
  ·subst e; rw [hat]; exact ⟨h1, h2⟩
  ·rw [List.length_append, List.length_singleton] at hi
   rw [yW (by omega)]
   exact xA h.ok (by omega)
 refine ⟨by rw [List.length_append, h.len]; rfl, hok, fun i hi => ?_, ?_⟩
 ·by_cases e : i = fs.length
  ·subst e; rw [hat]; exact hl
  ·rw [List.length_append, List.length_singleton] at hi
   rw [yW (by omega)]
   exact h.lens i (by omega)
 ·rw [jN hok (show n + 1 < (fs ++ [(⟨l, r⟩ : Nd)]).length by rw [List.length_append, List.length_singleton]; omega), show n + 1 = fs.length by omega, hat]
  show mkG (l.map fun z : Int => den (fs ++ [(⟨l, r⟩ : Nd)]) z.toNat) (r.map fun z : Int => den (fs ++ [(⟨l, r⟩ : Nd)]) z.toNat) = mkG a b
  rw [List.map_congr_left (l := l) (g := fun z : Int => den fs z.toNat) fun z hz => mS (by have := h1 z hz; omega), List.map_congr_left (l := r) (g := fun z : Int => den fs z.toNat) fun z hz => mS (by have := h2 z hz; omega), ha, hb]
theorem NumL.opt {n : Nat} (h : NumL g n fs) (hx : loG g x ∨ roG g x) : ∃ z : Int, (0 ≤ z ∧ z < (fs.length : Int)) ∧ den fs z.toNat = x := by
 have hn : n < fs.length := by have := h.len; omega
 rw [← h.is] at hx
 have oo := xA h.ok hn
 rcases hx with hx | hx
 ·obtain ⟨z, h1, h2⟩ := (xX h.ok hn).1 hx
  exact ⟨z, by have := oo.1 z h1; omega, h2.symm⟩
 ·obtain ⟨z, h1, h2⟩ := (xW h.ok hn).1 hx
  exact ⟨z, by have := oo.2 z h1; omega, h2.symm⟩
theorem NumL.last {n : Nat} (h : NumL g n fs) : (0 ≤ (n : Int) ∧ (n : Int) < (fs.length : Int)) ∧ den fs ((n : Int)).toNat = g := ⟨by have := h.len; omega, h.is⟩
theorem kids_two (k : Nat) (u : Int) : (bornD (k + 1) (2 * u + 1) = bornD k u + 1 ∧ (k = 0 ∨ u % 2 ≠ 0) ∧ (loG (dyG k u) (dyG k (u + 1)) ∨ roG (dyG k u) (dyG k (u + 1)))) ∨
  (bornD (k + 1) (2 * u + 1) = bornD k (u + 1) + 1 ∧ (k = 0 ∨ (u + 1) % 2 ≠ 0) ∧ (loG (dyG k (u + 1)) (dyG k u) ∨ roG (dyG k (u + 1)) (dyG k u))) := by
 have hd : ∀ (x j : Nat), x / 2 ^ (j + 1) = x / 2 / 2 ^ j := fun x j => by rw [Nat.pow_succ, Nat.mul_comm, ← Nat.div_div_eq_div_mul]
 cases k with
 | zero =>
  by_cases h : 0 ≤ u
  ·refine Or.inr ⟨?_, Or.inl rfl, Or.inl ?_⟩
   ·unfold bornD
    rw [if_neg (by omega), if_pos rfl]; omega
   ·show loG (intG (u + 1)) (intG u)
    rw [gA (by omega), show u + 1 - 1 = u by omega]
    exact lo_mk.2 (List.mem_singleton_self _)
  ·refine Or.inl ⟨?_, Or.inl rfl, Or.inr ?_⟩
   ·unfold bornD
    rw [if_neg (by omega), if_pos rfl]; omega
   ·show roG (intG u) (intG (u + 1))
    rw [gB (t := u) (by omega)]
    exact ro_mk.2 (List.mem_singleton_self _)
 | succ j =>
  by_cases h : u % 2 = 0
  ·refine Or.inr ⟨?_, Or.inr (by omega), Or.inl ?_⟩
   ·unfold bornD
    rw [if_neg (by omega), if_neg (by omega), hd _ (j + 1), hd _ j, hd _ j, show (2 * u + 1).natAbs / 2 / 2 = (u + 1).natAbs / 2 by omega]; omega
   ·rw [vS (show (u + 1) % 2 ≠ 0 by omega), qV h, show (u + 1 - 1) / 2 = u / 2 by omega]
    exact lo_mk.2 (List.mem_singleton_self _)
  ·refine Or.inl ⟨?_, Or.inr h, Or.inr ?_⟩
   ·unfold bornD
    rw [if_neg (by omega), if_neg (by omega), hd _ (j + 1), hd _ j, hd _ j, show (2 * u + 1).natAbs / 2 / 2 = u.natAbs / 2 by omega]; omega
   ·rw [vS h, qV (show (u + 1) % 2 = 0 by omega)]
    exact ro_mk.2 (List.mem_singleton_self _)
theorem gV : ∀ (n p : Nat) (t : Int), (p = 0 ∨ t % 2 ≠ 0) → bornD p t = n → ∃ fs, NumL (dyG p t) n fs
 | n, p, t, hr, hn => by
  rcases mQ p t hr with ⟨rfl, rfl, e⟩ | ⟨rfl, h, e⟩ | ⟨rfl, h, e⟩ | ⟨k, rfl, h, e⟩
  ·subst hn
   rw [e]
   refine ⟨[⟨[], []⟩], rfl, optsOk_at fun i hi => ?_, fun i hi => ?_, rfl⟩
   ·have : i = 0 := by simpa using hi
    subst this
    exact ⟨fun z hz => absurd hz List.not_mem_nil, fun z hz => absurd hz List.not_mem_nil⟩
   ·have : i = 0 := by simpa using hi
    subst this
    exact ⟨Nat.zero_le _, Nat.zero_le _⟩
  ·have hb : bornD 0 (t - 1) + 1 = n := by subst hn; unfold bornD; rw [if_pos rfl, if_pos rfl]; omega
   obtain ⟨fs, hf⟩ := gV (bornD 0 (t - 1)) 0 (t - 1) (Or.inl rfl) rfl
   have hl := hf.last
   rw [e, ← hb]
   exact ⟨_, hf.put (l := [((bornD 0 (t - 1) : Nat) : Int)]) (r := []) ⟨Nat.le_refl 1, Nat.zero_le _⟩ (fun z hz => by rw [List.mem_singleton.1 hz]; exact hl.1) (fun z hz => absurd hz List.not_mem_nil) (by rw [List.map_singleton, hl.2]) rfl⟩
  ·have hb : bornD 0 (t + 1) + 1 = n := by subst hn; unfold bornD; rw [if_pos rfl, if_pos rfl]; omega
   obtain ⟨fs, hf⟩ := gV (bornD 0 (t + 1)) 0 (t + 1) (Or.inl rfl) rfl
   have hl := hf.last
   rw [e, ← hb]
   exact ⟨_, hf.put (r := [((bornD 0 (t + 1) : Nat) : Int)]) (l := []) ⟨Nat.zero_le _, Nat.le_refl 1⟩ (fun z hz => absurd hz List.not_mem_nil) (fun z hz => by rw [List.mem_singleton.1 hz]; exact hl.1) rfl (by rw [List.map_singleton, hl.2])⟩
  ·obtain ⟨u, hu⟩ : ∃ u, t = 2 * u + 1 := ⟨(t - 1) / 2, by omega⟩
   subst hu
   rw [show (2 * u + 1 - 1) / 2 = u by omega, show (2 * u + 1 + 1) / 2 = u + 1 by omega] at e
   rw [e]
   rcases kids_two k u with ⟨h1, h2, h3⟩ | ⟨h1, h2, h3⟩
   ·obtain ⟨fs, hf⟩ := gV (bornD k u) k u h2 rfl
    have hl := hf.last
    obtain ⟨z, hz1, hz2⟩ := hf.opt h3
    rw [← hn, h1]
    exact ⟨_, hf.put (l := [((bornD k u : Nat) : Int)]) (r := [z]) ⟨Nat.le_refl 1, Nat.le_refl 1⟩ (fun x hx => by rw [List.mem_singleton.1 hx]; exact hl.1) (fun x hx => by rw [List.mem_singleton.1 hx]; exact hz1) (by rw [List.map_singleton, hl.2]) (by rw [List.map_singleton, hz2])⟩
   ·obtain ⟨fs, hf⟩ := gV (bornD k (u + 1)) k (u + 1) h2 rfl
    have hl := hf.last
    obtain ⟨z, hz1, hz2⟩ := hf.opt h3
    rw [← hn, h1]
    exact ⟨_, hf.put (l := [z]) (r := [((bornD k (u + 1) : Nat) : Int)]) ⟨Nat.le_refl 1, Nat.le_refl 1⟩ (fun x hx => by rw [List.mem_singleton.1 hx]; exact hz1) (fun x hx => by rw [List.mem_singleton.1 hx]; exact hl.1) (by rw [List.map_singleton, hz2]) (by rw [List.map_singleton, hl.2])⟩
termination_by n _ _ _ _ => n
decreasing_by
 all_goals omega
theorem num_ok (hg : GoodD t (p : Int)) (hb : bornD p t < 120) : nmB t (p : Int) = true := by
 obtain ⟨fs, hf⟩ := gV _ p t hg.red rfl
 have hlen := hf.len
 have hfo : FormOk fs := ⟨by omega, hf.ok, fun i hi => by have := hf.lens i hi; omega⟩
 obtain ⟨hok, hnk, hle⟩ := add_nk hfo (by omega)
 have ha := hnk.at_ (i := bornD p t) (by omega)
 have hi := mO hok ha.1
 have hz := ha.1.2
 have hz0 := ha.1.1
 have hfm := (mN hok.ar (m := ((addM [] [] fs).1.getD (bornD p t) 0).toNat) (by omega)).2.2
 have hbf := kK hok ha.1
 have hfl : (formG (pd (bkq (addM [] [] fs).2.1 (addM [] [] fs).2.2) ((addM [] [] fs).1.getD (bornD p t) 0))).length ≤ 120 := by
  rw [← hbf]
  have h9 : ((addM [] [] fs).1.getD (bornD p t) 0) < ((addM [] [] fs).2.1.length : Int) := hz
  refine Nat.le_trans hfm ?_
  omega
 rw [ha.2, hf.is] at hi hfl
 exact (nm_yes hg ((nG hb).2.trans (fit_yes hi hfl fun k hk => by have := one_opts hi (fZ p t) hk; omega))).1
theorem nv_goodD (h : nvB fs = true) : GoodD (nvT fs) (nvP fs) := by
 unfold nvT nvP
 rw [if_pos h, if_pos h]
 unfold nvB at h
 exact rO (Bool.and_eq_true_iff.1 h).2
theorem ft_true (h : ftV fs t z = true) : goodB fs = true ∧ nmB t z = true ∧ FitG (gOf fs) (dyG z.toNat t) := by
 unfold ftV at h
 split at h
 ·rename_i h1
  unfold ftB at h1
  obtain ⟨h2, h3⟩ := Bool.and_eq_true_iff.1 h1
  exact ⟨h2, h3, decP_true.1 h⟩
 ·cases h
theorem fits_is (h : ftV fs t z = true) : nvB fs = true ∧ ((t = nvT fs ∧ z = nvP fs) ∨ bornD (nvP fs).toNat (nvT fs) < bornD z.toNat t) ∧ GoodD t z := by
 obtain ⟨f, g, b⟩ := ft_true h
 have hg := (sP g).1
 have hz := hg.pow
 obtain ⟨q, s, i, j, a⟩ := eR _ z.toNat t (Nat.lt_succ_self _) hg.nat ⟨kF _ _, b.1, b.2⟩
 obtain ⟨c, d, e⟩ := nv_good f (num_canon (kF q s)) j
 obtain ⟨k, l, m⟩ := pZ i
 rw [k] at c; rw [l] at d; rw [m] at e
 refine ⟨c, ?_, hg⟩
 rw [d, e, Int.toNat_natCast]
 rcases a with ⟨a, n⟩ | a
 ·exact Or.inl ⟨n.symm, by omega⟩
 ·exact Or.inr a
theorem fits_own (h : nvB fs = true) : ftV fs (nvT fs) (nvP fs) = true := by
 have a : goodB fs = true := by unfold nvB at h; exact (Bool.and_eq_true_iff.1 h).1
 have hgp := goodB_true.1 a
 obtain ⟨c, g, i, b⟩ := eQ _ (gOf fs) (Nat.lt_succ_self _)
 obtain ⟨d, j, k⟩ := nv_good a i b
 rw [h] at d
 obtain ⟨p, t, e, f, m, n⟩ := pM d.symm
 have hd := deep_form hgp (deep_mono g (f ▸ deep_born e.red))
 have := hgp.hi
 have hn := num_ok e (by omega)
 rw [j, k, m, n, (mM a hn).2, Int.toNat_natCast, ← f]
 exact decP_true.2 ⟨fun l hl hg => vC hl (xL hg b.1), fun r hr hg => vI hr (xL b.2 hg)⟩
theorem mC {n : Nat} (hn : n ≤ 16) (ht : -10 ≤ t ∧ t ≤ 10) :
  (FormOk (l7F ((((lowD n t).2 : Nat) : Int)).toNat (lowD n t).1) ∧ 1 ≤ (l7F ((((lowD n t).2 : Nat) : Int)).toNat (lowD n t).1).length) ∧ (l7F ((((lowD n t).2 : Nat) : Int)).toNat (lowD n t).1).length ≤ 120 ∧
   ∀ k, k < (l7F ((((lowD n t).2 : Nat) : Int)).toNat (lowD n t).1).length → ((l7F ((((lowD n t).2 : Nat) : Int)).toNat (lowD n t).1).getD k default).l.length ≤ 1000 ∧ ((l7F ((((lowD n t).2 : Nat) : Int)).toNat (lowD n t).1).getD k default).r.length ≤ 1000 := by
 have hg := tL (n := n) (t := t) hn (by omega)
 have hb := sU n t
 have hd : (t.natAbs - 1) / 2 ^ n ≤ t.natAbs - 1 := Nat.div_le_self _ _
 have hb2 : bornD (lowD n t).2 (lowD n t).1 < 120 := by omega
 have hk := num_ok hg hb2
 obtain ⟨_, e⟩ := nm_yes hg (by unfold nmB at hk; exact (Bool.and_eq_true_iff.1 hk).2)
 rw [Int.toNat_natCast, sV hb2]
 have hf := nmF_form hk
 rw [e] at hf
 have hp : GoodP (formG (dyG (lowD n t).2 (lowD n t).1)) := by
  have h9 := (sP hk).2.2
  rw [Int.toNat_natCast] at h9
  have := (fit_good h9).1
  unfold frmG at this
  rwa [if_pos h9] at this
 exact ⟨hf.1.1, hf.1.2, good_lensK hp⟩
theorem fits_last (h : nvB fs = true) : (ftV fs t z = false ∨ (t, z) = (nvT fs, nvP fs)) ∨ bdI (nvT fs) (nvP fs) < bdI t z := by
 cases hf : ftV fs t z with
 | false => exact Or.inl (Or.inl rfl)
 | true =>
  obtain ⟨_, h2, h3⟩ := fits_is hf
  rw [bd_yes (decP_true.2 (nv_goodD h)), bd_yes (decP_true.2 h3)]
  rcases h2 with ⟨h2, h4⟩ | h2
  ·exact Or.inl (Or.inr (Prod.ext h2 h4))
  ·exact Or.inr (by omega)
theorem nv_none (h : nvB fs = false) : (nvT fs, nvP fs) = ((0, 0) : Int × Int) := by
 unfold nvT nvP
 rw [h]; rfl
end Go.GL
namespace Go.GL
open Go Go.RowKit
end Go.GL
namespace Go.GL
open Go Go.RowKit
section
variable {q : PSt} {lf : Bool} {g : Nat} {W W' ss ss' kept kept' : List Int}
end
section
variable {q : PSt} {lf : Bool} {g : Nat} {ln ln' out : List Int} {i : Nat}
end
section
variable {ln ln' more : List Int} {k : Nat}
end
section
variable {q q' : PSt} {ats : List Int} {k : Nat} {fs : List Nd}
end
end Go.GL
namespace Go.GL
open Go Go.RowKit
section
variable {P : Program} {ops : Array Oper} {Q : Exit → Act → World → Prop} {md : Region.Mode} {S : World → Prop} {lt : List Nat}
variable {n fuel : Nat} {env : Nat → Value} {listed : Array Bool} {w : World} {o : Oper}
end
end Go.GL
namespace Go.GL
open Go Go.RowKit
end Go.GL
namespace Go.Proofs
open Go.Shelf
def Tryz.lays189_ren : Go.Shelf.Ren := ⟨fun | 189 => 95 | 125 => 100 | 257 => 99 | 128 => 111 | 129 => 112 | 294 => 102 | 295 => 103 | 296 => 104 | 297 => 105 | 298 => 106 | 299 => 107 | 216 => 108 | 300 => 109 | 301 => 110 | 328 => 117 | 329 => 118 | 330 => 119 | 331 => 120 | 332 => 121 | 215 => 61 | 343 => 126 | n => n, fun | 28 => 48 | 3 => 3 | 46 => 111 | 0 => 0 | 51 => 131 | 53 => 40 | 4 => 4 | 183 => 126 | 182 => 125 | 131 => 37 | 5 => 5 | 9 => 9 | 218 => 138 | 222 => 142 | 228 => 147 | 229 => 148 | n => n, fun | n => n⟩
theorem Tryz.lays189 : Go.Proofs.Lays.n189 Tryz.prog Tryz.lays189_ren := {
 mixed := by kernel_rfl
 f125 := Tryz.func100.trans (congrArg some (by kernel_rfl))
 f128 := Tryz.func111.trans (congrArg some (by kernel_rfl))
 f129 := Tryz.func112.trans (congrArg some (by kernel_rfl))
 f189 := Tryz.func95.trans (congrArg some (by kernel_rfl))
 f215 := Tryz.func61.trans (congrArg some (by kernel_rfl))
 f216 := Tryz.func108.trans (congrArg some (by kernel_rfl))
 f257 := Tryz.func99.trans (congrArg some (by kernel_rfl))
 f294 := Tryz.func102.trans (congrArg some (by kernel_rfl))
 f295 := Tryz.func103.trans (congrArg some (by kernel_rfl))
 f296 := Tryz.func104.trans (congrArg some (by kernel_rfl))
 f297 := Tryz.func105.trans (congrArg some (by kernel_rfl))
 f298 := Tryz.func106.trans (congrArg some (by kernel_rfl))
 f299 := Tryz.func107.trans (congrArg some (by kernel_rfl))
 f300 := Tryz.func109.trans (congrArg some (by kernel_rfl))
 f301 := Tryz.func110.trans (congrArg some (by kernel_rfl))
 f328 := Tryz.func117.trans (congrArg some (by kernel_rfl))
 f329 := Tryz.func118.trans (congrArg some (by kernel_rfl))
 f330 := Tryz.func119.trans (congrArg some (by kernel_rfl))
 f331 := Tryz.func120.trans (congrArg some (by kernel_rfl))
 f332 := Tryz.func121.trans (congrArg some (by kernel_rfl))
 f343 := Tryz.func126.trans (congrArg some (by kernel_rfl))
 t0 := Tryz.underlying0
 a0 := Tryz.isAgg0
 z0 := Tryz.sizeOf0
 v0 := Tryz.zeroValue0
 t3 := Tryz.underlying3
 a3 := Tryz.isAgg3
 z3 := Tryz.sizeOf3
 v3 := Tryz.zeroValue3
 t4 := Tryz.underlying4
 a4 := Tryz.isAgg4
 z4 := Tryz.sizeOf4
 v4 := Tryz.zeroValue4
 t5 := Tryz.underlying5
 a5 := Tryz.isAgg5
 z5 := Tryz.sizeOf5
 v5 := Tryz.zeroValue5
 t9 := Tryz.underlying9
 a9 := Tryz.isAgg9
 z9 := Tryz.sizeOf9
 v9 := Tryz.zeroValue9
 t28 := Tryz.underlying48
 a28 := Tryz.isAgg48
 z28 := Tryz.sizeOf48
 v28 := Tryz.zeroValue48
 t46 := Tryz.underlying111
 a46 := Tryz.isAgg111
 z46 := Tryz.sizeOf111
 v46 := Tryz.zeroValue111
 t51 := Tryz.underlying131
 a51 := Tryz.isAgg131
 z51 := Tryz.sizeOf131
 v51 := Tryz.zeroValue131
 t53 := Tryz.underlying40
 a53 := Tryz.isAgg40
 z53 := Tryz.sizeOf40
 v53 := Tryz.zeroValue40
 t131 := Tryz.underlying37
 a131 := Tryz.isAgg37
 z131 := Tryz.sizeOf37
 v131 := Tryz.zeroValue37
 t182 := Tryz.underlying125
 a182 := Tryz.isAgg125
 z182 := Tryz.sizeOf125
 v182 := Tryz.zeroValue125
 t183 := Tryz.underlying126
 a183 := Tryz.isAgg126
 z183 := Tryz.sizeOf126
 v183 := Tryz.zeroValue126
 t218 := Tryz.underlying138
 a218 := Tryz.isAgg138
 z218 := Tryz.sizeOf138
 v218 := Tryz.zeroValue138
 t222 := Tryz.underlying142
 a222 := Tryz.isAgg142
 z222 := Tryz.sizeOf142
 v222 := Tryz.zeroValue142
 t228 := Tryz.underlying147
 a228 := Tryz.isAgg147
 z228 := Tryz.sizeOf147
 v228 := Tryz.zeroValue147
 t229 := Tryz.underlying148
 a229 := Tryz.isAgg148
 z229 := Tryz.sizeOf148
 v229 := Tryz.zeroValue148 }
open Go.Sort Go.RowKit in
theorem Tryz.slices_Sort_int (blk off cap : Nat) (zs : List Int) (w : World) (hH : Holds (Value.int .i64) w blk off zs.toArray) (hblk : blk < w.heap.size) (hsz : zs.length < 4611686018427387904) :
  Calls Tryz.prog 95 #[.slice (some ⟨blk, off, none⟩) zs.length cap] w fun e w' =>
   e = .returned (.tuple #[]) ∧ ∃ n os, w' = grow (putRow (Value.int .i64) (Sort.ahead w n) blk off (zs.mergeSort fun x y => decide (x ≤ y)).toArray) os := Any.slices_Sort_int Tryz.lays189 blk off cap zs w hH hblk hsz
def Tryz.laysNm220_ren : Go.Shelf.Ren := ⟨fun | 20 => 96 | n => n, fun | 22 => 48 | 3 => 3 | 4 => 4 | 0 => 0 | n => n, fun | n => n⟩
theorem Tryz.laysNm220 : Go.Proofs.Lays2.n20 Tryz.prog Tryz.laysNm220_ren := {
 mixed := by kernel_rfl
 f20 := Tryz.func96.trans (congrArg some (by kernel_rfl))
 t0 := Tryz.underlying0
 a0 := Tryz.isAgg0
 z0 := Tryz.sizeOf0
 v0 := Tryz.zeroValue0
 t3 := Tryz.underlying3
 a3 := Tryz.isAgg3
 z3 := Tryz.sizeOf3
 v3 := Tryz.zeroValue3
 t4 := Tryz.underlying4
 a4 := Tryz.isAgg4
 z4 := Tryz.sizeOf4
 v4 := Tryz.zeroValue4
 t22 := Tryz.underlying48
 a22 := Tryz.isAgg48
 z22 := Tryz.sizeOf48
 v22 := Tryz.zeroValue48
 i3 := by kernel_rfl }
open Go.RowKit Go.Lib Go.Sort in
theorem Tryz.slices_Compact_int (blk off cap : Nat) (zs : List Int) (w : World) (hH : Holds (Value.int .i64) w blk off zs.toArray) (hsz : zs.length ≤ 9223372036854775807) (hcap : zs.length ≤ cap) :
  Calls Tryz.prog 96 #[.slice (some ⟨blk, off, none⟩) zs.length cap] w fun e w' => e = .returned (.slice (some ⟨blk, off, none⟩) (Lib.compact zs).length cap) ∧ ∃ q, w' = putRow (Value.int .i64) (Sort.ahead w q) blk off (Lib.compact zs ++ List.replicate (zs.length - (Lib.compact zs).length) 0).toArray := Any.slices_Compact_int Tryz.laysNm220 blk off cap zs w hH hsz hcap
open Go.RowKit Go.Lib Go.Sort in
theorem Tryz.slices_Compact_int_empty (a : Option Addr) (cap : Nat) (w : World) :
  Calls Tryz.prog 96 #[.slice a 0 cap] w fun e w' => e = .returned (.slice a 0 cap) ∧ w' = w := Any.slices_Compact_int_empty Tryz.laysNm220 a cap w
open Go.RowKit Go.Sort in
theorem Tryz.slices_Sort_int_none (p : Option Addr) (cap : Nat) (w : World) :
  Calls Tryz.prog 95 #[.slice p 0 cap] w fun e w' => e = .returned (.tuple #[]) ∧ w' = w := Any.slices_Sort_int_none Tryz.lays189 p cap w
end Go.Proofs
set_option maxRecDepth 20000
set_option maxHeartbeats 2000000
namespace Go.Proofs.YtjdchbdfohiaaaaGreatDoor
namespace B1
open Go.RowKit Go.GL Go.Proofs
end B1
section
open Go.RowKit Go.GL Go.Proofs
abbrev nGo := "runtime.NumGoroutine"
theorem ag22 : (Tryz.prog.underlying 22).map aggD = some false := by kernel_rfl
theorem ag24 : (Tryz.prog.underlying 24).map aggD = some false := by kernel_rfl
theorem ag26 : (Tryz.prog.underlying 26).map aggD = some true := by kernel_rfl
theorem ag28 : (Tryz.prog.underlying 28).map aggD = some true := by kernel_rfl
theorem ag3 : (Tryz.prog.underlying 3).map aggD = some false := by kernel_rfl
theorem ag4 : (Tryz.prog.underlying 4).map aggD = some false := by kernel_rfl
theorem ag40 : (Tryz.prog.underlying 40).map aggD = some false := by kernel_rfl
theorem ag48 : (Tryz.prog.underlying 48).map aggD = some false := by kernel_rfl
theorem ag49 : (Tryz.prog.underlying 49).map aggD = some false := by kernel_rfl
theorem ag5 : (Tryz.prog.underlying 5).map aggD = some false := by kernel_rfl
theorem ag50 : (Tryz.prog.underlying 50).map aggD = some false := by kernel_rfl
theorem ag51 : (Tryz.prog.underlying 51).map aggD = some false := by kernel_rfl
theorem ag52 : (Tryz.prog.underlying 52).map aggD = some false := by kernel_rfl
theorem ag69 : (Tryz.prog.underlying 69).map aggD = some true := by kernel_rfl
theorem ag81 : (Tryz.prog.underlying 81).map aggD = some true := by kernel_rfl
theorem ag85 : (Tryz.prog.underlying 85).map aggD = some false := by kernel_rfl
theorem ap26 : (Tryz.prog.info? 26).map (fun i => (i.size, i.bytes, (i.zero.map (·.cells.size)))) = some (1, 24, some 1) := by kernel_rfl
theorem ap3 : (Tryz.prog.info? 3).map (fun i => (i.size, i.bytes, (i.zero.map (·.cells.size)))) = some (1, 8, some 1) := by kernel_rfl
theorem ap48 : (Tryz.prog.info? 48).map (fun i => (i.size, i.bytes, (i.zero.map (·.cells.size)))) = some (1, 24, some 1) := by kernel_rfl
theorem ap5 : (Tryz.prog.info? 5).map (fun i => (i.size, i.bytes, (i.zero.map (·.cells.size)))) = some (1, 1, some 1) := by kernel_rfl
theorem ap69 : (Tryz.prog.info? 69).map (fun i => (i.size, i.bytes, (i.zero.map (·.cells.size)))) = some (2, 48, some 2) := by kernel_rfl
theorem nm10 : (Tryz.f10.name == nGo) = false := by kernel_rfl
theorem nm101 : (Tryz.f101.name == nGo) = false := by kernel_rfl
theorem nm11 : (Tryz.f11.name == nGo) = false := by kernel_rfl
theorem nm116 : (Tryz.f116.name == nGo) = false := by kernel_rfl
theorem nm12 : (Tryz.f12.name == nGo) = false := by kernel_rfl
theorem nm124 : (Tryz.f124.name == nGo) = false := by kernel_rfl
theorem nm13 : (Tryz.f13.name == nGo) = false := by kernel_rfl
theorem nm14 : (Tryz.f14.name == nGo) = false := by kernel_rfl
theorem nm15 : (Tryz.f15.name == nGo) = false := by kernel_rfl
theorem nm16 : (Tryz.f16.name == nGo) = false := by kernel_rfl
theorem nm17 : (Tryz.f17.name == nGo) = false := by kernel_rfl
theorem nm18 : (Tryz.f18.name == nGo) = false := by kernel_rfl
theorem nm19 : (Tryz.f19.name == nGo) = false := by kernel_rfl
theorem nm20 : (Tryz.f20.name == nGo) = false := by kernel_rfl
theorem nm21 : (Tryz.f21.name == nGo) = false := by kernel_rfl
theorem nm22 : (Tryz.f22.name == nGo) = false := by kernel_rfl
theorem nm23 : (Tryz.f23.name == nGo) = false := by kernel_rfl
theorem nm24 : (Tryz.f24.name == nGo) = false := by kernel_rfl
theorem nm25 : (Tryz.f25.name == nGo) = false := by kernel_rfl
theorem nm26 : (Tryz.f26.name == nGo) = false := by kernel_rfl
theorem nm27 : (Tryz.f27.name == nGo) = false := by kernel_rfl
theorem nm28 : (Tryz.f28.name == nGo) = false := by kernel_rfl
theorem nm29 : (Tryz.f29.name == nGo) = false := by kernel_rfl
theorem nm30 : (Tryz.f30.name == nGo) = false := by kernel_rfl
theorem nm31 : (Tryz.f31.name == nGo) = false := by kernel_rfl
theorem nm32 : (Tryz.f32.name == nGo) = false := by kernel_rfl
theorem nm33 : (Tryz.f33.name == nGo) = false := by kernel_rfl
theorem nm34 : (Tryz.f34.name == nGo) = false := by kernel_rfl
theorem nm35 : (Tryz.f35.name == nGo) = false := by kernel_rfl
theorem nm36 : (Tryz.f36.name == nGo) = false := by kernel_rfl
theorem nm37 : (Tryz.f37.name == nGo) = false := by kernel_rfl
theorem nm38 : (Tryz.f38.name == nGo) = false := by kernel_rfl
theorem nm39 : (Tryz.f39.name == nGo) = false := by kernel_rfl
theorem nm4 : (Tryz.f4.name == nGo) = false := by kernel_rfl
theorem nm40 : (Tryz.f40.name == nGo) = false := by kernel_rfl
theorem nm41 : (Tryz.f41.name == nGo) = false := by kernel_rfl
theorem nm42 : (Tryz.f42.name == nGo) = false := by kernel_rfl
theorem nm43 : (Tryz.f43.name == nGo) = false := by kernel_rfl
theorem nm44 : (Tryz.f44.name == nGo) = false := by kernel_rfl
theorem nm45 : (Tryz.f45.name == nGo) = false := by kernel_rfl
theorem nm46 : (Tryz.f46.name == nGo) = false := by kernel_rfl
theorem nm47 : (Tryz.f47.name == nGo) = false := by kernel_rfl
theorem nm48 : (Tryz.f48.name == nGo) = false := by kernel_rfl
theorem nm49 : (Tryz.f49.name == nGo) = false := by kernel_rfl
theorem nm5 : (Tryz.f5.name == nGo) = false := by kernel_rfl
theorem nm50 : (Tryz.f50.name == nGo) = false := by kernel_rfl
theorem nm51 : (Tryz.f51.name == nGo) = false := by kernel_rfl
theorem nm52 : (Tryz.f52.name == nGo) = false := by kernel_rfl
theorem nm53 : (Tryz.f53.name == nGo) = false := by kernel_rfl
theorem nm54 : (Tryz.f54.name == nGo) = false := by kernel_rfl
theorem nm55 : (Tryz.f55.name == nGo) = false := by kernel_rfl
theorem nm56 : (Tryz.f56.name == nGo) = false := by kernel_rfl
theorem nm57 : (Tryz.f57.name == nGo) = false := by kernel_rfl
theorem nm58 : (Tryz.f58.name == nGo) = false := by kernel_rfl
theorem nm59 : (Tryz.f59.name == nGo) = false := by kernel_rfl
theorem nm6 : (Tryz.f6.name == nGo) = false := by kernel_rfl
theorem nm60 : (Tryz.f60.name == nGo) = false := by kernel_rfl
theorem nm61 : (Tryz.f61.name == nGo) = false := by kernel_rfl
theorem nm62 : (Tryz.f62.name == nGo) = false := by kernel_rfl
theorem nm63 : (Tryz.f63.name == nGo) = false := by kernel_rfl
theorem nm64 : (Tryz.f64.name == nGo) = false := by kernel_rfl
theorem nm65 : (Tryz.f65.name == nGo) = false := by kernel_rfl
theorem nm66 : (Tryz.f66.name == nGo) = false := by kernel_rfl
theorem nm67 : (Tryz.f67.name == nGo) = false := by kernel_rfl
theorem nm68 : (Tryz.f68.name == nGo) = false := by kernel_rfl
theorem nm69 : (Tryz.f69.name == nGo) = false := by kernel_rfl
theorem nm7 : (Tryz.f7.name == nGo) = false := by kernel_rfl
theorem nm70 : (Tryz.f70.name == nGo) = false := by kernel_rfl
theorem nm71 : (Tryz.f71.name == nGo) = false := by kernel_rfl
theorem nm72 : (Tryz.f72.name == nGo) = false := by kernel_rfl
theorem nm73 : (Tryz.f73.name == nGo) = false := by kernel_rfl
theorem nm74 : (Tryz.f74.name == nGo) = false := by kernel_rfl
theorem nm75 : (Tryz.f75.name == nGo) = false := by kernel_rfl
theorem nm76 : (Tryz.f76.name == nGo) = false := by kernel_rfl
theorem nm77 : (Tryz.f77.name == nGo) = false := by kernel_rfl
theorem nm78 : (Tryz.f78.name == nGo) = false := by kernel_rfl
theorem nm79 : (Tryz.f79.name == nGo) = false := by kernel_rfl
theorem nm8 : (Tryz.f8.name == nGo) = false := by kernel_rfl
theorem nm80 : (Tryz.f80.name == nGo) = false := by kernel_rfl
theorem nm81 : (Tryz.f81.name == nGo) = false := by kernel_rfl
theorem nm82 : (Tryz.f82.name == nGo) = false := by kernel_rfl
theorem nm83 : (Tryz.f83.name == nGo) = false := by kernel_rfl
theorem nm84 : (Tryz.f84.name == nGo) = false := by kernel_rfl
theorem nm85 : (Tryz.f85.name == nGo) = false := by kernel_rfl
theorem nm86 : (Tryz.f86.name == nGo) = false := by kernel_rfl
theorem nm87 : (Tryz.f87.name == nGo) = false := by kernel_rfl
theorem nm88 : (Tryz.f88.name == nGo) = false := by kernel_rfl
theorem nm89 : (Tryz.f89.name == nGo) = false := by kernel_rfl
theorem nm9 : (Tryz.f9.name == nGo) = false := by kernel_rfl
theorem nm90 : (Tryz.f90.name == nGo) = false := by kernel_rfl
theorem nm91 : (Tryz.f91.name == nGo) = false := by kernel_rfl
theorem nm92 : (Tryz.f92.name == nGo) = false := by kernel_rfl
theorem nm93 : (Tryz.f93.name == nGo) = false := by kernel_rfl
theorem nm94 : (Tryz.f94.name == nGo) = false := by kernel_rfl
theorem nm95 : (Tryz.f95.name == nGo) = false := by kernel_rfl
theorem nm96 : (Tryz.f96.name == nGo) = false := by kernel_rfl
theorem nm97 : (Tryz.f97.name == nGo) = false := by kernel_rfl
theorem nm98 : (Tryz.f98.name == nGo) = false := by kernel_rfl
theorem nz22 : (Tryz.prog.info? 22).map (·.size == 0) = some false := by kernel_rfl
theorem nz24 : (Tryz.prog.info? 24).map (·.size == 0) = some false := by kernel_rfl
theorem nz3 : (Tryz.prog.info? 3).map (·.size == 0) = some false := by kernel_rfl
theorem nz40 : (Tryz.prog.info? 40).map (·.size == 0) = some false := by kernel_rfl
theorem nz48 : (Tryz.prog.info? 48).map (·.size == 0) = some false := by kernel_rfl
theorem nz49 : (Tryz.prog.info? 49).map (·.size == 0) = some false := by kernel_rfl
theorem nz50 : (Tryz.prog.info? 50).map (·.size == 0) = some false := by kernel_rfl
theorem nz51 : (Tryz.prog.info? 51).map (·.size == 0) = some false := by kernel_rfl
theorem nz52 : (Tryz.prog.info? 52).map (·.size == 0) = some false := by kernel_rfl
theorem nz85 : (Tryz.prog.info? 85).map (·.size == 0) = some false := by kernel_rfl
theorem sz24 : (Tryz.prog.info? 24).map (·.size) = some 1 := by kernel_rfl
theorem sz26 : (Tryz.prog.info? 26).map (·.size) = some 1 := by kernel_rfl
theorem sz28 : (Tryz.prog.info? 28).map (·.size) = some 2 := by kernel_rfl
theorem sz3 : (Tryz.prog.info? 3).map (·.size) = some 1 := by kernel_rfl
theorem sz4 : (Tryz.prog.info? 4).map (·.size) = some 1 := by kernel_rfl
theorem sz40 : (Tryz.prog.info? 40).map (·.size) = some 1 := by kernel_rfl
theorem sz48 : (Tryz.prog.info? 48).map (·.size) = some 1 := by kernel_rfl
theorem sz49 : (Tryz.prog.info? 49).map (·.size) = some 1 := by kernel_rfl
theorem sz5 : (Tryz.prog.info? 5).map (·.size) = some 1 := by kernel_rfl
theorem sz69 : (Tryz.prog.info? 69).map (·.size) = some 2 := by kernel_rfl
theorem sz81 : (Tryz.prog.info? 81).map (·.size) = some 2 := by kernel_rfl
theorem zr117 : (Tryz.prog.info? 117).bind (·.zero) = some (.agg #[(.pointer none), (.slice none 0 0)]) := by kernel_rfl
theorem zr146 : (Tryz.prog.info? 146).bind (·.zero) = some (.agg #[(.int .u8 0), (.int .u8 0), (.int .u8 0), (.int .u8 0), (.int .u8 0), (.int .u8 0), (.int .u8 0), (.int .u8 0), (.int .u8 0), (.int .u8 0), (.int .u8 0), (.int .u8 0), (.int .u8 0), (.int .u8 0), (.int .u8 0), (.int .u8 0), (.int .u8 0), (.int .u8 0), (.int .u8 0), (.int .u8 0), (.int .u8 0), (.int .u8 0), (.int .u8 0), (.int .u8 0), (.int .u8 0), (.int .u8 0), (.int .u8 0), (.int .u8 0), (.int .u8 0), (.int .u8 0), (.int .u8 0), (.int .u8 0), (.int .u8 0), (.int .u8 0), (.int .u8 0), (.int .u8 0), (.int .u8 0), (.int .u8 0), (.int .u8 0), (.int .u8 0), (.int .u8 0), (.int .u8 0), (.int .u8 0), (.int .u8 0), (.int .u8 0), (.int .u8 0), (.int .u8 0), (.int .u8 0), (.int .u8 0), (.int .u8 0), (.int .u8 0), (.int .u8 0), (.int .u8 0), (.int .u8 0), (.int .u8 0), (.int .u8 0), (.int .u8 0), (.int .u8 0), (.int .u8 0), (.int .u8 0), (.int .u8 0), (.int .u8 0), (.int .u8 0), (.int .u8 0), (.int .u8 0)]) := by kernel_rfl
theorem zr26 : (Tryz.prog.info? 26).bind (·.zero) = some (.agg #[(.slice none 0 0)]) := by kernel_rfl
theorem zr28 : (Tryz.prog.info? 28).bind (·.zero) = some (.agg #[(.int .i64 0), (.int .i64 0)]) := by kernel_rfl
theorem zr3 : (Tryz.prog.info? 3).bind (·.zero) = some (.int .i64 0) := by kernel_rfl
theorem zr4 : (Tryz.prog.info? 4).bind (·.zero) = some (.bool false) := by kernel_rfl
theorem zr42 : (Tryz.prog.info? 42).bind (·.zero) = some (.agg #[(.slice none 0 0), (.int .i64 0), (.int .u64 0)]) := by kernel_rfl
theorem zr48 : (Tryz.prog.info? 48).bind (·.zero) = some (.slice none 0 0) := by kernel_rfl
theorem zr5 : (Tryz.prog.info? 5).bind (·.zero) = some (.int .u8 0) := by kernel_rfl
theorem zr55 : (Tryz.prog.info? 55).bind (·.zero) = some (.agg #[(.slice none 0 0), (.slice none 0 0), (.slice none 0 0), (.map none), (.map none), (.map none), (.map none), (.map none)]) := by kernel_rfl
theorem zr69 : (Tryz.prog.info? 69).bind (·.zero) = some (.agg #[(.slice none 0 0), (.slice none 0 0)]) := by kernel_rfl
theorem zr81 : (Tryz.prog.info? 81).bind (·.zero) = some (.agg #[(.int .i64 0), (.int .i64 0)]) := by kernel_rfl
theorem zr87 : (Tryz.prog.info? 87).bind (·.zero) = some (.agg #[(.slice none 0 0), (.slice none 0 0)]) := by kernel_rfl
theorem zr97 : (Tryz.prog.info? 97).bind (·.zero) = some (.agg #[(.slice none 0 0), (.slice none 0 0)]) := by kernel_rfl
theorem dB : type_of% @Tryz.underlying48 := @Tryz.underlying48
theorem dC : type_of% @Tryz.underlying24 := @Tryz.underlying24
theorem dD : type_of% @Tryz.underlying28 := @Tryz.underlying28
theorem dE : type_of% @Tryz.underlying26 := @Tryz.underlying26
theorem dF : type_of% @Tryz.underlying69 := @Tryz.underlying69
theorem dG : type_of% @Tryz.underlying88 := @Tryz.underlying88
theorem dH : type_of% @Tryz.underlying55 := @Tryz.underlying55
theorem dI : type_of% @Tryz.underlying87 := @Tryz.underlying87
theorem dJ : type_of% @Tryz.underlying3 := @Tryz.underlying3
theorem dK : type_of% @Tryz.underlying49 := @Tryz.underlying49
theorem dL : type_of% @Tryz.underlying42 := @Tryz.underlying42
theorem dN : type_of% @Tryz.underlying22 := @Tryz.underlying22
theorem dP : type_of% @Tryz.underlying117 := @Tryz.underlying117
theorem dQ : type_of% @Tryz.underlying96 := @Tryz.underlying96
theorem dR : type_of% @Tryz.underlying4 := @Tryz.underlying4
theorem dS : type_of% @Tryz.underlying76 := @Tryz.underlying76
theorem dU : type_of% @Tryz.underlying40 := @Tryz.underlying40
theorem dV : type_of% @Tryz.underlying9 := @Tryz.underlying9
end
namespace B1
open Go.RowKit Go.GL Go.Proofs
theorem mk3 : (Tryz.prog.info? 3).map (fun i => (i.size, i.bytes, i.zero)) = some (1, 8, some (.int .i64 0)) := by kernel_rfl
theorem mk4 : (Tryz.prog.info? 4).map (fun i => (i.size, i.bytes, i.zero)) = some (1, 1, some (.bool false)) := by kernel_rfl
variable {G : Pin} {v : Value} {xs : List Int} {x : Int} {p : Bool} {ns : List Nd}
theorem fS {w : World} {b : Int} (hP : Pins G w) (hv : RSl eInt G v xs) :
  Calls Tryz.prog 32 [v, (vJ b)].toArray w fun e w' => e = .returned (.bool (goodOpts xs b)) ∧ w' = w := by
 refine zU (n := 27) Tryz.func32 Tryz.ntmps32 rfl rfl ?_
 have h := exr noS hP
 have hm := hv.max
 refine zB (zC ?_)
 refine qM (.bool false) ?_
 refine qe (zA (zB (zB (zC ?_))))
 refine qM v ?_
 refine qD rfl (zP Tryz.underlying48 (v := v) rfl hv) (qD rfl (jO rfl rfl) (qe (zA ?_)))
 refine yC (p := (24 : Int) < (xs.length : Int)) rfl rfl (fun a => ?_) (fun a => ?_)
 refine zB (zC ?_)
 refine qM (.bool false) ?_
 refine qe (zA ?_)
 exact wp_ret (zO (zQ (v := (.bool false)) rfl rfl rfl (⟨congrArg (fun z => Ending.returned (Value.bool z)) (by unfold goodOpts; rw [if_pos a]), rfl⟩)))
 refine wp_skip (zA (zB (zC ?_)))
 refine qM (vJ (-1)) ?_
 refine qe (zA (zB (zB (zC ?_))))
 refine qM v ?_
 refine qD rfl (zP Tryz.underlying48 (v := v) rfl hv) (qM (vJ 0) ?_)
 refine qe (zA ?_)
 refine zW (yS (fun k en W => ∃ (f : Nat → Value) (j : Nat) (last : Int), en = (upd (upd (upd (upd (upd f 1 (vJ b)) 5 (vJ last)) 11 v) 12 (vJ (xs.length : Int))) 13 (vJ (j : Int))) ∧ k = xs.length - j ∧ Ext noS G w G W ∧ (j ≤ xs.length) ∧ (W = w) ∧ (goodOpts xs b = goodFrom last b (xs.drop j))) _ ⟨_, 0, (-1), (pS 13 (pS 12 (pS 11 (pS 5 (pU 1))))), rfl, h, Nat.zero_le _, rfl, (by unfold goodOpts; rw [if_neg a]; rfl)⟩ ?_)
 rintro l _ m ⟨f, j, last, rfl, o, g, hj, hw, hr⟩
 subst hw
 refine zB (zC ?_)
 refine qD rfl (yX rfl rfl) (qe (zA (zB ?_)))
 refine yC (p := ((j : Int) : Int) < (xs.length : Int)) rfl rfl (fun i => ?_) (fun i => ?_)
 refine wp_skip (zA (zB ?_))
 refine zW (zB (zC ?_))
 refine qD rfl (zJ Tryz.underlying48 sz3 (v := v) rfl rfl hv (by omega) (by omega)) (qD rfl (zI (r := xs.getD j 0) rfl ag3 (z := (j : Int)) rfl hv g.pins (by omega) (by omega)) (qM (vJ (xs.getD j 0)) ?_))
 refine qe (zA (zB (zB (zC ?_))))
 refine qM (vJ (xs.getD j 0)) ?_
 refine qM (vJ last) ?_
 refine qD rfl (gR rfl rfl) (qM (.bool (decide ((xs.getD j 0 : Int) ≤ last))) ?_)
 refine qbd (p := (xs.getD j 0 : Int) ≤ last) (t := 20) rfl (fun c => ?_) (fun c => ?_)
 refine qW ?_
 refine qW ?_
 refine qW ?_
 refine qD rfl (yR (v := (.bool true)) rfl rfl) (qe (zA ?_))
 refine jS rfl rfl (zB (zC ?_))
 refine qM (.bool false) ?_
 refine qe (zA ?_)
 exact wp_ret (zO (zQ (v := (.bool false)) rfl rfl rfl (⟨congrArg (fun z => Ending.returned (Value.bool z)) ((hr.trans (mI (by omega) (Or.inl c))).symm), rfl⟩)))
 refine qN (zR (v := (vJ (xs.getD j 0))) rfl) ?_
 refine qN (zR (v := (vJ b)) rfl) ?_
 refine qN (fN rfl rfl) ?_
 refine qD rfl (yI (v := (.bool (decide ((b : Int) ≤ (xs.getD j 0))))) rfl rfl) (qe (zA ?_))
 refine yC (p := (b : Int) ≤ (xs.getD j 0)) rfl rfl (fun d => ?_) (fun d => ?_)
 refine zB (zC ?_)
 refine qM (.bool false) ?_
 refine qe (zA ?_)
 exact wp_ret (zO (zQ (v := (.bool false)) rfl rfl rfl (⟨congrArg (fun z => Ending.returned (Value.bool z)) ((hr.trans (mI (by omega) (Or.inr d))).symm), rfl⟩)))
 refine wp_skip (zA (zC ?_))
 refine qM (vJ (xs.getD j 0)) ?_
 refine qM (vJ (xs.getD j 0)) ?_
 refine qe (yA (zA (zC ?_)))
 refine qD rfl (yJ rfl rfl (by omega)) (qM (vJ ((j : Int) + 1)) ?_)
 refine qe (yD (⟨_, ?_, _, rfl, _, j + 1, xs.getD j 0, (pS 13 (pS 12 (pS 11 (pS 5 (pU 1))))), rfl, g, (by omega), rfl, (hr.trans (dA (by omega) c d))⟩))
 omega
 refine wp_exit (zV (yK (yE (zA (zB (zC ?_))))))
 refine qM (.bool true) ?_
 refine qe (zA ?_)
 exact wp_ret (zO (zQ (v := (.bool true)) rfl rfl rfl (⟨congrArg (fun z => Ending.returned (Value.bool z)) ((hr.trans (goodFrom_end (by omega))).symm), rfl⟩)))
theorem eD {w : World} (hP : Pins G w) :
  Calls Tryz.prog 61 [(.int .i64 x)].toArray w fun e w' => e = .returned (.bool false) ∧ w' = w := by
 refine zU (n := 6) Tryz.func61 Tryz.ntmps61 rfl rfl ?_
 have hX0 := exr noS hP
 refine zB (zC ?_)
 refine qM (.bool false) ?_
 refine qe (zA (zB (zC ?_)))
 refine qM (.int .i64 x) ?_
 refine qM (.int .i64 x) ?_
 refine qD rfl (gQ rfl rfl) (qM (.bool (decide ((x : Int) ≠ x))) ?_)
 refine qe (zA ?_)
 exact wp_ret (zO (zQ (v := (.bool (decide ((x : Int) ≠ x)))) rfl rfl rfl (⟨congrArg (fun z => Ending.returned (Value.bool z)) (decide_eq_false (fun h => h rfl)), rfl⟩)))
theorem gL {w : World} {y : Int} (hP : Pins G w) :
  Calls Tryz.prog 35 [(.int .i64 x), (.int .i64 y)].toArray w fun e w' => e = .returned (.int .i64 (cmpI x y)) ∧ w' = w := by
 refine zU (n := 20) Tryz.func35 Tryz.ntmps35 rfl rfl ?_
 have hX0 := exr noS hP
 refine zB (zC ?_)
 refine qM (.int .i64 0) ?_
 refine qe (zA (zB (zC ?_)))
 refine qM (.int .i64 x) ?_
 refine qI rfl (zF (vs := [(.int .i64 x)]) Tryz.func61 nm61 rfl rfl rfl ?_)
 refine dY (eD hX0.pins) ?_
 rintro _ _ ⟨rfl, rfl⟩
 refine ⟨_, rfl, ?_⟩
 refine qM (.bool false) ?_
 refine qe (zA (zB (zC ?_)))
 refine qM (.int .i64 y) ?_
 refine qI rfl (zF (vs := [(.int .i64 y)]) Tryz.func61 nm61 rfl rfl rfl ?_)
 refine dY (eD hX0.pins) ?_
 rintro _ _ ⟨rfl, rfl⟩
 refine ⟨_, rfl, ?_⟩
 refine qM (.bool false) ?_
 refine qe (zA (zB (zB (zC ?_))))
 refine qM (.bool false) ?_
 refine qe (zA ?_)
 refine qP rfl rfl (wp_skip (zA (zB (zB (zC ?_)))))
 refine qM (.bool false) ?_
 refine qe (zA ?_)
 refine qP rfl rfl (wp_skip (zA (zB (zB (zC ?_)))))
 refine qM (.int .i64 x) ?_
 refine qM (.int .i64 y) ?_
 refine qD rfl (yX rfl rfl) (qe (zA ?_))
 refine yC (p := (x : Int) < y) rfl rfl (fun h1 => ?_) (fun h1 => ?_)
 refine zB (zC ?_)
 refine qM (.int .i64 (-1)) ?_
 refine qe (zA ?_)
 exact wp_ret (zO (zQ (v := (.int .i64 (-1))) rfl rfl rfl (⟨congrArg (fun z => Ending.returned (Value.int .i64 z)) (by unfold cmpI; (first | rw [if_pos (by omega)] | (rw [if_neg (by omega)]; first | rw [if_pos (by omega)] | rw [if_neg (by omega)]))), rfl⟩)))
 refine wp_skip (zA (zB (zB (zC ?_))))
 refine qM (.int .i64 x) ?_
 refine qM (.int .i64 y) ?_
 refine qD rfl (jO rfl rfl) (qe (zA ?_))
 refine yC (p := (y : Int) < x) rfl rfl (fun h2 => ?_) (fun h2 => ?_)
 refine zB (zC ?_)
 refine qM (.int .i64 1) ?_
 refine qe (zA ?_)
 exact wp_ret (zO (zQ (v := (.int .i64 1)) rfl rfl rfl (⟨congrArg (fun z => Ending.returned (Value.int .i64 z)) (by unfold cmpI; (first | rw [if_pos (by omega)] | (rw [if_neg (by omega)]; first | rw [if_pos (by omega)] | rw [if_neg (by omega)]))), rfl⟩)))
 refine wp_skip (zA (zB (zC ?_)))
 refine qM (.int .i64 0) ?_
 refine qe (zA ?_)
 exact wp_ret (zO (zQ (v := (.int .i64 0)) rfl rfl rfl (⟨congrArg (fun z => Ending.returned (Value.int .i64 z)) (by unfold cmpI; (first | rw [if_pos (by omega)] | (rw [if_neg (by omega)]; first | rw [if_pos (by omega)] | rw [if_neg (by omega)]))), rfl⟩)))
theorem cmpOr_spec {w : World} (hP : Pins G w) (hv : RSl eInt G v xs) :
  Calls Tryz.prog 34 [v].toArray w fun e w' => e = .returned (.int .i64 (orL xs)) ∧ w' = w := by
 refine zU (n := 18) Tryz.func34 Tryz.ntmps34 rfl rfl ?_
 have d := exr noS hP
 have hm := hv.max
 refine zB (zC ?_)
 refine qM (.int .i64 0) ?_
 refine qe (zA (zB (zC ?_)))
 refine qM (.int .i64 0) ?_
 refine qe (zA (zB (zB (zC ?_))))
 refine qM v ?_
 refine qD rfl (zP Tryz.underlying48 (v := v) rfl hv) (qM (.int .i64 0) ?_)
 refine qe (zA ?_)
 refine zW (yS (fun (k : Nat) (en : Nat → Value) (W : World) => ∃ (b : Nat → Value) (j : Nat), en = (upd (upd (upd (upd b 3 (.int .i64 0)) 6 v) 7 (.int .i64 (xs.length : Int))) 8 (.int .i64 (j : Int))) ∧ k = xs.length - j ∧ Ext noS G w G W ∧ (j ≤ xs.length) ∧ (W = w) ∧ (orL xs = orL (xs.drop j))) _ ⟨_, 0, (pS 8 (pS 7 (pS 6 (pU 3)))), rfl, d, Nat.zero_le _, rfl, rfl⟩ ?_)
 rintro g _ h ⟨b, j, rfl, i, c, hj, hw, hr⟩
 subst hw
 refine zB (zC ?_)
 refine qD rfl (yX rfl rfl) (qe (zA (zB ?_)))
 refine yC (p := ((j : Int) : Int) < (xs.length : Int)) rfl rfl (fun f => ?_) (fun f => ?_)
 refine wp_skip (zA (zB ?_))
 refine zW (zB (zC ?_))
 refine qD rfl (zJ Tryz.underlying48 sz3 (v := v) rfl rfl hv (by omega) (by omega)) (qD rfl (zI (r := xs.getD j 0) rfl ag3 (z := (j : Int)) rfl hv c.pins (by omega) (by omega)) (qM (.int .i64 (xs.getD j 0)) ?_))
 refine qe (zA (zB (zC ?_)))
 refine qM (.int .i64 (xs.getD j 0)) ?_
 refine qM (.int .i64 0) ?_
 refine qD rfl (gQ rfl rfl) (qe (zA ?_))
 refine yC (p := (xs.getD j 0 : Int) ≠ 0) rfl rfl (fun a => ?_) (fun a => ?_)
 refine zB (zC ?_)
 refine qM (.int .i64 (xs.getD j 0)) ?_
 refine qM (.int .i64 (xs.getD j 0)) ?_
 refine qe (zA ?_)
 exact wp_ret (zO (zQ (v := (.int .i64 (xs.getD j 0))) rfl rfl rfl (⟨congrArg (fun z => Ending.returned (Value.int .i64 z)) ((hr.trans (orL_hit (by omega) a)).symm), rfl⟩)))
 refine wp_skip (yA (zA (zC ?_)))
 refine qD rfl (yJ rfl rfl (by omega)) (qM (.int .i64 ((j : Int) + 1)) ?_)
 refine qe (yD (⟨_, ?_, _, rfl, _, j + 1, (pS 8 (pS 7 (pS 6 (pU 3)))), rfl, c, (by omega), rfl, (hr.trans (orL_next (by omega) a))⟩))
 omega
 refine wp_exit (zV (yK (yE (zA (zB (zC ?_))))))
 refine qM (.int .i64 0) ?_
 refine qM (.int .i64 0) ?_
 refine qe (zA ?_)
 exact wp_ret (zO (zQ (v := (.int .i64 0)) rfl rfl rfl (⟨congrArg (fun z => Ending.returned (Value.int .i64 z)) ((hr.trans (orL_end (by omega))).symm), rfl⟩)))
theorem gO {w : World} {u : Value} {ys : List Int} (hP : Pins G w) (hu : RSl eInt G u xs) (hv : RSl eInt G v ys) :
  Calls Tryz.prog 36 [u, v].toArray w fun e w' => e = .returned (vJ (cmpL xs ys)) ∧ w' = w := by
 refine zU (n := 36) Tryz.func36 Tryz.ntmps36 rfl rfl ?_
 have d := exr noS hP
 have hm := hu.max
 refine zB (zC ?_)
 refine qM (vJ 0) ?_
 refine qe (zA (zB (zB (zC ?_))))
 refine qM u ?_
 refine qD rfl (zP Tryz.underlying48 (v := u) rfl hu) (qM (vJ 0) ?_)
 refine qe (zA ?_)
 refine zW (yS (fun k en W => ∃ (c : Nat → Value) (j : Nat), en = (upd (upd (upd (upd (upd c 0 u) 1 v) 9 u) 10 (vJ (xs.length : Int))) 11 (vJ (j : Int))) ∧ k = xs.length - j ∧ Ext noS G w G W ∧ (j ≤ xs.length ∧ j ≤ ys.length) ∧ (W = w) ∧ (cmpL xs ys = cmpL (xs.drop j) (ys.drop j))) _ ⟨_, 0, (pS 11 (pS 10 (pS 9 (pS 1 (pU 0))))), rfl, d, ⟨Nat.zero_le _, Nat.zero_le _⟩, rfl, rfl⟩ ?_)
 rintro i _ l ⟨c, j, rfl, m, a, hj, hw, hr⟩
 subst hw
 refine zB (zC ?_)
 refine qD rfl (yX rfl rfl) (qe (zA (zB ?_)))
 refine yC (p := ((j : Int) : Int) < (xs.length : Int)) rfl rfl (fun f => ?_) (fun f => ?_)
 refine wp_skip (zA (zB ?_))
 refine zW (zB (zC ?_))
 refine qM (vJ (j : Int)) ?_
 refine qD rfl (zJ Tryz.underlying48 sz3 (v := u) rfl rfl hu (by omega) (by omega)) (qD rfl (zI (r := xs.getD j 0) rfl ag3 (z := (j : Int)) rfl hu a.pins (by omega) (by omega)) (qM (vJ (j : Int)) ?_))
 refine qM (vJ (xs.getD j 0)) ?_
 refine qe (zA (zB (zB (zC ?_))))
 refine qM (vJ (j : Int)) ?_
 refine qM v ?_
 refine qD rfl (zP Tryz.underlying48 (v := v) rfl hv) (qD rfl (fN rfl rfl) (qe (zA ?_)))
 refine yC (p := ((ys.length : Int) : Int) ≤ (j : Int)) rfl rfl (fun g => ?_) (fun g => ?_)
 refine zB (zC ?_)
 refine qM (vJ 1) ?_
 refine qe (zA ?_)
 exact wp_ret (zO (zQ (v := (vJ 1)) rfl rfl rfl (⟨congrArg (fun z => Ending.returned (Value.int .i64 z)) ((hr.trans (nQ (by omega) (by omega))).symm), rfl⟩)))
 refine wp_skip (zA (zB (zC ?_)))
 refine qM v ?_
 refine qM (vJ (j : Int)) ?_
 refine qD rfl (zJ Tryz.underlying48 sz3 (v := v) rfl rfl hv (by omega) (by omega)) (qD rfl (zI (r := ys.getD j 0) rfl ag3 (z := (j : Int)) rfl hv a.pins (by omega) (by omega)) (qM (vJ (ys.getD j 0)) ?_))
 refine qe (zA (zB (zC ?_)))
 refine qM (vJ (xs.getD j 0)) ?_
 refine qM (vJ (ys.getD j 0)) ?_
 refine qI rfl (zF (vs := [(vJ (xs.getD j 0)), (vJ (ys.getD j 0))]) Tryz.func35 nm35 rfl rfl rfl ?_)
 refine dY (gL a.pins) ?_
 rintro _ _ ⟨rfl, rfl⟩
 refine ⟨_, rfl, ?_⟩
 refine qM (vJ (cmpI (xs.getD j 0) (ys.getD j 0))) ?_
 refine qe (zA (zB (zC ?_)))
 refine qM (vJ (cmpI (xs.getD j 0) (ys.getD j 0))) ?_
 refine qD rfl (gQ rfl rfl) (qe (zA ?_))
 refine yC (p := (cmpI (xs.getD j 0) (ys.getD j 0) : Int) ≠ 0) rfl rfl (fun b => ?_) (fun b => ?_)
 refine zB (zC ?_)
 refine qM (vJ (cmpI (xs.getD j 0) (ys.getD j 0))) ?_
 refine qM (vJ (cmpI (xs.getD j 0) (ys.getD j 0))) ?_
 refine qe (zA ?_)
 exact wp_ret (zO (zQ (v := (vJ (cmpI (xs.getD j 0) (ys.getD j 0)))) rfl rfl rfl (⟨congrArg (fun z => Ending.returned (Value.int .i64 z)) ((hr.trans (cmpL_ne (by omega) (by omega) b)).symm), rfl⟩)))
 refine wp_skip (yA (zA (zC ?_)))
 refine qD rfl (yJ rfl rfl (by omega)) (qM (vJ ((j : Int) + 1)) ?_)
 refine qe (yD (⟨_, ?_, _, rfl, _, j + 1, (pS 11 (pS 10 (pS 9 (pS 1 (pU 0))))), rfl, a, (by omega), rfl, (hr.trans (cmpL_eq (by omega) (by omega) b))⟩))
 omega
 refine wp_exit (zV (yK (yE (zA (zB (zB (zC ?_)))))))
 refine qM u ?_
 refine qD rfl (zP Tryz.underlying48 (v := u) rfl hu) (qM v ?_)
 refine qD rfl (zP Tryz.underlying48 (v := v) rfl hv) (qD rfl (yX rfl rfl) (qe (zA ?_)))
 refine yC (p := ((xs.length : Int) : Int) < (ys.length : Int)) rfl rfl (fun h => ?_) (fun h => ?_)
 refine zB (zC ?_)
 refine qM (vJ (-1)) ?_
 refine qe (zA ?_)
 exact wp_ret (zO (zQ (v := (vJ (-1))) rfl rfl rfl (⟨congrArg (fun z => Ending.returned (Value.int .i64 z)) ((hr.trans (nR (by omega) (by omega))).symm), rfl⟩)))
 refine wp_skip (zA (zB (zC ?_)))
 refine qM (vJ 0) ?_
 refine qe (zA ?_)
 exact wp_ret (zO (zQ (v := (vJ 0)) rfl rfl rfl (⟨congrArg (fun z => Ending.returned (Value.int .i64 z)) ((hr.trans (nP (by omega) (by omega))).symm), rfl⟩)))
theorem eU {w : World} {xs : List Bool} (hP : Pins G w) (hv : RSl eBool G v xs) :
  Calls Tryz.prog 62 [v, (.bool p)].toArray w fun e w' => e = .returned (.int .i64 (idxB xs p)) ∧ w' = w := by
 refine zU (n := 19) Tryz.func62 Tryz.ntmps62 rfl rfl ?_
 have d := exr noS hP
 have hm := hv.max
 refine zB (zC ?_)
 refine qM (.int .i64 0) ?_
 refine qe (zA (zB (zB (zC ?_))))
 refine qM v ?_
 refine qD rfl (zP Tryz.underlying76 (v := v) rfl hv) (qM (.int .i64 0) ?_)
 refine qe (zA ?_)
 refine zW (yS (fun (k : Nat) (en : Nat → Value) (W : World) => ∃ (b : Nat → Value) (j : Nat), en = (upd (upd (upd (upd b 0 v) 1 (.bool p)) 7 (.int .i64 (xs.length : Int))) 8 (.int .i64 (j : Int))) ∧ k = xs.length - j ∧ Ext noS G w G W ∧ (j ≤ xs.length) ∧ (W = w) ∧ (idxB xs p = idxFrom p j (xs.drop j))) _ ⟨_, 0, (pS 8 (pS 7 (pS 1 (pU 0)))), rfl, d, Nat.zero_le _, rfl, rfl⟩ ?_)
 rintro g _ h ⟨b, j, rfl, i, c, hj, hw, hr⟩
 subst hw
 refine zB (zC ?_)
 refine qD rfl (yX rfl rfl) (qe (zA (zB ?_)))
 refine yC (p := ((j : Int) : Int) < (xs.length : Int)) rfl rfl (fun f => ?_) (fun f => ?_)
 refine wp_skip (zA (zB ?_))
 refine zW (zB (zC ?_))
 refine qM (.int .i64 (j : Int)) ?_
 refine qM (.int .i64 (j : Int)) ?_
 refine qe (zA (zB (zC ?_)))
 refine qM (.bool p) ?_
 refine qM v ?_
 refine qM (.int .i64 (j : Int)) ?_
 refine qD rfl (zJ Tryz.underlying76 sz4 (v := v) rfl rfl hv (by omega) (by omega)) (qD rfl (vU (r := xs.getD j false) rfl ag4 (z := (j : Int)) rfl hv c.pins (by omega) (by omega)) (qD rfl (r_eqlB Tryz.underlying4 rfl rfl) (qe (zA ?_))))
 refine c_if rfl rfl (fun a => ?_) (fun a => ?_)
 refine zB (zC ?_)
 refine qM (.int .i64 (j : Int)) ?_
 refine qM (.int .i64 (j : Int)) ?_
 refine qe (zA ?_)
 exact wp_ret (zO (zQ (v := (.int .i64 (j : Int))) rfl rfl rfl (⟨congrArg (fun z => Ending.returned (Value.int .i64 z)) ((hr.trans (idx_hit (by omega) a)).symm), rfl⟩)))
 refine wp_skip (yA (zA (zC ?_)))
 refine qD rfl (yJ rfl rfl (by omega)) (qM (.int .i64 ((j : Int) + 1)) ?_)
 refine qe (yD (⟨_, ?_, _, rfl, _, j + 1, (pS 8 (pS 7 (pS 1 (pU 0)))), rfl, c, (by omega), rfl, (hr.trans (idx_next (by omega) a))⟩))
 omega
 refine wp_exit (zV (yK (yE (zA (zB (zC ?_))))))
 refine qM (.int .i64 (-1)) ?_
 refine qe (zA ?_)
 exact wp_ret (zO (zQ (v := (.int .i64 (-1))) rfl rfl rfl (⟨congrArg (fun z => Ending.returned (Value.int .i64 z)) ((hr.trans (idx_end (by omega))).symm), rfl⟩)))
theorem pH {w : World} {xs : List Bool} (hP : Pins G w) (hv : RSl eBool G v xs) :
  Calls Tryz.prog 37 [v, (.bool p)].toArray w fun e w' => e = .returned (.bool (decide ((0 : Int) ≤ idxB xs p))) ∧ w' = w := by
 refine zU (n := 9) Tryz.func37 Tryz.ntmps37 rfl rfl ?_
 have hX0 := exr noS hP
 refine zB (zC ?_)
 refine qM (.bool false) ?_
 refine qe (zA (zB (zC ?_)))
 refine qM v ?_
 refine qM (.bool p) ?_
 refine qI rfl (zF (vs := [v, (.bool p)]) Tryz.func62 nm62 rfl rfl rfl ?_)
 refine dY (eU hX0.pins hv) ?_
 rintro _ _ ⟨rfl, rfl⟩
 refine ⟨_, rfl, ?_⟩
 refine qD rfl (fN rfl rfl) (qM (.bool (decide ((0 : Int) ≤ (idxB xs p)))) ?_)
 refine qe (zA ?_)
 exact wp_ret (zO (zQ (v := (.bool (decide ((0 : Int) ≤ (idxB xs p))))) rfl rfl rfl (⟨rfl, rfl⟩)))
theorem births_spec {w : World} (hP : Pins G w) (hv : RSl eNode G v ns) (ho : OptsOk ns) (hs : ns.length ≤ 1048576) :
  Calls Tryz.prog 33 [v].toArray w fun e w' => ∃ (u : Value) (G' : Pin), e = .returned u ∧ Own eInt 3 G' w' w.heap.size u (births ns) ∧ Ext noS G w G' w' := by
 refine zU (n := 64) Tryz.func33 Tryz.ntmps33 rfl rfl ?_
 have ao := exr noS hP
 refine zB (zC ?_)
 refine qM vN ?_
 refine qe (zA (zB (zC ?_)))
 refine qM v ?_
 refine qD rfl (zP Tryz.underlying24 (v := v) rfl hv) (qI rfl (nF (E := eInt) 0 8 (vJ 0) Tryz.underlying48 mk3 (fun _ => rfl) rfl rfl ao.pins (by omega) (by omega) (by omega) (fun a w2 bb bc bd b9 => ?_)))
 have be := ao.step bc bd
 have bf : Own eInt 3 G w2 w.heap.size a (List.replicate ns.length 0) := bb.weaken ao.size
 have ca : (List.replicate ns.length 0).length = ns.length := List.length_replicate ..
 refine qM a ?_
 refine qe (zA (zB (zB (zC ?_))))
 refine qM v ?_
 refine qD rfl (zP Tryz.underlying24 (v := v) rfl hv) (qM (vJ 0) ?_)
 refine qe (zA ?_)
 refine zW (yS (fun k en W => ∃ (o : Nat → Value) (j : Nat) (b : List Int) (af : Pin), en = (upd (upd (upd (upd (upd o 2 vN) 3 a) 13 v) 14 (vJ (ns.length : Int))) 15 (vJ (j : Int))) ∧ k = ns.length - j ∧ Ext noS G w af W ∧ Pin.le G af ∧ (j ≤ ns.length) ∧ (b.length = ns.length) ∧ (BOk b) ∧ (births ns = bgo j (ns.drop j) b) ∧ (Own eInt 3 af W w.heap.size a (b))) _ ⟨_, 0, List.replicate ns.length 0, G, (pS 15 (pS 14 (pS 13 (pS 3 (pU 2))))), rfl, be, Pin.le_refl _, Nat.zero_le _, (by simp), (BOk.replicate _), rfl, bf⟩ ?_)
 rintro cb _ cc ⟨o, j, b, af, rfl, cd, y, ag, hj, hnb, hkb, hr, ap⟩
 refine zB (zC ?_)
 refine qD rfl (yX rfl rfl) (qe (zA (zB ?_)))
 refine yC (p := ((j : Int) : Int) < (ns.length : Int)) rfl rfl (fun bg => ?_) (fun bg => ?_)
 refine wp_skip (zA (zB ?_))
 refine zW (zB (zC ?_))
 refine qM (vJ (j : Int)) ?_
 refine qD rfl (zJ Tryz.underlying24 sz69 (v := v) rfl rfl hv (by omega) (by omega)) ?_
 obtain ⟨q, s, aa, ab, bh⟩ := vW (hv.at (z := (j : Int)) (by omega) (by omega)) (j := j) rfl
 have ce := aa.max
 have cf := ab.max
 refine qD rfl (bh ag69 sz69 rfl (dX y.pins ag)) (qI rfl (yM [vN, vN] zr69 rfl y.pins (fun au cg bi bj bk av => ?_)))
 have aw := y.step bk av
 have bl := ap.below av
 have ax := zG (congrArg some bi) ap.lt
 have ay : w.heap.size ≤ au := by have := y.size; omega
 refine qM (vJ (j : Int)) ?_
 refine q0 rfl rfl rfl (o_stp (cs' := [q, s]) (us := [q, s]) (v := (.agg [q, s].toArray)) sz69 rfl rfl rfl (xG aa.one ab.one) aw.pins bj (dZ rfl) rfl (fun ch bm bn az ci => ?_))
 have bo := aw.write bn az ((zY ay))
 have bp := bl.keptA az ax.symm
 obtain ⟨t, ah, a0, a1, bq⟩ := bm.shut bo ay
 have br := bp.moreA ah bq ax.symm
 refine qe (zA (zB (zB (zC ?_))))
 refine qD rfl (zK (k := 0) rfl Tryz.underlying69 rfl nz48 rfl) (qD rfl (zL (u := q) ag48 rfl (a0.pins _ _ _ (a1 0 _ rfl))) (qD rfl (zP Tryz.underlying48 (v := q) rfl aa) (qM (vJ 0) ?_)))
 refine qe (zA ?_)
 refine zW (yS (fun k en W => ∃ (o : Nat → Value) (i : Nat) (d : List Int), en = (upd (upd (upd (upd (upd (upd (upd (upd (upd (upd o 2 vN) 3 a) 4 (vJ (j : Int))) 5 (vP au)) 13 v) 14 (vJ (ns.length : Int))) 15 (vJ (j : Int))) 21 q) 22 (vJ (((ns.getD j default).l).length : Int))) 23 (vJ (i : Int))) ∧ k = (ns.getD j default).l.length - i ∧ Ext noS G w t W ∧ (i ≤ (ns.getD j default).l.length) ∧ (d.length = ns.length) ∧ (BOk d) ∧ (brow j b (ns.getD j default).l = brow j d ((ns.getD j default).l.drop i)) ∧ (Own eInt 3 t W w.heap.size a (d))) _ ⟨_, 0, b, (pS 23 (pS 22 (pS 21 (pS 15 (pS 14 (pS 13 (pS 5 (pS 4 (pS 3 (pU 2)))))))))), rfl, a0, Nat.zero_le _, hnb, hkb, rfl, br⟩ ?_)
 rintro cj _ ai ⟨o, i, d, rfl, ck, x, hii, a2, aj, a3, aq⟩
 refine zB (zC ?_)
 refine qD rfl (yX rfl rfl) (qe (zA (zB ?_)))
 refine yC (p := ((i : Int) : Int) < (((ns.getD j default).l).length : Int)) rfl rfl (fun bs => ?_) (fun bs => ?_)
 have hk := ho.left (j := j) (i := i) (by omega) (by omega)
 have hbj := aj j
 have hbk := aj ((ns.getD j default).l.getD i 0).toNat
 refine wp_skip (zA (zB ?_))
 refine zW (zB (zC ?_))
 refine qD rfl (zJ Tryz.underlying48 sz3 (v := q) rfl rfl aa (by omega) (by omega)) (qD rfl (zI (r := ((ns.getD j default).l).getD i 0) rfl ag3 (z := (i : Int)) rfl aa (dX x.pins (dW ag ah)) (by omega) (by omega)) (qM (vJ (((ns.getD j default).l).getD i 0)) ?_))
 refine qe (zA ?_)
 have bt := Gadd.pins x.pins a
 have ac := aq.read
 refine yZ (S := fun wz => Pins (Gadd t ai a) wz) (last := 13) (by kernel_rfl) rfl ?_
 have ak := bdr ai
 have bu := x.pins.below ak
 have a4 := x.step bu ak
 have a5 := aq.below ak
 have f := bt.below ak
 refine dM 0 a f ?_
 refine dM 1 (vJ (j : Int)) f ?_
 refine dM 2 a f ?_
 refine dM 3 (vJ (j : Int)) f ?_
 refine dT (i := 4) rfl rfl (by kernel_rfl) (fun _ _ => zJ Tryz.underlying48 sz3 (v := a) rfl rfl ac (by omega) (by omega)) f ?_
 refine dT (i := 5) rfl rfl (by kernel_rfl) (fun _ hS => zI (r := d.getD j 0) rfl ag3 (z := (j : Int)) rfl ac hS (by omega) (by omega)) f ?_
 refine dM 6 a f ?_
 refine dM 7 (vJ (((ns.getD j default).l).getD i 0)) f ?_
 refine dT (i := 8) rfl rfl (by kernel_rfl) (fun _ _ => zJ Tryz.underlying48 sz3 (v := a) rfl rfl ac (by omega) (by omega)) f ?_
 refine dT (i := 9) rfl rfl (by kernel_rfl) (fun _ hS => zI (r := d.getD (((ns.getD j default).l).getD i 0).toNat 0) rfl ag3 (z := (((ns.getD j default).l).getD i 0)) rfl ac hS (by omega) (by omega)) f ?_
 refine dT (i := 10) rfl rfl (by kernel_rfl) (fun _ _ => yJ rfl rfl (by omega)) f ?_
 refine dT (i := 11) rfl rfl (by kernel_rfl) (fun _ _ => r_max rfl rfl) f ?_
 refine dT (i := 12) rfl rfl (by kernel_rfl) (fun _ _ => zJ Tryz.underlying48 sz3 (v := a) rfl rfl ac (by omega) (by omega)) f ?_
 refine dO (i := 13) (jB (i := 13) rfl rfl rfl (zD rfl _) (fD (E := eInt) (v := a) (u := (vJ (max (d.getD j 0) ((d.getD (((ns.getD j default).l).getD i 0).toNat 0) + 1)))) (z := (j : Int)) (max (d.getD j 0) ((d.getD (((ns.getD j default).l).getD i 0).toNat 0) + 1)) sz3 rfl rfl rfl rfl a4.pins a5 (by omega) (by omega) (fun cl bv bw bx cm => ?_)))
 have bz := a4.write bw bx ((yH a5))
 refine ⟨fun h => absurd rfl h, ?_⟩
 refine yP (by kernel_rfl) (yA (zA (zC ?_)))
 refine qD rfl (yJ rfl rfl (by omega)) (qM (vJ ((i : Int) + 1)) ?_)
 refine qe (yD (⟨_, ?_, _, rfl, _, i + 1, bmax j d ((ns.getD j default).l.getD i 0), (pS 23 (pS 22 (pS 21 (pS 15 (pS 14 (pS 13 (pS 5 (pS 4 (pS 3 (pU 2)))))))))), rfl, bz, (by omega), ((fI _ _ _).trans a2), (aj.max hk.1 hk.2), (a3.trans (brow_next (by omega))), bv⟩))
 omega
 refine wp_exit (zV (yK (yE (zA (zB (zC ?_))))))
 refine qD rfl (zK (k := 1) rfl Tryz.underlying69 rfl nz48 rfl) (qD rfl (zL (u := s) ag48 rfl (x.pins _ _ _ (a1 1 _ rfl))) (qD rfl (zP Tryz.underlying48 (v := s) rfl ab) (qM (vJ 0) ?_)))
 refine qe (zA ?_)
 refine zW (yS (fun k en W => ∃ (o : Nat → Value) (c : Nat) (g : List Int), en = (upd (upd (upd (upd (upd (upd (upd (upd (upd o 2 vN) 3 a) 4 (vJ (j : Int))) 13 v) 14 (vJ (ns.length : Int))) 15 (vJ (j : Int))) 42 s) 43 (vJ (((ns.getD j default).r).length : Int))) 44 (vJ (c : Int))) ∧ k = (ns.getD j default).r.length - c ∧ Ext noS G w t W ∧ (c ≤ (ns.getD j default).r.length) ∧ (g.length = ns.length) ∧ (BOk g) ∧ (brow j d (ns.getD j default).r = brow j g ((ns.getD j default).r.drop c)) ∧ (Own eInt 3 t W w.heap.size a (g))) _ ⟨_, 0, d, (pS 44 (pS 43 (pS 42 (pS 15 (pS 14 (pS 13 (pS 4 (pS 3 (pU 2))))))))), rfl, x, Nat.zero_le _, a2, aj, rfl, aq⟩ ?_)
 rintro cn _ al ⟨o, c, g, rfl, co, ad, cp, a6, am, a7, ar⟩
 refine zB (zC ?_)
 refine qD rfl (yX rfl rfl) (qe (zA (zB ?_)))
 refine yC (p := ((c : Int) : Int) < (((ns.getD j default).r).length : Int)) rfl rfl (fun b0 => ?_) (fun b0 => ?_)
 have hk := ho.right (j := j) (i := c) (by omega) (by omega)
 have hbj := am j
 have hbk := am ((ns.getD j default).r.getD c 0).toNat
 refine wp_skip (zA (zB ?_))
 refine zW (zB (zC ?_))
 refine qD rfl (zJ Tryz.underlying48 sz3 (v := s) rfl rfl ab (by omega) (by omega)) (qD rfl (zI (r := ((ns.getD j default).r).getD c 0) rfl ag3 (z := (c : Int)) rfl ab (dX ad.pins (dW ag ah)) (by omega) (by omega)) (qM (vJ (((ns.getD j default).r).getD c 0)) ?_))
 refine qe (zA ?_)
 have b1 := Gadd.pins ad.pins a
 have ae := ar.read
 refine yZ (S := fun wz => Pins (Gadd t al a) wz) (last := 13) (by kernel_rfl) rfl ?_
 have an := bdr al
 have b4 := ad.pins.below an
 have a8 := ad.step b4 an
 have a9 := ar.below an
 have m := b1.below an
 refine dM 0 a m ?_
 refine dM 1 (vJ (j : Int)) m ?_
 refine dM 2 a m ?_
 refine dM 3 (vJ (j : Int)) m ?_
 refine dT (i := 4) rfl rfl (by kernel_rfl) (fun _ _ => zJ Tryz.underlying48 sz3 (v := a) rfl rfl ae (by omega) (by omega)) m ?_
 refine dT (i := 5) rfl rfl (by kernel_rfl) (fun _ hS => zI (r := g.getD j 0) rfl ag3 (z := (j : Int)) rfl ae hS (by omega) (by omega)) m ?_
 refine dM 6 a m ?_
 refine dM 7 (vJ (((ns.getD j default).r).getD c 0)) m ?_
 refine dT (i := 8) rfl rfl (by kernel_rfl) (fun _ _ => zJ Tryz.underlying48 sz3 (v := a) rfl rfl ae (by omega) (by omega)) m ?_
 refine dT (i := 9) rfl rfl (by kernel_rfl) (fun _ hS => zI (r := g.getD (((ns.getD j default).r).getD c 0).toNat 0) rfl ag3 (z := (((ns.getD j default).r).getD c 0)) rfl ae hS (by omega) (by omega)) m ?_
 refine dT (i := 10) rfl rfl (by kernel_rfl) (fun _ _ => yJ rfl rfl (by omega)) m ?_
 refine dT (i := 11) rfl rfl (by kernel_rfl) (fun _ _ => r_max rfl rfl) m ?_
 refine dT (i := 12) rfl rfl (by kernel_rfl) (fun _ _ => zJ Tryz.underlying48 sz3 (v := a) rfl rfl ae (by omega) (by omega)) m ?_
 refine dO (i := 13) (jB (i := 13) rfl rfl rfl (zD rfl _) (fD (E := eInt) (v := a) (u := (vJ (max (g.getD j 0) ((g.getD (((ns.getD j default).r).getD c 0).toNat 0) + 1)))) (z := (j : Int)) (max (g.getD j 0) ((g.getD (((ns.getD j default).r).getD c 0).toNat 0) + 1)) sz3 rfl rfl rfl rfl a8.pins a9 (by omega) (by omega) (fun cq b5 b6 b7 cr => ?_)))
 have b8 := a8.write b6 b7 ((yH a9))
 refine ⟨fun h => absurd rfl h, ?_⟩
 refine yP (by kernel_rfl) (yA (zA (zC ?_)))
 refine qD rfl (yJ rfl rfl (by omega)) (qM (vJ ((c : Int) + 1)) ?_)
 refine qe (yD (⟨_, ?_, _, rfl, _, c + 1, bmax j g ((ns.getD j default).r.getD c 0), (pS 44 (pS 43 (pS 42 (pS 15 (pS 14 (pS 13 (pS 4 (pS 3 (pU 2))))))))), rfl, b8, (by omega), ((fI _ _ _).trans a6), (am.max hk.1 hk.2), (a7.trans (brow_next (by omega))), b5⟩))
 omega
 refine wp_exit (zV (yK (yE (yA (zA (zC ?_))))))
 refine qD rfl (yJ rfl rfl (by omega)) (qM (vJ ((j : Int) + 1)) ?_)
 refine qe (yD (⟨_, ?_, _, rfl, _, j + 1, g, t, (pS 15 (pS 14 (pS 13 (pS 3 (pU 2))))), rfl, ad, (dW ag ah), (by omega), a6, am, (hr.trans ((bgo_next (by omega)).trans (by rw [a3, brow_end (by omega), a7, brow_end (by omega)]))), ar⟩))
 omega
 refine wp_exit (zV (yK (yE (zA (zB (zC ?_))))))
 refine qM a ?_
 refine qM a ?_
 refine qe (zA ?_)
 exact wp_ret (zO (zQ (v := a) rfl rfl rfl (⟨_, _, rfl, (by rw [hr, bgo_end (by omega)]; exact ap), y⟩)))
theorem used_spec {w : World} {m : Int} (hP : Pins G w) (hv : RSl eNode G v ns) (ho : OptsOk ns) (hs : (0 ≤ m ∧ m < ns.length) ∧ ns.length ≤ 1048576) :
  Calls Tryz.prog 38 [v, (vJ m)].toArray w fun e w' => ∃ (u : Value) (G' : Pin), e = .returned u ∧ Own eBool 4 G' w' w.heap.size u (usedM ns m.toNat) ∧ Ext noS G w G' w' := by
 refine zU (n := 56) Tryz.func38 Tryz.ntmps38 rfl rfl ?_
 have ab := exr noS hP
 refine zB (zC ?_)
 refine qM vN ?_
 refine qe (zA (zB (zC ?_)))
 refine qM v ?_
 refine qD rfl (zP Tryz.underlying24 (v := v) rfl hv) (qI rfl (nF (E := eBool) false 1 (.bool false) Tryz.underlying76 mk4 (fun _ => rfl) rfl rfl ab.pins (by omega) (by omega) (by omega) (fun a w2 am an ao a8 => ?_)))
 have ag := ab.step an ao
 have ac : Own eBool 4 G w2 w.heap.size a (List.replicate ns.length false) := am.weaken ab.size
 have a9 : (List.replicate ns.length false).length = ns.length := List.length_replicate ..
 refine qM a ?_
 refine qe (zA (zB (zC ?_)))
 refine qM a ?_
 refine qM (vJ m) ?_
 refine qD rfl (zJ Tryz.underlying76 sz4 (v := a) rfl rfl ac.read (by omega) (by omega)) (q0 rfl rfl rfl (fD (E := eBool) (v := a) (u := (.bool true)) (z := m) (true) sz4 rfl rfl rfl rfl ag.pins ac (by omega) (by omega) (fun ba ap aq ar bb => ?_)))
 have au := ag.write aq ar ((yH ac))
 refine qe (zA (zB (zB (zC ?_))))
 refine qM (vJ m) ?_
 refine qM (vJ m) ?_
 refine qe (zA ?_)
 refine zW (yS (fun k en W => ∃ (d : Nat → Value) (z : Int) (b : List Bool), en = (upd (upd (upd (upd d 0 v) 4 vN) 5 a) 6 (vJ z)) ∧ k = (z + 1).toNat ∧ Ext noS G w G W ∧ (-1 ≤ z ∧ z ≤ m) ∧ (b.length = ns.length) ∧ (usedM ns m.toNat = ugo ns (z + 1).toNat b) ∧ (Own eBool 4 G W w.heap.size a (b))) _ ⟨_, m, (List.replicate ns.length false).set m.toNat true, (pS 6 (pS 5 (pS 4 (pU 0)))), rfl, au, (by omega), (by simp), (by rw [show (m + 1).toNat = m.toNat + 1 by omega]; rfl), ap⟩ ?_)
 rintro bc _ bd ⟨d, z, b, rfl, be, h, hz, hnb, hr, o⟩
 refine zB (zB (zC ?_))
 refine qM (vJ z) ?_
 refine qD rfl (fN rfl rfl) (qe (zA ?_))
 refine yC (p := (0 : Int) ≤ z) rfl rfl (fun av => ?_) (fun av => ?_)
 refine wp_skip (zA (zB ?_))
 refine zW (zB (zB (zC ?_)))
 refine qM a ?_
 refine qM (vJ z) ?_
 refine qD rfl (zJ Tryz.underlying76 sz4 (v := a) rfl rfl o.read (by omega) (by omega)) (qD rfl (vU (r := b.getD (z).toNat false) rfl ag4 (z := z) rfl o.read (Gadd.pins h.pins a) (by omega) (by omega)) (qD rfl (xR rfl) (qe (zA ?_))))
 refine qY rfl rfl (fun ad => ?_) (fun ad => ?_)
 refine wp_skip (zA (zB (zB (zC ?_))))
 refine qM v ?_
 refine qM (vJ z) ?_
 refine qD rfl (zJ Tryz.underlying24 sz69 (v := v) rfl rfl hv (by omega) (by omega)) (qD rfl (xF (off := 0) Tryz.underlying69 rfl rfl nz48 (z := z) (k := 0) rfl hv (by omega) (by omega)) ?_)
 obtain ⟨ae, s, aw⟩ := kA (hv.at (z := z) (by omega) (by omega)) (j := (z).toNat) rfl
 have bf := s.max
 refine qD rfl (aw ag48 rfl h.pins) (qD rfl (zP Tryz.underlying48 (v := ae) rfl s) (qM (vJ 0) ?_))
 refine qe (zA ?_)
 refine zW (yS (fun k en W => ∃ (d : Nat → Value) (i : Nat) (f : List Bool), en = (upd (upd (upd (upd (upd (upd (upd d 0 v) 4 vN) 5 a) 6 (vJ z)) 31 ae) 32 (vJ (((ns.getD (z).toNat default).l).length : Int))) 33 (vJ (i : Int))) ∧ k = (ns.getD (z).toNat default).l.length - i ∧ Ext noS G w G W ∧ (i ≤ (ns.getD (z).toNat default).l.length) ∧ (f.length = ns.length) ∧ (setAll b (ns.getD (z).toNat default).l = setAll f ((ns.getD (z).toNat default).l.drop i)) ∧ (Own eBool 4 G W w.heap.size a (f))) _ ⟨_, 0, b, (pS 33 (pS 32 (pS 31 (pS 6 (pS 5 (pS 4 (pU 0))))))), rfl, h, Nat.zero_le _, hnb, rfl, o⟩ ?_)
 rintro bg _ bh ⟨d, i, f, rfl, bi, q, hii, ah, ai, t⟩
 refine zB (zC ?_)
 refine qD rfl (yX rfl rfl) (qe (zA (zB ?_)))
 refine yC (p := ((i : Int) : Int) < (((ns.getD (z).toNat default).l).length : Int)) rfl rfl (fun ax => ?_) (fun ax => ?_)
 have hk := ho.left (j := (z).toNat) (i := i) (by omega) (by omega)
 refine wp_skip (zA (zB ?_))
 refine zW (zB (zC ?_))
 refine qD rfl (zJ Tryz.underlying48 sz3 (v := ae) rfl rfl s (by omega) (by omega)) (qD rfl (zI (r := ((ns.getD (z).toNat default).l).getD i 0) rfl ag3 (z := (i : Int)) rfl s q.pins (by omega) (by omega)) (qM (vJ (((ns.getD (z).toNat default).l).getD i 0)) ?_))
 refine qe (zA (zC ?_))
 refine qM a ?_
 refine qM (vJ (((ns.getD (z).toNat default).l).getD i 0)) ?_
 refine qD rfl (zJ Tryz.underlying76 sz4 (v := a) rfl rfl t.read (by omega) (by omega)) (q0 rfl rfl rfl (fD (E := eBool) (v := a) (u := (.bool true)) (z := (((ns.getD (z).toNat default).l).getD i 0)) (true) sz4 rfl rfl rfl rfl q.pins t (by omega) (by omega) (fun bj ay az a0 bk => ?_)))
 have a1 := q.write az a0 ((yH t))
 refine qe (yA (zA (zC ?_)))
 refine qD rfl (yJ rfl rfl (by omega)) (qM (vJ ((i : Int) + 1)) ?_)
 refine qe (yD (⟨_, ?_, _, rfl, _, i + 1, f.set ((ns.getD (z).toNat default).l.getD i 0).toNat true, (pS 33 (pS 32 (pS 31 (pS 6 (pS 5 (pS 4 (pU 0))))))), rfl, a1, (by omega), ((List.length_set ..).trans ah), (ai.trans (kZ (by omega))), ay⟩))
 omega
 refine wp_exit (zV (yK (yE (zA (zB (zC ?_))))))
 refine qM v ?_
 refine qM (vJ z) ?_
 refine qD rfl (zJ Tryz.underlying24 sz69 (v := v) rfl rfl hv (by omega) (by omega)) (qD rfl (xF (off := 1) Tryz.underlying69 rfl rfl nz48 (z := z) (k := 0) rfl hv (by omega) (by omega)) ?_)
 obtain ⟨af, x, a2⟩ := kE (hv.at (z := z) (by omega) (by omega)) (j := (z).toNat) rfl
 have bl := x.max
 refine qD rfl (a2 ag48 rfl q.pins) (qD rfl (zP Tryz.underlying48 (v := af) rfl x) (qM (vJ 0) ?_))
 refine qe (zA ?_)
 refine zW (yS (fun k en W => ∃ (d : Nat → Value) (c : Nat) (g : List Bool), en = (upd (upd (upd (upd (upd (upd (upd d 0 v) 4 vN) 5 a) 6 (vJ z)) 45 af) 46 (vJ (((ns.getD (z).toNat default).r).length : Int))) 47 (vJ (c : Int))) ∧ k = (ns.getD (z).toNat default).r.length - c ∧ Ext noS G w G W ∧ (c ≤ (ns.getD (z).toNat default).r.length) ∧ (g.length = ns.length) ∧ (setAll f (ns.getD (z).toNat default).r = setAll g ((ns.getD (z).toNat default).r.drop c)) ∧ (Own eBool 4 G W w.heap.size a (g))) _ ⟨_, 0, f, (pS 47 (pS 46 (pS 45 (pS 6 (pS 5 (pS 4 (pU 0))))))), rfl, q, Nat.zero_le _, ah, rfl, t⟩ ?_)
 rintro bm _ bn ⟨d, c, g, rfl, bo, y, bp, aj, ak, aa⟩
 refine zB (zC ?_)
 refine qD rfl (yX rfl rfl) (qe (zA (zB ?_)))
 refine yC (p := ((c : Int) : Int) < (((ns.getD (z).toNat default).r).length : Int)) rfl rfl (fun a3 => ?_) (fun a3 => ?_)
 have hk := ho.right (j := (z).toNat) (i := c) (by omega) (by omega)
 refine wp_skip (zA (zB ?_))
 refine zW (zB (zC ?_))
 refine qD rfl (zJ Tryz.underlying48 sz3 (v := af) rfl rfl x (by omega) (by omega)) (qD rfl (zI (r := ((ns.getD (z).toNat default).r).getD c 0) rfl ag3 (z := (c : Int)) rfl x y.pins (by omega) (by omega)) (qM (vJ (((ns.getD (z).toNat default).r).getD c 0)) ?_))
 refine qe (zA (zC ?_))
 refine qM a ?_
 refine qM (vJ (((ns.getD (z).toNat default).r).getD c 0)) ?_
 refine qD rfl (zJ Tryz.underlying76 sz4 (v := a) rfl rfl aa.read (by omega) (by omega)) (q0 rfl rfl rfl (fD (E := eBool) (v := a) (u := (.bool true)) (z := (((ns.getD (z).toNat default).r).getD c 0)) (true) sz4 rfl rfl rfl rfl y.pins aa (by omega) (by omega) (fun bq a4 a5 a6 br => ?_)))
 have a7 := y.write a5 a6 ((yH aa))
 refine qe (yA (zA (zC ?_)))
 refine qD rfl (yJ rfl rfl (by omega)) (qM (vJ ((c : Int) + 1)) ?_)
 refine qe (yD (⟨_, ?_, _, rfl, _, c + 1, g.set ((ns.getD (z).toNat default).r.getD c 0).toNat true, (pS 47 (pS 46 (pS 45 (pS 6 (pS 5 (pS 4 (pU 0))))))), rfl, a7, (by omega), ((List.length_set ..).trans aj), (ak.trans (kZ (by omega))), a4⟩))
 omega
 refine wp_exit (zV (yK (yE (yA (zA (zC ?_))))))
 refine qM (vJ z) ?_
 refine qD rfl (qC rfl rfl (by omega)) (qM (vJ (z - 1)) ?_)
 refine qe (yD (⟨_, ?_, _, rfl, _, z - 1, g, (pS 6 (pS 5 (pS 4 (pU 0)))), rfl, y, (by omega), aj, (hr.trans ((rP (by omega)).trans (by rw [tH ad, ai, fX (by omega), ak, fX (by omega)]))), aa⟩))
 omega
 refine wp_exit (zV (yE (zA (zC ?_))))
 refine qM (vJ z) ?_
 refine qD rfl (qC rfl rfl (by omega)) (qM (vJ (z - 1)) ?_)
 refine qe (yD (⟨_, ?_, _, rfl, _, z - 1, b, (pS 6 (pS 5 (pS 4 (pU 0)))), rfl, h, (by omega), hnb, (hr.trans ((rP (by omega)).trans (by rw [sB ad]))), o⟩))
 omega
 refine wp_exit (zV (yK (yE (zA (zB (zC ?_))))))
 refine qM a ?_
 refine qM a ?_
 refine qe (zA ?_)
 exact wp_ret (zO (zQ (v := a) rfl rfl rfl (⟨_, _, rfl, (by rw [hr, ugo_end (by omega)]; exact o), h⟩)))
theorem vX {w : World} (hP : Pins G w) (hv : RSl eNode G v ns) :
  Calls Tryz.prog 15 [(.agg [v].toArray)].toArray w fun e w' => ∃ G', e = .returned (.bool (goodB ns)) ∧ Ext noS G w G' w' := by
 refine zU (n := 93) Tryz.func15 Tryz.ntmps15 rfl rfl ?_
 have a6 := exr noS hP
 have hm := hv.max
 refine zB (zC ?_)
 refine qI rfl (xH [v] (v := (.agg [v].toArray)) rfl rfl a6.pins (fun b1 w2 e4 ck cl cm => ?_))
 have cn := a6.step cl cm
 have co : w.heap.size ≤ b1 := by have := a6.size; omega
 obtain ⟨G9, s, aj, y, e5⟩ := ck.shut cn co
 refine qM (.bool false) ?_
 refine qe (zA (zB (zB (zC ?_))))
 refine qD rfl (zK (k := 0) rfl Tryz.underlying26 rfl nz24 rfl) (qD rfl (zL (u := v) ag24 rfl (aj.pins _ _ _ (y 0 _ rfl))) (qD rfl (zP Tryz.underlying24 (v := v) rfl hv) (qD rfl (yX rfl rfl) (qM (.bool (decide (((ns.length : Int) : Int) < 1))) ?_))))
 refine qbd (p := ((ns.length : Int) : Int) < 1) (t := 13) rfl (fun cp => ?_) (fun cp => ?_)
 refine qW ?_
 refine qW ?_
 refine qW ?_
 refine qW ?_
 refine qD rfl (yR (v := (.bool true)) rfl rfl) (qe (zA ?_))
 refine jS rfl rfl (zB (zC ?_))
 refine qM (.bool false) ?_
 refine qe (zA ?_)
 exact wp_ret (zO (zQ (v := (.bool false)) rfl rfl rfl (⟨_, congrArg (fun z => Ending.returned (Value.bool z)) (goodB_false.2 (fun g => by have := g.lo; omega)).symm, aj⟩)))
 refine qN (zK (k := 0) rfl Tryz.underlying26 rfl nz24 rfl) ?_
 refine qN (zL (u := v) ag24 rfl (aj.pins _ _ _ (y 0 _ rfl))) ?_
 refine qN (zP Tryz.underlying24 (v := v) rfl hv) ?_
 refine qN (jO rfl rfl) ?_
 refine qD rfl (yI (v := (.bool (decide ((120 : Int) < (ns.length : Int))))) rfl rfl) (qe (zA ?_))
 refine yC (p := (120 : Int) < (ns.length : Int)) rfl rfl (fun cq => ?_) (fun cq => ?_)
 refine zB (zC ?_)
 refine qM (.bool false) ?_
 refine qe (zA ?_)
 exact wp_ret (zO (zQ (v := (.bool false)) rfl rfl rfl (⟨_, congrArg (fun z => Ending.returned (Value.bool z)) (goodB_false.2 (fun g => by have := g.hi; omega)).symm, aj⟩)))
 refine wp_skip (zA (zB (zB (zC ?_))))
 refine qD rfl (zK (k := 0) rfl Tryz.underlying26 rfl nz24 rfl) (qD rfl (zL (u := v) ag24 rfl (aj.pins _ _ _ (y 0 _ rfl))) (qD rfl (zP Tryz.underlying24 (v := v) rfl hv) (qM (vJ 0) ?_)))
 refine qe (zA ?_)
 refine zW (yS (fun k en W => ∃ (aa : Nat → Value) (j : Nat) (a7 : Pin), en = (upd (upd (upd (upd aa 1 (vP b1)) 20 v) 21 (vJ (ns.length : Int))) 22 (vJ (j : Int))) ∧ k = ns.length - j ∧ Ext noS G w a7 W ∧ Pin.le G9 a7 ∧ (j ≤ ns.length) ∧ (∀ i, i < j → goodOpts (ns.getD i default).l i = true ∧ goodOpts (ns.getD i default).r i = true)) _ ⟨_, 0, G9, (pS 22 (pS 21 (pS 20 (pU 1)))), rfl, aj, Pin.le_refl _, Nat.zero_le _, (fun i hi => absurd hi (Nat.not_lt_zero i))⟩ ?_)
 rintro e6 _ e7 ⟨aa, j, a7, rfl, e8, ab, d, hj, hg⟩
 refine zB (zC ?_)
 refine qD rfl (yX rfl rfl) (qe (zA (zB ?_)))
 refine yC (p := ((j : Int) : Int) < (ns.length : Int)) rfl rfl (fun cr => ?_) (fun cr => ?_)
 refine wp_skip (zA (zB ?_))
 refine zW (zB (zC ?_))
 refine qM (vJ (j : Int)) ?_
 refine qD rfl (zJ Tryz.underlying24 sz69 (v := v) rfl rfl hv (by omega) (by omega)) ?_
 obtain ⟨ao, ap, a8, a9, cs⟩ := vW (hv.at (z := (j : Int)) (by omega) (by omega)) (j := j) rfl
 have e9 := a8.max
 have fa := a9.max
 refine qD rfl (cs ag69 sz69 rfl (dX ab.pins (dW s d))) (qI rfl (yM [vN, vN] zr69 rfl ab.pins (fun ct fb fc cu cv cw => ?_)))
 have bp := ab.step cv cw
 have bq : w.heap.size ≤ ct := by have := ab.size; omega
 refine qM (vJ (j : Int)) ?_
 refine q0 rfl rfl rfl (o_stp (cs' := [ao, ap]) (us := [ao, ap]) (v := (.agg [ao, ap].toArray)) sz69 rfl rfl rfl (xG a8.one a9.one) bp.pins cu (dZ rfl) rfl (fun fd cx cy cz fe => ?_))
 have c0 := bp.write cy cz ((zY bq))
 obtain ⟨c1, ba, ai, br, ff⟩ := cx.shut c0 bq
 refine qe (zA (zB (zC ?_)))
 refine qD rfl (zK (k := 0) rfl Tryz.underlying69 rfl nz48 rfl) (qD rfl (zL (u := ao) ag48 rfl (ai.pins _ _ _ (br 0 _ rfl))) (qM (vJ (j : Int)) ?_))
 refine qI rfl (zF (vs := [ao, (vJ (j : Int))]) Tryz.func32 nm32 rfl rfl rfl ?_)
 refine dY (fS ai.pins (a8.mono (dW (dW s d) ba))) ?_
 rintro _ _ ⟨rfl, rfl⟩
 refine ⟨_, rfl, ?_⟩
 refine qD rfl (xR rfl) (qM (.bool (!(goodOpts ((ns.getD j default).l) (j : Int)))) ?_)
 refine qbn (t := 32) rfl (fun bb => ?_) (fun bb => ?_)
 refine qN (zK (k := 1) rfl Tryz.underlying69 rfl nz48 rfl) ?_
 refine qN (zL (u := ap) ag48 rfl (ai.pins _ _ _ (br 1 _ rfl))) ?_
 refine qN (zR (v := (vJ (j : Int))) rfl) ?_
 refine q1g rfl rfl rfl rfl rfl rfl (zF (vs := [ap, (vJ (j : Int))]) Tryz.func32 nm32 rfl rfl rfl ?_)
 refine dY (fS ai.pins (a9.mono (dW (dW s d) ba))) ?_
 rintro _ _ ⟨rfl, rfl⟩
 refine ⟨_, rfl, ?_⟩
 refine qN (xR rfl) ?_
 refine qD rfl (yI (v := (.bool (!(goodOpts ((ns.getD j default).r) (j : Int))))) rfl rfl) (qe (zA ?_))
 refine qY rfl rfl (fun bc => ?_) (fun bc => ?_)
 refine wp_skip (yA (zA (zC ?_)))
 refine qD rfl (yJ rfl rfl (by omega)) (qM (vJ ((j : Int) + 1)) ?_)
 refine qe (yD (⟨_, ?_, _, rfl, _, j + 1, c1, (pS 22 (pS 21 (pS 20 (pU 1)))), rfl, ai, (dW d ba), (by omega), (fun k hk => if h3 : k = j then h3 ▸ ⟨bb, bc⟩ else hg k (by omega))⟩))
 omega
 refine zB (zC ?_)
 refine qM (.bool false) ?_
 refine qe (zA ?_)
 exact wp_ret (zO (zQ (v := (.bool false)) rfl rfl rfl (⟨_, congrArg (fun z => Ending.returned (Value.bool z)) (goodB_false.2 (fun g => by have := (g.opts j (by omega)).2; rw [bc] at this; cases this)).symm, ai⟩)))
 refine qW ?_
 refine qW ?_
 refine qW ?_
 refine qW ?_
 refine qW ?_
 refine qD rfl (yR (v := (.bool true)) rfl rfl) (qe (zA ?_))
 refine jS rfl rfl (zB (zC ?_))
 refine qM (.bool false) ?_
 refine qe (zA ?_)
 exact wp_ret (zO (zQ (v := (.bool false)) rfl rfl rfl (⟨_, congrArg (fun z => Ending.returned (Value.bool z)) (goodB_false.2 (fun g => by have := (g.opts j (by omega)).1; rw [bb] at this; cases this)).symm, ai⟩)))
 refine wp_exit (zV (yK (yE (zA (zB (zC ?_))))))
 refine qD rfl (zK (k := 0) rfl Tryz.underlying26 rfl nz24 rfl) (qD rfl (zL (u := v) ag24 rfl ((dX ab.pins d) _ _ _ (y 0 _ rfl))) ?_)
 have hopts : ∀ i, i < ns.length → goodOpts (ns.getD i default).l i = true ∧ goodOpts (ns.getD i default).r i = true := fun i hi => hg i (by omega)
 refine qI rfl (zF (vs := [v]) Tryz.func33 nm33 rfl rfl rfl ?_)
 refine dY (births_spec ab.pins (hv.mono (dW s d)) (opts_ok hopts) (by omega)) ?_
 rintro _ c2 ⟨ac, c3, rfl, c4, m⟩
 refine ⟨_, rfl, ?_⟩
 have c5 := ab.tr m
 have c6 := c4.weaken ab.size
 refine qM ac ?_
 refine qe (zA (zB (zB (zC ?_))))
 have hnb := fL ns
 obtain ⟨bs, q, c7, a3, fg⟩ := c6.sealed c5
 refine qM (vJ 1) ?_
 refine qe (zA ?_)
 refine zW (yS (fun k en W => ∃ (aa : Nat → Value) (i : Nat) (aq : Pin), en = (upd (upd (upd aa 1 (vP b1)) 5 ac) 6 (vJ (i : Int))) ∧ k = ns.length - i ∧ Ext noS G w aq W ∧ Pin.le bs aq ∧ (1 ≤ i ∧ i ≤ ns.length) ∧ (∀ k, 1 ≤ k → k < i → pairC ns (births ns) k < 0)) _ ⟨_, 1, bs, (pS 6 (pS 5 (pU 1))), rfl, c7, Pin.le_refl _, (by omega), (fun k a b => absurd a (by omega))⟩ ?_)
 rintro fh _ bd ⟨aa, i, aq, rfl, fi, ad, f, hi, hsr⟩
 refine zB (zB (zC ?_))
 refine qM (vJ (i : Int)) ?_
 refine qD rfl (zK (k := 0) rfl Tryz.underlying26 rfl nz24 rfl) (qD rfl (zL (u := v) ag24 rfl ((dX ad.pins (dW (dW (dW d m.le) q) f)) _ _ _ (y 0 _ rfl))) (qD rfl (zP Tryz.underlying24 (v := v) rfl hv) (qD rfl (yX rfl rfl) (qe (zA ?_)))))
 refine yC (p := ((i : Int) : Int) < (ns.length : Int)) rfl rfl (fun c8 => ?_) (fun c8 => ?_)
 refine wp_skip (zA (zB ?_))
 refine zW (zB (c_cut (fun (en : Nat → Value) (W : World) => ∃ (aa : Nat → Value) (be : Nat) (ar : Value) (au : Value) (bf : Nat) (av : Value) (aw : Value) (x : Pin), en = (upd (upd (upd (upd (upd aa 1 (vP b1)) 5 ac) 6 (vJ (i : Int))) 7 (vP be)) 8 (vP bf)) ∧ Ext noS G w x W ∧ Pin.le aq x ∧ (RSl eInt x ar ((ns.getD ((i : Int) - 1).toNat default).l)) ∧ (RSl eInt x au ((ns.getD ((i : Int) - 1).toNat default).r)) ∧ (RSl eInt x av ((ns.getD i default).l)) ∧ (RSl eInt x aw ((ns.getD i default).r)) ∧ (BxP x be [ar, au]) ∧ (BxP x bf [av, aw])) ?_ ?_))
 ·rintro _ bg ⟨aa, be, ar, au, bf, av, aw, x, rfl, bt, bh, c9, da, db, dc, bu, bv⟩
  refine zA (zB ?_)
  refine yZ (S := fun wz => Pins x wz) (last := 23) (by kernel_rfl) rfl ?_
  have bw := bdr bg
  have dd := bt.pins.below bw
  have c := bt.step dd bw
  refine dM 0 ac c.pins ?_
  refine dM 1 (vJ (i : Int)) c.pins ?_
  refine dT (i := 2) rfl rfl (by kernel_rfl) (fun _ _ => qC rfl rfl (by omega)) c.pins ?_
  refine dT (i := 3) rfl rfl (by kernel_rfl) (fun _ _ => zJ Tryz.underlying48 sz3 (v := ac) rfl rfl a3 (by omega) (by omega)) c.pins ?_
  refine dT (i := 4) rfl rfl (by kernel_rfl) (fun _ hS => zI (r := (births ns).getD ((i : Int) - 1).toNat 0) rfl ag3 (z := ((i : Int) - 1)) rfl a3 (dX hS (dW f bh)) (by omega) (by omega)) c.pins ?_
  refine dM 5 ac c.pins ?_
  refine dM 6 (vJ (i : Int)) c.pins ?_
  refine dT (i := 7) rfl rfl (by kernel_rfl) (fun _ _ => zJ Tryz.underlying48 sz3 (v := ac) rfl rfl a3 (by omega) (by omega)) c.pins ?_
  refine dT (i := 8) rfl rfl (by kernel_rfl) (fun _ hS => zI (r := (births ns).getD i 0) rfl ag3 (z := (i : Int)) rfl a3 (dX hS (dW f bh)) (by omega) (by omega)) c.pins ?_
  refine dT (i := 10) rfl rfl (by kernel_rfl) (fun _ _ => zK (k := 0) rfl Tryz.underlying69 rfl nz48 rfl) c.pins ?_
  refine dT (i := 11) rfl rfl (by kernel_rfl) (fun _ hS => zL (u := ar) ag48 rfl (hS _ _ _ (bu 0 _ rfl))) c.pins ?_
  refine dT (i := 12) rfl rfl (by kernel_rfl) (fun _ _ => zK (k := 0) rfl Tryz.underlying69 rfl nz48 rfl) c.pins ?_
  refine dT (i := 13) rfl rfl (by kernel_rfl) (fun _ hS => zL (u := av) ag48 rfl (hS _ _ _ (bv 0 _ rfl))) c.pins ?_
  refine dT (i := 15) rfl rfl (by kernel_rfl) (fun _ _ => zK (k := 1) rfl Tryz.underlying69 rfl nz48 rfl) c.pins ?_
  refine dT (i := 16) rfl rfl (by kernel_rfl) (fun _ hS => zL (u := au) ag48 rfl (hS _ _ _ (bu 1 _ rfl))) c.pins ?_
  refine dT (i := 17) rfl rfl (by kernel_rfl) (fun _ _ => zK (k := 1) rfl Tryz.underlying69 rfl nz48 rfl) c.pins ?_
  refine dT (i := 18) rfl rfl (by kernel_rfl) (fun _ hS => zL (u := aw) ag48 rfl (hS _ _ _ (bv 1 _ rfl))) c.pins ?_
  refine dO (i := 9) (zS (i := 9) rfl rfl rfl (zD rfl _) (zF (vs := [(vJ ((births ns).getD ((i : Int) - 1).toNat 0)), (vJ ((births ns).getD i 0))]) Tryz.func35 nm35 rfl rfl rfl ?_))
  refine dY (gL c.pins) ?_
  rintro _ _ ⟨rfl, rfl⟩
  refine ⟨_, rfl, ?_⟩
  refine ⟨fun _ => c.pins, ?_⟩
  refine dO (i := 14) (zS (i := 14) rfl rfl rfl (zD rfl _) (zF (vs := [ar, av]) Tryz.func36 nm36 rfl rfl rfl ?_))
  refine dY (gO c.pins c9 db) ?_
  rintro _ _ ⟨rfl, rfl⟩
  refine ⟨_, rfl, ?_⟩
  refine ⟨fun _ => c.pins, ?_⟩
  refine dO (i := 19) (zS (i := 19) rfl rfl rfl (zD rfl _) (zF (vs := [au, aw]) Tryz.func36 nm36 rfl rfl rfl ?_))
  refine dY (gO c.pins da dc) ?_
  rintro _ _ ⟨rfl, rfl⟩
  refine ⟨_, rfl, ?_⟩
  refine ⟨fun _ => c.pins, ?_⟩
  refine dO (i := 20) (zS (i := 20) rfl rfl rfl (zD rfl _) (yG (E := eInt) (e := 3) [(vJ (cmpI ((births ns).getD ((i : Int) - 1).toNat 0) ((births ns).getD i 0))), (vJ (cmpL ((ns.getD ((i : Int) - 1).toNat default).l) ((ns.getD i default).l))), (vJ (cmpL ((ns.getD ((i : Int) - 1).toNat default).r) ((ns.getD i default).r)))] [cmpI ((births ns).getD ((i : Int) - 1).toNat 0) ((births ns).getD i 0), cmpL ((ns.getD ((i : Int) - 1).toNat default).l) ((ns.getD i default).l), cmpL ((ns.getD ((i : Int) - 1).toNat default).r) ((ns.getD i default).r)] Tryz.underlying48 sz3 zr3 (by exact reps3 (by rfl) (by rfl) (by rfl)) (ones3 (by rfl) (by rfl) (by rfl)) rfl rfl rfl rfl (by decide) c.pins (fun bx de df dg dh fj => ?_)))
  have bz := c.step dg dh
  have di := df.weaken c.size
  refine ⟨fun _ => bz.pins, ?_⟩
  obtain ⟨dj, bi, ax, dk, fk⟩ := di.sealed bz
  refine dO (i := 21) (zS (i := 21) rfl rfl rfl (zD rfl _) (zF (vs := [bx]) Tryz.func34 nm34 rfl rfl rfl ?_))
  refine dY (cmpOr_spec ax.pins dk) ?_
  rintro _ _ ⟨rfl, rfl⟩
  refine ⟨_, rfl, ?_⟩
  refine ⟨fun _ => (dX ax.pins bi), ?_⟩
  refine dT (i := 22) rfl rfl (by kernel_rfl) (fun _ _ => fN rfl rfl) (dX ax.pins bi) ?_
  refine yP (by kernel_rfl) (zA (yC (p := (0 : Int) ≤ (orL ([cmpI ((births ns).getD ((i : Int) - 1).toNat 0) ((births ns).getD i 0), cmpL ((ns.getD ((i : Int) - 1).toNat default).l) ((ns.getD i default).l), cmpL ((ns.getD ((i : Int) - 1).toNat default).r) ((ns.getD i default).r)]))) rfl rfl (fun dl => ?_) (fun dl => ?_)))
  refine zB (zC ?_)
  refine qM (.bool false) ?_
  refine qe (zA ?_)
  exact wp_ret (zO (zQ (v := (.bool false)) rfl rfl rfl (⟨_, congrArg (fun z => Ending.returned (Value.bool z)) (goodB_false.2 (fun g => by have := g.sorted i (by omega) (by omega); unfold pairC at this; rw [show i - 1 = ((i : Int) - 1).toNat by omega] at this; omega)).symm, ax⟩)))
  refine wp_skip (yA (zA (zC ?_)))
  refine qM (vJ (i : Int)) ?_
  refine qD rfl (yJ rfl rfl (by omega)) (qM (vJ ((i : Int) + 1)) ?_)
  refine qe (yD ?_)
  have hstep : pairC ns (births ns) i < 0 := by
   unfold pairC; rw [show i - 1 = ((i : Int) - 1).toNat by omega]; omega
  refine ⟨_, ?_, _, rfl, _, i + 1, dj, (pS 6 (pS 5 (pU 1))), rfl, ax, (dW (dW f bh) bi), (by omega), (fun k h1 h2 => if h3 : k = i then h3 ▸ hstep else hsr k h1 (by omega))⟩
  omega
 refine yZ (S := fun wz => Pins aq wz) (last := 14) (by kernel_rfl) rfl ?_
 have b0 := bdr bd
 have dn := ad.pins.below b0
 have o := ad.step dn b0
 refine dT (i := 0) rfl rfl (by kernel_rfl) (fun _ _ => zK (k := 0) rfl Tryz.underlying26 rfl nz24 rfl) o.pins ?_
 refine dT (i := 1) rfl rfl (by kernel_rfl) (fun _ hS => zL (u := v) ag24 rfl ((dX hS (dW (dW (dW d m.le) q) f)) _ _ _ (y 0 _ rfl))) o.pins ?_
 refine dM 2 (vJ (i : Int)) o.pins ?_
 refine dT (i := 3) rfl rfl (by kernel_rfl) (fun _ _ => qC rfl rfl (by omega)) o.pins ?_
 refine dT (i := 4) rfl rfl (by kernel_rfl) (fun _ _ => zJ Tryz.underlying24 sz69 (v := v) rfl rfl hv (by omega) (by omega)) o.pins ?_
 obtain ⟨ae, af, ay, az, dp⟩ := vW (hv.at (z := ((i : Int) - 1)) (by omega) (by omega)) (j := ((i : Int) - 1).toNat) rfl
 have fl := ay.max
 have fm := az.max
 refine dT (i := 5) rfl rfl (by kernel_rfl) (fun _ hS => dp ag69 sz69 rfl (dX hS (dW (dW (dW (dW s d) m.le) q) f))) o.pins ?_
 refine dT (i := 6) rfl rfl (by kernel_rfl) (fun _ _ => zK (k := 0) rfl Tryz.underlying26 rfl nz24 rfl) o.pins ?_
 refine dT (i := 7) rfl rfl (by kernel_rfl) (fun _ hS => zL (u := v) ag24 rfl ((dX hS (dW (dW (dW d m.le) q) f)) _ _ _ (y 0 _ rfl))) o.pins ?_
 refine dM 8 (vJ (i : Int)) o.pins ?_
 refine dT (i := 9) rfl rfl (by kernel_rfl) (fun _ _ => zJ Tryz.underlying24 sz69 (v := v) rfl rfl hv (by omega) (by omega)) o.pins ?_
 obtain ⟨ag, ah, a0, a1, dq⟩ := vW (hv.at (z := (i : Int)) (by omega) (by omega)) (j := i) rfl
 have fn := a0.max
 have fo := a1.max
 refine dT (i := 10) rfl rfl (by kernel_rfl) (fun _ hS => dq ag69 sz69 rfl (dX hS (dW (dW (dW (dW s d) m.le) q) f))) o.pins ?_
 refine jJ (i := 11) (j := 12) (by kernel_rfl) ?_ ?_
 refine (zS (i := 11) rfl rfl rfl (zD rfl _) (yM [vN, vN] zr69 rfl o.pins (fun b2 fp fq b3 dr ds => ?_)))
 have a4 := o.step dr ds
 have b4 : w.heap.size ≤ b2 := by have := o.size; omega
 refine ⟨fun _ => a4.pins, ?_⟩
 refine dO (i := 12) (zS (i := 12) rfl rfl rfl (zD rfl _) (yM [vN, vN] zr69 rfl a4.pins (fun b5 fr dt du dv b6 => ?_)))
 have bk := a4.step dv b6
 have dw := b3.below b6
 have b7 := zH (congrArg some dt) b3.lt
 have b8 : w.heap.size ≤ b5 := by have := a4.size; omega
 refine ⟨fun _ => bk.pins, ?_⟩
 refine dO (i := 13) (jB (i := 13) rfl rfl rfl (zD rfl _) (o_stp (cs' := [ae, af]) (us := [ae, af]) (v := (.agg [ae, af].toArray)) sz69 rfl rfl rfl (xG ay.one az.one) bk.pins dw (dZ rfl) rfl (fun fs dx dy b9 ft => ?_)))
 have dz := bk.write dy b9 ((zY b4))
 have d0 := du.keptA b9 b7
 obtain ⟨fu, ak, bl, d1, d2⟩ := dx.shut dz b4
 have d3 := d0.moreA d2 b7
 refine ⟨fun _ => (dX bl.pins ak), ?_⟩
 refine dO (i := 14) (jB (i := 14) rfl rfl rfl (zD rfl _) (o_stp (cs' := [ag, ah]) (us := [ag, ah]) (v := (.agg [ag, ah].toArray)) sz69 rfl rfl rfl (xG a0.one a1.one) bl.pins d3 (dZ rfl) rfl (fun fv d4 d5 d6 fw => ?_)))
 have d7 := bl.write d5 d6 ((zY b8))
 obtain ⟨d8, al, d9, ea, fx⟩ := d4.shut d7 b8
 refine ⟨fun h => absurd rfl h, ?_⟩
 exact yP (by kernel_rfl) (jE ⟨_, b2, ae, af, b5, ag, ah, d8, (pS 8 (pS 7 (pS 6 (pS 5 (pU 1))))), d9, (dW ak al), (ay.mono (dW (dW (dW (dW (dW (dW s d) m.le) q) f) ak) al)), (az.mono (dW (dW (dW (dW (dW (dW s d) m.le) q) f) ak) al)), (a0.mono (dW (dW (dW (dW (dW (dW s d) m.le) q) f) ak) al)), (a1.mono (dW (dW (dW (dW (dW (dW s d) m.le) q) f) ak) al)), (d1.mono al), (ea.mono (Pin.le_refl _))⟩)
 refine (zS (i := 12) rfl rfl rfl (zD rfl _) (yM [vN, vN] zr69 rfl o.pins (fun ca fy fz cb eb ec => ?_)))
 have a5 := o.step eb ec
 have cc : w.heap.size ≤ ca := by have := o.size; omega
 refine ⟨fun _ => a5.pins, ?_⟩
 refine dO (i := 11) (zS (i := 11) rfl rfl rfl (zD rfl _) (yM [vN, vN] zr69 rfl a5.pins (fun cd f0 ed ee ef ce => ?_)))
 have bm := a5.step ef ce
 have eg := cb.below ce
 have cf := zH (congrArg some ed) cb.lt
 have cg : w.heap.size ≤ cd := by have := a5.size; omega
 refine ⟨fun _ => bm.pins, ?_⟩
 refine dO (i := 13) (jB (i := 13) rfl rfl rfl (zD rfl _) (o_stp (cs' := [ae, af]) (us := [ae, af]) (v := (.agg [ae, af].toArray)) sz69 rfl rfl rfl (xG ay.one az.one) bm.pins ee (dZ rfl) rfl (fun f1 eh ei ch f2 => ?_)))
 have ej := bm.write ei ch ((zY cg))
 have ek := eg.keptA ch cf.symm
 obtain ⟨f3, am, bn, el, em⟩ := eh.shut ej cg
 have eo := ek.moreA em cf.symm
 refine ⟨fun _ => (dX bn.pins am), ?_⟩
 refine dO (i := 14) (jB (i := 14) rfl rfl rfl (zD rfl _) (o_stp (cs' := [ag, ah]) (us := [ag, ah]) (v := (.agg [ag, ah].toArray)) sz69 rfl rfl rfl (xG a0.one a1.one) bn.pins eo (dZ rfl) rfl (fun f4 ep eq er f5 => ?_)))
 have es := bn.write eq er ((zY cc))
 obtain ⟨et, an, eu, ev, f6⟩ := ep.shut es cc
 refine ⟨fun h => absurd rfl h, ?_⟩
 exact yP (by kernel_rfl) (jE ⟨_, cd, ae, af, ca, ag, ah, et, (pS 8 (pS 7 (pS 6 (pS 5 (pU 1))))), eu, (dW am an), (ay.mono (dW (dW (dW (dW (dW (dW s d) m.le) q) f) am) an)), (az.mono (dW (dW (dW (dW (dW (dW s d) m.le) q) f) am) an)), (a0.mono (dW (dW (dW (dW (dW (dW s d) m.le) q) f) am) an)), (a1.mono (dW (dW (dW (dW (dW (dW s d) m.le) q) f) am) an)), (el.mono an), (ev.mono (Pin.le_refl _))⟩)
 refine wp_exit (zV (yK (yE (zA (zB (zC ?_))))))
 refine qD rfl (zK (k := 0) rfl Tryz.underlying26 rfl nz24 rfl) (qD rfl (zL (u := v) ag24 rfl ((dX ad.pins (dW (dW (dW d m.le) q) f)) _ _ _ (y 0 _ rfl))) (qD rfl (zK (k := 0) rfl Tryz.underlying26 rfl nz24 rfl) (qD rfl (zL (u := v) ag24 rfl ((dX ad.pins (dW (dW (dW d m.le) q) f)) _ _ _ (y 0 _ rfl))) (qD rfl (zP Tryz.underlying24 (v := v) rfl hv) (qD rfl (qC rfl rfl (by omega)) (qI rfl (zF (vs := [v, (vJ ((ns.length : Int) - 1))]) Tryz.func38 nm38 rfl rfl rfl ?_)))))))
 refine dY (used_spec ad.pins (hv.mono (dW (dW (dW (dW s d) m.le) q) f)) (opts_ok hopts) (by omega)) ?_
 rintro _ ew ⟨ci, ex, rfl, ey, ez⟩
 refine ⟨_, rfl, ?_⟩
 have e0 := ad.tr ez
 have e1 := ey.weaken ad.size
 obtain ⟨f7, f8, cj, e2, f9⟩ := e1.sealed e0
 refine qI rfl (zF (vs := [ci, (.bool false)]) Tryz.func37 nm37 rfl rfl rfl ?_)
 refine dY (pH cj.pins e2) ?_
 rintro _ _ ⟨rfl, rfl⟩
 refine ⟨_, rfl, ?_⟩
 refine qD rfl (xR rfl) (qM (.bool (!(decide ((0 : Int) ≤ idxB (usedM ns ((ns.length : Int) - 1).toNat) false)))) ?_)
 refine qe (zA ?_)
 exact wp_ret (zO (zQ (v := (.bool (!(decide ((0 : Int) ≤ idxB (usedM ns ((ns.length : Int) - 1).toNat) false))))) rfl rfl rfl (⟨_, congrArg (fun z => Ending.returned (Value.bool z)) (goodB_used (by omega) (by omega) (by omega) hopts (fun k h1 h2 => hsr k h1 (by omega))).symm, cj⟩)))
end B1
end Go.Proofs.YtjdchbdfohiaaaaGreatDoor
namespace Go.Proofs.YtjdchbdfohiaaaaGreatDoor
namespace C1
open Go.RowKit Go.GL Go.Proofs
open B1
variable {G : Pin} {x : Int} {v u : Value} {xs : List Int}
theorem fR {w : World} {a b : Int} (hP : Pins G w) :
  Calls Tryz.prog 65 [(.int .i64 x), (.int .i64 a), (.int .i64 b)].toArray w fun e w' => e = .returned (.bool (decide (a ≤ x ∧ x ≤ b))) ∧ w' = w := by
 refine zU (n := 15) Tryz.func65 Tryz.ntmps65 rfl rfl ?_
 have hX0 := exr noS hP
 refine zB (zC ?_)
 refine qM (.bool false) ?_
 refine qe (zA (zB (zC ?_)))
 refine qM (.int .i64 x) ?_
 refine qM (.int .i64 a) ?_
 refine qD rfl (fN rfl rfl) (qM (.bool (decide ((a : Int) ≤ x))) ?_)
 refine qbd (p := (a : Int) ≤ x) (t := 10) rfl (fun h1 => ?_) (fun h1 => ?_)
 refine qN (zR (v := (.int .i64 x)) rfl) ?_
 refine qN (zR (v := (.int .i64 b)) rfl) ?_
 refine qN (gR rfl rfl) ?_
 refine qD rfl (yR (v := (.bool (decide ((x : Int) ≤ b)))) rfl rfl) (qM (.bool (decide ((x : Int) ≤ b))) ?_)
 refine qe (zA ?_)
 exact wp_ret (zO (zQ (v := (.bool (decide ((x : Int) ≤ b)))) rfl rfl rfl (⟨congrArg (fun z => Ending.returned (Value.bool z)) (decide_eq_decide.2 (by omega)), rfl⟩)))
 refine qW ?_
 refine qW ?_
 refine qW ?_
 refine qD rfl (yI (v := (.bool false)) rfl rfl) (qM (.bool false) ?_)
 refine qe (zA ?_)
 exact wp_ret (zO (zQ (v := (.bool false)) rfl rfl rfl (⟨congrArg (fun z => Ending.returned (Value.bool z)) ((decide_eq_false (by omega)).symm), rfl⟩)))
theorem pC {w : World} {y : Int} (hP : Pins G w) :
  Calls Tryz.prog 93 [(.int .i64 x), (.int .i64 y)].toArray w fun e w' => e = .returned (.int .i64 (max x y)) ∧ w' = w := by
 refine zU (n := 10) Tryz.func93 Tryz.ntmps93 rfl rfl ?_
 have hX0 := exr noS hP
 refine zB (zC ?_)
 refine qM (.int .i64 0) ?_
 refine qe (zA (zB (zB (zC ?_))))
 refine qM (.int .i64 x) ?_
 refine qM (.int .i64 y) ?_
 refine qD rfl (jO rfl rfl) (qe (zA ?_))
 refine yC (p := (y : Int) < x) rfl rfl (fun h1 => ?_) (fun h1 => ?_)
 refine zB (zC ?_)
 refine qM (.int .i64 x) ?_
 refine qM (.int .i64 x) ?_
 refine qe (zA ?_)
 exact wp_ret (zO (zQ (v := (.int .i64 x)) rfl rfl rfl (⟨congrArg (fun z => Ending.returned (Value.int .i64 z)) (by omega), rfl⟩)))
 refine wp_skip (zA (zB (zC ?_)))
 refine qM (.int .i64 y) ?_
 refine qM (.int .i64 y) ?_
 refine qe (zA ?_)
 exact wp_ret (zO (zQ (v := (.int .i64 y)) rfl rfl rfl (⟨congrArg (fun z => Ending.returned (Value.int .i64 z)) (by omega), rfl⟩)))
theorem tW {w : World} {lo hi : Int} (hP : Pins G w) (hv : RSl eInt G v xs) :
  Calls Tryz.prog 46 [v, (vJ lo), (vJ hi)].toArray w fun e w' => e = .returned (.bool (decP (Rise xs lo hi))) ∧ Ext noS G w G w' := by
 refine zU (n := 38) Tryz.func46 Tryz.ntmps46 rfl rfl ?_
 have h := exr noS hP
 have hm := hv.max
 refine zB (zC ?_)
 refine qM (.bool false) ?_
 refine qe (zA (zB (zB (zC ?_))))
 refine qM (vJ 0) ?_
 refine qe (zA ?_)
 refine zW (yS (fun k en W => ∃ (f : Nat → Value) (j : Nat), en = (upd (upd (upd (upd f 0 v) 1 (vJ lo)) 2 (vJ hi)) 7 (vJ (j : Int))) ∧ k = xs.length - j ∧ Ext noS G w G W ∧ (j ≤ xs.length) ∧ (∀ i, i < j → (lo ≤ xs.getD i 0 ∧ xs.getD i 0 ≤ hi) ∧ (0 < i → xs.getD (i - 1) 0 < xs.getD i 0))) _ ⟨_, 0, (pS 7 (pS 2 (pS 1 (pU 0)))), rfl, h, Nat.zero_le _, (fun i hi => absurd hi (Nat.not_lt_zero i))⟩ ?_)
 rintro u _ c ⟨f, j, rfl, x, d, hj, hp⟩
 refine zB (zB (zC ?_))
 refine qM (vJ (j : Int)) ?_
 refine qM v ?_
 refine qD rfl (zP dB (v := v) rfl hv) (qD rfl (yX rfl rfl) (qe (zA ?_)))
 refine yC (p := ((j : Int) : Int) < (xs.length : Int)) rfl rfl (fun l => ?_) (fun l => ?_)
 refine wp_skip (zA (zB ?_))
 refine zW (zB (yZ (S := fun wz => Pins G wz) (last := 24) (by kernel_rfl) rfl ?_))
 have g := bdr c
 have m := d.pins.below g
 have a := d.step m g
 refine dM 0 v a.pins ?_
 refine dM 1 (vJ (j : Int)) a.pins ?_
 refine dT (i := 2) rfl rfl (by kernel_rfl) (fun _ _ => zJ dB sz3 (v := v) rfl rfl hv (by omega) (by omega)) a.pins ?_
 refine dT (i := 3) rfl rfl (by kernel_rfl) (fun _ hS => zI (r := xs.getD j 0) rfl ag3 (z := (j : Int)) rfl hv hS (by omega) (by omega)) a.pins ?_
 refine dM 4 (vJ lo) a.pins ?_
 refine dM 5 (vJ hi) a.pins ?_
 refine dO (i := 6) (zS (i := 6) rfl rfl rfl (zD rfl _) (zF (vs := [(vJ (xs.getD j 0)), (vJ lo), (vJ hi)]) Tryz.func65 nm65 rfl rfl rfl ?_))
 refine dY (fR a.pins) ?_
 rintro _ _ ⟨rfl, rfl⟩
 refine ⟨_, rfl, ?_⟩
 refine ⟨fun _ => a.pins, ?_⟩
 refine dT (i := 7) rfl rfl (by kernel_rfl) (fun _ _ => xR rfl) a.pins ?_
 refine dM 8 (.bool (!(decide ((lo : Int) ≤ (xs.getD j 0) ∧ (xs.getD j 0 : Int) ≤ hi)))) a.pins ?_
 refine drbn (t := 22) rfl (fun b => ?_) (fun b => ?_)
 replace b := of_decide_eq_true b
 refine yY (i := 9) rfl rfl rfl (yQ rfl rfl rfl rfl) (by kernel_rfl) (fun _ _ => zR (v := (vJ (j : Int))) rfl) a.pins (yY (i := 10) rfl rfl rfl (yQ rfl rfl rfl rfl) (by kernel_rfl) (fun _ _ => jO rfl rfl) a.pins (yY (i := 11) rfl rfl rfl (yQ rfl rfl rfl rfl) (by kernel_rfl) (fun _ _ => zR (v := (.bool (decide ((0 : Int) < (j : Int))))) rfl) a.pins (drbd (p := (0 : Int) < (j : Int)) (t := 25) rfl (fun o => ?_) (fun o => ?_))))
 refine yY (i := 12) rfl rfl rfl (yQ rfl rfl rfl rfl) (by kernel_rfl) (fun _ _ => zR (v := v) rfl) a.pins (yY (i := 13) rfl rfl rfl (yQ rfl rfl rfl rfl) (by kernel_rfl) (fun _ _ => zR (v := (vJ (j : Int))) rfl) a.pins (yY (i := 14) rfl rfl rfl (yQ rfl rfl rfl rfl) (by kernel_rfl) (fun _ _ => qC rfl rfl (by omega)) a.pins (yY (i := 15) rfl rfl rfl (yQ rfl rfl rfl rfl) (by kernel_rfl) (fun _ _ => zJ dB sz3 (v := v) rfl rfl hv (by omega) (by omega)) a.pins (yY (i := 16) rfl rfl rfl (yQ rfl rfl rfl rfl) (by kernel_rfl) (fun _ hS => zI (r := xs.getD ((j : Int) - 1).toNat 0) rfl ag3 (z := ((j : Int) - 1)) rfl hv hS (by omega) (by omega)) a.pins (yY (i := 17) rfl rfl rfl (yQ rfl rfl rfl rfl) (by kernel_rfl) (fun _ _ => zR (v := v) rfl) a.pins (yY (i := 18) rfl rfl rfl (yQ rfl rfl rfl rfl) (by kernel_rfl) (fun _ _ => zR (v := (vJ (j : Int))) rfl) a.pins (yY (i := 19) rfl rfl rfl (yQ rfl rfl rfl rfl) (by kernel_rfl) (fun _ _ => zJ dB sz3 (v := v) rfl rfl hv (by omega) (by omega)) a.pins (yY (i := 20) rfl rfl rfl (yQ rfl rfl rfl rfl) (by kernel_rfl) (fun _ hS => zI (r := xs.getD j 0) rfl ag3 (z := (j : Int)) rfl hv hS (by omega) (by omega)) a.pins (yY (i := 21) rfl rfl rfl (yQ rfl rfl rfl rfl) (by kernel_rfl) (fun _ _ => fN rfl rfl) a.pins (yY (i := 22) rfl rfl rfl (yQ rfl rfl rfl rfl) (by kernel_rfl) (fun _ _ => yR (v := (.bool (decide ((xs.getD j 0 : Int) ≤ (xs.getD ((j : Int) - 1).toNat 0))))) rfl rfl) a.pins (dT (i := 23) rfl rfl (by kernel_rfl) (fun _ _ => yI (v := (.bool (decide ((xs.getD j 0 : Int) ≤ (xs.getD ((j : Int) - 1).toNat 0))))) rfl rfl) a.pins ?_)))))))))))
 refine yP (by kernel_rfl) (zA (yC (p := (xs.getD j 0 : Int) ≤ (xs.getD ((j : Int) - 1).toNat 0)) rfl rfl (fun q => ?_) (fun q => ?_)))
 refine zB (zC ?_)
 refine qM (.bool false) ?_
 refine qe (zA ?_)
 exact wp_ret (zO (zQ (v := (.bool false)) rfl rfl rfl (⟨congrArg (fun z => Ending.returned (Value.bool z)) (decP_false.2 (fun hR => by have := hR j (by omega); rw [show j - 1 = ((j : Int) - 1).toNat by omega] at this; omega)).symm, a⟩)))
 refine wp_skip (yA (zA (zC ?_)))
 refine qM (vJ (j : Int)) ?_
 refine qD rfl (yJ rfl rfl (by omega)) (qM (vJ ((j : Int) + 1)) ?_)
 refine qe (yD (⟨_, ?_, _, rfl, _, j + 1, (pS 7 (pS 2 (pS 1 (pU 0)))), rfl, a, (by omega), (rise_step hp (by omega) (fun s => by rw [show j - 1 = ((j : Int) - 1).toNat by omega]; omega))⟩))
 omega
 refine yL (i := 12) rfl rfl (yT rfl rfl rfl rfl rfl) (by kernel_rfl) a.pins (yL (i := 13) rfl rfl (yT rfl rfl rfl rfl rfl) (by kernel_rfl) a.pins (yL (i := 14) rfl rfl (yT rfl rfl rfl rfl rfl) (by kernel_rfl) a.pins (yL (i := 15) rfl rfl (yT rfl rfl rfl rfl rfl) (by kernel_rfl) a.pins (yL (i := 16) rfl rfl (yT rfl rfl rfl rfl rfl) (by kernel_rfl) a.pins (yL (i := 17) rfl rfl (yT rfl rfl rfl rfl rfl) (by kernel_rfl) a.pins (yL (i := 18) rfl rfl (yT rfl rfl rfl rfl rfl) (by kernel_rfl) a.pins (yL (i := 19) rfl rfl (yT rfl rfl rfl rfl rfl) (by kernel_rfl) a.pins (yL (i := 20) rfl rfl (yT rfl rfl rfl rfl rfl) (by kernel_rfl) a.pins (yL (i := 21) rfl rfl (yT rfl rfl rfl rfl rfl) (by kernel_rfl) a.pins (yY (i := 22) rfl rfl rfl (yQ rfl rfl rfl rfl) (by kernel_rfl) (fun _ _ => yI (v := (.bool false)) rfl rfl) a.pins (dT (i := 23) rfl rfl (by kernel_rfl) (fun _ _ => yI (v := (.bool false)) rfl rfl) a.pins ?_)))))))))))
 refine yP (by kernel_rfl) (zA (qP rfl rfl (wp_skip (yA (zA (zC ?_))))))
 refine qM (vJ (j : Int)) ?_
 refine qD rfl (yJ rfl rfl (by omega)) (qM (vJ ((j : Int) + 1)) ?_)
 refine qe (yD (⟨_, ?_, _, rfl, _, j + 1, (pS 7 (pS 2 (pS 1 (pU 0)))), rfl, a, (by omega), (rise_step hp (by omega) (fun s => by rw [show j - 1 = ((j : Int) - 1).toNat by omega]; omega))⟩))
 omega
 replace b := of_decide_eq_false b
 refine yL (i := 9) rfl rfl (yT rfl rfl rfl rfl rfl) (by kernel_rfl) a.pins (yL (i := 10) rfl rfl (yT rfl rfl rfl rfl rfl) (by kernel_rfl) a.pins (yL (i := 11) rfl rfl (yT rfl rfl rfl rfl rfl) (by kernel_rfl) a.pins (yL (i := 12) rfl rfl (qJ rfl rfl rfl rfl) (by kernel_rfl) a.pins (yL (i := 13) rfl rfl (qJ rfl rfl rfl rfl) (by kernel_rfl) a.pins (yL (i := 14) rfl rfl (qJ rfl rfl rfl rfl) (by kernel_rfl) a.pins (yL (i := 15) rfl rfl (qJ rfl rfl rfl rfl) (by kernel_rfl) a.pins (yL (i := 16) rfl rfl (qJ rfl rfl rfl rfl) (by kernel_rfl) a.pins (yL (i := 17) rfl rfl (qJ rfl rfl rfl rfl) (by kernel_rfl) a.pins (yL (i := 18) rfl rfl (qJ rfl rfl rfl rfl) (by kernel_rfl) a.pins (yL (i := 19) rfl rfl (qJ rfl rfl rfl rfl) (by kernel_rfl) a.pins (yL (i := 20) rfl rfl (qJ rfl rfl rfl rfl) (by kernel_rfl) a.pins (yL (i := 21) rfl rfl (qJ rfl rfl rfl rfl) (by kernel_rfl) a.pins (yL (i := 22) rfl rfl (yT rfl rfl rfl rfl rfl) (by kernel_rfl) a.pins (dT (i := 23) rfl rfl (by kernel_rfl) (fun _ _ => yR (v := (.bool true)) rfl rfl) a.pins ?_))))))))))))))
 refine yP (by kernel_rfl) (zA (jS rfl rfl (zB (zC ?_))))
 refine qM (.bool false) ?_
 refine qe (zA ?_)
 exact wp_ret (zO (zQ (v := (.bool false)) rfl rfl rfl (⟨congrArg (fun z => Ending.returned (Value.bool z)) (decP_false.2 (fun hR => by have := hR j (by omega); rw [show j - 1 = ((j : Int) - 1).toNat by omega] at this; omega)).symm, a⟩)))
 refine wp_exit (zV (yK (yE (zA (zB (zC ?_))))))
 refine qM (.bool true) ?_
 refine qe (zA ?_)
 exact wp_ret (zO (zQ (v := (.bool true)) rfl rfl rfl (⟨congrArg (fun z => Ending.returned (Value.bool z)) (decP_true.2 (Rise.done (by omega) hp)).symm, d⟩)))
theorem pB {w : World} {ns : List Nd} (hP : Pins G w) (hv : RSl eNode G v ns) :
  Calls Tryz.prog 45 [(.agg [v].toArray)].toArray w fun e w' => ∃ G', e = .returned (.bool (decP (FitsP ns))) ∧ Ext noS G w G' w' := by
 refine zU (n := 37) Tryz.func45 Tryz.ntmps45 rfl rfl ?_
 have c := exr noS hP
 have hm := hv.max
 refine zB (zC ?_)
 refine qI rfl (xH [v] (v := (.agg [v].toArray)) rfl rfl c.pins (fun d w2 am q s x => ?_))
 have y := c.step s x
 have aa : w.heap.size ≤ d := by have := c.size; omega
 obtain ⟨G9, f, ac, b, an⟩ := q.shut y aa
 refine qM (.bool false) ?_
 refine qe (zA (zB (zB (zC ?_))))
 refine qM (vJ 0) ?_
 refine qe (zA ?_)
 refine zW (yS (fun k en W => ∃ (h : Nat → Value) (j : Nat), en = (upd (upd h 1 (vP d)) 3 (vJ (j : Int))) ∧ k = 121 - j ∧ Ext noS G w G9 W ∧ (j ≤ ns.length ∧ j ≤ 121) ∧ (∀ k, k < j → (ns.getD k default).l.length ≤ 24 ∧ (ns.getD k default).r.length ≤ 24)) _ ⟨_, 0, (pS 3 (pU 1)), rfl, ac, (by omega), (fun i hi => absurd hi (Nat.not_lt_zero i))⟩ ?_)
 rintro ao _ ap ⟨h, j, rfl, aq, a, hj, hp⟩
 refine zB (zB (zC ?_))
 refine qM (vJ (j : Int)) ?_
 refine qD rfl (zK (k := 0) rfl dE rfl nz24 rfl) (qD rfl (zL (u := v) ag24 rfl (a.pins _ _ _ (b 0 _ rfl))) (qD rfl (zP dC (v := v) rfl hv) (qD rfl (yX rfl rfl) (qM (.bool (decide (((j : Int) : Int) < (ns.length : Int)))) ?_))))
 refine qbd (p := ((j : Int) : Int) < (ns.length : Int)) (t := 9) rfl (fun ad => ?_) (fun ad => ?_)
 refine qN (zR (v := (vJ (j : Int))) rfl) ?_
 refine qN (gR rfl rfl) ?_
 refine qD rfl (yR (v := (.bool (decide (((j : Int) : Int) ≤ 120)))) rfl rfl) (qe (zA ?_))
 refine yC (p := ((j : Int) : Int) ≤ 120) rfl rfl (fun ae => ?_) (fun ae => ?_)
 refine wp_skip (zA (zB ?_))
 refine zW (zB (zC ?_))
 refine qD rfl (zK (k := 0) rfl dE rfl nz24 rfl) (qD rfl (zL (u := v) ag24 rfl (a.pins _ _ _ (b 0 _ rfl))) (qM (vJ (j : Int)) ?_))
 refine qD rfl (zJ dC sz69 (v := v) rfl rfl hv (by omega) (by omega)) (qD rfl (xF (off := 0) dF rfl rfl nz48 (z := (j : Int)) (k := 0) rfl hv (by omega) (by omega)) ?_)
 obtain ⟨af, m, ag⟩ := kA (hv.at (z := (j : Int)) (by omega) (by omega)) (j := j) rfl
 have ar := m.max
 refine qD rfl (ag ag48 rfl (dX a.pins f)) (qD rfl (zP dB (v := af) rfl m) (qD rfl (jO rfl rfl) (qM (.bool (decide ((24 : Int) < (((ns.getD j default).l).length : Int)))) ?_)))
 refine qbd (p := (24 : Int) < (((ns.getD j default).l).length : Int)) (t := 23) rfl (fun ah => ?_) (fun ah => ?_)
 refine qW ?_
 refine qW ?_
 refine qW ?_
 refine qW ?_
 refine qW ?_
 refine qW ?_
 refine qW ?_
 refine qW ?_
 refine qD rfl (yR (v := (.bool true)) rfl rfl) (qe (zA ?_))
 refine jS rfl rfl (zB (zC ?_))
 refine qM (.bool false) ?_
 refine qe (zA ?_)
 exact wp_ret (zO (zQ (v := (.bool false)) rfl rfl rfl (⟨_, congrArg (fun z => Ending.returned (Value.bool z)) (decP_false.2 (fun g => by have := g.opts j (by omega); omega)).symm, a⟩)))
 refine qN (zK (k := 0) rfl dE rfl nz24 rfl) ?_
 refine qN (zL (u := v) ag24 rfl (a.pins _ _ _ (b 0 _ rfl))) ?_
 refine qN (zR (v := (vJ (j : Int))) rfl) ?_
 refine qN (zJ dC sz69 (v := v) rfl rfl hv (by omega) (by omega)) ?_
 refine qN (xF (off := 1) dF rfl rfl nz48 (z := (j : Int)) (k := 0) rfl hv (by omega) (by omega)) ?_
 obtain ⟨ai, o, aj⟩ := kE (hv.at (z := (j : Int)) (by omega) (by omega)) (j := j) rfl
 have au := o.max
 refine qN (aj ag48 rfl (dX a.pins f)) ?_
 refine qN (zP dB (v := ai) rfl o) ?_
 refine qN (jO rfl rfl) ?_
 refine qD rfl (yI (v := (.bool (decide ((24 : Int) < (((ns.getD j default).r).length : Int))))) rfl rfl) (qe (zA ?_))
 refine yC (p := (24 : Int) < (((ns.getD j default).r).length : Int)) rfl rfl (fun ak => ?_) (fun ak => ?_)
 refine zB (zC ?_)
 refine qM (.bool false) ?_
 refine qe (zA ?_)
 exact wp_ret (zO (zQ (v := (.bool false)) rfl rfl rfl (⟨_, congrArg (fun z => Ending.returned (Value.bool z)) (decP_false.2 (fun g => by have := g.opts j (by omega); omega)).symm, a⟩)))
 refine wp_skip (yA (zA (zC ?_)))
 refine qM (vJ (j : Int)) ?_
 refine qD rfl (yJ rfl rfl (by omega)) (qM (vJ ((j : Int) + 1)) ?_)
 refine qe (yD (⟨_, ?_, _, rfl, _, j + 1, (pS 3 (pU 1)), rfl, a, (by omega), (fun k hk => if h3 : k = j then h3 ▸ ⟨by omega, by omega⟩ else hp k (by omega))⟩))
 omega
 refine wp_exit (zV (yK (yE (zA (zB (zC ?_))))))
 refine qD rfl (zK (k := 0) rfl dE rfl nz24 rfl) (qD rfl (zL (u := v) ag24 rfl (a.pins _ _ _ (b 0 _ rfl))) (qD rfl (zP dC (v := v) rfl hv) (qI rfl (zF (vs := [(vJ (ns.length : Int)), (vJ 1), (vJ 120)]) Tryz.func65 nm65 rfl rfl rfl ?_))))
 refine dY (fR a.pins) ?_
 rintro _ _ ⟨rfl, rfl⟩
 refine ⟨_, rfl, ?_⟩
 refine qM (.bool (decide ((1 : Int) ≤ (ns.length : Int) ∧ ((ns.length : Int) : Int) ≤ 120))) ?_
 refine qe (zA ?_)
 exact wp_ret (zO (zQ (v := (.bool (decide ((1 : Int) ≤ (ns.length : Int) ∧ ((ns.length : Int) : Int) ≤ 120)))) rfl rfl rfl (⟨_, congrArg (fun z => Ending.returned (Value.bool z)) (fits_end hp (by omega) (by omega)), a⟩)))
 refine qW ?_
 refine qW ?_
 refine qD rfl (yI (v := (.bool false)) rfl rfl) (qe (zA ?_))
 refine qP rfl rfl (wp_exit (zV (yK (yE (zA (zB (zC ?_)))))))
 refine qD rfl (zK (k := 0) rfl dE rfl nz24 rfl) (qD rfl (zL (u := v) ag24 rfl (a.pins _ _ _ (b 0 _ rfl))) (qD rfl (zP dC (v := v) rfl hv) (qI rfl (zF (vs := [(vJ (ns.length : Int)), (vJ 1), (vJ 120)]) Tryz.func65 nm65 rfl rfl rfl ?_))))
 refine dY (fR a.pins) ?_
 rintro _ _ ⟨rfl, rfl⟩
 refine ⟨_, rfl, ?_⟩
 refine qM (.bool (decide ((1 : Int) ≤ (ns.length : Int) ∧ ((ns.length : Int) : Int) ≤ 120))) ?_
 refine qe (zA ?_)
 exact wp_ret (zO (zQ (v := (.bool (decide ((1 : Int) ≤ (ns.length : Int) ∧ ((ns.length : Int) : Int) ≤ 120)))) rfl rfl rfl (⟨_, congrArg (fun z => Ending.returned (Value.bool z)) (fits_end hp (by omega) (by omega)), a⟩)))
theorem rE {w : World} {n : Int} (hP : Pins G w) (hv : RSl eInt G v xs) (hs : xs.length ≤ 2097152) :
  Calls Tryz.prog 87 [v, (vJ n)].toArray w fun e w' => ∃ (u : Value) (G' : Pin), e = .returned u ∧ RSl eInt G' u (putL xs n) ∧ Ext noS G w G' w' := by
 refine zU (n := 45) Tryz.func87 Tryz.ntmps87 rfl rfl ?_
 have cm := exr noS hP
 refine zB (zC ?_)
 refine qM vN ?_
 refine qe (zA (zB (zC ?_)))
 refine qM (vJ 0) ?_
 refine qe (zA (zB ?_))
 refine zW (yS (fun k en W => ∃ (c : Nat → Value) (j : Nat), en = (upd (upd (upd (upd c 0 v) 1 (vJ n)) 4 vN) 5 (vJ (j : Int))) ∧ k = xs.length - j ∧ Ext noS G w G W ∧ (j ≤ xs.length) ∧ (putL xs n = xs.take j ++ putL (xs.drop j) n)) _ ⟨_, 0, (pS 5 (pS 4 (pS 1 (pU 0)))), rfl, cm, Nat.zero_le _, rfl⟩ ?_)
 rintro k1 _ l ⟨c, j, rfl, f3, d, hj, hr⟩
 refine zB (zB (zC ?_))
 refine qM (vJ (j : Int)) ?_
 refine qM v ?_
 refine qD rfl (zP dB (v := v) rfl hv) (qD rfl (yX rfl rfl) (qM (.bool (decide (((j : Int) : Int) < (xs.length : Int)))) ?_))
 refine qbd (p := ((j : Int) : Int) < (xs.length : Int)) (t := 10) rfl (fun h5 => ?_) (fun h5 => ?_)
 refine qN (zR (v := v) rfl) ?_
 refine qN (zR (v := (vJ (j : Int))) rfl) ?_
 refine qN (zJ dB sz3 (v := v) rfl rfl hv (by omega) (by omega)) ?_
 refine qN (zI (r := xs.getD j 0) rfl ag3 (z := (j : Int)) rfl hv d.pins (by omega) (by omega)) ?_
 refine qN (zR (v := (vJ n)) rfl) ?_
 refine qN (yX rfl rfl) ?_
 refine qD rfl (yR (v := (.bool (decide ((xs.getD j 0 : Int) < n)))) rfl rfl) (qe (zA ?_))
 refine yC (p := (xs.getD j 0 : Int) < n) rfl rfl (fun h6 => ?_) (fun h6 => ?_)
 refine wp_skip (zA (zW (zC (qM (vJ (j : Int)) ?_))))
 refine qD rfl (yJ rfl rfl (by omega)) (qM (vJ ((j : Int) + 1)) ?_)
 refine qe (yA (yD (⟨_, ?_, _, rfl, _, j + 1, (pS 5 (pS 4 (pS 1 (pU 0)))), rfl, d, (by omega), (put_next (by omega) (by omega) hr)⟩)))
 omega
 refine wp_exit (zV (yK (yE (zA (zB (zB (zC ?_)))))))
 refine qM (vJ (j : Int)) ?_
 refine qM v ?_
 refine qD rfl (zP dB (v := v) rfl hv) (qD rfl (yX rfl rfl) (qM (.bool (decide (((j : Int) : Int) < (xs.length : Int)))) ?_))
 refine qbd (p := ((j : Int) : Int) < (xs.length : Int)) (t := 24) rfl (fun _ => ?_) (fun h => absurd h5 h)
 refine qN (zR (v := v) rfl) ?_
 refine qN (zR (v := (vJ (j : Int))) rfl) ?_
 refine qN (zJ dB sz3 (v := v) rfl rfl hv (by omega) (by omega)) ?_
 refine qN (zI (r := xs.getD j 0) rfl ag3 (z := (j : Int)) rfl hv d.pins (by omega) (by omega)) ?_
 refine qN (zR (v := (vJ n)) rfl) ?_
 refine qN (xU rfl rfl) ?_
 refine qD rfl (yR (v := (.bool (decide ((xs.getD j 0 : Int) = n)))) rfl rfl) (qe (zA ?_))
 refine yC (p := (xs.getD j 0 : Int) = n) rfl rfl (fun h8 => ?_) (fun h8 => ?_)
 refine zB (zC ?_)
 refine qM v ?_
 refine qM v ?_
 refine qe (zA ?_)
 exact wp_ret (zO (zQ (v := v) rfl rfl rfl (⟨_, _, rfl, (by rw [put_hit (by omega) (by omega) hr]; exact hv), d⟩)))
 refine wp_skip (zA (zB ?_))
 refine c_cut (fun (en : Nat → Value) (W : World) => ∃ (c : Nat → Value) (c9 : Value) (af : Pin), en = (upd c 4 c9) ∧ Ext noS G w af W ∧ Pin.le G af ∧ (Own eInt 3 af W w.heap.size c9 (((([]) ++ ((xs.take j).drop 0)) ++ ([n])) ++ ((xs.take xs.length).drop j)))) ?_ ?_
 ·rintro _ f4 ⟨c, c9, af, rfl, cp, f5, cq⟩
  refine zA (wp_ret (zO (zQ (v := c9) rfl rfl rfl ?_)))
  obtain ⟨f6, f7, cr, cs, f8⟩ := cq.sealed cp
  exact ⟨_, _, rfl, (by rw [← put_new (fun h => ⟨by omega, by omega⟩) hr]; exact cs), cr⟩
 refine yZ (S := fun wz => Pins G wz) (last := 13) (by kernel_rfl) rfl ?_
 have bd := bdr l
 have ct := d.pins.below bd
 have a := d.step ct bd
 refine dM 1 v a.pins ?_
 refine dM 2 (vJ (j : Int)) a.pins ?_
 obtain ⟨ax, ay, cu⟩ := jC hv (lo := none) (hi := (some ((j : Int)))) (0) (j) (Or.inl ⟨rfl, rfl⟩) (Or.inr ⟨_, rfl, (by omega), rfl⟩) (by omega) (by omega)
 refine dT (i := 3) rfl rfl (by kernel_rfl) (fun _ _ => cu dB sz3 rfl rfl rfl) a.pins ?_
 refine dM 5 (vJ n) a.pins ?_
 refine dM 8 v a.pins ?_
 refine dM 9 (vJ (j : Int)) a.pins ?_
 obtain ⟨az, a0, cv⟩ := jC hv (lo := (some ((j : Int)))) (hi := none) (j) (xs.length) (Or.inr ⟨_, rfl, (by omega), rfl⟩) (Or.inl ⟨rfl, rfl⟩) (by omega) (by omega)
 refine dT (i := 10) rfl rfl (by kernel_rfl) (fun _ _ => cv dB sz3 rfl rfl rfl) a.pins ?_
 refine jJ (i := 0) (j := 6) (by kernel_rfl) ?_ ?_
 refine (zS (i := 0) rfl rfl rfl (zD rfl _) (xC (E := eInt) (e := 3) dB sz3 a.pins (fun a1 cw cx cy cz f9 => ?_)))
 have f := a.step cy cz
 have ag := cx.weaken a.size
 refine ⟨fun _ => f.pins, ?_⟩
 refine jJ (i := 4) (j := 6) (by kernel_rfl) ?_ ?_
 refine (zS (i := 4) rfl rfl rfl (zD rfl _) (oA (E := eInt) (v := a1) (u := ax) 8 dB ap3 (by decide) rfl rfl f.pins ag ((ay.mono (Pin.le_refl _)).src f.pins (by decide)) (f.size) (fun c0 ga c1 c2 c3 gb => ?_)))
 have ah := f.write c2 c3 ((yH ag))
 have gc := la2 ([]) ((xs.take j).drop 0)
 refine ⟨fun _ => ah.pins, ?_⟩
 refine dO (i := 6) (zS (i := 6) rfl rfl rfl (zD rfl _) (yG (E := eInt) (e := 3) [(vJ n)] [n] dB sz3 zr3 (by exact xK (by rfl)) (yO (by rfl)) rfl rfl rfl rfl (by decide) ah.pins (fun be c4 c5 c6 bf gd => ?_)))
 have ai := ah.step c6 bf
 have bg := c1.below bf
 have c7 := c5.weaken ah.size
 refine ⟨fun _ => ai.pins, ?_⟩
 refine dO (i := 7) (zS (i := 7) rfl rfl rfl (zD rfl _) (oA (E := eInt) (v := c0) (u := be) 8 dB ap3 (by decide) rfl rfl ai.pins bg c7.src (ai.size) (fun c8 ge bh da db gf => ?_)))
 have m := ai.write da db ((yH bg))
 have gg := la1 (([]) ++ ((xs.take j).drop 0)) n
 refine ⟨fun _ => m.pins, ?_⟩
 refine dO (i := 11) (zS (i := 11) rfl rfl rfl (zD rfl _) (oA (E := eInt) (v := c8) (u := az) 8 dB ap3 (by decide) rfl rfl m.pins bh ((a0.mono (Pin.le_refl _)).src m.pins (by decide)) (m.size) (fun bi gh dc dd de gi => ?_)))
 have a2 := m.write dd de ((yH bh))
 have gj := la2 ((([]) ++ ((xs.take j).drop 0)) ++ ([n])) ((xs.take xs.length).drop j)
 refine ⟨fun _ => a2.pins, ?_⟩
 refine dM 12 bi a2.pins ?_
 exact yP (by kernel_rfl) (jE ⟨_, bi, G, (pU 4), a2, (Pin.le_refl _), dc⟩)
 refine (zS (i := 6) rfl rfl rfl (zD rfl _) (yG (E := eInt) (e := 3) [(vJ n)] [n] dB sz3 zr3 (by exact xK (by rfl)) (yO (by rfl)) rfl rfl rfl rfl (by decide) f.pins (fun bj df dg dh bk di => ?_)))
 have o := f.step dh bk
 have bl := ag.below bk
 have dj := zG di ag.lt
 have dk := dg.weaken f.size
 refine ⟨fun _ => o.pins, ?_⟩
 refine dO (i := 4) (zS (i := 4) rfl rfl rfl (zD rfl _) (oA (E := eInt) (v := a1) (u := ax) 8 dB ap3 (by decide) rfl rfl o.pins bl ((ay.mono (Pin.le_refl _)).src o.pins (by decide)) (o.size) (fun dl gk bm dm bn gl => ?_)))
 have aj := o.write dm bn ((yH bl))
 have dn := dk.keptA bn dj
 have gm := la2 ([]) ((xs.take j).drop 0)
 refine ⟨fun _ => aj.pins, ?_⟩
 refine dO (i := 7) (zS (i := 7) rfl rfl rfl (zD rfl _) (oA (E := eInt) (v := dl) (u := bj) 8 dB ap3 (by decide) rfl rfl aj.pins bm dn.src (aj.size) (fun dp gn bo dq dr gp => ?_)))
 have q := aj.write dq dr ((yH bm))
 have gq := la1 (([]) ++ ((xs.take j).drop 0)) n
 refine ⟨fun _ => q.pins, ?_⟩
 refine dO (i := 11) (zS (i := 11) rfl rfl rfl (zD rfl _) (oA (E := eInt) (v := dp) (u := az) 8 dB ap3 (by decide) rfl rfl q.pins bo ((a0.mono (Pin.le_refl _)).src q.pins (by decide)) (q.size) (fun bp gr ds dt du gs => ?_)))
 have a3 := q.write dt du ((yH bo))
 have gt := la2 ((([]) ++ ((xs.take j).drop 0)) ++ ([n])) ((xs.take xs.length).drop j)
 refine ⟨fun _ => a3.pins, ?_⟩
 refine dM 12 bp a3.pins ?_
 exact yP (by kernel_rfl) (jE ⟨_, bp, G, (pU 4), a3, (Pin.le_refl _), ds⟩)
 refine (zS (i := 6) rfl rfl rfl (zD rfl _) (yG (E := eInt) (e := 3) [(vJ n)] [n] dB sz3 zr3 (by exact xK (by rfl)) (yO (by rfl)) rfl rfl rfl rfl (by decide) a.pins (fun bq dv dw dx dy gu => ?_)))
 have ak := a.step dx dy
 have br := dw.weaken a.size
 refine ⟨fun _ => ak.pins, ?_⟩
 refine dO (i := 0) (zS (i := 0) rfl rfl rfl (zD rfl _) (xC (E := eInt) (e := 3) dB sz3 ak.pins (fun bs dz d0 d1 bt d2 => ?_)))
 have s := ak.step d1 bt
 have d3 := br.below bt
 have d4 := zG d2 br.lt
 have bu := d0.weaken ak.size
 refine ⟨fun _ => s.pins, ?_⟩
 refine dO (i := 4) (zS (i := 4) rfl rfl rfl (zD rfl _) (oA (E := eInt) (v := bs) (u := ax) 8 dB ap3 (by decide) rfl rfl s.pins bu ((ay.mono (Pin.le_refl _)).src s.pins (by decide)) (s.size) (fun d5 gv bv d6 bw gw => ?_)))
 have al := s.write d6 bw ((yH bu))
 have d7 := d3.keptA bw d4.symm
 have gx := la2 ([]) ((xs.take j).drop 0)
 refine ⟨fun _ => al.pins, ?_⟩
 refine dO (i := 7) (zS (i := 7) rfl rfl rfl (zD rfl _) (oA (E := eInt) (v := d5) (u := bq) 8 dB ap3 (by decide) rfl rfl al.pins bv d7.src (al.size) (fun d8 gy bx d9 ea gz => ?_)))
 have x := al.write d9 ea ((yH bv))
 have g0 := la1 (([]) ++ ((xs.take j).drop 0)) n
 refine ⟨fun _ => x.pins, ?_⟩
 refine dO (i := 11) (zS (i := 11) rfl rfl rfl (zD rfl _) (oA (E := eInt) (v := d8) (u := az) 8 dB ap3 (by decide) rfl rfl x.pins bx ((a0.mono (Pin.le_refl _)).src x.pins (by decide)) (x.size) (fun bz g1 eb ec ed g2 => ?_)))
 have a4 := x.write ec ed ((yH bx))
 have g3 := la2 ((([]) ++ ((xs.take j).drop 0)) ++ ([n])) ((xs.take xs.length).drop j)
 refine ⟨fun _ => a4.pins, ?_⟩
 refine dM 12 bz a4.pins ?_
 exact yP (by kernel_rfl) (jE ⟨_, bz, G, (pU 4), a4, (Pin.le_refl _), eb⟩)
 refine qW ?_
 refine qW ?_
 refine qW ?_
 refine qW ?_
 refine qW ?_
 refine qW ?_
 refine qD rfl (yI (v := (.bool false)) rfl rfl) (qe (zA ?_))
 refine qP rfl rfl (wp_exit (zV (yK (yE (zA (zB (zB (zC ?_))))))))
 refine qM (vJ (j : Int)) ?_
 refine qM v ?_
 refine qD rfl (zP dB (v := v) rfl hv) (qD rfl (yX rfl rfl) (qM (.bool (decide (((j : Int) : Int) < (xs.length : Int)))) ?_))
 refine qbd (p := ((j : Int) : Int) < (xs.length : Int)) (t := 24) rfl (fun h => absurd h h5) (fun _ => ?_)
 refine qW ?_
 refine qW ?_
 refine qW ?_
 refine qW ?_
 refine qW ?_
 refine qW ?_
 refine qD rfl (yI (v := (.bool false)) rfl rfl) (qe (zA ?_))
 refine qP rfl rfl (wp_skip (zA (zB ?_)))
 refine c_cut (fun (en : Nat → Value) (W : World) => ∃ (c : Nat → Value) (am : Value) (an : Pin), en = (upd c 4 am) ∧ Ext noS G w an W ∧ Pin.le G an ∧ (Own eInt 3 an W w.heap.size am (((([]) ++ ((xs.take j).drop 0)) ++ ([n])) ++ ((xs.take xs.length).drop j)))) ?_ ?_
 ·rintro _ g4 ⟨c, am, an, rfl, ee, g5, ef⟩
  refine zA (wp_ret (zO (zQ (v := am) rfl rfl rfl ?_)))
  obtain ⟨g6, g7, eg, eh, g8⟩ := ef.sealed ee
  exact ⟨_, _, rfl, (by rw [← put_new (fun h => ⟨by omega, by omega⟩) hr]; exact eh), eg⟩
 refine yZ (S := fun wz => Pins G wz) (last := 13) (by kernel_rfl) rfl ?_
 have b0 := bdr l
 have ei := d.pins.below b0
 have b := d.step ei b0
 refine dM 1 v b.pins ?_
 refine dM 2 (vJ (j : Int)) b.pins ?_
 obtain ⟨a5, a6, ej⟩ := jC hv (lo := none) (hi := (some ((j : Int)))) (0) (j) (Or.inl ⟨rfl, rfl⟩) (Or.inr ⟨_, rfl, (by omega), rfl⟩) (by omega) (by omega)
 refine dT (i := 3) rfl rfl (by kernel_rfl) (fun _ _ => ej dB sz3 rfl rfl rfl) b.pins ?_
 refine dM 5 (vJ n) b.pins ?_
 refine dM 8 v b.pins ?_
 refine dM 9 (vJ (j : Int)) b.pins ?_
 obtain ⟨a7, a8, ek⟩ := jC hv (lo := (some ((j : Int)))) (hi := none) (j) (xs.length) (Or.inr ⟨_, rfl, (by omega), rfl⟩) (Or.inl ⟨rfl, rfl⟩) (by omega) (by omega)
 refine dT (i := 10) rfl rfl (by kernel_rfl) (fun _ _ => ek dB sz3 rfl rfl rfl) b.pins ?_
 refine jJ (i := 0) (j := 6) (by kernel_rfl) ?_ ?_
 refine (zS (i := 0) rfl rfl rfl (zD rfl _) (xC (E := eInt) (e := 3) dB sz3 b.pins (fun a9 el em eo ep g9 => ?_)))
 have g := b.step eo ep
 have ao := em.weaken b.size
 refine ⟨fun _ => g.pins, ?_⟩
 refine jJ (i := 4) (j := 6) (by kernel_rfl) ?_ ?_
 refine (zS (i := 4) rfl rfl rfl (zD rfl _) (oA (E := eInt) (v := a9) (u := a5) 8 dB ap3 (by decide) rfl rfl g.pins ao ((a6.mono (Pin.le_refl _)).src g.pins (by decide)) (g.size) (fun eq ha er es et hb => ?_)))
 have ap := g.write es et ((yH ao))
 have hc := la2 ([]) ((xs.take j).drop 0)
 refine ⟨fun _ => ap.pins, ?_⟩
 refine dO (i := 6) (zS (i := 6) rfl rfl rfl (zD rfl _) (yG (E := eInt) (e := 3) [(vJ n)] [n] dB sz3 zr3 (by exact xK (by rfl)) (yO (by rfl)) rfl rfl rfl rfl (by decide) ap.pins (fun b1 eu ev ew b2 hd => ?_)))
 have aq := ap.step ew b2
 have b3 := er.below b2
 have ex := ev.weaken ap.size
 refine ⟨fun _ => aq.pins, ?_⟩
 refine dO (i := 7) (zS (i := 7) rfl rfl rfl (zD rfl _) (oA (E := eInt) (v := eq) (u := b1) 8 dB ap3 (by decide) rfl rfl aq.pins b3 ex.src (aq.size) (fun ey he b4 ez e0 hf => ?_)))
 have y := aq.write ez e0 ((yH b3))
 have hg := la1 (([]) ++ ((xs.take j).drop 0)) n
 refine ⟨fun _ => y.pins, ?_⟩
 refine dO (i := 11) (zS (i := 11) rfl rfl rfl (zD rfl _) (oA (E := eInt) (v := ey) (u := a7) 8 dB ap3 (by decide) rfl rfl y.pins b4 ((a8.mono (Pin.le_refl _)).src y.pins (by decide)) (y.size) (fun b5 hh e1 e2 e3 hk => ?_)))
 have ba := y.write e2 e3 ((yH b4))
 have hl := la2 ((([]) ++ ((xs.take j).drop 0)) ++ ([n])) ((xs.take xs.length).drop j)
 refine ⟨fun _ => ba.pins, ?_⟩
 refine dM 12 b5 ba.pins ?_
 exact yP (by kernel_rfl) (jE ⟨_, b5, G, (pU 4), ba, (Pin.le_refl _), e1⟩)
 refine (zS (i := 6) rfl rfl rfl (zD rfl _) (yG (E := eInt) (e := 3) [(vJ n)] [n] dB sz3 zr3 (by exact xK (by rfl)) (yO (by rfl)) rfl rfl rfl rfl (by decide) g.pins (fun b6 e4 e5 e6 b7 e7 => ?_)))
 have aa := g.step e6 b7
 have b8 := ao.below b7
 have e8 := zG e7 ao.lt
 have e9 := e5.weaken g.size
 refine ⟨fun _ => aa.pins, ?_⟩
 refine dO (i := 4) (zS (i := 4) rfl rfl rfl (zD rfl _) (oA (E := eInt) (v := a9) (u := a5) 8 dB ap3 (by decide) rfl rfl aa.pins b8 ((a6.mono (Pin.le_refl _)).src aa.pins (by decide)) (aa.size) (fun fa hm b9 fb ca hn => ?_)))
 have ar := aa.write fb ca ((yH b8))
 have fc := e9.keptA ca e8
 have ho := la2 ([]) ((xs.take j).drop 0)
 refine ⟨fun _ => ar.pins, ?_⟩
 refine dO (i := 7) (zS (i := 7) rfl rfl rfl (zD rfl _) (oA (E := eInt) (v := fa) (u := b6) 8 dB ap3 (by decide) rfl rfl ar.pins b9 fc.src (ar.size) (fun fd hp cb fe ff hq => ?_)))
 have ab := ar.write fe ff ((yH b9))
 have ht := la1 (([]) ++ ((xs.take j).drop 0)) n
 refine ⟨fun _ => ab.pins, ?_⟩
 refine dO (i := 11) (zS (i := 11) rfl rfl rfl (zD rfl _) (oA (E := eInt) (v := fd) (u := a7) 8 dB ap3 (by decide) rfl rfl ab.pins cb ((a8.mono (Pin.le_refl _)).src ab.pins (by decide)) (ab.size) (fun cc hu fg fh fi hw => ?_)))
 have bb := ab.write fh fi ((yH cb))
 have hx := la2 ((([]) ++ ((xs.take j).drop 0)) ++ ([n])) ((xs.take xs.length).drop j)
 refine ⟨fun _ => bb.pins, ?_⟩
 refine dM 12 cc bb.pins ?_
 exact yP (by kernel_rfl) (jE ⟨_, cc, G, (pU 4), bb, (Pin.le_refl _), fg⟩)
 refine (zS (i := 6) rfl rfl rfl (zD rfl _) (yG (E := eInt) (e := 3) [(vJ n)] [n] dB sz3 zr3 (by exact xK (by rfl)) (yO (by rfl)) rfl rfl rfl rfl (by decide) b.pins (fun cd fj fk fl fm hy => ?_)))
 have au := b.step fl fm
 have ce := fk.weaken b.size
 refine ⟨fun _ => au.pins, ?_⟩
 refine dO (i := 0) (zS (i := 0) rfl rfl rfl (zD rfl _) (xC (E := eInt) (e := 3) dB sz3 au.pins (fun cf fn fo fp cg fq => ?_)))
 have ac := au.step fp cg
 have fr := ce.below cg
 have fs := zG fq ce.lt
 have ch := fo.weaken au.size
 refine ⟨fun _ => ac.pins, ?_⟩
 refine dO (i := 4) (zS (i := 4) rfl rfl rfl (zD rfl _) (oA (E := eInt) (v := cf) (u := a5) 8 dB ap3 (by decide) rfl rfl ac.pins ch ((a6.mono (Pin.le_refl _)).src ac.pins (by decide)) (ac.size) (fun ft hz ci fu cj h0 => ?_)))
 have av := ac.write fu cj ((yH ch))
 have fv := fr.keptA cj fs.symm
 have h1 := la2 ([]) ((xs.take j).drop 0)
 refine ⟨fun _ => av.pins, ?_⟩
 refine dO (i := 7) (zS (i := 7) rfl rfl rfl (zD rfl _) (oA (E := eInt) (v := ft) (u := cd) 8 dB ap3 (by decide) rfl rfl av.pins ci fv.src (av.size) (fun fw h2 ck fx fy h3 => ?_)))
 have ad := av.write fx fy ((yH ci))
 have h4 := la1 (([]) ++ ((xs.take j).drop 0)) n
 refine ⟨fun _ => ad.pins, ?_⟩
 refine dO (i := 11) (zS (i := 11) rfl rfl rfl (zD rfl _) (oA (E := eInt) (v := fw) (u := a7) 8 dB ap3 (by decide) rfl rfl ad.pins ck ((a8.mono (Pin.le_refl _)).src ad.pins (by decide)) (ad.size) (fun cl h7 fz f0 f1 h9 => ?_)))
 have bc := ad.write f0 f1 ((yH ck))
 have ia := la2 ((([]) ++ ((xs.take j).drop 0)) ++ ([n])) ((xs.take xs.length).drop j)
 refine ⟨fun _ => bc.pins, ?_⟩
 refine dM 12 cl bc.pins ?_
 exact yP (by kernel_rfl) (jE ⟨_, cl, G, (pU 4), bc, (Pin.le_refl _), fz⟩)
theorem fG {w : World} {ys : List Int} (hP : Pins G w) (hu : RSl eInt G u xs) (hv : RSl eInt G v ys) :
  Calls Tryz.prog 68 [u, v].toArray w fun e w' => e = .returned (.bool (decide (xs = ys))) ∧ Ext noS G w G w' := by
 refine zU (n := 26) Tryz.func68 Tryz.ntmps68 rfl rfl ?_
 have f := exr noS hP
 have hm := hu.max
 refine zB (zC ?_)
 refine qM (.bool false) ?_
 refine qe (zA (zB (zB (zC ?_))))
 refine qM u ?_
 refine qD rfl (zP dB (v := u) rfl hu) (qM v ?_)
 refine qD rfl (zP dB (v := v) rfl hv) (qD rfl (gQ rfl rfl) (qe (zA ?_)))
 refine yC (p := ((xs.length : Int) : Int) ≠ (ys.length : Int)) rfl rfl (fun g => ?_) (fun g => ?_)
 refine zB (zC ?_)
 refine qM (.bool false) ?_
 refine qe (zA ?_)
 exact wp_ret (zO (zQ (v := (.bool false)) rfl rfl rfl (⟨congrArg (fun z => Ending.returned (Value.bool z)) (decide_eq_false (fun e => g (by rw [e]))).symm, f⟩)))
 refine wp_skip (zA (zB (zB (zC ?_))))
 refine qM (vJ 0) ?_
 refine qe (zA ?_)
 refine zW (yS (fun k en W => ∃ (h : Nat → Value) (j : Nat), en = (upd (upd (upd h 0 u) 1 v) 5 (vJ (j : Int))) ∧ k = xs.length - j ∧ Ext noS G w G W ∧ (j ≤ xs.length) ∧ (xs.length = ys.length) ∧ (∀ i, i < j → xs.getD i 0 = ys.getD i 0)) _ ⟨_, 0, (pS 5 (pS 1 (pU 0))), rfl, f, Nat.zero_le _, (by omega), (fun i hi => absurd hi (Nat.not_lt_zero i))⟩ ?_)
 rintro q _ b ⟨h, j, rfl, s, c, hj, heq, hp⟩
 refine zB (zB (zC ?_))
 refine qM (vJ (j : Int)) ?_
 refine qM u ?_
 refine qD rfl (zP dB (v := u) rfl hu) (qD rfl (yX rfl rfl) (qe (zA ?_)))
 refine yC (p := ((j : Int) : Int) < (xs.length : Int)) rfl rfl (fun m => ?_) (fun m => ?_)
 refine wp_skip (zA (zB ?_))
 refine zW (zB (yZ (S := fun wz => Pins G wz) (last := 9) (by kernel_rfl) rfl ?_))
 have l := bdr b
 have o := c.pins.below l
 have a := c.step o l
 refine dM 0 u a.pins ?_
 refine dM 1 (vJ (j : Int)) a.pins ?_
 refine dT (i := 2) rfl rfl (by kernel_rfl) (fun _ _ => zJ dB sz3 (v := u) rfl rfl hu (by omega) (by omega)) a.pins ?_
 refine dT (i := 3) rfl rfl (by kernel_rfl) (fun _ hS => zI (r := xs.getD j 0) rfl ag3 (z := (j : Int)) rfl hu hS (by omega) (by omega)) a.pins ?_
 refine dM 4 v a.pins ?_
 refine dM 5 (vJ (j : Int)) a.pins ?_
 refine dT (i := 6) rfl rfl (by kernel_rfl) (fun _ _ => zJ dB sz3 (v := v) rfl rfl hv (by omega) (by omega)) a.pins ?_
 refine dT (i := 7) rfl rfl (by kernel_rfl) (fun _ hS => zI (r := ys.getD j 0) rfl ag3 (z := (j : Int)) rfl hv hS (by omega) (by omega)) a.pins ?_
 refine dT (i := 8) rfl rfl (by kernel_rfl) (fun _ _ => gQ rfl rfl) a.pins ?_
 refine yP (by kernel_rfl) (zA (yC (p := (xs.getD j 0 : Int) ≠ (ys.getD j 0)) rfl rfl (fun d => ?_) (fun d => ?_)))
 refine zB (zC ?_)
 refine qM (.bool false) ?_
 refine qe (zA ?_)
 exact wp_ret (zO (zQ (v := (.bool false)) rfl rfl rfl (⟨congrArg (fun z => Ending.returned (Value.bool z)) (decide_eq_false (fun e => d (by rw [e]))).symm, a⟩)))
 refine wp_skip (yA (zA (zC ?_)))
 refine qM (vJ (j : Int)) ?_
 refine qD rfl (yJ rfl rfl (by omega)) (qM (vJ ((j : Int) + 1)) ?_)
 refine qe (yD (⟨_, ?_, _, rfl, _, j + 1, (pS 5 (pS 1 (pU 0))), rfl, a, (by omega), heq, (eqstep hp d)⟩))
 omega
 refine wp_exit (zV (yK (yE (zA (zB (zC ?_))))))
 refine qM (.bool true) ?_
 refine qe (zA ?_)
 exact wp_ret (zO (zQ (v := (.bool true)) rfl rfl rfl (⟨congrArg (fun z => Ending.returned (Value.bool z)) (decide_eq_true (eqdone heq (by omega) hp)).symm, c⟩)))
theorem vE {w : World} {Gr : Pin} {a : List Int} (hP : Pins G w) (hPr : Pins Gr w) (hu : RSl eInt Gr u a) (hv : RSl eInt G v xs) (hs : xs.length ≤ 1048576) (hk : ∀ i, i < xs.length → 0 ≤ xs.getD i 0 ∧ xs.getD i 0 < a.length) :
  Calls Tryz.prog 71 [u, v].toArray w fun e w' => ∃ (u : Value) (G' : Pin), e = .returned u ∧ Own eInt 3 G' w' w.heap.size u (atL a xs) ∧ Ext noS G w G' w' := by
 refine zU (n := 25) Tryz.func71 Tryz.ntmps71 rfl rfl ?_
 have c := exr noS hP
 refine zB (zC ?_)
 refine qM vN ?_
 refine qe (zA (zB (zC ?_)))
 refine qI rfl (xC (E := eInt) (e := 3) dB sz3 c.pins (fun d t x y aa am => ?_))
 have ab := c.step y aa
 have ac := x.weaken c.size
 refine qM d ?_
 refine qe (zA (zB (zB (zC ?_))))
 refine qM (vJ 0) ?_
 refine qe (zA ?_)
 refine zW (yS (fun k en W => ∃ (g : Nat → Value) (j : Nat) (o : Value) (os : List Int), en = (upd (upd (upd (upd (upd g 0 u) 1 v) 4 vN) 5 o) 6 (vJ (j : Int))) ∧ k = xs.length - j ∧ Ext noS G w G W ∧ (j ≤ xs.length) ∧ (os = atL a (xs.take j)) ∧ (os.length = j) ∧ (Own eInt 3 G W w.heap.size o (os))) _ ⟨_, 0, d, [], (pS 6 (pS 5 (pS 4 (pS 1 (pU 0))))), rfl, ab, Nat.zero_le _, rfl, rfl, ac⟩ ?_)
 rintro k9 _ ao ⟨g, j, o, os, rfl, ap, b, hj, hr, hol, h⟩
 refine zB (zB (zC ?_))
 refine qM (vJ (j : Int)) ?_
 refine qM v ?_
 refine qD rfl (zP dB (v := v) rfl hv) (qD rfl (yX rfl rfl) (qe (zA ?_)))
 refine yC (p := ((j : Int) : Int) < (xs.length : Int)) rfl rfl (fun ad => ?_) (fun ad => ?_)
 have hkj := hk j (by omega)
 refine wp_skip (zA (zB ?_))
 refine zW (zC (qM o ?_))
 refine qM u ?_
 refine qM v ?_
 refine qM (vJ (j : Int)) ?_
 refine qD rfl (zJ dB sz3 (v := v) rfl rfl hv (by omega) (by omega)) (qD rfl (zI (r := xs.getD j 0) rfl ag3 (z := (j : Int)) rfl hv b.pins (by omega) (by omega)) (qD rfl (zJ dB sz3 (v := u) rfl rfl hu (by omega) (by omega)) (qD rfl (zI (r := a.getD (xs.getD j 0).toNat 0) rfl ag3 (z := (xs.getD j 0)) rfl hu (hPr.ext0 b) (by omega) (by omega)) (qI rfl (yG (E := eInt) (e := 3) [(vJ (a.getD (xs.getD j 0).toNat 0))] [a.getD (xs.getD j 0).toNat 0] dB sz3 zr3 (by exact xK (by rfl)) (yO (by rfl)) rfl rfl rfl rfl (by decide) b.pins (fun l ae af ag m aq => ?_))))))
 have f := b.step ag m
 have q := h.below m
 have ah := af.weaken b.size
 refine qI rfl (oA (E := eInt) (v := o) (u := l) 8 dB ap3 (by decide) rfl rfl f.pins q ah.src (f.size) (fun s ar ai aj ak au => ?_))
 have al := f.write aj ak ((yH q))
 have av := la1 os (a.getD (xs.getD j 0).toNat 0)
 refine qM s ?_
 refine qe (yA (zA (zC ?_)))
 refine qM (vJ (j : Int)) ?_
 refine qD rfl (yJ rfl rfl (by omega)) (qM (vJ ((j : Int) + 1)) ?_)
 refine qe (yD (⟨_, ?_, _, rfl, _, j + 1, s, os ++ [a.getD (xs.getD j 0).toNat 0], (pS 6 (pS 5 (pS 4 (pS 1 (pU 0))))), rfl, al, (by omega), (by rw [hr, at_next (by omega)]), (by rw [List.length_append, hol]; rfl), ai⟩))
 omega
 refine wp_exit (zV (yK (yE (zA (zB (zC ?_))))))
 refine qM o ?_
 refine qM o ?_
 refine qe (zA ?_)
 exact wp_ret (zO (zQ (v := o) rfl rfl rfl (⟨_, _, rfl, (by rw [qS (by omega)] at hr; rw [← hr]; exact h), b⟩)))
theorem qH {w : World} (hP : Pins G w) (hv : RSl eInt G v xs) (hs : xs.length ≤ 1048576) :
  Calls Tryz.prog 70 [v].toArray w fun e w' => ∃ (u : Value) (G' : Pin), e = .returned u ∧ RSl eInt G' u (sortL xs) ∧ Ext noS G w G' w' := by
 refine zU (n := 19) Tryz.func70 Tryz.ntmps70 rfl rfl ?_
 have c := exr noS hP
 refine zB (zC ?_)
 refine qM vN ?_
 refine qe (zA (zB (zC ?_)))
 refine qI rfl (xC (E := eInt) (e := 3) dB sz3 c.pins (fun d q s t x ai => ?_))
 have y := c.step t x
 have aa := s.weaken c.size
 refine qM d ?_
 refine qe (zA (zB (zB (zC ?_))))
 refine qM (vJ 0) ?_
 refine qe (zA ?_)
 refine zW ?_
 obtain ⟨f, ab, ac, ad, aj⟩ := aa.sealed y
 refine yS (fun k en W => ∃ (g : Nat → Value) (j : Nat) (o : Value) (os : List Int) (a : Pin), en = (upd (upd (upd (upd g 0 v) 2 vN) 3 o) 4 (vJ (j : Int))) ∧ k = xs.length - j ∧ Ext noS G w a W ∧ Pin.le f a ∧ (j ≤ xs.length) ∧ (os = sortL (xs.take j)) ∧ (os.length ≤ j) ∧ (RSl eInt a o (os))) _ ⟨_, 0, d, [], f, (pS 4 (pS 3 (pS 2 (pU 0)))), rfl, ac, Pin.le_refl _, Nat.zero_le _, rfl, Nat.le_refl 0, ad⟩ ?_
 rintro k9 _ al ⟨g, j, o, os, a, rfl, am, b, h, hj, hr, hol, i⟩
 refine zB (zB (zC ?_))
 refine qM (vJ (j : Int)) ?_
 refine qM v ?_
 refine qD rfl (zP dB (v := v) rfl hv) (qD rfl (yX rfl rfl) (qe (zA ?_)))
 refine yC (p := ((j : Int) : Int) < (xs.length : Int)) rfl rfl (fun ae => ?_) (fun ae => ?_)
 refine wp_skip (zA (zB ?_))
 refine zW (zC (qM o ?_))
 refine qM v ?_
 refine qM (vJ (j : Int)) ?_
 refine qD rfl (zJ dB sz3 (v := v) rfl rfl hv (by omega) (by omega)) (qD rfl (zI (r := xs.getD j 0) rfl ag3 (z := (j : Int)) rfl hv (dX b.pins (dW ab h)) (by omega) (by omega)) (qI rfl (zF (vs := [o, (vJ (xs.getD j 0))]) Tryz.func87 nm87 rfl rfl rfl ?_)))
 refine dY (rE b.pins i (by omega)) ?_
 rintro _ an ⟨l, af, rfl, ag, m⟩
 refine ⟨_, rfl, ?_⟩
 have ah := b.tr m
 refine qM l ?_
 refine qe (yA (zA (zC ?_)))
 refine qM (vJ (j : Int)) ?_
 refine qD rfl (yJ rfl rfl (by omega)) (qM (vJ ((j : Int) + 1)) ?_)
 refine qe (yD (⟨_, ?_, _, rfl, _, j + 1, l, putL os (xs.getD j 0), af, (pS 4 (pS 3 (pS 2 (pU 0)))), rfl, ah, (dW h m.le), (by omega), (by rw [hr, mX (by omega)]), (Nat.le_trans vY (by omega)), ag⟩))
 omega
 refine wp_exit (zV (yK (yE (zA (zB (zC ?_))))))
 refine qM o ?_
 refine qM o ?_
 refine qe (zA ?_)
 exact wp_ret (zO (zQ (v := o) rfl rfl rfl (⟨_, _, rfl, (by rw [qS (by omega)] at hr; rw [← hr]; exact i), b⟩)))
end C1
end Go.Proofs.YtjdchbdfohiaaaaGreatDoor
namespace Go.Proofs.YtjdchbdfohiaaaaGreatDoor
namespace D1
open Go.RowKit Go.GL Go.Proofs
open C1
theorem pl69 : (Tryz.prog.underlying 69).bind (placesD Tryz.prog) = some [(0, 1), (1, 1)] := by kernel_rfl
variable {G : Pin} {u v : Value} {xs ys : List Int}
theorem nZ {w : World} (hP : Pins G w) (hu : RSl eInt G u xs) (hv : RSl eInt G v ys) :
  Calls Tryz.prog 88 [u, v].toArray w fun e w' => e = .returned (vJ (cmpL xs ys)) ∧ Ext noS G w G w' := by
 refine zU (n := 48) Tryz.func88 Tryz.ntmps88 rfl rfl ?_
 have m := exr noS hP
 have hm := hu.max
 refine zB (zC ?_)
 refine qM (vJ 0) ?_
 refine qe (zA (zB (zB (zC ?_))))
 refine qM (vJ 0) ?_
 refine qe (zA ?_)
 refine zW (yS (fun k en W => ∃ (g : Nat → Value) (j : Nat), en = (upd (upd (upd g 0 u) 1 v) 5 (vJ (j : Int))) ∧ k = xs.length - j ∧ Ext noS G w G W ∧ (j ≤ xs.length ∧ j ≤ ys.length) ∧ (cmpL xs ys = cmpL (xs.drop j) (ys.drop j))) _ ⟨_, 0, (pS 5 (pS 1 (pU 0))), rfl, m, ⟨Nat.zero_le _, Nat.zero_le _⟩, rfl⟩ ?_)
 rintro k1 _ d ⟨g, j, rfl, af, c, hj, hr⟩
 refine zB (zB (zC ?_))
 refine qM (vJ (j : Int)) ?_
 refine qM u ?_
 refine qD rfl (zP dB (v := u) rfl hu) (qD rfl (yX rfl rfl) (qM (.bool (decide (((j : Int) : Int) < (xs.length : Int)))) ?_))
 refine qbd (p := ((j : Int) : Int) < (xs.length : Int)) (t := 10) rfl (fun o => ?_) (fun o => ?_)
 refine qN (zR (v := (vJ (j : Int))) rfl) ?_
 refine qN (zR (v := v) rfl) ?_
 refine qN (zP dB (v := v) rfl hv) ?_
 refine qN (yX rfl rfl) ?_
 refine qD rfl (yR (v := (.bool (decide (((j : Int) : Int) < (ys.length : Int))))) rfl rfl) (qe (zA ?_))
 refine yC (p := ((j : Int) : Int) < (ys.length : Int)) rfl rfl (fun q => ?_) (fun q => ?_)
 refine wp_skip (zA (zB ?_))
 refine zW (zB (yZ (S := fun wz => Pins G wz) (last := 9) (by kernel_rfl) rfl ?_))
 have h := bdr d
 have s := c.pins.below h
 have a := c.step s h
 refine dM 0 u a.pins ?_
 refine dM 1 (vJ (j : Int)) a.pins ?_
 refine dT (i := 2) rfl rfl (by kernel_rfl) (fun _ _ => zJ dB sz3 (v := u) rfl rfl hu (by omega) (by omega)) a.pins ?_
 refine dT (i := 3) rfl rfl (by kernel_rfl) (fun _ hS => zI (r := xs.getD j 0) rfl ag3 (z := (j : Int)) rfl hu hS (by omega) (by omega)) a.pins ?_
 refine dM 4 v a.pins ?_
 refine dM 5 (vJ (j : Int)) a.pins ?_
 refine dT (i := 6) rfl rfl (by kernel_rfl) (fun _ _ => zJ dB sz3 (v := v) rfl rfl hv (by omega) (by omega)) a.pins ?_
 refine dT (i := 7) rfl rfl (by kernel_rfl) (fun _ hS => zI (r := ys.getD j 0) rfl ag3 (z := (j : Int)) rfl hv hS (by omega) (by omega)) a.pins ?_
 refine dT (i := 8) rfl rfl (by kernel_rfl) (fun _ _ => gQ rfl rfl) a.pins ?_
 refine yP (by kernel_rfl) (zA (yC (p := (xs.getD j 0 : Int) ≠ (ys.getD j 0)) rfl rfl (fun x => ?_) (fun x => ?_)))
 refine zB (zB ?_)
 refine yZ (S := fun wz => Pins G wz) (last := 9) (by kernel_rfl) rfl ?_
 have l : Below d.drew.heap.size d.drew d.drew.drew := (Below.refl _ _).drew
 have y := a.pins.below l
 have b := a.step y l
 refine dM 0 u b.pins ?_
 refine dM 1 (vJ (j : Int)) b.pins ?_
 refine dT (i := 2) rfl rfl (by kernel_rfl) (fun _ _ => zJ dB sz3 (v := u) rfl rfl hu (by omega) (by omega)) b.pins ?_
 refine dT (i := 3) rfl rfl (by kernel_rfl) (fun _ hS => zI (r := xs.getD j 0) rfl ag3 (z := (j : Int)) rfl hu hS (by omega) (by omega)) b.pins ?_
 refine dM 4 v b.pins ?_
 refine dM 5 (vJ (j : Int)) b.pins ?_
 refine dT (i := 6) rfl rfl (by kernel_rfl) (fun _ _ => zJ dB sz3 (v := v) rfl rfl hv (by omega) (by omega)) b.pins ?_
 refine dT (i := 7) rfl rfl (by kernel_rfl) (fun _ hS => zI (r := ys.getD j 0) rfl ag3 (z := (j : Int)) rfl hv hS (by omega) (by omega)) b.pins ?_
 refine dT (i := 8) rfl rfl (by kernel_rfl) (fun _ _ => yX rfl rfl) b.pins ?_
 refine yP (by kernel_rfl) (zA (yC (p := (xs.getD j 0 : Int) < (ys.getD j 0)) rfl rfl (fun f => ?_) (fun f => ?_)))
 refine zB (zC ?_)
 refine qM (vJ (-1)) ?_
 refine qe (zA ?_)
 exact wp_ret (zO (zQ (v := (vJ (-1))) rfl rfl rfl (⟨congrArg (fun z => Ending.returned (Value.int .i64 z)) ((hr.trans ((cmpL_ne (by omega) (by omega) (by unfold cmpI; split <;> omega)).trans (by unfold cmpI; rw [if_pos f]))).symm), b⟩)))
 refine wp_skip (zA (zB (zC ?_)))
 refine qM (vJ 1) ?_
 refine qe (zA ?_)
 exact wp_ret (zO (zQ (v := (vJ 1)) rfl rfl rfl (⟨congrArg (fun z => Ending.returned (Value.int .i64 z)) ((hr.trans ((cmpL_ne (by omega) (by omega) (by unfold cmpI; split <;> omega)).trans (by unfold cmpI; rw [if_neg f, if_pos (by omega)]))).symm), b⟩)))
 refine wp_skip (yA (zA (zC ?_)))
 refine qM (vJ (j : Int)) ?_
 refine qD rfl (yJ rfl rfl (by omega)) (qM (vJ ((j : Int) + 1)) ?_)
 refine qe (yD (⟨_, ?_, _, rfl, _, j + 1, (pS 5 (pS 1 (pU 0))), rfl, a, (by omega), (hr.trans (cmpL_eq (by omega) (by omega) (by unfold cmpI; rw [if_neg (by omega), if_neg (by omega)]; omega)))⟩))
 omega
 refine wp_exit (zV (yK (yE (zA (zB ?_)))))
 refine zW (zB (zC ?_))
 refine qM u ?_
 refine qD rfl (zP dB (v := u) rfl hu) (qM v ?_)
 refine qD rfl (zP dB (v := v) rfl hv) (qD rfl (yX rfl rfl) (qM (.bool (decide (((xs.length : Int) : Int) < (ys.length : Int)))) ?_))
 refine qe (zA ?_)
 refine yC (p := ((xs.length : Int) : Int) < (ys.length : Int)) rfl rfl (fun aa => ?_) (fun aa => ?_)
 refine zB (zC ?_)
 refine qM (vJ (-1)) ?_
 refine qe (zA ?_)
 exact wp_ret (zO (zQ (v := (vJ (-1))) rfl rfl rfl (⟨congrArg (fun z => Ending.returned (Value.int .i64 z)) ((hr.trans (nR (by omega) (by omega))).symm), c⟩)))
 refine zB (zC ?_)
 refine qM u ?_
 refine qD rfl (zP dB (v := u) rfl hu) (qM v ?_)
 refine qD rfl (zP dB (v := v) rfl hv) (qD rfl (jO rfl rfl) (qM (.bool (decide (((ys.length : Int) : Int) < (xs.length : Int)))) ?_))
 refine qe (zA ?_)
 refine yC (p := ((ys.length : Int) : Int) < (xs.length : Int)) rfl rfl (fun ab => ?_) (fun ab => ?_)
 refine zB (zC ?_)
 refine qM (vJ 1) ?_
 refine qe (zA ?_)
 exact wp_ret (zO (zQ (v := (vJ 1)) rfl rfl rfl (⟨congrArg (fun z => Ending.returned (Value.int .i64 z)) ((hr.trans (nQ (by omega) (by omega))).symm), c⟩)))
 refine wp_skip (yA (zA (zB (zC ?_))))
 refine qM (vJ 0) ?_
 refine qe (zA ?_)
 exact wp_ret (zO (zQ (v := (vJ 0)) rfl rfl rfl (⟨congrArg (fun z => Ending.returned (Value.int .i64 z)) ((hr.trans (nP (by omega) (by omega))).symm), c⟩)))
 refine qW ?_
 refine qW ?_
 refine qW ?_
 refine qW ?_
 refine qD rfl (yI (v := (.bool false)) rfl rfl) (qe (zA ?_))
 refine qP rfl rfl (wp_exit (zV (yK (yE (zA (zB ?_))))))
 refine zW (zB (zC ?_))
 refine qM u ?_
 refine qD rfl (zP dB (v := u) rfl hu) (qM v ?_)
 refine qD rfl (zP dB (v := v) rfl hv) (qD rfl (yX rfl rfl) (qM (.bool (decide (((xs.length : Int) : Int) < (ys.length : Int)))) ?_))
 refine qe (zA ?_)
 refine yC (p := ((xs.length : Int) : Int) < (ys.length : Int)) rfl rfl (fun ac => ?_) (fun ac => ?_)
 refine zB (zC ?_)
 refine qM (vJ (-1)) ?_
 refine qe (zA ?_)
 exact wp_ret (zO (zQ (v := (vJ (-1))) rfl rfl rfl (⟨congrArg (fun z => Ending.returned (Value.int .i64 z)) ((hr.trans (nR (by omega) (by omega))).symm), c⟩)))
 refine zB (zC ?_)
 refine qM u ?_
 refine qD rfl (zP dB (v := u) rfl hu) (qM v ?_)
 refine qD rfl (zP dB (v := v) rfl hv) (qD rfl (jO rfl rfl) (qM (.bool (decide (((ys.length : Int) : Int) < (xs.length : Int)))) ?_))
 refine qe (zA ?_)
 refine yC (p := ((ys.length : Int) : Int) < (xs.length : Int)) rfl rfl (fun ad => ?_) (fun ad => ?_)
 refine zB (zC ?_)
 refine qM (vJ 1) ?_
 refine qe (zA ?_)
 exact wp_ret (zO (zQ (v := (vJ 1)) rfl rfl rfl (⟨congrArg (fun z => Ending.returned (Value.int .i64 z)) ((hr.trans (nQ (by omega) (by omega))).symm), c⟩)))
 refine wp_skip (yA (zA (zB (zC ?_))))
 refine qM (vJ 0) ?_
 refine qe (zA ?_)
 exact wp_ret (zO (zQ (v := (vJ 0)) rfl rfl rfl (⟨congrArg (fun z => Ending.returned (Value.int .i64 z)) ((hr.trans (nP (by omega) (by omega))).symm), c⟩)))
theorem nJ {w : World} {al ar bl br : Value} {a b : Nd} (hP : Pins G w) (hal : RSl eInt G al a.l) (har : RSl eInt G ar a.r) (hbl : RSl eInt G bl b.l) (hbr : RSl eInt G br b.r) :
  Calls Tryz.prog 72 [(.agg [al, ar].toArray), (.agg [bl, br].toArray)].toArray w fun e w' => ∃ G', e = .returned (.bool (decide (aheadI a b < 0))) ∧ Ext noS G w G' w' := by
 refine zU (n := 21) Tryz.func72 Tryz.ntmps72 rfl rfl ?_
 have h := exr noS hP
 refine zB (zC ?_)
 refine qI rfl (xH [al, ar] (v := (.agg [al, ar].toArray)) rfl rfl h.pins (fun t w2 am x y aa => ?_))
 have ab := h.step y aa
 have ac : w.heap.size ≤ t := by have := h.size; omega
 obtain ⟨G9, f, i, j, ao⟩ := x.shut ab ac
 refine qI rfl (xH [bl, br] (v := (.agg [bl, br].toArray)) rfl rfl i.pins (fun ad ap aq ae af ag => ?_))
 have ah := i.step af ag
 have ai : w.heap.size ≤ ad := by have := i.size; omega
 obtain ⟨au, c, g, m, av⟩ := ae.shut ah ai
 refine qM (.bool false) ?_
 refine qe (zA (zB (zB (zC ?_))))
 refine qD rfl (zK (k := 0) rfl dF rfl nz48 rfl) (qD rfl (zL (u := al) ag48 rfl ((dX g.pins c) _ _ _ (j 0 _ rfl))) (qD rfl (zK (k := 0) rfl dF rfl nz48 rfl) (qD rfl (zL (u := bl) ag48 rfl (g.pins _ _ _ (m 0 _ rfl))) (qI rfl (zF (vs := [al, bl]) Tryz.func88 nm88 rfl rfl rfl ?_)))))
 refine dY (nZ g.pins (hal.mono (dW f c)) (hbl.mono (dW f c))) ?_
 rintro _ aw ⟨rfl, o⟩
 refine ⟨_, rfl, ?_⟩
 have d := g.step o.pins o.below
 refine qM (vJ (cmpL a.l b.l)) ?_
 refine qe (zA (zB (zC ?_)))
 refine qM (vJ (cmpL a.l b.l)) ?_
 refine qD rfl (gQ rfl rfl) (qe (zA ?_))
 refine yC (p := (cmpL a.l b.l : Int) ≠ 0) rfl rfl (fun q => ?_) (fun q => ?_)
 refine zB (zC ?_)
 refine qM (vJ (cmpL a.l b.l)) ?_
 refine qD rfl (yX rfl rfl) (qM (.bool (decide ((cmpL a.l b.l : Int) < 0))) ?_)
 refine qe (zA ?_)
 exact wp_ret (zO (zQ (v := (.bool (decide ((cmpL a.l b.l : Int) < 0)))) rfl rfl rfl (⟨_, congrArg (fun z => Ending.returned (Value.bool z)) (by rw [kX q]), d⟩)))
 refine wp_skip (zA (zB (zC ?_)))
 refine qD rfl (zK (k := 1) rfl dF rfl nz48 rfl) (qD rfl (zL (u := ar) ag48 rfl ((dX d.pins c) _ _ _ (j 1 _ rfl))) (qD rfl (zK (k := 1) rfl dF rfl nz48 rfl) (qD rfl (zL (u := br) ag48 rfl (d.pins _ _ _ (m 1 _ rfl))) (qI rfl (zF (vs := [ar, br]) Tryz.func88 nm88 rfl rfl rfl ?_)))))
 refine dY (nZ d.pins (har.mono (dW f c)) (hbr.mono (dW f c))) ?_
 rintro _ ax ⟨rfl, s⟩
 refine ⟨_, rfl, ?_⟩
 have aj := d.step s.pins s.below
 refine qD rfl (yX rfl rfl) (qM (.bool (decide ((cmpL a.r b.r : Int) < 0))) ?_)
 refine qe (zA ?_)
 exact wp_ret (zO (zQ (v := (.bool (decide ((cmpL a.r b.r : Int) < 0)))) rfl rfl rfl (⟨_, congrArg (fun z => Ending.returned (Value.bool z)) (by rw [kC (by omega)]), aj⟩)))
theorem l3Same_spec {w : World} {xs ys : List Nd} (hP : Pins G w) (hu : RSl eNode G u xs) (hv : RSl eNode G v ys) :
  Calls Tryz.prog 47 [(.agg [u].toArray), (.agg [v].toArray)].toArray w fun e w' => ∃ G', e = .returned (.bool (decide (xs = ys))) ∧ Ext noS G w G' w' := by
 refine zU (n := 50) Tryz.func47 Tryz.ntmps47 rfl rfl ?_
 have s := exr noS hP
 have hm := hu.max
 refine zB (zC ?_)
 refine qI rfl (xH [u] (v := (.agg [u].toArray)) rfl rfl s.pins (fun b1 w2 ba an ao ap => ?_))
 have aq := s.step ao ap
 have ar : w.heap.size ≤ b1 := by have := s.size; omega
 obtain ⟨G9, d, x, m, bc⟩ := an.shut aq ar
 refine qI rfl (xH [v] (v := (.agg [v].toArray)) rfl rfl x.pins (fun ac bd be au av aw => ?_))
 have ax := x.step av aw
 have ay : w.heap.size ≤ ac := by have := x.size; omega
 obtain ⟨ad, c, o, y, bf⟩ := au.shut ax ay
 refine qM (.bool false) ?_
 refine qe (zA (zB (zB (zC ?_))))
 refine qD rfl (zK (k := 0) rfl dE rfl nz24 rfl) (qD rfl (zL (u := u) ag24 rfl ((dX o.pins c) _ _ _ (m 0 _ rfl))) (qD rfl (zP dC (v := u) rfl hu) (qD rfl (zK (k := 0) rfl dE rfl nz24 rfl) (qD rfl (zL (u := v) ag24 rfl (o.pins _ _ _ (y 0 _ rfl))) (qD rfl (zP dC (v := v) rfl hv) (qD rfl (gQ rfl rfl) (qe (zA ?_))))))))
 refine yC (p := ((xs.length : Int) : Int) ≠ (ys.length : Int)) rfl rfl (fun ae => ?_) (fun ae => ?_)
 refine zB (zC ?_)
 refine qM (.bool false) ?_
 refine qe (zA ?_)
 exact wp_ret (zO (zQ (v := (.bool false)) rfl rfl rfl (⟨_, congrArg (fun z => Ending.returned (Value.bool z)) (decide_eq_false (fun e => ae (by rw [e]))).symm, o⟩)))
 refine wp_skip (zA (zB (zB (zC ?_))))
 refine qM (vJ 0) ?_
 refine qe (zA ?_)
 refine zW (yS (fun k en W => ∃ (af : Nat → Value) (j : Nat), en = (upd (upd (upd af 2 (vP b1)) 3 (vP ac)) 5 (vJ (j : Int))) ∧ k = xs.length - j ∧ Ext noS G w ad W ∧ (j ≤ xs.length) ∧ (xs.length = ys.length) ∧ (∀ i, i < j → xs.getD i default = ys.getD i default)) _ ⟨_, 0, (pS 5 (pS 3 (pU 2))), rfl, o, Nat.zero_le _, (by omega), (fun i hi => absurd hi (Nat.not_lt_zero i))⟩ ?_)
 rintro bg _ aa ⟨af, j, rfl, bh, q, hj, heq, hp⟩
 refine zB (zB (zC ?_))
 refine qM (vJ (j : Int)) ?_
 refine qD rfl (zK (k := 0) rfl dE rfl nz24 rfl) (qD rfl (zL (u := u) ag24 rfl ((dX q.pins c) _ _ _ (m 0 _ rfl))) (qD rfl (zP dC (v := u) rfl hu) (qD rfl (yX rfl rfl) (qe (zA ?_)))))
 refine yC (p := ((j : Int) : Int) < (xs.length : Int)) rfl rfl (fun az => ?_) (fun az => ?_)
 refine wp_skip (zA (zB ?_))
 refine zW (zB (yZ (S := fun wz => Pins ad wz) (last := 30) (by kernel_rfl) rfl ?_))
 have ag := bdr aa
 have a0 := q.pins.below ag
 have b := q.step a0 ag
 refine dT (i := 0) rfl rfl (by kernel_rfl) (fun _ _ => zK (k := 0) rfl dE rfl nz24 rfl) b.pins ?_
 refine dT (i := 1) rfl rfl (by kernel_rfl) (fun _ hS => zL (u := u) ag24 rfl ((dX hS c) _ _ _ (m 0 _ rfl))) b.pins ?_
 refine dM 2 (vJ (j : Int)) b.pins ?_
 refine dT (i := 3) rfl rfl (by kernel_rfl) (fun _ _ => zJ dC sz69 (v := u) rfl rfl hu (by omega) (by omega)) b.pins ?_
 refine dT (i := 4) rfl rfl (by kernel_rfl) (fun _ _ => xF (off := 0) dF rfl rfl nz48 (z := (j : Int)) (k := 0) rfl hu (by omega) (by omega)) b.pins ?_
 obtain ⟨a1, ah, a2⟩ := kA (hu.at (z := (j : Int)) (by omega) (by omega)) (j := j) rfl
 have bi := ah.max
 refine dT (i := 5) rfl rfl (by kernel_rfl) (fun _ hS => a2 ag48 rfl (dX hS (dW d c))) b.pins ?_
 refine dT (i := 6) rfl rfl (by kernel_rfl) (fun _ _ => zK (k := 0) rfl dE rfl nz24 rfl) b.pins ?_
 refine dT (i := 7) rfl rfl (by kernel_rfl) (fun _ hS => zL (u := v) ag24 rfl (hS _ _ _ (y 0 _ rfl))) b.pins ?_
 refine dM 8 (vJ (j : Int)) b.pins ?_
 refine dT (i := 9) rfl rfl (by kernel_rfl) (fun _ _ => zJ dC sz69 (v := v) rfl rfl hv (by omega) (by omega)) b.pins ?_
 refine dT (i := 10) rfl rfl (by kernel_rfl) (fun _ _ => xF (off := 0) dF rfl rfl nz48 (z := (j : Int)) (k := 0) rfl hv (by omega) (by omega)) b.pins ?_
 obtain ⟨a3, ai, a4⟩ := kA (hv.at (z := (j : Int)) (by omega) (by omega)) (j := j) rfl
 have bj := ai.max
 refine dT (i := 11) rfl rfl (by kernel_rfl) (fun _ hS => a4 ag48 rfl (dX hS (dW d c))) b.pins ?_
 refine dO (i := 12) (zS (i := 12) rfl rfl rfl (zD rfl _) (zF (vs := [a1, a3]) Tryz.func68 nm68 rfl rfl rfl ?_))
 refine dY (fG b.pins (ah.mono (dW d c)) (ai.mono (dW d c))) ?_
 rintro _ bk ⟨rfl, aj⟩
 refine ⟨_, rfl, ?_⟩
 have a := b.step aj.pins aj.below
 refine ⟨fun _ => a.pins, ?_⟩
 refine dT (i := 13) rfl rfl (by kernel_rfl) (fun _ _ => xR rfl) a.pins ?_
 refine dM 14 (.bool (!(decide (((xs.getD j default).l) = ((ys.getD j default).l))))) a.pins ?_
 refine drbn (t := 34) rfl (fun f => ?_) (fun f => ?_)
 replace f := of_decide_eq_true f
 refine yY (i := 15) rfl rfl rfl (yQ rfl rfl rfl rfl) (by kernel_rfl) (fun _ _ => zK (k := 0) rfl dE rfl nz24 rfl) a.pins (yY (i := 16) rfl rfl rfl (yQ rfl rfl rfl rfl) (by kernel_rfl) (fun _ hS => zL (u := u) ag24 rfl ((dX hS c) _ _ _ (m 0 _ rfl))) a.pins (yY (i := 17) rfl rfl rfl (yQ rfl rfl rfl rfl) (by kernel_rfl) (fun _ _ => zR (v := (vJ (j : Int))) rfl) a.pins (yY (i := 18) rfl rfl rfl (yQ rfl rfl rfl rfl) (by kernel_rfl) (fun _ _ => zJ dC sz69 (v := u) rfl rfl hu (by omega) (by omega)) a.pins (yY (i := 19) rfl rfl rfl (yQ rfl rfl rfl rfl) (by kernel_rfl) (fun _ _ => xF (off := 1) dF rfl rfl nz48 (z := (j : Int)) (k := 0) rfl hu (by omega) (by omega)) a.pins ?_))))
 obtain ⟨a5, ak, a6⟩ := kE (hu.at (z := (j : Int)) (by omega) (by omega)) (j := j) rfl
 have bl := ak.max
 refine yY (i := 20) rfl rfl rfl (yQ rfl rfl rfl rfl) (by kernel_rfl) (fun _ hS => a6 ag48 rfl (dX hS (dW d c))) a.pins (yY (i := 21) rfl rfl rfl (yQ rfl rfl rfl rfl) (by kernel_rfl) (fun _ _ => zK (k := 0) rfl dE rfl nz24 rfl) a.pins (yY (i := 22) rfl rfl rfl (yQ rfl rfl rfl rfl) (by kernel_rfl) (fun _ hS => zL (u := v) ag24 rfl (hS _ _ _ (y 0 _ rfl))) a.pins (yY (i := 23) rfl rfl rfl (yQ rfl rfl rfl rfl) (by kernel_rfl) (fun _ _ => zR (v := (vJ (j : Int))) rfl) a.pins (yY (i := 24) rfl rfl rfl (yQ rfl rfl rfl rfl) (by kernel_rfl) (fun _ _ => zJ dC sz69 (v := v) rfl rfl hv (by omega) (by omega)) a.pins (yY (i := 25) rfl rfl rfl (yQ rfl rfl rfl rfl) (by kernel_rfl) (fun _ _ => xF (off := 1) dF rfl rfl nz48 (z := (j : Int)) (k := 0) rfl hv (by omega) (by omega)) a.pins ?_)))))
 obtain ⟨a7, al, a8⟩ := kE (hv.at (z := (j : Int)) (by omega) (by omega)) (j := j) rfl
 have bm := al.max
 refine yY (i := 26) rfl rfl rfl (yQ rfl rfl rfl rfl) (by kernel_rfl) (fun _ hS => a8 ag48 rfl (dX hS (dW d c))) a.pins ?_
 refine dO (i := 27) (zS (i := 27) rfl rfl rfl (yQ rfl rfl rfl rfl) (zF (vs := [a5, a7]) Tryz.func68 nm68 rfl rfl rfl ?_))
 refine dY (fG a.pins (ak.mono (dW d c)) (al.mono (dW d c))) ?_
 rintro _ bn ⟨rfl, am⟩
 refine ⟨_, rfl, ?_⟩
 have h := a.step am.pins am.below
 refine ⟨fun _ => h.pins, ?_⟩
 refine yY (i := 28) rfl rfl rfl (yQ rfl rfl rfl rfl) (by kernel_rfl) (fun _ _ => xR rfl) h.pins (dT (i := 29) rfl rfl (by kernel_rfl) (fun _ _ => yI (v := (.bool (!(decide (((xs.getD j default).r) = ((ys.getD j default).r)))))) rfl rfl) h.pins ?_)
 refine yP (by kernel_rfl) (zA (qY rfl rfl (fun g => ?_) (fun g => ?_)))
 replace g := of_decide_eq_true g
 refine wp_skip (yA (zA (zC ?_)))
 refine qM (vJ (j : Int)) ?_
 refine qD rfl (yJ rfl rfl (by omega)) (qM (vJ ((j : Int) + 1)) ?_)
 refine qe (yD (⟨_, ?_, _, rfl, _, j + 1, (pS 5 (pS 3 (pU 2))), rfl, h, (by omega), heq, (eqstepN hp f g)⟩))
 omega
 replace g := of_decide_eq_false g
 refine zB (zC ?_)
 refine qM (.bool false) ?_
 refine qe (zA ?_)
 exact wp_ret (zO (zQ (v := (.bool false)) rfl rfl rfl (⟨_, congrArg (fun z => Ending.returned (Value.bool z)) (decide_eq_false (fun e => g (by rw [e]))).symm, h⟩)))
 replace f := of_decide_eq_false f
 refine yL (i := 15) rfl rfl (yT rfl rfl rfl rfl rfl) (by kernel_rfl) a.pins (yL (i := 16) rfl rfl (yT rfl rfl rfl rfl rfl) (by kernel_rfl) a.pins (yL (i := 17) rfl rfl (yT rfl rfl rfl rfl rfl) (by kernel_rfl) a.pins (yL (i := 18) rfl rfl (yT rfl rfl rfl rfl rfl) (by kernel_rfl) a.pins (yL (i := 19) rfl rfl (yT rfl rfl rfl rfl rfl) (by kernel_rfl) a.pins (yL (i := 20) rfl rfl (yT rfl rfl rfl rfl rfl) (by kernel_rfl) a.pins (yL (i := 21) rfl rfl (yT rfl rfl rfl rfl rfl) (by kernel_rfl) a.pins (yL (i := 22) rfl rfl (yT rfl rfl rfl rfl rfl) (by kernel_rfl) a.pins (yL (i := 23) rfl rfl (yT rfl rfl rfl rfl rfl) (by kernel_rfl) a.pins (yL (i := 24) rfl rfl (yT rfl rfl rfl rfl rfl) (by kernel_rfl) a.pins (yL (i := 25) rfl rfl (yT rfl rfl rfl rfl rfl) (by kernel_rfl) a.pins (yL (i := 26) rfl rfl (yT rfl rfl rfl rfl rfl) (by kernel_rfl) a.pins (yL (i := 27) rfl rfl (yT rfl rfl rfl rfl rfl) (by kernel_rfl) a.pins (yL (i := 28) rfl rfl (yT rfl rfl rfl rfl rfl) (by kernel_rfl) a.pins (dT (i := 29) rfl rfl (by kernel_rfl) (fun _ _ => yR (v := (.bool true)) rfl rfl) a.pins ?_))))))))))))))
 refine yP (by kernel_rfl) (zA (jS rfl rfl (zB (zC ?_))))
 refine qM (.bool false) ?_
 refine qe (zA ?_)
 exact wp_ret (zO (zQ (v := (.bool false)) rfl rfl rfl (⟨_, congrArg (fun z => Ending.returned (Value.bool z)) (decide_eq_false (fun e => f (by rw [e]))).symm, a⟩)))
 refine wp_exit (zV (yK (yE (zA (zB (zC ?_))))))
 refine qM (.bool true) ?_
 refine qe (zA ?_)
 exact wp_ret (zO (zQ (v := (.bool true)) rfl rfl rfl (⟨_, congrArg (fun z => Ending.returned (Value.bool z)) (decide_eq_true (eqdoneN heq (by omega) hp)).symm, q⟩)))
theorem kP {w : World} {b : Nat} {bu bv : Value} {ns : List Nd} {bs : List Int} (hP : Pins G w) (hB : Bk 69 3 G w b bu bv ns bs) (hok : BookOk ns bs) {x y : Value} (hx : RSl eInt G x xs) (hy : RSl eInt G y ys) (hls : xs.length ≤ 1048576 ∧ ys.length ≤ 1048576) (hk1 : ∀ i, i < xs.length → 0 ≤ xs.getD i 0 ∧ xs.getD i 0 < ns.length) (hk2 : ∀ i, i < ys.length → 0 ≤ ys.getD i 0 ∧ ys.getD i 0 < ns.length) :
  Calls Tryz.prog 78 [(vP b), x, y].toArray w fun e w' => ∃ (u' v' : Value) (G' : Pin), e = .returned (vJ (putK ns bs xs ys)) ∧ Bk 69 3 G' w' b u' v' (putN ns bs xs ys) (putB ns bs xs ys) ∧ Ext (inS b bu bv) G w G' w' ∧ Lo w (inS b bu bv) u'.ownBlock ∧ Lo w (inS b bu bv) v'.ownBlock := by
 refine zU (n := 136) Tryz.func78 Tryz.ntmps78 rfl rfl ?_
 have ba := exr (inS b bu bv) hP
 have hbx := hB.bx
 have hou := hB.ou
 have hov := hB.ov
 have habu := hB.abu
 have habv := hB.abv
 have hauv := hB.auv
 have hlob : Lo w (inS b bu bv) (some b) := lo_b
 have hlou : Lo w (inS b bu bv) bu.ownBlock := lo_u
 have hlov : Lo w (inS b bu bv) bv.ownBlock := lo_v
 have hlen := hok.len
 have hlim := hok.lim
 refine zB (zC ?_)
 refine qM (vJ 0) ?_
 refine qe (zA (zB (zC ?_)))
 refine qI rfl (xC (E := eInt) (e := 3) dB sz3 ba.pins (fun u1 w2 dc dd ay bc => ?_))
 have bd := ba.step dd ay
 have b8 := hou.below ay
 have b9 := hov.below ay
 have ca := hbx.below ay
 have de := zG bc hou.lt
 have df := zG bc hov.lt
 have dg := zH bc hbx.lt
 have cb := dc.weaken ba.size
 refine qI rfl (xC (E := eInt) (e := 3) dB sz3 bd.pins (fun an dh di dj ao az => ?_))
 have dk := bd.step dj ao
 have dl := b8.below ao
 have dm := b9.below ao
 have dn := cb.below ao
 have dp := ca.below ao
 have dq := zG az b8.lt
 have dr := zG az b9.lt
 have ds := zG az cb.lt
 have dt := zH az ca.lt
 have du := di.weaken bd.size
 refine qM u1 ?_
 refine qM an ?_
 refine qe (zA (zB (zC ?_)))
 refine qM (vJ 0) ?_
 refine qe (zA (zB (zB (zC ?_))))
 refine qM (vJ 0) ?_
 refine qe (zA ?_)
 refine zW ?_
 obtain ⟨cc, af, dv, dw, a0⟩ := dn.sealed dk
 have dx := dl.moreO af a0 de.symm
 have dy := dm.moreO af a0 df.symm
 have dz := du.moreO af a0 ds
 have d0 := dp.moreO a0 dg.symm
 refine yS (fun k en W => ∃ (ac : Nat → Value) (i : Nat) (lo : Value) (ls : List Int) (bn : Int) (GLi : Pin), en = (upd (upd (upd (upd (upd (upd (upd (upd ac 0 (vP b)) 1 x) 2 y) 6 (vJ 0)) 7 lo) 8 an) 9 (vJ bn)) 10 (vJ (i : Int))) ∧ k = xs.length - i ∧ Ext (inS b bu bv) G w GLi W ∧ Pin.le cc GLi ∧ (i ≤ xs.length) ∧ (ls = sortL (xs.take i)) ∧ (ls.length ≤ i) ∧ (bn = bornOf bs (xs.take i) 0) ∧ (0 ≤ bn ∧ bn ≤ ns.length) ∧ (Own eNode 69 GLi W 0 bu (ns)) ∧ (Own eInt 3 GLi W 0 bv (bs)) ∧ (Own eInt 3 GLi W w.heap.size an ([])) ∧ (Bx GLi W b [bu, bv]) ∧ (RSl eInt GLi lo (ls))) _ ⟨_, 0, u1, [], 0, cc, (pS 10 (pS 9 (pS 8 (pS 7 (pS 6 (pS 2 (pS 1 (pU 0)))))))), rfl, dv, Pin.le_refl _, Nat.zero_le _, rfl, Nat.le_refl 0, rfl, (by omega), dx, dy, dz, d0, dw⟩ ?_
 rintro fm _ fn ⟨ac, i, lo, ls, bn, GLi, rfl, fo, a1, ap, hji, hrls, holls, hbbn, hlbn, cd, ce, cf, cg, a2⟩
 refine zB (zB (zC ?_))
 refine qM (vJ (i : Int)) ?_
 refine qM x ?_
 refine qD rfl (zP dB (v := x) rfl hx) (qD rfl (yX rfl rfl) (qe (zA ?_)))
 refine yC (p := ((i : Int) : Int) < (xs.length : Int)) rfl rfl (fun d1 => ?_) (fun d1 => ?_)
 have hki := hk1 i (by omega)
 have hbk := hok.born (xs.getD i 0).toNat (by omega)
 refine wp_skip (zA (zB ?_))
 refine zW (zB (zC ?_))
 refine qM lo ?_
 refine qM x ?_
 refine qM (vJ (i : Int)) ?_
 refine qD rfl (zJ dB sz3 (v := x) rfl rfl hx (by omega) (by omega)) (qD rfl (zI (r := xs.getD i 0) rfl ag3 (z := (i : Int)) rfl hx (dX a1.pins (dW af ap)) (by omega) (by omega)) (qI rfl (zF (vs := [lo, (vJ (xs.getD i 0))]) Tryz.func87 nm87 rfl rfl rfl ?_)))
 refine dY (rE a1.pins a2 (by omega)) ?_
 rintro _ a3 ⟨ch, be, rfl, d2, ag⟩
 refine ⟨_, rfl, ?_⟩
 have bf := a1.tr ag
 have d3 := cd.ext ag
 have ci := ce.ext ag
 have d4 := cf.ext ag
 have d5 := cg.ext ag
 refine qM ch ?_
 refine qe (zA ?_)
 have d6 := Gadd.pins bf.pins bv
 have cj := ci.read
 refine yZ (S := fun wz => BxR wz b [bu, bv] ∧ Pins be wz ∧ Pins (Gadd be a3 bv) wz) (last := 14) (by kernel_rfl) rfl ?_
 have ah := bdr a3
 have d7 := bf.pins.below ah
 have c := bf.step d7 ah
 have d8 := d3.below ah
 have d9 := ci.below ah
 have ea := d4.below ah
 have f := d5.below ah
 have s := d6.below ah
 refine dT (i := 0) rfl rfl (by kernel_rfl) (fun _ _ => zR (v := (vJ bn)) rfl) ⟨f.reads, c.pins, s⟩ ?_
 refine dT (i := 1) rfl rfl (by kernel_rfl) (fun _ _ => zR (v := (vP b)) rfl) ⟨f.reads, c.pins, s⟩ ?_
 refine dT (i := 2) rfl rfl (by kernel_rfl) (fun _ _ => yU rfl) ⟨f.reads, c.pins, s⟩ ?_
 refine dT (i := 3) rfl rfl (by kernel_rfl) (fun _ _ => zK (k := 1) rfl dI rfl nz48 rfl) ⟨f.reads, c.pins, s⟩ ?_
 refine dT (i := 4) rfl rfl (by kernel_rfl) (fun _ hS => zL (u := bv) ag48 rfl (hS.1 1 _ rfl)) ⟨f.reads, c.pins, s⟩ ?_
 refine dT (i := 5) rfl rfl (by kernel_rfl) (fun _ _ => zR (v := x) rfl) ⟨f.reads, c.pins, s⟩ ?_
 refine dT (i := 6) rfl rfl (by kernel_rfl) (fun _ _ => zR (v := (vJ (i : Int))) rfl) ⟨f.reads, c.pins, s⟩ ?_
 refine dT (i := 7) rfl rfl (by kernel_rfl) (fun _ _ => zJ dB sz3 (v := x) rfl rfl hx (by omega) (by omega)) ⟨f.reads, c.pins, s⟩ ?_
 refine dT (i := 8) rfl rfl (by kernel_rfl) (fun _ hS => zI (r := xs.getD i 0) rfl ag3 (z := (i : Int)) rfl hx (dX hS.2.1 (dW (dW af ap) ag.le)) (by omega) (by omega)) ⟨f.reads, c.pins, s⟩ ?_
 refine dT (i := 9) rfl rfl (by kernel_rfl) (fun _ _ => zJ dB sz3 (v := bv) rfl rfl cj (by omega) (by omega)) ⟨f.reads, c.pins, s⟩ ?_
 refine dT (i := 10) rfl rfl (by kernel_rfl) (fun _ hS => zI (r := bs.getD (xs.getD i 0).toNat 0) rfl ag3 (z := (xs.getD i 0)) rfl cj hS.2.2 (by omega) (by omega)) ⟨f.reads, c.pins, s⟩ ?_
 refine dT (i := 11) rfl rfl (by kernel_rfl) (fun _ _ => yJ rfl rfl (by omega)) ⟨f.reads, c.pins, s⟩ ?_
 refine dO (i := 12) (zS (i := 12) rfl rfl rfl (zD rfl _) (zF (vs := [(vJ bn), (vJ ((bs.getD (xs.getD i 0).toNat 0) + 1))]) Tryz.func93 nm93 rfl rfl rfl ?_))
 refine dY (pC c.pins) ?_
 rintro _ _ ⟨rfl, rfl⟩
 refine ⟨_, rfl, ?_⟩
 refine ⟨fun _ => ⟨f.reads, c.pins, s⟩, ?_⟩
 refine dT (i := 13) rfl rfl (by kernel_rfl) (fun _ _ => qU (v := (vJ (max bn ((bs.getD (xs.getD i 0).toNat 0) + 1)))) rfl) ⟨f.reads, c.pins, s⟩ ?_
 refine yP (by kernel_rfl) (yA (zA (zC ?_)))
 refine qM (vJ (i : Int)) ?_
 refine qD rfl (yJ rfl rfl (by omega)) (qM (vJ ((i : Int) + 1)) ?_)
 refine qe (yD (⟨_, ?_, _, rfl, _, i + 1, ch, putL ls (xs.getD i 0), max bn ((bs.getD (xs.getD i 0).toNat 0) + 1), be, (pS 10 (pS 9 (pS 8 (pS 7 (pS 6 (pS 2 (pS 1 (pU 0)))))))), rfl, c, (dW ap ag.le), (by omega), (by rw [hrls, mX (by omega)]), (Nat.le_trans vY (by omega)), (by rw [hbbn, tR (by omega)]), (by omega), d8, d9, ea, f, d2⟩))
 omega
 refine wp_exit (zV (yK (yE (zA (zB (zB (zC ?_)))))))
 refine qM (vJ 0) ?_
 refine qe (zA ?_)
 refine zW ?_
 obtain ⟨ck, ak, eb, ec, bg⟩ := cf.sealed a1
 have ed := cd.moreO ak bg dq.symm
 have ee := ce.moreO ak bg dr.symm
 have ef := cg.moreO bg dt.symm
 refine yS (fun k en W => ∃ (ac : Nat → Value) (a : Nat) (ro : Value) (rs : List Int) (bm : Int) (ab : Pin), en = (upd (upd (upd (upd (upd (upd (upd ac 0 (vP b)) 2 y) 6 (vJ 0)) 7 lo) 8 ro) 9 (vJ bm)) 11 (vJ (a : Int))) ∧ k = ys.length - a ∧ Ext (inS b bu bv) G w ab W ∧ Pin.le ck ab ∧ (a ≤ ys.length) ∧ (rs = sortL (ys.take a)) ∧ (rs.length ≤ a) ∧ (bm = bornOf bs (ys.take a) bn) ∧ (0 ≤ bm ∧ bm ≤ ns.length) ∧ (Own eNode 69 ab W 0 bu (ns)) ∧ (Own eInt 3 ab W 0 bv (bs)) ∧ (Bx ab W b [bu, bv]) ∧ (RSl eInt ab ro (rs))) _ ⟨_, 0, an, [], bn, ck, (pS 11 (pS 9 (pS 8 (pS 7 (pS 6 (pS 2 (pU 0))))))), rfl, eb, Pin.le_refl _, Nat.zero_le _, rfl, Nat.le_refl 0, rfl, (by omega), ed, ee, ef, ec⟩ ?_
 rintro fp _ fq ⟨ac, a, ro, rs, bm, ab, rfl, fr, a4, aq, fs, hrrs, holrs, hbbm, hlbm, cl, cm, cn, a5⟩
 refine zB (zB (zC ?_))
 refine qM (vJ (a : Int)) ?_
 refine qM y ?_
 refine qD rfl (zP dB (v := y) rfl hy) (qD rfl (yX rfl rfl) (qe (zA ?_)))
 refine yC (p := ((a : Int) : Int) < (ys.length : Int)) rfl rfl (fun eg => ?_) (fun eg => ?_)
 have hki := hk2 a (by omega)
 have hbk := hok.born (ys.getD a 0).toNat (by omega)
 refine wp_skip (zA (zB ?_))
 refine zW (zB (zC ?_))
 refine qM ro ?_
 refine qM y ?_
 refine qM (vJ (a : Int)) ?_
 refine qD rfl (zJ dB sz3 (v := y) rfl rfl hy (by omega) (by omega)) (qD rfl (zI (r := ys.getD a 0) rfl ag3 (z := (a : Int)) rfl hy (dX a4.pins (dW (dW (dW af ap) ak) aq)) (by omega) (by omega)) (qI rfl (zF (vs := [ro, (vJ (ys.getD a 0))]) Tryz.func87 nm87 rfl rfl rfl ?_)))
 refine dY (rE a4.pins a5 (by omega)) ?_
 rintro _ a6 ⟨co, bh, rfl, eh, al⟩
 refine ⟨_, rfl, ?_⟩
 have bi := a4.tr al
 have ei := cl.ext al
 have cp := cm.ext al
 have ej := cn.ext al
 refine qM co ?_
 refine qe (zA ?_)
 have ek := Gadd.pins bi.pins bv
 have cq := cp.read
 refine yZ (S := fun wz => BxR wz b [bu, bv] ∧ Pins bh wz ∧ Pins (Gadd bh a6 bv) wz) (last := 14) (by kernel_rfl) rfl ?_
 have am := bdr a6
 have el := bi.pins.below am
 have d := bi.step el am
 have em := ei.below am
 have eo := cp.below am
 have m := ej.below am
 have aa := ek.below am
 refine dT (i := 0) rfl rfl (by kernel_rfl) (fun _ _ => zR (v := (vJ bm)) rfl) ⟨m.reads, d.pins, aa⟩ ?_
 refine dT (i := 1) rfl rfl (by kernel_rfl) (fun _ _ => zR (v := (vP b)) rfl) ⟨m.reads, d.pins, aa⟩ ?_
 refine dT (i := 2) rfl rfl (by kernel_rfl) (fun _ _ => yU rfl) ⟨m.reads, d.pins, aa⟩ ?_
 refine dT (i := 3) rfl rfl (by kernel_rfl) (fun _ _ => zK (k := 1) rfl dI rfl nz48 rfl) ⟨m.reads, d.pins, aa⟩ ?_
 refine dT (i := 4) rfl rfl (by kernel_rfl) (fun _ hS => zL (u := bv) ag48 rfl (hS.1 1 _ rfl)) ⟨m.reads, d.pins, aa⟩ ?_
 refine dT (i := 5) rfl rfl (by kernel_rfl) (fun _ _ => zR (v := y) rfl) ⟨m.reads, d.pins, aa⟩ ?_
 refine dT (i := 6) rfl rfl (by kernel_rfl) (fun _ _ => zR (v := (vJ (a : Int))) rfl) ⟨m.reads, d.pins, aa⟩ ?_
 refine dT (i := 7) rfl rfl (by kernel_rfl) (fun _ _ => zJ dB sz3 (v := y) rfl rfl hy (by omega) (by omega)) ⟨m.reads, d.pins, aa⟩ ?_
 refine dT (i := 8) rfl rfl (by kernel_rfl) (fun _ hS => zI (r := ys.getD a 0) rfl ag3 (z := (a : Int)) rfl hy (dX hS.2.1 (dW (dW (dW (dW af ap) ak) aq) al.le)) (by omega) (by omega)) ⟨m.reads, d.pins, aa⟩ ?_
 refine dT (i := 9) rfl rfl (by kernel_rfl) (fun _ _ => zJ dB sz3 (v := bv) rfl rfl cq (by omega) (by omega)) ⟨m.reads, d.pins, aa⟩ ?_
 refine dT (i := 10) rfl rfl (by kernel_rfl) (fun _ hS => zI (r := bs.getD (ys.getD a 0).toNat 0) rfl ag3 (z := (ys.getD a 0)) rfl cq hS.2.2 (by omega) (by omega)) ⟨m.reads, d.pins, aa⟩ ?_
 refine dT (i := 11) rfl rfl (by kernel_rfl) (fun _ _ => yJ rfl rfl (by omega)) ⟨m.reads, d.pins, aa⟩ ?_
 refine dO (i := 12) (zS (i := 12) rfl rfl rfl (zD rfl _) (zF (vs := [(vJ bm), (vJ ((bs.getD (ys.getD a 0).toNat 0) + 1))]) Tryz.func93 nm93 rfl rfl rfl ?_))
 refine dY (pC d.pins) ?_
 rintro _ _ ⟨rfl, rfl⟩
 refine ⟨_, rfl, ?_⟩
 refine ⟨fun _ => ⟨m.reads, d.pins, aa⟩, ?_⟩
 refine dT (i := 13) rfl rfl (by kernel_rfl) (fun _ _ => qU (v := (vJ (max bm ((bs.getD (ys.getD a 0).toNat 0) + 1)))) rfl) ⟨m.reads, d.pins, aa⟩ ?_
 refine yP (by kernel_rfl) (yA (zA (zC ?_)))
 refine qM (vJ (a : Int)) ?_
 refine qD rfl (yJ rfl rfl (by omega)) (qM (vJ ((a : Int) + 1)) ?_)
 refine qe (yD (⟨_, ?_, _, rfl, _, a + 1, co, putL rs (ys.getD a 0), max bm ((bs.getD (ys.getD a 0).toNat 0) + 1), bh, (pS 11 (pS 9 (pS 8 (pS 7 (pS 6 (pS 2 (pU 0))))))), rfl, d, (dW aq al.le), (by omega), (by rw [hrrs, mX (by omega)]), (Nat.le_trans vY (by omega)), (by rw [hbbm, tR (by omega)]), (by omega), em, eo, m, eh⟩))
 omega
 refine wp_exit (zV (yK (yE (zA (zB (zB (zC ?_)))))))
 rw [qS (by omega)] at hrls hrrs hbbn hbbm
 have e1 : putNd xs ys = ⟨ls, rs⟩ := by unfold putNd; rw [hrls, hrrs]
 have e2 : putBorn bs xs ys = bm := by unfold putBorn; rw [← hbbn, ← hbbm]
 refine qM (vJ 0) ?_
 refine qe (zA ?_)
 refine zW ?_
 have e0 : True := trivial
 refine yS (fun k en W => ∃ (ac : Nat → Value) (q : Nat), en = (upd (upd (upd (upd (upd ac 0 (vP b)) 7 lo) 8 ro) 9 (vJ bm)) 12 (vJ (q : Int))) ∧ k = ns.length - q ∧ Ext (inS b bu bv) G w ab W ∧ (q ≤ ns.length) ∧ (∀ i, i < q → NotAt ns bs ⟨ls, rs⟩ bm i) ∧ (Own eNode 69 ab W 0 bu (ns)) ∧ (Own eInt 3 ab W 0 bv (bs)) ∧ (Bx ab W b [bu, bv])) _ ⟨_, 0, (pS 12 (pS 9 (pS 8 (pS 7 (pU 0))))), rfl, a4, Nat.zero_le _, (fun i hi => absurd hi (Nat.not_lt_zero i)), cl, cm, cn⟩ ?_
 rintro fu _ fv ⟨ac, q, rfl, fw, ad, fx, hp, ai, ar, aj⟩
 refine zB (zB (zC ?_))
 refine qM (vJ (q : Int)) ?_
 refine qM (vP b) ?_
 refine qD rfl (yU rfl) (qD rfl (zK (k := 0) rfl dI rfl nz24 rfl) (qD rfl (zL (u := bu) ag24 rfl (aj.cell (o := 0) rfl)) (qD rfl (zP dC (v := bu) rfl ai.read) (qD rfl (yX rfl rfl) (qe (zA ?_))))))
 refine yC (p := ((q : Int) : Int) < (ns.length : Int)) rfl rfl (fun ep => ?_) (fun ep => ?_)
 refine wp_skip (zA (zB ?_))
 refine zW (zB (zC ?_))
 refine qM (vP b) ?_
 refine qD rfl (yU rfl) (qD rfl (zK (k := 1) rfl dI rfl nz48 rfl) (qD rfl (zL (u := bv) ag48 rfl (aj.cell (o := 1) rfl)) (qM (vJ (q : Int)) ?_)))
 refine qD rfl (zJ dB sz3 (v := bv) rfl rfl ar.read (by omega) (by omega)) (qD rfl (zI (r := bs.getD q 0) rfl ag3 (z := (q : Int)) rfl ar.read (Gadd.pins ad.pins bv) (by omega) (by omega)) (qM (vJ bm) ?_))
 refine qD rfl (xU rfl rfl) (qM (.bool (decide ((bs.getD q 0 : Int) = bm))) ?_)
 refine qbd (p := (bs.getD q 0 : Int) = bm) (t := 83) rfl (fun bl => ?_) (fun bl => ?_)
 refine qN (zR (v := (vP b)) rfl) ?_
 refine qN (yU rfl) ?_
 refine qN (zK (k := 0) rfl dI rfl nz24 rfl) ?_
 refine qN (zL (u := bu) ag24 rfl (aj.cell (o := 0) rfl)) ?_
 refine qN (zR (v := (vJ (q : Int))) rfl) ?_
 refine qN (zJ dC sz69 (v := bu) rfl rfl ai.read (by omega) (by omega)) ?_
 refine qN (xF (off := 0) dF rfl rfl nz48 (z := (q : Int)) (k := 0) rfl ai.read (by omega) (by omega)) ?_
 obtain ⟨eq, cr, er⟩ := kA (ai.at (z := (q : Int)) (by omega) (by omega)) (j := q) rfl
 have fy := cr.max
 refine qN (er ag48 rfl (Gadd.pins ad.pins bu)) ?_
 refine qN (zR (v := lo) rfl) ?_
 refine q1g rfl rfl rfl rfl rfl rfl (zF (vs := [eq, lo]) Tryz.func68 nm68 rfl rfl rfl ?_)
 refine dY (fG ad.pins cr (a2.mono (dW ak aq))) ?_
 rintro _ fz ⟨rfl, au⟩
 refine ⟨_, rfl, ?_⟩
 have a7 := ad.step au.pins au.below
 have av := ai.below au.below
 have cs := ar.below au.below
 have bo := aj.below au.below
 refine qD rfl (yR (v := (.bool (decide (((ns.getD q default).l) = ls)))) rfl rfl) (qM (.bool (decide (((ns.getD q default).l) = ls))) ?_)
 refine qbd (p := (((ns.getD q default).l) = ls)) (t := 95) rfl (fun bp => ?_) (fun bp => ?_)
 refine qN (zR (v := (vP b)) rfl) ?_
 refine qN (yU rfl) ?_
 refine qN (zK (k := 0) rfl dI rfl nz24 rfl) ?_
 refine qN (zL (u := bu) ag24 rfl (bo.cell (o := 0) rfl)) ?_
 refine qN (zR (v := (vJ (q : Int))) rfl) ?_
 refine qN (zJ dC sz69 (v := bu) rfl rfl av.read (by omega) (by omega)) ?_
 refine qN (xF (off := 1) dF rfl rfl nz48 (z := (q : Int)) (k := 0) rfl av.read (by omega) (by omega)) ?_
 obtain ⟨es, ct, et⟩ := kE (av.at (z := (q : Int)) (by omega) (by omega)) (j := q) rfl
 have f0 := ct.max
 refine qN (et ag48 rfl (Gadd.pins a7.pins bu)) ?_
 refine qN (zR (v := ro) rfl) ?_
 refine q1g rfl rfl rfl rfl rfl rfl (zF (vs := [es, ro]) Tryz.func68 nm68 rfl rfl rfl ?_)
 refine dY (fG a7.pins ct a5) ?_
 rintro _ f1 ⟨rfl, aw⟩
 refine ⟨_, rfl, ?_⟩
 have cu := a7.step aw.pins aw.below
 have cv := av.below aw.below
 have cw := cs.below aw.below
 have cx := bo.below aw.below
 refine qD rfl (yR (v := (.bool (decide (((ns.getD q default).r) = rs)))) rfl rfl) (qe (zA ?_))
 refine yC (p := (((ns.getD q default).r) = rs)) rfl rfl (fun bq => ?_) (fun bq => ?_)
 refine zB (zC ?_)
 refine qM (vJ (q : Int)) ?_
 refine qM (vJ (q : Int)) ?_
 refine qe (zA ?_)
 refine wp_ret (zO (zQ (v := (vJ (q : Int))) rfl rfl rfl ?_))
 have hf : findK ns bs (putNd xs ys) (putBorn bs xs ys) = some q := by rw [e1, e2]; exact find_some (by omega) hp ⟨bl, bp, bq⟩
 have eN : putN ns bs xs ys = ns := by unfold putN; rw [hf]
 have eB : putB ns bs xs ys = bs := by unfold putB; rw [hf]
 refine ⟨bu, bv, _, congrArg (fun z => Ending.returned (Value.int .i64 z)) (by unfold putK; rw [hf]), ?_, cu, hlou, hlov⟩
 rw [eN, eB]
 exact ⟨cx, cv, cw, habu, habv, hauv⟩
 refine wp_skip (yA (zA (zC ?_)))
 refine qM (vJ (q : Int)) ?_
 refine qD rfl (yJ rfl rfl (by omega)) (qM (vJ ((q : Int) + 1)) ?_)
 refine qe (yD (⟨_, ?_, _, rfl, _, q + 1, (pS 12 (pS 9 (pS 8 (pS 7 (pU 0))))), rfl, cu, (by omega), (fun i hi => if h3 : i = q then h3 ▸ (fun g => absurd g.2.2 bq) else hp i (by omega)), cv, cw, cx⟩))
 omega
 refine qW ?_
 refine qW ?_
 refine qW ?_
 refine qW ?_
 refine qW ?_
 refine qW ?_
 refine qW ?_
 refine qW ?_
 refine qW ?_
 refine qW ?_
 refine qD rfl (yI (v := (.bool false)) rfl rfl) (qe (zA ?_))
 refine qP rfl rfl (wp_skip (yA (zA (zC ?_))))
 refine qM (vJ (q : Int)) ?_
 refine qD rfl (yJ rfl rfl (by omega)) (qM (vJ ((q : Int) + 1)) ?_)
 refine qe (yD (⟨_, ?_, _, rfl, _, q + 1, (pS 12 (pS 9 (pS 8 (pS 7 (pU 0))))), rfl, a7, (by omega), (fun i hi => if h3 : i = q then h3 ▸ (fun g => absurd g.2.1 bp) else hp i (by omega)), av, cs, bo⟩))
 omega
 refine qW ?_
 refine qW ?_
 refine qW ?_
 refine qW ?_
 refine qW ?_
 refine qW ?_
 refine qW ?_
 refine qW ?_
 refine qW ?_
 refine qW ?_
 refine qD rfl (yI (v := (.bool false)) rfl rfl) (qM (.bool false) ?_)
 refine qW ?_
 refine qW ?_
 refine qW ?_
 refine qW ?_
 refine qW ?_
 refine qW ?_
 refine qW ?_
 refine qW ?_
 refine qW ?_
 refine qW ?_
 refine qD rfl (yI (v := (.bool false)) rfl rfl) (qe (zA ?_))
 refine qP rfl rfl (wp_skip (yA (zA (zC ?_))))
 refine qM (vJ (q : Int)) ?_
 refine qD rfl (yJ rfl rfl (by omega)) (qM (vJ ((q : Int) + 1)) ?_)
 refine qe (yD (⟨_, ?_, _, rfl, _, q + 1, (pS 12 (pS 9 (pS 8 (pS 7 (pU 0))))), rfl, ad, (by omega), (fun i hi => if h3 : i = q then h3 ▸ (fun g => absurd g.1 bl) else hp i (by omega)), ai, ar, aj⟩))
 omega
 refine wp_exit (zV (yK (yE (zA (zB (zC ?_))))))
 refine qM (vP b) ?_
 refine qM (vP b) ?_
 refine qD rfl (yU rfl) (qD rfl (zK (k := 0) rfl dI rfl nz24 rfl) (qD rfl (zL (u := bu) ag24 rfl (aj.cell (o := 0) rfl)) (qM lo ?_)))
 refine qM ro ?_
 refine qD rfl (xB [vN, vN] [lo, ro] [(0, lo, [lo]), (1, ro, [ro])] dF zr69 rfl pl69 rfl (List.forall_mem_cons.2 ⟨(xM a2.one), (List.forall_mem_cons.2 ⟨(xM a5.one), (fun _ h => by cases h)⟩)⟩) rfl) (qI rfl (xT (E := eNode) (e := 69) [lo, ro] (⟨ls, rs⟩ : Nd) dC sz69 zr69 ⟨_, _, rfl, (a2.mono (dW ak aq)), a5⟩ rfl (by decide) ad.pins (fun cy eu ev ew a8 f2 => ?_)))
 have br := ad.step ew a8
 have ex := ai.below a8
 have cz := ar.below a8
 have c0 := aj.below a8
 have ey := ev.weaken ad.size
 refine qI rfl (oA (E := eNode) (v := bu) (u := cy) 48 dC ap69 (by decide) rfl rfl br.pins ex ey.src (Nat.zero_le _) (fun ae f3 bt ez bw bz => ?_))
 have c1 := br.write ez bw (hlou)
 have e3 := cz.keptA bw hauv.symm
 have e4 := c0.keptA bw habu
 have c2 := zE hauv.symm bz cz.lt
 have b0 := zN habu bz c0.lt
 have e5 : Lo w (inS b bu bv) ae.ownBlock := nI hlou bz br.size
 have f4 := la1 ns (⟨ls, rs⟩ : Nd)
 refine qD rfl (yU rfl) (qD rfl (zK (k := 0) rfl dI rfl nz24 rfl) (q0 rfl rfl rfl (o_stp (cs' := [ae, bv]) (us := [ae]) (v := ae) sz24 rfl rfl (tD bt.one) (yO bt.one) c1.pins e4 (dZ rfl) rfl (fun f5 c3 e6 b1 f6 => ?_))))
 have b2 := c1.write e6 b1 (hlob)
 have e7 := e3.keptA b1 habv.symm
 have e8 := bt.keptA b1 b0.symm
 refine qe (zA (zB (zC ?_)))
 refine qM (vP b) ?_
 refine qM (vP b) ?_
 refine qD rfl (yU rfl) (qD rfl (zK (k := 1) rfl dI rfl nz48 rfl) (qD rfl (zL (u := bv) ag48 rfl (c3.cell (o := 1) rfl)) (qM (vJ bm) ?_)))
 refine qI rfl (yG (E := eInt) (e := 3) [(vJ bm)] [bm] dB sz3 zr3 (by exact xK (by rfl)) (yO (by rfl)) rfl rfl rfl rfl (by decide) b2.pins (fun c4 e9 fa fb a9 f7 => ?_))
 have b3 := b2.step fb a9
 have fc := e7.below a9
 have c5 := e8.below a9
 have c6 := c3.below a9
 have fd := fa.weaken b2.size
 refine qI rfl (oA (E := eInt) (v := bv) (u := c4) 8 dB ap3 (by decide) rfl rfl b3.pins fc fd.src (Nat.zero_le _) (fun ax f8 b4 fe b5 b6 => ?_))
 have c7 := b3.write fe b5 (hlov)
 have ff := c5.keptA b5 c2.symm
 have fg := c6.keptA b5 habv
 have fh := zE c2.symm b6 c5.lt
 have c8 := zN habv b6 c6.lt
 have fi : Lo w (inS b bu bv) ax.ownBlock := nI hlov b6 b3.size
 have f9 := la1 bs bm
 refine qD rfl (yU rfl) (qD rfl (zK (k := 1) rfl dI rfl nz48 rfl) (q0 rfl rfl rfl (o_stp (cs' := [ae, ax]) (us := [ax]) (v := ax) sz48 rfl rfl (tD b4.one) (yO b4.one) c7.pins fg (dZ rfl) rfl (fun ga c9 fj b7 gb => ?_))))
 have fk := c7.write fj b7 (hlob)
 have da := ff.keptA b7 b0.symm
 have fl := b4.keptA b7 c8.symm
 refine qe (zA (zB (zC ?_)))
 refine qM (vP b) ?_
 refine qD rfl (yU rfl) (qD rfl (zK (k := 0) rfl dI rfl nz24 rfl) (qD rfl (zL (u := ae) ag24 rfl (c9.cell (o := 0) rfl)) (qD rfl (zP dC (v := ae) rfl da.read) (qD rfl (qC rfl rfl (by omega)) (qM (vJ (((ns ++ ([(⟨ls, rs⟩ : Nd)])).length : Int) - 1)) ?_)))))
 refine qe (zA ?_)
 refine wp_ret (zO (zQ (v := (vJ (((ns ++ ([(⟨ls, rs⟩ : Nd)])).length : Int) - 1))) rfl rfl rfl ?_))
 have hf : findK ns bs (putNd xs ys) (putBorn bs xs ys) = none := by rw [e1, e2]; exact find_none (by omega) hp
 have eN : putN ns bs xs ys = ns ++ [⟨ls, rs⟩] := by unfold putN; rw [hf, e1]
 have eB : putB ns bs xs ys = bs ++ [bm] := by unfold putB; rw [hf, e2]
 refine ⟨ae, ax, _, congrArg (fun z => Ending.returned (Value.int .i64 z)) (by unfold putK; rw [hf]; simp), ?_, fk, e5, fi⟩
 rw [eN, eB]
 exact ⟨c9, da, fl, b0, c8, fh⟩
end D1
end Go.Proofs.YtjdchbdfohiaaaaGreatDoor
