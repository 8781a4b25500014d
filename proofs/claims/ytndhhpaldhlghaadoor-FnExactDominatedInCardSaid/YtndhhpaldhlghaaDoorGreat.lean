/- The greatest of some games. -/
import Derived.Test.YtndhhpaldhlghaaDoorLoad
namespace Go.GL
open Go Go.RowKit
/-- Game i is beaten by game k. -/
def grP (g : Nat → Nat) (i k : Nat) : Prop := (k : Int) ≠ (i : Int) ∧ geG (g k) (g i) ∧ ((k : Int) < (i : Int) ∨ ¬ geG (g i) (g k))
noncomputable def grB (g : Nat → Nat) (i n : Nat) : Bool := decP (∀ k, k < n → ¬ grP g i k)
noncomputable def grL (g : Nat → Nat) (n : Nat) : Nat → List Int
  | 0 => []
  | i + 1 => if grB g i n = true then grL g n i ++ [(i : Int)] else grL g n i
theorem gr_start {g : Nat → Nat} {i : Nat} : true = grB g i 0 := (decP_true.2 fun k hk => absurd hk (Nat.not_lt_zero k)).symm
theorem gr_no {g : Nat → Nat} {i j : Nat} {b : Bool} (h : b = grB g i j) (hn : ¬ grP g i j) : b = grB g i (j + 1) := by
  rw [h]
  exact decP_iff ⟨fun f k hk => by
    by_cases he : k = j
    · exact he ▸ hn
    · exact f k (by omega), fun f k hk => f k (by omega)⟩
theorem gr_yes {g : Nat → Nat} {i j : Nat} (hy : grP g i j) : false = grB g i (j + 1) := (decP_false.2 fun f => f j (Nat.lt_succ_self j) hy).symm
theorem gr_take {g : Nat → Nat} {i n : Nat} (h : true = grB g i n) : grL g n (i + 1) = grL g n i ++ [(i : Int)] := if_pos h.symm
theorem gr_leave {g : Nat → Nat} {i n : Nat} {b : Bool} (h : b = grB g i n) (hb : b = false) : grL g n (i + 1) = grL g n i := if_neg (by rw [← h, hb]; exact Bool.false_ne_true)
theorem gr_len {g : Nat → Nat} {n : Nat} : ∀ i, (grL g n i).length ≤ i
  | 0 => Nat.le_refl 0
  | i + 1 => by
    have := gr_len (g := g) (n := n) i
    unfold grL
    split
    · rw [List.length_append, List.length_singleton]; omega
    · omega
theorem gr_congr {g h : Nat → Nat} {n : Nat} (e : ∀ k, k < n → g k = h k) : ∀ i, i ≤ n → grL g n i = grL h n i
  | 0, _ => rfl
  | i + 1, hi => by
    have hb : grB g i n = grB h i n := decP_iff ⟨fun f k hk p => f k hk (by unfold grP at p ⊢; rw [e k hk, e i (by omega)]; exact p), fun f k hk p => f k hk (by unfold grP at p ⊢; rw [← e k hk, ← e i (by omega)]; exact p)⟩
    unfold grL
    rw [hb, gr_congr e i (by omega)]
/-- The game of the k-th form. -/
def gF (fs : List (List Nd)) (k : Nat) : Nat := gOf (fs.getD k [])
def AllG (fs : List (List Nd)) : Prop := ((fs.length : Int) ≤ 24) ∧ ∀ i, i < fs.length → GoodS (fs.getD i [])
/-- What GreatestOf tells. -/
noncomputable def grF (fs : List (List Nd)) : List Int := if decP (AllG fs) = true then grL (gF fs) fs.length fs.length else []
theorem gr_bad {fs : List (List Nd)} (h : decP (AllG fs) = false) : grF fs = [] := if_neg (by rw [h]; exact Bool.false_ne_true)
theorem gr_good {fs : List (List Nd)} (h : AllG fs) : grF fs = grL (gF fs) fs.length fs.length := if_pos (decP_true.2 h)
theorem AllG.good {fs : List (List Nd)} (h : AllG fs) {i : Nat} (hi : i < fs.length) : GoodP (fs.getD i []) := goodB_true.1 ((good_eq _).symm.trans (decP_true.2 (h.2 i hi)))
theorem AllG.form {fs : List (List Nd)} (h : AllG fs) {i : Nat} (hi : i < fs.length) : FormOk (fs.getD i []) ∧ 1 ≤ (fs.getD i []).length := ⟨good_form (h.good hi), (h.good hi).lo⟩
theorem grF_len {fs : List (List Nd)} : (grF fs).length ≤ 24 := by
  by_cases h : decP (AllG fs) = true
  · rw [gr_good (decP_true.1 h)]
    have := gr_len (g := gF fs) (n := fs.length) fs.length
    have := (decP_true.1 h).1
    omega
  · rw [gr_bad (Bool.eq_false_iff.2 h)]; exact Nat.zero_le _
/-- The forms that roots has taken. -/
structure RtOk (fs : List (List Nd)) (q q2 : PSt) (k : Nat) (zs : List Int) : Prop where
  len : zs.length = k
  hi : q2.ns.length ≤ q.ns.length + 120 * k
  good : ∀ i, i < k → GoodP (fs.getD i [])
  pl : ∀ i, i < k → PlaceOk q2 (zs.getD i 0) ∧ pd q2 (zs.getD i 0) = gF fs i
theorem RtOk.start {fs : List (List Nd)} {q : PSt} : RtOk fs q q 0 [] := ⟨rfl, Nat.le_refl _, fun i hi => absurd hi (Nat.not_lt_zero i), fun i hi => absurd hi (Nat.not_lt_zero i)⟩
theorem RtOk.step {fs : List (List Nd)} {q q2 q3 : PSt} {k : Nat} {zs : List Int} {z : Int} (h : RtOk fs q q2 k zs) (hg : GoodP (fs.getD k [])) (hq : PoolOk q2) (hq' : PoolOk q3) (hx : PX q2 q3) (hz : PlaceOk q3 z)
    (hd : pd q3 z = gOf (fs.getD k [])) (hn : q3.ns.length ≤ q2.ns.length + (fs.getD k []).length) : RtOk fs q q3 (k + 1) (zs ++ [z]) := by
  refine ⟨by rw [List.length_append, h.len]; rfl, by have := h.hi; have := hg.hi; omega, fun i hi => ?_, fun i hi => ?_⟩
  · by_cases he : i = k
    · exact he ▸ hg
    · exact h.good i (by omega)
  · by_cases he : i = k
    · subst he
      have e : (zs ++ [z]).getD i 0 = z := by rw [← h.len]; simp [List.getD]
      rw [e]; exact ⟨hz, hd⟩
    · have hi' : i < k := by omega
      have e : (zs ++ [z]).getD i 0 = zs.getD i 0 := by simp [List.getD, List.getElem?_append_left (show i < zs.length by rw [h.len]; exact hi')]
      rw [e]
      have := h.pl i hi'
      exact ⟨hx.place this.1, (hx.pd hq hq' this.1).trans this.2⟩
theorem RtOk.same {fs : List (List Nd)} {q q2 q3 : PSt} {k : Nat} {zs : List Int} (h : RtOk fs q q2 k zs) (hn : q3.ns = q2.ns ∧ q3.bs = q2.bs) {i : Nat} (hi : i < k) : PlaceOk q3 (zs.getD i 0) := (h.pl i hi).1.same hn
theorem RtOk.ge {fs : List (List Nd)} {q q2 q3 : PSt} {k : Nat} {zs : List Int} (h : RtOk fs q q2 k zs) (hn : q3.ns = q2.ns ∧ q3.bs = q2.bs) {i j : Nat} (hi : i < k) (hj : j < k) : geB q3.ns (zs.getD i 0) (zs.getD j 0) = decP (geG (gF fs i) (gF fs j)) := by
  rw [hn.1, ← (h.pl i hi).2, ← (h.pl j hj).2]; rfl
theorem all_good {fs : List (List Nd)} (hl : fs.length ≤ 24) (h : ∀ i, i < fs.length → GoodP (fs.getD i [])) : AllG fs :=
  ⟨by omega, fun i hi => decP_true.1 ((good_eq _).trans (goodB_true.2 (h i hi)))⟩
theorem all_bad {fs : List (List Nd)} {i : Nat} (hi : i < fs.length) (h : goodB (fs.getD i []) = false) : decP (AllG fs) = false := decP_false.2 fun g => by
  have := goodB_true.2 (g.good hi); rw [h] at this; cases this
theorem all_long {fs : List (List Nd)} (h : 24 < fs.length) : decP (AllG fs) = false := decP_false.2 fun g => by have := g.1; omega
end Go.GL
