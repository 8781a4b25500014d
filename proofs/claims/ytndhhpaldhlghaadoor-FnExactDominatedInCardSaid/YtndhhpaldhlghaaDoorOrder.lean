/- Plain lemmas: the order of lists and of nodes, births. No program in sight. -/
import Derived.Test.YtndhhpaldhlghaaDoorBook
namespace Go.GL
theorem cmpI_lt {x y : Int} : cmpI x y < 0 ↔ x < y := by unfold cmpI; split <;> (try split) <;> omega
theorem cmpI_zero {x y : Int} : cmpI x y = 0 ↔ x = y := by unfold cmpI; split <;> (try split) <;> omega
theorem cmpI_neg (x y : Int) : cmpI x y = - cmpI y x := by unfold cmpI; split <;> split <;> (try split) <;> omega
theorem cmpL_zero : ∀ {a b : List Int}, cmpL a b = 0 ↔ a = b
  | [], [] => by simp [cmpL]
  | [], _ :: _ => by simp [cmpL]
  | _ :: _, [] => by simp [cmpL]
  | x :: a, y :: b => by
    unfold cmpL
    have h := cmpI_zero (x := x) (y := y)
    split
    · rename_i h1
      constructor
      · intro h2; exact absurd h2 h1
      · intro h2; cases h2; exact absurd (h.2 rfl) h1
    · rename_i h1
      have h2 := h.1 (Decidable.not_not.1 h1)
      subst h2
      rw [cmpL_zero]; simp
theorem cmpL_neg : ∀ (a b : List Int), cmpL a b = - cmpL b a
  | [], [] => rfl
  | [], _ :: _ => rfl
  | _ :: _, [] => rfl
  | x :: a, y :: b => by
    unfold cmpL
    have h := cmpI_neg x y
    split <;> split <;> first | omega | exact cmpL_neg a b
theorem cmpL_trans : ∀ {a b c : List Int}, cmpL a b < 0 → cmpL b c < 0 → cmpL a c < 0
  | [], [], _, h, _ => by simp [cmpL] at h
  | _ :: _, [], _, h, _ => by simp [cmpL] at h
  | [], _ :: _, [], _, h => by simp [cmpL] at h
  | _ :: _, _ :: _, [], _, h => by simp [cmpL] at h
  | [], _ :: _, _ :: _, _, _ => by simp [cmpL]
  | x :: a, y :: b, z :: c, h, k => by
    unfold cmpL at h k ⊢
    have h1 := cmpI_lt (x := x) (y := y); have h2 := cmpI_lt (x := y) (y := z); have h3 := cmpI_lt (x := x) (y := z)
    have h4 := cmpI_zero (x := x) (y := y); have h5 := cmpI_zero (x := y) (y := z); have h6 := cmpI_zero (x := x) (y := z)
    by_cases e1 : cmpI x y = 0
    · have := h4.1 e1; subst this
      rw [if_neg (by omega)] at h
      by_cases e2 : cmpI x z = 0
      · have := h6.1 e2; subst this
        rw [if_neg (by omega)] at k ⊢
        exact cmpL_trans h k
      · rw [if_pos e2] at k ⊢; exact k
    · rw [if_pos e1] at h
      by_cases e2 : cmpI y z = 0
      · have := h5.1 e2; subst this
        rw [if_pos e1]; exact h
      · rw [if_pos e2] at k
        have : x < z := by have := h1.1 h; have := h2.1 k; omega
        have := h3.2 this
        rw [if_pos (by omega)]; exact this
theorem ahead_lt {a b : Nd} : aheadI a b < 0 ↔ cmpL a.l b.l < 0 ∨ (cmpL a.l b.l = 0 ∧ cmpL a.r b.r < 0) := by
  by_cases h : cmpL a.l b.l = 0
  · rw [ahead_right h]; omega
  · rw [ahead_left h]; omega
theorem ahead_zero {a b : Nd} : aheadI a b = 0 ↔ a = b := by
  by_cases h : cmpL a.l b.l = 0
  · rw [ahead_right h, cmpL_zero]
    have := cmpL_zero.1 h
    constructor
    · intro h2; exact nd_ext this h2
    · intro h2; rw [h2]
  · rw [ahead_left h]
    constructor
    · intro h2; exact absurd h2 h
    · intro h2; subst h2; exact absurd (cmpL_zero.2 rfl) h
theorem ahead_neg (a b : Nd) : aheadI a b = - aheadI b a := by
  have h1 := cmpL_neg a.l b.l; have h2 := cmpL_neg a.r b.r
  by_cases h : cmpL a.l b.l = 0
  · rw [ahead_right h, ahead_right (by omega)]; exact h2
  · rw [ahead_left h, ahead_left (by omega)]; exact h1
theorem ahead_trans {a b c : Nd} (h : aheadI a b < 0) (k : aheadI b c < 0) : aheadI a c < 0 := by
  rw [ahead_lt] at h k ⊢
  rcases h with h | ⟨h, h'⟩ <;> rcases k with k | ⟨k, k'⟩
  · exact Or.inl (cmpL_trans h k)
  · have := cmpL_zero.1 k; rw [← this]; exact Or.inl h
  · have := cmpL_zero.1 h; rw [this]; exact Or.inl k
  · have e1 := cmpL_zero.1 h; have e2 := cmpL_zero.1 k
    exact Or.inr ⟨cmpL_zero.2 (e1.trans e2), cmpL_trans h' k'⟩
theorem orL2 {x y : Int} : orL [x, y] < 0 ↔ x < 0 ∨ (x = 0 ∧ y < 0) := by
  unfold orL; split
  · omega
  · unfold orL; split
    · omega
    · unfold orL; omega
theorem pair_lt {ns : List Nd} {bs : List Int} {i : Nat} : pairC ns bs i < 0 ↔ bs.getD (i - 1) 0 < bs.getD i 0 ∨ (bs.getD (i - 1) 0 = bs.getD i 0 ∧ aheadI (ns.getD (i - 1) default) (ns.getD i default) < 0) := by
  unfold pairC aheadI
  rw [orL]
  have h1 := cmpI_lt (x := bs.getD (i - 1) 0) (y := bs.getD i 0)
  have h2 := cmpI_zero (x := bs.getD (i - 1) 0) (y := bs.getD i 0)
  split
  · rename_i h
    constructor
    · intro h3; exact Or.inl (h1.1 h3)
    · rintro (h3 | h3)
      · exact h1.2 h3
      · exact absurd (h2.2 h3.1) h
  · rename_i h
    have h3 := h2.1 (Decidable.not_not.1 h)
    constructor
    · intro h4; exact Or.inr ⟨h3, h4⟩
    · rintro (h4 | h4)
      · omega
      · exact h4.2

/-! ### good options are rising ones -/
theorem goodFrom_iff {b : Int} : ∀ {l : List Int} {last : Int}, goodFrom last b l = true ↔ (∀ i, i < l.length → (last < l.getD i 0 ∧ l.getD i 0 < b) ∧ (0 < i → l.getD (i - 1) 0 < l.getD i 0))
  | [], last => by simp [goodFrom]
  | x :: r, last => by
    unfold goodFrom
    have ih := goodFrom_iff (b := b) (l := r) (last := x)
    split
    · rename_i h
      constructor
      · intro h2; cases h2
      · intro h2; have := h2 0 (by simp); simp [List.getD] at this; omega
    · rename_i h
      rw [ih]
      constructor
      · intro h2 i hi
        match i with
        | 0 => simp [List.getD]; omega
        | i + 1 =>
          have h3 := h2 i (by simpa using hi)
          have e : (x :: r).getD (i + 1) 0 = r.getD i 0 := by simp [List.getD]
          rw [e]
          refine ⟨by omega, fun _ => ?_⟩
          match i with
          | 0 => simp only [Nat.zero_add, Nat.sub_self]; simp [List.getD] at h3 ⊢; omega
          | i + 1 => have := h3.2 (by omega); simpa [List.getD] using this
      · intro h2 i hi
        have h3 := h2 (i + 1) (by simpa using hi)
        have e : (x :: r).getD (i + 1) 0 = r.getD i 0 := by simp [List.getD]
        rw [e] at h3
        have key : ∀ j, j < r.length → x < r.getD j 0 := by
          intro j
          induction j with
          | zero => intro hj; have := (h2 1 (by simpa using hj)).2 (by omega); simpa [List.getD] using this
          | succ j ihj => intro hj; have := (h2 (j + 2) (by simp; omega)).2 (by omega); have := ihj (by omega); simp [List.getD] at *; omega
        refine ⟨⟨key i hi, h3.1.2⟩, fun h0 => ?_⟩
        have h4 := h3.2 (by omega)
        match i with
        | 0 => omega
        | i + 1 => simpa [List.getD] using h4
theorem goodOpts_iff {l : List Int} {b : Int} : goodOpts l b = true ↔ l.length ≤ 24 ∧ Rise l 0 (b - 1) := by
  unfold goodOpts
  split
  · constructor
    · intro h; cases h
    · intro h; omega
  · rw [goodFrom_iff]
    constructor
    · intro h; exact ⟨by omega, fun i hi => by have := h i hi; omega⟩
    · intro h i hi; have := h.2 i hi; omega
end Go.GL
