/- Plain lemmas: what the form at a place holds. No program in sight. -/
import Derived.Test.YtndhhpaldhlghaaDoorSelf
namespace Go.GL
/-! ### placing -/
theorem place_out : ∀ {l : List Nd} {f a : List Int} {o : List Nd}, l.length = f.length → (placeM l f a o).2 = o ++ l
  | [], [], a, o, _ => by simp [placeM]
  | x :: l, k :: f, a, o, h => by
    rw [placeM, place_out (by simpa using h)]; simp
theorem place_len : ∀ {l : List Nd} {f a : List Int} {o : List Nd}, (placeM l f a o).1.length = a.length
  | [], _, a, o => by simp [placeM]
  | x :: l, [], a, o => by simp [placeM]
  | x :: l, k :: f, a, o => by rw [placeM, place_len]; simp
theorem place_other : ∀ {l : List Nd} {f a : List Int} {o : List Nd} {z : Nat}, (∀ k ∈ f, k.toNat ≠ z) → (placeM l f a o).1.getD z 0 = a.getD z 0
  | [], _, a, o, z, _ => by simp [placeM]
  | x :: l, [], a, o, z, _ => by simp [placeM]
  | x :: l, k :: f, a, o, z, h => by
    rw [placeM, place_other fun q hq => h q (List.mem_cons_of_mem _ hq), set_getD_ne (h k List.mem_cons_self)]
theorem place_at : ∀ {l : List Nd} {f a : List Int} {o : List Nd} {i : Nat}, l.length = f.length → f.Nodup → (∀ k ∈ f, 0 ≤ k ∧ k < a.length) → i < f.length → (placeM l f a o).1.getD (f.getD i 0).toNat 0 = o.length + i
  | [], [], _, _, i, _, _, _, hi => by simp at hi
  | x :: l, k :: f, a, o, i, h, hn, hb, hi => by
    rw [placeM]
    have hk := hb k List.mem_cons_self
    have hn' := List.nodup_cons.1 hn
    have hb' : ∀ q ∈ f, 0 ≤ q ∧ q < (a.set k.toNat (o.length : Int)).length := fun q hq => by rw [List.length_set]; exact hb q (List.mem_cons_of_mem _ hq)
    match i with
    | 0 =>
      have e : (k :: f).getD 0 0 = k := rfl
      rw [e, place_other, set_getD_eq (by omega)]
      · simp
      · intro q hq he
        have := hb q (List.mem_cons_of_mem _ hq)
        have : q = k := by omega
        subst this; exact hn'.1 hq
    | i + 1 =>
      have e : (k :: f).getD (i + 1) 0 = f.getD i 0 := by simp [List.getD]
      rw [e, place_at (by simpa using h) hn'.2 hb' (by simpa using hi)]
      simp; omega

/-! ### inserting -/
theorem ins_cons {x y : Nd} {r : List Nd} : insM (y :: r) (posM (y :: r) x) x = if aheadI y x < 0 then y :: insM r (posM r x) x else x :: y :: r := by
  rw [posM]
  split
  · simp [insM]
  · simp [insM]
theorem ahead_le_trans {a b c : Nd} (h : aheadI a b ≤ 0) (k : aheadI b c ≤ 0) : aheadI a c ≤ 0 := by
  by_cases h0 : aheadI a b = 0
  · rw [ahead_zero.1 h0]; exact k
  · by_cases k0 : aheadI b c = 0
    · rw [← ahead_zero.1 k0]; exact h
    · have := ahead_trans (show aheadI a b < 0 by omega) (show aheadI b c < 0 by omega); omega
theorem ins_sorted {x : Nd} : ∀ {l : List Nd}, l.Pairwise (fun a b => aheadI a b ≤ 0) → (insM l (posM l x) x).Pairwise (fun a b => aheadI a b ≤ 0)
  | [], _ => by simp [insM, posM]
  | y :: r, h => by
    have hc := List.pairwise_cons.1 h
    rw [ins_cons]
    split
    · rename_i hy
      refine List.pairwise_cons.2 ⟨fun z hz => ?_, ins_sorted hc.2⟩
      rcases mem_ins.1 hz with hz | hz
      · subst hz; omega
      · exact hc.1 z hz
    · rename_i hy
      have hxy : aheadI x y ≤ 0 := by have := ahead_neg x y; omega
      refine List.pairwise_cons.2 ⟨fun z hz => ?_, h⟩
      cases hz with
      | head => exact hxy
      | tail _ hz => exact ahead_le_trans hxy (hc.1 z hz)
theorem pos_le {l : List Nd} {x : Nd} : posM l x ≤ l.length := by
  induction l with
  | nil => simp [posM]
  | cons y r ih => rw [posM]; split <;> simp; exact ih

/-! ### levels -/
def ndz (ns : List Nd) (a : List Int) (z : Int) : Nd := ndAt a (ns.getD z.toNat default)
structure LvOk (ns : List Nd) (bs : List Int) (need : List Bool) (a : List Int) (b : Int) (k : Nat) (s : List Nd × List Int) : Prop where
  map : s.1 = s.2.map (ndz ns a)
  mem : ∀ z ∈ s.2, 0 ≤ z ∧ z < k ∧ need.getD z.toNat false = true ∧ bs.getD z.toNat 0 = b
  all : ∀ j, j < k → need.getD j false = true → bs.getD j 0 = b → (j : Int) ∈ s.2
  nodup : s.2.Nodup
  sorted : s.1.Pairwise (fun x y => aheadI x y ≤ 0)
  count : s.2.length = (List.range k).countP fun j => need.getD j false && decide (bs.getD j 0 = b)
theorem ins_map {α β : Type} (f : α → β) (l : List α) (i : Nat) (x : α) : (insM l i x).map f = insM (l.map f) i (f x) := by simp [insM]
theorem ins_nodup {l : List Int} {i : Nat} {x : Int} (h : l.Nodup) (hx : x ∉ l) : (insM l i x).Nodup := by
  have hp : (insM l i x).Perm (x :: l) := by
    unfold insM
    have h1 : (l.take i ++ [x] ++ l.drop i).Perm ([x] ++ l.take i ++ l.drop i) := (List.perm_append_comm).append_right _
    simpa using h1
  exact hp.nodup_iff.2 (List.nodup_cons.2 ⟨hx, h⟩)
theorem lv_ok {ns : List Nd} {bs : List Int} {need : List Bool} {a : List Int} {b : Int} : ∀ k, LvOk ns bs need a b k (lvM ns bs need a b k) := by
  intro k
  induction k with
  | zero => exact ⟨rfl, fun z hz => (by cases hz), fun j hj => absurd hj (Nat.not_lt_zero j), List.nodup_nil, List.Pairwise.nil, rfl⟩
  | succ k ih =>
    rw [lv_next]
    unfold lvStep
    by_cases hc : need.getD k false = true ∧ bs.getD k 0 = b
    · rw [if_pos hc]
      have hnew : (k : Int) ∉ (lvM ns bs need a b k).2 := fun hm => by have := ih.mem _ hm; omega
      have hlen : (lvM ns bs need a b k).1.length = (lvM ns bs need a b k).2.length := by rw [ih.map]; simp
      refine ⟨?_, fun z hz => ?_, fun j hj h1 h2 => ?_, ins_nodup ih.nodup hnew, ins_sorted ih.sorted, ?_⟩
      · rw [ins_map, ← ih.map]; rfl
      · rcases mem_ins.1 hz with hz | hz
        · subst hz; exact ⟨by omega, by omega, by simpa using hc.1, by simpa using hc.2⟩
        · have := ih.mem z hz; exact ⟨this.1, by omega, this.2.2⟩
      · by_cases he : j = k
        · subst he; exact mem_ins.2 (Or.inl rfl)
        · exact mem_ins.2 (Or.inr (ih.all j (by omega) h1 h2))
      · rw [ins_length (by have := pos_le (l := (lvM ns bs need a b k).1) (x := ndAt a (ns.getD k default)); omega), ih.count, List.range_succ, List.countP_append]
        have : (need.getD k false && decide (bs.getD k 0 = b)) = true := by rw [hc.1, decide_eq_true hc.2]; rfl
        simp only [List.countP_cons, List.countP_nil, this]; simp
    · rw [if_neg hc]
      refine ⟨ih.map, fun z hz => ?_, fun j hj h1 h2 => ?_, ih.nodup, ih.sorted, ?_⟩
      · have := ih.mem z hz; exact ⟨this.1, by omega, this.2.2⟩
      · by_cases he : j = k
        · subst he; exact absurd ⟨h1, h2⟩ hc
        · exact ih.all j (by omega) h1 h2
      · rw [ih.count, List.range_succ, List.countP_append]
        have : (need.getD k false && decide (bs.getD k 0 = b)) = false := by
          cases hn : need.getD k false with
          | false => rfl
          | true => simp only [Bool.true_and]; exact decide_eq_false fun h2 => hc ⟨hn, h2⟩
        simp only [List.countP_cons, List.countP_nil, this]; simp
end Go.GL
