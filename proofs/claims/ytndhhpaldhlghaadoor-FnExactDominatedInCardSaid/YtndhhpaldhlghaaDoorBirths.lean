/- Plain lemmas: births, and when a form is a book of itself. No program in sight. -/
import Derived.Test.YtndhhpaldhlghaaDoorOrder
namespace Go.GL
theorem set_getD_ne {α : Type} {l : List α} {i j : Nat} {x d : α} (h : i ≠ j) : (l.set i x).getD j d = l.getD j d := by
  simp [List.getD, List.getElem?_set_ne h]
theorem set_getD_eq {α : Type} {l : List α} {i : Nat} {x d : α} (h : i < l.length) : (l.set i x).getD i d = x := by
  simp [List.getD, h]
theorem born_congr {bs bs' : List Int} : ∀ {l : List Int} {b : Int}, (∀ k ∈ l, bs.getD k.toNat 0 = bs'.getD k.toNat 0) → bornOf bs l b = bornOf bs' l b
  | [], _, _ => rfl
  | k :: l, b, h => by
    unfold bornOf
    rw [List.foldl_cons, List.foldl_cons, h k List.mem_cons_self]
    exact born_congr (l := l) fun k hk => h k (List.mem_cons_of_mem _ hk)
theorem brow_eq {i : Nat} : ∀ {l b : List Int}, (∀ k ∈ l, 0 ≤ k ∧ k < i) → i < b.length → brow i b l = b.set i (bornOf b l (b.getD i 0))
  | [], b, _, hi => by
    have e : b.getD i 0 = b[i] := by simp [List.getD, hi]
    simp only [brow, bornOf, List.foldl_nil, e, List.set_getElem_self]
  | k :: l, b, h, hi => by
    have hk := h k List.mem_cons_self
    have ih := brow_eq (i := i) (l := l) (b := bmax i b k) (fun k hk => h k (List.mem_cons_of_mem _ hk)) (by rw [bmax_length]; exact hi)
    unfold brow at ih ⊢
    rw [List.foldl_cons, ih]
    unfold bmax
    rw [List.set_set, set_getD_eq hi, born_congr (bs' := b) fun j hj => set_getD_ne (by have := h j (List.mem_cons_of_mem _ hj); omega)]
    rfl
/-- What births are. -/
def BirthsOf (ns : List Nd) (bs : List Int) : Prop := bs.length = ns.length ∧ ∀ k, k < ns.length → bs.getD k 0 = putBorn bs (ns.getD k default).l (ns.getD k default).r
theorem putBorn_congr {bs bs' l r : List Int} (hl : ∀ k ∈ l, bs.getD k.toNat 0 = bs'.getD k.toNat 0) (hr : ∀ k ∈ r, bs.getD k.toNat 0 = bs'.getD k.toNat 0) : putBorn bs l r = putBorn bs' l r := by
  unfold putBorn; rw [born_congr hl, born_congr hr]
theorem optsAt {ns : List Nd} (h : OptsOk ns) {k : Nat} (hk : k < ns.length) : (∀ o ∈ (ns.getD k default).l, 0 ≤ o ∧ o < k) ∧ (∀ o ∈ (ns.getD k default).r, 0 ≤ o ∧ o < k) :=
  h k _ (by simp [List.getD, hk])
theorem bgo_births {ns : List Nd} (ho : OptsOk ns) : ∀ (j : Nat) (b : List Int), j ≤ ns.length → b.length = ns.length → (∀ k, k < j → b.getD k 0 = putBorn b (ns.getD k default).l (ns.getD k default).r) → (∀ k, j ≤ k → b.getD k 0 = 0) →
    BirthsOf ns (bgo j (ns.drop j) b) := by
  intro j b hj hb h1 h2
  by_cases he : j = ns.length
  · subst he
    rw [bgo_end (Nat.le_refl _)]
    exact ⟨hb, h1⟩
  · have hj' : j < ns.length := by omega
    rw [bgo_next hj']
    have o := optsAt ho hj'
    have e : brow j (brow j b (ns.getD j default).l) (ns.getD j default).r = b.set j (putBorn b (ns.getD j default).l (ns.getD j default).r) := by
      rw [brow_eq o.1 (by omega), brow_eq o.2 (by simp; omega), List.set_set, set_getD_eq (by omega), h2 j (Nat.le_refl _)]
      rw [born_congr (bs := b.set j _) (bs' := b) fun k hk => set_getD_ne (by have := o.2 k hk; omega)]
      rfl
    rw [e]
    refine bgo_births ho (j + 1) _ hj' (by simp [hb]) (fun k hk => ?_) (fun k hk => ?_)
    · have o' := optsAt ho (k := k) (by omega)
      rw [putBorn_congr (bs := b.set j _) (bs' := b) (fun q hq => set_getD_ne (by have := o'.1 q hq; omega)) (fun q hq => set_getD_ne (by have := o'.2 q hq; omega))]
      by_cases hkj : k = j
      · subst hkj; rw [set_getD_eq (by omega)]
      · rw [set_getD_ne (by omega)]; exact h1 k (by omega)
    · rw [set_getD_ne (by omega)]; exact h2 k (by omega)
termination_by j _ _ => ns.length - j
theorem births_of {ns : List Nd} (ho : OptsOk ns) : BirthsOf ns (births ns) := by
  have := bgo_births ho 0 (List.replicate ns.length 0) (Nat.zero_le _) (by simp) (fun k hk => absurd hk (Nat.not_lt_zero k)) (fun k _ => by simp [List.getD, List.getElem?_replicate]; split <;> rfl)
  exact this

/-! ### lists that a form has itself -/
def idx (k : Nat) : List Int := (List.range k).map Int.ofNat
theorem idx_getD {k i : Nat} (h : i < k) : (idx k).getD i 0 = i := by simp [idx, List.getD, h]
theorem idx_length (k : Nat) : (idx k).length = k := by simp [idx]
theorem idx_succ (k : Nat) : idx (k + 1) = idx k ++ [(k : Int)] := by simp [idx, List.range_succ]
theorem atL_id {a l : List Int} (h : ∀ o ∈ l, 0 ≤ o ∧ a.getD o.toNat 0 = o) : atL a l = l := by
  unfold atL
  conv => rhs; rw [← List.map_id l]
  exact List.map_congr_left fun o ho => (h o ho).2
theorem rise_cons {x : Int} {r : List Int} {lo hi : Int} (h : Rise (x :: r) lo hi) : Rise r lo hi ∧ ∀ k ∈ r, x < k := by
  have h1 : Rise r lo hi := fun i hi => by
    have h2 := h (i + 1) (by simp; omega)
    have e : (x :: r).getD (i + 1) 0 = r.getD i 0 := by simp [List.getD]
    rw [e] at h2
    refine ⟨h2.1, fun h0 => ?_⟩
    have h3 := h2.2 (by omega)
    match i with
    | 0 => omega
    | i + 1 => simpa [List.getD] using h3
  refine ⟨h1, mem_of_getD fun i => ?_⟩
  induction i with
  | zero => intro hi; have := (h 1 (by simp; omega)).2 (by omega); simpa [List.getD] using this
  | succ i ih => intro hi; have h3 := (h1 (i + 1) hi).2 (by omega); have := ih (by omega); simp only [Nat.add_sub_cancel] at h3; omega
theorem putL_end {l : List Int} {n : Int} (h : ∀ k ∈ l, k < n) : putL l n = l ++ [n] := by
  induction l with
  | nil => rfl
  | cons x r ih => unfold putL; rw [if_pos (h x List.mem_cons_self), ih fun k hk => h k (List.mem_cons_of_mem _ hk)]; rfl
theorem sort_rise {lo hi : Int} : ∀ {l : List Int}, Rise l lo hi → sortL l = l := by
  have key : ∀ (l a : List Int), Rise l lo hi → (∀ x ∈ a, ∀ y ∈ l, x < y) → l.foldl putL a = a ++ l := by
    intro l
    induction l with
    | nil => intro a _ _; simp
    | cons x r ih =>
      intro a hr ha
      have hc := rise_cons hr
      rw [List.foldl_cons, putL_end fun k hk => ha k hk x List.mem_cons_self, ih _ hc.1 ?_, List.append_assoc]
      · rfl
      · intro k hk y hy
        rw [List.mem_append, List.mem_singleton] at hk
        rcases hk with hk | hk
        · exact ha k hk y (List.mem_cons_of_mem _ hy)
        · subst hk; exact hc.2 y hy
  intro l h
  have := key l [] h (fun x hx => by cases hx)
  simpa [sortL] using this
end Go.GL
