/- Plain lemmas on lists and numbers: no program in sight. -/
namespace Go.GL
/-- A node: its left and its right options. -/
structure Nd where
  l : List Int
  r : List Int
deriving DecidableEq, Inhabited, Repr
def szInts (xs : List Int) (left : Int) : Int := if left < xs.length then -1 else left - xs.length
theorem eqstep {xs ys : List Int} {j : Nat} (hp : ∀ i, i < j → xs.getD i 0 = ys.getD i 0) (h : ¬ (xs.getD j 0 ≠ ys.getD j 0)) : ∀ i, i < j + 1 → xs.getD i 0 = ys.getD i 0 := fun i hi => by
  by_cases he : i = j
  · subst he; exact Decidable.not_not.1 h
  · exact hp i (by omega)
theorem eqdone {xs ys : List Int} {j : Nat} (hl : xs.length = ys.length) (hj : xs.length ≤ j) (hp : ∀ i, i < j → xs.getD i 0 = ys.getD i 0) : xs = ys := by
  apply List.ext_getElem hl
  intro i h1 h2
  have := hp i (by omega)
  simpa [List.getD, h1, h2] using this
end Go.GL
namespace Go.GL
theorem drop_getD {α : Type} (l : List α) (d : α) {j : Nat} (h : j < l.length) : l.drop j = l.getD j d :: l.drop (j + 1) := by
  rw [List.drop_eq_getElem_cons h]; simp [List.getD, h]
theorem getD_mem {α : Type} {l : List α} {d : α} {j : Nat} (h : j < l.length) : l.getD j d ∈ l := by simp [List.getD, h]

/-! ### goodOptions -/
def goodFrom : Int → Int → List Int → Bool
  | _, _, [] => true
  | last, below, i :: r => if i ≤ last ∨ below ≤ i then false else goodFrom i below r
def goodOpts (l : List Int) (below : Int) : Bool := if 24 < (l.length : Int) then false else goodFrom (-1) below l
theorem goodFrom_bad {last below : Int} {l : List Int} {j : Nat} (h : j < l.length) (hb : l.getD j 0 ≤ last ∨ below ≤ l.getD j 0) : goodFrom last below (l.drop j) = false := by
  rw [drop_getD l 0 h, goodFrom, if_pos hb]
theorem goodFrom_next {last below : Int} {l : List Int} {j : Nat} (h : j < l.length) (h1 : ¬ l.getD j 0 ≤ last) (h2 : ¬ below ≤ l.getD j 0) : goodFrom last below (l.drop j) = goodFrom (l.getD j 0) below (l.drop (j + 1)) := by
  rw [drop_getD l 0 h, goodFrom, if_neg (by omega)]
theorem goodFrom_end {last below : Int} {l : List Int} {j : Nat} (h : l.length ≤ j) : goodFrom last below (l.drop j) = true := by
  rw [List.drop_eq_nil_of_le h]; rfl
end Go.GL
namespace Go.GL
/-! ### comparing -/
def cmpI (x y : Int) : Int := if x < y then -1 else if y < x then 1 else 0
def cmpL : List Int → List Int → Int
  | [], [] => 0
  | [], _ :: _ => -1
  | _ :: _, [] => 1
  | x :: a, y :: b => if cmpI x y ≠ 0 then cmpI x y else cmpL a b
def orL : List Int → Int
  | [] => 0
  | x :: r => if x ≠ 0 then x else orL r
def idxFrom (v : Bool) : Int → List Bool → Int
  | _, [] => -1
  | i, x :: r => if v = x then i else idxFrom v (i + 1) r
def idxB (l : List Bool) (v : Bool) : Int := idxFrom v 0 l
theorem cmpL_more {a b : List Int} {j : Nat} (ha : j < a.length) (hb : b.length ≤ j) : cmpL (a.drop j) (b.drop j) = 1 := by
  rw [drop_getD a 0 ha, List.drop_eq_nil_of_le hb]; rfl
theorem cmpL_ne {a b : List Int} {j : Nat} (ha : j < a.length) (hb : j < b.length) (h : cmpI (a.getD j 0) (b.getD j 0) ≠ 0) : cmpL (a.drop j) (b.drop j) = cmpI (a.getD j 0) (b.getD j 0) := by
  rw [drop_getD a 0 ha, drop_getD b 0 hb, cmpL, if_pos h]
theorem cmpL_eq {a b : List Int} {j : Nat} (ha : j < a.length) (hb : j < b.length) (h : ¬ cmpI (a.getD j 0) (b.getD j 0) ≠ 0) : cmpL (a.drop j) (b.drop j) = cmpL (a.drop (j + 1)) (b.drop (j + 1)) := by
  rw [drop_getD a 0 ha, drop_getD b 0 hb, cmpL, if_neg h]
theorem cmpL_less {a b : List Int} {j : Nat} (ha : a.length ≤ j) (hb : j < b.length) : cmpL (a.drop j) (b.drop j) = -1 := by
  rw [List.drop_eq_nil_of_le ha, drop_getD b 0 hb]; rfl
theorem cmpL_same {a b : List Int} {j : Nat} (ha : a.length ≤ j) (hb : b.length ≤ j) : cmpL (a.drop j) (b.drop j) = 0 := by
  rw [List.drop_eq_nil_of_le ha, List.drop_eq_nil_of_le hb]; rfl
theorem orL_hit {l : List Int} {j : Nat} (h : j < l.length) (h1 : l.getD j 0 ≠ 0) : orL (l.drop j) = l.getD j 0 := by
  rw [drop_getD l 0 h, orL, if_pos h1]
theorem orL_next {l : List Int} {j : Nat} (h : j < l.length) (h1 : ¬ l.getD j 0 ≠ 0) : orL (l.drop j) = orL (l.drop (j + 1)) := by
  rw [drop_getD l 0 h, orL, if_neg h1]
theorem orL_end {l : List Int} {j : Nat} (h : l.length ≤ j) : orL (l.drop j) = 0 := by
  rw [List.drop_eq_nil_of_le h]; rfl
theorem idx_hit {l : List Bool} {v : Bool} {j : Nat} (h : j < l.length) (h1 : (v == l.getD j false) = true) : idxFrom v j (l.drop j) = j := by
  rw [drop_getD l false h, idxFrom, if_pos (by simpa using h1)]
theorem idx_next {l : List Bool} {v : Bool} {j : Nat} (h : j < l.length) (h1 : (v == l.getD j false) = false) : idxFrom v j (l.drop j) = idxFrom v ((j + 1 : Nat) : Int) (l.drop (j + 1)) := by
  rw [drop_getD l false h, idxFrom, if_neg (by simpa using h1)]; rfl
theorem idx_end {l : List Bool} {v : Bool} {j : Nat} (h : l.length ≤ j) : idxFrom v j (l.drop j) = -1 := by
  rw [List.drop_eq_nil_of_le h]; rfl

/-! ### births -/
def bmax (i : Nat) (b : List Int) (k : Int) : List Int := b.set i (max (b.getD i 0) (b.getD k.toNat 0 + 1))
def brow (i : Nat) (b : List Int) (l : List Int) : List Int := l.foldl (bmax i) b
def bgo : Nat → List Nd → List Int → List Int
  | _, [], b => b
  | i, n :: ns, b => bgo (i + 1) ns (brow i (brow i b n.l) n.r)
def births (ns : List Nd) : List Int := bgo 0 ns (List.replicate ns.length 0)
/-- Options lie at lower places. -/
def OptsOk (ns : List Nd) : Prop := ∀ (i : Nat) (n : Nd), ns[i]? = some n → (∀ k ∈ n.l, 0 ≤ k ∧ k < i) ∧ (∀ k ∈ n.r, 0 ≤ k ∧ k < i)
def BOk (b : List Int) : Prop := ∀ i : Nat, 0 ≤ b.getD i 0 ∧ b.getD i 0 ≤ i
theorem BOk.max {b : List Int} (h : BOk b) {i : Nat} {k : Int} (h0 : 0 ≤ k) (h1 : k < i) : BOk (bmax i b k) := fun j => by
  unfold bmax
  have h2 := h j
  have h3 := h k.toNat
  have h4 := h i
  rw [List.getD_eq_getElem?_getD, List.getElem?_set]
  split
  · split
    · rename_i hj _; subst hj; simp only [Option.getD_some]; omega
    · simp
  · rw [← List.getD_eq_getElem?_getD]; exact h2
theorem bmax_length (i : Nat) (b : List Int) (k : Int) : (bmax i b k).length = b.length := by simp [bmax]
theorem brow_next {i : Nat} {b : List Int} {l : List Int} {j : Nat} (h : j < l.length) : brow i b (l.drop j) = brow i (bmax i b (l.getD j 0)) (l.drop (j + 1)) := by
  rw [drop_getD l 0 h]; rfl
theorem brow_end {i : Nat} {b : List Int} {l : List Int} {j : Nat} (h : l.length ≤ j) : brow i b (l.drop j) = b := by
  rw [List.drop_eq_nil_of_le h]; rfl
theorem bgo_next {ns : List Nd} {b : List Int} {j : Nat} (h : j < ns.length) : bgo j (ns.drop j) b = bgo (j + 1) (ns.drop (j + 1)) (brow j (brow j b (ns.getD j default).l) (ns.getD j default).r) := by
  rw [drop_getD ns default h]; rfl
theorem bgo_end {ns : List Nd} {b : List Int} {j : Nat} (h : ns.length ≤ j) : bgo j (ns.drop j) b = b := by
  rw [List.drop_eq_nil_of_le h]; rfl
theorem OptsOk.left {ns : List Nd} (h : OptsOk ns) {j i : Nat} (hj : j < ns.length) (hi : i < (ns.getD j default).l.length) : 0 ≤ (ns.getD j default).l.getD i 0 ∧ (ns.getD j default).l.getD i 0 < j :=
  (h j (ns.getD j default) (by simp [List.getD, hj])).1 _ (getD_mem hi)
theorem OptsOk.right {ns : List Nd} (h : OptsOk ns) {j i : Nat} (hj : j < ns.length) (hi : i < (ns.getD j default).r.length) : 0 ≤ (ns.getD j default).r.getD i 0 ∧ (ns.getD j default).r.getD i 0 < j :=
  (h j (ns.getD j default) (by simp [List.getD, hj])).2 _ (getD_mem hi)
theorem BOk.replicate (n : Nat) : BOk (List.replicate n 0) := fun i => by
  have : (List.replicate n (0 : Int)).getD i 0 = 0 := by simp [List.getD, List.getElem?_replicate]; split <;> rfl
  rw [this]; omega

theorem brow_length {i : Nat} {l : List Int} : ∀ {b : List Int}, (brow i b l).length = b.length := by
  induction l with
  | nil => intro b; rfl
  | cons a r ih => intro b; exact ih.trans (bmax_length _ _ _)
theorem bgo_length {ns : List Nd} : ∀ {i : Nat} {b : List Int}, (bgo i ns b).length = b.length := by
  induction ns with
  | nil => intro i b; rfl
  | cons a r ih => intro i b; exact ih.trans (brow_length.trans brow_length)
theorem births_length (ns : List Nd) : (births ns).length = ns.length := bgo_length.trans (by simp)

/-! ### used -/
def setAll (is : List Bool) (l : List Int) : List Bool := l.foldl (fun is k => is.set k.toNat true) is
def ustep (ns : List Nd) (is : List Bool) (i : Nat) : List Bool := if is.getD i false = true then setAll (setAll is (ns.getD i default).l) (ns.getD i default).r else is
def ugo (ns : List Nd) : Nat → List Bool → List Bool
  | 0, is => is
  | i + 1, is => ugo ns i (ustep ns is i)
def usedM (ns : List Nd) (m : Nat) : List Bool := ugo ns (m + 1) ((List.replicate ns.length false).set m true)
theorem setAll_next {is : List Bool} {l : List Int} {j : Nat} (h : j < l.length) : setAll is (l.drop j) = setAll (is.set (l.getD j 0).toNat true) (l.drop (j + 1)) := by
  rw [drop_getD l 0 h]; rfl
theorem setAll_end {is : List Bool} {l : List Int} {j : Nat} (h : l.length ≤ j) : setAll is (l.drop j) = is := by
  rw [List.drop_eq_nil_of_le h]; rfl

theorem setAll_length {l : List Int} : ∀ {is : List Bool}, (setAll is l).length = is.length := by
  induction l with
  | nil => intro is; rfl
  | cons a r ih => intro is; exact ih.trans (by simp)
theorem ustep_no {ns : List Nd} {is : List Bool} {i : Nat} (h : is.getD i false = false) : ustep ns is i = is := by unfold ustep; rw [if_neg (by rw [h]; decide)]
theorem ustep_yes {ns : List Nd} {is : List Bool} {i : Nat} (h : is.getD i false = true) : ustep ns is i = setAll (setAll is (ns.getD i default).l) (ns.getD i default).r := by unfold ustep; rw [if_pos h]
theorem ugo_step {ns : List Nd} {is : List Bool} {z : Int} (h : 0 ≤ z) : ugo ns (z + 1).toNat is = ugo ns (z - 1 + 1).toNat (ustep ns is z.toNat) := by
  rw [show (z + 1).toNat = z.toNat + 1 by omega, show (z - 1 + 1).toNat = z.toNat by omega]; rfl
theorem ugo_end {ns : List Nd} {is : List Bool} {z : Int} (h : z < 0) : ugo ns (z + 1).toNat is = is := by
  rw [show (z + 1).toNat = 0 by omega]; rfl

/-! ### good forms -/
def pairC (ns : List Nd) (bs : List Int) (i : Nat) : Int :=
  orL [cmpI (bs.getD (i - 1) 0) (bs.getD i 0), cmpL (ns.getD (i - 1) default).l (ns.getD i default).l, cmpL (ns.getD (i - 1) default).r (ns.getD i default).r]
structure GoodP (ns : List Nd) : Prop where
  lo : 1 ≤ ns.length
  hi : ns.length ≤ 120
  opts : ∀ i, i < ns.length → goodOpts (ns.getD i default).l i = true ∧ goodOpts (ns.getD i default).r i = true
  sorted : ∀ i, 1 ≤ i → i < ns.length → pairC ns (births ns) i < 0
  used : idxB (usedM ns (ns.length - 1)) false < 0
noncomputable def goodB (ns : List Nd) : Bool := @decide (GoodP ns) (Classical.propDecidable _)
theorem goodB_true {ns : List Nd} : goodB ns = true ↔ GoodP ns := by unfold goodB; exact @decide_eq_true_iff _ (Classical.propDecidable _)
theorem goodB_false {ns : List Nd} : goodB ns = false ↔ ¬ GoodP ns := by
  rw [← goodB_true]; cases goodB ns <;> simp
theorem goodB_used {ns : List Nd} {m : Nat} (hm : ns.length - 1 = m) (h1 : 1 ≤ ns.length) (h2 : ns.length ≤ 120) (h3 : ∀ i, i < ns.length → goodOpts (ns.getD i default).l i = true ∧ goodOpts (ns.getD i default).r i = true)
    (h4 : ∀ i, 1 ≤ i → i < ns.length → pairC ns (births ns) i < 0) : goodB ns = !decide ((0 : Int) ≤ idxB (usedM ns m) false) := by
  subst hm
  by_cases h : (0 : Int) ≤ idxB (usedM ns (ns.length - 1)) false
  · rw [decide_eq_true h]; exact goodB_false.2 fun g => by have := g.used; omega
  · rw [decide_eq_false h]; exact goodB_true.2 ⟨h1, h2, h3, h4, by omega⟩
theorem goodFrom_all {last below : Int} : ∀ {l : List Int}, goodFrom last below l = true → ∀ k ∈ l, last < k ∧ k < below
  | [], _, k, hk => by cases hk
  | x :: r, h, k, hk => by
    unfold goodFrom at h
    split at h
    · cases h
    · rename_i hx
      have ih := goodFrom_all h
      cases hk with
      | head => omega
      | tail _ hk => have := ih k hk; omega
theorem goodOpts_all {l : List Int} {b : Int} (h : goodOpts l b = true) : ∀ k ∈ l, 0 ≤ k ∧ k < b := fun k hk => by
  unfold goodOpts at h
  split at h
  · cases h
  · have := goodFrom_all h k hk; omega
theorem opts_ok {ns : List Nd} (h : ∀ i, i < ns.length → goodOpts (ns.getD i default).l i = true ∧ goodOpts (ns.getD i default).r i = true) : OptsOk ns := fun i n hn => by
  obtain ⟨hi, rfl⟩ := List.getElem?_eq_some_iff.1 hn
  have := h i hi
  have e : ns.getD i default = ns[i] := by simp [List.getD, hi]
  rw [e] at this
  exact ⟨goodOpts_all this.1, goodOpts_all this.2⟩
end Go.GL
