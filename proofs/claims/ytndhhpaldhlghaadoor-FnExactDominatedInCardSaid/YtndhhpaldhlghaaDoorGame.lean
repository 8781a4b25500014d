/- Games, each coded as one number: the bit at 2 i says that i is a left option, the bit at 2 i + 1 that it is a right one. No program in sight. -/
namespace Go.GL
/-- i is a left option of g. -/
def loG (g i : Nat) : Prop := g.testBit (2 * i) = true
/-- i is a right option of g. -/
def roG (g i : Nat) : Prop := g.testBit (2 * i + 1) = true
theorem bit_lt {g k : Nat} (h : g.testBit k = true) : k < g := Nat.lt_of_lt_of_le Nat.lt_two_pow_self (Nat.ge_two_pow_of_testBit h)
theorem loG.lt {g i : Nat} (h : loG g i) : i < g := by have := bit_lt h; omega
theorem roG.lt {g i : Nat} (h : roG g i) : i < g := by have := bit_lt h; omega
theorem gext {a b : Nat} (hl : ∀ i, loG a i ↔ loG b i) (hr : ∀ i, roG a i ↔ roG b i) : a = b := by
  apply Nat.eq_of_testBit_eq
  intro k
  rcases Nat.mod_two_eq_zero_or_one k with h | h
  · have e : k = 2 * (k / 2) := by omega
    have := hl (k / 2)
    unfold loG at this
    rw [← e] at this
    exact Bool.eq_iff_iff.2 this
  · have e : k = 2 * (k / 2) + 1 := by omega
    have := hr (k / 2)
    unfold roG at this
    rw [← e] at this
    exact Bool.eq_iff_iff.2 this
def lefts (g : Nat) : List Nat := (List.range g).filter fun i => g.testBit (2 * i)
def rights (g : Nat) : List Nat := (List.range g).filter fun i => g.testBit (2 * i + 1)
theorem memG_l {g i : Nat} : i ∈ lefts g ↔ loG g i := by
  unfold lefts
  rw [List.mem_filter, List.mem_range]
  exact ⟨fun h => h.2, fun h => ⟨loG.lt h, h⟩⟩
theorem memG_r {g i : Nat} : i ∈ rights g ↔ roG g i := by
  unfold rights
  rw [List.mem_filter, List.mem_range]
  exact ⟨fun h => h.2, fun h => ⟨roG.lt h, h⟩⟩
def bitsG : List Nat → Nat
  | [] => 0
  | k :: l => 2 ^ k ||| bitsG l
theorem bits_at {k : Nat} : ∀ {l : List Nat}, (bitsG l).testBit k = true ↔ k ∈ l
  | [] => by simp [bitsG]
  | x :: l => by
    unfold bitsG
    rw [Nat.testBit_or, Bool.or_eq_true, bits_at (l := l), Nat.testBit_two_pow]
    simp only [decide_eq_true_eq, List.mem_cons]
    constructor
    · rintro (h | h)
      · exact Or.inl h.symm
      · exact Or.inr h
    · rintro (h | h)
      · exact Or.inl h.symm
      · exact Or.inr h
/-- The game with these options. -/
def mkG (l r : List Nat) : Nat := bitsG (l.map (2 * ·) ++ r.map (2 * · + 1))
theorem lo_mk {l r : List Nat} {i : Nat} : loG (mkG l r) i ↔ i ∈ l := by
  unfold loG mkG
  rw [bits_at, List.mem_append, List.mem_map, List.mem_map]
  constructor
  · rintro (⟨a, ha, e⟩ | ⟨a, ha, e⟩)
    · have : a = i := by omega
      rwa [← this]
    · omega
  · exact fun h => Or.inl ⟨i, h, rfl⟩
theorem ro_mk {l r : List Nat} {i : Nat} : roG (mkG l r) i ↔ i ∈ r := by
  unfold roG mkG
  rw [bits_at, List.mem_append, List.mem_map, List.mem_map]
  constructor
  · rintro (⟨a, ha, e⟩ | ⟨a, ha, e⟩)
    · omega
    · have : a = i := by omega
      rwa [← this]
  · exact fun h => Or.inr ⟨i, h, rfl⟩
theorem mk_congr {l r l' r' : List Nat} (hl : ∀ i, i ∈ l ↔ i ∈ l') (hr : ∀ i, i ∈ r ↔ i ∈ r') : mkG l r = mkG l' r' :=
  gext (fun i => by rw [lo_mk, lo_mk]; exact hl i) (fun i => by rw [ro_mk, ro_mk]; exact hr i)
theorem mk_self (g : Nat) : mkG (lefts g) (rights g) = g :=
  gext (fun i => by rw [lo_mk, memG_l]) (fun i => by rw [ro_mk, memG_r])

/-! ### order -/
def geG (a b : Nat) : Prop := (∀ r, (_h : roG a r) → ¬ geG b r) ∧ (∀ l, (_h : loG b l) → ¬ geG l a)
termination_by a + b
decreasing_by
  · have := _h.lt; omega
  · have := _h.lt; omega
theorem ge_iff {a b : Nat} : geG a b ↔ (∀ r, roG a r → ¬ geG b r) ∧ (∀ l, loG b l → ¬ geG l a) := by
  rw [geG]
theorem ge_not {a b : Nat} (h : ¬ geG a b) : (∃ r, roG a r ∧ geG b r) ∨ ∃ l, loG b l ∧ geG l a := by
  rw [ge_iff] at h
  by_cases h1 : ∃ r, roG a r ∧ geG b r
  · exact Or.inl h1
  · right
    apply Classical.byContradiction
    intro h2
    exact h ⟨fun r hr hg => h1 ⟨r, hr, hg⟩, fun l hl hg => h2 ⟨l, hl, hg⟩⟩
theorem ge_refl (a : Nat) : geG a a := by
  induction a using Nat.strongRecOn with
  | _ a ih =>
    rw [ge_iff]
    refine ⟨fun r hr hg => ?_, fun l hl hg => ?_⟩
    · exact (ge_iff.1 hg).1 r hr (ih r hr.lt)
    · exact (ge_iff.1 hg).2 l hl (ih l hl.lt)
theorem ge_trans_n : ∀ (n a b c : Nat), a + b + c ≤ n → geG a b → geG b c → geG a c
  | 0, a, b, c, hn, h, k => by
    have : a = 0 := by omega
    have : c = 0 := by omega
    subst a c; exact ge_refl 0
  | n + 1, a, b, c, hn, h, k => by
    rw [ge_iff]
    refine ⟨fun r hr hg => ?_, fun l hl hg => ?_⟩
    · have := hr.lt
      exact (ge_iff.1 h).1 r hr (ge_trans_n n b c r (by omega) k hg)
    · have := hl.lt
      exact (ge_iff.1 k).2 l hl (ge_trans_n n l a b (by omega) hg h)
theorem ge_trans {a b c : Nat} (h : geG a b) (k : geG b c) : geG a c := ge_trans_n _ a b c (Nat.le_refl _) h k
def eqG (a b : Nat) : Prop := geG a b ∧ geG b a
theorem eqG.refl (a : Nat) : eqG a a := ⟨ge_refl a, ge_refl a⟩
theorem eqG.symm {a b : Nat} (h : eqG a b) : eqG b a := ⟨h.2, h.1⟩
theorem eqG.trans {a b c : Nat} (h : eqG a b) (k : eqG b c) : eqG a c := ⟨ge_trans h.1 k.1, ge_trans k.2 h.2⟩
theorem not_ge_left {g l : Nat} (h : loG g l) : ¬ geG l g := (ge_iff.1 (ge_refl g)).2 l h
theorem not_ge_right {g r : Nat} (h : roG g r) : ¬ geG g r := (ge_iff.1 (ge_refl g)).1 r h

/-! ### negatives, sums -/
def negG (g : Nat) : Nat := mkG ((rights g).attach.map fun ⟨i, _h⟩ => negG i) ((lefts g).attach.map fun ⟨i, _h⟩ => negG i)
termination_by g
decreasing_by
  · exact (memG_r.1 _h).lt
  · exact (memG_l.1 _h).lt
theorem lo_neg {g x : Nat} : loG (negG g) x ↔ ∃ r, roG g r ∧ x = negG r := by
  rw [negG, lo_mk, List.mem_map]
  constructor
  · rintro ⟨⟨i, h⟩, _, rfl⟩; exact ⟨i, memG_r.1 h, rfl⟩
  · rintro ⟨r, h, rfl⟩; exact ⟨⟨r, memG_r.2 h⟩, List.mem_attach _ _, rfl⟩
theorem ro_neg {g x : Nat} : roG (negG g) x ↔ ∃ l, loG g l ∧ x = negG l := by
  rw [negG, ro_mk, List.mem_map]
  constructor
  · rintro ⟨⟨i, h⟩, _, rfl⟩; exact ⟨i, memG_l.1 h, rfl⟩
  · rintro ⟨r, h, rfl⟩; exact ⟨⟨r, memG_l.2 h⟩, List.mem_attach _ _, rfl⟩
def addG (a b : Nat) : Nat :=
  mkG (((lefts a).attach.map fun ⟨i, _h⟩ => addG i b) ++ (lefts b).attach.map fun ⟨i, _h⟩ => addG a i)
    (((rights a).attach.map fun ⟨i, _h⟩ => addG i b) ++ (rights b).attach.map fun ⟨i, _h⟩ => addG a i)
termination_by a + b
decreasing_by
  · have := (memG_l.1 _h).lt; omega
  · have := (memG_l.1 _h).lt; omega
  · have := (memG_r.1 _h).lt; omega
  · have := (memG_r.1 _h).lt; omega
theorem lo_add {a b x : Nat} : loG (addG a b) x ↔ (∃ l, loG a l ∧ x = addG l b) ∨ ∃ l, loG b l ∧ x = addG a l := by
  rw [addG, lo_mk, List.mem_append, List.mem_map, List.mem_map]
  constructor
  · rintro (⟨⟨i, h⟩, _, rfl⟩ | ⟨⟨i, h⟩, _, rfl⟩)
    · exact Or.inl ⟨i, memG_l.1 h, rfl⟩
    · exact Or.inr ⟨i, memG_l.1 h, rfl⟩
  · rintro (⟨r, h, rfl⟩ | ⟨r, h, rfl⟩)
    · exact Or.inl ⟨⟨r, memG_l.2 h⟩, List.mem_attach _ _, rfl⟩
    · exact Or.inr ⟨⟨r, memG_l.2 h⟩, List.mem_attach _ _, rfl⟩
theorem ro_add {a b x : Nat} : roG (addG a b) x ↔ (∃ l, roG a l ∧ x = addG l b) ∨ ∃ l, roG b l ∧ x = addG a l := by
  rw [addG, ro_mk, List.mem_append, List.mem_map, List.mem_map]
  constructor
  · rintro (⟨⟨i, h⟩, _, rfl⟩ | ⟨⟨i, h⟩, _, rfl⟩)
    · exact Or.inl ⟨i, memG_r.1 h, rfl⟩
    · exact Or.inr ⟨i, memG_r.1 h, rfl⟩
  · rintro (⟨r, h, rfl⟩ | ⟨r, h, rfl⟩)
    · exact Or.inl ⟨⟨r, memG_r.2 h⟩, List.mem_attach _ _, rfl⟩
    · exact Or.inr ⟨⟨r, memG_r.2 h⟩, List.mem_attach _ _, rfl⟩
theorem neg_neg (g : Nat) : negG (negG g) = g := by
  induction g using Nat.strongRecOn with
  | _ g ih =>
    apply gext
    · intro i
      rw [lo_neg]
      constructor
      · rintro ⟨r, hr, rfl⟩
        obtain ⟨l, hl, rfl⟩ := ro_neg.1 hr
        rwa [ih l hl.lt]
      · exact fun h => ⟨negG i, ro_neg.2 ⟨i, h, rfl⟩, (ih i h.lt).symm⟩
    · intro i
      rw [ro_neg]
      constructor
      · rintro ⟨r, hr, rfl⟩
        obtain ⟨l, hl, rfl⟩ := lo_neg.1 hr
        rwa [ih l hl.lt]
      · exact fun h => ⟨negG i, lo_neg.2 ⟨i, h, rfl⟩, (ih i h.lt).symm⟩
theorem add_comm_n : ∀ (n a b : Nat), a + b ≤ n → addG a b = addG b a
  | _, a, b, _ => by
    apply gext
    · intro i
      rw [lo_add, lo_add]
      constructor
      · rintro (⟨l, h, rfl⟩ | ⟨l, h, rfl⟩)
        · have := h.lt; exact Or.inr ⟨l, h, add_comm_n (l + b) l b (Nat.le_refl _)⟩
        · have := h.lt; exact Or.inl ⟨l, h, add_comm_n (a + l) a l (Nat.le_refl _)⟩
      · rintro (⟨l, h, rfl⟩ | ⟨l, h, rfl⟩)
        · have := h.lt; exact Or.inr ⟨l, h, add_comm_n (l + a) l a (Nat.le_refl _)⟩
        · have := h.lt; exact Or.inl ⟨l, h, add_comm_n (b + l) b l (Nat.le_refl _)⟩
    · intro i
      rw [ro_add, ro_add]
      constructor
      · rintro (⟨l, h, rfl⟩ | ⟨l, h, rfl⟩)
        · have := h.lt; exact Or.inr ⟨l, h, add_comm_n (l + b) l b (Nat.le_refl _)⟩
        · have := h.lt; exact Or.inl ⟨l, h, add_comm_n (a + l) a l (Nat.le_refl _)⟩
      · rintro (⟨l, h, rfl⟩ | ⟨l, h, rfl⟩)
        · have := h.lt; exact Or.inr ⟨l, h, add_comm_n (l + a) l a (Nat.le_refl _)⟩
        · have := h.lt; exact Or.inl ⟨l, h, add_comm_n (b + l) b l (Nat.le_refl _)⟩
termination_by _ a b => a + b
decreasing_by all_goals omega
theorem add_comm (a b : Nat) : addG a b = addG b a := add_comm_n _ a b (Nat.le_refl _)
theorem add_assoc_n : ∀ (n a b c : Nat), a + b + c ≤ n → addG (addG a b) c = addG a (addG b c)
  | _, a, b, c, _ => by
    apply gext
    · intro i
      rw [lo_add, lo_add]
      constructor
      · rintro (⟨l, h, rfl⟩ | ⟨l, h, rfl⟩)
        · rcases lo_add.1 h with ⟨x, hx, rfl⟩ | ⟨x, hx, rfl⟩
          · have := hx.lt; exact Or.inl ⟨x, hx, add_assoc_n (x + b + c) x b c (Nat.le_refl _)⟩
          · have := hx.lt; exact Or.inr ⟨addG x c, lo_add.2 (Or.inl ⟨x, hx, rfl⟩), add_assoc_n (a + x + c) a x c (Nat.le_refl _)⟩
        · have := h.lt; exact Or.inr ⟨addG b l, lo_add.2 (Or.inr ⟨l, h, rfl⟩), add_assoc_n (a + b + l) a b l (Nat.le_refl _)⟩
      · rintro (⟨l, h, rfl⟩ | ⟨l, h, rfl⟩)
        · have := h.lt; exact Or.inl ⟨addG l b, lo_add.2 (Or.inl ⟨l, h, rfl⟩), (add_assoc_n (l + b + c) l b c (Nat.le_refl _)).symm⟩
        · rcases lo_add.1 h with ⟨x, hx, rfl⟩ | ⟨x, hx, rfl⟩
          · have := hx.lt; exact Or.inl ⟨addG a x, lo_add.2 (Or.inr ⟨x, hx, rfl⟩), (add_assoc_n (a + x + c) a x c (Nat.le_refl _)).symm⟩
          · have := hx.lt; exact Or.inr ⟨x, hx, (add_assoc_n (a + b + x) a b x (Nat.le_refl _)).symm⟩
    · intro i
      rw [ro_add, ro_add]
      constructor
      · rintro (⟨l, h, rfl⟩ | ⟨l, h, rfl⟩)
        · rcases ro_add.1 h with ⟨x, hx, rfl⟩ | ⟨x, hx, rfl⟩
          · have := hx.lt; exact Or.inl ⟨x, hx, add_assoc_n (x + b + c) x b c (Nat.le_refl _)⟩
          · have := hx.lt; exact Or.inr ⟨addG x c, ro_add.2 (Or.inl ⟨x, hx, rfl⟩), add_assoc_n (a + x + c) a x c (Nat.le_refl _)⟩
        · have := h.lt; exact Or.inr ⟨addG b l, ro_add.2 (Or.inr ⟨l, h, rfl⟩), add_assoc_n (a + b + l) a b l (Nat.le_refl _)⟩
      · rintro (⟨l, h, rfl⟩ | ⟨l, h, rfl⟩)
        · have := h.lt; exact Or.inl ⟨addG l b, ro_add.2 (Or.inl ⟨l, h, rfl⟩), (add_assoc_n (l + b + c) l b c (Nat.le_refl _)).symm⟩
        · rcases ro_add.1 h with ⟨x, hx, rfl⟩ | ⟨x, hx, rfl⟩
          · have := hx.lt; exact Or.inl ⟨addG a x, ro_add.2 (Or.inr ⟨x, hx, rfl⟩), (add_assoc_n (a + x + c) a x c (Nat.le_refl _)).symm⟩
          · have := hx.lt; exact Or.inr ⟨x, hx, (add_assoc_n (a + b + x) a b x (Nat.le_refl _)).symm⟩
termination_by _ a b c => a + b + c
decreasing_by all_goals omega
theorem add_assoc (a b c : Nat) : addG (addG a b) c = addG a (addG b c) := add_assoc_n _ a b c (Nat.le_refl _)
theorem lo_zero {i : Nat} : ¬ loG 0 i := fun h => absurd h.lt (by omega)
theorem ro_zero {i : Nat} : ¬ roG 0 i := fun h => absurd h.lt (by omega)
theorem add_zero (a : Nat) : addG a 0 = a := by
  induction a using Nat.strongRecOn with
  | _ a ih =>
    apply gext
    · intro i
      rw [lo_add]
      constructor
      · rintro (⟨l, h, rfl⟩ | ⟨l, h, rfl⟩)
        · rwa [ih l h.lt]
        · exact (lo_zero h).elim
      · exact fun h => Or.inl ⟨i, h, (ih i h.lt).symm⟩
    · intro i
      rw [ro_add]
      constructor
      · rintro (⟨l, h, rfl⟩ | ⟨l, h, rfl⟩)
        · rwa [ih l h.lt]
        · exact (ro_zero h).elim
      · exact fun h => Or.inl ⟨i, h, (ih i h.lt).symm⟩
theorem zero_add (a : Nat) : addG 0 a = a := by rw [add_comm, add_zero]
theorem neg_zero : negG 0 = 0 := gext (fun i => by rw [lo_neg]; exact ⟨fun ⟨r, h, _⟩ => (ro_zero h).elim, fun h => (lo_zero h).elim⟩) (fun i => by rw [ro_neg]; exact ⟨fun ⟨r, h, _⟩ => (lo_zero h).elim, fun h => (ro_zero h).elim⟩)
theorem neg_add_n : ∀ (n a b : Nat), a + b ≤ n → negG (addG a b) = addG (negG a) (negG b)
  | _, a, b, _ => by
    apply gext
    · intro i
      rw [lo_neg, lo_add]
      constructor
      · rintro ⟨r, hr, rfl⟩
        rcases ro_add.1 hr with ⟨x, hx, rfl⟩ | ⟨x, hx, rfl⟩
        · have := hx.lt; exact Or.inl ⟨negG x, lo_neg.2 ⟨x, hx, rfl⟩, neg_add_n (x + b) x b (Nat.le_refl _)⟩
        · have := hx.lt; exact Or.inr ⟨negG x, lo_neg.2 ⟨x, hx, rfl⟩, neg_add_n (a + x) a x (Nat.le_refl _)⟩
      · rintro (⟨l, h, rfl⟩ | ⟨l, h, rfl⟩)
        · obtain ⟨x, hx, rfl⟩ := lo_neg.1 h
          have := hx.lt; exact ⟨addG x b, ro_add.2 (Or.inl ⟨x, hx, rfl⟩), (neg_add_n (x + b) x b (Nat.le_refl _)).symm⟩
        · obtain ⟨x, hx, rfl⟩ := lo_neg.1 h
          have := hx.lt; exact ⟨addG a x, ro_add.2 (Or.inr ⟨x, hx, rfl⟩), (neg_add_n (a + x) a x (Nat.le_refl _)).symm⟩
    · intro i
      rw [ro_neg, ro_add]
      constructor
      · rintro ⟨r, hr, rfl⟩
        rcases lo_add.1 hr with ⟨x, hx, rfl⟩ | ⟨x, hx, rfl⟩
        · have := hx.lt; exact Or.inl ⟨negG x, ro_neg.2 ⟨x, hx, rfl⟩, neg_add_n (x + b) x b (Nat.le_refl _)⟩
        · have := hx.lt; exact Or.inr ⟨negG x, ro_neg.2 ⟨x, hx, rfl⟩, neg_add_n (a + x) a x (Nat.le_refl _)⟩
      · rintro (⟨l, h, rfl⟩ | ⟨l, h, rfl⟩)
        · obtain ⟨x, hx, rfl⟩ := ro_neg.1 h
          have := hx.lt; exact ⟨addG x b, lo_add.2 (Or.inl ⟨x, hx, rfl⟩), (neg_add_n (x + b) x b (Nat.le_refl _)).symm⟩
        · obtain ⟨x, hx, rfl⟩ := ro_neg.1 h
          have := hx.lt; exact ⟨addG a x, lo_add.2 (Or.inr ⟨x, hx, rfl⟩), (neg_add_n (a + x) a x (Nat.le_refl _)).symm⟩
termination_by _ a b => a + b
decreasing_by all_goals omega
theorem neg_add (a b : Nat) : negG (addG a b) = addG (negG a) (negG b) := neg_add_n _ a b (Nat.le_refl _)
theorem neg_ge_n : ∀ (n a b : Nat), a + b ≤ n → (geG (negG a) (negG b) ↔ geG b a)
  | _, a, b, _ => by
    rw [ge_iff, ge_iff]
    constructor
    · rintro ⟨h1, h2⟩
      refine ⟨fun r hr hg => ?_, fun l hl hg => ?_⟩
      · have := hr.lt; exact h2 (negG r) (lo_neg.2 ⟨r, hr, rfl⟩) ((neg_ge_n (r + a) r a (Nat.le_refl _)).2 hg)
      · have := hl.lt; exact h1 (negG l) (ro_neg.2 ⟨l, hl, rfl⟩) ((neg_ge_n (b + l) b l (Nat.le_refl _)).2 hg)
    · rintro ⟨h1, h2⟩
      refine ⟨fun r hr hg => ?_, fun l hl hg => ?_⟩
      · obtain ⟨x, hx, rfl⟩ := ro_neg.1 hr
        have := hx.lt; exact h2 x hx ((neg_ge_n (b + x) b x (Nat.le_refl _)).1 hg)
      · obtain ⟨x, hx, rfl⟩ := lo_neg.1 hl
        have := hx.lt; exact h1 x hx ((neg_ge_n (x + a) x a (Nat.le_refl _)).1 hg)
termination_by _ a b => a + b
decreasing_by all_goals omega
theorem neg_ge {a b : Nat} : geG (negG a) (negG b) ↔ geG b a := neg_ge_n _ a b (Nat.le_refl _)
theorem add_mono_n : ∀ (n a b c : Nat), a + b + c ≤ n → geG a b → geG (addG a c) (addG b c)
  | 0, a, b, c, hn, h => by
    have : a = 0 := by omega
    have : b = 0 := by omega
    subst a b; exact ge_refl _
  | n + 1, a, b, c, hn, h => by
    rw [ge_iff]
    refine ⟨fun r hr hg => ?_, fun l hl hg => ?_⟩
    · rcases ro_add.1 hr with ⟨x, hx, rfl⟩ | ⟨x, hx, rfl⟩
      · -- b + c ≥ x + c, x right option of a; not b ≥ x
        have hl := hx.lt
        have hnx := (ge_iff.1 h).1 x hx
        rcases ge_not hnx with ⟨y, hy, hyx⟩ | ⟨y, hy, hyb⟩
        · have := hy.lt
          exact (ge_iff.1 hg).1 (addG y c) (ro_add.2 (Or.inl ⟨y, hy, rfl⟩)) (add_mono_n n x y c (by omega) hyx)
        · have := hy.lt
          exact (ge_iff.1 hg).2 (addG y c) (lo_add.2 (Or.inl ⟨y, hy, rfl⟩)) (add_mono_n n y b c (by omega) hyb)
      · have hl := hx.lt
        exact (ge_iff.1 hg).1 (addG b x) (ro_add.2 (Or.inr ⟨x, hx, rfl⟩)) (add_mono_n n a b x (by omega) h)
    · rcases lo_add.1 hl with ⟨x, hx, rfl⟩ | ⟨x, hx, rfl⟩
      · have hl := hx.lt
        have hnx := (ge_iff.1 h).2 x hx
        rcases ge_not hnx with ⟨y, hy, hyx⟩ | ⟨y, hy, hyb⟩
        · have := hy.lt
          exact (ge_iff.1 hg).1 (addG y c) (ro_add.2 (Or.inl ⟨y, hy, rfl⟩)) (add_mono_n n a y c (by omega) hyx)
        · have := hy.lt
          exact (ge_iff.1 hg).2 (addG y c) (lo_add.2 (Or.inl ⟨y, hy, rfl⟩)) (add_mono_n n y x c (by omega) hyb)
      · have hl := hx.lt
        exact (ge_iff.1 hg).2 (addG a x) (lo_add.2 (Or.inr ⟨x, hx, rfl⟩)) (add_mono_n n a b x (by omega) h)
theorem add_mono {a b : Nat} (c : Nat) (h : geG a b) : geG (addG a c) (addG b c) := add_mono_n _ a b c (Nat.le_refl _) h
theorem add_mono2 {a b c d : Nat} (h : geG a b) (k : geG c d) : geG (addG a c) (addG b d) :=
  ge_trans (add_mono c h) (by rw [add_comm b c, add_comm b d]; exact add_mono b k)
theorem add_neg (a : Nat) : eqG (addG a (negG a)) 0 := by
  induction a using Nat.strongRecOn with
  | _ a ih =>
    constructor
    · rw [ge_iff]
      refine ⟨fun r hr hg => ?_, fun l hl hg => (lo_zero hl).elim⟩
      rcases ro_add.1 hr with ⟨x, hx, rfl⟩ | ⟨x, hx, rfl⟩
      · exact (ge_iff.1 hg).2 (addG x (negG x)) (lo_add.2 (Or.inr ⟨negG x, lo_neg.2 ⟨x, hx, rfl⟩, rfl⟩)) (ih x hx.lt).1
      · obtain ⟨y, hy, rfl⟩ := ro_neg.1 hx
        exact (ge_iff.1 hg).2 (addG y (negG y)) (lo_add.2 (Or.inl ⟨y, hy, rfl⟩)) (ih y hy.lt).1
    · rw [ge_iff]
      refine ⟨fun r hr hg => (ro_zero hr).elim, fun l hl hg => ?_⟩
      rcases lo_add.1 hl with ⟨x, hx, rfl⟩ | ⟨x, hx, rfl⟩
      · exact (ge_iff.1 hg).1 (addG x (negG x)) (ro_add.2 (Or.inr ⟨negG x, ro_neg.2 ⟨x, hx, rfl⟩, rfl⟩)) (ih x hx.lt).2
      · obtain ⟨y, hy, rfl⟩ := lo_neg.1 hx
        exact (ge_iff.1 hg).1 (addG y (negG y)) (ro_add.2 (Or.inl ⟨y, hy, rfl⟩)) (ih y hy.lt).2
theorem add_cancel {a b c : Nat} (h : geG (addG a c) (addG b c)) : geG a b := by
  have h1 := add_mono (negG c) h
  rw [add_assoc, add_assoc] at h1
  have h2 : ∀ x, eqG (addG x (addG c (negG c))) x := fun x => by
    have e := add_neg c
    constructor
    · have := add_mono2 (ge_refl x) e.1; rwa [add_zero] at this
    · have := add_mono2 (ge_refl x) e.2; rwa [add_zero] at this
  exact ge_trans (h2 a).2 (ge_trans h1 (h2 b).1)
theorem eq_add {a b c d : Nat} (h : eqG a b) (k : eqG c d) : eqG (addG a c) (addG b d) := ⟨add_mono2 h.1 k.1, add_mono2 h.2 k.2⟩
theorem eq_neg {a b : Nat} (h : eqG a b) : eqG (negG a) (negG b) := ⟨neg_ge.2 h.2, neg_ge.2 h.1⟩
theorem ge_sub {a b : Nat} : geG a b ↔ geG (addG a (negG b)) 0 := by
  constructor
  · intro h; exact ge_trans (add_mono (negG b) h) (add_neg b).1
  · intro h
    have h1 : geG (addG a (negG b)) (addG b (negG b)) := ge_trans h (add_neg b).2
    exact add_cancel h1

/-! ### ordinal sums -/
def ordG (a b : Nat) : Nat :=
  mkG (lefts a ++ (lefts b).attach.map fun ⟨i, _h⟩ => ordG a i) (rights a ++ (rights b).attach.map fun ⟨i, _h⟩ => ordG a i)
termination_by b
decreasing_by
  · exact (memG_l.1 _h).lt
  · exact (memG_r.1 _h).lt
theorem lo_ord {a b x : Nat} : loG (ordG a b) x ↔ loG a x ∨ ∃ l, loG b l ∧ x = ordG a l := by
  rw [ordG, lo_mk, List.mem_append, memG_l, List.mem_map]
  constructor
  · rintro (h | ⟨⟨i, h⟩, _, rfl⟩)
    · exact Or.inl h
    · exact Or.inr ⟨i, memG_l.1 h, rfl⟩
  · rintro (h | ⟨r, h, rfl⟩)
    · exact Or.inl h
    · exact Or.inr ⟨⟨r, memG_l.2 h⟩, List.mem_attach _ _, rfl⟩
theorem ro_ord {a b x : Nat} : roG (ordG a b) x ↔ roG a x ∨ ∃ l, roG b l ∧ x = ordG a l := by
  rw [ordG, ro_mk, List.mem_append, memG_r, List.mem_map]
  constructor
  · rintro (h | ⟨⟨i, h⟩, _, rfl⟩)
    · exact Or.inl h
    · exact Or.inr ⟨i, memG_r.1 h, rfl⟩
  · rintro (h | ⟨r, h, rfl⟩)
    · exact Or.inl h
    · exact Or.inr ⟨⟨r, memG_r.2 h⟩, List.mem_attach _ _, rfl⟩
theorem ord_zero (a : Nat) : ordG a 0 = a := gext
  (fun i => by rw [lo_ord]; exact ⟨fun h => h.elim id fun ⟨l, h, _⟩ => (lo_zero h).elim, Or.inl⟩)
  (fun i => by rw [ro_ord]; exact ⟨fun h => h.elim id fun ⟨l, h, _⟩ => (ro_zero h).elim, Or.inl⟩)
theorem zero_ord (a : Nat) : ordG 0 a = a := by
  induction a using Nat.strongRecOn with
  | _ a ih =>
    apply gext
    · intro i
      rw [lo_ord]
      constructor
      · rintro (h | ⟨l, h, rfl⟩)
        · exact (lo_zero h).elim
        · rwa [ih l h.lt]
      · exact fun h => Or.inr ⟨i, h, (ih i h.lt).symm⟩
    · intro i
      rw [ro_ord]
      constructor
      · rintro (h | ⟨l, h, rfl⟩)
        · exact (ro_zero h).elim
        · rwa [ih l h.lt]
      · exact fun h => Or.inr ⟨i, h, (ih i h.lt).symm⟩

/-! ### canonical games -/
/-- No option is dominated by another one. -/
def NoDom (g : Nat) : Prop := (∀ a b, loG g a → loG g b → geG a b → a = b) ∧ (∀ a b, roG g a → roG g b → geG a b → a = b)
def NoRev (g : Nat) : Prop := (∀ l r, loG g l → roG l r → ¬ geG g r) ∧ (∀ r l, roG g r → loG r l → ¬ geG l g)
def CanonG (g : Nat) : Prop := NoDom g ∧ NoRev g ∧ (∀ l, (_h : loG g l) → CanonG l) ∧ (∀ r, (_h : roG g r) → CanonG r)
termination_by g
decreasing_by
  · exact _h.lt
  · exact _h.lt
theorem canon_iff {g : Nat} : CanonG g ↔ NoDom g ∧ NoRev g ∧ (∀ l, loG g l → CanonG l) ∧ (∀ r, roG g r → CanonG r) := by rw [CanonG]
theorem CanonG.left {g l : Nat} (h : CanonG g) (hl : loG g l) : CanonG l := (canon_iff.1 h).2.2.1 l hl
theorem CanonG.right {g l : Nat} (h : CanonG g) (hl : roG g l) : CanonG l := (canon_iff.1 h).2.2.2 l hl
theorem canon_unique_n : ∀ (n a b : Nat), a + b ≤ n → CanonG a → CanonG b → eqG a b → a = b
  | 0, a, b, hn, _, _, _ => by omega
  | n + 1, a, b, hn, ha, hb, he => by
    have key : ∀ x y, x + y ≤ n + 1 → CanonG x → CanonG y → eqG x y → (∀ l, loG x l → loG y l) ∧ (∀ r, roG x r → roG y r) := by
      intro x y hxy hx hy e
      obtain ⟨dx, rx, lx, qx⟩ := canon_iff.1 hx
      obtain ⟨dy, ry, ly, qy⟩ := canon_iff.1 hy
      have stepL : ∀ u v, NoRev u → eqG u v → ∀ l, loG u l → ∃ l', loG v l' ∧ geG l' l := by
        intro u v ru e l hl
        have h1 : ¬ geG l v := (ge_iff.1 e.2).2 l hl
        rcases ge_not h1 with ⟨r, hr, hg⟩ | ⟨l', h2, h3⟩
        · exact (ru.1 l r hl hr (ge_trans e.1 hg)).elim
        · exact ⟨l', h2, h3⟩
      have stepR : ∀ u v, NoRev u → eqG u v → ∀ r, roG u r → ∃ r', roG v r' ∧ geG r r' := by
        intro u v ru e r hr
        have h1 : ¬ geG v r := (ge_iff.1 e.1).1 r hr
        rcases ge_not h1 with ⟨r', h2, h3⟩ | ⟨l, hl, hg⟩
        · exact ⟨r', h2, h3⟩
        · exact (ru.2 r l hr hl (ge_trans hg e.2)).elim
      constructor
      · intro l hl
        obtain ⟨l', h1, h2⟩ := stepL x y rx e l hl
        obtain ⟨l'', h3, h4⟩ := stepL y x ry e.symm l' h1
        have e1 := dx.1 l'' l h3 hl (ge_trans h4 h2)
        subst e1
        have := hl.lt; have := h1.lt
        have e2 := canon_unique_n n l'' l' (by omega) (lx l'' hl) (ly l' h1) ⟨h4, h2⟩
        rwa [e2]
      · intro r hr
        obtain ⟨r', h1, h2⟩ := stepR x y rx e r hr
        obtain ⟨r'', h3, h4⟩ := stepR y x ry e.symm r' h1
        have e1 := dx.2 r r'' hr h3 (ge_trans h2 h4)
        subst e1
        have := hr.lt; have := h1.lt
        have e2 := canon_unique_n n r r' (by omega) (qx r hr) (qy r' h1) ⟨h2, h4⟩
        rwa [e2]
    have k1 := key a b hn ha hb he
    have k2 := key b a (by omega) hb ha he.symm
    exact gext (fun i => ⟨k1.1 i, k2.1 i⟩) (fun i => ⟨k1.2 i, k2.2 i⟩)
theorem canon_unique {a b : Nat} (ha : CanonG a) (hb : CanonG b) (he : eqG a b) : a = b := canon_unique_n _ a b (Nat.le_refl _) ha hb he
end Go.GL
