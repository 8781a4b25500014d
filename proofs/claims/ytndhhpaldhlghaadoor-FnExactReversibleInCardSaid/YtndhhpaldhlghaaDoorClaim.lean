/- Elements that are structs: claims and pairs; how an element of any kind is read; equality of pairs. -/
import Derived.Test.YtndhhpaldhlghaaDoorLaw
import Derived.Test.YtndhhpaldhlghaaDoorRow
import Derived.Laws.StructEq
namespace Go.GL
open Go Go.RowKit

/-- A claim: two nodes, and the places of the claims that answer. -/
structure Cl where
  a : Int
  b : Int
  r : List Int
  l : List Int
deriving DecidableEq, Inhabited
def eClaim : Elt Cl where
  size := 4
  rep := fun G cs n => ∃ u v, cs = [.int .i64 n.a, .int .i64 n.b, u, v] ∧ RSl eInt G u n.r ∧ RSl eInt G v n.l
  mono := fun hg ⟨u, v, h1, h2, h3⟩ => ⟨u, v, h1, h2.mono hg, h3.mono hg⟩
  len := fun ⟨u, v, h1, h2, h3⟩ => by rw [h1]; rfl
  one := fun ⟨u, v, h1, h2, h3⟩ x hx => by
    obtain ⟨a, c, e1, _⟩ := h2.sl
    obtain ⟨a', c', e2, _⟩ := h3.sl
    rw [h1] at hx; simp at hx
    rcases hx with rfl | rfl | rfl | rfl
    · rfl
    · rfl
    · subst e1; rfl
    · subst e2; rfl
/-- A pair of numbers ('[2]int'). -/
def eP2 : Elt (Int × Int) where
  size := 2
  rep := fun _ cs n => cs = [.int .i64 n.1, .int .i64 n.2]
  mono := fun _ h => h
  len := fun h => by rw [h]; rfl
  one := fun h x hx => by rw [h] at hx; simp at hx; rcases hx with rfl | rfl <;> rfl
theorem zero_claim (G : Pin) : eClaim.rep G (Value.cells (.agg #[.int .i64 0, .int .i64 0, .slice none 0 0, .slice none 0 0])).toList ⟨0, 0, [], []⟩ := ⟨_, _, rfl, nil_reads _ _, nil_reads _ _⟩

/-- The load of a whole element, and of one of its cells. -/
def RunsAgg (Gr : Pin) (v : Value) (z : Int) (size : Nat) (cs : List Value) : Prop :=
  ∀ {P : Program} {w : World} {d : Option Nat} {t ty : Nat} {pos : String} {aft : Array Edge} {g : Option (Nat × Bool)} {x : Operand} {ρ : Operand → Value} (_ : (P.underlying t).map aggD = some true) (_ : (P.info? t).map (·.size) = some size)
    (_ : ρ x = eptr v z size 0) (_ : Pins Gr w), (execOp ρ ⟨d, .load t x, ty, pos, aft, g⟩).run P w = .ok (.value (.agg cs.toArray)) w
def RunsCell (Gr : Pin) (v : Value) (z : Int) (size k : Nat) (u : Value) : Prop :=
  ∀ {P : Program} {w : World} {d : Option Nat} {t ty : Nat} {pos : String} {aft : Array Edge} {g : Option (Nat × Bool)} {x : Operand} {ρ : Operand → Value} (_ : (P.underlying t).map aggD = some false)
    (_ : ρ x = eptr v z size k) (_ : Pins Gr w), (execOp ρ ⟨d, .load t x, ty, pos, aft, g⟩).run P w = .ok (.value u) w
theorem nm_el {α : Type} {E : Elt α} {Gr G : Pin} {v : Value} {z : Int} {xs : List α} {j : Nat} (d : α) (hv : At E Gr G v xs z) (hj : z.toNat = j) :
    ∃ cs, E.rep G cs (xs.getD j d) ∧ RunsAgg Gr v z E.size cs ∧ ∀ k u, cs[k]? = some u → RunsCell Gr v z E.size k u := by
  obtain ⟨b, o, cs, e, he, hr, hp, hc⟩ := hv
  rw [hj] at he
  have hx : xs.getD j d = e := by rw [List.getD, he]; rfl
  have hl := E.len hr
  refine ⟨cs, by rw [hx]; exact hr, ?_, fun k u hu => ?_⟩
  · intro P w d t ty pos aft g x ρ ha hs hρ hP
    exact r_ldpA (cs := cs) (b := b) (o := o) ha (by rw [hs, hl]) (hρ.trans (hp 0)) fun i u hi => hP _ _ _ (hc i u hi)
  · intro P w d t ty pos aft g x ρ ha hρ hP
    exact r_ldp1 (b := b) (o := o + k) ha (hρ.trans (hp k)) (hP _ _ _ (hc k u hu))

section
variable {P : Program} {ρ : Operand → Value} {w : World} {d : Option Nat} {t e ty t' : Nat} {pos : String} {aft : Array Edge} {g : Option (Nat × Bool)} {x y : Operand}
theorem run_equalIn_pair (n : Nat) {a b c d : Int} (ht : P.underlying t = some (.array 2 e)) (he : P.underlying e = some (.int .i64)) (hs : (P.info? e).map (·.size) = some 1) :
    (Op.equalIn (n + 1 + 1) t (.agg #[.int .i64 a, .int .i64 b]) (.agg #[.int .i64 c, .int .i64 d])).run P w = .ok (decide ((a, b) = (c, d))) w := by
  have ha : (P.underlying e).map aggD = some false := by rw [he]; rfl
  have hpart : ∀ (u v : Int) (k : Nat) (z : Int), (#[Value.int .i64 u, .int .i64 v] : Array Value)[k]? = some (.int .i64 z) → (part e #[.int .i64 u, .int .i64 v] k).run P w = .ok (.int .i64 z) w := fun u v k z hk => by
    unfold part
    simp only [Sem.run_bind, run_isAgg ha, Result.andThen_ok]
    simp [hk]
  have h0 : (Op.equalIn (n + 1) e (.int .i64 a) (.int .i64 c)).run P w = .ok (a == c) w := run_equalIn_int w n e .i64 .i64 a c he
  have h1 : (Op.equalIn (n + 1) e (.int .i64 b) (.int .i64 d)).run P w = .ok (b == d) w := run_equalIn_int w n e .i64 .i64 b d he
  rw [Op.equalIn]
  simp only [Sem.run_bind, run_underlying ht, Result.andThen_ok, run_sizeOf hs]
  simp [Std.Legacy.Range.forIn_eq_forIn_range', Std.Legacy.Range.size, List.range', hpart a b 0 a rfl, hpart a b 1 b rfl, hpart c d 0 c rfl, hpart c d 1 d rfl, h0, h1]
  by_cases h2 : a = c <;> by_cases h3 : b = d <;> simp [h2, h3]
theorem r_eqlP {a b c e2 : Int} (ht : P.underlying t = some (.array 2 e)) (he : P.underlying e = some (.int .i64)) (hs : (P.info? e).map (·.size) = some 1) (hg : P.eqGuardType P.depth t = false)
    (hx : ρ x = .agg [.int .i64 a, .int .i64 b].toArray) (hy : ρ y = .agg [.int .i64 c, .int .i64 e2].toArray) :
    (execOp ρ ⟨d, .binOp .eql t x y t', ty, pos, aft, g⟩).run P w = .ok (.value (.bool (decide ((a, b) = (c, e2))))) w := by
  have h1 := run_equalIn_pair (w := w) 9998 (a := a) (b := b) (c := c) (d := e2) ht he hs
  have h2 := run_eqGuard_agg (P := P) w .eql t x y #[.int .i64 a, .int .i64 b] #[.int .i64 c, .int .i64 e2] hg
  have h3 := run_eql_struct (P := P) w t #[.int .i64 a, .int .i64 b] #[.int .i64 c, .int .i64 e2]
  simp only [execOp, hx, hy, Sem.run_bind, h2, Result.andThen_ok, h3, h1]
  rfl
end
end Go.GL

/-! ### plain: sizes, copies -/
namespace Go.GL
def ndC (c : Cl) : Nd := ⟨c.r, c.l⟩
theorem map_getD {α β : Type} [Inhabited α] [Inhabited β] {f : α → β} (hf : f default = default) (xs : List α) (j : Nat) : (xs.map f).getD j default = f (xs.getD j default) := by
  simp only [List.getD, List.getElem?_map]
  cases xs[j]? with
  | none => exact hf.symm
  | some x => rfl
theorem ndC_getD (cs : List Cl) (j : Nat) : (cs.map ndC).getD j default = ⟨(cs.getD j default).r, (cs.getD j default).l⟩ := map_getD (f := ndC) rfl cs j
def SmallC (cs : List Cl) : Prop := Small (cs.map ndC)
theorem SmallC.len {cs : List Cl} (h : SmallC cs) : cs.length ≤ 1048576 := by have := Small.len h; simpa using this
theorem SmallC.opts {cs : List Cl} (h : SmallC cs) (j : Nat) (hj : j < cs.length) : (cs.getD j default).r.length ≤ 1048576 ∧ (cs.getD j default).l.length ≤ 1048576 := by
  have := Small.opts h j (by simpa using hj)
  rw [ndC_getD] at this
  exact this
theorem eqstepG {α : Type} {xs ys : List α} {d : α} {j : Nat} (hp : ∀ i, i < j → xs.getD i d = ys.getD i d) (h : xs.getD j d = ys.getD j d) : ∀ i, i < j + 1 → xs.getD i d = ys.getD i d := fun i hi => by
  by_cases he : i = j
  · subst he; exact h
  · exact hp i (by omega)
theorem eqdoneG {α : Type} {xs ys : List α} {d : α} {j : Nat} (hl : xs.length = ys.length) (hj : xs.length ≤ j) (hp : ∀ i, i < j → xs.getD i d = ys.getD i d) : xs = ys := by
  apply List.ext_getElem hl
  intro i h1 h2
  have := hp i (by omega)
  simpa [List.getD, h1, h2] using this

/-! ### claims: plain -/
def rightsP (as bs : List Nd) (r y : Int) : List (Int × Int) := ((as.getD r.toNat default).l.map fun l => (l, y)) ++ ((bs.getD y.toNat default).r.map fun k => (r, k))
def leftsP (as bs : List Nd) (x l : Int) : List (Int × Int) := ((as.getD x.toNat default).l.map fun k => (k, l)) ++ ((bs.getD l.toNat default).r.map fun r => (x, r))
def prC (c : Cl) : Int × Int := (c.a, c.b)
structure RightP (as bs : List Nd) (p : List Cl) (k : Nat) : Prop where
  ra : 0 ≤ (p.getD k default).a ∧ (p.getD k default).a < as.length
  rb : 0 ≤ (p.getD k default).b ∧ (p.getD k default).b < bs.length
  hr : (p.getD k default).r.length = (as.getD (p.getD k default).a.toNat default).r.length
  hl : (p.getD k default).l.length = (bs.getD (p.getD k default).b.toNat default).l.length
  rr : ∀ i, i < (as.getD (p.getD k default).a.toNat default).r.length → (0 ≤ (p.getD k default).r.getD i 0 ∧ (p.getD k default).r.getD i 0 < k) ∧
    prC (p.getD ((p.getD k default).r.getD i 0).toNat default) ∈ rightsP as bs ((as.getD (p.getD k default).a.toNat default).r.getD i 0) (p.getD k default).b
  ll : ∀ i, i < (bs.getD (p.getD k default).b.toNat default).l.length → (0 ≤ (p.getD k default).l.getD i 0 ∧ (p.getD k default).l.getD i 0 < k) ∧
    prC (p.getD ((p.getD k default).l.getD i 0).toNat default) ∈ leftsP as bs (p.getD k default).a ((bs.getD (p.getD k default).b.toNat default).l.getD i 0)
def AheadP (x y : Cl) : Prop := x.a < y.a ∨ x.a = y.a ∧ x.b < y.b
structure ProofP (as bs : List Nd) (p : List Cl) : Prop where
  n : 1 ≤ p.length ∧ p.length ≤ 200
  la : (p.getD (p.length - 1) default).a = (as.length : Int) - 1
  lb : (p.getD (p.length - 1) default).b = (bs.length : Int) - 1
  st : ∀ k, 1 ≤ k → k < p.length → AheadP (p.getD (k - 1) default) (p.getD k default)
  ok : ∀ k, k < p.length → RightP as bs p k
end Go.GL
namespace Go.GL
theorem map_next {α β : Type} {f : α → β} {l : List α} {q : Nat} (d : α) (h : q < l.length) : (l.take q).map f ++ [f (l.getD q d)] = (l.take (q + 1)).map f := by
  rw [take_snoc l d h, List.map_append, List.map_cons, List.map_nil]
theorem mem_rights {as bs : List Nd} {r y : Int} {a b : Int} : (a, b) ∈ rightsP as bs r y ↔ (b = y ∧ a ∈ (as.getD r.toNat default).l) ∨ (a = r ∧ b ∈ (bs.getD y.toNat default).r) := by
  unfold rightsP
  simp only [List.mem_append, List.mem_map, Prod.mk.injEq]
  constructor
  · rintro (⟨l, h1, rfl, rfl⟩ | ⟨k, h1, rfl, rfl⟩)
    · exact Or.inl ⟨rfl, h1⟩
    · exact Or.inr ⟨rfl, h1⟩
  · rintro (⟨rfl, h1⟩ | ⟨rfl, h1⟩)
    · exact Or.inl ⟨_, h1, rfl, rfl⟩
    · exact Or.inr ⟨_, h1, rfl, rfl⟩
theorem mem_lefts {as bs : List Nd} {x l : Int} {a b : Int} : (a, b) ∈ leftsP as bs x l ↔ (b = l ∧ a ∈ (as.getD x.toNat default).l) ∨ (a = x ∧ b ∈ (bs.getD l.toNat default).r) := mem_rights
theorem rights_length (as bs : List Nd) (r y : Int) : (rightsP as bs r y).length = (as.getD r.toNat default).l.length + (bs.getD y.toNat default).r.length := by unfold rightsP; simp
/-- Where an element stands first, -1 if it doesn't. -/
def idxG {α : Type} [DecidableEq α] (v : α) : Int → List α → Int
  | _, [] => -1
  | i, x :: r => if v = x then i else idxG v (i + 1) r
theorem idxG_hit {α : Type} [DecidableEq α] {v d : α} {l : List α} {j : Nat} (h : j < l.length) (h1 : v = l.getD j d) : idxG v j (l.drop j) = j := by
  rw [drop_getD l d h, idxG, if_pos h1]
theorem idxG_next {α : Type} [DecidableEq α] {v d : α} {l : List α} {j : Nat} (h : j < l.length) (h1 : ¬ v = l.getD j d) : idxG v j (l.drop j) = idxG v ((j + 1 : Nat) : Int) (l.drop (j + 1)) := by
  rw [drop_getD l d h, idxG, if_neg h1]; rfl
theorem idxG_end {α : Type} [DecidableEq α] {v : α} {l : List α} {j : Nat} (h : l.length ≤ j) : idxG v j (l.drop j) = -1 := by
  rw [List.drop_eq_nil_of_le h]; rfl
theorem idxG_mem {α : Type} [DecidableEq α] {v : α} : ∀ {l : List α} {i : Int}, 0 ≤ i → (0 ≤ idxG v i l ↔ v ∈ l)
  | [], i, h => by simp [idxG]
  | x :: r, i, h => by
    unfold idxG
    by_cases hx : v = x
    · rw [if_pos hx]; simp [hx, h]
    · rw [if_neg hx, idxG_mem (l := r) (by omega)]; simp [hx]
theorem mem_getD_of {α : Type} {l : List α} {j : Nat} {d : α} (h : j < l.length) : l.getD j d ∈ l := by
  simp [List.getD, h]
theorem not_mem_of {α : Type} {l : List α} {n d : α} (h : ∀ i, i < l.length → l.getD i d ≠ n) : n ∉ l := fun hm => by
  obtain ⟨i, hi, rfl⟩ := List.getElem_of_mem hm
  exact h i hi (by simp [List.getD, hi])
/-- The claim at a place answers. -/
def AnsP (ps : List Cl) (place before : Int) (l : List (Int × Int)) : Prop := 0 ≤ place ∧ place < before ∧ prC (ps.getD place.toNat default) ∈ l
end Go.GL
namespace Go.GL
theorem cl_ext {c d : Cl} (h1 : c.a = d.a) (h2 : c.b = d.b) (h3 : c.r = d.r) (h4 : c.l = d.l) : c = d := by
  obtain ⟨a, b, r, l⟩ := c
  obtain ⟨a', b', r', l'⟩ := d
  simp only at h1 h2 h3 h4
  subst h1 h2 h3 h4; rfl
end Go.GL
namespace Go.GL
noncomputable def cpB (as bs : List Nd) (ps : List Cl) : Bool := goodB as && (goodB bs && decP (ProofP as bs ps))
theorem cp_bad {as bs : List Nd} {ps : List Cl} (h : goodB as = false ∨ goodB bs = false) : cpB as bs ps = false ∧ (goodB as && goodB bs) = false := by
  unfold cpB
  rcases h with h | h <;> rw [h] <;> simp
theorem cp_no {as bs : List Nd} {ps : List Cl} (ha : goodB as = true) (hb : goodB bs = true) (h : ¬ ProofP as bs ps) : cpB as bs ps = false ∧ (goodB as && goodB bs) = true := by
  unfold cpB
  rw [ha, hb, decP_false.2 h]; exact ⟨rfl, rfl⟩
theorem cp_yes {as bs : List Nd} {ps : List Cl} (ha : goodB as = true) (hb : goodB bs = true) (h : ProofP as bs ps) : cpB as bs ps = true ∧ (goodB as && goodB bs) = true := by
  unfold cpB
  rw [ha, hb, decP_true.2 h]; exact ⟨rfl, rfl⟩
end Go.GL
