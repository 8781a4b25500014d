/- Small lemmas that the printed walks name. -/
import Derived.Test.YtndhhpaldhlghaaDoorBox
import Derived.Great.BuildSlice
namespace Go.GL
open Go Go.RowKit

/-! ### apart -/
section
variable {w w' : World} {v u v' : Value} {b c base : Nat}
/-- Two places have no block in common. -/
def Apart (x y : Option Nat) : Prop := ∀ k, x = some k → y = some k → False
theorem Apart.symm {x y : Option Nat} (h : Apart x y) : Apart y x := fun k a b => h k b a
theorem new_ne_own {x : Option Nat} (h : x = some w.heap.size) (hl : ∀ k, v.ownBlock = some k → base ≤ k ∧ k < w.heap.size) : Apart x v.ownBlock := fun k a e => by
  rw [h] at a; cases a
  have := (hl _ e).2; omega
theorem new_ne_box {x : Option Nat} (h : x = some w.heap.size) (hl : c < w.heap.size) : Apart x (some c) := fun k a e => by
  rw [h] at a; cases a
  cases e; omega
theorem app_ne_own (h : Apart v.ownBlock u.ownBlock) (hw : v'.ownBlock = u.ownBlock ∨ ∃ k, v'.ownBlock = some k ∧ w.heap.size ≤ k) (hl : ∀ k, v.ownBlock = some k → base ≤ k ∧ k < w.heap.size) : Apart v.ownBlock v'.ownBlock := fun k a e => by
  rcases hw with h1 | ⟨i, h1, h2⟩
  · exact h k a (h1 ▸ e)
  · have := (hl k a).2; rw [h1] at e; cases e; omega
theorem app_ne_box (h : Apart (some c) u.ownBlock) (hw : v'.ownBlock = u.ownBlock ∨ ∃ k, v'.ownBlock = some k ∧ w.heap.size ≤ k) (hl : c < w.heap.size) : Apart (some c) v'.ownBlock := fun k a e => by
  rcases hw with h1 | ⟨i, h1, h2⟩
  · exact h k a (h1 ▸ e)
  · cases a; rw [h1] at e; cases e; omega
/-- A row that a call has made lies apart from what was there. -/
theorem made_ne_own (h : ∀ k, u.ownBlock = some k → w.heap.size ≤ k ∧ k < w'.heap.size) (hl : ∀ k, v.ownBlock = some k → base ≤ k ∧ k < w.heap.size) : Apart u.ownBlock v.ownBlock := fun k a e => by
  have h1 := (h k a).1; have h2 := (hl k e).2; omega
theorem made_ne_box (h : ∀ k, u.ownBlock = some k → w.heap.size ≤ k ∧ k < w'.heap.size) (hl : c < w.heap.size) : Apart u.ownBlock (some c) := fun k a e => by
  have h1 := (h k a).1; cases e; omega
theorem Own.keptA {α : Type} {E : Elt α} {e : Nat} {G : Pin} {xs : List α} {row : Option Nat} (h : Own E e G w base v xs) (hg : w.grownBy w' row) (ha : Apart v.ownBlock row) : Own E e G w' base v xs :=
  h.kept hg (by
    cases hv : v.ownBlock with
    | none => exact Or.inl rfl
    | some k => exact Or.inr fun e => ha k hv e.symm)
theorem Bx.keptA {G : Pin} {cs : List Value} {row : Option Nat} (h : Bx G w b cs) (hg : w.grownBy w' row) (ha : Apart (some b) row) : Bx G w' b cs :=
  h.kept hg fun e => ha b rfl e.symm
theorem Own.moreA {α : Type} {E : Elt α} {e : Nat} {G G' : Pin} {xs : List α} {b : Nat} (h : Own E e G w base v xs) (hl : Pin.le G G') (hf : ∀ k o u, G' k o u → G k o u ∨ k = b) (ha : Apart v.ownBlock (some b)) : Own E e G' w base v xs :=
  h.mono hl fun k hk o u hu => by
    rcases hf k o u hu with h1 | h1
    · exact h.free k hk o u h1
    · subst h1; exact ha k hk rfl
theorem Bx.moreA {G G' : Pin} {cs : List Value} (h : Bx G w b cs) (hf : ∀ k o u, G' k o u → G k o u ∨ k = c) (ha : Apart (some b) (some c)) : Bx G' w b cs :=
  h.more hf fun e => ha b rfl (by rw [e])
end

section
variable {α : Type} {E : Elt α} {e : Nat} {G G' : Pin} {w : World} {base : Nat} {v u : Value} {xs : List α} {b : Nat} {cs : List Value}
theorem RSl.one (h : RSl E G v xs) : v.oneCell' = true := by obtain ⟨a, c, rfl, _⟩ := h.sl; rfl
theorem Own.one (h : Own E e G w base v xs) : v.oneCell' = true := h.read.one
theorem Own.sealed {S : Nat → Prop} {w0 : World} {G0 : Pin} (h : Own E e G w w0.heap.size v xs) (hx : Ext S G0 w0 G w) :
    ∃ G', Pin.le G G' ∧ Ext S G0 w0 G' w ∧ RSl E G' v xs ∧ (∀ k o u, G' k o u → G k o u ∨ v.ownBlock = some k) :=
  ⟨Gadd G w v, Gadd.le _ _ _, (h.shut hx).2, (h.shut hx).1, fun k o u hu => by
    rcases hu with hu | hu
    · exact Or.inl hu
    · exact Or.inr hu.1⟩
theorem Own.moreO (h : Own E e G w base u xs) (hl : Pin.le G G') (hf : ∀ k o x, G' k o x → G k o x ∨ v.ownBlock = some k) (hne : Apart u.ownBlock v.ownBlock) : Own E e G' w base u xs :=
  h.mono hl fun k hk o x hu => by
    rcases hf k o x hu with h1 | h1
    · exact h.free k hk o x h1
    · exact hne k hk h1
theorem Bx.moreO (h : Bx G w b cs) (hf : ∀ k o x, G' k o x → G k o x ∨ v.ownBlock = some k) (hne : Apart (some b) v.ownBlock) : Bx G' w b cs :=
  ⟨h.heap, fun o x hu => by
    rcases hf b o x hu with h1 | h1
    · exact h.free o x h1
    · exact hne b rfl h1⟩
/-- What a box holds, as a condition on the world. -/
def BxR (w : World) (b : Nat) (cs : List Value) : Prop := ∀ o u, cs[o]? = some u → w.cell? ⟨b, o, none⟩ = some u
theorem Bx.reads (h : Bx G w b cs) : BxR w b cs := fun _ _ hu => h.cell hu
theorem nil_reads (E : Elt α) (G : Pin) : RSl E G (.slice none 0 0) [] := ⟨⟨none, 0, rfl, Nat.le_refl _, Nat.zero_le _⟩, fun i x hx => by simp at hx⟩
end
theorem zero_sl {α : Type} {E : Elt α} (G : Pin) : (eSl E).rep G (Value.cells (.slice none 0 0)).toList [] := ⟨_, rfl, nil_reads E G⟩
theorem zero_node (G : Pin) : eNode.rep G (Value.cells (.agg #[.slice none 0 0, .slice none 0 0])).toList ⟨[], []⟩ := ⟨_, _, rfl, nil_reads _ _, nil_reads _ _⟩

theorem ones1 {a : Value} (ha : a.oneCell' = true) : ∀ u ∈ [a], u.oneCell' = true := fun u hu => by simp at hu; subst hu; exact ha
theorem ones2 {a b : Value} (ha : a.oneCell' = true) (hb : b.oneCell' = true) : ∀ u ∈ [a, b], u.oneCell' = true := fun u hu => by
  simp at hu; rcases hu with rfl | rfl <;> assumption
theorem ones3 {a b c : Value} (ha : a.oneCell' = true) (hb : b.oneCell' = true) (hc : c.oneCell' = true) : ∀ u ∈ [a, b, c], u.oneCell' = true := fun u hu => by
  simp at hu; rcases hu with rfl | rfl | rfl <;> assumption
theorem ones4 {a b c d : Value} (ha : a.oneCell' = true) (hb : b.oneCell' = true) (hc : c.oneCell' = true) (hd : d.oneCell' = true) : ∀ u ∈ [a, b, c, d], u.oneCell' = true := fun u hu => by
  simp at hu; rcases hu with rfl | rfl | rfl | rfl <;> assumption

/-- One-cell elements, side by side. -/
def RepsF {α : Type} (E : Elt α) (G : Pin) (vs : List Value) (ys : List α) : Prop := ∀ (i : Nat) (y : α), ys[i]? = some y → ∃ v, vs[i]? = some v ∧ E.rep G [v] y
section
variable {α : Type} {E : Elt α} {G : Pin} {v1 v2 v3 v4 : Value} {y1 y2 y3 y4 : α}
theorem reps1 (h1 : E.rep G [v1] y1) : RepsF E G [v1] [y1] := fun i y hy => by
  match i, hy with
  | 0, hy => simp at hy; subst hy; exact ⟨_, rfl, h1⟩
theorem reps2 (h1 : E.rep G [v1] y1) (h2 : E.rep G [v2] y2) : RepsF E G [v1, v2] [y1, y2] := fun i y hy => by
  match i, hy with
  | 0, hy => simp at hy; subst hy; exact ⟨_, rfl, h1⟩
  | 1, hy => simp at hy; subst hy; exact ⟨_, rfl, h2⟩
theorem reps3 (h1 : E.rep G [v1] y1) (h2 : E.rep G [v2] y2) (h3 : E.rep G [v3] y3) : RepsF E G [v1, v2, v3] [y1, y2, y3] := fun i y hy => by
  match i, hy with
  | 0, hy => simp at hy; subst hy; exact ⟨_, rfl, h1⟩
  | 1, hy => simp at hy; subst hy; exact ⟨_, rfl, h2⟩
  | 2, hy => simp at hy; subst hy; exact ⟨_, rfl, h3⟩
theorem reps4 (h1 : E.rep G [v1] y1) (h2 : E.rep G [v2] y2) (h3 : E.rep G [v3] y3) (h4 : E.rep G [v4] y4) : RepsF E G [v1, v2, v3, v4] [y1, y2, y3, y4] := fun i y hy => by
  match i, hy with
  | 0, hy => simp at hy; subst hy; exact ⟨_, rfl, h1⟩
  | 1, hy => simp at hy; subst hy; exact ⟨_, rfl, h2⟩
  | 2, hy => simp at hy; subst hy; exact ⟨_, rfl, h3⟩
  | 3, hy => simp at hy; subst hy; exact ⟨_, rfl, h4⟩
end

/-! ### loads whose value has a name -/
section
variable {G : Pin} {v : Value} {z : Int}
theorem name_node {xs : List Nd} (hv : RSl eNode G v xs) {j : Nat} (hj : z.toNat = j) (h0 : 0 ≤ z) (h1 : z < xs.length) :
    ∃ l r, RSl eInt G l (xs.getD j default).l ∧ RSl eInt G r (xs.getD j default).r ∧
      ∀ {P : Program} {w : World} {d : Option Nat} {t ty : Nat} {pos : String} {aft : Array Edge} {g : Option (Nat × Bool)} {x : Operand} {ρ : Operand → Value} (_ : (P.underlying t).map aggD = some true) (_ : (P.info? t).map (·.size) = some 2)
        (_ : ρ x = eptr v z 2 0) (_ : Pins G w), (execOp ρ ⟨d, .load t x, ty, pos, aft, g⟩).run P w = .ok (.value (.agg [l, r].toArray)) w := by
  obtain ⟨b, o, cs, e, he, hr, hp, hc⟩ := hv.cells h0 h1
  rw [hj] at he
  obtain ⟨l, r, hcs, hl, hrr⟩ := hr
  have hx : xs.getD j default = e := by rw [List.getD, he]; rfl
  refine ⟨l, r, by rw [hx]; exact hl, by rw [hx]; exact hrr, ?_⟩
  intro P w d t ty pos aft g x ρ ha hs hρ hP
  have hpp := hp 0
  simp only [eNode] at hpp
  refine r_ldpA (cs := [l, r]) (b := b) (o := o) ha hs (hρ.trans hpp) fun i u hi => ?_
  exact hP _ _ _ (hc i u (by rw [hcs]; exact hi))
theorem name_nl {xs : List Nd} (hv : RSl eNode G v xs) {j : Nat} (hj : z.toNat = j) (h0 : 0 ≤ z) (h1 : z < xs.length) :
    ∃ l, RSl eInt G l (xs.getD j default).l ∧
      ∀ {P : Program} {w : World} {d : Option Nat} {t ty : Nat} {pos : String} {aft : Array Edge} {g : Option (Nat × Bool)} {x : Operand} {ρ : Operand → Value} (_ : (P.underlying t).map aggD = some false)
        (_ : ρ x = eptr v z 2 0) (_ : Pins G w), (execOp ρ ⟨d, .load t x, ty, pos, aft, g⟩).run P w = .ok (.value l) w := by
  obtain ⟨b, o, cs, e, he, hr, hp, hc⟩ := hv.cells h0 h1
  rw [hj] at he
  obtain ⟨l, r, hcs, hl, hrr⟩ := hr
  have hx : xs.getD j default = e := by rw [List.getD, he]; rfl
  refine ⟨l, by rw [hx]; exact hl, ?_⟩
  intro P w d t ty pos aft g x ρ ha hρ hP
  have hpp := hp 0
  simp only [eNode] at hpp
  exact r_ldp1 (b := b) (o := o) ha (hρ.trans hpp) (hP _ _ _ (hc 0 l (by rw [hcs]; rfl)))
theorem name_nr {xs : List Nd} (hv : RSl eNode G v xs) {j : Nat} (hj : z.toNat = j) (h0 : 0 ≤ z) (h1 : z < xs.length) :
    ∃ r, RSl eInt G r (xs.getD j default).r ∧
      ∀ {P : Program} {w : World} {d : Option Nat} {t ty : Nat} {pos : String} {aft : Array Edge} {g : Option (Nat × Bool)} {x : Operand} {ρ : Operand → Value} (_ : (P.underlying t).map aggD = some false)
        (_ : ρ x = eptr v z 2 1) (_ : Pins G w), (execOp ρ ⟨d, .load t x, ty, pos, aft, g⟩).run P w = .ok (.value r) w := by
  obtain ⟨b, o, cs, e, he, hr, hp, hc⟩ := hv.cells h0 h1
  rw [hj] at he
  obtain ⟨l, r, hcs, hl, hrr⟩ := hr
  have hx : xs.getD j default = e := by rw [List.getD, he]; rfl
  refine ⟨r, by rw [hx]; exact hrr, ?_⟩
  intro P w d t ty pos aft g x ρ ha hρ hP
  have hpp := hp 1
  simp only [eNode] at hpp
  exact r_ldp1 (b := b) (o := o + 1) ha (hρ.trans hpp) (hP _ _ _ (hc 1 r (by rw [hcs]; rfl)))
theorem name_sl {β : Type} {F : Elt β} {xs : List (List β)} (hv : RSl (eSl F) G v xs) {j : Nat} (hj : z.toNat = j) (h0 : 0 ≤ z) (h1 : z < xs.length) :
    ∃ u, RSl F G u (xs.getD j []) ∧
      ∀ {P : Program} {w : World} {d : Option Nat} {t ty : Nat} {pos : String} {aft : Array Edge} {g : Option (Nat × Bool)} {x : Operand} {ρ : Operand → Value} (_ : (P.underlying t).map aggD = some false)
        (_ : ρ x = eptr v z 1 0) (_ : Pins G w), (execOp ρ ⟨d, .load t x, ty, pos, aft, g⟩).run P w = .ok (.value u) w := by
  obtain ⟨b, o, cs, e, he, hr, hp, hc⟩ := hv.cells h0 h1
  rw [hj] at he
  obtain ⟨u, hcs, hu⟩ := hr
  have hx : xs.getD j [] = e := by rw [List.getD, he]; rfl
  refine ⟨u, by rw [hx]; exact hu, ?_⟩
  intro P w d t ty pos aft g x ρ ha hρ hP
  have hpp := hp 0
  simp only [eSl] at hpp
  exact r_ldp1 (b := b) (o := o) ha (hρ.trans hpp) (hP _ _ _ (hc 0 u (by rw [hcs]; rfl)))
theorem name_form {β : Type} {F : Elt β} {xs : List (List β)} (hv : RSl (eSl F) G v xs) {j : Nat} (hj : z.toNat = j) (h0 : 0 ≤ z) (h1 : z < xs.length) :
    ∃ u, RSl F G u (xs.getD j []) ∧
      ∀ {P : Program} {w : World} {d : Option Nat} {t ty : Nat} {pos : String} {aft : Array Edge} {g : Option (Nat × Bool)} {x : Operand} {ρ : Operand → Value} (_ : (P.underlying t).map aggD = some true) (_ : (P.info? t).map (·.size) = some 1)
        (_ : ρ x = eptr v z 1 0) (_ : Pins G w), (execOp ρ ⟨d, .load t x, ty, pos, aft, g⟩).run P w = .ok (.value (.agg [u].toArray)) w := by
  obtain ⟨b, o, cs, e, he, hr, hp, hc⟩ := hv.cells h0 h1
  rw [hj] at he
  obtain ⟨u, hcs, hu⟩ := hr
  have hx : xs.getD j [] = e := by rw [List.getD, he]; rfl
  refine ⟨u, by rw [hx]; exact hu, ?_⟩
  intro P w d t ty pos aft g x ρ ha hs hρ hP
  have hpp := hp 0
  simp only [eSl] at hpp
  refine r_ldpA (cs := [u]) (b := b) (o := o) ha hs (hρ.trans hpp) fun i q hi => ?_
  exact hP _ _ _ (hc i q (by rw [hcs]; exact hi))
end

/-! ### literals -/
section
variable {P : Program} {ρ : Operand → Value} {w : World} {K : Value → World → Prop} {d : Option Nat} {t ty e : Nat} {pos : String} {aft : Array Edge} {g : Option (Nat × Bool)}
  {α : Type} {E : Elt α} {G : Pin}
theorem o_build0 (ht : P.underlying t = some (.slice e)) (hs : (P.info? e).map (·.size) = some E.size) (hP : Pins G w)
    (h : ∀ v w', Own E e G w' w.heap.size v ([] : List α) → Pins G w' → Below w.heap.size w w' → v.ownBlock = some w.heap.size → K v w') : EO P ρ ⟨d, .buildSlice t 0 #[], ty, pos, aft, g⟩ w K := by
  obtain ⟨inf, hinf, hsz⟩ := Option.map_eq_some_iff.1 hs
  have hrun : (Instr.buildSlice t 0 ((#[] : Array (Nat × Operand)).map fun (i, x) => (i, ρ x))).run P w = .ok (.slice (some ⟨w.heap.size, 0, none⟩) 0 0) (w.alloc (.cells ([] : List Value).toArray e)) := by
    simp [Instr.buildSlice, run_underlying ht, sizeOf, typeInfo, hinf, Instr.fill, newRow]
    have : Array.range 0 = #[] := by decide
    simp [this]
  obtain ⟨v, w', h1, h2, h3, h4, h5⟩ := run_build (E := E) (d := d) (ty := ty) (pos := pos) (aft := aft) (g := g) 0 #[] [] ([] : List α) hrun hP rfl (by omega) (by simp) (fun i y hy => by simp at hy)
  exact EO.run h1 (h v w' h2 h3 h4 h5)
theorem cells_one {v : Value} (h : v.oneCell' = true) : v.cells = #[v] := by cases v <;> first | rfl | cases h
/-- Elements of one cell. -/
theorem o_buildF {n : Nat} {parts : Array (Nat × Operand)} (vs : List Value) (ys : List α) {z : Value} (ht : P.underlying t = some (.slice e)) (hs : (P.info? e).map (·.size) = some 1) (hz : (P.info? e).bind (·.zero) = some z)
    (hr : RepsF E G vs ys) (hone : ∀ u ∈ vs, u.oneCell' = true) (hn : n = vs.length) (hn2 : n = ys.length) (hE : E.size = 1)
    (hpt' : (parts.toList.map fun (i, x) => (i, ρ x)) = (vs.zipIdx 0).map fun x => (x.2, x.1)) (hpos : 0 < n ∧ n ≤ 1000000) (hP : Pins G w)
    (h : ∀ v w', Own E e G w' w.heap.size v ys → Pins G w' → Below w.heap.size w w' → v.ownBlock = some w.heap.size → K v w') : EO P ρ ⟨d, .buildSlice t n parts, ty, pos, aft, g⟩ w K := by
  have hpt := (Array.toList_map ..).trans hpt'
  obtain ⟨inf, hinf, hsz⟩ := Option.map_eq_some_iff.1 hs
  have hzz : inf.zero = some z := by simpa [hinf] using hz
  have hrun := run_buildSlice (P := P) w t e n (parts.map fun (i, x) => (i, ρ x)) vs.toArray inf z ht hinf hzz (by rw [hsz]; omega) (by rw [hsz]; omega)
    (by rw [hpt, hsz]; exact Great.fill_flat _ _ (fun v hv => cells_one (hone v hv)) (by simp [hn]))
  obtain ⟨v, w', h1, h2, h3, h4, h5⟩ := run_build (E := E) (d := d) (ty := ty) (pos := pos) (aft := aft) (g := g) n parts vs ys hrun hP hn2 (by omega) (by rw [hE]; omega) (fun i y hy => by
    obtain ⟨v, hv, hrep⟩ := hr i y hy
    have : (vs.drop (i * E.size)).take E.size = [v] := by
      rw [hE, Nat.mul_one]
      apply List.ext_getElem?
      intro j
      rw [List.getElem?_take, List.getElem?_drop]
      match j with
      | 0 => simpa using hv
      | j + 1 => simp
    rw [this]; exact hrep)
  exact EO.run h1 (h v w' h2 h3 h4 h5)
/-- One element, of many cells. -/
theorem o_build1 {x : Operand} (cells : List Value) (y : α) {z : Value} (ht : P.underlying t = some (.slice e)) (hs : (P.info? e).map (·.size) = some E.size) (hz : (P.info? e).bind (·.zero) = some z)
    (hr : E.rep G cells y) (hx : ρ x = .agg cells.toArray) (hpos : 0 < E.size ∧ E.size ≤ 1000) (hP : Pins G w)
    (h : ∀ v w', Own E e G w' w.heap.size v [y] → Pins G w' → Below w.heap.size w w' → v.ownBlock = some w.heap.size → K v w') : EO P ρ ⟨d, .buildSlice t 1 #[(0, x)], ty, pos, aft, g⟩ w K := by
  obtain ⟨inf, hinf, hsz⟩ := Option.map_eq_some_iff.1 hs
  have hzz : inf.zero = some z := by simpa [hinf] using hz
  have hcl := E.len hr
  have hrun := run_buildSlice (P := P) w t e 1 ((#[(0, x)] : Array (Nat × Operand)).map fun (i, x) => (i, ρ x)) cells.toArray inf z ht hinf hzz (by rw [hsz]; omega) (by rw [hsz]; omega) (by
    have hw := Great.fill_whole (s := inf.size) (by rw [hsz]; exact hpos.1) [Value.agg cells.toArray] ((Array.range (1 * inf.size)).map (z.cells[· % z.cells.size]!)) (by intro v hv; simp at hv; subst hv; simp [Value.cells, hcl, hsz]) (by simp)
    have he : ((#[(0, x)] : Array (Nat × Operand)).map fun (i, x) => (i, ρ x)).toList = (([Value.agg cells.toArray]).zipIdx 0).map fun x => (x.2, x.1) := by simp [hx]
    rw [he, hw]
    simp [Value.cells])
  obtain ⟨v, w', h1, h2, h3, h4, h5⟩ := run_build (E := E) (d := d) (ty := ty) (pos := pos) (aft := aft) (g := g) 1 #[(0, x)] cells [y] hrun hP rfl (by omega) (by omega) (fun i q hq => by
    match i, hq with
    | 0, hq => simp at hq; subst hq; simp only [Nat.zero_mul, List.drop_zero]; rw [← hcl, List.take_length]; exact hr)
  exact EO.run h1 (h v w' h2 h3 h4 h5)
end

/-! ### ways -/
section
variable {P : Program} {ops : Array Oper} {Q : Exit → Act → World → Prop} {n : Nat} {env : Nat → Value} {w : World} {l : List Oper} {t : Nat}
theorem qbd {p : Prop} [Decidable p] (he : env t = .bool (decide p)) (h1 : p → WL P ops Q l (F n (upd env t (.bool true))) w) (h2 : ¬ p → WL P ops Q l (F n (upd env t (.bool false))) w) : WL P ops Q l (F n env) w :=
  qb he (fun h => h1 (of_decide_eq_true h)) (fun h => h2 (of_decide_eq_false h))
theorem qbn {b : Bool} (he : env t = .bool (!b)) (h1 : b = true → WL P ops Q l (F n (upd env t (.bool false))) w) (h2 : b = false → WL P ops Q l (F n (upd env t (.bool true))) w) : WL P ops Q l (F n env) w :=
  qb he (fun h => h2 (by simpa using h)) (fun h => h1 (by simpa using h))
variable {S : World → Prop} {last fuel : Nat} {listed : Array Bool}
theorem drb {b : Bool} (he : env t = .bool b) (h1 : b = true → DR P ops Q S last fuel listed (F n (upd env t (.bool true))) w) (h2 : b = false → DR P ops Q S last fuel listed (F n (upd env t (.bool false))) w) : DR P ops Q S last fuel listed (F n env) w := by
  cases b
  · have := h2 rfl; rwa [upd_same he] at this
  · have := h1 rfl; rwa [upd_same he] at this
theorem drbd {p : Prop} [Decidable p] (he : env t = .bool (decide p)) (h1 : p → DR P ops Q S last fuel listed (F n (upd env t (.bool true))) w) (h2 : ¬ p → DR P ops Q S last fuel listed (F n (upd env t (.bool false))) w) : DR P ops Q S last fuel listed (F n env) w :=
  drb he (fun h => h1 (of_decide_eq_true h)) (fun h => h2 (of_decide_eq_false h))
theorem drbn {b : Bool} (he : env t = .bool (!b)) (h1 : b = true → DR P ops Q S last fuel listed (F n (upd env t (.bool false))) w) (h2 : b = false → DR P ops Q S last fuel listed (F n (upd env t (.bool true))) w) : DR P ops Q S last fuel listed (F n env) w :=
  drb he (fun h => h2 (by simpa using h)) (fun h => h1 (by simpa using h))
theorem c_ifn {c : Operand} {x y : Code} {b : Bool} (hok : okX n c = true) (hc : ev env c = .bool (!b)) (h1 : b = true → y.wp P Q (F n env) w) (h2 : b = false → x.wp P Q (F n env) w) : (Code.cond c x y).wp P Q (F n env) w :=
  c_if hok hc (fun h => h2 (by simpa using h)) (fun h => h1 (by simpa using h))
theorem c_ret3 {fn : Func} {R : Ending → World → Prop} {i j k : Nat} {v u x : Value} (hr : fn.results = #[.tmp i, .tmp j, .tmp k]) (hi : Nat.blt i n = true) (hj : Nat.blt j n = true) (hk : Nat.blt k n = true) (hv : env i = v) (hu : env j = u) (hx : env k = x) (h : R (.returned (.tuple #[v, u, x])) w) : bodyPost P fn R .ret (F n env) w := by
  have h1 : i < n := by simpa [Nat.blt_eq] using hi
  have h2 : j < n := by simpa [Nat.blt_eq] using hj
  have h3 : k < n := by simpa [Nat.blt_eq] using hk
  refine bodyPost_ret (v := .tuple #[v, u, x]) ?_ rfl h
  simp [results, hr, F, h1, h2, h3, hv, hu, hx]
end
end Go.GL
/-! ### what stands around a piece of code, as a list -/
namespace Go.GL
open Go Go.RowKit
abbrev CI := Sum Code (Sum Nat ((Nat → (Nat → Value) → World → Prop) × Nat × Nat))
def CQ (P : Program) (Q : Exit → Act → World → Prop) : List CI → Exit → Act → World → Prop
  | [] => Q
  | .inl y :: c => Exit.then (y.wp P (CQ P Q c)) (CQ P Q c)
  | .inr (.inl id) :: c => Exit.inBlock id (CQ P Q c)
  | .inr (.inr (I, n, k)) :: c => Exit.then (fun a' w' => ∃ k', k' < k ∧ ∃ env', a' = F n env' ∧ I k' env' w') (CQ P Q c)
section
variable {P : Program} {Q : Exit → Act → World → Prop} {c : List CI} {a : Act} {n : Nat} {env : Nat → Value} {w : World}
theorem s_enter {f : FuncId} {fn : Func} {b : Code} {l : List Value} {R : Ending → World → Prop} (hf : P.funcs[f]? = some fn) (hn : fn.ntmps = n) (hl : Nat.ble l.length n = true) (hb : fn.body = some b)
    (h : b.wp P (CQ P (bodyPost P fn R) []) (F n (envOf l)) w) : Calls P f l.toArray w R := enter hf hn hl hb h
theorem s_seq {x y : Code} (h : x.wp P (CQ P Q (.inl y :: c)) a w) : (Code.seq x y).wp P (CQ P Q c) a w := wp_seq h
theorem s_blk {id : Nat} {x : Code} (h : x.wp P (CQ P Q (.inr (.inl id) :: c)) a w) : (Code.block id x).wp P (CQ P Q c) a w := wp_block h
theorem s_loop {b : Code} (I : Nat → (Nat → Value) → World → Prop) (k0 : Nat) (h0 : I k0 env w)
    (round : ∀ k env w, I k env w → b.wp P (CQ P Q (.inr (.inr (I, n, k)) :: c)) (F n env) w) : (Code.loop b).wp P (CQ P Q c) (F n env) w := c_loop I k0 h0 round
theorem s_then {y : Code} (h : y.wp P (CQ P Q c) a w) : CQ P Q (.inl y :: c) .normal a w := h
theorem s_thenE {y : Code} {id : Nat} (h : CQ P Q c (.exit id) a w) : CQ P Q (.inl y :: c) (.exit id) a w := h
theorem s_blkN {id : Nat} (h : CQ P Q c .normal a w) : CQ P Q (.inr (.inl id) :: c) .normal a w := h
theorem s_blkE {id : Nat} (h : CQ P Q c .normal a w) : CQ P Q (.inr (.inl id) :: c) (.exit id) a w := c_blkE h
theorem s_blkO {id id' : Nat} (hne : Nat.beq id' id = false) (h : CQ P Q c (.exit id') a w) : CQ P Q (.inr (.inl id) :: c) (.exit id') a w := c_blkO hne h
theorem s_lopN {I : Nat → (Nat → Value) → World → Prop} {k : Nat} (h : ∃ k', k' < k ∧ ∃ env', F n env = F n env' ∧ I k' env' w) : CQ P Q (.inr (.inr (I, n, k)) :: c) .normal (F n env) w := h
theorem s_lopE {I : Nat → (Nat → Value) → World → Prop} {m k id : Nat} (h : CQ P Q c (.exit id) a w) : CQ P Q (.inr (.inr (I, m, k)) :: c) (.exit id) a w := h
/-- All ways out of a loop meet in one state. -/
def CutE (M : (Nat → Value) → World → Prop) (n id : Nat) : Exit → Act → World → Prop := fun x a w => x = .exit id ∧ ∃ env, a = F n env ∧ M env w
theorem c_cutE {x : Code} (M : (Nat → Value) → World → Prop) (id : Nat) (h : ∀ en w, M en w → CQ P Q c (.exit id) (F n en) w) (hr : x.wp P (CQ P (CutE M n id) []) (F n env) w) : x.wp P (CQ P Q c) (F n env) w :=
  wp_mono hr fun x a w hc => by
    obtain ⟨rfl, en, rfl, hm⟩ := hc
    exact h en w hm
theorem cutE_in {M : (Nat → Value) → World → Prop} {id : Nat} (h : M env w) : CQ P (CutE M n id) [] (.exit id) (F n env) w := ⟨rfl, env, rfl, h⟩
theorem s_ret (h : Q .ret a w) : CQ P Q c .ret a w := by
  induction c with
  | nil => exact h
  | cons x c ih =>
    rcases x with y | id | ⟨I, m, k⟩
    · exact ih
    · exact ih
    · exact ih
theorem s_fin (h : Q .normal a w) : CQ P Q [] .normal a w := h
end
end Go.GL
