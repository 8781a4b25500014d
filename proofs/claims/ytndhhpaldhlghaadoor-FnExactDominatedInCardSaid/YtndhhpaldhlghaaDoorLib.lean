/- The library of own rules: how slices, strings and owned rows are read and written in the model's memory, over any program. -/
import Derived.WalkKit
import Derived.WalkSpells
import Derived.WalkLawsBesides
import Derived.Deep.QuietTactic
import Derived.BigQuiet
import Derived.Lib.Hide
import Derived.Test.YtndhhpaldhlghaaDoorPlain
namespace Go.GL
open Go Go.RowKit

/-- Cells whose values are promised: block, place, value. -/
def Pin := Nat → Nat → Value → Prop
def Pin.le (G G' : Pin) : Prop := ∀ b o u, G b o u → G' b o u
def Pins (G : Pin) (w : World) : Prop := ∀ b o u, G b o u → w.cell? ⟨b, o, none⟩ = some u
theorem Pin.le_refl (G : Pin) : Pin.le G G := fun _ _ _ h => h
theorem Pin.le_trans {A B C : Pin} (h : Pin.le A B) (k : Pin.le B C) : Pin.le A C := fun b o u x => k b o u (h b o u x)
theorem block_lt {w : World} {b o : Nat} {u : Value} (h : w.cell? ⟨b, o, none⟩ = some u) : b < w.heap.size :=
  World.block_lt_of_cell? w ⟨b, o, none⟩ h

/-- How elements of one Go type lie in cells. -/
structure Elt (α : Type) where
  size : Nat
  rep : Pin → List Value → α → Prop
  mono : ∀ {G G' : Pin} {cs : List Value} {x : α}, Pin.le G G' → rep G cs x → rep G' cs x
  len : ∀ {G : Pin} {cs : List Value} {x : α}, rep G cs x → cs.length = size
  one : ∀ {G : Pin} {cs : List Value} {x : α}, rep G cs x → ∀ u ∈ cs, u.oneCell' = true

def slen : Value → Nat
  | .slice _ n _ => n
  | _ => 0
/-- The address of the cell 'off' of element 'z' of a slice, elements of 'size' cells. -/
def eptr (v : Value) (z : Int) (size off : Nat) : Value :=
  match v with
  | .slice (some a) _ _ => .pointer (some (a.add (z.toNat * size + off)))
  | _ => .pointer none

/-- A slice that reads as a list, from promised cells. -/
structure RSl {α : Type} (E : Elt α) (G : Pin) (v : Value) (xs : List α) : Prop where
  sl : ∃ a c, v = .slice a xs.length c ∧ xs.length ≤ c ∧ c ≤ maxLen
  at_ : ∀ i x, xs[i]? = some x → ∃ a b o n c cs, v = .slice (some a) n c ∧ (∀ k, a.add (i * E.size + k) = ⟨b, o + k, none⟩) ∧ E.rep G cs x ∧ ∀ j u, cs[j]? = some u → G b (o + j) u

theorem RSl.mono {α : Type} {E : Elt α} {G G' : Pin} {v : Value} {xs : List α} (h : RSl E G v xs) (hg : Pin.le G G') : RSl E G' v xs :=
  ⟨h.sl, fun i x hx => by
    obtain ⟨a, b, o, n, c, cs, h1, h2, h3, h4⟩ := h.at_ i x hx
    exact ⟨a, b, o, n, c, cs, h1, h2, E.mono hg h3, fun j u hu => hg _ _ _ (h4 j u hu)⟩⟩

theorem RSl.slen {α : Type} {E : Elt α} {G : Pin} {v : Value} {xs : List α} (h : RSl E G v xs) : slen v = xs.length := by
  obtain ⟨a, c, rfl, _⟩ := h.sl; rfl
theorem RSl.max {α : Type} {E : Elt α} {G : Pin} {v : Value} {xs : List α} (h : RSl E G v xs) : xs.length ≤ 9223372036854775807 := by
  obtain ⟨a, c, rfl, h1, h2⟩ := h.sl; unfold maxLen at h2; omega

def eInt : Elt Int where
  size := 1
  rep := fun _ cs n => cs = [.int .i64 n]
  mono := fun _ h => h
  len := fun h => by rw [h]; rfl
  one := fun h u hu => by rw [h] at hu; simp at hu; subst hu; rfl
def eByte : Elt UInt8 where
  size := 1
  rep := fun _ cs n => cs = [.int .u8 n.toNat]
  mono := fun _ h => h
  len := fun h => by rw [h]; rfl
  one := fun h u hu => by rw [h] at hu; simp at hu; subst hu; rfl
def eBool : Elt Bool where
  size := 1
  rep := fun _ cs n => cs = [.bool n]
  mono := fun _ h => h
  len := fun h => by rw [h]; rfl
  one := fun h u hu => by rw [h] at hu; simp at hu; subst hu; rfl
def eStr : Elt ByteArray where
  size := 1
  rep := fun _ cs n => cs = [.string n]
  mono := fun _ h => h
  len := fun h => by rw [h]; rfl
  one := fun h u hu => by rw [h] at hu; simp at hu; subst hu; rfl
def eSl {α : Type} (E : Elt α) : Elt (List α) where
  size := 1
  rep := fun G cs xs => ∃ v, cs = [v] ∧ RSl E G v xs
  mono := fun hg ⟨v, h1, h2⟩ => ⟨v, h1, h2.mono hg⟩
  len := fun ⟨v, h1, h2⟩ => by rw [h1]; rfl
  one := fun ⟨v, h1, h2⟩ u hu => by
    obtain ⟨a, c, h3, _⟩ := h2.sl
    rw [h1] at hu; simp at hu; subst hu; subst h3; rfl
/-- Two things side by side. -/
def ePair {α β : Type} (A : Elt α) (B : Elt β) : Elt (α × β) where
  size := A.size + B.size
  rep := fun G cs x => ∃ c d, cs = c ++ d ∧ A.rep G c x.1 ∧ B.rep G d x.2
  mono := fun hg ⟨c, d, h1, h2, h3⟩ => ⟨c, d, h1, A.mono hg h2, B.mono hg h3⟩
  len := fun ⟨c, d, h1, h2, h3⟩ => by rw [h1, List.length_append, A.len h2, B.len h3]
  one := fun ⟨c, d, h1, h2, h3⟩ u hu => by
    rw [h1, List.mem_append] at hu
    rcases hu with hu | hu
    · exact A.one h2 u hu
    · exact B.one h3 u hu

def eNode : Elt Nd where
  size := 2
  rep := fun G cs n => ∃ u v, cs = [u, v] ∧ RSl eInt G u n.l ∧ RSl eInt G v n.r
  mono := fun hg ⟨u, v, h1, h2, h3⟩ => ⟨u, v, h1, h2.mono hg, h3.mono hg⟩
  len := fun ⟨u, v, h1, h2, h3⟩ => by rw [h1]; rfl
  one := fun ⟨u, v, h1, h2, h3⟩ x hx => by
    obtain ⟨a, c, e1, _⟩ := h2.sl
    obtain ⟨a', c', e2, _⟩ := h3.sl
    rw [h1] at hx; simp at hx
    rcases hx with rfl | rfl
    · subst e1; rfl
    · subst e2; rfl

/-! ### reading -/
def aggD : TypeDesc → Bool
  | .struct _ => true
  | .array _ _ => true
  | _ => false
theorem run_isAgg {P : Program} {t : Nat} {b : Bool} (h : (P.underlying t).map aggD = some b) (w : World) : (isAgg t).run P w = .ok b w := by
  obtain ⟨d, h1, h2⟩ := Option.map_eq_some_iff.1 h
  unfold isAgg
  simp only [Sem.run_bind, run_underlying h1, Result.andThen_ok]
  subst h2
  cases d <;> rfl
theorem run_sizeOf {P : Program} {t n : Nat} (h : (P.info? t).map (·.size) = some n) (w : World) : (sizeOf t).run P w = .ok n w := by
  obtain ⟨d, h1, h2⟩ := Option.map_eq_some_iff.1 h
  simp [sizeOf, typeInfo, h1, h2]

theorem eptr_of {v : Value} {ad : Addr} {n c : Nat} (h : v = .slice (some ad) n c) (z : Int) (size off : Nat) : eptr v z size off = .pointer (some (ad.add (z.toNat * size + off))) := by subst h; rfl

/-- What stands at an element's cells. -/
theorem RSl.cells {α : Type} {E : Elt α} {G : Pin} {v : Value} {xs : List α} (h : RSl E G v xs) {z : Int} (h0 : 0 ≤ z) (h1 : z < xs.length) :
    ∃ b o cs x, xs[z.toNat]? = some x ∧ E.rep G cs x ∧ (∀ k, eptr v z E.size k = .pointer (some ⟨b, o + k, none⟩)) ∧ (∀ j u, cs[j]? = some u → G b (o + j) u) := by
  have hz : z.toNat < xs.length := by omega
  obtain ⟨ad, b, o, n, c, cs, hv, hk, hr, hg⟩ := h.at_ z.toNat _ (List.getElem?_eq_getElem hz)
  exact ⟨b, o, cs, _, List.getElem?_eq_getElem hz, hr, fun k => by rw [eptr_of hv, hk], hg⟩

section
variable {P : Program} {w : World} {d : Option Nat} {t ty : Nat} {pos : String} {aft : Array Edge} {g : Option (Nat × Bool)} {x y p : Operand}

/-! #### the runs -/
theorem run_len {ety : Nat} (ht : P.underlying t = some (.slice ety)) {α : Type} {E : Elt α} {G : Pin} {xs : List α} {v : Value} {ρ : Operand → Value} (hx : ρ x = v) (hv : RSl E G v xs) :
    (execOp ρ ⟨d, .call { callee := .builtin .len, args := #[x], argTypes := #[t] }, ty, pos, aft, g⟩).run P w = .ok (.value (.int .i64 xs.length)) w := by
  obtain ⟨ad, c, rfl, _⟩ := hv.sl
  simp [execOp, resolve, invoke, builtin, hx, Builtin.len_, goInt, run_underlying ht]

theorem run_idx {ety size : Nat} (ht : P.underlying t = some (.slice ety)) (hi : (P.info? ety).map (·.size) = some size)
    {α : Type} {E : Elt α} {G : Pin} {xs : List α} {v : Value} {z : Int} {ρ : Operand → Value} (hx : ρ x = v) (hy : ρ y = .int .i64 z) (hv : RSl E G v xs) (h0 : 0 ≤ z) (h1 : z < xs.length) :
    (execOp ρ ⟨d, .indexAddr t x y, ty, pos, aft, g⟩).run P w = .ok (.value (eptr v z size 0)) w := by
  obtain ⟨ad, c, rfl, _⟩ := hv.sl
  have hz : z.toNat < xs.length := by omega
  obtain ⟨a', b, o, n, c', cs, hv', _⟩ := hv.at_ z.toNat _ (List.getElem?_eq_getElem hz)
  simp only [Value.slice.injEq] at hv'
  obtain ⟨rfl, rfl, rfl⟩ := hv'
  obtain ⟨inf, hinf, hsz⟩ := Option.map_eq_some_iff.1 hi
  simp only [execOp, hx, hy, Instr.indexAt, asIntOf]
  simp [underlying, ht, sizeOf, typeInfo, hinf, hsz, h0, h1, eptr]

theorem run_fld {fs : Array Field} {f off : Nat} {fd : Field} (ht : P.underlying t = some (.struct fs)) (hf : fs[f]? = some fd) (ho : fd.offset = off) (hi : ((P.info? fd.type).map (·.size == 0)) = some false)
    {α : Type} {E : Elt α} {G : Pin} {xs : List α} {v : Value} {z : Int} {k : Nat} {ρ : Operand → Value} (hx : ρ x = eptr v z E.size k) (hv : RSl E G v xs) (h0 : 0 ≤ z) (h1 : z < xs.length) :
    (execOp ρ ⟨d, .fieldAddr t x f, ty, pos, aft, g⟩).run P w = .ok (.value (eptr v z E.size (k + off))) w := by
  obtain ⟨b, o, cs, e, _, _, hk, _⟩ := hv.cells h0 h1
  obtain ⟨inf, hinf, hsz⟩ := Option.map_eq_some_iff.1 hi
  rw [hk] at hx
  rw [hk]
  simp only [execOp, hx, Instr.fieldAt, Instr.sureAddr, fieldPlace]
  have hne : ¬ inf.size = 0 := by simpa using hsz
  simp [underlying, ht, hf, sizeOf, typeInfo, hinf, hne, Addr.add, ho]
  split
  · simp_all
  · simp

theorem run_load1 (ha : (P.underlying t).map aggD = some false)
    {α : Type} {E : Elt α} {G : Pin} {xs : List α} {v : Value} {z : Int} {k : Nat} {ρ : Operand → Value} (hx : ρ x = eptr v z E.size k) (hP : Pins G w) (hv : RSl E G v xs) (h0 : 0 ≤ z) (h1 : z < xs.length) (hk : k < E.size) :
    ∃ cs e u, xs[z.toNat]? = some e ∧ E.rep G cs e ∧ cs[k]? = some u ∧ (execOp ρ ⟨d, .load t x, ty, pos, aft, g⟩).run P w = .ok (.value u) w := by
  obtain ⟨b, o, cs, e, he, hr, hp, hc⟩ := hv.cells h0 h1
  have hl : k < cs.length := by rw [E.len hr]; exact hk
  refine ⟨cs, e, cs[k], he, hr, List.getElem?_eq_getElem hl, ?_⟩
  have hw := hP _ _ _ (hc k _ (List.getElem?_eq_getElem hl))
  rw [hp] at hx
  simp only [execOp, hx, Instr.loadAt, Instr.sureAddr, loadVar, Sem.run_bind, Sem.run_pure, Result.andThen_ok, run_isAgg ha]
  simp [hw]

theorem run_loadA (ha : (P.underlying t).map aggD = some true)
    {α : Type} {E : Elt α} (hs : (P.info? t).map (·.size) = some E.size) {G : Pin} {xs : List α} {v : Value} {z : Int} {ρ : Operand → Value} (hx : ρ x = eptr v z E.size 0) (hP : Pins G w) (hv : RSl E G v xs) (h0 : 0 ≤ z) (h1 : z < xs.length) :
    ∃ cs e, xs[z.toNat]? = some e ∧ E.rep G cs e ∧ (execOp ρ ⟨d, .load t x, ty, pos, aft, g⟩).run P w = .ok (.value (.agg cs.toArray)) w := by
  obtain ⟨b, o, cs, e, he, hr, hp, hc⟩ := hv.cells h0 h1
  refine ⟨cs, e, he, hr, ?_⟩
  have hl := E.len hr
  have hcell : ∀ j u, cs[j]? = some u → w.cell? ((⟨b, o, none⟩ : Addr).add j) = some u := fun j u hj => by
    have := hP _ _ _ (hc j u hj)
    simp only [Addr.add]
    split
    · simp_all
    · exact this
  have hr2 := run_loadCells_list (P := P) w ⟨b, o, none⟩ cs hcell
  rw [hp] at hx
  simp only [Nat.add_zero] at hx
  have hlv : (loadVar t ⟨b, o, none⟩).run P w = .ok (.agg cs.toArray) w := by
    unfold loadVar
    simp only [Sem.run_bind, run_isAgg ha, Result.andThen_ok, if_true, run_sizeOf hs, ← hl, hr2, Sem.run_pure]
  simp only [execOp, hx, Instr.loadAt, Instr.sureAddr, Sem.run_bind, Sem.run_pure, Result.andThen_ok, hlv]
end

/-! ### rows of the call's own -/
structure Own {α : Type} (E : Elt α) (e : Nat) (G : Pin) (w : World) (base : Nat) (v : Value) (xs : List α) : Prop where
  ex : ∃ cells, w.ownsRow base e E.size v xs.length cells ∧ ∀ i x, xs[i]? = some x → E.rep G ((cells.drop (i * E.size)).take E.size) x
  free : ∀ k, v.ownBlock = some k → ∀ o u, ¬ G k o u

/-- The promise extended by all cells of a value's own block. -/
def Gadd (G : Pin) (w : World) (v : Value) : Pin := fun b o u => G b o u ∨ (v.ownBlock = some b ∧ w.cell? ⟨b, o, none⟩ = some u)
theorem Gadd.le (G : Pin) (w : World) (v : Value) : Pin.le G (Gadd G w v) := fun _ _ _ h => Or.inl h
theorem Gadd.pins {G : Pin} {w : World} (h : Pins G w) (v : Value) : Pins (Gadd G w v) w := fun b o u hu => by
  rcases hu with hu | hu
  · exact h b o u hu
  · exact hu.2

section
variable {α : Type} {E : Elt α} {e : Nat} {G : Pin} {w : World} {base : Nat} {v : Value} {xs : List α}

theorem Own.read (h : Own E e G w base v xs) : RSl E (Gadd G w v) v xs := by
  obtain ⟨cells, ⟨hl, hown⟩, hr⟩ := h.ex
  rcases hown with ⟨rfl, h0⟩ | ⟨g, cap, cur, rfl, _, hg, hnc, hcm, hcs, htake⟩
  · have : xs = [] := List.eq_nil_of_length_eq_zero h0
    subst this
    exact ⟨⟨none, 0, rfl, Nat.le_refl _, Nat.zero_le _⟩, fun i x hx => by simp at hx⟩
  · refine ⟨⟨_, cap, rfl, hnc, hcm⟩, fun i x hx => ⟨⟨g, 0, none⟩, g, i * E.size, xs.length, cap, (cells.drop (i * E.size)).take E.size, rfl, fun k => ?_, E.mono (Gadd.le _ _ _) (hr i x hx), fun j u hu => Or.inr ⟨rfl, ?_⟩⟩⟩
    · simp only [Addr.add]; split <;> simp_all
    · rw [List.getElem?_take] at hu
      split at hu
      · rw [List.getElem?_drop] at hu
        rw [cell_of_row w g _ cur e (0, 0) hg]
        rw [← htake, List.getElem?_take] at hu
        split at hu
        · simpa using hu
        · cases hu
      · cases hu

theorem Own.max (h : Own E e G w base v xs) : xs.length ≤ 9223372036854775807 := h.read.max
theorem Own.mono {G' : Pin} (h : Own E e G w base v xs) (hg : Pin.le G G') (hf : ∀ k, v.ownBlock = some k → ∀ o u, ¬ G' k o u) : Own E e G' w base v xs := by
  obtain ⟨cells, h1, h2⟩ := h.ex
  exact ⟨⟨cells, h1, fun i x hx => E.mono hg (h2 i x hx)⟩, hf⟩
theorem Own.lt (h : Own E e G w base v xs) : ∀ k, v.ownBlock = some k → base ≤ k ∧ k < w.heap.size := by
  obtain ⟨cells, h1, h2⟩ := h.ex
  exact h1.lt
theorem Own.weaken {base' : Nat} (h : Own E e G w base v xs) (hb : base' ≤ base) : Own E e G w base' v xs := by
  obtain ⟨cells, ⟨hl, hown⟩, hr⟩ := h.ex
  refine ⟨⟨cells, ⟨hl, ?_⟩, hr⟩, h.free⟩
  rcases hown with hn | ⟨g, cap, cur, h1, h2, h3⟩
  · exact .inl hn
  · exact .inr ⟨g, cap, cur, h1, by omega, h3⟩
/-- Other rows are written, blocks are made. -/
theorem Own.kept {w' : World} {row : Option Nat} (h : Own E e G w base v xs) (hg : w.grownBy w' row) (hne : v.ownBlock = none ∨ v.ownBlock ≠ row) : Own E e G w' base v xs := by
  obtain ⟨cells, h1, h2⟩ := h.ex
  exact ⟨⟨cells, h1.kept hg hne, h2⟩, h.free⟩
theorem Below.grownBy {w w' : World} (h : Below w.heap.size w w') (row : Option Nat) : w.grownBy w' row := ⟨h.os, h.tape, h.output, h.size, fun k hk _ => h.block k hk⟩
theorem Pins.grown {w' : World} {row : Option Nat} (h : Pins G w) (hg : w.grownBy w' row) (hf : ∀ k, row = some k → ∀ o u, ¬ G k o u) : Pins G w' := fun b o u hu => by
  have h1 := h b o u hu
  refine hg.cell h1 ?_
  intro heq
  exact hf b heq.symm o u hu
theorem Pins.below {w' : World} (h : Pins G w) (hb : Below w.heap.size w w') : Pins G w' := h.grown (Below.grownBy hb none) (fun k hk => by cases hk)
end

/-- What a call hands on: more promises, all of new blocks; of the blocks that were there only those of S may have turned. -/
structure Ext (S : Nat → Prop) (G : Pin) (w : World) (G' : Pin) (w' : World) : Prop where
  le : Pin.le G G'
  pins : Pins G' w'
  fresh : ∀ b o u, G' b o u → G b o u ∨ w.heap.size ≤ b
  os : w'.os = w.os
  tape : w'.tape = w.tape
  output : w'.output = w.output
  size : w.heap.size ≤ w'.heap.size
  block : ∀ k, k < w.heap.size → ¬ S k → w'.heap[k]? = w.heap[k]?
def noS : Nat → Prop := fun _ => False
theorem Ext.refl {S : Nat → Prop} {G : Pin} {w : World} (h : Pins G w) : Ext S G w G w := ⟨Pin.le_refl _, h, fun _ _ _ h => Or.inl h, rfl, rfl, rfl, Nat.le_refl _, fun _ _ _ => rfl⟩
theorem Ext.below {G G' : Pin} {w w' : World} (h : Ext noS G w G' w') : Below w.heap.size w w' := ⟨h.os, h.tape, h.output, h.size, fun k hk => h.block k hk id⟩
theorem Ext.step {S : Nat → Prop} {A B : Pin} {w0 w w' : World} (h : Ext S A w0 B w) (hP : Pins B w') (hb : Below w.heap.size w w') : Ext S A w0 B w' :=
  ⟨h.le, hP, h.fresh, hb.os.trans h.os, hb.tape.trans h.tape, hb.output.trans h.output, Nat.le_trans h.size hb.size, fun k hk hs => (hb.block k (Nat.lt_of_lt_of_le hk h.size)).trans (h.block k hk hs)⟩
theorem Ext.write {S : Nat → Prop} {A B : Pin} {w0 w w' : World} {row : Option Nat} (h : Ext S A w0 B w) (hP : Pins B w') (hg : w.grownBy w' row) (hr : ∀ k, row = some k → w0.heap.size ≤ k ∨ S k) : Ext S A w0 B w' :=
  ⟨h.le, hP, h.fresh, hg.os.trans h.os, hg.tape.trans h.tape, hg.output.trans h.output, Nat.le_trans h.size hg.size, fun k hk hs =>
    (hg.block k (Nat.lt_of_lt_of_le hk h.size) (fun e => by rcases hr k e.symm with h1 | h1 <;> first | omega | exact hs h1)).trans (h.block k hk hs)⟩
theorem Ext.trans {S S' : Nat → Prop} {A B C : Pin} {w0 w1 w2 : World} (h : Ext S A w0 B w1) (k : Ext S' B w1 C w2) (hS : ∀ i, S' i → w0.heap.size ≤ i ∨ S i) : Ext S A w0 C w2 :=
  ⟨Pin.le_trans h.le k.le, k.pins, fun b o u hu => by
    rcases k.fresh b o u hu with h1 | h1
    · exact h.fresh b o u h1
    · exact Or.inr (Nat.le_trans h.size h1), k.os.trans h.os, k.tape.trans h.tape, k.output.trans h.output, Nat.le_trans h.size k.size, fun i hi hs =>
    (k.block i (Nat.lt_of_lt_of_le hi h.size) (fun e => by rcases hS i e with h1 | h1 <;> first | omega | exact hs h1)).trans (h.block i hi hs)⟩
theorem Ext.tr {S : Nat → Prop} {A B C : Pin} {w0 w1 w2 : World} (h : Ext S A w0 B w1) (k : Ext noS B w1 C w2) : Ext S A w0 C w2 := h.trans k fun _ h => h.elim
theorem Ext.wide {S S' : Nat → Prop} {A B : Pin} {w0 w : World} (h : Ext S A w0 B w) (hS : ∀ k, S k → S' k) : Ext S' A w0 B w := ⟨h.le, h.pins, h.fresh, h.os, h.tape, h.output, h.size, fun k hk hs => h.block k hk fun x => hs (hS k x)⟩
theorem Ext.grownBy {G G' : Pin} {w w' : World} (h : Ext noS G w G' w') (row : Option Nat) : w.grownBy w' row := Below.grownBy h.below row

section
variable {α : Type} {E : Elt α} {e : Nat} {G : Pin} {w : World} {base : Nat} {v : Value} {xs : List α}
theorem Own.extS {S : Nat → Prop} {G' : Pin} {w' : World} (h : Own E e G w base v xs) (hx : Ext S G w G' w') (hS : ∀ k, v.ownBlock = some k → ¬ S k) : Own E e G' w' base v xs := by
  obtain ⟨cells, ⟨hl, hown⟩, hr⟩ := h.ex
  refine ⟨⟨cells, ⟨hl, ?_⟩, fun i x hi => E.mono hx.le (hr i x hi)⟩, fun k hk o u hu => ?_⟩
  · rcases hown with hn | ⟨g, cap, cur, h1, h2, h3, h4⟩
    · exact .inl hn
    · refine .inr ⟨g, cap, cur, h1, h2, ?_, h4⟩
      rw [hx.block g (Array.getElem?_eq_some_iff.1 h3).1 (hS g (by rw [h1]; rfl))]
      exact h3
  · rcases hx.fresh k o u hu with h1 | h1
    · exact h.free k hk o u h1
    · have := (h.lt k hk).2; omega
theorem Own.ext {G' : Pin} {w' : World} (h : Own E e G w base v xs) (hx : Ext noS G w G' w') : Own E e G' w' base v xs := h.extS hx fun _ _ => id
/-- An owned row that will be written no more is promised. -/
theorem Own.shut {S : Nat → Prop} {w0 : World} {G0 : Pin} (h : Own E e G w w0.heap.size v xs) (hx : Ext S G0 w0 G w) : RSl E (Gadd G w v) v xs ∧ Ext S G0 w0 (Gadd G w v) w :=
  ⟨h.read, Pin.le_trans hx.le (Gadd.le _ _ _), Gadd.pins hx.pins v, fun b o u hu => by
    rcases hu with hu | hu
    · exact hx.fresh b o u hu
    · exact Or.inr (h.lt b hu.1).1, hx.os, hx.tape, hx.output, hx.size, hx.block⟩
end

/-! ### making and writing rows -/
/-- What may be appended: a slice whose cells are there. -/
def Src {α : Type} (E : Elt α) (G : Pin) (w : World) (u : Value) (ys : List α) : Prop :=
  ∃ (ad : Option Addr) (c : Nat) (cells : List Value), u = .slice ad ys.length c ∧ cells.length = ys.length * E.size ∧ (∀ i y, ys[i]? = some y → E.rep G ((cells.drop (i * E.size)).take E.size) y) ∧
    ∀ j x, cells[j]? = some x → ∃ a, ad = some a ∧ w.cell? (a.add j) = some x

theorem Own.src {α : Type} {E : Elt α} {e : Nat} {G : Pin} {w : World} {base : Nat} {v : Value} {xs : List α} (h : Own E e G w base v xs) : Src E G w v xs := by
  obtain ⟨cells, h1, h2⟩ := h.ex
  have h3 := h1.2
  rcases h3 with ⟨rfl, h0⟩ | ⟨g, cap, cur, rfl, _, hg, hnc, hcm, hcs, htake⟩
  · have : xs = [] := List.eq_nil_of_length_eq_zero h0
    subst this
    exact ⟨none, 0, [], rfl, by simp, fun i y hy => by simp at hy, fun j x hx => by simp at hx⟩
  · exact ⟨_, cap, cells, rfl, h1.1, h2, fun j x hx => ⟨_, rfl, h1.cells rfl j x hx⟩⟩

theorem RSl.src {α : Type} {E : Elt α} {G : Pin} {w : World} {v : Value} {xs : List α} (h : RSl E G v xs) (hP : Pins G w) (hs : 0 < E.size) : Src E G w v xs := by
  obtain ⟨ad, c, rfl, _⟩ := h.sl
  have key : ∀ i (hi : i < xs.length), ∃ cs : List Value, E.rep G cs xs[i] ∧ ∀ j u, cs[j]? = some u → ∃ a, ad = some a ∧ w.cell? (a.add (i * E.size + j)) = some u := fun i hi => by
    obtain ⟨a', b, o, n, c', cs, hv, hk, hr, hg⟩ := h.at_ i _ (List.getElem?_eq_getElem hi)
    simp only [Value.slice.injEq] at hv
    exact ⟨cs, hr, fun j u hu => ⟨a', hv.1, by rw [hk]; exact hP _ _ _ (hg j u hu)⟩⟩
  -- the cells, one element behind the other
  have : ∀ n, n ≤ xs.length → ∃ cells : List Value, cells.length = n * E.size ∧ (∀ i (hi : i < xs.length), i < n → E.rep G ((cells.drop (i * E.size)).take E.size) xs[i]) ∧
      ∀ j x, cells[j]? = some x → ∃ a, ad = some a ∧ w.cell? (a.add j) = some x := by
    intro n
    induction n with
    | zero => intro _; exact ⟨[], by simp, fun i _ hi => by omega, fun j x hx => by simp at hx⟩
    | succ n ih =>
      intro hn
      obtain ⟨cells, hl, hr, hc⟩ := ih (by omega)
      obtain ⟨cs, hcr, hcc⟩ := key n (by omega)
      have hcl := E.len hcr
      refine ⟨cells ++ cs, by rw [List.length_append, hl, hcl, Nat.add_mul, Nat.one_mul], fun i hi hin => ?_, fun j x hx => ?_⟩
      · by_cases hi2 : i < n
        · have hle : i * E.size + E.size ≤ cells.length := by rw [hl, ← Nat.succ_mul]; exact Nat.mul_le_mul_right _ hi2
          rw [List.drop_append_of_le_length (by omega), List.take_append_of_le_length (by rw [List.length_drop]; omega)]
          exact hr i hi hi2
        · have : i = n := by omega
          subst this
          rw [← hl, List.drop_left, ← hcl, List.take_length]
          exact hcr
      · by_cases hj : j < cells.length
        · rw [List.getElem?_append_left hj] at hx; exact hc j x hx
        · rw [List.getElem?_append_right (by omega)] at hx
          obtain ⟨a, ha, hw⟩ := hcc _ _ hx
          exact ⟨a, ha, by rw [← hw]; congr 2; rw [hl] at hj ⊢; omega⟩
  obtain ⟨cells, hl, hr, hc⟩ := this xs.length (Nat.le_refl _)
  refine ⟨ad, c, cells, rfl, hl, fun i y hy => ?_, hc⟩
  obtain ⟨hi, rfl⟩ := List.getElem?_eq_some_iff.1 hy
  exact hr i hi hi

section
variable {P : Program} {w : World} {ρ : Operand → Value} {d : Option Nat} {t ty : Nat} {pos : String} {aft : Array Edge} {g : Option (Nat × Bool)} {x y p : Operand}

/-- 'append(s, x...)', s a row of the call's own. -/
theorem run_append {α : Type} {E : Elt α} {e : Nat} (bytes : Nat) (ht : P.underlying t = some (.slice e)) (hi : (P.info? e).map (fun i => (i.size, i.bytes, (i.zero.map (·.cells.size)))) = some (E.size, bytes, some E.size)) (hpos : 0 < E.size)
    {G : Pin} {base : Nat} {v u : Value} {xs ys : List α} (hx : ρ x = v) (hy : ρ y = u) (hP : Pins G w) (hv : Own E e G w base v xs) (hu : Src E G w u ys)
    (hb : (xs.length + ys.length) * bytes ≤ 140737488355328) (hb2 : xs.length + ys.length ≤ 140737488355328) (hbase : base ≤ w.heap.size) :
    ∃ v' w', (execOp ρ ⟨d, .call { callee := .builtin .append, args := #[x, y], argTypes := #[t, t] }, ty, pos, aft, g⟩).run P w = .ok (.value v') w' ∧
      Own E e G w' base v' (xs ++ ys) ∧ Pins G w' ∧ w.grownBy w' v.ownBlock ∧ (v'.ownBlock = v.ownBlock ∨ ∃ k, v'.ownBlock = some k ∧ w.heap.size ≤ k) := by
  obtain ⟨inf, hinf, hsz⟩ := Option.map_eq_some_iff.1 hi
  simp only [Prod.mk.injEq] at hsz
  obtain ⟨hsz, hby, hz⟩ := hsz
  obtain ⟨z, hzero, hzs⟩ := Option.map_eq_some_iff.1 hz
  obtain ⟨cells, hown, hr⟩ := hv.ex
  obtain ⟨ad, c, ycells, rfl, hyl, hyr, hyc⟩ := hu
  have h63 : xs.length + ys.length ≤ maxLen := by unfold maxLen; omega
  have hone : ∀ q ∈ ycells, q.oneCell' = true := by
    intro q hq
    obtain ⟨j, hj, rfl⟩ := List.getElem_of_mem hq
    have hjs : j / E.size < ys.length := by rw [Nat.div_lt_iff_lt_mul hpos, ← hyl]; exact hj
    have hrep := hyr (j / E.size) _ (List.getElem?_eq_getElem hjs)
    refine E.one hrep _ ?_
    have hlt : j % E.size < E.size := Nat.mod_lt _ hpos
    have hje : j / E.size * E.size + j % E.size = j := by rw [Nat.mul_comm]; exact Nat.div_add_mod j E.size
    refine List.mem_iff_getElem?.2 ⟨j % E.size, ?_⟩
    rw [List.getElem?_take, if_pos hlt, List.getElem?_drop, hje]
    exact List.getElem?_eq_getElem hj
  have hrep : ∀ i q, (xs ++ ys)[i]? = some q → E.rep G (((cells ++ ycells).drop (i * E.size)).take E.size) q := by
    intro i q hq
    by_cases hi' : i < xs.length
    · rw [List.getElem?_append_left hi'] at hq
      have hle : i * E.size + E.size ≤ cells.length := by rw [hown.1, ← Nat.succ_mul]; exact Nat.mul_le_mul_right _ hi'
      rw [List.drop_append_of_le_length (by omega), List.take_append_of_le_length (by rw [List.length_drop]; omega)]
      exact hr i q hq
    · rw [List.getElem?_append_right (by omega)] at hq
      have hge : cells.length ≤ i * E.size := by rw [hown.1]; exact Nat.mul_le_mul_right _ (by omega)
      rw [List.drop_append, List.drop_eq_nil_of_le hge, List.nil_append]
      have : i * E.size - cells.length = (i - xs.length) * E.size := by rw [hown.1, Nat.sub_mul]
      rw [this]
      exact hyr _ q hq
  have hfree := hv.free
  cases ad with
  | none =>
    have hyn : ycells = [] := by
      cases ycells with
      | nil => rfl
      | cons q r => obtain ⟨a', ha, _⟩ := hyc 0 q (by rfl); exact absurd ha (by simp)
    have hy0 : ys = [] := by
      rw [hyn] at hyl
      rcases Nat.mul_eq_zero.1 (show ys.length * E.size = 0 from hyl.symm) with h1 | h1
      · exact List.eq_nil_of_length_eq_zero h1
      · omega
    subst hy0
    have hrun : (Builtin.append_ #[t, t] ty #[v, .slice none 0 c]).run P w = .ok v w := by
      rcases hown.2 with ⟨rfl, h0⟩ | ⟨g, cap, cur, rfl, _, _, hnc, _⟩
      · simp [Builtin.append_, run_underlying ht, sizeOf, typeInfo, hinf, Builtin.lenOf, Builtin.firstCells]
      · simp [Builtin.append_, run_underlying ht, sizeOf, typeInfo, hinf, Builtin.lenOf, Builtin.firstCells, hnc, storeCells]
    refine ⟨v, w, ?_, by simpa using hv, hP, ⟨rfl, rfl, rfl, Nat.le_refl _, fun _ _ _ => rfl⟩, Or.inl rfl⟩
    unfold execOp
    simp only [resolve, invoke, builtin, Sem.run_bind, Sem.run_pure, Result.andThen_ok, List.map_toArray, List.map_cons, List.map_nil, hx, hy]
    simp only [List.length_nil] at hrun ⊢
    rw [hrun]
    rfl
  | some ad =>
    have hnews : ∀ j q, ycells[j]? = some q → w.cell? (ad.add j) = some q := fun j q hq => by
      obtain ⟨a', ha, hc⟩ := hyc j q hq
      simp only [Option.some.injEq] at ha; subst ha; exact hc
    -- the new place is the old one or new
    have hwhere : ∀ v' w', (Builtin.append_ #[t, t] ty #[v, .slice (some ad) ys.length c]).run P w = .ok v' w' → v'.ownBlock = v.ownBlock ∨ ∃ k, v'.ownBlock = some k ∧ w.heap.size ≤ k := by
      intro v' w' hrun
      rcases hown.2 with ⟨rfl, h0⟩ | ⟨g, cap, cur, rfl, hbg, hg, hnc, hcm, hcs, htake⟩
      · by_cases hm : ys.length = 0
        · left
          rw [hm] at hrun
          have hyn : ycells = [] := List.eq_nil_of_length_eq_zero (by rw [hyl, hm, Nat.zero_mul])
          subst hyn
          simp [Builtin.append_, run_underlying ht, sizeOf, typeInfo, hinf, Builtin.lenOf, Builtin.firstCells, loadCells, loadCellsFrom] at hrun
          rw [← hrun.1]
        · right
          have h3 : ys.length * bytes ≤ (xs.length + ys.length) * bytes := Nat.mul_le_mul_right _ (Nat.le_add_left _ _)
          have hr2 := run_append_nil (P := P) w t ty e inf z ht hinf hzero ad ys.length c ycells (by rw [hyl, hsz]) hnews (by omega) (by unfold maxLen at h63; omega) (by rw [hby]; omega)
          rw [hr2] at hrun
          simp only [Result.ok.injEq] at hrun
          rw [← hrun.1]
          exact ⟨_, rfl, Nat.le_refl _⟩
      · by_cases hroom : xs.length + ys.length ≤ cap
        · left
          have hfit : xs.length * inf.size + ycells.length ≤ cur.size := by rw [hyl, hcs, hsz, ← Nat.add_mul]; exact Nat.mul_le_mul_right _ hroom
          have hr2 := run_append_room (P := P) w t ty e inf ht hinf g xs.length cap cur hg ad ys.length c ycells (by rw [hyl, hsz]) hnews hone hroom hfit
          rw [hr2] at hrun
          simp only [Result.ok.injEq] at hrun
          rw [← hrun.1]; rfl
        · right
          have holds : ∀ j q, cells[j]? = some q → w.cell? ((⟨g, 0, none⟩ : Addr).add j) = some q := hown.cells (g := g) rfl
          have hr2 := run_append_grow (P := P) w t ty e inf z ht hinf hzero ⟨g, 0, none⟩ xs.length cap cells (by rw [hown.1, hsz]) holds ad ys.length c ycells (by rw [hyl, hsz]) hnews (by omega) (by unfold maxLen at h63; omega) (growslice_fits (Nat.lt_of_not_le hroom) (by rw [hby]; exact hb))
          rw [hr2] at hrun
          simp only [Result.ok.injEq] at hrun
          rw [← hrun.1]
          exact ⟨_, rfl, Nat.le_refl _⟩
    obtain ⟨v', w', hrun, hown', hgr, _⟩ := run_append_own (P := P) w base t ty e inf z E.size bytes ht hinf hzero hsz hby hzs hpos v xs.length cells hown ad ys.length c ycells hyl hnews hone h63 hb hbase
    have hw := hwhere v' w' hrun
    have hfr' : ∀ k, v'.ownBlock = some k → ∀ o q, ¬ G k o q := by
      intro k hk o q hG
      rcases hw with h1 | ⟨k', h1, h2⟩
      · exact hfree k (by rw [← h1]; exact hk) o q hG
      · rw [h1] at hk; cases hk
        have := block_lt (hP _ _ _ hG); omega
    refine ⟨v', w', ?_, ⟨⟨_, by rw [List.length_append]; exact hown', hrep⟩, hfr'⟩, hP.grown hgr (fun k hk => hfree k hk), hgr, hw⟩
    unfold execOp
    simp only [resolve, invoke, builtin, Sem.run_bind, Sem.run_pure, Result.andThen_ok, List.map_toArray, List.map_cons, List.map_nil, hx, hy, hrun]

/-- 'make([]T, n)'. -/
theorem run_make {α : Type} {E : Elt α} {e : Nat} (zero : α) (ht : P.underlying t = some (.slice e)) (bytes : Nat) (z : Value) (hi : (P.info? e).map (fun i => (i.size, i.bytes, i.zero)) = some (E.size, bytes, some z))
    (hz : ∀ G, E.rep G z.cells.toList zero) {G : Pin} {n : Int} (hx : ρ x = .int .i64 n) (hy : ρ y = .int .i64 n) (hP : Pins G w) (h0 : 0 ≤ n) (hb : bytes * n.toNat ≤ 281474976710656) (hm : n ≤ 9223372036854775807) :
    ∃ v w', (execOp ρ ⟨d, .makeSlice t x y, ty, pos, aft, g⟩).run P w = .ok (.value v) w' ∧ Own E e G w' w.heap.size v (List.replicate n.toNat zero) ∧ Pins G w' ∧ Below w.heap.size w w' ∧ v.ownBlock = some w.heap.size := by
  obtain ⟨inf, hinf, hsz⟩ := Option.map_eq_some_iff.1 hi
  simp only [Prod.mk.injEq] at hsz
  obtain ⟨hsz, hby, hz1⟩ := hsz
  have hzl : z.cells.toList.length = E.size := E.len (hz (fun _ _ _ => False))
  obtain ⟨w', hrun, hown, hgr⟩ := run_make_full (P := P) w w.heap.size t e inf z E.size ht hinf hz1 hsz .i64 .i64 n.toNat (by rw [hby]; exact hb) (by unfold maxLen; omega) (Nat.le_refl _)
  have hn : ((n.toNat : Nat) : Int) = n := by omega
  rw [hn] at hrun
  have hfree : ∀ k, Value.ownBlock (.slice (some ⟨w.heap.size, 0, none⟩) n.toNat n.toNat) = some k → ∀ o u, ¬ G k o u := by
    intro k hk o u hG
    simp [Value.ownBlock] at hk
    have := block_lt (hP _ _ _ hG); omega
  refine ⟨_, w', ?_, ⟨⟨_, by rw [List.length_replicate]; exact hown, fun i q hq => ?_⟩, hfree⟩, hP.grown hgr (fun k hk => by cases hk), ⟨hgr.os, hgr.tape, hgr.output, hgr.size, fun k hk => hgr.block k hk (by simp)⟩, rfl⟩
  · simp only [execOp, hx, hy, Sem.run_bind, hrun, Result.andThen_ok]; rfl
  rw [List.getElem?_replicate] at hq
  split at hq
  · rename_i hin
    cases hq
    have : ((madeCells z.cells (n.toNat * E.size)).toList.drop (i * E.size)).take E.size = z.cells.toList := by
      apply List.ext_getElem?
      intro j
      rw [List.getElem?_take]
      split
      · rename_i hj
        rw [List.getElem?_drop]
        have hlt : i * E.size + j < n.toNat * E.size := by
          have : (i + 1) * E.size ≤ n.toNat * E.size := Nat.mul_le_mul_right _ hin
          rw [Nat.add_mul] at this; omega
        simp only [madeCells]
        have hmod : (i * E.size + j) % z.cells.size = j := by
          have : z.cells.size = E.size := by simpa using hzl
          rw [this, Nat.mul_comm, Nat.mul_add_mod, Nat.mod_eq_of_lt hj]
        have hjz : j < z.cells.size := by have : z.cells.size = E.size := by simpa using hzl
                                          omega
        simp [hlt, hmod, hjz]
      · rename_i hj
        symm
        exact List.getElem?_eq_none (by omega)
    rw [this]
    exact hz G
  · cases hq
end

section
variable {P : Program} {w : World} {ρ : Operand → Value} {d : Option Nat} {t ty : Nat} {pos : String} {aft : Array Edge} {g : Option (Nat × Bool)} {x y p : Operand}

/-- One element of an owned row is written. -/
theorem Own.setAt {α : Type} {E : Elt α} {e : Nat} {G : Pin} {w : World} {base : Nat} {v : Value} {xs : List α} (h : Own E e G w base v xs) {z : Int} (h0 : 0 ≤ z) (h1 : z < xs.length)
    {q : α} {cs : List Value} (hq : E.rep G cs q) (hP : Pins G w) :
    ∃ g w', v.ownBlock = some g ∧ eptr v z E.size 0 = .pointer (some ⟨g, z.toNat * E.size, none⟩) ∧ (storeCells ⟨g, z.toNat * E.size, none⟩ cs).run P w = .ok () w' ∧
      Own E e G w' base v (xs.set z.toNat q) ∧ Pins G w' ∧ w.grownBy w' v.ownBlock ∧ w'.heap.size = w.heap.size := by
  obtain ⟨cells, hown, hr⟩ := h.ex
  have hfree := h.free
  rcases hown.2 with ⟨rfl, hl0⟩ | ⟨g, cap, cur, rfl, hbg, hg, hnc, hcm, hcs, htake⟩
  · omega
  · have hcl := E.len hq
    have hz : z.toNat < xs.length := by omega
    have hle1 : z.toNat * E.size + E.size ≤ xs.length * E.size := by rw [← Nat.succ_mul]; exact Nat.mul_le_mul_right _ hz
    have hle2 : xs.length * E.size ≤ cap * E.size := Nat.mul_le_mul_right _ hnc
    have hst := run_storeCells_at P g (z.toNat * E.size) e cs 0 cur w hg (by rw [hcl, hcs]; omega) (E.one hq)
    simp only [Nat.add_zero] at hst
    have hgrow : w.grownBy (w.setRow g (cur.toList.take (z.toNat * E.size) ++ cs ++ cur.toList.drop (z.toNat * E.size + cs.length)).toArray) (some g) :=
      ⟨rfl, rfl, rfl, by simp [World.setRow], fun k _ hk => setRow_other w g k _ (fun e => hk (by simp [e]))⟩
    have hcl0 : cells.length = xs.length * E.size := hown.1
    refine ⟨g, _, rfl, by simp [eptr, Addr.add]; omega, hst, ⟨⟨cells.take (z.toNat * E.size) ++ cs ++ cells.drop (z.toNat * E.size + cs.length), ⟨?_, .inr ⟨g, cap, _, by rw [List.length_set], hbg, setRow_heap w g cur _ e _ hg, by rw [List.length_set]; exact hnc, hcm, ?_, ?_⟩⟩, fun i u hu => ?_⟩, hfree⟩, hP.grown hgrow (fun k hk => hfree k (by rw [← hk]; rfl)), hgrow, by simp [World.setRow]⟩
    · simp only [List.length_append, List.length_take, List.length_drop, List.length_set, hcl0, hcl]; omega
    · simp only [List.size_toArray, List.length_append, List.length_take, List.length_drop, Array.length_toList, hcs, hcl]; omega
    · rw [List.length_set, ← htake]
      apply List.ext_getElem?
      intro j
      simp only [List.getElem?_take, List.getElem?_append, List.length_take, List.length_append, List.getElem?_drop, Array.length_toList, hcs, hcl]
      by_cases hj : j < xs.length * E.size
      · rw [if_pos hj]
        by_cases hj1 : j < z.toNat * E.size
        · rw [if_pos (by omega), if_pos (by omega), if_pos hj1, if_pos (by omega), if_pos (by omega), if_pos hj1, if_pos hj]
        · by_cases hj2 : j < z.toNat * E.size + E.size
          · rw [if_pos (by omega), if_neg (by omega), if_pos (by omega), if_neg (by omega)]
            congr 1
            omega
          · rw [if_neg (by omega), if_neg (by omega)]
            rw [if_pos (by omega)]
            congr 1
            omega
      · rw [if_neg hj]
        split
        · omega
        · rw [if_neg (by omega)]
    · by_cases hi : i = z.toNat
      · subst hi
        rw [List.getElem?_set_self hz] at hu
        cases hu
        have : ((cells.take (z.toNat * E.size) ++ cs ++ cells.drop (z.toNat * E.size + cs.length)).drop (z.toNat * E.size)).take E.size = cs := by
          have hl : (cells.take (z.toNat * E.size)).length = z.toNat * E.size := by rw [List.length_take, hcl0]; omega
          rw [List.append_assoc, List.drop_append_of_le_length (by omega), List.drop_eq_nil_of_le (by omega), List.nil_append, ← hcl, List.take_left]
        rw [this]; exact hq
      · rw [List.getElem?_set_ne (by omega)] at hu
        have := hr i u hu
        have heq : ((cells.take (z.toNat * E.size) ++ cs ++ cells.drop (z.toNat * E.size + cs.length)).drop (i * E.size)).take E.size = (cells.drop (i * E.size)).take E.size := by
          have hi2 : i < xs.length := (List.getElem?_eq_some_iff.1 hu).1
          have hle3 : i * E.size + E.size ≤ xs.length * E.size := by rw [← Nat.succ_mul]; exact Nat.mul_le_mul_right _ hi2
          have hap : i * E.size + E.size ≤ z.toNat * E.size ∨ z.toNat * E.size + E.size ≤ i * E.size := by
            rcases Nat.lt_or_gt_of_ne hi with h3 | h3
            · left; rw [← Nat.succ_mul]; exact Nat.mul_le_mul_right _ h3
            · right; rw [← Nat.succ_mul]; exact Nat.mul_le_mul_right _ h3
          apply List.ext_getElem?
          intro j
          simp only [List.getElem?_take, List.getElem?_drop]
          by_cases hj : j < E.size
          · rw [if_pos hj, if_pos hj]
            simp only [List.getElem?_append, List.length_take, List.length_append, List.getElem?_take, List.getElem?_drop, hcl0, hcl]
            rcases hap with h3 | h3
            · rw [if_pos (by omega), if_pos (by omega), if_pos (by omega)]
            · rw [if_neg (by omega)]
              congr 1
              omega
          · rw [if_neg hj, if_neg hj]
        rw [heq]; exact this

/-- 'out[i] = q', one cell or many. -/
theorem run_set {α : Type} {E : Elt α} {e : Nat} {G : Pin} {base : Nat} {v u : Value} {xs : List α} {z : Int} {cs : List Value} (q : α) (hs : (P.info? t).map (·.size) = some E.size)
    (hx : ρ x = eptr v z E.size 0) (hy : ρ y = u) (hc : u.cells.toList = cs) (hq : E.rep G cs q) (hP : Pins G w) (hv : Own E e G w base v xs) (h0 : 0 ≤ z) (h1 : z < xs.length) :
    ∃ w', (execOp ρ ⟨d, .store t x y, ty, pos, aft, g⟩).run P w = .ok .skip w' ∧ Own E e G w' base v (xs.set z.toNat q) ∧ Pins G w' ∧ w.grownBy w' v.ownBlock ∧ w'.heap.size = w.heap.size := by
  obtain ⟨gb, w', hb, hp, hrun, h2, h3, h4, h5⟩ := hv.setAt (P := P) h0 h1 hq hP
  rw [hp] at hx
  have hsz : u.cells.size = E.size := by rw [← E.len hq, ← hc]; simp
  have hst : (storeVar t ⟨gb, z.toNat * E.size, none⟩ u).run P w = .ok () w' := by
    unfold storeVar
    simp only [Sem.run_bind, run_sizeOf hs, Result.andThen_ok, hsz]
    simp only [ne_eq, not_true_eq_false, if_false]
    rw [hc]
    exact hrun
  refine ⟨w', ?_, h2, h3, h4, h5⟩
  simp only [execOp, hx, hy, Instr.storeAt, Instr.sureAddr, Sem.run_bind, Sem.run_pure, Result.andThen_ok, hst]

/-- A slice literal: its cells are new. -/
theorem run_build {α : Type} {E : Elt α} {e : Nat} (n : Nat) (parts : Array (Nat × Operand)) (cells : List Value) (ys : List α)
    (hrun : (Instr.buildSlice t n (parts.map fun (i, x) => (i, ρ x))).run P w = .ok (.slice (some ⟨w.heap.size, 0, none⟩) n n) (w.alloc (.cells cells.toArray e)))
    {G : Pin} (hP : Pins G w) (hn : n = ys.length) (hm : n ≤ 1000000) (hl : cells.length = n * E.size) (hr : ∀ i y, ys[i]? = some y → E.rep G ((cells.drop (i * E.size)).take E.size) y) :
    ∃ v w', (execOp ρ ⟨d, .buildSlice t n parts, ty, pos, aft, g⟩).run P w = .ok (.value v) w' ∧ Own E e G w' w.heap.size v ys ∧ Pins G w' ∧ Below w.heap.size w w' ∧ v.ownBlock = some w.heap.size := by
  have hfree : ∀ k, Value.ownBlock (.slice (some ⟨w.heap.size, 0, none⟩) n n) = some k → ∀ o u, ¬ G k o u := by
    intro k hk o u hG
    simp [Value.ownBlock] at hk
    have := block_lt (hP _ _ _ hG); omega
  have hb : Below w.heap.size w (w.alloc (.cells cells.toArray e)) := (Below.refl _ _).alloc (Nat.le_refl _) _
  have ho := World.ownsRow_lit (base := w.heap.size) (e := e) (size := E.size) w cells.toArray n (Nat.le_refl _) (by unfold maxLen; omega) (by simpa using hl)
  refine ⟨_, _, ?_, ⟨⟨cells, by rw [← hn]; simpa using ho, hr⟩, hfree⟩, hP.below hb, hb, rfl⟩
  simp only [execOp, Sem.run_bind, hrun, Result.andThen_ok]
  rfl
end

/-! ### loads by type -/
section
variable {P : Program} {w : World} {d : Option Nat} {t ty : Nat} {pos : String} {aft : Array Edge} {x : Operand}
  {α : Type} {E : Elt α} {G : Pin} {v : Value} {z : Int}
theorem run_load_int {xs : List Int} {ρ : Operand → Value} {g : Option (Nat × Bool)} {r : Int} (he : xs.getD z.toNat 0 = r) (ha : (P.underlying t).map aggD = some false) (hx : ρ x = eptr v z 1 0) (hv : RSl eInt G v xs) (hP : Pins G w) (h0 : 0 ≤ z) (h1 : z < xs.length) :
    (execOp ρ ⟨d, .load t x, ty, pos, aft, g⟩).run P w = .ok (.value (.int .i64 r)) w := by
  subst he
  obtain ⟨cs, e, u, he, hr, hc, hrun⟩ := run_load1 (d := d) (ty := ty) (pos := pos) (aft := aft) (g := g) ha hx hP hv h0 h1 (by decide)
  simp only [eInt] at hr
  subst hr
  simp at hc
  subst hc
  rw [hrun, List.getD, he]; rfl
theorem run_load_bool {xs : List Bool} {ρ : Operand → Value} {g : Option (Nat × Bool)} {r : Bool} (he : xs.getD z.toNat false = r) (ha : (P.underlying t).map aggD = some false) (hx : ρ x = eptr v z 1 0) (hv : RSl eBool G v xs) (hP : Pins G w) (h0 : 0 ≤ z) (h1 : z < xs.length) :
    (execOp ρ ⟨d, .load t x, ty, pos, aft, g⟩).run P w = .ok (.value (.bool r)) w := by
  subst he
  obtain ⟨cs, e, u, he, hr, hc, hrun⟩ := run_load1 (d := d) (ty := ty) (pos := pos) (aft := aft) (g := g) ha hx hP hv h0 h1 (by decide)
  simp only [eBool] at hr
  subst hr
  simp at hc
  subst hc
  rw [hrun, List.getD, he]; rfl
theorem run_load_str {xs : List ByteArray} {ρ : Operand → Value} {g : Option (Nat × Bool)} {r : ByteArray} (he : xs.getD z.toNat ByteArray.empty = r) (ha : (P.underlying t).map aggD = some false) (hx : ρ x = eptr v z 1 0) (hv : RSl eStr G v xs) (hP : Pins G w) (h0 : 0 ≤ z) (h1 : z < xs.length) :
    (execOp ρ ⟨d, .load t x, ty, pos, aft, g⟩).run P w = .ok (.value (.string r)) w := by
  subst he
  obtain ⟨cs, e, u, he, hr, hc, hrun⟩ := run_load1 (d := d) (ty := ty) (pos := pos) (aft := aft) (g := g) ha hx hP hv h0 h1 (by decide)
  simp only [eStr] at hr
  subst hr
  simp at hc
  subst hc
  rw [hrun, List.getD, he]; rfl
theorem run_load_byte {xs : List UInt8} {ρ : Operand → Value} {g : Option (Nat × Bool)} {r : UInt8} (he : xs.getD z.toNat 0 = r) (ha : (P.underlying t).map aggD = some false) (hx : ρ x = eptr v z 1 0) (hv : RSl eByte G v xs) (hP : Pins G w) (h0 : 0 ≤ z) (h1 : z < xs.length) :
    (execOp ρ ⟨d, .load t x, ty, pos, aft, g⟩).run P w = .ok (.value (.int .u8 r.toNat)) w := by
  subst he
  obtain ⟨cs, e, u, he, hr, hc, hrun⟩ := run_load1 (d := d) (ty := ty) (pos := pos) (aft := aft) (g := g) ha hx hP hv h0 h1 (by decide)
  simp only [eByte] at hr
  subst hr
  simp at hc
  subst hc
  rw [hrun, List.getD, he]; rfl
end
end Go.GL
