/- Texts of this claim in one file: Plain, Lib, Walk, Ops, Box, More, Row, Book, Order, Births, Self, Form, Go, Good, GoodB, Law, Claim, Reads. -/
import Derived.WalkKit
import Derived.WalkSpells
import Derived.WalkLawsBesides
import Derived.Deep.QuietTactic
import Derived.BigQuiet
import Derived.Lib.Hide
import Derived.Deep.RegionHeld3
import Derived.Deep.LoopGhost
import Derived.Great.BuildSlice
import Derived.Laws.StructEq
import Derived.Deep.Slices
import Derived.ProofKit
namespace Go.GL
structure Nd where
 l : List Int
 r : List Int
deriving DecidableEq, Inhabited, Repr
end Go.GL
namespace Go.GL
theorem getD_mem {α : Type} {l : List α} {d : α} {j : Nat} (h : j < l.length) : l.getD j d ∈ l := by simp [List.getD, h]


end Go.GL
namespace Go.GL




end Go.GL

namespace Go.GL
open Go Go.RowKit

def Pin := Nat → Nat → Value → Prop
def Pin.le (G G' : Pin) : Prop := ∀ b o u, G b o u → G' b o u
def Pins (G : Pin) (w : World) : Prop := ∀ b o u, G b o u → w.cell? ⟨b, o, none⟩ = some u
theorem Pin.le_refl (G : Pin) : Pin.le G G := fun _ _ _ h => h
theorem Pin.le_trans {A B C : Pin} (h : Pin.le A B) (k : Pin.le B C) : Pin.le A C := fun b o u x => k b o u (h b o u x)
theorem block_lt {w : World} {b o : Nat} {u : Value} (h : w.cell? ⟨b, o, none⟩ = some u) : b < w.heap.size :=
 World.block_lt_of_cell? w ⟨b, o, none⟩ h

structure Elt (α : Type) where
 size : Nat
 rep : Pin → List Value → α → Prop
 mono : ∀ {G G' : Pin} {cs : List Value} {x : α}, Pin.le G G' → rep G cs x → rep G' cs x
 len : ∀ {G : Pin} {cs : List Value} {x : α}, rep G cs x → cs.length = size
 one : ∀ {G : Pin} {cs : List Value} {x : α}, rep G cs x → ∀ u ∈ cs, u.oneCell' = true

def eptr (v : Value) (z : Int) (size off : Nat) : Value :=
 match v with
 | .slice (some a) _ _ => .pointer (some (a.add (z.toNat * size + off)))
 | _ => .pointer none

structure RSl {α : Type} (E : Elt α) (G : Pin) (v : Value) (xs : List α) : Prop where
 sl : ∃ a c, v = .slice a xs.length c ∧ xs.length ≤ c ∧ c ≤ maxLen
 at_ : ∀ i x, xs[i]? = some x → ∃ a b o n c cs, v = .slice (some a) n c ∧ (∀ k, a.add (i * E.size + k) = ⟨b, o + k, none⟩) ∧ E.rep G cs x ∧ ∀ j u, cs[j]? = some u → G b (o + j) u

theorem RSl.mono {α : Type} {E : Elt α} {G G' : Pin} {v : Value} {xs : List α} (h : RSl E G v xs) (hg : Pin.le G G') : RSl E G' v xs :=
 ⟨h.sl, fun i x hx => by
  obtain ⟨a, b, o, n, c, cs, h1, h2, h3, h4⟩ := h.at_ i x hx
  exact ⟨a, b, o, n, c, cs, h1, h2, E.mono hg h3, fun j u hu => hg _ _ _ (h4 j u hu)⟩⟩

theorem RSl.max {α : Type} {E : Elt α} {G : Pin} {v : Value} {xs : List α} (h : RSl E G v xs) : xs.length ≤ 9223372036854775807 := by
 obtain ⟨a, c, rfl, h1, h2⟩ := h.sl; unfold maxLen at h2; omega

def eInt : Elt Int where
 size := 1
 rep := fun _ cs n => cs = [.int .i64 n]
 mono := fun _ h => h
 len := fun h => by rw [h]; rfl
 one := fun h u hu => by rw [h] at hu; simp at hu; subst hu; rfl
def eByte : Elt UInt8 where
 size := 1
 rep := fun _ cs n => cs = [.int .u8 n.toNat]
 mono := fun _ h => h
 len := fun h => by rw [h]; rfl
 one := fun h u hu => by rw [h] at hu; simp at hu; subst hu; rfl
def eBool : Elt Bool where
 size := 1
 rep := fun _ cs n => cs = [.bool n]
 mono := fun _ h => h
 len := fun h => by rw [h]; rfl
 one := fun h u hu => by rw [h] at hu; simp at hu; subst hu; rfl
def eStr : Elt ByteArray where
 size := 1
 rep := fun _ cs n => cs = [.string n]
 mono := fun _ h => h
 len := fun h => by rw [h]; rfl
 one := fun h u hu => by rw [h] at hu; simp at hu; subst hu; rfl
def eSl {α : Type} (E : Elt α) : Elt (List α) where
 size := 1
 rep := fun G cs xs => ∃ v, cs = [v] ∧ RSl E G v xs
 mono := fun hg ⟨v, h1, h2⟩ => ⟨v, h1, h2.mono hg⟩
 len := fun ⟨v, h1, h2⟩ => by rw [h1]; rfl
 one := fun ⟨v, h1, h2⟩ u hu => by
  obtain ⟨a, c, h3, _⟩ := h2.sl
  rw [h1] at hu; simp at hu; subst hu; subst h3; rfl

def aggD : TypeDesc → Bool
 | .struct _ => true
 | .array _ _ => true
 | _ => false
theorem run_isAgg {P : Program} {t : Nat} {b : Bool} (h : (P.underlying t).map aggD = some b) (w : World) : (isAgg t).run P w = .ok b w := by
 obtain ⟨d, h1, h2⟩ := Option.map_eq_some_iff.1 h
 unfold isAgg
 simp only [Sem.run_bind, run_underlying h1, Result.andThen_ok]
 subst h2
 cases d <;> rfl
theorem run_sizeOf {P : Program} {t n : Nat} (h : (P.info? t).map (·.size) = some n) (w : World) : (sizeOf t).run P w = .ok n w := by
 obtain ⟨d, h1, h2⟩ := Option.map_eq_some_iff.1 h
 simp [sizeOf, typeInfo, h1, h2]

theorem eptr_of {v : Value} {ad : Addr} {n c : Nat} (h : v = .slice (some ad) n c) (z : Int) (size off : Nat) : eptr v z size off = .pointer (some (ad.add (z.toNat * size + off))) := by subst h; rfl

theorem RSl.cells {α : Type} {E : Elt α} {G : Pin} {v : Value} {xs : List α} (h : RSl E G v xs) {z : Int} (h0 : 0 ≤ z) (h1 : z < xs.length) :
  ∃ b o cs x, xs[z.toNat]? = some x ∧ E.rep G cs x ∧ (∀ k, eptr v z E.size k = .pointer (some ⟨b, o + k, none⟩)) ∧ (∀ j u, cs[j]? = some u → G b (o + j) u) := by
 have hz : z.toNat < xs.length := by omega
 obtain ⟨ad, b, o, n, c, cs, hv, hk, hr, hg⟩ := h.at_ z.toNat _ (List.getElem?_eq_getElem hz)
 exact ⟨b, o, cs, _, List.getElem?_eq_getElem hz, hr, fun k => by rw [eptr_of hv, hk], hg⟩

section
variable {P : Program} {w : World} {d : Option Nat} {t ty : Nat} {pos : String} {aft : Array Edge} {g : Option (Nat × Bool)} {x y p : Operand}


theorem run_len {ety : Nat} (ht : P.underlying t = some (.slice ety)) {α : Type} {E : Elt α} {G : Pin} {xs : List α} {v : Value} {ρ : Operand → Value} (hx : ρ x = v) (hv : RSl E G v xs) :
  (execOp ρ ⟨d, .call { callee := .builtin .len, args := #[x], argTypes := #[t] }, ty, pos, aft, g⟩).run P w = .ok (.value (.int .i64 xs.length)) w := by
 obtain ⟨ad, c, rfl, _⟩ := hv.sl
 simp [execOp, resolve, invoke, builtin, hx, Builtin.len_, goInt, run_underlying ht]

theorem run_idx {ety size : Nat} (ht : P.underlying t = some (.slice ety)) (hi : (P.info? ety).map (·.size) = some size)
  {α : Type} {E : Elt α} {G : Pin} {xs : List α} {v : Value} {z : Int} {ρ : Operand → Value} (hx : ρ x = v) (hy : ρ y = .int .i64 z) (hv : RSl E G v xs) (h0 : 0 ≤ z) (h1 : z < xs.length) :
  (execOp ρ ⟨d, .indexAddr t x y, ty, pos, aft, g⟩).run P w = .ok (.value (eptr v z size 0)) w := by
 obtain ⟨ad, c, rfl, _⟩ := hv.sl
 have hz : z.toNat < xs.length := by omega
 obtain ⟨a', b, o, n, c', cs, hv', _⟩ := hv.at_ z.toNat _ (List.getElem?_eq_getElem hz)
 simp only [Value.slice.injEq] at hv'
 obtain ⟨rfl, rfl, rfl⟩ := hv'
 obtain ⟨inf, hinf, hsz⟩ := Option.map_eq_some_iff.1 hi
 simp only [execOp, hx, hy, Instr.indexAt, asIntOf]
 simp [underlying, ht, sizeOf, typeInfo, hinf, hsz, h0, h1, eptr]

theorem run_load1 (ha : (P.underlying t).map aggD = some false)
  {α : Type} {E : Elt α} {G : Pin} {xs : List α} {v : Value} {z : Int} {k : Nat} {ρ : Operand → Value} (hx : ρ x = eptr v z E.size k) (hP : Pins G w) (hv : RSl E G v xs) (h0 : 0 ≤ z) (h1 : z < xs.length) (hk : k < E.size) :
  ∃ cs e u, xs[z.toNat]? = some e ∧ E.rep G cs e ∧ cs[k]? = some u ∧ (execOp ρ ⟨d, .load t x, ty, pos, aft, g⟩).run P w = .ok (.value u) w := by
 obtain ⟨b, o, cs, e, he, hr, hp, hc⟩ := hv.cells h0 h1
 have hl : k < cs.length := by rw [E.len hr]; exact hk
 refine ⟨cs, e, cs[k], he, hr, List.getElem?_eq_getElem hl, ?_⟩
 have hw := hP _ _ _ (hc k _ (List.getElem?_eq_getElem hl))
 rw [hp] at hx
 simp only [execOp, hx, Instr.loadAt, Instr.sureAddr, loadVar, Sem.run_bind, Sem.run_pure, Result.andThen_ok, run_isAgg ha]
 simp [hw]

end


structure Own {α : Type} (E : Elt α) (e : Nat) (G : Pin) (w : World) (base : Nat) (v : Value) (xs : List α) : Prop where
 ex : ∃ cells, w.ownsRow base e E.size v xs.length cells ∧ ∀ i x, xs[i]? = some x → E.rep G ((cells.drop (i * E.size)).take E.size) x
 free : ∀ k, v.ownBlock = some k → ∀ o u, ¬ G k o u

def Gadd (G : Pin) (w : World) (v : Value) : Pin := fun b o u => G b o u ∨ (v.ownBlock = some b ∧ w.cell? ⟨b, o, none⟩ = some u)
theorem Gadd.le (G : Pin) (w : World) (v : Value) : Pin.le G (Gadd G w v) := fun _ _ _ h => Or.inl h
theorem Gadd.pins {G : Pin} {w : World} (h : Pins G w) (v : Value) : Pins (Gadd G w v) w := fun b o u hu => by
 rcases hu with hu | hu
 ·exact h b o u hu
 ·exact hu.2

section
variable {α : Type} {E : Elt α} {e : Nat} {G : Pin} {w : World} {base : Nat} {v : Value} {xs : List α}

theorem Own.read (h : Own E e G w base v xs) : RSl E (Gadd G w v) v xs := by
 obtain ⟨cells, ⟨hl, hown⟩, hr⟩ := h.ex
 rcases hown with ⟨rfl, h0⟩ | ⟨g, cap, cur, rfl, _, hg, hnc, hcm, hcs, htake⟩
 ·have : xs = [] := List.eq_nil_of_length_eq_zero h0
  subst this
  exact ⟨⟨none, 0, rfl, Nat.le_refl _, Nat.zero_le _⟩, fun i x hx => by simp at hx⟩
 ·refine ⟨⟨_, cap, rfl, hnc, hcm⟩, fun i x hx => ⟨⟨g, 0, none⟩, g, i * E.size, xs.length, cap, (cells.drop (i * E.size)).take E.size, rfl, fun k => ?_, E.mono (Gadd.le _ _ _) (hr i x hx), fun j u hu => Or.inr ⟨rfl, ?_⟩⟩⟩
  ·simp only [Addr.add]; split <;> simp_all
  ·rw [List.getElem?_take] at hu
   split at hu
   ·rw [List.getElem?_drop] at hu
    rw [cell_of_row w g _ cur e (0, 0) hg]
    rw [← htake, List.getElem?_take] at hu
    split at hu
    ·simpa using hu
    ·cases hu
   ·cases hu

theorem Own.mono {G' : Pin} (h : Own E e G w base v xs) (hg : Pin.le G G') (hf : ∀ k, v.ownBlock = some k → ∀ o u, ¬ G' k o u) : Own E e G' w base v xs := by
 obtain ⟨cells, h1, h2⟩ := h.ex
 exact ⟨⟨cells, h1, fun i x hx => E.mono hg (h2 i x hx)⟩, hf⟩
theorem Own.lt (h : Own E e G w base v xs) : ∀ k, v.ownBlock = some k → base ≤ k ∧ k < w.heap.size := by
 obtain ⟨cells, h1, h2⟩ := h.ex
 exact h1.lt
theorem Own.weaken {base' : Nat} (h : Own E e G w base v xs) (hb : base' ≤ base) : Own E e G w base' v xs := by
 obtain ⟨cells, ⟨hl, hown⟩, hr⟩ := h.ex
 refine ⟨⟨cells, ⟨hl, ?_⟩, hr⟩, h.free⟩
 rcases hown with hn | ⟨g, cap, cur, h1, h2, h3⟩
 ·exact .inl hn
 ·exact .inr ⟨g, cap, cur, h1, by omega, h3⟩
theorem Own.kept {w' : World} {row : Option Nat} (h : Own E e G w base v xs) (hg : w.grownBy w' row) (hne : v.ownBlock = none ∨ v.ownBlock ≠ row) : Own E e G w' base v xs := by
 obtain ⟨cells, h1, h2⟩ := h.ex
 exact ⟨⟨cells, h1.kept hg hne, h2⟩, h.free⟩
theorem Below.grownBy {w w' : World} (h : Below w.heap.size w w') (row : Option Nat) : w.grownBy w' row := ⟨h.os, h.tape, h.output, h.size, fun k hk _ => h.block k hk⟩
theorem Pins.grown {w' : World} {row : Option Nat} (h : Pins G w) (hg : w.grownBy w' row) (hf : ∀ k, row = some k → ∀ o u, ¬ G k o u) : Pins G w' := fun b o u hu => by
 have h1 := h b o u hu
 refine hg.cell h1 ?_
 intro heq
 exact hf b heq.symm o u hu
theorem Pins.below {w' : World} (h : Pins G w) (hb : Below w.heap.size w w') : Pins G w' := h.grown (Below.grownBy hb none) (fun k hk => by cases hk)
end

structure Ext (S : Nat → Prop) (G : Pin) (w : World) (G' : Pin) (w' : World) : Prop where
 le : Pin.le G G'
 pins : Pins G' w'
 fresh : ∀ b o u, G' b o u → G b o u ∨ w.heap.size ≤ b
 os : w'.os = w.os
 tape : w'.tape = w.tape
 output : w'.output = w.output
 size : w.heap.size ≤ w'.heap.size
 block : ∀ k, k < w.heap.size → ¬ S k → w'.heap[k]? = w.heap[k]?
def noS : Nat → Prop := fun _ => False
theorem Ext.refl {S : Nat → Prop} {G : Pin} {w : World} (h : Pins G w) : Ext S G w G w := ⟨Pin.le_refl _, h, fun _ _ _ h => Or.inl h, rfl, rfl, rfl, Nat.le_refl _, fun _ _ _ => rfl⟩
theorem Ext.below {G G' : Pin} {w w' : World} (h : Ext noS G w G' w') : Below w.heap.size w w' := ⟨h.os, h.tape, h.output, h.size, fun k hk => h.block k hk id⟩
theorem Ext.step {S : Nat → Prop} {A B : Pin} {w0 w w' : World} (h : Ext S A w0 B w) (hP : Pins B w') (hb : Below w.heap.size w w') : Ext S A w0 B w' :=
 ⟨h.le, hP, h.fresh, hb.os.trans h.os, hb.tape.trans h.tape, hb.output.trans h.output, Nat.le_trans h.size hb.size, fun k hk hs => (hb.block k (Nat.lt_of_lt_of_le hk h.size)).trans (h.block k hk hs)⟩
theorem Ext.write {S : Nat → Prop} {A B : Pin} {w0 w w' : World} {row : Option Nat} (h : Ext S A w0 B w) (hP : Pins B w') (hg : w.grownBy w' row) (hr : ∀ k, row = some k → w0.heap.size ≤ k ∨ S k) : Ext S A w0 B w' :=
 ⟨h.le, hP, h.fresh, hg.os.trans h.os, hg.tape.trans h.tape, hg.output.trans h.output, Nat.le_trans h.size hg.size, fun k hk hs =>
  (hg.block k (Nat.lt_of_lt_of_le hk h.size) (fun e => by rcases hr k e.symm with h1 | h1 <;> first | omega | exact hs h1)).trans (h.block k hk hs)⟩
theorem Ext.trans {S S' : Nat → Prop} {A B C : Pin} {w0 w1 w2 : World} (h : Ext S A w0 B w1) (k : Ext S' B w1 C w2) (hS : ∀ i, S' i → w0.heap.size ≤ i ∨ S i) : Ext S A w0 C w2 :=
 ⟨Pin.le_trans h.le k.le, k.pins, fun b o u hu => by
  rcases k.fresh b o u hu with h1 | h1
  ·exact h.fresh b o u h1
  ·exact Or.inr (Nat.le_trans h.size h1), k.os.trans h.os, k.tape.trans h.tape, k.output.trans h.output, Nat.le_trans h.size k.size, fun i hi hs =>
  (k.block i (Nat.lt_of_lt_of_le hi h.size) (fun e => by rcases hS i e with h1 | h1 <;> first | omega | exact hs h1)).trans (h.block i hi hs)⟩
theorem Ext.tr {S : Nat → Prop} {A B C : Pin} {w0 w1 w2 : World} (h : Ext S A w0 B w1) (k : Ext noS B w1 C w2) : Ext S A w0 C w2 := h.trans k fun _ h => h.elim
section
variable {α : Type} {E : Elt α} {e : Nat} {G : Pin} {w : World} {base : Nat} {v : Value} {xs : List α}
theorem Own.extS {S : Nat → Prop} {G' : Pin} {w' : World} (h : Own E e G w base v xs) (hx : Ext S G w G' w') (hS : ∀ k, v.ownBlock = some k → ¬ S k) : Own E e G' w' base v xs := by
 obtain ⟨cells, ⟨hl, hown⟩, hr⟩ := h.ex
 refine ⟨⟨cells, ⟨hl, ?_⟩, fun i x hi => E.mono hx.le (hr i x hi)⟩, fun k hk o u hu => ?_⟩
 ·rcases hown with hn | ⟨g, cap, cur, h1, h2, h3, h4⟩
  ·exact .inl hn
  ·refine .inr ⟨g, cap, cur, h1, h2, ?_, h4⟩
   rw [hx.block g (Array.getElem?_eq_some_iff.1 h3).1 (hS g (by rw [h1]; rfl))]
   exact h3
 ·rcases hx.fresh k o u hu with h1 | h1
  ·exact h.free k hk o u h1
  ·have := (h.lt k hk).2; omega
theorem Own.ext {G' : Pin} {w' : World} (h : Own E e G w base v xs) (hx : Ext noS G w G' w') : Own E e G' w' base v xs := h.extS hx fun _ _ => id
theorem Own.shut {S : Nat → Prop} {w0 : World} {G0 : Pin} (h : Own E e G w w0.heap.size v xs) (hx : Ext S G0 w0 G w) : RSl E (Gadd G w v) v xs ∧ Ext S G0 w0 (Gadd G w v) w :=
 ⟨h.read, Pin.le_trans hx.le (Gadd.le _ _ _), Gadd.pins hx.pins v, fun b o u hu => by
  rcases hu with hu | hu
  ·exact hx.fresh b o u hu
  ·exact Or.inr (h.lt b hu.1).1, hx.os, hx.tape, hx.output, hx.size, hx.block⟩
end


def Src {α : Type} (E : Elt α) (G : Pin) (w : World) (u : Value) (ys : List α) : Prop :=
 ∃ (ad : Option Addr) (c : Nat) (cells : List Value), u = .slice ad ys.length c ∧ cells.length = ys.length * E.size ∧ (∀ i y, ys[i]? = some y → E.rep G ((cells.drop (i * E.size)).take E.size) y) ∧
  ∀ j x, cells[j]? = some x → ∃ a, ad = some a ∧ w.cell? (a.add j) = some x

theorem Own.src {α : Type} {E : Elt α} {e : Nat} {G : Pin} {w : World} {base : Nat} {v : Value} {xs : List α} (h : Own E e G w base v xs) : Src E G w v xs := by
 obtain ⟨cells, h1, h2⟩ := h.ex
 have h3 := h1.2
 rcases h3 with ⟨rfl, h0⟩ | ⟨g, cap, cur, rfl, _, hg, hnc, hcm, hcs, htake⟩
 ·have : xs = [] := List.eq_nil_of_length_eq_zero h0
  subst this
  exact ⟨none, 0, [], rfl, by simp, fun i y hy => by simp at hy, fun j x hx => by simp at hx⟩
 ·exact ⟨_, cap, cells, rfl, h1.1, h2, fun j x hx => ⟨_, rfl, h1.cells rfl j x hx⟩⟩

theorem RSl.src {α : Type} {E : Elt α} {G : Pin} {w : World} {v : Value} {xs : List α} (h : RSl E G v xs) (hP : Pins G w) (hs : 0 < E.size) : Src E G w v xs := by
 obtain ⟨ad, c, rfl, _⟩ := h.sl
 have key : ∀ i (hi : i < xs.length), ∃ cs : List Value, E.rep G cs xs[i] ∧ ∀ j u, cs[j]? = some u → ∃ a, ad = some a ∧ w.cell? (a.add (i * E.size + j)) = some u := fun i hi => by
  obtain ⟨a', b, o, n, c', cs, hv, hk, hr, hg⟩ := h.at_ i _ (List.getElem?_eq_getElem hi)
  simp only [Value.slice.injEq] at hv
  exact ⟨cs, hr, fun j u hu => ⟨a', hv.1, by rw [hk]; exact hP _ _ _ (hg j u hu)⟩⟩
 have : ∀ n, n ≤ xs.length → ∃ cells : List Value, cells.length = n * E.size ∧ (∀ i (hi : i < xs.length), i < n → E.rep G ((cells.drop (i * E.size)).take E.size) xs[i]) ∧
   ∀ j x, cells[j]? = some x → ∃ a, ad = some a ∧ w.cell? (a.add j) = some x := by
  intro n
  induction n with
  | zero => intro _; exact ⟨[], by simp, fun i _ hi => by omega, fun j x hx => by simp at hx⟩
  | succ n ih =>
   intro hn
   obtain ⟨cells, hl, hr, hc⟩ := ih (by omega)
   obtain ⟨cs, hcr, hcc⟩ := key n (by omega)
   have hcl := E.len hcr
   refine ⟨cells ++ cs, by rw [List.length_append, hl, hcl, Nat.add_mul, Nat.one_mul], fun i hi hin => ?_, fun j x hx => ?_⟩
   ·by_cases hi2 : i < n
    ·have hle : i * E.size + E.size ≤ cells.length := by rw [hl, ← Nat.succ_mul]; exact Nat.mul_le_mul_right _ hi2
     rw [List.drop_append_of_le_length (by omega), List.take_append_of_le_length (by rw [List.length_drop]; omega)]
     exact hr i hi hi2
    ·have : i = n := by omega
     subst this
     rw [← hl, List.drop_left, ← hcl, List.take_length]
     exact hcr
   ·by_cases hj : j < cells.length
    ·rw [List.getElem?_append_left hj] at hx; exact hc j x hx
    ·rw [List.getElem?_append_right (by omega)] at hx
     obtain ⟨a, ha, hw⟩ := hcc _ _ hx
     exact ⟨a, ha, by rw [← hw]; congr 2; rw [hl] at hj ⊢; omega⟩
 obtain ⟨cells, hl, hr, hc⟩ := this xs.length (Nat.le_refl _)
 refine ⟨ad, c, cells, rfl, hl, fun i y hy => ?_, hc⟩
 obtain ⟨hi, rfl⟩ := List.getElem?_eq_some_iff.1 hy
 exact hr i hi hi

section
variable {P : Program} {w : World} {ρ : Operand → Value} {d : Option Nat} {t ty : Nat} {pos : String} {aft : Array Edge} {g : Option (Nat × Bool)} {x y p : Operand}

theorem run_append {α : Type} {E : Elt α} {e : Nat} (bytes : Nat) (ht : P.underlying t = some (.slice e)) (hi : (P.info? e).map (fun i => (i.size, i.bytes, (i.zero.map (·.cells.size)))) = some (E.size, bytes, some E.size)) (hpos : 0 < E.size)
  {G : Pin} {base : Nat} {v u : Value} {xs ys : List α} (hx : ρ x = v) (hy : ρ y = u) (hP : Pins G w) (hv : Own E e G w base v xs) (hu : Src E G w u ys)
  (hb : (xs.length + ys.length) * bytes ≤ 140737488355328) (hb2 : xs.length + ys.length ≤ 140737488355328) (hbase : base ≤ w.heap.size) :
  ∃ v' w', (execOp ρ ⟨d, .call { callee := .builtin .append, args := #[x, y], argTypes := #[t, t] }, ty, pos, aft, g⟩).run P w = .ok (.value v') w' ∧
   Own E e G w' base v' (xs ++ ys) ∧ Pins G w' ∧ w.grownBy w' v.ownBlock ∧ (v'.ownBlock = v.ownBlock ∨ ∃ k, v'.ownBlock = some k ∧ w.heap.size ≤ k) := by
 obtain ⟨inf, hinf, hsz⟩ := Option.map_eq_some_iff.1 hi
 simp only [Prod.mk.injEq] at hsz
 obtain ⟨hsz, hby, hz⟩ := hsz
 obtain ⟨z, hzero, hzs⟩ := Option.map_eq_some_iff.1 hz
 obtain ⟨cells, hown, hr⟩ := hv.ex
 obtain ⟨ad, c, ycells, rfl, hyl, hyr, hyc⟩ := hu
 have h63 : xs.length + ys.length ≤ maxLen := by unfold maxLen; omega
 have hone : ∀ q ∈ ycells, q.oneCell' = true := by
  intro q hq
  obtain ⟨j, hj, rfl⟩ := List.getElem_of_mem hq
  have hjs : j / E.size < ys.length := by rw [Nat.div_lt_iff_lt_mul hpos, ← hyl]; exact hj
  have hrep := hyr (j / E.size) _ (List.getElem?_eq_getElem hjs)
  refine E.one hrep _ ?_
  have hlt : j % E.size < E.size := Nat.mod_lt _ hpos
  have hje : j / E.size * E.size + j % E.size = j := by rw [Nat.mul_comm]; exact Nat.div_add_mod j E.size
  refine List.mem_iff_getElem?.2 ⟨j % E.size, ?_⟩
  rw [List.getElem?_take, if_pos hlt, List.getElem?_drop, hje]
  exact List.getElem?_eq_getElem hj
 have hrep : ∀ i q, (xs ++ ys)[i]? = some q → E.rep G (((cells ++ ycells).drop (i * E.size)).take E.size) q := by
  intro i q hq
  by_cases hi' : i < xs.length
  ·rw [List.getElem?_append_left hi'] at hq
   have hle : i * E.size + E.size ≤ cells.length := by rw [hown.1, ← Nat.succ_mul]; exact Nat.mul_le_mul_right _ hi'
   rw [List.drop_append_of_le_length (by omega), List.take_append_of_le_length (by rw [List.length_drop]; omega)]
   exact hr i q hq
  ·rw [List.getElem?_append_right (by omega)] at hq
   have hge : cells.length ≤ i * E.size := by rw [hown.1]; exact Nat.mul_le_mul_right _ (by omega)
   rw [List.drop_append, List.drop_eq_nil_of_le hge, List.nil_append]
   have : i * E.size - cells.length = (i - xs.length) * E.size := by rw [hown.1, Nat.sub_mul]
   rw [this]
   exact hyr _ q hq
 have hfree := hv.free
 cases ad with
 | none =>
  have hyn : ycells = [] := by
   cases ycells with
   | nil => rfl
   | cons q r => obtain ⟨a', ha, _⟩ := hyc 0 q (by rfl); exact absurd ha (by simp)
  have hy0 : ys = [] := by
   rw [hyn] at hyl
   rcases Nat.mul_eq_zero.1 (show ys.length * E.size = 0 from hyl.symm) with h1 | h1
   ·exact List.eq_nil_of_length_eq_zero h1
   ·omega
  subst hy0
  have hrun : (Builtin.append_ #[t, t] ty #[v, .slice none 0 c]).run P w = .ok v w := by
   rcases hown.2 with ⟨rfl, h0⟩ | ⟨g, cap, cur, rfl, _, _, hnc, _⟩
   ·simp [Builtin.append_, run_underlying ht, sizeOf, typeInfo, hinf, Builtin.lenOf, Builtin.firstCells]
   ·simp [Builtin.append_, run_underlying ht, sizeOf, typeInfo, hinf, Builtin.lenOf, Builtin.firstCells, hnc, storeCells]
  refine ⟨v, w, ?_, by simpa using hv, hP, ⟨rfl, rfl, rfl, Nat.le_refl _, fun _ _ _ => rfl⟩, Or.inl rfl⟩
  unfold execOp
  simp only [resolve, invoke, builtin, Sem.run_bind, Sem.run_pure, Result.andThen_ok, List.map_toArray, List.map_cons, List.map_nil, hx, hy]
  simp only [List.length_nil] at hrun ⊢
  rw [hrun]
  rfl
 | some ad =>
  have hnews : ∀ j q, ycells[j]? = some q → w.cell? (ad.add j) = some q := fun j q hq => by
   obtain ⟨a', ha, hc⟩ := hyc j q hq
   simp only [Option.some.injEq] at ha; subst ha; exact hc
  have hwhere : ∀ v' w', (Builtin.append_ #[t, t] ty #[v, .slice (some ad) ys.length c]).run P w = .ok v' w' → v'.ownBlock = v.ownBlock ∨ ∃ k, v'.ownBlock = some k ∧ w.heap.size ≤ k := by
   intro v' w' hrun
   rcases hown.2 with ⟨rfl, h0⟩ | ⟨g, cap, cur, rfl, hbg, hg, hnc, hcm, hcs, htake⟩
   ·by_cases hm : ys.length = 0
    ·left
     rw [hm] at hrun
     have hyn : ycells = [] := List.eq_nil_of_length_eq_zero (by rw [hyl, hm, Nat.zero_mul])
     subst hyn
     simp [Builtin.append_, run_underlying ht, sizeOf, typeInfo, hinf, Builtin.lenOf, Builtin.firstCells, loadCells, loadCellsFrom] at hrun
     rw [← hrun.1]
    ·right
     have h3 : ys.length * bytes ≤ (xs.length + ys.length) * bytes := Nat.mul_le_mul_right _ (Nat.le_add_left _ _)
     have hr2 := run_append_nil (P := P) w t ty e inf z ht hinf hzero ad ys.length c ycells (by rw [hyl, hsz]) hnews (by omega) (by unfold maxLen at h63; omega) (by rw [hby]; omega)
     rw [hr2] at hrun
     simp only [Result.ok.injEq] at hrun
     rw [← hrun.1]
     exact ⟨_, rfl, Nat.le_refl _⟩
   ·by_cases hroom : xs.length + ys.length ≤ cap
    ·left
     have hfit : xs.length * inf.size + ycells.length ≤ cur.size := by rw [hyl, hcs, hsz, ← Nat.add_mul]; exact Nat.mul_le_mul_right _ hroom
     have hr2 := run_append_room (P := P) w t ty e inf ht hinf g xs.length cap cur hg ad ys.length c ycells (by rw [hyl, hsz]) hnews hone hroom hfit
     rw [hr2] at hrun
     simp only [Result.ok.injEq] at hrun
     rw [← hrun.1]; rfl
    ·right
     have holds : ∀ j q, cells[j]? = some q → w.cell? ((⟨g, 0, none⟩ : Addr).add j) = some q := hown.cells (g := g) rfl
     have hr2 := run_append_grow (P := P) w t ty e inf z ht hinf hzero ⟨g, 0, none⟩ xs.length cap cells (by rw [hown.1, hsz]) holds ad ys.length c ycells (by rw [hyl, hsz]) hnews (by omega) (by unfold maxLen at h63; omega) (growslice_fits (Nat.lt_of_not_le hroom) (by rw [hby]; exact hb))
     rw [hr2] at hrun
     simp only [Result.ok.injEq] at hrun
     rw [← hrun.1]
     exact ⟨_, rfl, Nat.le_refl _⟩
  obtain ⟨v', w', hrun, hown', hgr, _⟩ := run_append_own (P := P) w base t ty e inf z E.size bytes ht hinf hzero hsz hby hzs hpos v xs.length cells hown ad ys.length c ycells hyl hnews hone h63 hb hbase
  have hw := hwhere v' w' hrun
  have hfr' : ∀ k, v'.ownBlock = some k → ∀ o q, ¬ G k o q := by
   intro k hk o q hG
   rcases hw with h1 | ⟨k', h1, h2⟩
   ·exact hfree k (by rw [← h1]; exact hk) o q hG
   ·rw [h1] at hk; cases hk
    have := block_lt (hP _ _ _ hG); omega
  refine ⟨v', w', ?_, ⟨⟨_, by rw [List.length_append]; exact hown', hrep⟩, hfr'⟩, hP.grown hgr (fun k hk => hfree k hk), hgr, hw⟩
  unfold execOp
  simp only [resolve, invoke, builtin, Sem.run_bind, Sem.run_pure, Result.andThen_ok, List.map_toArray, List.map_cons, List.map_nil, hx, hy, hrun]

theorem run_make {α : Type} {E : Elt α} {e : Nat} (zero : α) (ht : P.underlying t = some (.slice e)) (bytes : Nat) (z : Value) (hi : (P.info? e).map (fun i => (i.size, i.bytes, i.zero)) = some (E.size, bytes, some z))
    (hz : ∀ G, E.rep G z.cells.toList zero) {G : Pin} {n : Int} (hx : ρ x = .int .i64 n) (hy : ρ y = .int .i64 n) (hP : Pins G w) (h0 : 0 ≤ n) (hb : bytes * n.toNat ≤ 281474976710656) (hm : n ≤ 9223372036854775807) :
    ∃ v w', (execOp ρ ⟨d, .makeSlice t x y, ty, pos, aft, g⟩).run P w = .ok (.value v) w' ∧ Own E e G w' w.heap.size v (List.replicate n.toNat zero) ∧ Pins G w' ∧ Below w.heap.size w w' ∧ v.ownBlock = some w.heap.size := by
  obtain ⟨inf, hinf, hsz⟩ := Option.map_eq_some_iff.1 hi
  simp only [Prod.mk.injEq] at hsz
  obtain ⟨hsz, hby, hz1⟩ := hsz
  have hzl : z.cells.toList.length = E.size := E.len (hz (fun _ _ _ => False))
  obtain ⟨w', hrun, hown, hgr⟩ := run_make_full (P := P) w w.heap.size t e inf z E.size ht hinf hz1 hsz .i64 .i64 n.toNat (by rw [hby]; exact hb) (by unfold maxLen; omega) (Nat.le_refl _)
  have hn : ((n.toNat : Nat) : Int) = n := by omega
  rw [hn] at hrun
  have hfree : ∀ k, Value.ownBlock (.slice (some ⟨w.heap.size, 0, none⟩) n.toNat n.toNat) = some k → ∀ o u, ¬ G k o u := by
    intro k hk o u hG
    simp [Value.ownBlock] at hk
    have := block_lt (hP _ _ _ hG); omega
  refine ⟨_, w', ?_, ⟨⟨_, by rw [List.length_replicate]; exact hown, fun i q hq => ?_⟩, hfree⟩, hP.grown hgr (fun k hk => by cases hk), ⟨hgr.os, hgr.tape, hgr.output, hgr.size, fun k hk => hgr.block k hk (by simp)⟩, rfl⟩
  · simp only [execOp, hx, hy, Sem.run_bind, hrun, Result.andThen_ok]; rfl
  rw [List.getElem?_replicate] at hq
  split at hq
  · rename_i hin
    cases hq
    have : ((madeCells z.cells (n.toNat * E.size)).toList.drop (i * E.size)).take E.size = z.cells.toList := by
      apply List.ext_getElem?
      intro j
      rw [List.getElem?_take]
      split
      · rename_i hj
        rw [List.getElem?_drop]
        have hlt : i * E.size + j < n.toNat * E.size := by
          have : (i + 1) * E.size ≤ n.toNat * E.size := Nat.mul_le_mul_right _ hin
          rw [Nat.add_mul] at this; omega
        simp only [madeCells]
        have hmod : (i * E.size + j) % z.cells.size = j := by
          have : z.cells.size = E.size := by simpa using hzl
          rw [this, Nat.mul_comm, Nat.mul_add_mod, Nat.mod_eq_of_lt hj]
        have hjz : j < z.cells.size := by have : z.cells.size = E.size := by simpa using hzl
                                          omega
        simp [hlt, hmod, hjz]
      · rename_i hj
        symm
        exact List.getElem?_eq_none (by omega)
    rw [this]
    exact hz G
  · cases hq
end

section
variable {P : Program} {w : World} {ρ : Operand → Value} {d : Option Nat} {t ty : Nat} {pos : String} {aft : Array Edge} {g : Option (Nat × Bool)} {x y p : Operand}

theorem Own.setAt {α : Type} {E : Elt α} {e : Nat} {G : Pin} {w : World} {base : Nat} {v : Value} {xs : List α} (h : Own E e G w base v xs) {z : Int} (h0 : 0 ≤ z) (h1 : z < xs.length)
  {q : α} {cs : List Value} (hq : E.rep G cs q) (hP : Pins G w) :
  ∃ g w', v.ownBlock = some g ∧ eptr v z E.size 0 = .pointer (some ⟨g, z.toNat * E.size, none⟩) ∧ (storeCells ⟨g, z.toNat * E.size, none⟩ cs).run P w = .ok () w' ∧
   Own E e G w' base v (xs.set z.toNat q) ∧ Pins G w' ∧ w.grownBy w' v.ownBlock ∧ w'.heap.size = w.heap.size := by
 obtain ⟨cells, hown, hr⟩ := h.ex
 have hfree := h.free
 rcases hown.2 with ⟨rfl, hl0⟩ | ⟨g, cap, cur, rfl, hbg, hg, hnc, hcm, hcs, htake⟩
 ·omega
 ·have hcl := E.len hq
  have hz : z.toNat < xs.length := by omega
  have hle1 : z.toNat * E.size + E.size ≤ xs.length * E.size := by rw [← Nat.succ_mul]; exact Nat.mul_le_mul_right _ hz
  have hle2 : xs.length * E.size ≤ cap * E.size := Nat.mul_le_mul_right _ hnc
  have hst := run_storeCells_at P g (z.toNat * E.size) e cs 0 cur w hg (by rw [hcl, hcs]; omega) (E.one hq)
  simp only [Nat.add_zero] at hst
  have hgrow : w.grownBy (w.setRow g (cur.toList.take (z.toNat * E.size) ++ cs ++ cur.toList.drop (z.toNat * E.size + cs.length)).toArray) (some g) :=
   ⟨rfl, rfl, rfl, by simp [World.setRow], fun k _ hk => setRow_other w g k _ (fun e => hk (by simp [e]))⟩
  have hcl0 : cells.length = xs.length * E.size := hown.1
  refine ⟨g, _, rfl, by simp [eptr, Addr.add]; omega, hst, ⟨⟨cells.take (z.toNat * E.size) ++ cs ++ cells.drop (z.toNat * E.size + cs.length), ⟨?_, .inr ⟨g, cap, _, by rw [List.length_set], hbg, setRow_heap w g cur _ e _ hg, by rw [List.length_set]; exact hnc, hcm, ?_, ?_⟩⟩, fun i u hu => ?_⟩, hfree⟩, hP.grown hgrow (fun k hk => hfree k (by rw [← hk]; rfl)), hgrow, by simp [World.setRow]⟩
  ·simp only [List.length_append, List.length_take, List.length_drop, List.length_set, hcl0, hcl]; omega
  ·simp only [List.size_toArray, List.length_append, List.length_take, List.length_drop, Array.length_toList, hcs, hcl]; omega
  ·rw [List.length_set, ← htake]
   apply List.ext_getElem?
   intro j
   simp only [List.getElem?_take, List.getElem?_append, List.length_take, List.length_append, List.getElem?_drop, Array.length_toList, hcs, hcl]
   by_cases hj : j < xs.length * E.size
   ·rw [if_pos hj]
    by_cases hj1 : j < z.toNat * E.size
    ·rw [if_pos (by omega), if_pos (by omega), if_pos hj1, if_pos (by omega), if_pos (by omega), if_pos hj1, if_pos hj]
    ·by_cases hj2 : j < z.toNat * E.size + E.size
     ·rw [if_pos (by omega), if_neg (by omega), if_pos (by omega), if_neg (by omega)]
      congr 1
      omega
     ·rw [if_neg (by omega), if_neg (by omega)]
      rw [if_pos (by omega)]
      congr 1
      omega
   ·rw [if_neg hj]
    split
    ·omega
    ·rw [if_neg (by omega)]
  ·by_cases hi : i = z.toNat
   ·subst hi
    rw [List.getElem?_set_self hz] at hu
    cases hu
    have : ((cells.take (z.toNat * E.size) ++ cs ++ cells.drop (z.toNat * E.size + cs.length)).drop (z.toNat * E.size)).take E.size = cs := by
     have hl : (cells.take (z.toNat * E.size)).length = z.toNat * E.size := by rw [List.length_take, hcl0]; omega
     rw [List.append_assoc, List.drop_append_of_le_length (by omega), List.drop_eq_nil_of_le (by omega), List.nil_append, ← hcl, List.take_left]
    rw [this]; exact hq
   ·rw [List.getElem?_set_ne (by omega)] at hu
    have := hr i u hu
    have heq : ((cells.take (z.toNat * E.size) ++ cs ++ cells.drop (z.toNat * E.size + cs.length)).drop (i * E.size)).take E.size = (cells.drop (i * E.size)).take E.size := by
     have hi2 : i < xs.length := (List.getElem?_eq_some_iff.1 hu).1
     have hle3 : i * E.size + E.size ≤ xs.length * E.size := by rw [← Nat.succ_mul]; exact Nat.mul_le_mul_right _ hi2
     have hap : i * E.size + E.size ≤ z.toNat * E.size ∨ z.toNat * E.size + E.size ≤ i * E.size := by
      rcases Nat.lt_or_gt_of_ne hi with h3 | h3
      ·left; rw [← Nat.succ_mul]; exact Nat.mul_le_mul_right _ h3
      ·right; rw [← Nat.succ_mul]; exact Nat.mul_le_mul_right _ h3
     apply List.ext_getElem?
     intro j
     simp only [List.getElem?_take, List.getElem?_drop]
     by_cases hj : j < E.size
     ·rw [if_pos hj, if_pos hj]
      simp only [List.getElem?_append, List.length_take, List.length_append, List.getElem?_take, List.getElem?_drop, hcl0, hcl]
      rcases hap with h3 | h3
      ·rw [if_pos (by omega), if_pos (by omega), if_pos (by omega)]
      ·rw [if_neg (by omega)]
       congr 1
       omega
     ·rw [if_neg hj, if_neg hj]
    rw [heq]; exact this

theorem run_set {α : Type} {E : Elt α} {e : Nat} {G : Pin} {base : Nat} {v u : Value} {xs : List α} {z : Int} {cs : List Value} (q : α) (hs : (P.info? t).map (·.size) = some E.size)
  (hx : ρ x = eptr v z E.size 0) (hy : ρ y = u) (hc : u.cells.toList = cs) (hq : E.rep G cs q) (hP : Pins G w) (hv : Own E e G w base v xs) (h0 : 0 ≤ z) (h1 : z < xs.length) :
  ∃ w', (execOp ρ ⟨d, .store t x y, ty, pos, aft, g⟩).run P w = .ok .skip w' ∧ Own E e G w' base v (xs.set z.toNat q) ∧ Pins G w' ∧ w.grownBy w' v.ownBlock ∧ w'.heap.size = w.heap.size := by
 obtain ⟨gb, w', hb, hp, hrun, h2, h3, h4, h5⟩ := hv.setAt (P := P) h0 h1 hq hP
 rw [hp] at hx
 have hsz : u.cells.size = E.size := by rw [← E.len hq, ← hc]; simp
 have hst : (storeVar t ⟨gb, z.toNat * E.size, none⟩ u).run P w = .ok () w' := by
  unfold storeVar
  simp only [Sem.run_bind, run_sizeOf hs, Result.andThen_ok, hsz]
  simp only [ne_eq, not_true_eq_false, if_false]
  rw [hc]
  exact hrun
 refine ⟨w', ?_, h2, h3, h4, h5⟩
 simp only [execOp, hx, hy, Instr.storeAt, Instr.sureAddr, Sem.run_bind, Sem.run_pure, Result.andThen_ok, hst]

theorem run_build {α : Type} {E : Elt α} {e : Nat} (n : Nat) (parts : Array (Nat × Operand)) (cells : List Value) (ys : List α)
  (hrun : (Instr.buildSlice t n (parts.map fun (i, x) => (i, ρ x))).run P w = .ok (.slice (some ⟨w.heap.size, 0, none⟩) n n) (w.alloc (.cells cells.toArray e)))
  {G : Pin} (hP : Pins G w) (hn : n = ys.length) (hm : n ≤ 1000000) (hl : cells.length = n * E.size) (hr : ∀ i y, ys[i]? = some y → E.rep G ((cells.drop (i * E.size)).take E.size) y) :
  ∃ v w', (execOp ρ ⟨d, .buildSlice t n parts, ty, pos, aft, g⟩).run P w = .ok (.value v) w' ∧ Own E e G w' w.heap.size v ys ∧ Pins G w' ∧ Below w.heap.size w w' ∧ v.ownBlock = some w.heap.size := by
 have hfree : ∀ k, Value.ownBlock (.slice (some ⟨w.heap.size, 0, none⟩) n n) = some k → ∀ o u, ¬ G k o u := by
  intro k hk o u hG
  simp [Value.ownBlock] at hk
  have := block_lt (hP _ _ _ hG); omega
 have hb : Below w.heap.size w (w.alloc (.cells cells.toArray e)) := (Below.refl _ _).alloc (Nat.le_refl _) _
 have ho := World.ownsRow_lit (base := w.heap.size) (e := e) (size := E.size) w cells.toArray n (Nat.le_refl _) (by unfold maxLen; omega) (by simpa using hl)
 refine ⟨_, _, ?_, ⟨⟨cells, by rw [← hn]; simpa using ho, hr⟩, hfree⟩, hP.below hb, hb, rfl⟩
 simp only [execOp, Sem.run_bind, hrun, Result.andThen_ok]
 rfl
end


section
variable {P : Program} {w : World} {d : Option Nat} {t ty : Nat} {pos : String} {aft : Array Edge} {x : Operand}
 {α : Type} {E : Elt α} {G : Pin} {v : Value} {z : Int}
theorem run_load_bool {xs : List Bool} {ρ : Operand → Value} {g : Option (Nat × Bool)} {r : Bool} (he : xs.getD z.toNat false = r) (ha : (P.underlying t).map aggD = some false) (hx : ρ x = eptr v z 1 0) (hv : RSl eBool G v xs) (hP : Pins G w) (h0 : 0 ≤ z) (h1 : z < xs.length) :
  (execOp ρ ⟨d, .load t x, ty, pos, aft, g⟩).run P w = .ok (.value (.bool r)) w := by
 subst he
 obtain ⟨cs, e, u, he, hr, hc, hrun⟩ := run_load1 (d := d) (ty := ty) (pos := pos) (aft := aft) (g := g) ha hx hP hv h0 h1 (by decide)
 simp only [eBool] at hr
 subst hr
 simp at hc
 subst hc
 rw [hrun, List.getD, he]; rfl
theorem run_load_str {xs : List ByteArray} {ρ : Operand → Value} {g : Option (Nat × Bool)} {r : ByteArray} (he : xs.getD z.toNat ByteArray.empty = r) (ha : (P.underlying t).map aggD = some false) (hx : ρ x = eptr v z 1 0) (hv : RSl eStr G v xs) (hP : Pins G w) (h0 : 0 ≤ z) (h1 : z < xs.length) :
  (execOp ρ ⟨d, .load t x, ty, pos, aft, g⟩).run P w = .ok (.value (.string r)) w := by
 subst he
 obtain ⟨cs, e, u, he, hr, hc, hrun⟩ := run_load1 (d := d) (ty := ty) (pos := pos) (aft := aft) (g := g) ha hx hP hv h0 h1 (by decide)
 simp only [eStr] at hr
 subst hr
 simp at hc
 subst hc
 rw [hrun, List.getD, he]; rfl
end
end Go.GL

namespace Go.GL
open Go Go.RowKit


def upd (env : Nat → Value) (d : Nat) (v : Value) : Nat → Value := fun k => cond (Nat.beq k d) v (env k)
def ev (env : Nat → Value) : Operand → Value
 | .tmp t => env t
 | .const v => v
 | .global g => .pointer (some ⟨g, 0, none⟩)
 | .func f => .func (.func f) #[] #[]
def envOf (l : List Value) : Nat → Value := fun k => l.getD k undef
def F (n : Nat) (env : Nat → Value) : Act := ⟨Array.ofFn (fun i : Fin n => env i.val), []⟩
theorem upd_same {env : Nat → Value} {d : Nat} {v : Value} (h : env d = v) : upd env d v = env := by
 funext k
 unfold upd
 cases hk : Nat.beq k d
 ·rfl
 ·have := Nat.eq_of_beq_eq_true hk
  subst this; exact h.symm
theorem put_F (n d : Nat) (env : Nat → Value) (v : Value) : (F n env).put (some d) v = F n (upd env d v) := by
 show (⟨(Array.ofFn (fun i : Fin n => env i.val)).setIfInBounds d v, []⟩ : Act) = ⟨Array.ofFn (fun i : Fin n => upd env d v i.val), []⟩
 congr 1
 apply Array.ext
 ·simp
 ·intro i h1 h2
  have h3 : i < n := by simpa using h2
  rw [Array.getElem_ofFn]
  by_cases h : d = i
  ·subst h
   rw [Array.getElem_setIfInBounds_self]
   simp [upd]
  ·have hb : Nat.beq i d = false := by
    cases hb : Nat.beq i d
    ·rfl
    ·exact absurd (Nat.eq_of_beq_eq_true hb).symm h
   rw [Array.getElem_setIfInBounds_ne (by simpa using h3) h, Array.getElem_ofFn]
   simp [upd, hb]
theorem put_F0 (n : Nat) (env : Nat → Value) (v : Value) : (F n env).put none v = F n env := rfl
def okX (n : Nat) : Operand → Bool
 | .tmp t => Nat.blt t n
 | _ => true
def okC (n : Nat) (c : Call) : Bool := (match c.callee with | .value f => okX n f | .invoke r _ => okX n r | .builtin _ => true) && c.args.toList.all (okX n)
def okN (n : Nat) : Option Operand → Bool
 | none => true
 | some x => okX n x
def okO (n : Nat) (o : Oper) : Bool :=
 match o.op with
 | .alloc _ | .ready _ | .waits _ => true
 | .move x | .assign x | .box _ x | .load _ x | .nilCheck x | .unOp _ _ x | .convert _ _ x | .sliceToArrayPointer _ x | .makeInterface _ x
 | .makeChan _ x | .fieldAddr _ x _ | .field _ x _ | .range _ x | .next x _ | .entry x | .typeAssert x _ _ _ | .extract x _ | .panic x | .recv _ x _ => okX n x
 | .pick c a b => okX n c && okX n a && okX n b
 | .build _ ps | .buildSlice _ _ ps => ps.toList.all fun p => okX n p.2
 | .store _ a v | .binOp _ _ a v _ | .makeSlice _ a v | .indexAddr _ a v | .index _ a v | .lookup _ a v _ | .mapEntry _ a v | .send a v => okX n a && okX n v
 | .makeFunc _ first captured => first.toList.all (okX n) && captured.toList.all (okX n)
 | .makeMap _ r => okN n r
 | .slice _ x l h m => okX n x && okN n l && okN n h && okN n m
 | .mapUpdate _ m k v | .entryStore _ m k v | .insert _ m k v => okX n m && okX n k && okX n v
 | .call c | .go c | .defer c => okC n c
 | .select _ _ => false

theorem eval_F {n : Nat} {env : Nat → Value} {x : Operand} (h : okX n x = true) : (F n env).eval x = ev env x := by
 cases x with
 | tmp t =>
  have ht : t < n := by simpa [okX, Nat.blt_eq] using h
  simp [Act.eval, F, ev, ht]
 | _ => rfl

theorem exec_F {n : Nat} {env : Nat → Value} {o : Oper} (h : okO n o = true) : execOp (F n env).eval o = execOp (ev env) o := by
  refine execOp_congr o ?_ ?_
  · intro cs b he
    rw [okO, he] at h
    cases h
  · intro x hx
    refine eval_F ?_
    obtain ⟨dst, op, ty, pos, aft, g⟩ := o
    cases op <;> simp only [okO, okC, Bool.and_eq_true, Op.operands, Call.operands] at h hx
    all_goals first
      | (simp at hx; done)
      | (simp at hx; subst hx; exact h)
      | (simp at hx; rcases hx with rfl | rfl <;> first | exact h.1 | exact h.2)
      | (simp at hx; rcases hx with rfl | rfl | rfl <;> first | exact h.1.1 | exact h.1.2 | exact h.2)
      | skip
    case build t ps => obtain ⟨i, hi⟩ : ∃ i, (i, x) ∈ ps := by simpa using hx
                       exact List.all_eq_true.1 h (i, x) (by simpa using hi)
    case buildSlice t l ps => obtain ⟨i, hi⟩ : ∃ i, (i, x) ∈ ps := by simpa using hx
                              exact List.all_eq_true.1 h (i, x) (by simpa using hi)
    case makeFunc fn f c => simp at hx; rcases hx with hx | hx <;> first | exact List.all_eq_true.1 h.1 _ (by simpa using hx) | exact List.all_eq_true.1 h.2 _ (by simpa using hx)
    case slice t y l hi m =>
      simp at hx
      rcases hx with rfl | hx | hx | hx
      · exact h.1.1.1
      · cases l <;> simp at hx; subst hx; exact h.1.1.2
      · cases hi <;> simp at hx; subst hx; exact h.1.2
      · cases m <;> simp at hx; subst hx; exact h.2
    all_goals first
      | (rename_i c; obtain ⟨callee, args, ats⟩ := c
         have h2 : ∀ x ∈ args, okX n x = true := fun x hx => List.all_eq_true.1 h.2 x (by simpa using hx)
         cases callee <;> simp at hx <;> first | exact h2 x hx | (rcases hx with rfl | hx <;> first | exact h.1 | exact h2 x hx))
      | (cases h)

theorem want_none {o : Oper} (hg : o.guard = none) (f : Nat → Option Bool) : Region.wanted o f = true := by simp [Region.wanted, hg]
theorem want_yes {ops : Array Oper} {n j t : Nat} {env : Nat → Value} {o : Oper} {b : Bool} (hg : o.guard = some (j, b)) (hj : (ops[j]?).bind (·.dst) = some t) (ht : Nat.blt t n = true) (he : env t = .bool b) :
  Region.wanted o (yielded ops (F n env).tmps) = true := by
 have h1 : t < n := by simpa [Nat.blt_eq] using ht
 simp [Region.wanted, hg, yielded, hj, F, h1, he]
theorem want_no {ops : Array Oper} {n j t : Nat} {env : Nat → Value} {o : Oper} {b c : Bool} (hg : o.guard = some (j, b)) (hj : (ops[j]?).bind (·.dst) = some t) (ht : Nat.blt t n = true) (he : env t = .bool c) (hbc : b = !c) :
  Region.wanted o (yielded ops (F n env).tmps) = false := by
 have h1 : t < n := by simpa [Nat.blt_eq] using ht
 subst hbc
 simp [Region.wanted, hg, yielded, hj, F, h1, he]
theorem want_undef {ops : Array Oper} {n j t : Nat} {env : Nat → Value} {o : Oper} {b : Bool} (hg : o.guard = some (j, b)) (hj : (ops[j]?).bind (·.dst) = some t) (ht : Nat.blt t n = true) (he : env t = undef) :
  Region.wanted o (yielded ops (F n env).tmps) = false := by
 have h1 : t < n := by simpa [Nat.blt_eq] using ht
 simp [Region.wanted, hg, yielded, hj, F, h1, he, undef]


def EO (P : Program) (ρ : Operand → Value) (o : Oper) (w : World) (K : Value → World → Prop) : Prop :=
 ∀ (a : Act) (N : Act → World → Prop) (Q : Exit → Act → World → Prop), (∀ v w', K v w' → N (a.put o.dst v) w') → o.upon P a N Q ((execOp ρ o).run P w)
theorem EO.run {P : Program} {ρ : Operand → Value} {o : Oper} {w w' : World} {K : Value → World → Prop} {v : Value} (h : (execOp ρ o).run P w = .ok (.value v) w') (hk : K v w') : EO P ρ o w K := by
 intro a N Q hn
 rw [h]
 exact hn v w' hk
theorem EO.skip {P : Program} {ρ : Operand → Value} {o : Oper} {w w' : World} {K : Value → World → Prop} (h : (execOp ρ o).run P w = .ok .skip w') (hk : K undef w') : EO P ρ o w K := by
 intro a N Q hn
 rw [h]
 exact hn undef w' hk
theorem EO.call {P : Program} {ρ : Operand → Value} {o : Oper} {w w1 : World} {K : Value → World → Prop} {f : FuncId} {args : Array Value} (h : (execOp ρ o).run P w = .ok (.enter f args) w1)
  (hc : Calls P f args w1 fun e w' => ∃ v, e = .returned v ∧ K v w') : EO P ρ o w K := by
 intro a N Q hn
 rw [h]
 refine Calls.mono hc fun e w' he => ?_
 obtain ⟨v, rfl, hk⟩ := he
 exact hn v w' hk
structure WL (P : Program) (ops : Array Oper) (Q : Exit → Act → World → Prop) (l : List Oper) (a : Act) (w : World) : Prop where
 out : wpList P ops Q l a w
section
variable {P : Program} {ops : Array Oper} {Q : Exit → Act → World → Prop} {n : Nat} {env : Nat → Value} {w : World} {rest : List Oper} {o : Oper}
theorem q1 {d : Nat} (hg : o.guard = none) (hd : o.dst = some d) (hok : okO n o = true) (h : EO P (ev env) o w fun v w' => WL P ops Q rest (F n (upd env d v)) w') : WL P ops Q (o :: rest) (F n env) w := by
 constructor
 unfold wpList
 rw [if_pos (want_none hg _)]
 left
 unfold Oper.wp
 rw [exec_F hok]
 exact h _ _ _ fun v w' hk => by rw [hd, put_F]; exact hk.out
theorem q0 (hg : o.guard = none) (hd : o.dst = none) (hok : okO n o = true) (h : EO P (ev env) o w fun _ w' => WL P ops Q rest (F n env) w') : WL P ops Q (o :: rest) (F n env) w := by
 constructor
 unfold wpList
 rw [if_pos (want_none hg _)]
 left
 unfold Oper.wp
 rw [exec_F hok]
 exact h _ _ _ fun v w' hk => by rw [hd, put_F0]; exact hk.out
theorem qd {d : Nat} {v : Value} (hg : o.guard = none) (hd : o.dst = some d) (hok : okO n o = true) (hr : (execOp (ev env) o).run P w = .ok (.value v) w) (h : WL P ops Q rest (F n (upd env d v)) w) : WL P ops Q (o :: rest) (F n env) w :=
 q1 hg hd hok (EO.run hr h)
theorem q1g {d j t : Nat} {b : Bool} (hg : o.guard = some (j, b)) (hj : (ops[j]?).bind (·.dst) = some t) (ht : Nat.blt t n = true) (he : env t = .bool b) (hd : o.dst = some d) (hok : okO n o = true)
  (h : EO P (ev env) o w fun v w' => WL P ops Q rest (F n (upd env d v)) w') : WL P ops Q (o :: rest) (F n env) w := by
 constructor
 unfold wpList
 rw [if_pos (want_yes hg hj ht he)]
 left
 unfold Oper.wp
 rw [exec_F hok]
 exact h _ _ _ fun v w' hk => by rw [hd, put_F]; exact hk.out
theorem qdg {d j t : Nat} {b : Bool} {v : Value} (hg : o.guard = some (j, b)) (hj : (ops[j]?).bind (·.dst) = some t) (ht : Nat.blt t n = true) (he : env t = .bool b) (hd : o.dst = some d) (hok : okO n o = true)
  (hr : (execOp (ev env) o).run P w = .ok (.value v) w) (h : WL P ops Q rest (F n (upd env d v)) w) : WL P ops Q (o :: rest) (F n env) w :=
 q1g hg hj ht he hd hok (EO.run hr h)
theorem qs {d j t : Nat} {b c : Bool} (hg : o.guard = some (j, b)) (hj : (ops[j]?).bind (·.dst) = some t) (ht : Nat.blt t n = true) (he : env t = .bool c) (hbc : b = !c) (hd : o.dst = some d)
  (h : WL P ops Q rest (F n (upd env d undef)) w) : WL P ops Q (o :: rest) (F n env) w := by
 constructor
 unfold wpList
 rw [if_neg (by rw [want_no hg hj ht he hbc]; simp), hd, put_F]
 exact h.out
theorem qsu {d j t : Nat} {b : Bool} (hg : o.guard = some (j, b)) (hj : (ops[j]?).bind (·.dst) = some t) (ht : Nat.blt t n = true) (he : env t = undef) (hd : o.dst = some d)
  (h : WL P ops Q rest (F n (upd env d undef)) w) : WL P ops Q (o :: rest) (F n env) w := by
 constructor
 unfold wpList
 rw [if_neg (by rw [want_undef hg hj ht he]; simp), hd, put_F]
 exact h.out
theorem qe (h : Q .normal (F n env) w) : WL P ops Q [] (F n env) w := ⟨h⟩
theorem qb {l : List Oper} {t : Nat} {b : Bool} (he : env t = .bool b) (h1 : b = true → WL P ops Q l (F n (upd env t (.bool true))) w) (h2 : b = false → WL P ops Q l (F n (upd env t (.bool false))) w) : WL P ops Q l (F n env) w := by
 cases b
 ·have := h2 rfl; rwa [upd_same he] at this
 ·have := h1 rfl; rwa [upd_same he] at this
end


section
variable {P : Program} {Q : Exit → Act → World → Prop} {n : Nat} {env : Nat → Value} {w : World} {a : Act}
theorem enter {f : FuncId} {fn : Func} {c : Code} {l : List Value} {R : Ending → World → Prop} (hf : P.funcs[f]? = some fn) (hn : fn.ntmps = n) (hl : Nat.ble l.length n = true) (hb : fn.body = some c)
  (h : c.wp P (bodyPost P fn R) (F n (envOf l)) w) : Calls P f l.toArray w R := by
 refine calls_of_wp hf hb ?_
 have h1 : l.length ≤ n := by simpa [Nat.ble_eq] using hl
 have : ({ tmps := l.toArray ++ Array.replicate (fn.ntmps - l.toArray.size) undef, defers := [] } : Act) = F n (envOf l) := by
  unfold F
  congr 1
  apply Array.ext
  ·simp; omega
  ·intro i h2 h3
   simp only [Array.getElem_ofFn, envOf]
   rw [Array.getElem_append]
   split
   ·rename_i h4; simp at h4; simp [List.getD, h4]
   ·rename_i h4; simp at h4; simp [List.getD, List.getElem?_eq_none h4]
 rw [this]
 exact h
theorem c_reg {id : Nat} {l : List Oper} (h : WL P l.toArray Q l (F n env) w) : (Code.region id l.toArray false).wp P Q (F n env) w := wp_region_lit h.out
theorem c_blkE {id : Nat} (h : Q .normal a w) : Exit.inBlock id Q (.exit id) a w := by simp only [Exit.inBlock, if_true]; exact h
theorem c_if {c : Operand} {x y : Code} {b : Bool} (hok : okX n c = true) (hc : ev env c = .bool b) (h1 : b = true → x.wp P Q (F n env) w) (h2 : b = false → y.wp P Q (F n env) w) : (Code.cond c x y).wp P Q (F n env) w :=
 wp_cond_split (by rw [eval_F hok]; exact hc) h1 h2
theorem c_ret1 {fn : Func} {R : Ending → World → Prop} {t : Nat} {v : Value} (hr : fn.results = #[.tmp t]) (ht : Nat.blt t n = true) (hv : env t = v) (h : R (.returned v) w) : bodyPost P fn R .ret (F n env) w := by
 have h1 : t < n := by simpa [Nat.blt_eq] using ht
 refine bodyPost_ret (results_tmp hr _ _ _) rfl ?_
 simp only [F, Array.getD_eq_getD_getElem?]
 simp [h1, hv]; exact h
theorem c_ret2 {fn : Func} {R : Ending → World → Prop} {t s : Nat} {v u : Value} (hr : fn.results = #[.tmp t, .tmp s]) (ht : Nat.blt t n = true) (hs : Nat.blt s n = true) (hv : env t = v) (hu : env s = u) (h : R (.returned (.tuple #[v, u])) w) : bodyPost P fn R .ret (F n env) w := by
 have h1 : t < n := by simpa [Nat.blt_eq] using ht
 have h2 : s < n := by simpa [Nat.blt_eq] using hs
 refine bodyPost_ret (results_tmp2 hr _ _ _) rfl ?_
 simp only [F, Array.getD_eq_getD_getElem?]
 simp [h1, h2, hv, hu]; exact h
theorem c_ret0 {fn : Func} {R : Ending → World → Prop} (hr : fn.results = #[]) (h : R (.returned (.tuple #[])) w) : bodyPost P fn R .ret (F n env) w :=
 bodyPost_ret (results_none hr _ _ _) rfl h
theorem c_end0 {fn : Func} {R : Ending → World → Prop} (hr : fn.results = #[]) (h : R (.returned (.tuple #[])) w) : bodyPost P fn R .normal (F n env) w :=
 bodyPost_end (results_none hr _ _ _) rfl h
end


section
variable {P : Program} {ops : Array Oper} {Q : Exit → Act → World → Prop} {md : Region.Mode} {S : World → Prop}
def dr (P : Program) (md : Region.Mode) (ops : Array Oper) (Q : Exit → Act → World → Prop) (S : World → Prop) (last : Nat) : Nat → Array Bool → Act → World → Prop
 | 0, listed, a, w => Region.ready md ops listed = [] ∧ Q .normal a w
 | fuel + 1, listed, a, w =>
  (Region.ready md ops listed = [] → Q .normal a w) ∧
  ∀ i ∈ Region.ready md ops listed, wpOp P ops Q i (fun a' w' => (i ≠ last → S w') ∧ dr P md ops Q S last fuel (listed.setIfInBounds i true) a' w') a w
theorem wpAny_of_dr {last : Nat} : ∀ (fuel : Nat) (listed : Array Bool) (a : Act) (w : World), dr P md ops Q S last fuel listed a w → wpAny P md ops Q fuel listed a w
 | 0, _, _, _, h => h
 | fuel + 1, _, _, _, h => ⟨h.1, fun i hi => wpOp_mono (fun a' w' h' => wpAny_of_dr fuel _ a' w' h'.2) (h.2 i hi)⟩

theorem dr_first {last i : Nat} {oi : Oper} {v : Value} (hi : ops[i]? = some oi) (hsel : ∀ (j : Nat) (o : Oper) cs b, ops[j]? = some o → o.op ≠ .select cs b)
  (hQ : ∀ c a w, Q (.panic c) (a.put oi.dst v) w → Q (.panic c) a w) :
  ∀ (fuel : Nat) (listed : Array Bool) (a : Act) (w : World),
   (∀ j oj, ops[j]? = some oj → j ≠ i → listed.getD j true = false → (∀ e ∈ oj.after, Region.binds md e = true → e.on ≠ i) → oi.apart ops oj = true) →
   (∀ ol, ops[last]? = some ol → i ≠ last ∧ ∃ e ∈ ol.after, Region.binds md e = true ∧ e.on = i) →
   i ∈ Region.ready md ops listed → YieldsIf P ops S oi v a → S w →
   dr P md ops Q S last fuel (listed.setIfInBounds i true) (a.put oi.dst v) w → dr P md ops Q S last (fuel + 1) listed a w := by
 intro fuel
 induction fuel with
 | zero =>
  intro listed a w _ _ hr hy hS H
  refine ⟨fun h => (by rw [h] at hr; cases hr), fun j hj => ?_⟩
  by_cases hji : j = i
  ·subst hji; exact hy.wpOp hi hS ⟨fun _ => hS, H⟩
  ·have := ready_mono hj hji
   rw [H.1] at this
   cases this
 | succ fuel ih =>
  intro listed a w hfree hlast hr hy hS H
  refine ⟨fun h => (by rw [h] at hr; cases hr), fun j hj => ?_⟩
  by_cases hji : j = i
  ·subst hji; exact hy.wpOp hi hS ⟨fun _ => hS, H⟩
  ·have h1 := H.2 j (ready_mono hj hji)
   obtain ⟨hjun, oj, hoj, hall⟩ := mem_ready.1 hj
   have hnot : ∀ e ∈ oj.after, Region.binds md e = true → e.on ≠ i := fun e he hb heq => by
    have h1 := hall e he hb
    have h0 := (mem_ready.1 hr).1
    rw [heq] at h1
    rcases Nat.lt_or_ge i listed.size with h' | h'
    ·simp [h'] at h0 h1; rw [h0] at h1; cases h1
    ·simp [Array.getElem?_eq_none h'] at h1
   have h2 := wpOp_putIf hoj (hfree j oj hoj hji hjun hnot) (fun cs b => hsel i oi cs b hi) (fun cs b => hsel j oj cs b hoj) hQ hy h1
   have hfree' : ∀ k ok, ops[k]? = some ok → k ≠ i → (listed.setIfInBounds j true).getD k true = false →
     (∀ e ∈ ok.after, Region.binds md e = true → e.on ≠ i) → oi.apart ops ok = true := fun k ok hk hki hun hno => by
    refine hfree k ok hk hki ?_ hno
    by_cases hjk : j = k
    ·subst hjk; exact hjun
    ·rw [getD_set_ne true hjk] at hun; exact hun
   have hjl : j ≠ last := fun e => by
    subst e
    obtain ⟨_, e, he, hb, heq⟩ := hlast oj hoj
    exact hnot e he hb heq
   refine wpOp_mono (fun a' w' h3 => ⟨fun _ => h3.2.1 hjl, ih (listed.setIfInBounds j true) a' w' hfree' hlast (ready_mono hr (Ne.symm hji)) h3.1 (h3.2.1 hjl) ?_⟩) h2
   rw [Array.setIfInBounds_comm _ _ hji]
   exact h3.2.2

def waits (ops : Array Oper) (last i : Nat) : Bool :=
 match ops[last]? with
 | none => true
 | some ol => !(Nat.beq i last) && ol.after.any (fun e => Region.binds .any e && Nat.beq e.on i)

structure DR (P : Program) (ops : Array Oper) (Q : Exit → Act → World → Prop) (S : World → Prop) (last fuel : Nat) (listed : Array Bool) (a : Act) (w : World) : Prop where
 out : dr P .any ops (NoPanic Q) S last fuel listed a w
variable {n fuel : Nat} {env : Nat → Value} {listed : Array Bool} {w : World} {o : Oper}
theorem dr_take {last i d : Nat} {v : Value} (hi : ops[i]? = some o) (hd : o.dst = some d) (hok : okO n o = true) (hw : Region.wanted o (yielded ops (F n env).tmps) = true)
  (hf : (Region.noSelect ops && Region.free .any ops listed i && (Region.ready .any ops listed).contains i && waits ops last i) = true)
  (hy : ∀ w, S w → (execOp (ev env) o).run P w = .ok (.value v) w) (hS : S w)
  (h : DR P ops Q S last fuel (listed.setIfInBounds i true) (F n (upd env d v)) w) : DR P ops Q S last (fuel + 1) listed (F n env) w := by
 simp only [Bool.and_eq_true] at hf
 obtain ⟨⟨⟨h1, h2⟩, h3⟩, h4⟩ := hf
 constructor
 refine dr_first hi (Region.noSelect_spec h1) (fun _ _ _ h => h) fuel listed _ w (Region.free_spec hi h2) ?_ (by simpa using h3) (Or.inl ⟨hw, fun w hs => by rw [exec_F hok]; exact hy w hs⟩) hS (by rw [hd, put_F]; exact h.out)
 intro ol hol
 simp only [waits, hol, Bool.and_eq_true, Bool.not_eq_true'] at h4
 refine ⟨fun e => by subst e; simp at h4, ?_⟩
 obtain ⟨e, he, hb⟩ := Array.any_eq_true'.1 h4.2
 simp only [Bool.and_eq_true] at hb
 exact ⟨e, he, hb.1, Nat.eq_of_beq_eq_true hb.2⟩
theorem dr_skip {last i d : Nat} (hi : ops[i]? = some o) (hd : o.dst = some d) (hw : Region.wanted o (yielded ops (F n env).tmps) = false)
  (hf : (Region.noSelect ops && Region.free .any ops listed i && (Region.ready .any ops listed).contains i && waits ops last i) = true) (hS : S w)
  (h : DR P ops Q S last fuel (listed.setIfInBounds i true) (F n (upd env d undef)) w) : DR P ops Q S last (fuel + 1) listed (F n env) w := by
 simp only [Bool.and_eq_true] at hf
 obtain ⟨⟨⟨h1, h2⟩, h3⟩, h4⟩ := hf
 constructor
 refine dr_first hi (Region.noSelect_spec h1) (fun _ _ _ h => h) fuel listed _ w (Region.free_spec hi h2) ?_ (by simpa using h3) (Or.inr ⟨hw, rfl⟩) hS (by rw [hd, put_F]; exact h.out)
 intro ol hol
 simp only [waits, hol, Bool.and_eq_true, Bool.not_eq_true'] at h4
 refine ⟨fun e => by subst e; simp at h4, ?_⟩
 obtain ⟨e, he, hb⟩ := Array.any_eq_true'.1 h4.2
 simp only [Bool.and_eq_true] at hb
 exact ⟨e, he, hb.1, Nat.eq_of_beq_eq_true hb.2⟩
structure drOp (P : Program) (ops : Array Oper) (Q : Exit → Act → World → Prop) (S : World → Prop) (last n fuel : Nat) (listed : Array Bool) (env : Nat → Value) (w : World) (i : Nat) : Prop where
 out : wpOp P ops (NoPanic Q) i (fun a' w' => (i ≠ last → S w') ∧ dr P .any ops (NoPanic Q) S last fuel (listed.setIfInBounds i true) a' w') (F n env) w
theorem dr_one {last i : Nat} (hr : Region.ready .any ops listed = [i]) (h : drOp P ops Q S last n fuel listed env w i) : DR P ops Q S last (fuel + 1) listed (F n env) w :=
 ⟨⟨fun h0 => (by rw [hr] at h0; cases h0), fun j hj => by rw [hr] at hj; simp at hj; subst hj; exact h.out⟩⟩
theorem drOp1 {last i d : Nat} (hi : ops[i]? = some o) (hd : o.dst = some d) (hok : okO n o = true) (hw : Region.wanted o (yielded ops (F n env).tmps) = true)
  (h : EO P (ev env) o w fun v w' => (i ≠ last → S w') ∧ DR P ops Q S last fuel (listed.setIfInBounds i true) (F n (upd env d v)) w') : drOp P ops Q S last n fuel listed env w i := by
 constructor
 unfold wpOp
 simp only [hi, hw, if_true]
 left
 unfold Oper.wp
 rw [exec_F hok]
 exact h _ _ _ fun v w' hk => by rw [hd, put_F]; exact ⟨hk.1, hk.2.out⟩
theorem drOp0 {last i : Nat} (hi : ops[i]? = some o) (hd : o.dst = none) (hok : okO n o = true) (hw : Region.wanted o (yielded ops (F n env).tmps) = true)
  (h : EO P (ev env) o w fun _ w' => (i ≠ last → S w') ∧ DR P ops Q S last fuel (listed.setIfInBounds i true) (F n env) w') : drOp P ops Q S last n fuel listed env w i := by
 constructor
 unfold wpOp
 simp only [hi, hw, if_true]
 left
 unfold Oper.wp
 rw [exec_F hok]
 exact h _ _ _ fun v w' hk => by rw [hd, put_F0]; exact ⟨hk.1, hk.2.out⟩
theorem dr_end {last : Nat} (hr : Region.ready .any ops listed = []) (h : Q .normal (F n env) w) : DR P ops Q S last fuel listed (F n env) w := by
 cases fuel with
 | zero => exact ⟨⟨hr, NoPanic.normal h⟩⟩
 | succ k => exact ⟨⟨fun _ => NoPanic.normal h, by rw [hr]; simp⟩⟩
theorem c_draw {id last : Nat} {l : List Oper} {m : Nat} (hm : P.follows .mixedOrders = true) (hl : l.toArray.size = m)
  (h : DR P l.toArray Q S last m (Array.replicate m false) (F n env) w.drew) : (Code.region id l.toArray true).wp P Q (F n env) w := by
 refine wp_region_noPanic (wp_region_any hm (wpAny_of_dr (S := S) (last := last) _ _ _ _ ?_))
 rw [hl]
 exact h.out
end
end Go.GL

namespace Go.GL
open Go Go.RowKit

section
variable {P : Program} {ρ : Operand → Value} {w : World} {d : Option Nat} {t ty t' : Nat} {pos : String} {aft : Array Edge} {g : Option (Nat × Bool)} {x y c : Operand}
 {v u : Value} {i j : Int} {k : IntKind}

theorem r_move (hx : ρ x = v) : (execOp ρ ⟨d, .move x, ty, pos, aft, g⟩).run P w = .ok (.value v) w := by simp [execOp, hx]
theorem r_assign (hx : ρ x = v) : (execOp ρ ⟨d, .assign x, ty, pos, aft, g⟩).run P w = .ok (.value v) w := by simp [execOp, hx]
theorem r_pickT (hc : ρ c = .bool true) (hx : ρ x = v) : (execOp ρ ⟨d, .pick c x y, ty, pos, aft, g⟩).run P w = .ok (.value v) w := by simp [execOp, hc, hx, asBool]
theorem r_pickF (hc : ρ c = .bool false) (hy : ρ y = v) : (execOp ρ ⟨d, .pick c x y, ty, pos, aft, g⟩).run P w = .ok (.value v) w := by simp [execOp, hc, hy, asBool]
theorem r_add (hx : ρ x = .int .i64 i) (hy : ρ y = .int .i64 j) (h : -9223372036854775808 ≤ i + j ∧ i + j ≤ 9223372036854775807) : (execOp ρ ⟨d, .binOp .add t x y t', ty, pos, aft, g⟩).run P w = .ok (.value (.int .i64 (i + j))) w := by
 simp [execOp, hx, hy, binOp, eqGuard, Op.intArith, IntWalk.i64_in _ h]
theorem r_sub (hx : ρ x = .int .i64 i) (hy : ρ y = .int .i64 j) (h : -9223372036854775808 ≤ i - j ∧ i - j ≤ 9223372036854775807) : (execOp ρ ⟨d, .binOp .sub t x y t', ty, pos, aft, g⟩).run P w = .ok (.value (.int .i64 (i - j))) w := by
 simp [execOp, hx, hy, binOp, eqGuard, Op.intArith, IntWalk.i64_in _ h]
theorem r_mul (hx : ρ x = .int .i64 i) (hy : ρ y = .int .i64 j) (h : -9223372036854775808 ≤ i * j ∧ i * j ≤ 9223372036854775807) : (execOp ρ ⟨d, .binOp .mul t x y t', ty, pos, aft, g⟩).run P w = .ok (.value (.int .i64 (i * j))) w := by
 simp [execOp, hx, hy, binOp, eqGuard, Op.intArith, IntWalk.i64_in _ h]
theorem r_quo (hx : ρ x = .int .i64 i) (hy : ρ y = .int .i64 j) (h0 : 0 ≤ i) (h1 : 0 < j) (h2 : i ≤ 9223372036854775807) : (execOp ρ ⟨d, .binOp .quo t x y t', ty, pos, aft, g⟩).run P w = .ok (.value (.int .i64 (i / j))) w := by
 have hj : j ≠ 0 := by omega
 have he : i.tdiv j = i / j := Int.tdiv_eq_ediv_of_nonneg h0
 have hle : i / j ≤ i := Int.ediv_le_self j h0
 have hge : 0 ≤ i / j := Int.ediv_nonneg h0 (by omega)
 simp [execOp, hx, hy, binOp, eqGuard, Op.intDiv, hj, he, IntWalk.i64_in (i / j) ⟨by omega, by omega⟩]
theorem r_rem (hx : ρ x = .int .i64 i) (hy : ρ y = .int .i64 j) (h0 : 0 ≤ i) (h1 : 0 < j) : (execOp ρ ⟨d, .binOp .rem t x y t', ty, pos, aft, g⟩).run P w = .ok (.value (.int .i64 (i % j))) w := by
 have hj : j ≠ 0 := by omega
 have he : i.tmod j = i % j := Int.tmod_eq_emod_of_nonneg h0
 simp [execOp, hx, hy, binOp, eqGuard, Op.intDiv, hj, he]
theorem r_lss (hx : ρ x = .int k i) (hy : ρ y = .int k j) : (execOp ρ ⟨d, .binOp .lss t x y t', ty, pos, aft, g⟩).run P w = .ok (.value (.bool (decide (i < j)))) w := by
 simp [execOp, hx, hy, binOp, eqGuard, Op.intCmp]
theorem r_leq (hx : ρ x = .int k i) (hy : ρ y = .int k j) : (execOp ρ ⟨d, .binOp .leq t x y t', ty, pos, aft, g⟩).run P w = .ok (.value (.bool (decide (i ≤ j)))) w := by
 simp [execOp, hx, hy, binOp, eqGuard, Op.intCmp]
theorem r_gtr (hx : ρ x = .int k i) (hy : ρ y = .int k j) : (execOp ρ ⟨d, .binOp .gtr t x y t', ty, pos, aft, g⟩).run P w = .ok (.value (.bool (decide (j < i)))) w := by
 simp [execOp, hx, hy, binOp, eqGuard, Op.intCmp]
theorem r_geq (hx : ρ x = .int k i) (hy : ρ y = .int k j) : (execOp ρ ⟨d, .binOp .geq t x y t', ty, pos, aft, g⟩).run P w = .ok (.value (.bool (decide (j ≤ i)))) w := by
 simp [execOp, hx, hy, binOp, eqGuard, Op.intCmp]
theorem r_eql (hx : ρ x = .int k i) (hy : ρ y = .int k j) : (execOp ρ ⟨d, .binOp .eql t x y t', ty, pos, aft, g⟩).run P w = .ok (.value (.bool (decide (i = j)))) w := by
 have : (i == j) = decide (i = j) := rfl
 simp [execOp, hx, hy, binOp, eqGuard, Op.intCmp, this]
theorem r_neq (hx : ρ x = .int k i) (hy : ρ y = .int k j) : (execOp ρ ⟨d, .binOp .neq t x y t', ty, pos, aft, g⟩).run P w = .ok (.value (.bool (decide (i ≠ j)))) w := by
 have : (i != j) = decide (i ≠ j) := by by_cases h : i = j <;> simp [h]
 simp [execOp, hx, hy, binOp, eqGuard, Op.intCmp, this]
theorem r_neqB {p q : Bool} (hu : (P.underlying t) = some .bool) (hx : ρ x = .bool p) (hy : ρ y = .bool q) : (execOp ρ ⟨d, .binOp .neq t x y t', ty, pos, aft, g⟩).run P w = .ok (.value (.bool (p != q))) w := by
 have h := run_eql_bool w t p q hu
 simp only [binOp] at h
 simp only [execOp, hx, hy, eqGuard, binOp]
 cases he : (Op.equal t (.bool p) (.bool q)).run P w with
 | ok b w' => simp [he] at h; simp [he, h.1, h.2, bne]
 | halt a b => simp [he] at h
theorem r_eqlS {p q : ByteArray} (hx : ρ x = .string p) (hy : ρ y = .string q) : (execOp ρ ⟨d, .binOp .eql t x y t', ty, pos, aft, g⟩).run P w = .ok (.value (.bool (p.toList == q.toList))) w := by
 simp [execOp, hx, hy, binOp, eqGuard, Op.stringOp]
theorem r_neqS {p q : ByteArray} (hx : ρ x = .string p) (hy : ρ y = .string q) : (execOp ρ ⟨d, .binOp .neq t x y t', ty, pos, aft, g⟩).run P w = .ok (.value (.bool (!(p.toList == q.toList)))) w := by
 simp [execOp, hx, hy, binOp, eqGuard, Op.stringOp]
theorem r_addS {p q : ByteArray} (hx : ρ x = .string p) (hy : ρ y = .string q) (h : p.size + q.size ≤ 9223372036854775807) : (execOp ρ ⟨d, .binOp .add t x y t', ty, pos, aft, g⟩).run P w = .ok (.value (.string (p ++ q))) w := by
 have h' : ¬ (((p.size + q.size : Nat) : Int) > IntKind.i64.max) := by
  have : IntKind.i64.max = 9223372036854775807 := by decide
  rw [this]; omega
 simp only [execOp, hx, hy, binOp, eqGuard, Op.stringOp]
 simp only [if_neg h']
 simp
theorem r_not {p : Bool} (hx : ρ x = .bool p) : (execOp ρ ⟨d, .unOp .not t x, ty, pos, aft, g⟩).run P w = .ok (.value (.bool (!p))) w := by
 simp [execOp, hx, Op.unary]
theorem r_neg (hx : ρ x = .int .i64 i) (h : -9223372036854775808 ≤ -i ∧ -i ≤ 9223372036854775807) : (execOp ρ ⟨d, .unOp .neg t x, ty, pos, aft, g⟩).run P w = .ok (.value (.int .i64 (-i))) w := by
 have h2 : (0 : Int) - i = -i := by omega
 simp [execOp, hx, Op.unary, Op.intArith, h2, IntWalk.i64_in _ h]
theorem r_extract {vs : Array Value} {n : Nat} (hx : ρ x = .tuple vs) (hn : vs[n]? = some v) : (execOp ρ ⟨d, .extract x n, ty, pos, aft, g⟩).run P w = .ok (.value v) w := by
 simp [execOp, hx, Instr.extract, hn]
theorem r_lenS {p : ByteArray} (ht : P.underlying t = some .string) (hx : ρ x = .string p) :
  (execOp ρ ⟨d, .call { callee := .builtin .len, args := #[x], argTypes := #[t] }, ty, pos, aft, g⟩).run P w = .ok (.value (.int .i64 p.size)) w := by
 simp [execOp, resolve, invoke, builtin, hx, Builtin.len_, goInt, run_underlying ht]
theorem r_max (hx : ρ x = .int .i64 i) (hy : ρ y = .int .i64 j) :
  (execOp ρ ⟨d, .call { callee := .builtin .max, args := #[x, y], argTypes := #[t, t'] }, ty, pos, aft, g⟩).run P w = .ok (.value (.int .i64 (max i j))) w := by
 have h : (if i < j then j else i) = max i j := by rw [Int.max_def]; split <;> split <;> omega
 simp [execOp, resolve, invoke, builtin, hx, hy, Builtin.max_, Builtin.max2, h]
theorem r_min (hx : ρ x = .int .i64 i) (hy : ρ y = .int .i64 j) :
  (execOp ρ ⟨d, .call { callee := .builtin .min, args := #[x, y], argTypes := #[t, t'] }, ty, pos, aft, g⟩).run P w = .ok (.value (.int .i64 (min i j))) w := by
 have h : (if j < i then j else i) = min i j := by rw [Int.min_def]; split <;> split <;> omega
 simp [execOp, resolve, invoke, builtin, hx, hy, Builtin.min_, Builtin.min2, h]
end
end Go.GL
namespace Go.GL
open Go Go.RowKit
section
variable {P : Program} {ρ : Operand → Value} {w : World} {K : Value → World → Prop} {d : Option Nat} {t ty e : Nat} {pos : String} {aft : Array Edge} {g : Option (Nat × Bool)} {x y : Operand}
 {α : Type} {E : Elt α} {G : Pin} {v u : Value}
theorem o_append {base : Nat} {xs ys : List α} (bytes : Nat) (ht : P.underlying t = some (.slice e)) (hi : (P.info? e).map (fun i => (i.size, i.bytes, (i.zero.map (·.cells.size)))) = some (E.size, bytes, some E.size)) (hpos : 0 < E.size)
  (hx : ρ x = v) (hy : ρ y = u) (hP : Pins G w) (hv : Own E e G w base v xs) (hu : Src E G w u ys)
  (hb : (xs.length + ys.length) * bytes ≤ 140737488355328) (hb2 : xs.length + ys.length ≤ 140737488355328) (hbase : base ≤ w.heap.size)
  (h : ∀ v' w', Own E e G w' base v' (xs ++ ys) → Pins G w' → w.grownBy w' v.ownBlock → (v'.ownBlock = v.ownBlock ∨ ∃ k, v'.ownBlock = some k ∧ w.heap.size ≤ k) → K v' w') :
  EO P ρ ⟨d, .call { callee := .builtin .append, args := #[x, y], argTypes := #[t, t] }, ty, pos, aft, g⟩ w K := by
 obtain ⟨v', w', h1, h2, h3, h4, h5⟩ := run_append (d := d) (ty := ty) (pos := pos) (aft := aft) (g := g) bytes ht hi hpos hx hy hP hv hu hb hb2 hbase
 exact EO.run h1 (h v' w' h2 h3 h4 h5)
theorem o_make {n : Int} (zero : α) (bytes : Nat) (z : Value) (ht : P.underlying t = some (.slice e)) (hi : (P.info? e).map (fun i => (i.size, i.bytes, i.zero)) = some (E.size, bytes, some z))
  (hz : ∀ G, E.rep G z.cells.toList zero) (hx : ρ x = .int .i64 n) (hy : ρ y = .int .i64 n) (hP : Pins G w) (h0 : 0 ≤ n) (hb : bytes * n.toNat ≤ 281474976710656) (hm : n ≤ 9223372036854775807)
  (h : ∀ v w', Own E e G w' w.heap.size v (List.replicate n.toNat zero) → Pins G w' → Below w.heap.size w w' → v.ownBlock = some w.heap.size → K v w') :
  EO P ρ ⟨d, .makeSlice t x y, ty, pos, aft, g⟩ w K := by
 obtain ⟨v', w', h1, h2, h3, h4, h5⟩ := run_make (d := d) (ty := ty) (pos := pos) (aft := aft) (g := g) zero ht bytes z hi hz hx hy hP h0 hb hm
 exact EO.run h1 (h v' w' h2 h3 h4 h5)
theorem o_set {base : Nat} {xs : List α} {z : Int} {cs : List Value} (q : α) (hs : (P.info? t).map (·.size) = some E.size)
  (hx : ρ x = eptr v z E.size 0) (hy : ρ y = u) (hc : u.cells.toList = cs) (hq : E.rep G cs q) (hP : Pins G w) (hv : Own E e G w base v xs) (h0 : 0 ≤ z) (h1 : z < xs.length)
  (h : ∀ w', Own E e G w' base v (xs.set z.toNat q) → Pins G w' → w.grownBy w' v.ownBlock → w'.heap.size = w.heap.size → K undef w') :
  EO P ρ ⟨d, .store t x y, ty, pos, aft, g⟩ w K := by
 obtain ⟨w', h2, h3, h4, h5, h6⟩ := run_set (d := d) (ty := ty) (pos := pos) (aft := aft) (g := g) q hs hx hy hc hq hP hv h0 h1
 exact EO.skip h2 (h w' h3 h4 h5 h6)
end
end Go.GL

namespace Go.GL
open Go Go.RowKit

theorem Pins.of_le {G G' : Pin} {w : World} (h : Pins G' w) (hl : Pin.le G G') : Pins G w := fun b o u hu => h b o u (hl b o u hu)
theorem Own.below {α : Type} {E : Elt α} {e : Nat} {G : Pin} {w w' : World} {base : Nat} {v : Value} {xs : List α} (h : Own E e G w base v xs) (hb : Below w.heap.size w w') : Own E e G w' base v xs :=
 h.kept (Below.grownBy hb none) (by cases hv : v.ownBlock <;> simp)

structure Bx (G : Pin) (w : World) (b : Nat) (cs : List Value) : Prop where
 heap : ∃ T, w.heap[b]? = some (.cells cs.toArray T (0, 0))
 free : ∀ o u, ¬ G b o u
def BxP (G : Pin) (b : Nat) (cs : List Value) : Prop := ∀ o u, cs[o]? = some u → G b o u
section
variable {G : Pin} {w w' : World} {b : Nat} {cs : List Value}
theorem Bx.lt (h : Bx G w b cs) : b < w.heap.size := by
 obtain ⟨T, hT⟩ := h.heap
 exact (Array.getElem?_eq_some_iff.1 hT).1
theorem Bx.cell (h : Bx G w b cs) {o : Nat} {u : Value} (hu : cs[o]? = some u) : w.cell? ⟨b, o, none⟩ = some u := by
 obtain ⟨T, hT⟩ := h.heap
 rw [cell_of_row w b o cs.toArray T (0, 0) hT]
 simpa using hu
theorem Bx.below (h : Bx G w b cs) (hb : Below w.heap.size w w') : Bx G w' b cs := by
 obtain ⟨T, hT⟩ := h.heap
 exact ⟨⟨T, by rw [hb.block b h.lt]; exact hT⟩, h.free⟩
theorem Bx.kept {row : Option Nat} (h : Bx G w b cs) (hg : w.grownBy w' row) (hne : some b ≠ row) : Bx G w' b cs := by
 obtain ⟨T, hT⟩ := h.heap
 exact ⟨⟨T, by rw [hg.block b h.lt hne]; exact hT⟩, h.free⟩
theorem Bx.extS {S : Nat → Prop} {G' : Pin} (h : Bx G w b cs) (hx : Ext S G w G' w') (hS : ¬ S b) : Bx G' w' b cs :=
 ⟨by obtain ⟨T, hT⟩ := h.heap; exact ⟨T, by rw [hx.block b h.lt hS]; exact hT⟩, fun o u hu => by
  rcases hx.fresh b o u hu with h1 | h1
  ·exact h.free o u h1
  ·have := h.lt; omega⟩
theorem Bx.ext {G' : Pin} (h : Bx G w b cs) (hx : Ext noS G w G' w') : Bx G' w' b cs := h.extS hx id
theorem Bx.shut {S : Nat → Prop} {w0 : World} {G0 : Pin} (h : Bx G w b cs) (hx : Ext S G0 w0 G w) (hb : w0.heap.size ≤ b) :
  ∃ G', Pin.le G G' ∧ Ext S G0 w0 G' w ∧ BxP G' b cs ∧ (∀ k o u, G' k o u → G k o u ∨ k = b) :=
 ⟨fun k o u => G k o u ∨ (k = b ∧ cs[o]? = some u), fun _ _ _ h => Or.inl h,
  ⟨fun k o u hu => Or.inl (hx.le k o u hu), fun k o u hu => by
   rcases hu with hu | ⟨rfl, hu⟩
   ·exact hx.pins k o u hu
   ·exact h.cell hu, fun k o u hu => by
   rcases hu with hu | ⟨rfl, hu⟩
   ·exact hx.fresh k o u hu
   ·exact Or.inr hb, hx.os, hx.tape, hx.output, hx.size, hx.block⟩, fun o u hu => Or.inr ⟨rfl, hu⟩, fun k o u hu => by
   rcases hu with hu | hu
   ·exact Or.inl hu
   ·exact Or.inr hu.1⟩
theorem Bx.more {G' : Pin} {c : Nat} (h : Bx G w b cs) (hf : ∀ k o u, G' k o u → G k o u ∨ k = c) (hne : b ≠ c) : Bx G' w b cs :=
 ⟨h.heap, fun o u hu => by
  rcases hf b o u hu with h1 | h1
  ·exact h.free o u h1
  ·exact hne h1⟩
end

section
variable {P : Program} {ρ : Operand → Value} {w : World} {K : Value → World → Prop} {d : Option Nat} {t ty : Nat} {pos : String} {aft : Array Edge} {g : Option (Nat × Bool)} {x y : Operand} {G : Pin}
theorem newBox (cs : List Value) (T : Nat) (hP : Pins G w) : Bx G (w.alloc (.cells cs.toArray T)) w.heap.size cs ∧ Pins G (w.alloc (.cells cs.toArray T)) ∧ Below w.heap.size w (w.alloc (.cells cs.toArray T)) := by
 have hb : Below w.heap.size w (w.alloc (.cells cs.toArray T)) := (Below.refl _ _).alloc (Nat.le_refl _) _
 refine ⟨⟨⟨T, heap_alloc_new w _⟩, fun o u hu => ?_⟩, hP.below hb, hb⟩
 have := block_lt (hP _ _ _ hu); omega
theorem o_alloc (cs : List Value) {z : Value} (hz : (P.info? t).bind (·.zero) = some z) (hc : z.cells.toList = cs) (hP : Pins G w)
  (h : ∀ b w', b = w.heap.size → Bx G w' b cs → Pins G w' → Below w.heap.size w w' → K (.pointer (some ⟨b, 0, none⟩)) w') : EO P ρ ⟨d, .alloc t, ty, pos, aft, g⟩ w K := by
 obtain ⟨inf, hi, hzz⟩ := Option.bind_eq_some_iff.1 hz
 obtain ⟨h1, h2, h3⟩ := newBox (w := w) cs t hP
 have hcs : z.cells = cs.toArray := by rw [← hc]
 refine EO.run ?_ (h _ _ rfl h1 h2 h3)
 simp [execOp, Instr.alloc, zeroValue, typeInfo, hi, hzz, newVar, newRow, hcs]
theorem o_box (cs : List Value) {v : Value} (hx : ρ x = v) (hc : v.cells.toList = cs) (hP : Pins G w)
  (h : ∀ b w', b = w.heap.size → Bx G w' b cs → Pins G w' → Below w.heap.size w w' → K (.pointer (some ⟨b, 0, none⟩)) w') : EO P ρ ⟨d, .box t x, ty, pos, aft, g⟩ w K := by
 obtain ⟨h1, h2, h3⟩ := newBox (w := w) cs t hP
 have hcs : v.cells = cs.toArray := by rw [← hc]
 refine EO.run ?_ (h _ _ rfl h1 h2 h3)
 simp [execOp, hx, Instr.box, newVar, newRow, hcs]
theorem r_fldp {fs : Array Field} {f b o k : Nat} {fd : Field} (hk : o + fd.offset = k) (ht : P.underlying t = some (.struct fs)) (hf : fs[f]? = some fd) (hi : ((P.info? fd.type).map (·.size == 0)) = some false) (hx : ρ x = .pointer (some ⟨b, o, none⟩)) :
  (execOp ρ ⟨d, .fieldAddr t x f, ty, pos, aft, g⟩).run P w = .ok (.value (.pointer (some ⟨b, k, none⟩))) w := by
 subst hk
 obtain ⟨inf, hinf, hsz⟩ := Option.map_eq_some_iff.1 hi
 have hne : ¬ inf.size = 0 := by simpa using hsz
 simp only [execOp, hx, Instr.fieldAt, Instr.sureAddr, fieldPlace]
 simp [underlying, ht, hf, sizeOf, typeInfo, hinf, hne, Addr.add]
theorem r_ldp1 {b o : Nat} {u : Value} (ha : (P.underlying t).map aggD = some false) (hx : ρ x = .pointer (some ⟨b, o, none⟩)) (hc : w.cell? ⟨b, o, none⟩ = some u) :
  (execOp ρ ⟨d, .load t x, ty, pos, aft, g⟩).run P w = .ok (.value u) w := by
 simp only [execOp, hx, Instr.loadAt, Instr.sureAddr, loadVar, Sem.run_bind, Sem.run_pure, Result.andThen_ok, run_isAgg ha]
 simp [hc]
theorem r_ldpA {b o : Nat} {cs : List Value} (ha : (P.underlying t).map aggD = some true) (hs : (P.info? t).map (·.size) = some cs.length) (hx : ρ x = .pointer (some ⟨b, o, none⟩)) (hc : ∀ j u, cs[j]? = some u → w.cell? ⟨b, o + j, none⟩ = some u) :
  (execOp ρ ⟨d, .load t x, ty, pos, aft, g⟩).run P w = .ok (.value (.agg cs.toArray)) w := by
 have hcell : ∀ j u, cs[j]? = some u → w.cell? ((⟨b, o, none⟩ : Addr).add j) = some u := fun j u hj => by
  have := hc j u hj
  simp only [Addr.add]
  split
  ·simp_all
  ·exact this
 have hr2 := run_loadCells_list (P := P) w ⟨b, o, none⟩ cs hcell
 have hlv : (loadVar t ⟨b, o, none⟩).run P w = .ok (.agg cs.toArray) w := by
  unfold loadVar
  simp only [Sem.run_bind, run_isAgg ha, Result.andThen_ok, if_true, run_sizeOf hs, hr2, Sem.run_pure]
 simp only [execOp, hx, Instr.loadAt, Instr.sureAddr, Sem.run_bind, Sem.run_pure, Result.andThen_ok, hlv]
theorem o_stp {b o : Nat} {cs cs' us : List Value} {v : Value} (hs : (P.info? t).map (·.size) = some us.length) (hx : ρ x = .pointer (some ⟨b, o, none⟩)) (hy : ρ y = v) (hu : v.cells.toList = us) (h1 : ∀ u ∈ us, u.oneCell' = true)
  (hP : Pins G w) (hb : Bx G w b cs) (hl : o + us.length ≤ cs.length) (hcs : cs' = cs.take o ++ us ++ cs.drop (o + us.length))
  (h : ∀ w', Bx G w' b cs' → Pins G w' → w.grownBy w' (some b) → w'.heap.size = w.heap.size → K undef w') : EO P ρ ⟨d, .store t x y, ty, pos, aft, g⟩ w K := by
 obtain ⟨T, hT⟩ := hb.heap
 have hst := run_storeCells_at P b o T us 0 cs.toArray w hT (by simpa using hl) h1
 simp only [Nat.add_zero] at hst
 have hgrow : w.grownBy (w.setRow b (cs.take o ++ us ++ cs.drop (o + us.length)).toArray) (some b) :=
  ⟨rfl, rfl, rfl, by simp [World.setRow], fun k _ hk => setRow_other w b k _ (fun e => hk (by simp [e]))⟩
 have hsz : v.cells.size = us.length := by rw [← hu]; simp
 subst hcs
 refine EO.skip (w' := w.setRow b (cs.take o ++ us ++ cs.drop (o + us.length)).toArray) ?_ (h _ ⟨⟨T, setRow_heap w b cs.toArray _ T _ hT⟩, hb.free⟩ (hP.grown hgrow (fun k hk o' u' => by cases hk; exact hb.free o' u')) hgrow (by simp [World.setRow]))
 have hlv : (storeVar t ⟨b, o, none⟩ v).run P w = .ok () (w.setRow b (cs.take o ++ us ++ cs.drop (o + us.length)).toArray) := by
  unfold storeVar
  simp only [Sem.run_bind, run_sizeOf hs, Result.andThen_ok, hsz]
  simp only [ne_eq, not_true_eq_false, if_false]
  rw [hu]
  exact hst
 simp only [execOp, hx, hy, Instr.storeAt, Instr.sureAddr, Sem.run_bind, Sem.run_pure, Result.andThen_ok, hlv]
theorem o_call {f : FuncId} {fn : Func} {xs : Array Operand} {ats : Array TypeId} {vs : List Value} (hf : P.funcs[f]? = some fn) (hn : (fn.name == "runtime.NumGoroutine") = false) (hb : fn.body.isNone = false) (hargs : xs.toList.map ρ = vs) (hρ : ρ (.func f) = .func (.func f) #[] #[])
  (h : Calls P f vs.toArray w fun e w' => ∃ v, e = .returned v ∧ K v w') : EO P ρ ⟨d, .call { callee := .value (.func f), args := xs, argTypes := ats }, ty, pos, aft, g⟩ w K := by
 refine EO.call (f := f) (args := vs.toArray) (w1 := w) ?_ h
 have h1 : execOp ρ ⟨d, .call { callee := .value (.func f), args := xs, argTypes := ats }, ty, pos, aft, g⟩ = callFunc f (#[] ++ xs.map ρ ++ #[]) := by
  simp only [execOp, resolve, hρ]
  rfl
 have h2 : (#[] ++ xs.map ρ ++ #[] : Array Value) = vs.toArray := by
  rw [Array.empty_append, Array.append_empty, ← hargs, ← Array.toList_map]
 have h3 : ¬ fn.name = "runtime.NumGoroutine" := by simpa using hn
 have h4 : ¬ fn.body = none := fun h => by rw [h] at hb; cases hb
 rw [h1, h2]
 simp [callFunc, hf, h3, h4]
end


section
variable {P : Program} {Q : Exit → Act → World → Prop} {n : Nat} {env : Nat → Value} {w : World} {a : Act}
theorem c_loop {c : Code} (I : Nat → (Nat → Value) → World → Prop) (k0 : Nat) (h0 : I k0 env w)
  (round : ∀ k env w, I k env w → c.wp P (Exit.then (fun a' w' => ∃ k', k' < k ∧ ∃ env', a' = F n env' ∧ I k' env' w') Q) (F n env) w) : (Code.loop c).wp P Q (F n env) w := by
 refine wp_loop_ghost (fun k a w => ∃ env, a = F n env ∧ I k env w) k0 ⟨env, rfl, h0⟩ ?_
 rintro k a w ⟨env, rfl, hI⟩
 refine wp_mono (round k env w hI) ?_
 intro e a' w' hq
 cases e with
 | normal => obtain ⟨k', h1, h2⟩ := hq; exact ⟨k', h1, h2⟩
 | exit id => exact hq
 | goto l => exact hq
 | ret => exact hq
 | panic ch => exact hq
 | outgrown => exact hq
theorem c_ifT {c : Operand} {x y : Code} (hok : okX n c = true) (hc : ev env c = .bool true) (h : x.wp P Q (F n env) w) : (Code.cond c x y).wp P Q (F n env) w := wp_cond_true (by rw [eval_F hok]; exact hc) h
theorem c_ifF {c : Operand} {x y : Code} (hok : okX n c = true) (hc : ev env c = .bool false) (h : y.wp P Q (F n env) w) : (Code.cond c x y).wp P Q (F n env) w := wp_cond_false (by rw [eval_F hok]; exact hc) h
theorem c_ifd {c : Operand} {x y : Code} {p : Prop} [Decidable p] (hok : okX n c = true) (hc : ev env c = .bool (decide p)) (h1 : p → x.wp P Q (F n env) w) (h2 : ¬ p → y.wp P Q (F n env) w) : (Code.cond c x y).wp P Q (F n env) w :=
 c_if hok hc (fun h => h1 (of_decide_eq_true h)) (fun h => h2 (of_decide_eq_false h))
theorem c_retc {fn : Func} {R : Ending → World → Prop} {s t b : Nat} {cs : List Value} (hr : fn.results = #[.cell s t]) (hs : Nat.blt s n = true) (hv : env s = .pointer (some ⟨b, 0, none⟩)) (ha : (P.underlying t).map aggD = some true) (hz : (P.info? t).map (·.size) = some cs.length)
  (hc : ∀ j u, cs[j]? = some u → w.cell? ⟨b, 0 + j, none⟩ = some u) (h : R (.returned (.agg cs.toArray)) w) : bodyPost P fn R .ret (F n env) w := by
 have h2 : s < n := by simpa [Nat.blt_eq] using hs
 have hcell : ∀ j u, cs[j]? = some u → w.cell? ((⟨b, 0, none⟩ : Addr).add j) = some u := fun j u hj => by
  have := hc j u hj
  simp only [Addr.add]
  split
  ·simp_all
  ·exact this
 have hlv : (loadVar t ⟨b, 0, none⟩).run P w = .ok (.agg cs.toArray) w := by
  unfold loadVar
  simp only [Sem.run_bind, run_isAgg ha, Result.andThen_ok, if_true, run_sizeOf hz, run_loadCells_list (P := P) w ⟨b, 0, none⟩ cs hcell, Sem.run_pure]
 refine bodyPost_ret (v := .agg cs.toArray) ?_ rfl h
 have he : (F n env).tmps[s]?.getD undef = .pointer (some ⟨b, 0, none⟩) := by simp [F, h2, hv]
 simp [results, hr, he, asAddr, hlv]
theorem pack1 {x : Nat} {u : Value} (h : env x = u) : env = upd env x u := (upd_same h).symm
theorem packS {x : Nat} {u : Value} {env' : Nat → Value} (h : env = env') (hx : env x = u) : env = upd env' x u := by subst h; exact (upd_same hx).symm
end
end Go.GL

namespace Go.GL
open Go Go.RowKit


section
variable {w w' : World} {v u v' : Value} {b c base : Nat}
def Apart (x y : Option Nat) : Prop := ∀ k, x = some k → y = some k → False
theorem Apart.symm {x y : Option Nat} (h : Apart x y) : Apart y x := fun k a b => h k b a
theorem new_ne_own {x : Option Nat} (h : x = some w.heap.size) (hl : ∀ k, v.ownBlock = some k → base ≤ k ∧ k < w.heap.size) : Apart x v.ownBlock := fun k a e => by
 rw [h] at a; cases a
 have := (hl _ e).2; omega
theorem new_ne_box {x : Option Nat} (h : x = some w.heap.size) (hl : c < w.heap.size) : Apart x (some c) := fun k a e => by
 rw [h] at a; cases a
 cases e; omega
theorem app_ne_own (h : Apart v.ownBlock u.ownBlock) (hw : v'.ownBlock = u.ownBlock ∨ ∃ k, v'.ownBlock = some k ∧ w.heap.size ≤ k) (hl : ∀ k, v.ownBlock = some k → base ≤ k ∧ k < w.heap.size) : Apart v.ownBlock v'.ownBlock := fun k a e => by
 rcases hw with h1 | ⟨i, h1, h2⟩
 ·exact h k a (h1 ▸ e)
 ·have := (hl k a).2; rw [h1] at e; cases e; omega
theorem app_ne_box (h : Apart (some c) u.ownBlock) (hw : v'.ownBlock = u.ownBlock ∨ ∃ k, v'.ownBlock = some k ∧ w.heap.size ≤ k) (hl : c < w.heap.size) : Apart (some c) v'.ownBlock := fun k a e => by
 rcases hw with h1 | ⟨i, h1, h2⟩
 ·exact h k a (h1 ▸ e)
 ·cases a; rw [h1] at e; cases e; omega
theorem made_ne_own (h : ∀ k, u.ownBlock = some k → w.heap.size ≤ k ∧ k < w'.heap.size) (hl : ∀ k, v.ownBlock = some k → base ≤ k ∧ k < w.heap.size) : Apart u.ownBlock v.ownBlock := fun k a e => by
 have h1 := (h k a).1; have h2 := (hl k e).2; omega
theorem made_ne_box (h : ∀ k, u.ownBlock = some k → w.heap.size ≤ k ∧ k < w'.heap.size) (hl : c < w.heap.size) : Apart u.ownBlock (some c) := fun k a e => by
 have h1 := (h k a).1; cases e; omega
theorem Own.keptA {α : Type} {E : Elt α} {e : Nat} {G : Pin} {xs : List α} {row : Option Nat} (h : Own E e G w base v xs) (hg : w.grownBy w' row) (ha : Apart v.ownBlock row) : Own E e G w' base v xs :=
 h.kept hg (by
  cases hv : v.ownBlock with
  | none => exact Or.inl rfl
  | some k => exact Or.inr fun e => ha k hv e.symm)
theorem Bx.keptA {G : Pin} {cs : List Value} {row : Option Nat} (h : Bx G w b cs) (hg : w.grownBy w' row) (ha : Apart (some b) row) : Bx G w' b cs :=
 h.kept hg fun e => ha b rfl e.symm
theorem Own.moreA {α : Type} {E : Elt α} {e : Nat} {G G' : Pin} {xs : List α} {b : Nat} (h : Own E e G w base v xs) (hl : Pin.le G G') (hf : ∀ k o u, G' k o u → G k o u ∨ k = b) (ha : Apart v.ownBlock (some b)) : Own E e G' w base v xs :=
 h.mono hl fun k hk o u hu => by
  rcases hf k o u hu with h1 | h1
  ·exact h.free k hk o u h1
  ·subst h1; exact ha k hk rfl
theorem Bx.moreA {G G' : Pin} {cs : List Value} (h : Bx G w b cs) (hf : ∀ k o u, G' k o u → G k o u ∨ k = c) (ha : Apart (some b) (some c)) : Bx G' w b cs :=
 h.more hf fun e => ha b rfl (by rw [e])
end

section
variable {α : Type} {E : Elt α} {e : Nat} {G G' : Pin} {w : World} {base : Nat} {v u : Value} {xs : List α} {b : Nat} {cs : List Value}
theorem RSl.one (h : RSl E G v xs) : v.oneCell' = true := by obtain ⟨a, c, rfl, _⟩ := h.sl; rfl
theorem Own.one (h : Own E e G w base v xs) : v.oneCell' = true := h.read.one
theorem Own.sealed {S : Nat → Prop} {w0 : World} {G0 : Pin} (h : Own E e G w w0.heap.size v xs) (hx : Ext S G0 w0 G w) :
  ∃ G', Pin.le G G' ∧ Ext S G0 w0 G' w ∧ RSl E G' v xs ∧ (∀ k o u, G' k o u → G k o u ∨ v.ownBlock = some k) :=
 ⟨Gadd G w v, Gadd.le _ _ _, (h.shut hx).2, (h.shut hx).1, fun k o u hu => by
  rcases hu with hu | hu
  ·exact Or.inl hu
  ·exact Or.inr hu.1⟩
theorem Own.moreO (h : Own E e G w base u xs) (hl : Pin.le G G') (hf : ∀ k o x, G' k o x → G k o x ∨ v.ownBlock = some k) (hne : Apart u.ownBlock v.ownBlock) : Own E e G' w base u xs :=
 h.mono hl fun k hk o x hu => by
  rcases hf k o x hu with h1 | h1
  ·exact h.free k hk o x h1
  ·exact hne k hk h1
theorem Bx.moreO (h : Bx G w b cs) (hf : ∀ k o x, G' k o x → G k o x ∨ v.ownBlock = some k) (hne : Apart (some b) v.ownBlock) : Bx G' w b cs :=
 ⟨h.heap, fun o x hu => by
  rcases hf b o x hu with h1 | h1
  ·exact h.free o x h1
  ·exact hne b rfl h1⟩
def BxR (w : World) (b : Nat) (cs : List Value) : Prop := ∀ o u, cs[o]? = some u → w.cell? ⟨b, o, none⟩ = some u
theorem Bx.reads (h : Bx G w b cs) : BxR w b cs := fun _ _ hu => h.cell hu
theorem nil_reads (E : Elt α) (G : Pin) : RSl E G (.slice none 0 0) [] := ⟨⟨none, 0, rfl, Nat.le_refl _, Nat.zero_le _⟩, fun i x hx => by simp at hx⟩
end
theorem ones1 {a : Value} (ha : a.oneCell' = true) : ∀ u ∈ [a], u.oneCell' = true := fun u hu => by simp at hu; subst hu; exact ha
theorem ones2 {a b : Value} (ha : a.oneCell' = true) (hb : b.oneCell' = true) : ∀ u ∈ [a, b], u.oneCell' = true := fun u hu => by
 simp at hu; rcases hu with rfl | rfl <;> assumption
def RepsF {α : Type} (E : Elt α) (G : Pin) (vs : List Value) (ys : List α) : Prop := ∀ (i : Nat) (y : α), ys[i]? = some y → ∃ v, vs[i]? = some v ∧ E.rep G [v] y
section
variable {α : Type} {E : Elt α} {G : Pin} {v1 v2 v3 v4 : Value} {y1 y2 y3 y4 : α}
theorem reps1 (h1 : E.rep G [v1] y1) : RepsF E G [v1] [y1] := fun i y hy => by
 match i, hy with
 | 0, hy => simp at hy; subst hy; exact ⟨_, rfl, h1⟩
end




section
variable {P : Program} {ρ : Operand → Value} {w : World} {K : Value → World → Prop} {d : Option Nat} {t ty e : Nat} {pos : String} {aft : Array Edge} {g : Option (Nat × Bool)}
 {α : Type} {E : Elt α} {G : Pin}
theorem o_build0 (ht : P.underlying t = some (.slice e)) (hs : (P.info? e).map (·.size) = some E.size) (hP : Pins G w)
  (h : ∀ v w', Own E e G w' w.heap.size v ([] : List α) → Pins G w' → Below w.heap.size w w' → v.ownBlock = some w.heap.size → K v w') : EO P ρ ⟨d, .buildSlice t 0 #[], ty, pos, aft, g⟩ w K := by
 obtain ⟨inf, hinf, hsz⟩ := Option.map_eq_some_iff.1 hs
 have hrun : (Instr.buildSlice t 0 ((#[] : Array (Nat × Operand)).map fun (i, x) => (i, ρ x))).run P w = .ok (.slice (some ⟨w.heap.size, 0, none⟩) 0 0) (w.alloc (.cells ([] : List Value).toArray e)) := by
  simp [Instr.buildSlice, run_underlying ht, sizeOf, typeInfo, hinf, Instr.fill, newRow]
  have : Array.range 0 = #[] := by decide
  simp [this]
 obtain ⟨v, w', h1, h2, h3, h4, h5⟩ := run_build (E := E) (d := d) (ty := ty) (pos := pos) (aft := aft) (g := g) 0 #[] [] ([] : List α) hrun hP rfl (by omega) (by simp) (fun i y hy => by simp at hy)
 exact EO.run h1 (h v w' h2 h3 h4 h5)
theorem cells_one {v : Value} (h : v.oneCell' = true) : v.cells = #[v] := by cases v <;> first | rfl | cases h
theorem o_buildF {n : Nat} {parts : Array (Nat × Operand)} (vs : List Value) (ys : List α) {z : Value} (ht : P.underlying t = some (.slice e)) (hs : (P.info? e).map (·.size) = some 1) (hz : (P.info? e).bind (·.zero) = some z)
  (hr : RepsF E G vs ys) (hone : ∀ u ∈ vs, u.oneCell' = true) (hn : n = vs.length) (hn2 : n = ys.length) (hE : E.size = 1)
  (hpt' : (parts.toList.map fun (i, x) => (i, ρ x)) = (vs.zipIdx 0).map fun x => (x.2, x.1)) (hpos : 0 < n ∧ n ≤ 1000000) (hP : Pins G w)
  (h : ∀ v w', Own E e G w' w.heap.size v ys → Pins G w' → Below w.heap.size w w' → v.ownBlock = some w.heap.size → K v w') : EO P ρ ⟨d, .buildSlice t n parts, ty, pos, aft, g⟩ w K := by
 have hpt := (Array.toList_map ..).trans hpt'
 obtain ⟨inf, hinf, hsz⟩ := Option.map_eq_some_iff.1 hs
 have hzz : inf.zero = some z := by simpa [hinf] using hz
 have hrun := run_buildSlice (P := P) w t e n (parts.map fun (i, x) => (i, ρ x)) vs.toArray inf z ht hinf hzz (by rw [hsz]; omega) (by rw [hsz]; omega)
  (by rw [hpt, hsz]; exact Great.fill_flat _ _ (fun v hv => cells_one (hone v hv)) (by simp [hn]))
 obtain ⟨v, w', h1, h2, h3, h4, h5⟩ := run_build (E := E) (d := d) (ty := ty) (pos := pos) (aft := aft) (g := g) n parts vs ys hrun hP hn2 (by omega) (by rw [hE]; omega) (fun i y hy => by
  obtain ⟨v, hv, hrep⟩ := hr i y hy
  have : (vs.drop (i * E.size)).take E.size = [v] := by
   rw [hE, Nat.mul_one]
   apply List.ext_getElem?
   intro j
   rw [List.getElem?_take, List.getElem?_drop]
   match j with
   | 0 => simpa using hv
   | j + 1 => simp
  rw [this]; exact hrep)
 exact EO.run h1 (h v w' h2 h3 h4 h5)
theorem o_build1 {x : Operand} (cells : List Value) (y : α) {z : Value} (ht : P.underlying t = some (.slice e)) (hs : (P.info? e).map (·.size) = some E.size) (hz : (P.info? e).bind (·.zero) = some z)
  (hr : E.rep G cells y) (hx : ρ x = .agg cells.toArray) (hpos : 0 < E.size ∧ E.size ≤ 1000) (hP : Pins G w)
  (h : ∀ v w', Own E e G w' w.heap.size v [y] → Pins G w' → Below w.heap.size w w' → v.ownBlock = some w.heap.size → K v w') : EO P ρ ⟨d, .buildSlice t 1 #[(0, x)], ty, pos, aft, g⟩ w K := by
 obtain ⟨inf, hinf, hsz⟩ := Option.map_eq_some_iff.1 hs
 have hzz : inf.zero = some z := by simpa [hinf] using hz
 have hcl := E.len hr
 have hrun := run_buildSlice (P := P) w t e 1 ((#[(0, x)] : Array (Nat × Operand)).map fun (i, x) => (i, ρ x)) cells.toArray inf z ht hinf hzz (by rw [hsz]; omega) (by rw [hsz]; omega) (by
  have hw := Great.fill_whole (s := inf.size) (by rw [hsz]; exact hpos.1) [Value.agg cells.toArray] ((Array.range (1 * inf.size)).map (z.cells[· % z.cells.size]!)) (by intro v hv; simp at hv; subst hv; simp [Value.cells, hcl, hsz]) (by simp)
  have he : ((#[(0, x)] : Array (Nat × Operand)).map fun (i, x) => (i, ρ x)).toList = (([Value.agg cells.toArray]).zipIdx 0).map fun x => (x.2, x.1) := by simp [hx]
  rw [he, hw]
  simp [Value.cells])
 obtain ⟨v, w', h1, h2, h3, h4, h5⟩ := run_build (E := E) (d := d) (ty := ty) (pos := pos) (aft := aft) (g := g) 1 #[(0, x)] cells [y] hrun hP rfl (by omega) (by omega) (fun i q hq => by
  match i, hq with
  | 0, hq => simp at hq; subst hq; simp only [Nat.zero_mul, List.drop_zero]; rw [← hcl, List.take_length]; exact hr)
 exact EO.run h1 (h v w' h2 h3 h4 h5)
end


section
variable {P : Program} {ops : Array Oper} {Q : Exit → Act → World → Prop} {n : Nat} {env : Nat → Value} {w : World} {l : List Oper} {t : Nat}
theorem qbd {p : Prop} [Decidable p] (he : env t = .bool (decide p)) (h1 : p → WL P ops Q l (F n (upd env t (.bool true))) w) (h2 : ¬ p → WL P ops Q l (F n (upd env t (.bool false))) w) : WL P ops Q l (F n env) w :=
 qb he (fun h => h1 (of_decide_eq_true h)) (fun h => h2 (of_decide_eq_false h))
theorem qbn {b : Bool} (he : env t = .bool (!b)) (h1 : b = true → WL P ops Q l (F n (upd env t (.bool false))) w) (h2 : b = false → WL P ops Q l (F n (upd env t (.bool true))) w) : WL P ops Q l (F n env) w :=
 qb he (fun h => h2 (by simpa using h)) (fun h => h1 (by simpa using h))
variable {S : World → Prop} {last fuel : Nat} {listed : Array Bool}
theorem drb {b : Bool} (he : env t = .bool b) (h1 : b = true → DR P ops Q S last fuel listed (F n (upd env t (.bool true))) w) (h2 : b = false → DR P ops Q S last fuel listed (F n (upd env t (.bool false))) w) : DR P ops Q S last fuel listed (F n env) w := by
 cases b
 ·have := h2 rfl; rwa [upd_same he] at this
 ·have := h1 rfl; rwa [upd_same he] at this
theorem drbd {p : Prop} [Decidable p] (he : env t = .bool (decide p)) (h1 : p → DR P ops Q S last fuel listed (F n (upd env t (.bool true))) w) (h2 : ¬ p → DR P ops Q S last fuel listed (F n (upd env t (.bool false))) w) : DR P ops Q S last fuel listed (F n env) w :=
 drb he (fun h => h1 (of_decide_eq_true h)) (fun h => h2 (of_decide_eq_false h))
theorem drbn {b : Bool} (he : env t = .bool (!b)) (h1 : b = true → DR P ops Q S last fuel listed (F n (upd env t (.bool false))) w) (h2 : b = false → DR P ops Q S last fuel listed (F n (upd env t (.bool true))) w) : DR P ops Q S last fuel listed (F n env) w :=
 drb he (fun h => h2 (by simpa using h)) (fun h => h1 (by simpa using h))
theorem c_ifn {c : Operand} {x y : Code} {b : Bool} (hok : okX n c = true) (hc : ev env c = .bool (!b)) (h1 : b = true → y.wp P Q (F n env) w) (h2 : b = false → x.wp P Q (F n env) w) : (Code.cond c x y).wp P Q (F n env) w :=
 c_if hok hc (fun h => h2 (by simpa using h)) (fun h => h1 (by simpa using h))
end
end Go.GL

namespace Go.GL
open Go Go.RowKit
abbrev CI := Sum Code (Sum Nat ((Nat → (Nat → Value) → World → Prop) × Nat × Nat))
def CQ (P : Program) (Q : Exit → Act → World → Prop) : List CI → Exit → Act → World → Prop
 | [] => Q
 | .inl y :: c => Exit.then (y.wp P (CQ P Q c)) (CQ P Q c)
 | .inr (.inl id) :: c => Exit.inBlock id (CQ P Q c)
 | .inr (.inr (I, n, k)) :: c => Exit.then (fun a' w' => ∃ k', k' < k ∧ ∃ env', a' = F n env' ∧ I k' env' w') (CQ P Q c)
section
variable {P : Program} {Q : Exit → Act → World → Prop} {c : List CI} {a : Act} {n : Nat} {env : Nat → Value} {w : World}
theorem s_enter {f : FuncId} {fn : Func} {b : Code} {l : List Value} {R : Ending → World → Prop} (hf : P.funcs[f]? = some fn) (hn : fn.ntmps = n) (hl : Nat.ble l.length n = true) (hb : fn.body = some b)
  (h : b.wp P (CQ P (bodyPost P fn R) []) (F n (envOf l)) w) : Calls P f l.toArray w R := enter hf hn hl hb h
theorem s_seq {x y : Code} (h : x.wp P (CQ P Q (.inl y :: c)) a w) : (Code.seq x y).wp P (CQ P Q c) a w := wp_seq h
theorem s_blk {id : Nat} {x : Code} (h : x.wp P (CQ P Q (.inr (.inl id) :: c)) a w) : (Code.block id x).wp P (CQ P Q c) a w := wp_block h
theorem s_loop {b : Code} (I : Nat → (Nat → Value) → World → Prop) (k0 : Nat) (h0 : I k0 env w)
  (round : ∀ k env w, I k env w → b.wp P (CQ P Q (.inr (.inr (I, n, k)) :: c)) (F n env) w) : (Code.loop b).wp P (CQ P Q c) (F n env) w := c_loop I k0 h0 round
theorem s_then {y : Code} (h : y.wp P (CQ P Q c) a w) : CQ P Q (.inl y :: c) .normal a w := h
theorem s_thenE {y : Code} {id : Nat} (h : CQ P Q c (.exit id) a w) : CQ P Q (.inl y :: c) (.exit id) a w := h
theorem s_blkN {id : Nat} (h : CQ P Q c .normal a w) : CQ P Q (.inr (.inl id) :: c) .normal a w := h
theorem s_blkE {id : Nat} (h : CQ P Q c .normal a w) : CQ P Q (.inr (.inl id) :: c) (.exit id) a w := c_blkE h
theorem s_lopN {I : Nat → (Nat → Value) → World → Prop} {k : Nat} (h : ∃ k', k' < k ∧ ∃ env', F n env = F n env' ∧ I k' env' w) : CQ P Q (.inr (.inr (I, n, k)) :: c) .normal (F n env) w := h
theorem s_lopE {I : Nat → (Nat → Value) → World → Prop} {m k id : Nat} (h : CQ P Q c (.exit id) a w) : CQ P Q (.inr (.inr (I, m, k)) :: c) (.exit id) a w := h
theorem s_ret (h : Q .ret a w) : CQ P Q c .ret a w := by
 induction c with
 | nil => exact h
 | cons x c ih =>
  rcases x with y | id | ⟨I, m, k⟩
  ·exact ih
  ·exact ih
  ·exact ih
theorem s_fin (h : Q .normal a w) : CQ P Q [] .normal a w := h
end
end Go.GL

namespace Go.GL
open Go Go.RowKit


theorem add_add (a : Addr) (m n : Nat) : (a.add m).add n = a.add (m + n) := by
 unfold Addr.add
 split <;> split <;> split <;> first | omega | (simp_all; done) | (subst_vars; simp_all <;> omega) | (simp <;> omega)
theorem sliced_reads {α : Type} {E : Elt α} {G : Pin} {a : Option Addr} {n c : Nat} {xs : List α} (hv : RSl E G (.slice a n c) xs) (l h : Nat) (hl : l ≤ h) (hh : h ≤ xs.length) :
  RSl E G (sliced a l h c E.size) ((xs.take h).drop l) := by
 obtain ⟨a', c', he, h1, h2⟩ := hv.sl
 simp only [Value.slice.injEq] at he
 obtain ⟨rfl, rfl, rfl⟩ := he
 have hlen : ((xs.take h).drop l).length = h - l := by simp [Nat.min_eq_left hh]
 refine ⟨⟨_, c - l, by rw [hlen]; rfl, by omega, by omega⟩, fun i x hx => ?_⟩
 have hi : i < h - l := by
  rw [← hlen]; exact (List.getElem?_eq_some_iff.1 hx).1
 rw [List.getElem?_drop, List.getElem?_take, if_pos (by omega)] at hx
 obtain ⟨a1, b, o, n1, c1, cs, hv1, hk, hr, hg⟩ := hv.at_ (l + i) x hx
 simp only [Value.slice.injEq] at hv1
 obtain ⟨rfl, _, _⟩ := hv1
 refine ⟨a1.add (l * E.size), b, o, h - l, c - l, cs, ?_, fun k => ?_, hr, hg⟩
 ·unfold sliced; rw [if_neg (by omega)]; rfl
 ·rw [← hk k, add_add, Nat.add_mul, Nat.add_assoc]

section
variable {α : Type} {E : Elt α} {G : Pin} {v : Value} {xs : List α}
def RunsSlice (v u : Value) (size : Nat) (lo hi : Option Int) : Prop :=
 ∀ {P : Program} {w : World} {d : Option Nat} {t e ty : Nat} {pos : String} {aft : Array Edge} {g : Option (Nat × Bool)} {x : Operand} {l h : Option Operand} {ρ : Operand → Value}
  (_ : P.underlying t = some (.slice e)) (_ : (P.info? e).map (·.size) = some size) (_ : ρ x = v) (_ : l.map ρ = lo.map (Value.int .i64)) (_ : h.map ρ = hi.map (Value.int .i64)),
  (execOp ρ ⟨d, .slice t x l h none, ty, pos, aft, g⟩).run P w = .ok (.value u) w
theorem elem_of {P : Program} {t e : Nat} (ht : P.underlying t = some (.slice e)) : P.elem t = e := by unfold Program.elem; rw [ht]
theorem name_slice (hv : RSl E G v xs) {lo hi : Option Int} (l h : Nat) (hlo : lo = none ∧ l = 0 ∨ ∃ z, lo = some z ∧ 0 ≤ z ∧ z.toNat = l) (hhi : hi = none ∧ h = xs.length ∨ ∃ z, hi = some z ∧ 0 ≤ z ∧ z.toNat = h) (hl : l ≤ h) (hh : h ≤ xs.length) :
  ∃ u, RSl E G u ((xs.take h).drop l) ∧ RunsSlice v u E.size lo hi := by
 obtain ⟨a, c, rfl, h1, h2⟩ := hv.sl
 refine ⟨_, sliced_reads hv l h hl hh, ?_⟩
 intro P w d t e ty pos aft g x lx hx ρ ht hs hρ hlx hhx
 have he := elem_of ht
 have ht' : P.underlying t = some (.slice (P.elem t)) := by rw [he]; exact ht
 have hsz : ∀ w : World, (sizeOf (P.elem t)).run P w = .ok E.size w := fun w => by rw [he]; exact run_sizeOf hs w
 have key : (Instr.slice t (.slice a xs.length c) (lo.map (Value.int .i64)) (hi.map (Value.int .i64)) none).run P w = .ok (sliced a l h c E.size) w := by
  rcases hlo with ⟨rfl, rfl⟩ | ⟨z, rfl, hz0, rfl⟩ <;> rcases hhi with ⟨rfl, rfl⟩ | ⟨y, rfl, hy0, rfl⟩
  ·exact (run_slice_all w t a xs.length c ht').trans (by rw [hsz]; rfl)
  ·exact (run_slice_h w t a xs.length c ht' .i64 y hy0 (by omega)).trans (by rw [hsz]; rfl)
  ·exact (run_slice_l w t a xs.length c ht' .i64 z hz0 (by omega)).trans (by rw [hsz]; rfl)
  ·exact (run_slice_lh w t a xs.length c ht' .i64 .i64 z y hz0 (by omega) (by omega)).trans (by rw [hsz]; rfl)
 simp [execOp, hρ, hlx, hhx, run_sliceAt_slice w t _ _ _ _ ht', key]
end



section
variable {α : Type} {E : Elt α} {e : Nat} {G : Pin} {w : World} {base : Nat} {v : Value} {xs : List α} {z : Int}
def At (E : Elt α) (Gr G : Pin) (v : Value) (xs : List α) (z : Int) : Prop :=
 ∃ b o cs x, xs[z.toNat]? = some x ∧ E.rep G cs x ∧ (∀ k, eptr v z E.size k = .pointer (some ⟨b, o + k, none⟩)) ∧ (∀ j u, cs[j]? = some u → Gr b (o + j) u)
theorem RSl.at (h : RSl E G v xs) (h0 : 0 ≤ z) (h1 : z < xs.length) : At E G G v xs z := h.cells h0 h1
theorem Own.at (h : Own E e G w base v xs) (h0 : 0 ≤ z) (h1 : z < xs.length) : At E (Gadd G w v) G v xs z := by
 obtain ⟨cells, ⟨hl, hown⟩, hr⟩ := h.ex
 have hz : z.toNat < xs.length := by omega
 rcases hown with ⟨rfl, h0⟩ | ⟨g, cap, cur, rfl, _, hg, hnc, hcm, hcs, htake⟩
 ·omega
 ·refine ⟨g, z.toNat * E.size, (cells.drop (z.toNat * E.size)).take E.size, _, List.getElem?_eq_getElem hz, hr _ _ (List.getElem?_eq_getElem hz), fun k => ?_, fun j u hu => Or.inr ⟨rfl, ?_⟩⟩
  ·simp only [eptr, Addr.add]; split <;> simp_all
  ·rw [List.getElem?_take] at hu
   split at hu
   ·rw [List.getElem?_drop] at hu
    rw [cell_of_row w g _ cur e (0, 0) hg]
    rw [← htake, List.getElem?_take] at hu
    split at hu
    ·simpa using hu
    ·cases hu
   ·cases hu
end
section
variable {Gr G : Pin} {v : Value} {z : Int}
theorem nm_sl {β : Type} {F : Elt β} {xs : List (List β)} {j : Nat} (hv : At (eSl F) Gr G v xs z) (hj : z.toNat = j) :
  ∃ u, RSl F G u (xs.getD j []) ∧
   ∀ {P : Program} {w : World} {d : Option Nat} {t ty : Nat} {pos : String} {aft : Array Edge} {g : Option (Nat × Bool)} {x : Operand} {ρ : Operand → Value} (_ : (P.underlying t).map aggD = some false)
    (_ : ρ x = eptr v z 1 0) (_ : Pins Gr w), (execOp ρ ⟨d, .load t x, ty, pos, aft, g⟩).run P w = .ok (.value u) w := by
 obtain ⟨b, o, cs, e, he, hr, hp, hc⟩ := hv
 rw [hj] at he
 obtain ⟨u, hcs, hu⟩ := hr
 have hx : xs.getD j [] = e := by rw [List.getD, he]; rfl
 refine ⟨u, by rw [hx]; exact hu, ?_⟩
 intro P w d t ty pos aft g x ρ ha hρ hP
 have hpp := hp 0
 simp only [eSl] at hpp
 exact r_ldp1 (b := b) (o := o) ha (hρ.trans hpp) (hP _ _ _ (hc 0 u (by rw [hcs]; rfl)))
theorem nm_form {β : Type} {F : Elt β} {xs : List (List β)} {j : Nat} (hv : At (eSl F) Gr G v xs z) (hj : z.toNat = j) :
  ∃ u, RSl F G u (xs.getD j []) ∧
   ∀ {P : Program} {w : World} {d : Option Nat} {t ty : Nat} {pos : String} {aft : Array Edge} {g : Option (Nat × Bool)} {x : Operand} {ρ : Operand → Value} (_ : (P.underlying t).map aggD = some true) (_ : (P.info? t).map (·.size) = some 1)
    (_ : ρ x = eptr v z 1 0) (_ : Pins Gr w), (execOp ρ ⟨d, .load t x, ty, pos, aft, g⟩).run P w = .ok (.value (.agg [u].toArray)) w := by
 obtain ⟨b, o, cs, e, he, hr, hp, hc⟩ := hv
 rw [hj] at he
 obtain ⟨u, hcs, hu⟩ := hr
 have hx : xs.getD j [] = e := by rw [List.getD, he]; rfl
 refine ⟨u, by rw [hx]; exact hu, ?_⟩
 intro P w d t ty pos aft g x ρ ha hs hρ hP
 have hpp := hp 0
 simp only [eSl] at hpp
 refine r_ldpA (cs := [u]) (b := b) (o := o) ha hs (hρ.trans hpp) fun i q hi => ?_
 exact hP _ _ _ (hc i q (by rw [hcs]; exact hi))
end


theorem Own.nil {α : Type} (E : Elt α) (e : Nat) (G : Pin) (w : World) (base : Nat) : Own E e G w base (.slice none 0 0) ([] : List α) :=
 ⟨⟨[], ⟨by simp, Or.inl ⟨rfl, rfl⟩⟩, fun i x hx => by simp at hx⟩, fun k hk => by cases hk⟩
def Lo (w0 : World) (S : Nat → Prop) (x : Option Nat) : Prop := ∀ k, x = some k → w0.heap.size ≤ k ∨ S k
theorem lo_app {w0 w : World} {S : Nat → Prop} {v u : Value} (h : Lo w0 S u.ownBlock) (hw : v.ownBlock = u.ownBlock ∨ ∃ k, v.ownBlock = some k ∧ w.heap.size ≤ k) (hs : w0.heap.size ≤ w.heap.size) : Lo w0 S v.ownBlock := fun k hk => by
 rcases hw with h1 | ⟨k', h1, h2⟩
 ·exact h k (h1 ▸ hk)
 ·rw [h1] at hk; cases hk; exact Or.inl (Nat.le_trans hs h2)
theorem apart_none {x : Option Nat} : Apart none x := fun k hk => by cases hk


section
variable {w0 w : World} {S : Nat → Prop} {b : Nat} {u v : Value} {x y : Option Nat}
theorem lo_own {α : Type} {E : Elt α} {e : Nat} {G : Pin} {xs : List α} (h : Own E e G w w0.heap.size v xs) : Lo w0 S v.ownBlock := fun k hk => Or.inl (h.lt k hk).1
theorem lo_box (h : w0.heap.size ≤ b) : Lo w0 S (some b) := fun k hk => by cases hk; exact Or.inl h
theorem own_lt {α : Type} {E : Elt α} {e base : Nat} {G : Pin} {xs : List α} (h : Own E e G w base v xs) : ∀ k, v.ownBlock = some k → k < w.heap.size := fun k hk => (h.lt k hk).2
end

theorem cells1 {v : Value} (h : v.oneCell' = true) : v.cells.toList = [v] := by rw [cells_one h]


def setCells (off : Nat) (cs cells : List Value) : List Value := (cs.zipIdx 0).foldl (fun a x => a.set (off + x.2) x.1) cells
def fillL (place : Nat → Option (Nat × Nat)) (cells : List Value) : List (Nat × List Value) → Option (List Value)
 | [] => some cells
 | (i, cs) :: rest => match place i with
  | none => none
  | some (off, size) => if cs.length = size ∧ off + cs.length ≤ cells.length then fillL place (setCells off cs cells) rest else none
theorem setCells_arr (off : Nat) (cs cells : List Value) : cs.toArray.zipIdx.foldl (fun (a : Array Value) (x : Value × Nat) => a.setIfInBounds (off + x.2) x.1) cells.toArray = (setCells off cs cells).toArray := by
 have key : ∀ (l : List (Value × Nat)) (cells : List Value), l.foldl (fun (a : Array Value) (x : Value × Nat) => a.setIfInBounds (off + x.2) x.1) cells.toArray = (l.foldl (fun a x => a.set (off + x.2) x.1) cells).toArray := by
  intro l
  induction l with
  | nil => intro cells; rfl
  | cons x r ih => intro cells; simp only [List.foldl_cons, List.setIfInBounds_toArray]; exact ih _
 rw [← Array.foldl_toList]
 unfold setCells
 rw [← key]
 simp
theorem fill_parts {place : Nat → Option (Nat × Nat)} : ∀ {parts : List (Nat × Value × List Value)} {cells r : List Value}, (∀ p ∈ parts, p.2.1.cells = p.2.2.toArray) → fillL place cells (parts.map fun p => (p.1, p.2.2)) = some r →
  Instr.fill place cells.toArray (parts.map fun p => (p.1, p.2.1)) = some r.toArray
 | [], cells, r, _, h => by
  simp only [List.map_nil, fillL, Option.some.injEq] at h
  subst h; rfl
 | (i, v, cs) :: rest, cells, r, hc, h => by
  have hv : v.cells = cs.toArray := hc (i, v, cs) List.mem_cons_self
  simp only [List.map_cons, fillL] at h
  cases hp : place i with
  | none => simp [hp] at h
  | some q =>
   obtain ⟨off, size⟩ := q
   simp only [hp] at h
   split at h
   ·rename_i hk
    have ih := fill_parts (fun p hp => hc p (List.mem_cons_of_mem _ hp)) h
    simp only [List.map_cons, Instr.fill, hp, hv, List.size_toArray]
    rw [if_neg (by simp; omega)]
    rw [← ih, ← setCells_arr]
   ·cases h
section
variable {P : Program} {ρ : Operand → Value} {w : World} {d : Option Nat} {t ty : Nat} {pos : String} {aft : Array Edge} {g : Option (Nat × Bool)}
def placesD (P : Program) : TypeDesc → Option (List (Nat × Nat))
 | .struct fs => fs.toList.mapM fun f => (P.info? f.type).map fun i => (f.offset, i.size)
 | _ => none
theorem r_build {parts : Array (Nat × Operand)} {fs : Array Field} {z : Value} {places : List (Nat × Nat)} (zs cs : List Value) (ps : List (Nat × Value × List Value)) (ht : P.underlying t = some (.struct fs)) (hz : (P.info? t).bind (·.zero) = some z) (hzc : z.cells.toList = zs)
  (hp' : (P.underlying t).bind (placesD P) = some places) (hpt : (parts.toList.map fun (i, x) => (i, ρ x)) = ps.map fun p => (p.1, p.2.1)) (hc : ∀ p ∈ ps, p.2.1.cells = p.2.2.toArray)
  (hf : fillL (places.toArray[·]?) zs (ps.map fun p => (p.1, p.2.2)) = some cs) :
  (execOp ρ ⟨d, .build t parts, ty, pos, aft, g⟩).run P w = .ok (.value (.agg cs.toArray)) w := by
 have hp : (fs.toList.mapM fun f => (P.info? f.type).map fun i => (f.offset, i.size)) = some places := by rw [ht] at hp'; exact hp'
 obtain ⟨it, hit, hzz⟩ := Option.bind_eq_some_iff.1 hz
 have hb : P.built t (parts.map fun (i, x) => (i, ρ x)).toList = some cs.toArray := by
  unfold Program.built
  rw [hit, ht]
  simp only [hzz, hp]
  rw [Array.toList_map, hpt]
  have := fill_parts hc hf
  rw [← hzc] at this
  exact this
 have := Go.run_build (P := P) w t (parts.map fun (i, x) => (i, ρ x)) cs.toArray hb
 simp [execOp, this]
end


end Go.GL

namespace Go.GL
noncomputable def decP (p : Prop) : Bool := @decide p (Classical.propDecidable p)
theorem decP_true {p : Prop} : decP p = true ↔ p := by unfold decP; exact @decide_eq_true_iff _ (Classical.propDecidable _)
theorem decP_false {p : Prop} : decP p = false ↔ ¬ p := by unfold decP; exact @decide_eq_false_iff_not _ (Classical.propDecidable _)










end Go.GL

namespace Go.GL

end Go.GL

namespace Go.GL

end Go.GL

namespace Go.GL
end Go.GL

namespace Go.GL



end Go.GL

namespace Go.GL
end Go.GL

namespace Go.GL
end Go.GL

namespace Go.GL
end Go.GL

namespace Go.GL

end Go.GL

namespace Go.GL
open Go Go.RowKit

def RunsAgg (Gr : Pin) (v : Value) (z : Int) (size : Nat) (cs : List Value) : Prop :=
 ∀ {P : Program} {w : World} {d : Option Nat} {t ty : Nat} {pos : String} {aft : Array Edge} {g : Option (Nat × Bool)} {x : Operand} {ρ : Operand → Value} (_ : (P.underlying t).map aggD = some true) (_ : (P.info? t).map (·.size) = some size)
  (_ : ρ x = eptr v z size 0) (_ : Pins Gr w), (execOp ρ ⟨d, .load t x, ty, pos, aft, g⟩).run P w = .ok (.value (.agg cs.toArray)) w
def RunsCell (Gr : Pin) (v : Value) (z : Int) (size k : Nat) (u : Value) : Prop :=
 ∀ {P : Program} {w : World} {d : Option Nat} {t ty : Nat} {pos : String} {aft : Array Edge} {g : Option (Nat × Bool)} {x : Operand} {ρ : Operand → Value} (_ : (P.underlying t).map aggD = some false)
  (_ : ρ x = eptr v z size k) (_ : Pins Gr w), (execOp ρ ⟨d, .load t x, ty, pos, aft, g⟩).run P w = .ok (.value u) w
theorem nm_el {α : Type} {E : Elt α} {Gr G : Pin} {v : Value} {z : Int} {xs : List α} {j : Nat} (d : α) (hv : At E Gr G v xs z) (hj : z.toNat = j) :
  ∃ cs, E.rep G cs (xs.getD j d) ∧ RunsAgg Gr v z E.size cs ∧ ∀ k u, cs[k]? = some u → RunsCell Gr v z E.size k u := by
 obtain ⟨b, o, cs, e, he, hr, hp, hc⟩ := hv
 rw [hj] at he
 have hx : xs.getD j d = e := by rw [List.getD, he]; rfl
 have hl := E.len hr
 refine ⟨cs, by rw [hx]; exact hr, ?_, fun k u hu => ?_⟩
 ·intro P w d t ty pos aft g x ρ ha hs hρ hP
  exact r_ldpA (cs := cs) (b := b) (o := o) ha (by rw [hs, hl]) (hρ.trans (hp 0)) fun i u hi => hP _ _ _ (hc i u hi)
 ·intro P w d t ty pos aft g x ρ ha hρ hP
  exact r_ldp1 (b := b) (o := o + k) ha (hρ.trans (hp k)) (hP _ _ _ (hc k u hu))

end Go.GL


namespace Go.GL

end Go.GL
namespace Go.GL
end Go.GL
namespace Go.GL
end Go.GL
namespace Go.GL
end Go.GL

namespace Go.GL
open Go Go.RowKit Go.Deep Go.ChangeAt Go.ChangeShapes Go.WideShapes

def Gall (w : World) : Pin := fun b o u => w.cell? ⟨b, o, none⟩ = some u
theorem Gall.pins (w : World) : Pins (Gall w) w := fun _ _ _ h => h
end Go.GL
