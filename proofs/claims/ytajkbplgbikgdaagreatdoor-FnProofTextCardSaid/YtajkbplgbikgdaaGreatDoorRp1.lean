/- Texts of this claim in one file: Plain, Lib, Walk, Ops, Box, More, Row, Book, Order, Births, Self, Form, Go, Good, GoodB, Law, Claim, Reads. -/
import Derived.WalkKit
import Derived.WalkSpells
import Derived.WalkLawsBesides
import Derived.Deep.QuietTactic
import Derived.BigQuiet
import Derived.Lib.Hide
import Derived.Deep.RegionHeld3
import Derived.Deep.LoopGhost
import Derived.Great.BuildSlice
import Derived.Laws.StructEq
import Derived.Deep.Slices
import Derived.ProofKit
namespace Go.GL
structure Nd where
 l : List Int
 r : List Int
deriving DecidableEq, Inhabited, Repr
variable {xs ys : List Int} {j : Nat}
theorem eqstep (hp : ∀ i, i < j → xs.getD i 0 = ys.getD i 0) (h : ¬ (xs.getD j 0 ≠ ys.getD j 0)) : ∀ i, i < j + 1 → xs.getD i 0 = ys.getD i 0 := fun i hi => by
 by_cases he : i = j
 ·subst he; exact Decidable.not_not.1 h
 ·exact hp i (by omega)
theorem eqdone (hl : xs.length = ys.length) (hj : xs.length ≤ j) (hp : ∀ i, i < j → xs.getD i 0 = ys.getD i 0) : xs = ys := by
 apply List.ext_getElem hl
 intro i h1 h2
 have := hp i (by omega)
 simpa [List.getD, h1, h2] using this
end Go.GL
namespace Go.GL
variable {j : Nat}
theorem xU {α : Type} (l : List α) (d : α) (h : j < l.length) : l.drop j = l.getD j d :: l.drop (j + 1) := by
 rw [List.drop_eq_getElem_cons h]; simp [List.getD, h]
theorem xE {α : Type} {l : List α} {d : α} (h : j < l.length) : l.getD j d ∈ l := by simp [List.getD, h]
def goodFrom : Int → Int → List Int → Bool
 | _, _, [] => true
 | last, below, i :: r => if i ≤ last ∨ below ≤ i then false else goodFrom i below r
def goodOpts (l : List Int) (below : Int) : Bool := if 24 < (l.length : Int) then false else goodFrom (-1) below l
end Go.GL
namespace Go.GL
def cmpI (x y : Int) : Int := if x < y then -1 else if y < x then 1 else 0
def cmpL : List Int → List Int → Int
 | [], [] => 0
 | [], _ :: _ => -1
 | _ :: _, [] => 1
 | x :: a, y :: b => if cmpI x y ≠ 0 then cmpI x y else cmpL a b
def orL : List Int → Int
 | [] => 0
 | x :: r => if x ≠ 0 then x else orL r
def idxFrom (v : Bool) : Int → List Bool → Int
 | _, [] => -1
 | i, x :: r => if v = x then i else idxFrom v (i + 1) r
def idxB (l : List Bool) (v : Bool) : Int := idxFrom v 0 l
variable {a b : List Int} {j i : Nat} {is : List Bool} {z : Int}
theorem eF (ha : j < a.length) (hb : b.length ≤ j) : cmpL (a.drop j) (b.drop j) = 1 := by
 rw [xU a 0 ha, List.drop_eq_nil_of_le hb]; rfl
theorem cmpL_ne (ha : j < a.length) (hb : j < b.length) (h : cmpI (a.getD j 0) (b.getD j 0) ≠ 0) : cmpL (a.drop j) (b.drop j) = cmpI (a.getD j 0) (b.getD j 0) := by
 rw [xU a 0 ha, xU b 0 hb, cmpL, if_pos h]
theorem cmpL_eq (ha : j < a.length) (hb : j < b.length) (h : ¬ cmpI (a.getD j 0) (b.getD j 0) ≠ 0) : cmpL (a.drop j) (b.drop j) = cmpL (a.drop (j + 1)) (b.drop (j + 1)) := by
 rw [xU a 0 ha, xU b 0 hb, cmpL, if_neg h]
theorem eG (ha : a.length ≤ j) (hb : j < b.length) : cmpL (a.drop j) (b.drop j) = -1 := by
 rw [List.drop_eq_nil_of_le ha, xU b 0 hb]; rfl
theorem eE (ha : a.length ≤ j) (hb : b.length ≤ j) : cmpL (a.drop j) (b.drop j) = 0 := by
 rw [List.drop_eq_nil_of_le ha, List.drop_eq_nil_of_le hb]; rfl
def bmax (i : Nat) (b : List Int) (k : Int) : List Int := b.set i (max (b.getD i 0) (b.getD k.toNat 0 + 1))
def brow (i : Nat) (b : List Int) (l : List Int) : List Int := l.foldl (bmax i) b
def bgo : Nat → List Nd → List Int → List Int
 | _, [], b => b
 | i, n :: ns, b => bgo (i + 1) ns (brow i (brow i b n.l) n.r)
def births (ns : List Nd) : List Int := bgo 0 ns (List.replicate ns.length 0)
def OptsOk (ns : List Nd) : Prop := ∀ (i : Nat) (n : Nd), ns[i]? = some n → (∀ k ∈ n.l, 0 ≤ k ∧ k < i) ∧ (∀ k ∈ n.r, 0 ≤ k ∧ k < i)
theorem mE (i : Nat) (b : List Int) (k : Int) : (bmax i b k).length = b.length := by simp [bmax]
theorem bgo_next {ns : List Nd} (h : j < ns.length) : bgo j (ns.drop j) b = bgo (j + 1) (ns.drop (j + 1)) (brow j (brow j b (ns.getD j default).l) (ns.getD j default).r) := by
 rw [xU ns default h]; rfl
theorem bgo_end {ns : List Nd} (h : ns.length ≤ j) : bgo j (ns.drop j) b = b := by
 rw [List.drop_eq_nil_of_le h]; rfl
theorem OptsOk.left {ns : List Nd} (h : OptsOk ns) (hj : j < ns.length) (hi : i < (ns.getD j default).l.length) : 0 ≤ (ns.getD j default).l.getD i 0 ∧ (ns.getD j default).l.getD i 0 < j :=
 (h j (ns.getD j default) (by simp [List.getD, hj])).1 _ (xE hi)
theorem OptsOk.right {ns : List Nd} (h : OptsOk ns) (hj : j < ns.length) (hi : i < (ns.getD j default).r.length) : 0 ≤ (ns.getD j default).r.getD i 0 ∧ (ns.getD j default).r.getD i 0 < j :=
 (h j (ns.getD j default) (by simp [List.getD, hj])).2 _ (xE hi)
theorem brow_length {l : List Int} : ∀ {b : List Int}, (brow i b l).length = b.length := by
 induction l with
 | nil => intro b; rfl
 | cons a r ih => intro b; exact ih.trans (mE _ _ _)
theorem bgo_length {ns : List Nd} : ∀ {i : Nat} {b : List Int}, (bgo i ns b).length = b.length := by
 induction ns with
 | nil => intro i b; rfl
 | cons a r ih => intro i b; exact ih.trans (brow_length.trans brow_length)
theorem gN (ns : List Nd) : (births ns).length = ns.length := bgo_length.trans (by simp)
def setAll (is : List Bool) (l : List Int) : List Bool := l.foldl (fun is k => is.set k.toNat true) is
def ustep (ns : List Nd) (is : List Bool) (i : Nat) : List Bool := if is.getD i false = true then setAll (setAll is (ns.getD i default).l) (ns.getD i default).r else is
def ugo (ns : List Nd) : Nat → List Bool → List Bool
 | 0, is => is
 | i + 1, is => ugo ns i (ustep ns is i)
def usedM (ns : List Nd) (m : Nat) : List Bool := ugo ns (m + 1) ((List.replicate ns.length false).set m true)
theorem rR {l : List Int} (h : j < l.length) : setAll is (l.drop j) = setAll (is.set (l.getD j 0).toNat true) (l.drop (j + 1)) := by
 rw [xU l 0 h]; rfl
theorem nE {l : List Int} (h : l.length ≤ j) : setAll is (l.drop j) = is := by
 rw [List.drop_eq_nil_of_le h]; rfl
theorem jJ {l : List Int} : ∀ {is : List Bool}, (setAll is l).length = is.length := by
 induction l with
 | nil => intro is; rfl
 | cons a r ih => intro is; exact ih.trans (by simp)
theorem ustep_no {ns : List Nd} (h : is.getD i false = false) : ustep ns is i = is := by unfold ustep; rw [if_neg (by rw [h]; decide)]
theorem tU {ns : List Nd} (h : is.getD i false = true) : ustep ns is i = setAll (setAll is (ns.getD i default).l) (ns.getD i default).r := by unfold ustep; rw [if_pos h]
theorem ugo_step {ns : List Nd} (h : 0 ≤ z) : ugo ns (z + 1).toNat is = ugo ns (z - 1 + 1).toNat (ustep ns is z.toNat) := by
 rw [show (z + 1).toNat = z.toNat + 1 by omega, show (z - 1 + 1).toNat = z.toNat by omega]; rfl
theorem ugo_end {ns : List Nd} (h : z < 0) : ugo ns (z + 1).toNat is = is := by
 rw [show (z + 1).toNat = 0 by omega]; rfl
def pairC (ns : List Nd) (bs : List Int) (i : Nat) : Int :=
 orL [cmpI (bs.getD (i - 1) 0) (bs.getD i 0), cmpL (ns.getD (i - 1) default).l (ns.getD i default).l, cmpL (ns.getD (i - 1) default).r (ns.getD i default).r]
structure GoodP (ns : List Nd) : Prop where
 lo : 1 ≤ ns.length
 hi : ns.length ≤ 120
 opts : ∀ i, i < ns.length → goodOpts (ns.getD i default).l i = true ∧ goodOpts (ns.getD i default).r i = true
 sorted : ∀ i, 1 ≤ i → i < ns.length → pairC ns (births ns) i < 0
 used : idxB (usedM ns (ns.length - 1)) false < 0
noncomputable def goodB (ns : List Nd) : Bool := @decide (GoodP ns) (Classical.propDecidable _)
theorem goodB_true {ns : List Nd} : goodB ns = true ↔ GoodP ns := by unfold goodB; exact @decide_eq_true_iff _ (Classical.propDecidable _)
theorem goodB_false {ns : List Nd} : goodB ns = false ↔ ¬ GoodP ns := by
 rw [← goodB_true]; cases goodB ns <;> simp
theorem tQ {last below : Int} : ∀ {l : List Int}, goodFrom last below l = true → ∀ k ∈ l, last < k ∧ k < below
 | [], _, k, hk => by cases hk
 | x :: r, h, k, hk => by
  unfold goodFrom at h
  split at h
  ·cases h
  ·rename_i hx
   have ih := tQ h
   cases hk with
   | head => omega
   | tail _ hk => have := ih k hk; omega
theorem tO {l : List Int} {b : Int} (h : goodOpts l b = true) : ∀ k ∈ l, 0 ≤ k ∧ k < b := fun k hk => by
 unfold goodOpts at h
 split at h
 ·cases h
 ·have := tQ h k hk; omega
theorem opts_ok {ns : List Nd} (h : ∀ i, i < ns.length → goodOpts (ns.getD i default).l i = true ∧ goodOpts (ns.getD i default).r i = true) : OptsOk ns := fun i n hn => by
 obtain ⟨hi, rfl⟩ := List.getElem?_eq_some_iff.1 hn
 have := h i hi
 have e : ns.getD i default = ns[i] := by simp [List.getD, hi]
 rw [e] at this
 exact ⟨tO this.1, tO this.2⟩
end Go.GL
namespace Go.GL
open Go Go.RowKit
def Pin := Nat → Nat → Value → Prop
def Pin.le (G G' : Pin) : Prop := ∀ b o u, G b o u → G' b o u
def Pins (G : Pin) (w : World) : Prop := ∀ b o u, G b o u → w.cell? ⟨b, o, none⟩ = some u
theorem Pin.le_refl (G : Pin) : Pin.le G G := fun _ _ _ h => h
theorem Pin.le_trans {A B C : Pin} (h : Pin.le A B) (k : Pin.le B C) : Pin.le A C := fun b o u x => k b o u (h b o u x)
theorem dH : type_of% @Pin.le_trans := @Pin.le_trans
theorem kE {w : World} {b o : Nat} {u : Value} (h : w.cell? ⟨b, o, none⟩ = some u) : b < w.heap.size :=
 World.block_lt_of_cell? w ⟨b, o, none⟩ h
structure Elt (α : Type) where
 size : Nat
 rep : Pin → List Value → α → Prop
 mono : ∀ {G G' : Pin} {cs : List Value} {x : α}, Pin.le G G' → rep G cs x → rep G' cs x
 len : ∀ {G : Pin} {cs : List Value} {x : α}, rep G cs x → cs.length = size
 one : ∀ {G : Pin} {cs : List Value} {x : α}, rep G cs x → ∀ u ∈ cs, u.oneCell' = true
def eptr (v : Value) (z : Int) (size off : Nat) : Value :=
 match v with
 | .slice (some a) _ _ => .pointer (some (a.add (z.toNat * size + off)))
 | _ => .pointer none
structure RSl {α : Type} (E : Elt α) (G : Pin) (v : Value) (xs : List α) : Prop where
 sl : ∃ a c, v = .slice a xs.length c ∧ xs.length ≤ c ∧ c ≤ maxLen
 at_ : ∀ i x, xs[i]? = some x → ∃ a b o n c cs, v = .slice (some a) n c ∧ (∀ k, a.add (i * E.size + k) = ⟨b, o + k, none⟩) ∧ E.rep G cs x ∧ ∀ j u, cs[j]? = some u → G b (o + j) u
theorem RSl.mono {α : Type} {E : Elt α} {G G' : Pin} {v : Value} {xs : List α} (h : RSl E G v xs) (hg : Pin.le G G') : RSl E G' v xs :=
 ⟨h.sl, fun i x hx => by
  obtain ⟨a, b, o, n, c, cs, h1, h2, h3, h4⟩ := h.at_ i x hx
  exact ⟨a, b, o, n, c, cs, h1, h2, E.mono hg h3, fun j u hu => hg _ _ _ (h4 j u hu)⟩⟩
theorem RSl.max {α : Type} {E : Elt α} {G : Pin} {v : Value} {xs : List α} (h : RSl E G v xs) : xs.length ≤ 9223372036854775807 := by
 obtain ⟨a, c, rfl, h1, h2⟩ := h.sl; unfold maxLen at h2; omega
def eInt : Elt Int where
 size := 1
 rep := fun _ cs n => cs = [.int .i64 n]
 mono := fun _ h => h
 len := fun h => by rw [h]; rfl
 one := fun h u hu => by rw [h] at hu; simp at hu; subst hu; rfl
def eByte : Elt UInt8 where
 size := 1
 rep := fun _ cs n => cs = [.int .u8 n.toNat]
 mono := fun _ h => h
 len := fun h => by rw [h]; rfl
 one := fun h u hu => by rw [h] at hu; simp at hu; subst hu; rfl
def eBool : Elt Bool where
 size := 1
 rep := fun _ cs n => cs = [.bool n]
 mono := fun _ h => h
 len := fun h => by rw [h]; rfl
 one := fun h u hu => by rw [h] at hu; simp at hu; subst hu; rfl
def eStr : Elt ByteArray where
 size := 1
 rep := fun _ cs n => cs = [.string n]
 mono := fun _ h => h
 len := fun h => by rw [h]; rfl
 one := fun h u hu => by rw [h] at hu; simp at hu; subst hu; rfl
def eSl {α : Type} (E : Elt α) : Elt (List α) where
 size := 1
 rep := fun G cs xs => ∃ v, cs = [v] ∧ RSl E G v xs
 mono := fun hg ⟨v, h1, h2⟩ => ⟨v, h1, h2.mono hg⟩
 len := fun ⟨v, h1, h2⟩ => by rw [h1]; rfl
 one := fun ⟨v, h1, h2⟩ u hu => by
  obtain ⟨a, c, h3, _⟩ := h2.sl
  rw [h1] at hu; simp at hu; subst hu; subst h3; rfl
def eNode : Elt Nd where
 size := 2
 rep := fun G cs n => ∃ u v, cs = [u, v] ∧ RSl eInt G u n.l ∧ RSl eInt G v n.r
 mono := fun hg ⟨u, v, h1, h2, h3⟩ => ⟨u, v, h1, h2.mono hg, h3.mono hg⟩
 len := fun ⟨u, v, h1, h2, h3⟩ => by rw [h1]; rfl
 one := fun ⟨u, v, h1, h2, h3⟩ x hx => by
  obtain ⟨a, c, e1, _⟩ := h2.sl
  obtain ⟨a', c', e2, _⟩ := h3.sl
  rw [h1] at hx; simp at hx
  rcases hx with rfl | rfl
  ·subst e1; rfl
  ·subst e2; rfl
def aggD : TypeDesc → Bool
 | .struct _ => true
 | .array _ _ => true
 | _ => false
theorem jW {P : Program} {t : Nat} {b : Bool} (h : (P.underlying t).map aggD = some b) (w : World) : (isAgg t).run P w = .ok b w := by
 obtain ⟨d, h1, h2⟩ := Option.map_eq_some_iff.1 h
 unfold isAgg
 simp only [Sem.run_bind, run_underlying h1, Result.andThen_ok]
 subst h2
 cases d <;> rfl
theorem qA {P : Program} {t n : Nat} (h : (P.info? t).map (·.size) = some n) (w : World) : (sizeOf t).run P w = .ok n w := by
 obtain ⟨d, h1, h2⟩ := Option.map_eq_some_iff.1 h
 simp [sizeOf, typeInfo, h1, h2]
theorem eptr_of {v : Value} {ad : Addr} {n c : Nat} (h : v = .slice (some ad) n c) (z : Int) (size off : Nat) : eptr v z size off = .pointer (some (ad.add (z.toNat * size + off))) := by subst h; rfl
theorem RSl.cells {α : Type} {E : Elt α} {G : Pin} {v : Value} {xs : List α} (h : RSl E G v xs) {z : Int} (h0 : 0 ≤ z) (h1 : z < xs.length) :
  ∃ b o cs x, xs[z.toNat]? = some x ∧ E.rep G cs x ∧ (∀ k, eptr v z E.size k = .pointer (some ⟨b, o + k, none⟩)) ∧ (∀ j u, cs[j]? = some u → G b (o + j) u) := by
 have hz : z.toNat < xs.length := by omega
 obtain ⟨ad, b, o, n, c, cs, hv, hk, hr, hg⟩ := h.at_ z.toNat _ (List.getElem?_eq_getElem hz)
 exact ⟨b, o, cs, _, List.getElem?_eq_getElem hz, hr, fun k => by rw [eptr_of hv, hk], hg⟩
section
variable {P : Program} {w : World} {d : Option Nat} {t ty : Nat} {pos : String} {aft : Array Edge} {g : Option (Nat × Bool)} {x y p : Operand}
variable {ety k : Nat} {z : Int}
theorem run_len (ht : P.underlying t = some (.slice ety)) {α : Type} {E : Elt α} {G : Pin} {xs : List α} {v : Value} {ρ : Operand → Value} (hx : ρ x = v) (hv : RSl E G v xs) :
  (execOp ρ ⟨d, .call { callee := .builtin .len, args := #[x], argTypes := #[t] }, ty, pos, aft, g⟩).run P w = .ok (.value (.int .i64 xs.length)) w := by
 obtain ⟨ad, c, rfl, _⟩ := hv.sl
 simp [execOp, resolve, invoke, builtin, hx, Builtin.len_, goInt, run_underlying ht]
theorem zL {size : Nat} (ht : P.underlying t = some (.slice ety)) (hi : (P.info? ety).map (·.size) = some size)
  {α : Type} {E : Elt α} {G : Pin} {xs : List α} {v : Value} {ρ : Operand → Value} (hx : ρ x = v) (hy : ρ y = .int .i64 z) (hv : RSl E G v xs) (h0 : 0 ≤ z) (h1 : z < xs.length) :
  (execOp ρ ⟨d, .indexAddr t x y, ty, pos, aft, g⟩).run P w = .ok (.value (eptr v z size 0)) w := by
 obtain ⟨ad, c, rfl, _⟩ := hv.sl
 have hz : z.toNat < xs.length := by omega
 obtain ⟨a', b, o, n, c', cs, hv', _⟩ := hv.at_ z.toNat _ (List.getElem?_eq_getElem hz)
 simp only [Value.slice.injEq] at hv'
 obtain ⟨rfl, rfl, rfl⟩ := hv'
 obtain ⟨inf, hinf, hsz⟩ := Option.map_eq_some_iff.1 hi
 simp only [execOp, hx, hy, Instr.indexAt, asIntOf]
 simp [underlying, ht, sizeOf, typeInfo, hinf, hsz, h0, h1, eptr]
theorem yS {fs : Array Field} {f off : Nat} {fd : Field} (ht : P.underlying t = some (.struct fs)) (hf : fs[f]? = some fd) (ho : fd.offset = off) (hi : ((P.info? fd.type).map (·.size == 0)) = some false)
  {α : Type} {E : Elt α} {G : Pin} {xs : List α} {v : Value} {ρ : Operand → Value} (hx : ρ x = eptr v z E.size k) (hv : RSl E G v xs) (h0 : 0 ≤ z) (h1 : z < xs.length) :
  (execOp ρ ⟨d, .fieldAddr t x f, ty, pos, aft, g⟩).run P w = .ok (.value (eptr v z E.size (k + off))) w := by
 obtain ⟨b, o, cs, e, _, _, hk, _⟩ := hv.cells h0 h1
 obtain ⟨inf, hinf, hsz⟩ := Option.map_eq_some_iff.1 hi
 rw [hk] at hx
 rw [hk]
 simp only [execOp, hx, Instr.fieldAt, Instr.sureAddr, fieldPlace]
 have hne : ¬ inf.size = 0 := by simpa using hsz
 simp [underlying, ht, hf, sizeOf, typeInfo, hinf, hne, Addr.add, ho]
 split
 ·simp_all
 ·simp
theorem fY (ha : (P.underlying t).map aggD = some false)
  {α : Type} {E : Elt α} {G : Pin} {xs : List α} {v : Value} {ρ : Operand → Value} (hx : ρ x = eptr v z E.size k) (hP : Pins G w) (hv : RSl E G v xs) (h0 : 0 ≤ z) (h1 : z < xs.length) (hk : k < E.size) :
  ∃ cs e u, xs[z.toNat]? = some e ∧ E.rep G cs e ∧ cs[k]? = some u ∧ (execOp ρ ⟨d, .load t x, ty, pos, aft, g⟩).run P w = .ok (.value u) w := by
 obtain ⟨b, o, cs, e, he, hr, hp, hc⟩ := hv.cells h0 h1
 have hl : k < cs.length := by rw [E.len hr]; exact hk
 refine ⟨cs, e, cs[k], he, hr, List.getElem?_eq_getElem hl, ?_⟩
 have hw := hP _ _ _ (hc k _ (List.getElem?_eq_getElem hl))
 rw [hp] at hx
 simp only [execOp, hx, Instr.loadAt, Instr.sureAddr, loadVar, Sem.run_bind, Sem.run_pure, Result.andThen_ok, jW ha]
 simp [hw]
end
structure Own {α : Type} (E : Elt α) (e : Nat) (G : Pin) (w : World) (base : Nat) (v : Value) (xs : List α) : Prop where
 ex : ∃ cells, w.ownsRow base e E.size v xs.length cells ∧ ∀ i x, xs[i]? = some x → E.rep G ((cells.drop (i * E.size)).take E.size) x
 free : ∀ k, v.ownBlock = some k → ∀ o u, ¬ G k o u
def Gadd (G : Pin) (w : World) (v : Value) : Pin := fun b o u => G b o u ∨ (v.ownBlock = some b ∧ w.cell? ⟨b, o, none⟩ = some u)
theorem Gadd.le (G : Pin) (w : World) (v : Value) : Pin.le G (Gadd G w v) := fun _ _ _ h => Or.inl h
theorem Gadd.pins {G : Pin} {w : World} (h : Pins G w) (v : Value) : Pins (Gadd G w v) w := fun b o u hu => by
 rcases hu with hu | hu
 ·exact h b o u hu
 ·exact hu.2
section
variable {α : Type} {E : Elt α} {e : Nat} {G : Pin} {w : World} {base : Nat} {v : Value} {xs : List α}
theorem Own.read (h : Own E e G w base v xs) : RSl E (Gadd G w v) v xs := by
 obtain ⟨cells, ⟨hl, hown⟩, hr⟩ := h.ex
 rcases hown with ⟨rfl, h0⟩ | ⟨g, cap, cur, rfl, _, hg, hnc, hcm, hcs, htake⟩
 ·have : xs = [] := List.eq_nil_of_length_eq_zero h0
  subst this
  exact ⟨⟨none, 0, rfl, Nat.le_refl _, Nat.zero_le _⟩, fun i x hx => by simp at hx⟩
 ·refine ⟨⟨_, cap, rfl, hnc, hcm⟩, fun i x hx => ⟨⟨g, 0, none⟩, g, i * E.size, xs.length, cap, (cells.drop (i * E.size)).take E.size, rfl, fun k => ?_, E.mono (Gadd.le _ _ _) (hr i x hx), fun j u hu => Or.inr ⟨rfl, ?_⟩⟩⟩
  ·simp only [Addr.add]; split <;> simp_all
  ·rw [List.getElem?_take] at hu
   split at hu
   ·rw [List.getElem?_drop] at hu
    rw [cell_of_row w g _ cur e (0, 0) hg]
    rw [← htake, List.getElem?_take] at hu
    split at hu
    ·simpa using hu
    ·cases hu
   ·cases hu
theorem Own.max (h : Own E e G w base v xs) : xs.length ≤ 9223372036854775807 := h.read.max
theorem Own.mono {G' : Pin} (h : Own E e G w base v xs) (hg : Pin.le G G') (hf : ∀ k, v.ownBlock = some k → ∀ o u, ¬ G' k o u) : Own E e G' w base v xs := by
 obtain ⟨cells, h1, h2⟩ := h.ex
 exact ⟨⟨cells, h1, fun i x hx => E.mono hg (h2 i x hx)⟩, hf⟩
theorem Own.lt (h : Own E e G w base v xs) : ∀ k, v.ownBlock = some k → base ≤ k ∧ k < w.heap.size := by
 obtain ⟨cells, h1, h2⟩ := h.ex
 exact h1.lt
variable {w' : World}
theorem Own.weaken {base' : Nat} (h : Own E e G w base v xs) (hb : base' ≤ base) : Own E e G w base' v xs := by
 obtain ⟨cells, ⟨hl, hown⟩, hr⟩ := h.ex
 refine ⟨⟨cells, ⟨hl, ?_⟩, hr⟩, h.free⟩
 rcases hown with hn | ⟨g, cap, cur, h1, h2, h3⟩
 ·exact .inl hn
 ·exact .inr ⟨g, cap, cur, h1, by omega, h3⟩
theorem Own.kept {row : Option Nat} (h : Own E e G w base v xs) (hg : w.grownBy w' row) (hne : v.ownBlock = none ∨ v.ownBlock ≠ row) : Own E e G w' base v xs := by
 obtain ⟨cells, h1, h2⟩ := h.ex
 exact ⟨⟨cells, h1.kept hg hne, h2⟩, h.free⟩
theorem Below.grownBy {w : World} (h : Below w.heap.size w w') (row : Option Nat) : w.grownBy w' row := ⟨h.os, h.tape, h.output, h.size, fun k hk _ => h.block k hk⟩
theorem Pins.grown {row : Option Nat} (h : Pins G w) (hg : w.grownBy w' row) (hf : ∀ k, row = some k → ∀ o u, ¬ G k o u) : Pins G w' := fun b o u hu => by
 have h1 := h b o u hu
 refine hg.cell h1 ?_
 intro heq
 exact hf b heq.symm o u hu
theorem Pins.below (h : Pins G w) (hb : Below w.heap.size w w') : Pins G w' := h.grown (Below.grownBy hb none) (fun k hk => by cases hk)
end
structure Ext (S : Nat → Prop) (G : Pin) (w : World) (G' : Pin) (w' : World) : Prop where
 le : Pin.le G G'
 pins : Pins G' w'
 fresh : ∀ b o u, G' b o u → G b o u ∨ w.heap.size ≤ b
 os : w'.os = w.os
 tape : w'.tape = w.tape
 output : w'.output = w.output
 size : w.heap.size ≤ w'.heap.size
 block : ∀ k, k < w.heap.size → ¬ S k → w'.heap[k]? = w.heap[k]?
def noS : Nat → Prop := fun _ => False
variable {S : Nat → Prop} {w' w0 w1 w2 : World}
theorem Ext.refl {G : Pin} {w : World} (h : Pins G w) : Ext S G w G w := ⟨Pin.le_refl _, h, fun _ _ _ h => Or.inl h, rfl, rfl, rfl, Nat.le_refl _, fun _ _ _ => rfl⟩
theorem Ext.below {G G' : Pin} {w : World} (h : Ext noS G w G' w') : Below w.heap.size w w' := ⟨h.os, h.tape, h.output, h.size, fun k hk => h.block k hk id⟩
theorem Ext.step {A B : Pin} {w : World} (h : Ext S A w0 B w) (hP : Pins B w') (hb : Below w.heap.size w w') : Ext S A w0 B w' :=
 ⟨h.le, hP, h.fresh, hb.os.trans h.os, hb.tape.trans h.tape, hb.output.trans h.output, Nat.le_trans h.size hb.size, fun k hk hs => (hb.block k (Nat.lt_of_lt_of_le hk h.size)).trans (h.block k hk hs)⟩
theorem Ext.write {A B : Pin} {w : World} {row : Option Nat} (h : Ext S A w0 B w) (hP : Pins B w') (hg : w.grownBy w' row) (hr : ∀ k, row = some k → w0.heap.size ≤ k ∨ S k) : Ext S A w0 B w' :=
 ⟨h.le, hP, h.fresh, hg.os.trans h.os, hg.tape.trans h.tape, hg.output.trans h.output, Nat.le_trans h.size hg.size, fun k hk hs =>
  (hg.block k (Nat.lt_of_lt_of_le hk h.size) (fun e => by rcases hr k e.symm with h1 | h1 <;> first | omega | exact hs h1)).trans (h.block k hk hs)⟩
theorem Ext.trans {S' : Nat → Prop} {A B C : Pin} (h : Ext S A w0 B w1) (k : Ext S' B w1 C w2) (hS : ∀ i, S' i → w0.heap.size ≤ i ∨ S i) : Ext S A w0 C w2 :=
 ⟨Pin.le_trans h.le k.le, k.pins, fun b o u hu => by
  rcases k.fresh b o u hu with h1 | h1
  ·exact h.fresh b o u h1
  ·exact Or.inr (Nat.le_trans h.size h1), k.os.trans h.os, k.tape.trans h.tape, k.output.trans h.output, Nat.le_trans h.size k.size, fun i hi hs =>
  (k.block i (Nat.lt_of_lt_of_le hi h.size) (fun e => by rcases hS i e with h1 | h1 <;> first | omega | exact hs h1)).trans (h.block i hi hs)⟩
theorem Ext.tr {A B C : Pin} (h : Ext S A w0 B w1) (k : Ext noS B w1 C w2) : Ext S A w0 C w2 := h.trans k fun _ h => h.elim
section
variable {α : Type} {E : Elt α} {e : Nat} {G : Pin} {w : World} {base : Nat} {v : Value} {xs : List α}
variable {S : Nat → Prop} {w' : World}
theorem Own.extS {G' : Pin} (h : Own E e G w base v xs) (hx : Ext S G w G' w') (hS : ∀ k, v.ownBlock = some k → ¬ S k) : Own E e G' w' base v xs := by
 obtain ⟨cells, ⟨hl, hown⟩, hr⟩ := h.ex
 refine ⟨⟨cells, ⟨hl, ?_⟩, fun i x hi => E.mono hx.le (hr i x hi)⟩, fun k hk o u hu => ?_⟩
 ·rcases hown with hn | ⟨g, cap, cur, h1, h2, h3, h4⟩
  ·exact .inl hn
  ·refine .inr ⟨g, cap, cur, h1, h2, ?_, h4⟩
   rw [hx.block g (Array.getElem?_eq_some_iff.1 h3).1 (hS g (by rw [h1]; rfl))]
   exact h3
 ·rcases hx.fresh k o u hu with h1 | h1
  ·exact h.free k hk o u h1
  ·have := (h.lt k hk).2; omega
theorem Own.ext {G' : Pin} (h : Own E e G w base v xs) (hx : Ext noS G w G' w') : Own E e G' w' base v xs := h.extS hx fun _ _ => id
theorem Own.shut {w0 : World} {G0 : Pin} (h : Own E e G w w0.heap.size v xs) (hx : Ext S G0 w0 G w) : RSl E (Gadd G w v) v xs ∧ Ext S G0 w0 (Gadd G w v) w :=
 ⟨h.read, Pin.le_trans hx.le (Gadd.le _ _ _), Gadd.pins hx.pins v, fun b o u hu => by
  rcases hu with hu | hu
  ·exact hx.fresh b o u hu
  ·exact Or.inr (h.lt b hu.1).1, hx.os, hx.tape, hx.output, hx.size, hx.block⟩
end
def Src {α : Type} (E : Elt α) (G : Pin) (w : World) (u : Value) (ys : List α) : Prop :=
 ∃ (ad : Option Addr) (c : Nat) (cells : List Value), u = .slice ad ys.length c ∧ cells.length = ys.length * E.size ∧ (∀ i y, ys[i]? = some y → E.rep G ((cells.drop (i * E.size)).take E.size) y) ∧
  ∀ j x, cells[j]? = some x → ∃ a, ad = some a ∧ w.cell? (a.add j) = some x
theorem Own.src {α : Type} {E : Elt α} {e : Nat} {G : Pin} {w : World} {base : Nat} {v : Value} {xs : List α} (h : Own E e G w base v xs) : Src E G w v xs := by
 obtain ⟨cells, h1, h2⟩ := h.ex
 have h3 := h1.2
 rcases h3 with ⟨rfl, h0⟩ | ⟨g, cap, cur, rfl, _, hg, hnc, hcm, hcs, htake⟩
 ·have : xs = [] := List.eq_nil_of_length_eq_zero h0
  subst this
  exact ⟨none, 0, [], rfl, by simp, fun i y hy => by simp at hy, fun j x hx => by simp at hx⟩
 ·exact ⟨_, cap, cells, rfl, h1.1, h2, fun j x hx => ⟨_, rfl, h1.cells rfl j x hx⟩⟩
theorem RSl.src {α : Type} {E : Elt α} {G : Pin} {w : World} {v : Value} {xs : List α} (h : RSl E G v xs) (hP : Pins G w) (hs : 0 < E.size) : Src E G w v xs := by
 obtain ⟨ad, c, rfl, _⟩ := h.sl
 have key : ∀ i (hi : i < xs.length), ∃ cs : List Value, E.rep G cs xs[i] ∧ ∀ j u, cs[j]? = some u → ∃ a, ad = some a ∧ w.cell? (a.add (i * E.size + j)) = some u := fun i hi => by
  obtain ⟨a', b, o, n, c', cs, hv, hk, hr, hg⟩ := h.at_ i _ (List.getElem?_eq_getElem hi)
  simp only [Value.slice.injEq] at hv
  exact ⟨cs, hr, fun j u hu => ⟨a', hv.1, by rw [hk]; exact hP _ _ _ (hg j u hu)⟩⟩
 have : ∀ n, n ≤ xs.length → ∃ cells : List Value, cells.length = n * E.size ∧ (∀ i (hi : i < xs.length), i < n → E.rep G ((cells.drop (i * E.size)).take E.size) xs[i]) ∧
   ∀ j x, cells[j]? = some x → ∃ a, ad = some a ∧ w.cell? (a.add j) = some x := by
  intro n
  induction n with
  | zero => intro _; exact ⟨[], by simp, fun i _ hi => by omega, fun j x hx => by simp at hx⟩
  | succ n ih =>
   intro hn
   obtain ⟨cells, hl, hr, hc⟩ := ih (by omega)
   obtain ⟨cs, hcr, hcc⟩ := key n (by omega)
   have hcl := E.len hcr
   refine ⟨cells ++ cs, by rw [List.length_append, hl, hcl, Nat.add_mul, Nat.one_mul], fun i hi hin => ?_, fun j x hx => ?_⟩
   ·by_cases hi2 : i < n
    ·have hle : i * E.size + E.size ≤ cells.length := by rw [hl, ← Nat.succ_mul]; exact Nat.mul_le_mul_right _ hi2
     rw [List.drop_append_of_le_length (by omega), List.take_append_of_le_length (by rw [List.length_drop]; omega)]
     exact hr i hi hi2
    ·have : i = n := by omega
     subst this
     rw [← hl, List.drop_left, ← hcl, List.take_length]
     exact hcr
   ·by_cases hj : j < cells.length
    ·rw [List.getElem?_append_left hj] at hx; exact hc j x hx
    ·rw [List.getElem?_append_right (by omega)] at hx
     obtain ⟨a, ha, hw⟩ := hcc _ _ hx
     exact ⟨a, ha, by rw [← hw]; congr 2; rw [hl] at hj ⊢; omega⟩
 obtain ⟨cells, hl, hr, hc⟩ := this xs.length (Nat.le_refl _)
 refine ⟨ad, c, cells, rfl, hl, fun i y hy => ?_, hc⟩
 obtain ⟨hi, rfl⟩ := List.getElem?_eq_some_iff.1 hy
 exact hr i hi hi
section
variable {P : Program} {w : World} {ρ : Operand → Value} {d : Option Nat} {t ty : Nat} {pos : String} {aft : Array Edge} {g : Option (Nat × Bool)} {x y p : Operand}
theorem run_append {α : Type} {E : Elt α} {e : Nat} (bytes : Nat) (ht : P.underlying t = some (.slice e)) (hi : (P.info? e).map (fun i => (i.size, i.bytes, (i.zero.map (·.cells.size)))) = some (E.size, bytes, some E.size)) (hpos : 0 < E.size)
  {G : Pin} {base : Nat} {v u : Value} {xs ys : List α} (hx : ρ x = v) (hy : ρ y = u) (hP : Pins G w) (hv : Own E e G w base v xs) (hu : Src E G w u ys)
  (hb : (xs.length + ys.length) * bytes ≤ 140737488355328) (hb2 : xs.length + ys.length ≤ 140737488355328) (hbase : base ≤ w.heap.size) :
  ∃ v' w', (execOp ρ ⟨d, .call { callee := .builtin .append, args := #[x, y], argTypes := #[t, t] }, ty, pos, aft, g⟩).run P w = .ok (.value v') w' ∧
   Own E e G w' base v' (xs ++ ys) ∧ Pins G w' ∧ w.grownBy w' v.ownBlock ∧ (v'.ownBlock = v.ownBlock ∨ ∃ k, v'.ownBlock = some k ∧ w.heap.size ≤ k) := by
 obtain ⟨inf, hinf, hsz⟩ := Option.map_eq_some_iff.1 hi
 simp only [Prod.mk.injEq] at hsz
 obtain ⟨hsz, hby, hz⟩ := hsz
 obtain ⟨z, hzero, hzs⟩ := Option.map_eq_some_iff.1 hz
 obtain ⟨cells, hown, hr⟩ := hv.ex
 obtain ⟨ad, c, ycells, rfl, hyl, hyr, hyc⟩ := hu
 have h63 : xs.length + ys.length ≤ maxLen := by unfold maxLen; omega
 have hone : ∀ q ∈ ycells, q.oneCell' = true := by
  intro q hq
  obtain ⟨j, hj, rfl⟩ := List.getElem_of_mem hq
  have hjs : j / E.size < ys.length := by rw [Nat.div_lt_iff_lt_mul hpos, ← hyl]; exact hj
  have hrep := hyr (j / E.size) _ (List.getElem?_eq_getElem hjs)
  refine E.one hrep _ ?_
  have hlt : j % E.size < E.size := Nat.mod_lt _ hpos
  have hje : j / E.size * E.size + j % E.size = j := by rw [Nat.mul_comm]; exact Nat.div_add_mod j E.size
  refine List.mem_iff_getElem?.2 ⟨j % E.size, ?_⟩
  rw [List.getElem?_take, if_pos hlt, List.getElem?_drop, hje]
  exact List.getElem?_eq_getElem hj
 have hrep : ∀ i q, (xs ++ ys)[i]? = some q → E.rep G (((cells ++ ycells).drop (i * E.size)).take E.size) q := by
  intro i q hq
  by_cases hi' : i < xs.length
  ·rw [List.getElem?_append_left hi'] at hq
   have hle : i * E.size + E.size ≤ cells.length := by rw [hown.1, ← Nat.succ_mul]; exact Nat.mul_le_mul_right _ hi'
   rw [List.drop_append_of_le_length (by omega), List.take_append_of_le_length (by rw [List.length_drop]; omega)]
   exact hr i q hq
  ·rw [List.getElem?_append_right (by omega)] at hq
   have hge : cells.length ≤ i * E.size := by rw [hown.1]; exact Nat.mul_le_mul_right _ (by omega)
   rw [List.drop_append, List.drop_eq_nil_of_le hge, List.nil_append]
   have : i * E.size - cells.length = (i - xs.length) * E.size := by rw [hown.1, Nat.sub_mul]
   rw [this]
   exact hyr _ q hq
 have hfree := hv.free
 cases ad with
 | none =>
  have hyn : ycells = [] := by
   cases ycells with
   | nil => rfl
   | cons q r => obtain ⟨a', ha, _⟩ := hyc 0 q (by rfl); exact absurd ha (by simp)
  have hy0 : ys = [] := by
   rw [hyn] at hyl
   rcases Nat.mul_eq_zero.1 (show ys.length * E.size = 0 from hyl.symm) with h1 | h1
   ·exact List.eq_nil_of_length_eq_zero h1
   ·omega
  subst hy0
  have hrun : (Builtin.append_ #[t, t] ty #[v, .slice none 0 c]).run P w = .ok v w := by
   rcases hown.2 with ⟨rfl, h0⟩ | ⟨g, cap, cur, rfl, _, _, hnc, _⟩
   ·simp [Builtin.append_, run_underlying ht, sizeOf, typeInfo, hinf, Builtin.lenOf, Builtin.firstCells]
   ·simp [Builtin.append_, run_underlying ht, sizeOf, typeInfo, hinf, Builtin.lenOf, Builtin.firstCells, hnc, storeCells]
  refine ⟨v, w, ?_, by simpa using hv, hP, ⟨rfl, rfl, rfl, Nat.le_refl _, fun _ _ _ => rfl⟩, Or.inl rfl⟩
  unfold execOp
  simp only [resolve, invoke, builtin, Sem.run_bind, Sem.run_pure, Result.andThen_ok, List.map_toArray, List.map_cons, List.map_nil, hx, hy]
  simp only [List.length_nil] at hrun ⊢
  rw [hrun]
  rfl
 | some ad =>
  have hnews : ∀ j q, ycells[j]? = some q → w.cell? (ad.add j) = some q := fun j q hq => by
   obtain ⟨a', ha, hc⟩ := hyc j q hq
   simp only [Option.some.injEq] at ha; subst ha; exact hc
  have hwhere : ∀ v' w', (Builtin.append_ #[t, t] ty #[v, .slice (some ad) ys.length c]).run P w = .ok v' w' → v'.ownBlock = v.ownBlock ∨ ∃ k, v'.ownBlock = some k ∧ w.heap.size ≤ k := by
   intro v' w' hrun
   rcases hown.2 with ⟨rfl, h0⟩ | ⟨g, cap, cur, rfl, hbg, hg, hnc, hcm, hcs, htake⟩
   ·by_cases hm : ys.length = 0
    ·left
     rw [hm] at hrun
     have hyn : ycells = [] := List.eq_nil_of_length_eq_zero (by rw [hyl, hm, Nat.zero_mul])
     subst hyn
     simp [Builtin.append_, run_underlying ht, sizeOf, typeInfo, hinf, Builtin.lenOf, Builtin.firstCells, loadCells, loadCellsFrom] at hrun
     rw [← hrun.1]
    ·right
     have h3 : ys.length * bytes ≤ (xs.length + ys.length) * bytes := Nat.mul_le_mul_right _ (Nat.le_add_left _ _)
     have hr2 := run_append_nil (P := P) w t ty e inf z ht hinf hzero ad ys.length c ycells (by rw [hyl, hsz]) hnews (by omega) (by unfold maxLen at h63; omega) (by rw [hby]; omega)
     rw [hr2] at hrun
     simp only [Result.ok.injEq] at hrun
     rw [← hrun.1]
     exact ⟨_, rfl, Nat.le_refl _⟩
   ·by_cases hroom : xs.length + ys.length ≤ cap
    ·left
     have hfit : xs.length * inf.size + ycells.length ≤ cur.size := by rw [hyl, hcs, hsz, ← Nat.add_mul]; exact Nat.mul_le_mul_right _ hroom
     have hr2 := run_append_room (P := P) w t ty e inf ht hinf g xs.length cap cur hg ad ys.length c ycells (by rw [hyl, hsz]) hnews hone hroom hfit
     rw [hr2] at hrun
     simp only [Result.ok.injEq] at hrun
     rw [← hrun.1]; rfl
    ·right
     have holds : ∀ j q, cells[j]? = some q → w.cell? ((⟨g, 0, none⟩ : Addr).add j) = some q := hown.cells (g := g) rfl
     have hr2 := run_append_grow (P := P) w t ty e inf z ht hinf hzero ⟨g, 0, none⟩ xs.length cap cells (by rw [hown.1, hsz]) holds ad ys.length c ycells (by rw [hyl, hsz]) hnews (by omega) (by unfold maxLen at h63; omega) (growslice_fits (Nat.lt_of_not_le hroom) (by rw [hby]; exact hb))
     rw [hr2] at hrun
     simp only [Result.ok.injEq] at hrun
     rw [← hrun.1]
     exact ⟨_, rfl, Nat.le_refl _⟩
  obtain ⟨v', w', hrun, hown', hgr, _⟩ := run_append_own (P := P) w base t ty e inf z E.size bytes ht hinf hzero hsz hby hzs hpos v xs.length cells hown ad ys.length c ycells hyl hnews hone h63 hb hbase
  have hw := hwhere v' w' hrun
  have hfr' : ∀ k, v'.ownBlock = some k → ∀ o q, ¬ G k o q := by
   intro k hk o q hG
   rcases hw with h1 | ⟨k', h1, h2⟩
   ·exact hfree k (by rw [← h1]; exact hk) o q hG
   ·rw [h1] at hk; cases hk
    have := kE (hP _ _ _ hG); omega
  refine ⟨v', w', ?_, ⟨⟨_, by rw [List.length_append]; exact hown', hrep⟩, hfr'⟩, hP.grown hgr (fun k hk => hfree k hk), hgr, hw⟩
  unfold execOp
  simp only [resolve, invoke, builtin, Sem.run_bind, Sem.run_pure, Result.andThen_ok, List.map_toArray, List.map_cons, List.map_nil, hx, hy, hrun]
theorem run_make {α : Type} {E : Elt α} {e : Nat} (zero : α) (ht : P.underlying t = some (.slice e)) (bytes : Nat) (z : Value) (hi : (P.info? e).map (fun i => (i.size, i.bytes, i.zero)) = some (E.size, bytes, some z))
    (hz : ∀ G, E.rep G z.cells.toList zero) {G : Pin} {n : Int} (hx : ρ x = .int .i64 n) (hy : ρ y = .int .i64 n) (hP : Pins G w) (h0 : 0 ≤ n) (hb : bytes * n.toNat ≤ 281474976710656) (hm : n ≤ 9223372036854775807) :
    ∃ v w', (execOp ρ ⟨d, .makeSlice t x y, ty, pos, aft, g⟩).run P w = .ok (.value v) w' ∧ Own E e G w' w.heap.size v (List.replicate n.toNat zero) ∧ Pins G w' ∧ Below w.heap.size w w' ∧ v.ownBlock = some w.heap.size := by
  obtain ⟨inf, hinf, hsz⟩ := Option.map_eq_some_iff.1 hi
  simp only [Prod.mk.injEq] at hsz
  obtain ⟨hsz, hby, hz1⟩ := hsz
  have hzl : z.cells.toList.length = E.size := E.len (hz (fun _ _ _ => False))
  obtain ⟨w', hrun, hown, hgr⟩ := run_make_full (P := P) w w.heap.size t e inf z E.size ht hinf hz1 hsz .i64 .i64 n.toNat (by rw [hby]; exact hb) (by unfold maxLen; omega) (Nat.le_refl _)
  have hn : ((n.toNat : Nat) : Int) = n := by omega
  rw [hn] at hrun
  have hfree : ∀ k, Value.ownBlock (.slice (some ⟨w.heap.size, 0, none⟩) n.toNat n.toNat) = some k → ∀ o u, ¬ G k o u := by
    intro k hk o u hG
    simp [Value.ownBlock] at hk
    have := kE (hP _ _ _ hG); omega
  refine ⟨_, w', ?_, ⟨⟨_, by rw [List.length_replicate]; exact hown, fun i q hq => ?_⟩, hfree⟩, hP.grown hgr (fun k hk => by cases hk), ⟨hgr.os, hgr.tape, hgr.output, hgr.size, fun k hk => hgr.block k hk (by simp)⟩, rfl⟩
  · simp only [execOp, hx, hy, Sem.run_bind, hrun, Result.andThen_ok]; rfl
  rw [List.getElem?_replicate] at hq
  split at hq
  · rename_i hin
    cases hq
    have : ((madeCells z.cells (n.toNat * E.size)).toList.drop (i * E.size)).take E.size = z.cells.toList := by
      apply List.ext_getElem?
      intro j
      rw [List.getElem?_take]
      split
      · rename_i hj
        rw [List.getElem?_drop]
        have hlt : i * E.size + j < n.toNat * E.size := by
          have : (i + 1) * E.size ≤ n.toNat * E.size := Nat.mul_le_mul_right _ hin
          rw [Nat.add_mul] at this; omega
        simp only [madeCells]
        have hmod : (i * E.size + j) % z.cells.size = j := by
          have : z.cells.size = E.size := by simpa using hzl
          rw [this, Nat.mul_comm, Nat.mul_add_mod, Nat.mod_eq_of_lt hj]
        have hjz : j < z.cells.size := by have : z.cells.size = E.size := by simpa using hzl
                                          omega
        simp [hlt, hmod, hjz]
      · rename_i hj
        symm
        exact List.getElem?_eq_none (by omega)
    rw [this]
    exact hz G
  · cases hq
end
section
variable {P : Program} {w : World} {ρ : Operand → Value} {d : Option Nat} {t ty : Nat} {pos : String} {aft : Array Edge} {g : Option (Nat × Bool)} {x y p : Operand}
variable {z : Int} {cs : List Value}
theorem Own.setAt {α : Type} {E : Elt α} {e : Nat} {G : Pin} {w : World} {base : Nat} {v : Value} {xs : List α} (h : Own E e G w base v xs) (h0 : 0 ≤ z) (h1 : z < xs.length)
  {q : α} (hq : E.rep G cs q) (hP : Pins G w) :
  ∃ g w', v.ownBlock = some g ∧ eptr v z E.size 0 = .pointer (some ⟨g, z.toNat * E.size, none⟩) ∧ (storeCells ⟨g, z.toNat * E.size, none⟩ cs).run P w = .ok () w' ∧
   Own E e G w' base v (xs.set z.toNat q) ∧ Pins G w' ∧ w.grownBy w' v.ownBlock ∧ w'.heap.size = w.heap.size := by
 obtain ⟨cells, hown, hr⟩ := h.ex
 have hfree := h.free
 rcases hown.2 with ⟨rfl, hl0⟩ | ⟨g, cap, cur, rfl, hbg, hg, hnc, hcm, hcs, htake⟩
 ·omega
 ·have hcl := E.len hq
  have hz : z.toNat < xs.length := by omega
  have hle1 : z.toNat * E.size + E.size ≤ xs.length * E.size := by rw [← Nat.succ_mul]; exact Nat.mul_le_mul_right _ hz
  have hle2 : xs.length * E.size ≤ cap * E.size := Nat.mul_le_mul_right _ hnc
  have hst := run_storeCells_at P g (z.toNat * E.size) e cs 0 cur w hg (by rw [hcl, hcs]; omega) (E.one hq)
  simp only [Nat.add_zero] at hst
  have hgrow : w.grownBy (w.setRow g (cur.toList.take (z.toNat * E.size) ++ cs ++ cur.toList.drop (z.toNat * E.size + cs.length)).toArray) (some g) :=
   ⟨rfl, rfl, rfl, by simp [World.setRow], fun k _ hk => setRow_other w g k _ (fun e => hk (by simp [e]))⟩
  have hcl0 : cells.length = xs.length * E.size := hown.1
  refine ⟨g, _, rfl, by simp [eptr, Addr.add]; omega, hst, ⟨⟨cells.take (z.toNat * E.size) ++ cs ++ cells.drop (z.toNat * E.size + cs.length), ⟨?_, .inr ⟨g, cap, _, by rw [List.length_set], hbg, setRow_heap w g cur _ e _ hg, by rw [List.length_set]; exact hnc, hcm, ?_, ?_⟩⟩, fun i u hu => ?_⟩, hfree⟩, hP.grown hgrow (fun k hk => hfree k (by rw [← hk]; rfl)), hgrow, by simp [World.setRow]⟩
  ·simp only [List.length_append, List.length_take, List.length_drop, List.length_set, hcl0, hcl]; omega
  ·simp only [List.size_toArray, List.length_append, List.length_take, List.length_drop, Array.length_toList, hcs, hcl]; omega
  ·rw [List.length_set, ← htake]
   apply List.ext_getElem?
   intro j
   simp only [List.getElem?_take, List.getElem?_append, List.length_take, List.length_append, List.getElem?_drop, Array.length_toList, hcs, hcl]
   by_cases hj : j < xs.length * E.size
   ·rw [if_pos hj]
    by_cases hj1 : j < z.toNat * E.size
    ·rw [if_pos (by omega), if_pos (by omega), if_pos hj1, if_pos (by omega), if_pos (by omega), if_pos hj1, if_pos hj]
    ·by_cases hj2 : j < z.toNat * E.size + E.size
     ·rw [if_pos (by omega), if_neg (by omega), if_pos (by omega), if_neg (by omega)]
      congr 1
      omega
     ·rw [if_neg (by omega), if_neg (by omega)]
      rw [if_pos (by omega)]
      congr 1
      omega
   ·rw [if_neg hj]
    split
    ·omega
    ·rw [if_neg (by omega)]
  ·by_cases hi : i = z.toNat
   ·subst hi
    rw [List.getElem?_set_self hz] at hu
    cases hu
    have : ((cells.take (z.toNat * E.size) ++ cs ++ cells.drop (z.toNat * E.size + cs.length)).drop (z.toNat * E.size)).take E.size = cs := by
     have hl : (cells.take (z.toNat * E.size)).length = z.toNat * E.size := by rw [List.length_take, hcl0]; omega
     rw [List.append_assoc, List.drop_append_of_le_length (by omega), List.drop_eq_nil_of_le (by omega), List.nil_append, ← hcl, List.take_left]
    rw [this]; exact hq
   ·rw [List.getElem?_set_ne (by omega)] at hu
    have := hr i u hu
    have heq : ((cells.take (z.toNat * E.size) ++ cs ++ cells.drop (z.toNat * E.size + cs.length)).drop (i * E.size)).take E.size = (cells.drop (i * E.size)).take E.size := by
     have hi2 : i < xs.length := (List.getElem?_eq_some_iff.1 hu).1
     have hle3 : i * E.size + E.size ≤ xs.length * E.size := by rw [← Nat.succ_mul]; exact Nat.mul_le_mul_right _ hi2
     have hap : i * E.size + E.size ≤ z.toNat * E.size ∨ z.toNat * E.size + E.size ≤ i * E.size := by
      rcases Nat.lt_or_gt_of_ne hi with h3 | h3
      ·left; rw [← Nat.succ_mul]; exact Nat.mul_le_mul_right _ h3
      ·right; rw [← Nat.succ_mul]; exact Nat.mul_le_mul_right _ h3
     apply List.ext_getElem?
     intro j
     simp only [List.getElem?_take, List.getElem?_drop]
     by_cases hj : j < E.size
     ·rw [if_pos hj, if_pos hj]
      simp only [List.getElem?_append, List.length_take, List.length_append, List.getElem?_take, List.getElem?_drop, hcl0, hcl]
      rcases hap with h3 | h3
      ·rw [if_pos (by omega), if_pos (by omega), if_pos (by omega)]
      ·rw [if_neg (by omega)]
       congr 1
       omega
     ·rw [if_neg hj, if_neg hj]
    rw [heq]; exact this
theorem run_set {α : Type} {E : Elt α} {e : Nat} {G : Pin} {base : Nat} {v u : Value} {xs : List α} (q : α) (hs : (P.info? t).map (·.size) = some E.size)
  (hx : ρ x = eptr v z E.size 0) (hy : ρ y = u) (hc : u.cells.toList = cs) (hq : E.rep G cs q) (hP : Pins G w) (hv : Own E e G w base v xs) (h0 : 0 ≤ z) (h1 : z < xs.length) :
  ∃ w', (execOp ρ ⟨d, .store t x y, ty, pos, aft, g⟩).run P w = .ok .skip w' ∧ Own E e G w' base v (xs.set z.toNat q) ∧ Pins G w' ∧ w.grownBy w' v.ownBlock ∧ w'.heap.size = w.heap.size := by
 obtain ⟨gb, w', hb, hp, hrun, h2, h3, h4, h5⟩ := hv.setAt (P := P) h0 h1 hq hP
 rw [hp] at hx
 have hsz : u.cells.size = E.size := by rw [← E.len hq, ← hc]; simp
 have hst : (storeVar t ⟨gb, z.toNat * E.size, none⟩ u).run P w = .ok () w' := by
  unfold storeVar
  simp only [Sem.run_bind, qA hs, Result.andThen_ok, hsz]
  simp only [ne_eq, not_true_eq_false, if_false]
  rw [hc]
  exact hrun
 refine ⟨w', ?_, h2, h3, h4, h5⟩
 simp only [execOp, hx, hy, Instr.storeAt, Instr.sureAddr, Sem.run_bind, Sem.run_pure, Result.andThen_ok, hst]
theorem run_build {α : Type} {E : Elt α} {e : Nat} (n : Nat) (parts : Array (Nat × Operand)) (cells : List Value) (ys : List α)
  (hrun : (Instr.buildSlice t n (parts.map fun (i, x) => (i, ρ x))).run P w = .ok (.slice (some ⟨w.heap.size, 0, none⟩) n n) (w.alloc (.cells cells.toArray e)))
  {G : Pin} (hP : Pins G w) (hn : n = ys.length) (hm : n ≤ 1000000) (hl : cells.length = n * E.size) (hr : ∀ i y, ys[i]? = some y → E.rep G ((cells.drop (i * E.size)).take E.size) y) :
  ∃ v w', (execOp ρ ⟨d, .buildSlice t n parts, ty, pos, aft, g⟩).run P w = .ok (.value v) w' ∧ Own E e G w' w.heap.size v ys ∧ Pins G w' ∧ Below w.heap.size w w' ∧ v.ownBlock = some w.heap.size := by
 have hfree : ∀ k, Value.ownBlock (.slice (some ⟨w.heap.size, 0, none⟩) n n) = some k → ∀ o u, ¬ G k o u := by
  intro k hk o u hG
  simp [Value.ownBlock] at hk
  have := kE (hP _ _ _ hG); omega
 have hb : Below w.heap.size w (w.alloc (.cells cells.toArray e)) := (Below.refl _ _).alloc (Nat.le_refl _) _
 have ho := World.ownsRow_lit (base := w.heap.size) (e := e) (size := E.size) w cells.toArray n (Nat.le_refl _) (by unfold maxLen; omega) (by simpa using hl)
 refine ⟨_, _, ?_, ⟨⟨cells, by rw [← hn]; simpa using ho, hr⟩, hfree⟩, hP.below hb, hb, rfl⟩
 simp only [execOp, Sem.run_bind, hrun, Result.andThen_ok]
 rfl
end
section
variable {P : Program} {w : World} {d : Option Nat} {t ty : Nat} {pos : String} {aft : Array Edge} {x : Operand}
 {α : Type} {E : Elt α} {G : Pin} {v : Value} {z : Int}
theorem zZ {xs : List Int} {ρ : Operand → Value} {g : Option (Nat × Bool)} {r : Int} (he : xs.getD z.toNat 0 = r) (ha : (P.underlying t).map aggD = some false) (hx : ρ x = eptr v z 1 0) (hv : RSl eInt G v xs) (hP : Pins G w) (h0 : 0 ≤ z) (h1 : z < xs.length) :
  (execOp ρ ⟨d, .load t x, ty, pos, aft, g⟩).run P w = .ok (.value (.int .i64 r)) w := by
 subst he
 obtain ⟨cs, e, u, he, hr, hc, hrun⟩ := fY (d := d) (ty := ty) (pos := pos) (aft := aft) (g := g) ha hx hP hv h0 h1 (by decide)
 simp only [eInt] at hr
 subst hr
 simp at hc
 subst hc
 rw [hrun, List.getD, he]; rfl
theorem jK {xs : List Bool} {ρ : Operand → Value} {g : Option (Nat × Bool)} {r : Bool} (he : xs.getD z.toNat false = r) (ha : (P.underlying t).map aggD = some false) (hx : ρ x = eptr v z 1 0) (hv : RSl eBool G v xs) (hP : Pins G w) (h0 : 0 ≤ z) (h1 : z < xs.length) :
  (execOp ρ ⟨d, .load t x, ty, pos, aft, g⟩).run P w = .ok (.value (.bool r)) w := by
 subst he
 obtain ⟨cs, e, u, he, hr, hc, hrun⟩ := fY (d := d) (ty := ty) (pos := pos) (aft := aft) (g := g) ha hx hP hv h0 h1 (by decide)
 simp only [eBool] at hr
 subst hr
 simp at hc
 subst hc
 rw [hrun, List.getD, he]; rfl
theorem xK {xs : List ByteArray} {ρ : Operand → Value} {g : Option (Nat × Bool)} {r : ByteArray} (he : xs.getD z.toNat ByteArray.empty = r) (ha : (P.underlying t).map aggD = some false) (hx : ρ x = eptr v z 1 0) (hv : RSl eStr G v xs) (hP : Pins G w) (h0 : 0 ≤ z) (h1 : z < xs.length) :
  (execOp ρ ⟨d, .load t x, ty, pos, aft, g⟩).run P w = .ok (.value (.string r)) w := by
 subst he
 obtain ⟨cs, e, u, he, hr, hc, hrun⟩ := fY (d := d) (ty := ty) (pos := pos) (aft := aft) (g := g) ha hx hP hv h0 h1 (by decide)
 simp only [eStr] at hr
 subst hr
 simp at hc
 subst hc
 rw [hrun, List.getD, he]; rfl
theorem pR {xs : List UInt8} {ρ : Operand → Value} {g : Option (Nat × Bool)} {r : UInt8} (he : xs.getD z.toNat 0 = r) (ha : (P.underlying t).map aggD = some false) (hx : ρ x = eptr v z 1 0) (hv : RSl eByte G v xs) (hP : Pins G w) (h0 : 0 ≤ z) (h1 : z < xs.length) :
  (execOp ρ ⟨d, .load t x, ty, pos, aft, g⟩).run P w = .ok (.value (.int .u8 r.toNat)) w := by
 subst he
 obtain ⟨cs, e, u, he, hr, hc, hrun⟩ := fY (d := d) (ty := ty) (pos := pos) (aft := aft) (g := g) ha hx hP hv h0 h1 (by decide)
 simp only [eByte] at hr
 subst hr
 simp at hc
 subst hc
 rw [hrun, List.getD, he]; rfl
end
end Go.GL
namespace Go.GL
open Go Go.RowKit
def upd (env : Nat → Value) (d : Nat) (v : Value) : Nat → Value := fun k => cond (Nat.beq k d) v (env k)
def ev (env : Nat → Value) : Operand → Value
 | .tmp t => env t
 | .const v => v
 | .global g => .pointer (some ⟨g, 0, none⟩)
 | .func f => .func (.func f) #[] #[]
def envOf (l : List Value) : Nat → Value := fun k => l.getD k undef
def F (n : Nat) (env : Nat → Value) : Act := ⟨Array.ofFn (fun i : Fin n => env i.val), []⟩
variable {v : Value} {j t : Nat} {b : Bool} {ρ : Operand → Value} {w' : World} {K : Value → World → Prop}
theorem kV {env : Nat → Value} {d : Nat} (h : env d = v) : upd env d v = env := by
 funext k
 unfold upd
 cases hk : Nat.beq k d
 ·rfl
 ·have := Nat.eq_of_beq_eq_true hk
  subst this; exact h.symm
theorem sK (n d : Nat) (env : Nat → Value) (v : Value) : (F n env).put (some d) v = F n (upd env d v) := by
 show (⟨(Array.ofFn (fun i : Fin n => env i.val)).setIfInBounds d v, []⟩ : Act) = ⟨Array.ofFn (fun i : Fin n => upd env d v i.val), []⟩
 congr 1
 apply Array.ext
 ·simp
 ·intro i h1 h2
  have h3 : i < n := by simpa using h2
  rw [Array.getElem_ofFn]
  by_cases h : d = i
  ·subst h
   rw [Array.getElem_setIfInBounds_self]
   simp [upd]
  ·have hb : Nat.beq i d = false := by
    cases hb : Nat.beq i d
    ·rfl
    ·exact absurd (Nat.eq_of_beq_eq_true hb).symm h
   rw [Array.getElem_setIfInBounds_ne (by simpa using h3) h, Array.getElem_ofFn]
   simp [upd, hb]
theorem put_F0 (n : Nat) (env : Nat → Value) (v : Value) : (F n env).put none v = F n env := rfl
def okX (n : Nat) : Operand → Bool
 | .tmp t => Nat.blt t n
 | _ => true
def okC (n : Nat) (c : Call) : Bool := (match c.callee with | .value f => okX n f | .invoke r _ => okX n r | .builtin _ => true) && c.args.toList.all (okX n)
def okN (n : Nat) : Option Operand → Bool
 | none => true
 | some x => okX n x
def okO (n : Nat) (o : Oper) : Bool :=
 match o.op with
 | .alloc _ | .ready _ | .waits _ => true
 | .move x | .assign x | .box _ x | .load _ x | .nilCheck x | .unOp _ _ x | .convert _ _ x | .sliceToArrayPointer _ x | .makeInterface _ x
 | .makeChan _ x | .fieldAddr _ x _ | .field _ x _ | .range _ x | .next x _ | .entry x | .typeAssert x _ _ _ | .extract x _ | .panic x | .recv _ x _ => okX n x
 | .pick c a b => okX n c && okX n a && okX n b
 | .build _ ps | .buildSlice _ _ ps => ps.toList.all fun p => okX n p.2
 | .store _ a v | .binOp _ _ a v _ | .makeSlice _ a v | .indexAddr _ a v | .index _ a v | .lookup _ a v _ | .mapEntry _ a v | .send a v => okX n a && okX n v
 | .makeFunc _ first captured => first.toList.all (okX n) && captured.toList.all (okX n)
 | .makeMap _ r => okN n r
 | .slice _ x l h m => okX n x && okN n l && okN n h && okN n m
 | .mapUpdate _ m k v | .entryStore _ m k v | .insert _ m k v => okX n m && okX n k && okX n v
 | .call c | .go c | .defer c => okC n c
 | .select _ _ => false
theorem eval_F {n : Nat} {env : Nat → Value} {x : Operand} (h : okX n x = true) : (F n env).eval x = ev env x := by
 cases x with
 | tmp t =>
  have ht : t < n := by simpa [okX, Nat.blt_eq] using h
  simp [Act.eval, F, ev, ht]
 | _ => rfl
theorem rF {n : Nat} {env : Nat → Value} {o : Oper} (h : okO n o = true) : execOp (F n env).eval o = execOp (ev env) o := by
  refine execOp_congr o ?_ ?_
  · intro cs b he
    rw [okO, he] at h
    cases h
  · intro x hx
    refine eval_F ?_
    obtain ⟨dst, op, ty, pos, aft, g⟩ := o
    cases op <;> simp only [okO, okC, Bool.and_eq_true, Op.operands, Call.operands] at h hx
    all_goals first
      | (simp at hx; done)
      | (simp at hx; subst hx; exact h)
      | (simp at hx; rcases hx with rfl | rfl <;> first | exact h.1 | exact h.2)
      | (simp at hx; rcases hx with rfl | rfl | rfl <;> first | exact h.1.1 | exact h.1.2 | exact h.2)
      | skip
    case build t ps => obtain ⟨i, hi⟩ : ∃ i, (i, x) ∈ ps := by simpa using hx
                       exact List.all_eq_true.1 h (i, x) (by simpa using hi)
    case buildSlice t l ps => obtain ⟨i, hi⟩ : ∃ i, (i, x) ∈ ps := by simpa using hx
                              exact List.all_eq_true.1 h (i, x) (by simpa using hi)
    case makeFunc fn f c => simp at hx; rcases hx with hx | hx <;> first | exact List.all_eq_true.1 h.1 _ (by simpa using hx) | exact List.all_eq_true.1 h.2 _ (by simpa using hx)
    case slice t y l hi m =>
      simp at hx
      rcases hx with rfl | hx | hx | hx
      · exact h.1.1.1
      · cases l <;> simp at hx; subst hx; exact h.1.1.2
      · cases hi <;> simp at hx; subst hx; exact h.1.2
      · cases m <;> simp at hx; subst hx; exact h.2
    all_goals first
      | (rename_i c; obtain ⟨callee, args, ats⟩ := c
         have h2 : ∀ x ∈ args, okX n x = true := fun x hx => List.all_eq_true.1 h.2 x (by simpa using hx)
         cases callee <;> simp at hx <;> first | exact h2 x hx | (rcases hx with rfl | hx <;> first | exact h.1 | exact h2 x hx))
      | (cases h)
theorem zH {o : Oper} (hg : o.guard = none) (f : Nat → Option Bool) : Region.wanted o f = true := by simp [Region.wanted, hg]
theorem zO {ops : Array Oper} {n : Nat} {env : Nat → Value} {o : Oper} (hg : o.guard = some (j, b)) (hj : (ops[j]?).bind (·.dst) = some t) (ht : Nat.blt t n = true) (he : env t = .bool b) :
  Region.wanted o (yielded ops (F n env).tmps) = true := by
 have h1 : t < n := by simpa [Nat.blt_eq] using ht
 simp [Region.wanted, hg, yielded, hj, F, h1, he]
theorem zY {ops : Array Oper} {n : Nat} {env : Nat → Value} {o : Oper} {c : Bool} (hg : o.guard = some (j, b)) (hj : (ops[j]?).bind (·.dst) = some t) (ht : Nat.blt t n = true) (he : env t = .bool c) (hbc : b = !c) :
  Region.wanted o (yielded ops (F n env).tmps) = false := by
 have h1 : t < n := by simpa [Nat.blt_eq] using ht
 subst hbc
 simp [Region.wanted, hg, yielded, hj, F, h1, he]
theorem xA {ops : Array Oper} {n : Nat} {env : Nat → Value} {o : Oper} (hg : o.guard = some (j, b)) (hj : (ops[j]?).bind (·.dst) = some t) (ht : Nat.blt t n = true) (he : env t = undef) :
  Region.wanted o (yielded ops (F n env).tmps) = false := by
 have h1 : t < n := by simpa [Nat.blt_eq] using ht
 simp [Region.wanted, hg, yielded, hj, F, h1, he, undef]
def EO (P : Program) (ρ : Operand → Value) (o : Oper) (w : World) (K : Value → World → Prop) : Prop :=
 ∀ (a : Act) (N : Act → World → Prop) (Q : Exit → Act → World → Prop), (∀ v w', K v w' → N (a.put o.dst v) w') → o.upon P a N Q ((execOp ρ o).run P w)
theorem EO.run {P : Program} {o : Oper} {w : World} (h : (execOp ρ o).run P w = .ok (.value v) w') (hk : K v w') : EO P ρ o w K := by
 intro a N Q hn
 rw [h]
 exact hn v w' hk
theorem EO.skip {P : Program} {o : Oper} {w : World} (h : (execOp ρ o).run P w = .ok .skip w') (hk : K undef w') : EO P ρ o w K := by
 intro a N Q hn
 rw [h]
 exact hn undef w' hk
theorem EO.call {P : Program} {o : Oper} {w w1 : World} {f : FuncId} {args : Array Value} (h : (execOp ρ o).run P w = .ok (.enter f args) w1)
  (hc : Calls P f args w1 fun e w' => ∃ v, e = .returned v ∧ K v w') : EO P ρ o w K := by
 intro a N Q hn
 rw [h]
 refine Calls.mono hc fun e w' he => ?_
 obtain ⟨v, rfl, hk⟩ := he
 exact hn v w' hk
structure WL (P : Program) (ops : Array Oper) (Q : Exit → Act → World → Prop) (l : List Oper) (a : Act) (w : World) : Prop where
 out : wpList P ops Q l a w
section
variable {P : Program} {ops : Array Oper} {Q : Exit → Act → World → Prop} {n : Nat} {env : Nat → Value} {w : World} {rest : List Oper} {o : Oper}
variable {d j t : Nat} {v : Value} {β : Type} {b : Bool}
theorem q1 (hg : o.guard = none) (hd : o.dst = some d) (hok : okO n o = true) (h : EO P (ev env) o w fun v w' => WL P ops Q rest (F n (upd env d v)) w') : WL P ops Q (o :: rest) (F n env) w := by
 constructor
 unfold wpList
 rw [if_pos (zH hg _)]
 left
 unfold Oper.wp
 rw [rF hok]
 exact h _ _ _ fun v w' hk => by rw [hd, sK]; exact hk.out
theorem q0 (hg : o.guard = none) (hd : o.dst = none) (hok : okO n o = true) (h : EO P (ev env) o w fun _ w' => WL P ops Q rest (F n env) w') : WL P ops Q (o :: rest) (F n env) w := by
 constructor
 unfold wpList
 rw [if_pos (zH hg _)]
 left
 unfold Oper.wp
 rw [rF hok]
 exact h _ _ _ fun v w' hk => by rw [hd, put_F0]; exact hk.out
theorem qd (hg : o.guard = none) (hd : o.dst = some d) (hok : okO n o = true) (hr : (execOp (ev env) o).run P w = .ok (.value v) w) (h : WL P ops Q rest (F n (upd env d v)) w) : WL P ops Q (o :: rest) (F n env) w :=
 q1 hg hd hok (EO.run hr h)
theorem qD (h3 : (o.guard, o.dst, okO n o) = (none, some d, true)) (hr : (execOp (ev env) o).run P w = .ok (.value v) w) (h : WL P ops Q rest (F n (upd env d v)) w) : WL P ops Q (o :: rest) (F n env) w := by
 simp only [Prod.mk.injEq] at h3
 exact qd h3.1 h3.2.1 h3.2.2 hr h
theorem qI (h3 : (o.guard, o.dst, okO n o) = (none, some d, true)) (h : EO P (ev env) o w fun v w' => WL P ops Q rest (F n (upd env d v)) w') : WL P ops Q (o :: rest) (F n env) w := by
 simp only [Prod.mk.injEq] at h3
 exact q1 h3.1 h3.2.1 h3.2.2 h
theorem la1 (l : List β) (x : β) : (l ++ [x]).length = l.length + 1 := List.length_append
theorem bdr (w : World) : Below w.heap.size w w.drew := (Below.refl _ _).drew
theorem la2 (a b : List β) : (a ++ b).length = a.length + b.length := List.length_append
theorem exr {G : Pin} {w : World} (S : Nat → Prop) (h : Pins G w) : Ext S G w G w := Ext.refl h
theorem dJ : type_of% @Calls.mono := @Calls.mono
theorem dK : type_of% @Nat.le_of_ble_eq_true := @Nat.le_of_ble_eq_true
theorem q1g (hg : o.guard = some (j, b)) (hj : (ops[j]?).bind (·.dst) = some t) (ht : Nat.blt t n = true) (he : env t = .bool b) (hd : o.dst = some d) (hok : okO n o = true)
  (h : EO P (ev env) o w fun v w' => WL P ops Q rest (F n (upd env d v)) w') : WL P ops Q (o :: rest) (F n env) w := by
 constructor
 unfold wpList
 rw [if_pos (zO hg hj ht he)]
 left
 unfold Oper.wp
 rw [rF hok]
 exact h _ _ _ fun v w' hk => by rw [hd, sK]; exact hk.out
theorem qdg (hg : o.guard = some (j, b)) (hj : (ops[j]?).bind (·.dst) = some t) (ht : Nat.blt t n = true) (he : env t = .bool b) (hd : o.dst = some d) (hok : okO n o = true)
  (hr : (execOp (ev env) o).run P w = .ok (.value v) w) (h : WL P ops Q rest (F n (upd env d v)) w) : WL P ops Q (o :: rest) (F n env) w :=
 q1g hg hj ht he hd hok (EO.run hr h)
theorem qs {c : Bool} (hg : o.guard = some (j, b)) (hj : (ops[j]?).bind (·.dst) = some t) (ht : Nat.blt t n = true) (he : env t = .bool c) (hbc : b = !c) (hd : o.dst = some d)
  (h : WL P ops Q rest (F n (upd env d undef)) w) : WL P ops Q (o :: rest) (F n env) w := by
 constructor
 unfold wpList
 rw [if_neg (by rw [zY hg hj ht he hbc]; simp), hd, sK]
 exact h.out
theorem qe (h : Q .normal (F n env) w) : WL P ops Q [] (F n env) w := ⟨h⟩
theorem qb {l : List Oper} (he : env t = .bool b) (h1 : b = true → WL P ops Q l (F n (upd env t (.bool true))) w) (h2 : b = false → WL P ops Q l (F n (upd env t (.bool false))) w) : WL P ops Q l (F n env) w := by
 cases b
 ·have := h2 rfl; rwa [kV he] at this
 ·have := h1 rfl; rwa [kV he] at this
end
section
variable {P : Program} {Q : Exit → Act → World → Prop} {n : Nat} {env : Nat → Value} {w : World} {a : Act}
variable {fn : Func} {R : Ending → World → Prop} {id t : Nat} {v : Value}
theorem enter {f : FuncId} {c : Code} {l : List Value} (hf : P.funcs[f]? = some fn) (hn : fn.ntmps = n) (hl : Nat.ble l.length n = true) (hb : fn.body = some c)
  (h : c.wp P (bodyPost P fn R) (F n (envOf l)) w) : Calls P f l.toArray w R := by
 refine calls_of_wp hf hb ?_
 have h1 : l.length ≤ n := by simpa [Nat.ble_eq] using hl
 have : ({ tmps := l.toArray ++ Array.replicate (fn.ntmps - l.toArray.size) undef, defers := [] } : Act) = F n (envOf l) := by
  unfold F
  congr 1
  apply Array.ext
  ·simp; omega
  ·intro i h2 h3
   simp only [Array.getElem_ofFn, envOf]
   rw [Array.getElem_append]
   split
   ·rename_i h4; simp at h4; simp [List.getD, h4]
   ·rename_i h4; simp at h4; simp [List.getD, List.getElem?_eq_none h4]
 rw [this]
 exact h
theorem zE {l : List Oper} (h : WL P l.toArray Q l (F n env) w) : (Code.region id l.toArray false).wp P Q (F n env) w := wp_region_lit h.out
theorem c_blkE (h : Q .normal a w) : Exit.inBlock id Q (.exit id) a w := by simp only [Exit.inBlock, if_true]; exact h
theorem c_if {c : Operand} {x y : Code} {b : Bool} (hok : okX n c = true) (hc : ev env c = .bool b) (h1 : b = true → x.wp P Q (F n env) w) (h2 : b = false → y.wp P Q (F n env) w) : (Code.cond c x y).wp P Q (F n env) w :=
 wp_cond_split (by rw [eval_F hok]; exact hc) h1 h2
theorem yA (hr : fn.results = #[.tmp t]) (ht : Nat.blt t n = true) (hv : env t = v) (h : R (.returned v) w) : bodyPost P fn R .ret (F n env) w := by
 have h1 : t < n := by simpa [Nat.blt_eq] using ht
 refine bodyPost_ret (results_tmp hr _ _ _) rfl ?_
 simp only [F, Array.getD_eq_getD_getElem?]
 simp [h1, hv]; exact h
theorem xG {s : Nat} {u : Value} (hr : fn.results = #[.tmp t, .tmp s]) (ht : Nat.blt t n = true) (hs : Nat.blt s n = true) (hv : env t = v) (hu : env s = u) (h : R (.returned (.tuple #[v, u])) w) : bodyPost P fn R .ret (F n env) w := by
 have h1 : t < n := by simpa [Nat.blt_eq] using ht
 have h2 : s < n := by simpa [Nat.blt_eq] using hs
 refine bodyPost_ret (results_tmp2 hr _ _ _) rfl ?_
 simp only [F, Array.getD_eq_getD_getElem?]
 simp [h1, h2, hv, hu]; exact h
end
section
variable {P : Program} {ops : Array Oper} {Q : Exit → Act → World → Prop} {md : Region.Mode} {S : World → Prop}
def dr (P : Program) (md : Region.Mode) (ops : Array Oper) (Q : Exit → Act → World → Prop) (S : World → Prop) (last : Nat) : Nat → Array Bool → Act → World → Prop
 | 0, listed, a, w => Region.ready md ops listed = [] ∧ Q .normal a w
 | fuel + 1, listed, a, w =>
  (Region.ready md ops listed = [] → Q .normal a w) ∧
  ∀ i ∈ Region.ready md ops listed, wpOp P ops Q i (fun a' w' => (i ≠ last → S w') ∧ dr P md ops Q S last fuel (listed.setIfInBounds i true) a' w') a w
theorem rO {last : Nat} : ∀ (fuel : Nat) (listed : Array Bool) (a : Act) (w : World), dr P md ops Q S last fuel listed a w → wpAny P md ops Q fuel listed a w
 | 0, _, _, _, h => h
 | fuel + 1, _, _, _, h => ⟨h.1, fun i hi => wpOp_mono (fun a' w' h' => rO fuel _ a' w' h'.2) (h.2 i hi)⟩
variable {last i d : Nat} {v : Value}
theorem dr_first {oi : Oper} (hi : ops[i]? = some oi) (hsel : ∀ (j : Nat) (o : Oper) cs b, ops[j]? = some o → o.op ≠ .select cs b)
  (hQ : ∀ c a w, Q (.panic c) (a.put oi.dst v) w → Q (.panic c) a w) :
  ∀ (fuel : Nat) (listed : Array Bool) (a : Act) (w : World),
   (∀ j oj, ops[j]? = some oj → j ≠ i → listed.getD j true = false → (∀ e ∈ oj.after, Region.binds md e = true → e.on ≠ i) → oi.apart ops oj = true) →
   (∀ ol, ops[last]? = some ol → i ≠ last ∧ ∃ e ∈ ol.after, Region.binds md e = true ∧ e.on = i) →
   i ∈ Region.ready md ops listed → YieldsIf P ops S oi v a → S w →
   dr P md ops Q S last fuel (listed.setIfInBounds i true) (a.put oi.dst v) w → dr P md ops Q S last (fuel + 1) listed a w := by
 intro fuel
 induction fuel with
 | zero =>
  intro listed a w _ _ hr hy hS H
  refine ⟨fun h => (by rw [h] at hr; cases hr), fun j hj => ?_⟩
  by_cases hji : j = i
  ·subst hji; exact hy.wpOp hi hS ⟨fun _ => hS, H⟩
  ·have := ready_mono hj hji
   rw [H.1] at this
   cases this
 | succ fuel ih =>
  intro listed a w hfree hlast hr hy hS H
  refine ⟨fun h => (by rw [h] at hr; cases hr), fun j hj => ?_⟩
  by_cases hji : j = i
  ·subst hji; exact hy.wpOp hi hS ⟨fun _ => hS, H⟩
  ·have h1 := H.2 j (ready_mono hj hji)
   obtain ⟨hjun, oj, hoj, hall⟩ := mem_ready.1 hj
   have hnot : ∀ e ∈ oj.after, Region.binds md e = true → e.on ≠ i := fun e he hb heq => by
    have h1 := hall e he hb
    have h0 := (mem_ready.1 hr).1
    rw [heq] at h1
    rcases Nat.lt_or_ge i listed.size with h' | h'
    ·simp [h'] at h0 h1; rw [h0] at h1; cases h1
    ·simp [Array.getElem?_eq_none h'] at h1
   have h2 := wpOp_putIf hoj (hfree j oj hoj hji hjun hnot) (fun cs b => hsel i oi cs b hi) (fun cs b => hsel j oj cs b hoj) hQ hy h1
   have hfree' : ∀ k ok, ops[k]? = some ok → k ≠ i → (listed.setIfInBounds j true).getD k true = false →
     (∀ e ∈ ok.after, Region.binds md e = true → e.on ≠ i) → oi.apart ops ok = true := fun k ok hk hki hun hno => by
    refine hfree k ok hk hki ?_ hno
    by_cases hjk : j = k
    ·subst hjk; exact hjun
    ·rw [getD_set_ne true hjk] at hun; exact hun
   have hjl : j ≠ last := fun e => by
    subst e
    obtain ⟨_, e, he, hb, heq⟩ := hlast oj hoj
    exact hnot e he hb heq
   refine wpOp_mono (fun a' w' h3 => ⟨fun _ => h3.2.1 hjl, ih (listed.setIfInBounds j true) a' w' hfree' hlast (ready_mono hr (Ne.symm hji)) h3.1 (h3.2.1 hjl) ?_⟩) h2
   rw [Array.setIfInBounds_comm _ _ hji]
   exact h3.2.2
def waits (ops : Array Oper) (last i : Nat) : Bool :=
 match ops[last]? with
 | none => true
 | some ol => !(Nat.beq i last) && ol.after.any (fun e => Region.binds .any e && Nat.beq e.on i)
structure DR (P : Program) (ops : Array Oper) (Q : Exit → Act → World → Prop) (S : World → Prop) (last fuel : Nat) (listed : Array Bool) (a : Act) (w : World) : Prop where
 out : dr P .any ops (NoPanic Q) S last fuel listed a w
variable {n fuel : Nat} {env : Nat → Value} {listed : Array Bool} {w : World} {o : Oper}
theorem zW (hi : ops[i]? = some o) (hd : o.dst = some d) (hok : okO n o = true) (hw : Region.wanted o (yielded ops (F n env).tmps) = true)
  (hf : (Region.noSelect ops && Region.free .any ops listed i && (Region.ready .any ops listed).contains i && waits ops last i) = true)
  (hy : ∀ w, S w → (execOp (ev env) o).run P w = .ok (.value v) w) (hS : S w)
  (h : DR P ops Q S last fuel (listed.setIfInBounds i true) (F n (upd env d v)) w) : DR P ops Q S last (fuel + 1) listed (F n env) w := by
 simp only [Bool.and_eq_true] at hf
 obtain ⟨⟨⟨h1, h2⟩, h3⟩, h4⟩ := hf
 constructor
 refine dr_first hi (Region.noSelect_spec h1) (fun _ _ _ h => h) fuel listed _ w (Region.free_spec hi h2) ?_ (by simpa using h3) (Or.inl ⟨hw, fun w hs => by rw [rF hok]; exact hy w hs⟩) hS (by rw [hd, sK]; exact h.out)
 intro ol hol
 simp only [waits, hol, Bool.and_eq_true, Bool.not_eq_true'] at h4
 refine ⟨fun e => by subst e; simp at h4, ?_⟩
 obtain ⟨e, he, hb⟩ := Array.any_eq_true'.1 h4.2
 simp only [Bool.and_eq_true] at hb
 exact ⟨e, he, hb.1, Nat.eq_of_beq_eq_true hb.2⟩
theorem dT (hi : ops[i]? = some o) (h3 : (o.guard, o.dst, okO n o) = (none, some d, true))
 (hf : (Region.noSelect ops && Region.free .any ops listed i && (Region.ready .any ops listed).contains i && waits ops last i) = true)
 (hy : ∀ w, S w → (execOp (ev env) o).run P w = .ok (.value v) w) (hS : S w)
 (h : DR P ops Q S last fuel (listed.setIfInBounds i true) (F n (upd env d v)) w) : DR P ops Q S last (fuel + 1) listed (F n env) w := by
 simp only [Prod.mk.injEq] at h3
 exact zW hi h3.2.1 h3.2.2 (zH h3.1 _) hf hy hS h
theorem zT (hi : ops[i]? = some o) (hd : o.dst = some d) (hw : Region.wanted o (yielded ops (F n env).tmps) = false)
  (hf : (Region.noSelect ops && Region.free .any ops listed i && (Region.ready .any ops listed).contains i && waits ops last i) = true) (hS : S w)
  (h : DR P ops Q S last fuel (listed.setIfInBounds i true) (F n (upd env d undef)) w) : DR P ops Q S last (fuel + 1) listed (F n env) w := by
 simp only [Bool.and_eq_true] at hf
 obtain ⟨⟨⟨h1, h2⟩, h3⟩, h4⟩ := hf
 constructor
 refine dr_first hi (Region.noSelect_spec h1) (fun _ _ _ h => h) fuel listed _ w (Region.free_spec hi h2) ?_ (by simpa using h3) (Or.inr ⟨hw, rfl⟩) hS (by rw [hd, sK]; exact h.out)
 intro ol hol
 simp only [waits, hol, Bool.and_eq_true, Bool.not_eq_true'] at h4
 refine ⟨fun e => by subst e; simp at h4, ?_⟩
 obtain ⟨e, he, hb⟩ := Array.any_eq_true'.1 h4.2
 simp only [Bool.and_eq_true] at hb
 exact ⟨e, he, hb.1, Nat.eq_of_beq_eq_true hb.2⟩
structure drOp (P : Program) (ops : Array Oper) (Q : Exit → Act → World → Prop) (S : World → Prop) (last n fuel : Nat) (listed : Array Bool) (env : Nat → Value) (w : World) (i : Nat) : Prop where
 out : wpOp P ops (NoPanic Q) i (fun a' w' => (i ≠ last → S w') ∧ dr P .any ops (NoPanic Q) S last fuel (listed.setIfInBounds i true) a' w') (F n env) w
theorem zR (hr : Region.ready .any ops listed = [i]) (h : drOp P ops Q S last n fuel listed env w i) : DR P ops Q S last (fuel + 1) listed (F n env) w :=
 ⟨⟨fun h0 => (by rw [hr] at h0; cases h0), fun j hj => by rw [hr] at hj; simp at hj; subst hj; exact h.out⟩⟩
theorem jI {j : Nat} (hr : Region.ready .any ops listed = [i, j]) (h : drOp P ops Q S last n fuel listed env w i) (h' : drOp P ops Q S last n fuel listed env w j) : DR P ops Q S last (fuel + 1) listed (F n env) w :=
 ⟨⟨fun h0 => (by rw [hr] at h0; cases h0), fun k hk => by rw [hr] at hk; simp at hk; rcases hk with rfl | rfl <;> first | exact h.out | exact h'.out⟩⟩
theorem yC (hi : ops[i]? = some o) (hd : o.dst = some d) (hok : okO n o = true) (hw : Region.wanted o (yielded ops (F n env).tmps) = true)
  (h : EO P (ev env) o w fun v w' => (i ≠ last → S w') ∧ DR P ops Q S last fuel (listed.setIfInBounds i true) (F n (upd env d v)) w') : drOp P ops Q S last n fuel listed env w i := by
 constructor
 unfold wpOp
 simp only [hi, hw, if_true]
 left
 unfold Oper.wp
 rw [rF hok]
 exact h _ _ _ fun v w' hk => by rw [hd, sK]; exact ⟨hk.1, hk.2.out⟩
theorem xQ (hi : ops[i]? = some o) (hd : o.dst = none) (hok : okO n o = true) (hw : Region.wanted o (yielded ops (F n env).tmps) = true)
  (h : EO P (ev env) o w fun _ w' => (i ≠ last → S w') ∧ DR P ops Q S last fuel (listed.setIfInBounds i true) (F n env) w') : drOp P ops Q S last n fuel listed env w i := by
 constructor
 unfold wpOp
 simp only [hi, hw, if_true]
 left
 unfold Oper.wp
 rw [rF hok]
 exact h _ _ _ fun v w' hk => by rw [hd, put_F0]; exact ⟨hk.1, hk.2.out⟩
theorem yP (hr : Region.ready .any ops listed = []) (h : Q .normal (F n env) w) : DR P ops Q S last fuel listed (F n env) w := by
 cases fuel with
 | zero => exact ⟨⟨hr, NoPanic.normal h⟩⟩
 | succ k => exact ⟨⟨fun _ => NoPanic.normal h, by rw [hr]; simp⟩⟩
theorem xD {id : Nat} {l : List Oper} {m : Nat} (hm : P.follows .mixedOrders = true) (hl : l.toArray.size = m)
  (h : DR P l.toArray Q S last m (Array.replicate m false) (F n env) w.drew) : (Code.region id l.toArray true).wp P Q (F n env) w := by
 refine wp_region_noPanic (wp_region_any hm (rO (S := S) (last := last) _ _ _ _ ?_))
 rw [hl]
 exact h.out
end
end Go.GL
namespace Go.GL
open Go Go.RowKit
section
variable {P : Program} {ρ : Operand → Value} {w : World} {d : Option Nat} {t ty t' : Nat} {pos : String} {aft : Array Edge} {g : Option (Nat × Bool)} {x y c : Operand}
 {v u : Value} {i j : Int} {k : IntKind}
theorem zB (hx : ρ x = v) : (execOp ρ ⟨d, .move x, ty, pos, aft, g⟩).run P w = .ok (.value v) w := by simp [execOp, hx]
theorem zC (hx : ρ x = v) : (execOp ρ ⟨d, .assign x, ty, pos, aft, g⟩).run P w = .ok (.value v) w := by simp [execOp, hx]
theorem yG (hc : ρ c = .bool true) (hx : ρ x = v) : (execOp ρ ⟨d, .pick c x y, ty, pos, aft, g⟩).run P w = .ok (.value v) w := by simp [execOp, hc, hx, asBool]
theorem yN (hc : ρ c = .bool false) (hy : ρ y = v) : (execOp ρ ⟨d, .pick c x y, ty, pos, aft, g⟩).run P w = .ok (.value v) w := by simp [execOp, hc, hy, asBool]
theorem yT (hx : ρ x = .int .i64 i) (hy : ρ y = .int .i64 j) (h : -9223372036854775808 ≤ i + j ∧ i + j ≤ 9223372036854775807) : (execOp ρ ⟨d, .binOp .add t x y t', ty, pos, aft, g⟩).run P w = .ok (.value (.int .i64 (i + j))) w := by
 simp [execOp, hx, hy, binOp, eqGuard, Op.intArith, IntWalk.i64_in _ h]
theorem vN (hx : ρ x = .int .i64 i) (hy : ρ y = .int .i64 j) (h : -9223372036854775808 ≤ i - j ∧ i - j ≤ 9223372036854775807) : (execOp ρ ⟨d, .binOp .sub t x y t', ty, pos, aft, g⟩).run P w = .ok (.value (.int .i64 (i - j))) w := by
 simp [execOp, hx, hy, binOp, eqGuard, Op.intArith, IntWalk.i64_in _ h]
theorem nL (hx : ρ x = .int .i64 i) (hy : ρ y = .int .i64 j) (h : -9223372036854775808 ≤ i * j ∧ i * j ≤ 9223372036854775807) : (execOp ρ ⟨d, .binOp .mul t x y t', ty, pos, aft, g⟩).run P w = .ok (.value (.int .i64 (i * j))) w := by
 simp [execOp, hx, hy, binOp, eqGuard, Op.intArith, IntWalk.i64_in _ h]
theorem r_quo (hx : ρ x = .int .i64 i) (hy : ρ y = .int .i64 j) (h0 : 0 ≤ i) (h1 : 0 < j) (h2 : i ≤ 9223372036854775807) : (execOp ρ ⟨d, .binOp .quo t x y t', ty, pos, aft, g⟩).run P w = .ok (.value (.int .i64 (i / j))) w := by
 have hj : j ≠ 0 := by omega
 have he : i.tdiv j = i / j := Int.tdiv_eq_ediv_of_nonneg h0
 have hle : i / j ≤ i := Int.ediv_le_self j h0
 have hge : 0 ≤ i / j := Int.ediv_nonneg h0 (by omega)
 simp [execOp, hx, hy, binOp, eqGuard, Op.intDiv, hj, he, IntWalk.i64_in (i / j) ⟨by omega, by omega⟩]
theorem rS (hx : ρ x = .int .i64 i) (hy : ρ y = .int .i64 j) (h0 : 0 ≤ i) (h1 : 0 < j) : (execOp ρ ⟨d, .binOp .rem t x y t', ty, pos, aft, g⟩).run P w = .ok (.value (.int .i64 (i % j))) w := by
 have hj : j ≠ 0 := by omega
 have he : i.tmod j = i % j := Int.tmod_eq_emod_of_nonneg h0
 simp [execOp, hx, hy, binOp, eqGuard, Op.intDiv, hj, he]
theorem xB (hx : ρ x = .int k i) (hy : ρ y = .int k j) : (execOp ρ ⟨d, .binOp .lss t x y t', ty, pos, aft, g⟩).run P w = .ok (.value (.bool (decide (i < j)))) w := by
 simp [execOp, hx, hy, binOp, eqGuard, Op.intCmp]
theorem kL (hx : ρ x = .int k i) (hy : ρ y = .int k j) : (execOp ρ ⟨d, .binOp .leq t x y t', ty, pos, aft, g⟩).run P w = .ok (.value (.bool (decide (i ≤ j)))) w := by
 simp [execOp, hx, hy, binOp, eqGuard, Op.intCmp]
theorem qV (hx : ρ x = .int k i) (hy : ρ y = .int k j) : (execOp ρ ⟨d, .binOp .gtr t x y t', ty, pos, aft, g⟩).run P w = .ok (.value (.bool (decide (j < i)))) w := by
 simp [execOp, hx, hy, binOp, eqGuard, Op.intCmp]
theorem rT (hx : ρ x = .int k i) (hy : ρ y = .int k j) : (execOp ρ ⟨d, .binOp .geq t x y t', ty, pos, aft, g⟩).run P w = .ok (.value (.bool (decide (j ≤ i)))) w := by
 simp [execOp, hx, hy, binOp, eqGuard, Op.intCmp]
theorem qN (hx : ρ x = .int k i) (hy : ρ y = .int k j) : (execOp ρ ⟨d, .binOp .eql t x y t', ty, pos, aft, g⟩).run P w = .ok (.value (.bool (decide (i = j)))) w := by
 have : (i == j) = decide (i = j) := rfl
 simp [execOp, hx, hy, binOp, eqGuard, Op.intCmp, this]
theorem kK (hx : ρ x = .int k i) (hy : ρ y = .int k j) : (execOp ρ ⟨d, .binOp .neq t x y t', ty, pos, aft, g⟩).run P w = .ok (.value (.bool (decide (i ≠ j)))) w := by
 have : (i != j) = decide (i ≠ j) := by by_cases h : i = j <;> simp [h]
 simp [execOp, hx, hy, binOp, eqGuard, Op.intCmp, this]
variable {p q : ByteArray}
theorem r_neqB {p q : Bool} (hu : (P.underlying t) = some .bool) (hx : ρ x = .bool p) (hy : ρ y = .bool q) : (execOp ρ ⟨d, .binOp .neq t x y t', ty, pos, aft, g⟩).run P w = .ok (.value (.bool (p != q))) w := by
 have h := run_eql_bool w t p q hu
 simp only [binOp] at h
 simp only [execOp, hx, hy, eqGuard, binOp]
 cases he : (Op.equal t (.bool p) (.bool q)).run P w with
 | ok b w' => simp [he] at h; simp [he, h.1, h.2, bne]
 | halt a b => simp [he] at h
theorem r_eqlS (hx : ρ x = .string p) (hy : ρ y = .string q) : (execOp ρ ⟨d, .binOp .eql t x y t', ty, pos, aft, g⟩).run P w = .ok (.value (.bool (p.toList == q.toList))) w := by
 simp [execOp, hx, hy, binOp, eqGuard, Op.stringOp]
theorem jO (hx : ρ x = .string p) (hy : ρ y = .string q) : (execOp ρ ⟨d, .binOp .neq t x y t', ty, pos, aft, g⟩).run P w = .ok (.value (.bool (!(p.toList == q.toList)))) w := by
 simp [execOp, hx, hy, binOp, eqGuard, Op.stringOp]
theorem xR (hx : ρ x = .string p) (hy : ρ y = .string q) (h : p.size + q.size ≤ 9223372036854775807) : (execOp ρ ⟨d, .binOp .add t x y t', ty, pos, aft, g⟩).run P w = .ok (.value (.string (p ++ q))) w := by
 have h' : ¬ (((p.size + q.size : Nat) : Int) > IntKind.i64.max) := by
  have : IntKind.i64.max = 9223372036854775807 := by decide
  rw [this]; omega
 simp only [execOp, hx, hy, binOp, eqGuard, Op.stringOp]
 simp only [if_neg h']
 simp
theorem xT {p : Bool} (hx : ρ x = .bool p) : (execOp ρ ⟨d, .unOp .not t x, ty, pos, aft, g⟩).run P w = .ok (.value (.bool (!p))) w := by
 simp [execOp, hx, Op.unary]
theorem r_neg (hx : ρ x = .int .i64 i) (h : -9223372036854775808 ≤ -i ∧ -i ≤ 9223372036854775807) : (execOp ρ ⟨d, .unOp .neg t x, ty, pos, aft, g⟩).run P w = .ok (.value (.int .i64 (-i))) w := by
 have h2 : (0 : Int) - i = -i := by omega
 simp [execOp, hx, Op.unary, Op.intArith, h2, IntWalk.i64_in _ h]
theorem xL {a : Addr} (hx : ρ x = .pointer (some a)) : (execOp ρ ⟨d, .nilCheck x, ty, pos, aft, g⟩).run P w = .ok (.value (.pointer (some a))) w := by
 simp [execOp, hx]
theorem yB {vs : Array Value} {n : Nat} (hx : ρ x = .tuple vs) (hn : vs[n]? = some v) : (execOp ρ ⟨d, .extract x n, ty, pos, aft, g⟩).run P w = .ok (.value v) w := by
 simp [execOp, hx, Instr.extract, hn]
theorem qH (ht : P.underlying t = some .string) (hx : ρ x = .string p) :
  (execOp ρ ⟨d, .call { callee := .builtin .len, args := #[x], argTypes := #[t] }, ty, pos, aft, g⟩).run P w = .ok (.value (.int .i64 p.size)) w := by
 simp [execOp, resolve, invoke, builtin, hx, Builtin.len_, goInt, run_underlying ht]
end
end Go.GL
namespace Go.GL
open Go Go.RowKit
section
variable {P : Program} {ρ : Operand → Value} {w : World} {K : Value → World → Prop} {d : Option Nat} {t ty e : Nat} {pos : String} {aft : Array Edge} {g : Option (Nat × Bool)} {x y : Operand}
 {α : Type} {E : Elt α} {G : Pin} {v u : Value}
variable {base : Nat}
theorem yH {xs ys : List α} (bytes : Nat) (ht : P.underlying t = some (.slice e)) (hi : (P.info? e).map (fun i => (i.size, i.bytes, (i.zero.map (·.cells.size)))) = some (E.size, bytes, some E.size)) (hpos : 0 < E.size)
  (hx : ρ x = v) (hy : ρ y = u) (hP : Pins G w) (hv : Own E e G w base v xs) (hu : Src E G w u ys)
  (hb : (xs.length + ys.length) * bytes ≤ 140737488355328) (hb2 : xs.length + ys.length ≤ 140737488355328) (hbase : base ≤ w.heap.size)
  (h : ∀ v' w', Own E e G w' base v' (xs ++ ys) → Pins G w' → w.grownBy w' v.ownBlock → (v'.ownBlock = v.ownBlock ∨ ∃ k, v'.ownBlock = some k ∧ w.heap.size ≤ k) → K v' w') :
  EO P ρ ⟨d, .call { callee := .builtin .append, args := #[x, y], argTypes := #[t, t] }, ty, pos, aft, g⟩ w K := by
 obtain ⟨v', w', h1, h2, h3, h4, h5⟩ := run_append (d := d) (ty := ty) (pos := pos) (aft := aft) (g := g) bytes ht hi hpos hx hy hP hv hu hb hb2 hbase
 exact EO.run h1 (h v' w' h2 h3 h4 h5)
theorem rA {n : Int} (zero : α) (bytes : Nat) (z : Value) (ht : P.underlying t = some (.slice e)) (hi : (P.info? e).map (fun i => (i.size, i.bytes, i.zero)) = some (E.size, bytes, some z))
  (hz : ∀ G, E.rep G z.cells.toList zero) (hx : ρ x = .int .i64 n) (hy : ρ y = .int .i64 n) (hP : Pins G w) (h0 : 0 ≤ n) (hb : bytes * n.toNat ≤ 281474976710656) (hm : n ≤ 9223372036854775807)
  (h : ∀ v w', Own E e G w' w.heap.size v (List.replicate n.toNat zero) → Pins G w' → Below w.heap.size w w' → v.ownBlock = some w.heap.size → K v w') :
  EO P ρ ⟨d, .makeSlice t x y, ty, pos, aft, g⟩ w K := by
 obtain ⟨v', w', h1, h2, h3, h4, h5⟩ := run_make (d := d) (ty := ty) (pos := pos) (aft := aft) (g := g) zero ht bytes z hi hz hx hy hP h0 hb hm
 exact EO.run h1 (h v' w' h2 h3 h4 h5)
theorem kO {xs : List α} {z : Int} {cs : List Value} (q : α) (hs : (P.info? t).map (·.size) = some E.size)
  (hx : ρ x = eptr v z E.size 0) (hy : ρ y = u) (hc : u.cells.toList = cs) (hq : E.rep G cs q) (hP : Pins G w) (hv : Own E e G w base v xs) (h0 : 0 ≤ z) (h1 : z < xs.length)
  (h : ∀ w', Own E e G w' base v (xs.set z.toNat q) → Pins G w' → w.grownBy w' v.ownBlock → w'.heap.size = w.heap.size → K undef w') :
  EO P ρ ⟨d, .store t x y, ty, pos, aft, g⟩ w K := by
 obtain ⟨w', h2, h3, h4, h5, h6⟩ := run_set (d := d) (ty := ty) (pos := pos) (aft := aft) (g := g) q hs hx hy hc hq hP hv h0 h1
 exact EO.skip h2 (h w' h3 h4 h5 h6)
end
end Go.GL
namespace Go.GL
open Go Go.RowKit
variable {G' : Pin}
theorem Pins.of_le {G : Pin} {w : World} (h : Pins G' w) (hl : Pin.le G G') : Pins G w := fun b o u hu => h b o u (hl b o u hu)
theorem dI : type_of% @Pins.of_le := @Pins.of_le
theorem Own.below {α : Type} {E : Elt α} {e : Nat} {G : Pin} {w w' : World} {base : Nat} {v : Value} {xs : List α} (h : Own E e G w base v xs) (hb : Below w.heap.size w w') : Own E e G w' base v xs :=
 h.kept (Below.grownBy hb none) (by cases hv : v.ownBlock <;> simp)
structure Bx (G : Pin) (w : World) (b : Nat) (cs : List Value) : Prop where
 heap : ∃ T, w.heap[b]? = some (.cells cs.toArray T (0, 0))
 free : ∀ o u, ¬ G b o u
def BxP (G : Pin) (b : Nat) (cs : List Value) : Prop := ∀ o u, cs[o]? = some u → G b o u
theorem BxP.mono {G : Pin} {b : Nat} {cs : List Value} (h : BxP G b cs) (hl : Pin.le G G') : BxP G' b cs := fun o u hu => hl _ _ _ (h o u hu)
section
variable {G : Pin} {w w' : World} {b : Nat} {cs : List Value}
theorem Bx.lt (h : Bx G w b cs) : b < w.heap.size := by
 obtain ⟨T, hT⟩ := h.heap
 exact (Array.getElem?_eq_some_iff.1 hT).1
variable {S : Nat → Prop} {G' : Pin}
theorem Bx.cell (h : Bx G w b cs) {o : Nat} {u : Value} (hu : cs[o]? = some u) : w.cell? ⟨b, o, none⟩ = some u := by
 obtain ⟨T, hT⟩ := h.heap
 rw [cell_of_row w b o cs.toArray T (0, 0) hT]
 simpa using hu
theorem Bx.below (h : Bx G w b cs) (hb : Below w.heap.size w w') : Bx G w' b cs := by
 obtain ⟨T, hT⟩ := h.heap
 exact ⟨⟨T, by rw [hb.block b h.lt]; exact hT⟩, h.free⟩
theorem Bx.kept {row : Option Nat} (h : Bx G w b cs) (hg : w.grownBy w' row) (hne : some b ≠ row) : Bx G w' b cs := by
 obtain ⟨T, hT⟩ := h.heap
 exact ⟨⟨T, by rw [hg.block b h.lt hne]; exact hT⟩, h.free⟩
theorem Bx.extS (h : Bx G w b cs) (hx : Ext S G w G' w') (hS : ¬ S b) : Bx G' w' b cs :=
 ⟨by obtain ⟨T, hT⟩ := h.heap; exact ⟨T, by rw [hx.block b h.lt hS]; exact hT⟩, fun o u hu => by
  rcases hx.fresh b o u hu with h1 | h1
  ·exact h.free o u h1
  ·have := h.lt; omega⟩
theorem Bx.ext (h : Bx G w b cs) (hx : Ext noS G w G' w') : Bx G' w' b cs := h.extS hx id
theorem Bx.shut {w0 : World} {G0 : Pin} (h : Bx G w b cs) (hx : Ext S G0 w0 G w) (hb : w0.heap.size ≤ b) :
  ∃ G', Pin.le G G' ∧ Ext S G0 w0 G' w ∧ BxP G' b cs ∧ (∀ k o u, G' k o u → G k o u ∨ k = b) :=
 ⟨fun k o u => G k o u ∨ (k = b ∧ cs[o]? = some u), fun _ _ _ h => Or.inl h,
  ⟨fun k o u hu => Or.inl (hx.le k o u hu), fun k o u hu => by
   rcases hu with hu | ⟨rfl, hu⟩
   ·exact hx.pins k o u hu
   ·exact h.cell hu, fun k o u hu => by
   rcases hu with hu | ⟨rfl, hu⟩
   ·exact hx.fresh k o u hu
   ·exact Or.inr hb, hx.os, hx.tape, hx.output, hx.size, hx.block⟩, fun o u hu => Or.inr ⟨rfl, hu⟩, fun k o u hu => by
   rcases hu with hu | hu
   ·exact Or.inl hu
   ·exact Or.inr hu.1⟩
theorem Bx.more {c : Nat} (h : Bx G w b cs) (hf : ∀ k o u, G' k o u → G k o u ∨ k = c) (hne : b ≠ c) : Bx G' w b cs :=
 ⟨h.heap, fun o u hu => by
  rcases hf b o u hu with h1 | h1
  ·exact h.free o u h1
  ·exact hne h1⟩
end
section
variable {P : Program} {ρ : Operand → Value} {w : World} {K : Value → World → Prop} {d : Option Nat} {t ty : Nat} {pos : String} {aft : Array Edge} {g : Option (Nat × Bool)} {x y : Operand} {G : Pin}
theorem newBox (cs : List Value) (T : Nat) (hP : Pins G w) : Bx G (w.alloc (.cells cs.toArray T)) w.heap.size cs ∧ Pins G (w.alloc (.cells cs.toArray T)) ∧ Below w.heap.size w (w.alloc (.cells cs.toArray T)) := by
 have hb : Below w.heap.size w (w.alloc (.cells cs.toArray T)) := (Below.refl _ _).alloc (Nat.le_refl _) _
 refine ⟨⟨⟨T, heap_alloc_new w _⟩, fun o u hu => ?_⟩, hP.below hb, hb⟩
 have := kE (hP _ _ _ hu); omega
variable {v : Value}
theorem yL (cs : List Value) {z : Value} (hz : (P.info? t).bind (·.zero) = some z) (hc : z.cells.toList = cs) (hP : Pins G w)
  (h : ∀ b w', b = w.heap.size → Bx G w' b cs → Pins G w' → Below w.heap.size w w' → K (.pointer (some ⟨b, 0, none⟩)) w') : EO P ρ ⟨d, .alloc t, ty, pos, aft, g⟩ w K := by
 obtain ⟨inf, hi, hzz⟩ := Option.bind_eq_some_iff.1 hz
 obtain ⟨h1, h2, h3⟩ := newBox (w := w) cs t hP
 have hcs : z.cells = cs.toArray := by rw [← hc]
 refine EO.run ?_ (h _ _ rfl h1 h2 h3)
 simp [execOp, Instr.alloc, zeroValue, typeInfo, hi, hzz, newVar, newRow, hcs]
theorem xX (cs : List Value) (hx : ρ x = v) (hc : v.cells.toList = cs) (hP : Pins G w)
  (h : ∀ b w', b = w.heap.size → Bx G w' b cs → Pins G w' → Below w.heap.size w w' → K (.pointer (some ⟨b, 0, none⟩)) w') : EO P ρ ⟨d, .box t x, ty, pos, aft, g⟩ w K := by
 obtain ⟨h1, h2, h3⟩ := newBox (w := w) cs t hP
 have hcs : v.cells = cs.toArray := by rw [← hc]
 refine EO.run ?_ (h _ _ rfl h1 h2 h3)
 simp [execOp, hx, Instr.box, newVar, newRow, hcs]
theorem zM {fs : Array Field} {f b o k : Nat} {fd : Field} (hk : o + fd.offset = k) (ht : P.underlying t = some (.struct fs)) (hf : fs[f]? = some fd) (hi : ((P.info? fd.type).map (·.size == 0)) = some false) (hx : ρ x = .pointer (some ⟨b, o, none⟩)) :
  (execOp ρ ⟨d, .fieldAddr t x f, ty, pos, aft, g⟩).run P w = .ok (.value (.pointer (some ⟨b, k, none⟩))) w := by
 subst hk
 obtain ⟨inf, hinf, hsz⟩ := Option.map_eq_some_iff.1 hi
 have hne : ¬ inf.size = 0 := by simpa using hsz
 simp only [execOp, hx, Instr.fieldAt, Instr.sureAddr, fieldPlace]
 simp [underlying, ht, hf, sizeOf, typeInfo, hinf, hne, Addr.add]
theorem zP {b o : Nat} {u : Value} (ha : (P.underlying t).map aggD = some false) (hx : ρ x = .pointer (some ⟨b, o, none⟩)) (hc : w.cell? ⟨b, o, none⟩ = some u) :
  (execOp ρ ⟨d, .load t x, ty, pos, aft, g⟩).run P w = .ok (.value u) w := by
 simp only [execOp, hx, Instr.loadAt, Instr.sureAddr, loadVar, Sem.run_bind, Sem.run_pure, Result.andThen_ok, jW ha]
 simp [hc]
theorem zU {b o : Nat} {cs : List Value} (ha : (P.underlying t).map aggD = some true) (hs : (P.info? t).map (·.size) = some cs.length) (hx : ρ x = .pointer (some ⟨b, o, none⟩)) (hc : ∀ j u, cs[j]? = some u → w.cell? ⟨b, o + j, none⟩ = some u) :
  (execOp ρ ⟨d, .load t x, ty, pos, aft, g⟩).run P w = .ok (.value (.agg cs.toArray)) w := by
 have hcell : ∀ j u, cs[j]? = some u → w.cell? ((⟨b, o, none⟩ : Addr).add j) = some u := fun j u hj => by
  have := hc j u hj
  simp only [Addr.add]
  split
  ·simp_all
  ·exact this
 have hr2 := run_loadCells_list (P := P) w ⟨b, o, none⟩ cs hcell
 have hlv : (loadVar t ⟨b, o, none⟩).run P w = .ok (.agg cs.toArray) w := by
  unfold loadVar
  simp only [Sem.run_bind, jW ha, Result.andThen_ok, if_true, qA hs, hr2, Sem.run_pure]
 simp only [execOp, hx, Instr.loadAt, Instr.sureAddr, Sem.run_bind, Sem.run_pure, Result.andThen_ok, hlv]
theorem yD {b o : Nat} {cs cs' us : List Value} (hs : (P.info? t).map (·.size) = some us.length) (hx : ρ x = .pointer (some ⟨b, o, none⟩)) (hy : ρ y = v) (hu : v.cells.toList = us) (h1 : ∀ u ∈ us, u.oneCell' = true)
  (hP : Pins G w) (hb : Bx G w b cs) (hl : o + us.length ≤ cs.length) (hcs : cs' = cs.take o ++ us ++ cs.drop (o + us.length))
  (h : ∀ w', Bx G w' b cs' → Pins G w' → w.grownBy w' (some b) → w'.heap.size = w.heap.size → K undef w') : EO P ρ ⟨d, .store t x y, ty, pos, aft, g⟩ w K := by
 obtain ⟨T, hT⟩ := hb.heap
 have hst := run_storeCells_at P b o T us 0 cs.toArray w hT (by simpa using hl) h1
 simp only [Nat.add_zero] at hst
 have hgrow : w.grownBy (w.setRow b (cs.take o ++ us ++ cs.drop (o + us.length)).toArray) (some b) :=
  ⟨rfl, rfl, rfl, by simp [World.setRow], fun k _ hk => setRow_other w b k _ (fun e => hk (by simp [e]))⟩
 have hsz : v.cells.size = us.length := by rw [← hu]; simp
 subst hcs
 refine EO.skip (w' := w.setRow b (cs.take o ++ us ++ cs.drop (o + us.length)).toArray) ?_ (h _ ⟨⟨T, setRow_heap w b cs.toArray _ T _ hT⟩, hb.free⟩ (hP.grown hgrow (fun k hk o' u' => by cases hk; exact hb.free o' u')) hgrow (by simp [World.setRow]))
 have hlv : (storeVar t ⟨b, o, none⟩ v).run P w = .ok () (w.setRow b (cs.take o ++ us ++ cs.drop (o + us.length)).toArray) := by
  unfold storeVar
  simp only [Sem.run_bind, qA hs, Result.andThen_ok, hsz]
  simp only [ne_eq, not_true_eq_false, if_false]
  rw [hu]
  exact hst
 simp only [execOp, hx, hy, Instr.storeAt, Instr.sureAddr, Sem.run_bind, Sem.run_pure, Result.andThen_ok, hlv]
theorem zK {f : FuncId} {fn : Func} {xs : Array Operand} {ats : Array TypeId} {vs : List Value} (hf : P.funcs[f]? = some fn) (hn : (fn.name == "runtime.NumGoroutine") = false) (hb : fn.body.isNone = false) (hargs : xs.toList.map ρ = vs) (hρ : ρ (.func f) = .func (.func f) #[] #[])
  (h : Calls P f vs.toArray w fun e w' => ∃ v, e = .returned v ∧ K v w') : EO P ρ ⟨d, .call { callee := .value (.func f), args := xs, argTypes := ats }, ty, pos, aft, g⟩ w K := by
 refine EO.call (f := f) (args := vs.toArray) (w1 := w) ?_ h
 have h1 : execOp ρ ⟨d, .call { callee := .value (.func f), args := xs, argTypes := ats }, ty, pos, aft, g⟩ = callFunc f (#[] ++ xs.map ρ ++ #[]) := by
  simp only [execOp, resolve, hρ]
  rfl
 have h2 : (#[] ++ xs.map ρ ++ #[] : Array Value) = vs.toArray := by
  rw [Array.empty_append, Array.append_empty, ← hargs, ← Array.toList_map]
 have h3 : ¬ fn.name = "runtime.NumGoroutine" := by simpa using hn
 have h4 : ¬ fn.body = none := fun h => by rw [h] at hb; cases hb
 rw [h1, h2]
 simp [callFunc, hf, h3, h4]
end
section
variable {P : Program} {Q : Exit → Act → World → Prop} {n : Nat} {env : Nat → Value} {w : World} {a : Act}
theorem c_loop {c : Code} (I : Nat → (Nat → Value) → World → Prop) (k0 : Nat) (h0 : I k0 env w)
  (round : ∀ k env w, I k env w → c.wp P (Exit.then (fun a' w' => ∃ k', k' < k ∧ ∃ env', a' = F n env' ∧ I k' env' w') Q) (F n env) w) : (Code.loop c).wp P Q (F n env) w := by
 refine wp_loop_ghost (fun k a w => ∃ env, a = F n env ∧ I k env w) k0 ⟨env, rfl, h0⟩ ?_
 rintro k a w ⟨env, rfl, hI⟩
 refine wp_mono (round k env w hI) ?_
 intro e a' w' hq
 cases e with
 | normal => obtain ⟨k', h1, h2⟩ := hq; exact ⟨k', h1, h2⟩
 | exit id => exact hq
 | goto l => exact hq
 | ret => exact hq
 | panic ch => exact hq
 | outgrown => exact hq
theorem qC {c : Operand} {x y : Code} (hok : okX n c = true) (hc : ev env c = .bool true) (h : x.wp P Q (F n env) w) : (Code.cond c x y).wp P Q (F n env) w := wp_cond_true (by rw [eval_F hok]; exact hc) h
theorem vP {c : Operand} {x y : Code} (hok : okX n c = true) (hc : ev env c = .bool false) (h : y.wp P Q (F n env) w) : (Code.cond c x y).wp P Q (F n env) w := wp_cond_false (by rw [eval_F hok]; exact hc) h
variable {u : Value}
theorem yJ {c : Operand} {x y : Code} {p : Prop} [Decidable p] (hok : okX n c = true) (hc : ev env c = .bool (decide p)) (h1 : p → x.wp P Q (F n env) w) (h2 : ¬ p → y.wp P Q (F n env) w) : (Code.cond c x y).wp P Q (F n env) w :=
 c_if hok hc (fun h => h1 (of_decide_eq_true h)) (fun h => h2 (of_decide_eq_false h))
theorem qJ {fn : Func} {R : Ending → World → Prop} {s t b : Nat} {cs : List Value} (hr : fn.results = #[.cell s t]) (hs : Nat.blt s n = true) (hv : env s = .pointer (some ⟨b, 0, none⟩)) (ha : (P.underlying t).map aggD = some true) (hz : (P.info? t).map (·.size) = some cs.length)
  (hc : ∀ j u, cs[j]? = some u → w.cell? ⟨b, 0 + j, none⟩ = some u) (h : R (.returned (.agg cs.toArray)) w) : bodyPost P fn R .ret (F n env) w := by
 have h2 : s < n := by simpa [Nat.blt_eq] using hs
 have hcell : ∀ j u, cs[j]? = some u → w.cell? ((⟨b, 0, none⟩ : Addr).add j) = some u := fun j u hj => by
  have := hc j u hj
  simp only [Addr.add]
  split
  ·simp_all
  ·exact this
 have hlv : (loadVar t ⟨b, 0, none⟩).run P w = .ok (.agg cs.toArray) w := by
  unfold loadVar
  simp only [Sem.run_bind, jW ha, Result.andThen_ok, if_true, qA hz, run_loadCells_list (P := P) w ⟨b, 0, none⟩ cs hcell, Sem.run_pure]
 refine bodyPost_ret (v := .agg cs.toArray) ?_ rfl h
 have he : (F n env).tmps[s]?.getD undef = .pointer (some ⟨b, 0, none⟩) := by simp [F, h2, hv]
 simp [results, hr, he, asAddr, hlv]
theorem yF {x : Nat} (h : env x = u) : env = upd env x u := (kV h).symm
theorem zF {x : Nat} {env' : Nat → Value} (h : env = env') (hx : env x = u) : env = upd env' x u := by subst h; exact (kV hx).symm
end
end Go.GL
namespace Go.GL
open Go Go.RowKit
section
variable {w w' : World} {v u v' : Value} {b c base : Nat}
def Apart (x y : Option Nat) : Prop := ∀ k, x = some k → y = some k → False
variable {x : Option Nat}
theorem Apart.symm {y : Option Nat} (h : Apart x y) : Apart y x := fun k a b => h k b a
theorem zI (h : x = some w.heap.size) (hl : ∀ k, v.ownBlock = some k → base ≤ k ∧ k < w.heap.size) : Apart x v.ownBlock := fun k a e => by
 rw [h] at a; cases a
 have := (hl _ e).2; omega
theorem zG (h : x = some w.heap.size) (hl : c < w.heap.size) : Apart x (some c) := fun k a e => by
 rw [h] at a; cases a
 cases e; omega
theorem zJ (h : Apart v.ownBlock u.ownBlock) (hw : v'.ownBlock = u.ownBlock ∨ ∃ k, v'.ownBlock = some k ∧ w.heap.size ≤ k) (hl : ∀ k, v.ownBlock = some k → base ≤ k ∧ k < w.heap.size) : Apart v.ownBlock v'.ownBlock := fun k a e => by
 rcases hw with h1 | ⟨i, h1, h2⟩
 ·exact h k a (h1 ▸ e)
 ·have := (hl k a).2; rw [h1] at e; cases e; omega
theorem zN (h : Apart (some c) u.ownBlock) (hw : v'.ownBlock = u.ownBlock ∨ ∃ k, v'.ownBlock = some k ∧ w.heap.size ≤ k) (hl : c < w.heap.size) : Apart (some c) v'.ownBlock := fun k a e => by
 rcases hw with h1 | ⟨i, h1, h2⟩
 ·exact h k a (h1 ▸ e)
 ·cases a; rw [h1] at e; cases e; omega
theorem zV (h : ∀ k, u.ownBlock = some k → w.heap.size ≤ k ∧ k < w'.heap.size) (hl : ∀ k, v.ownBlock = some k → base ≤ k ∧ k < w.heap.size) : Apart u.ownBlock v.ownBlock := fun k a e => by
 have h1 := (h k a).1; have h2 := (hl k e).2; omega
theorem zX (h : ∀ k, u.ownBlock = some k → w.heap.size ≤ k ∧ k < w'.heap.size) (hl : c < w.heap.size) : Apart u.ownBlock (some c) := fun k a e => by
 have h1 := (h k a).1; cases e; omega
theorem Own.keptA {α : Type} {E : Elt α} {e : Nat} {G : Pin} {xs : List α} {row : Option Nat} (h : Own E e G w base v xs) (hg : w.grownBy w' row) (ha : Apart v.ownBlock row) : Own E e G w' base v xs :=
 h.kept hg (by
  cases hv : v.ownBlock with
  | none => exact Or.inl rfl
  | some k => exact Or.inr fun e => ha k hv e.symm)
theorem Bx.keptA {G : Pin} {cs : List Value} {row : Option Nat} (h : Bx G w b cs) (hg : w.grownBy w' row) (ha : Apart (some b) row) : Bx G w' b cs :=
 h.kept hg fun e => ha b rfl e.symm
theorem Own.moreA {α : Type} {E : Elt α} {e : Nat} {G G' : Pin} {xs : List α} {b : Nat} (h : Own E e G w base v xs) (hl : Pin.le G G') (hf : ∀ k o u, G' k o u → G k o u ∨ k = b) (ha : Apart v.ownBlock (some b)) : Own E e G' w base v xs :=
 h.mono hl fun k hk o u hu => by
  rcases hf k o u hu with h1 | h1
  ·exact h.free k hk o u h1
  ·subst h1; exact ha k hk rfl
theorem Bx.moreA {G G' : Pin} {cs : List Value} (h : Bx G w b cs) (hf : ∀ k o u, G' k o u → G k o u ∨ k = c) (ha : Apart (some b) (some c)) : Bx G' w b cs :=
 h.more hf fun e => ha b rfl (by rw [e])
end
section
variable {α : Type} {E : Elt α} {e : Nat} {G G' : Pin} {w : World} {base : Nat} {v u : Value} {xs : List α} {b : Nat} {cs : List Value}
theorem RSl.one (h : RSl E G v xs) : v.oneCell' = true := by obtain ⟨a, c, rfl, _⟩ := h.sl; rfl
theorem Own.one (h : Own E e G w base v xs) : v.oneCell' = true := h.read.one
theorem Own.sealed {S : Nat → Prop} {w0 : World} {G0 : Pin} (h : Own E e G w w0.heap.size v xs) (hx : Ext S G0 w0 G w) :
  ∃ G', Pin.le G G' ∧ Ext S G0 w0 G' w ∧ RSl E G' v xs ∧ (∀ k o u, G' k o u → G k o u ∨ v.ownBlock = some k) :=
 ⟨Gadd G w v, Gadd.le _ _ _, (h.shut hx).2, (h.shut hx).1, fun k o u hu => by
  rcases hu with hu | hu
  ·exact Or.inl hu
  ·exact Or.inr hu.1⟩
theorem Own.moreO (h : Own E e G w base u xs) (hl : Pin.le G G') (hf : ∀ k o x, G' k o x → G k o x ∨ v.ownBlock = some k) (hne : Apart u.ownBlock v.ownBlock) : Own E e G' w base u xs :=
 h.mono hl fun k hk o x hu => by
  rcases hf k o x hu with h1 | h1
  ·exact h.free k hk o x h1
  ·exact hne k hk h1
theorem Bx.moreO (h : Bx G w b cs) (hf : ∀ k o x, G' k o x → G k o x ∨ v.ownBlock = some k) (hne : Apart (some b) v.ownBlock) : Bx G' w b cs :=
 ⟨h.heap, fun o x hu => by
  rcases hf b o x hu with h1 | h1
  ·exact h.free o x h1
  ·exact hne b rfl h1⟩
def BxR (w : World) (b : Nat) (cs : List Value) : Prop := ∀ o u, cs[o]? = some u → w.cell? ⟨b, o, none⟩ = some u
theorem Bx.reads (h : Bx G w b cs) : BxR w b cs := fun _ _ hu => h.cell hu
theorem yX (E : Elt α) (G : Pin) : RSl E G (.slice none 0 0) [] := ⟨⟨none, 0, rfl, Nat.le_refl _, Nat.zero_le _⟩, fun i x hx => by simp at hx⟩
end
theorem yE {a : Value} (ha : a.oneCell' = true) : ∀ u ∈ [a], u.oneCell' = true := fun u hu => by simp at hu; subst hu; exact ha
theorem rV {a b : Value} (ha : a.oneCell' = true) (hb : b.oneCell' = true) : ∀ u ∈ [a, b], u.oneCell' = true := fun u hu => by
 simp at hu; rcases hu with rfl | rfl <;> assumption
theorem jB {a b c d : Value} (ha : a.oneCell' = true) (hb : b.oneCell' = true) (hc : c.oneCell' = true) (hd : d.oneCell' = true) : ∀ u ∈ [a, b, c, d], u.oneCell' = true := fun u hu => by
 simp at hu; rcases hu with rfl | rfl | rfl | rfl <;> assumption
def RepsF {α : Type} (E : Elt α) (G : Pin) (vs : List Value) (ys : List α) : Prop := ∀ (i : Nat) (y : α), ys[i]? = some y → ∃ v, vs[i]? = some v ∧ E.rep G [v] y
section
variable {α : Type} {E : Elt α} {G : Pin} {v1 v2 v3 v4 : Value} {y1 y2 y3 y4 : α}
theorem qQ (h1 : E.rep G [v1] y1) : RepsF E G [v1] [y1] := fun i y hy => by
 match i, hy with
 | 0, hy => simp at hy; subst hy; exact ⟨_, rfl, h1⟩
theorem reps2 (h1 : E.rep G [v1] y1) (h2 : E.rep G [v2] y2) : RepsF E G [v1, v2] [y1, y2] := fun i y hy => by
 match i, hy with
 | 0, hy => simp at hy; subst hy; exact ⟨_, rfl, h1⟩
 | 1, hy => simp at hy; subst hy; exact ⟨_, rfl, h2⟩
theorem reps4 (h1 : E.rep G [v1] y1) (h2 : E.rep G [v2] y2) (h3 : E.rep G [v3] y3) (h4 : E.rep G [v4] y4) : RepsF E G [v1, v2, v3, v4] [y1, y2, y3, y4] := fun i y hy => by
 match i, hy with
 | 0, hy => simp at hy; subst hy; exact ⟨_, rfl, h1⟩
 | 1, hy => simp at hy; subst hy; exact ⟨_, rfl, h2⟩
 | 2, hy => simp at hy; subst hy; exact ⟨_, rfl, h3⟩
 | 3, hy => simp at hy; subst hy; exact ⟨_, rfl, h4⟩
end
section
variable {P : Program} {ρ : Operand → Value} {w : World} {K : Value → World → Prop} {d : Option Nat} {t ty e : Nat} {pos : String} {aft : Array Edge} {g : Option (Nat × Bool)}
 {α : Type} {E : Elt α} {G : Pin}
theorem xF (ht : P.underlying t = some (.slice e)) (hs : (P.info? e).map (·.size) = some E.size) (hP : Pins G w)
  (h : ∀ v w', Own E e G w' w.heap.size v ([] : List α) → Pins G w' → Below w.heap.size w w' → v.ownBlock = some w.heap.size → K v w') : EO P ρ ⟨d, .buildSlice t 0 #[], ty, pos, aft, g⟩ w K := by
 obtain ⟨inf, hinf, hsz⟩ := Option.map_eq_some_iff.1 hs
 have hrun : (Instr.buildSlice t 0 ((#[] : Array (Nat × Operand)).map fun (i, x) => (i, ρ x))).run P w = .ok (.slice (some ⟨w.heap.size, 0, none⟩) 0 0) (w.alloc (.cells ([] : List Value).toArray e)) := by
  simp [Instr.buildSlice, run_underlying ht, sizeOf, typeInfo, hinf, Instr.fill, newRow]
  have : Array.range 0 = #[] := by decide
  simp [this]
 obtain ⟨v, w', h1, h2, h3, h4, h5⟩ := run_build (E := E) (d := d) (ty := ty) (pos := pos) (aft := aft) (g := g) 0 #[] [] ([] : List α) hrun hP rfl (by omega) (by simp) (fun i y hy => by simp at hy)
 exact EO.run h1 (h v w' h2 h3 h4 h5)
theorem yW {v : Value} (h : v.oneCell' = true) : v.cells = #[v] := by cases v <;> first | rfl | cases h
variable {z : Value}
theorem xI {n : Nat} {parts : Array (Nat × Operand)} (vs : List Value) (ys : List α) (ht : P.underlying t = some (.slice e)) (hs : (P.info? e).map (·.size) = some 1) (hz : (P.info? e).bind (·.zero) = some z)
  (hr : RepsF E G vs ys) (hone : ∀ u ∈ vs, u.oneCell' = true) (hn : n = vs.length) (hn2 : n = ys.length) (hE : E.size = 1)
  (hpt' : (parts.toList.map fun (i, x) => (i, ρ x)) = (vs.zipIdx 0).map fun x => (x.2, x.1)) (hpos : 0 < n ∧ n ≤ 1000000) (hP : Pins G w)
  (h : ∀ v w', Own E e G w' w.heap.size v ys → Pins G w' → Below w.heap.size w w' → v.ownBlock = some w.heap.size → K v w') : EO P ρ ⟨d, .buildSlice t n parts, ty, pos, aft, g⟩ w K := by
 have hpt := (Array.toList_map ..).trans hpt'
 obtain ⟨inf, hinf, hsz⟩ := Option.map_eq_some_iff.1 hs
 have hzz : inf.zero = some z := by simpa [hinf] using hz
 have hrun := run_buildSlice (P := P) w t e n (parts.map fun (i, x) => (i, ρ x)) vs.toArray inf z ht hinf hzz (by rw [hsz]; omega) (by rw [hsz]; omega)
  (by rw [hpt, hsz]; exact Great.fill_flat _ _ (fun v hv => yW (hone v hv)) (by simp [hn]))
 obtain ⟨v, w', h1, h2, h3, h4, h5⟩ := run_build (E := E) (d := d) (ty := ty) (pos := pos) (aft := aft) (g := g) n parts vs ys hrun hP hn2 (by omega) (by rw [hE]; omega) (fun i y hy => by
  obtain ⟨v, hv, hrep⟩ := hr i y hy
  have : (vs.drop (i * E.size)).take E.size = [v] := by
   rw [hE, Nat.mul_one]
   apply List.ext_getElem?
   intro j
   rw [List.getElem?_take, List.getElem?_drop]
   match j with
   | 0 => simpa using hv
   | j + 1 => simp
  rw [this]; exact hrep)
 exact EO.run h1 (h v w' h2 h3 h4 h5)
theorem xM {x : Operand} (cells : List Value) (y : α) (ht : P.underlying t = some (.slice e)) (hs : (P.info? e).map (·.size) = some E.size) (hz : (P.info? e).bind (·.zero) = some z)
  (hr : E.rep G cells y) (hx : ρ x = .agg cells.toArray) (hpos : 0 < E.size ∧ E.size ≤ 1000) (hP : Pins G w)
  (h : ∀ v w', Own E e G w' w.heap.size v [y] → Pins G w' → Below w.heap.size w w' → v.ownBlock = some w.heap.size → K v w') : EO P ρ ⟨d, .buildSlice t 1 #[(0, x)], ty, pos, aft, g⟩ w K := by
 obtain ⟨inf, hinf, hsz⟩ := Option.map_eq_some_iff.1 hs
 have hzz : inf.zero = some z := by simpa [hinf] using hz
 have hcl := E.len hr
 have hrun := run_buildSlice (P := P) w t e 1 ((#[(0, x)] : Array (Nat × Operand)).map fun (i, x) => (i, ρ x)) cells.toArray inf z ht hinf hzz (by rw [hsz]; omega) (by rw [hsz]; omega) (by
  have hw := Great.fill_whole (s := inf.size) (by rw [hsz]; exact hpos.1) [Value.agg cells.toArray] ((Array.range (1 * inf.size)).map (z.cells[· % z.cells.size]!)) (by intro v hv; simp at hv; subst hv; simp [Value.cells, hcl, hsz]) (by simp)
  have he : ((#[(0, x)] : Array (Nat × Operand)).map fun (i, x) => (i, ρ x)).toList = (([Value.agg cells.toArray]).zipIdx 0).map fun x => (x.2, x.1) := by simp [hx]
  rw [he, hw]
  simp [Value.cells])
 obtain ⟨v, w', h1, h2, h3, h4, h5⟩ := run_build (E := E) (d := d) (ty := ty) (pos := pos) (aft := aft) (g := g) 1 #[(0, x)] cells [y] hrun hP rfl (by omega) (by omega) (fun i q hq => by
  match i, hq with
  | 0, hq => simp at hq; subst hq; simp only [Nat.zero_mul, List.drop_zero]; rw [← hcl, List.take_length]; exact hr)
 exact EO.run h1 (h v w' h2 h3 h4 h5)
end
section
variable {P : Program} {ops : Array Oper} {Q : Exit → Act → World → Prop} {n : Nat} {env : Nat → Value} {w : World} {l : List Oper} {t : Nat}
variable {p : Prop}
theorem qbd [Decidable p] (he : env t = .bool (decide p)) (h1 : p → WL P ops Q l (F n (upd env t (.bool true))) w) (h2 : ¬ p → WL P ops Q l (F n (upd env t (.bool false))) w) : WL P ops Q l (F n env) w :=
 qb he (fun h => h1 (of_decide_eq_true h)) (fun h => h2 (of_decide_eq_false h))
theorem qbn {b : Bool} (he : env t = .bool (!b)) (h1 : b = true → WL P ops Q l (F n (upd env t (.bool false))) w) (h2 : b = false → WL P ops Q l (F n (upd env t (.bool true))) w) : WL P ops Q l (F n env) w :=
 qb he (fun h => h2 (by simpa using h)) (fun h => h1 (by simpa using h))
variable {S : World → Prop} {last fuel : Nat} {listed : Array Bool}
theorem drb {b : Bool} (he : env t = .bool b) (h1 : b = true → DR P ops Q S last fuel listed (F n (upd env t (.bool true))) w) (h2 : b = false → DR P ops Q S last fuel listed (F n (upd env t (.bool false))) w) : DR P ops Q S last fuel listed (F n env) w := by
 cases b
 ·have := h2 rfl; rwa [kV he] at this
 ·have := h1 rfl; rwa [kV he] at this
theorem drbd [Decidable p] (he : env t = .bool (decide p)) (h1 : p → DR P ops Q S last fuel listed (F n (upd env t (.bool true))) w) (h2 : ¬ p → DR P ops Q S last fuel listed (F n (upd env t (.bool false))) w) : DR P ops Q S last fuel listed (F n env) w :=
 drb he (fun h => h1 (of_decide_eq_true h)) (fun h => h2 (of_decide_eq_false h))
theorem drbn {b : Bool} (he : env t = .bool (!b)) (h1 : b = true → DR P ops Q S last fuel listed (F n (upd env t (.bool false))) w) (h2 : b = false → DR P ops Q S last fuel listed (F n (upd env t (.bool true))) w) : DR P ops Q S last fuel listed (F n env) w :=
 drb he (fun h => h2 (by simpa using h)) (fun h => h1 (by simpa using h))
theorem xV {c : Operand} {x y : Code} {b : Bool} (hok : okX n c = true) (hc : ev env c = .bool (!b)) (h1 : b = true → y.wp P Q (F n env) w) (h2 : b = false → x.wp P Q (F n env) w) : (Code.cond c x y).wp P Q (F n env) w :=
 c_if hok hc (fun h => h2 (by simpa using h)) (fun h => h1 (by simpa using h))
end
end Go.GL
namespace Go.GL
open Go Go.RowKit
abbrev CI := Sum Code (Sum Nat ((Nat → (Nat → Value) → World → Prop) × Nat × Nat))
def CQ (P : Program) (Q : Exit → Act → World → Prop) : List CI → Exit → Act → World → Prop
 | [] => Q
 | .inl y :: c => Exit.then (y.wp P (CQ P Q c)) (CQ P Q c)
 | .inr (.inl id) :: c => Exit.inBlock id (CQ P Q c)
 | .inr (.inr (I, n, k)) :: c => Exit.then (fun a' w' => ∃ k', k' < k ∧ ∃ env', a' = F n env' ∧ I k' env' w') (CQ P Q c)
section
variable {P : Program} {Q : Exit → Act → World → Prop} {c : List CI} {a : Act} {n : Nat} {env : Nat → Value} {w : World}
variable {x y : Code} {id k : Nat} {I : Nat → (Nat → Value) → World → Prop}
theorem yM {f : FuncId} {fn : Func} {b : Code} {l : List Value} {R : Ending → World → Prop} (hf : P.funcs[f]? = some fn) (hn : fn.ntmps = n) (hl : Nat.ble l.length n = true) (hb : fn.body = some b)
  (h : b.wp P (CQ P (bodyPost P fn R) []) (F n (envOf l)) w) : Calls P f l.toArray w R := enter hf hn hl hb h
theorem zD (h : x.wp P (CQ P Q (.inl y :: c)) a w) : (Code.seq x y).wp P (CQ P Q c) a w := wp_seq h
theorem yI (h : x.wp P (CQ P Q (.inr (.inl id) :: c)) a w) : (Code.block id x).wp P (CQ P Q c) a w := wp_block h
theorem yZ {b : Code} (I : Nat → (Nat → Value) → World → Prop) (k0 : Nat) (h0 : I k0 env w)
  (round : ∀ k env w, I k env w → b.wp P (CQ P Q (.inr (.inr (I, n, k)) :: c)) (F n env) w) : (Code.loop b).wp P (CQ P Q c) (F n env) w := c_loop I k0 h0 round
theorem zA (h : y.wp P (CQ P Q c) a w) : CQ P Q (.inl y :: c) .normal a w := h
theorem yK (h : CQ P Q c (.exit id) a w) : CQ P Q (.inl y :: c) (.exit id) a w := h
theorem yO (h : CQ P Q c .normal a w) : CQ P Q (.inr (.inl id) :: c) .normal a w := h
theorem yV (h : CQ P Q c .normal a w) : CQ P Q (.inr (.inl id) :: c) (.exit id) a w := c_blkE h
theorem yR (h : ∃ k', k' < k ∧ ∃ env', F n env = F n env' ∧ I k' env' w) : CQ P Q (.inr (.inr (I, n, k)) :: c) .normal (F n env) w := h
theorem yU {m : Nat} (h : CQ P Q c (.exit id) a w) : CQ P Q (.inr (.inr (I, m, k)) :: c) (.exit id) a w := h
def CutE (M : (Nat → Value) → World → Prop) (n id : Nat) : Exit → Act → World → Prop := fun x a w => x = .exit id ∧ ∃ env, a = F n env ∧ M env w
theorem c_cutE (M : (Nat → Value) → World → Prop) (id : Nat) (h : ∀ en w, M en w → CQ P Q c (.exit id) (F n en) w) (hr : x.wp P (CQ P (CutE M n id) []) (F n env) w) : x.wp P (CQ P Q c) (F n env) w :=
 wp_mono hr fun x a w hc => by
  obtain ⟨rfl, en, rfl, hm⟩ := hc
  exact h en w hm
theorem gK {M : (Nat → Value) → World → Prop} (h : M env w) : CQ P (CutE M n id) [] (.exit id) (F n env) w := ⟨rfl, env, rfl, h⟩
theorem zQ (h : Q .ret a w) : CQ P Q c .ret a w := by
 induction c with
 | nil => exact h
 | cons x c ih =>
  rcases x with y | id | ⟨I, m, k⟩
  ·exact ih
  ·exact ih
  ·exact ih
end
end Go.GL
namespace Go.GL
open Go Go.RowKit
theorem add_add (a : Addr) (m n : Nat) : (a.add m).add n = a.add (m + n) := by
 unfold Addr.add
 split <;> split <;> split <;> first | omega | (simp_all; done) | (subst_vars; simp_all <;> omega) | (simp <;> omega)
theorem eP {α : Type} {E : Elt α} {G : Pin} {a : Option Addr} {n c : Nat} {xs : List α} (hv : RSl E G (.slice a n c) xs) (l h : Nat) (hl : l ≤ h) (hh : h ≤ xs.length) :
  RSl E G (sliced a l h c E.size) ((xs.take h).drop l) := by
 obtain ⟨a', c', he, h1, h2⟩ := hv.sl
 simp only [Value.slice.injEq] at he
 obtain ⟨rfl, rfl, rfl⟩ := he
 have hlen : ((xs.take h).drop l).length = h - l := by simp [Nat.min_eq_left hh]
 refine ⟨⟨_, c - l, by rw [hlen]; rfl, by omega, by omega⟩, fun i x hx => ?_⟩
 have hi : i < h - l := by
  rw [← hlen]; exact (List.getElem?_eq_some_iff.1 hx).1
 rw [List.getElem?_drop, List.getElem?_take, if_pos (by omega)] at hx
 obtain ⟨a1, b, o, n1, c1, cs, hv1, hk, hr, hg⟩ := hv.at_ (l + i) x hx
 simp only [Value.slice.injEq] at hv1
 obtain ⟨rfl, _, _⟩ := hv1
 refine ⟨a1.add (l * E.size), b, o, h - l, c - l, cs, ?_, fun k => ?_, hr, hg⟩
 ·unfold sliced; rw [if_neg (by omega)]; rfl
 ·rw [← hk k, add_add, Nat.add_mul, Nat.add_assoc]
section
variable {α : Type} {E : Elt α} {G : Pin} {v : Value} {xs : List α}
def RunsSlice (v u : Value) (size : Nat) (lo hi : Option Int) : Prop :=
 ∀ {P : Program} {w : World} {d : Option Nat} {t e ty : Nat} {pos : String} {aft : Array Edge} {g : Option (Nat × Bool)} {x : Operand} {l h : Option Operand} {ρ : Operand → Value}
  (_ : P.underlying t = some (.slice e)) (_ : (P.info? e).map (·.size) = some size) (_ : ρ x = v) (_ : l.map ρ = lo.map (Value.int .i64)) (_ : h.map ρ = hi.map (Value.int .i64)),
  (execOp ρ ⟨d, .slice t x l h none, ty, pos, aft, g⟩).run P w = .ok (.value u) w
theorem elem_of {P : Program} {t e : Nat} (ht : P.underlying t = some (.slice e)) : P.elem t = e := by unfold Program.elem; rw [ht]
theorem qR (hv : RSl E G v xs) {lo hi : Option Int} (l h : Nat) (hlo : lo = none ∧ l = 0 ∨ ∃ z, lo = some z ∧ 0 ≤ z ∧ z.toNat = l) (hhi : hi = none ∧ h = xs.length ∨ ∃ z, hi = some z ∧ 0 ≤ z ∧ z.toNat = h) (hl : l ≤ h) (hh : h ≤ xs.length) :
  ∃ u, RSl E G u ((xs.take h).drop l) ∧ RunsSlice v u E.size lo hi := by
 obtain ⟨a, c, rfl, h1, h2⟩ := hv.sl
 refine ⟨_, eP hv l h hl hh, ?_⟩
 intro P w d t e ty pos aft g x lx hx ρ ht hs hρ hlx hhx
 have he := elem_of ht
 have ht' : P.underlying t = some (.slice (P.elem t)) := by rw [he]; exact ht
 have hsz : ∀ w : World, (sizeOf (P.elem t)).run P w = .ok E.size w := fun w => by rw [he]; exact qA hs w
 have key : (Instr.slice t (.slice a xs.length c) (lo.map (Value.int .i64)) (hi.map (Value.int .i64)) none).run P w = .ok (sliced a l h c E.size) w := by
  rcases hlo with ⟨rfl, rfl⟩ | ⟨z, rfl, hz0, rfl⟩ <;> rcases hhi with ⟨rfl, rfl⟩ | ⟨y, rfl, hy0, rfl⟩
  ·exact (run_slice_all w t a xs.length c ht').trans (by rw [hsz]; rfl)
  ·exact (run_slice_h w t a xs.length c ht' .i64 y hy0 (by omega)).trans (by rw [hsz]; rfl)
  ·exact (run_slice_l w t a xs.length c ht' .i64 z hz0 (by omega)).trans (by rw [hsz]; rfl)
  ·exact (run_slice_lh w t a xs.length c ht' .i64 .i64 z y hz0 (by omega) (by omega)).trans (by rw [hsz]; rfl)
 simp [execOp, hρ, hlx, hhx, run_sliceAt_slice w t _ _ _ _ ht', key]
end
theorem Pins.ext0 {Gr G G' : Pin} {w w' : World} (h : Pins Gr w) (hx : Ext noS G w G' w') : Pins Gr w' := h.below hx.below
section
variable {α : Type} {E : Elt α} {e : Nat} {G : Pin} {w : World} {base : Nat} {v : Value} {xs : List α} {z : Int}
def At (E : Elt α) (Gr G : Pin) (v : Value) (xs : List α) (z : Int) : Prop :=
 ∃ b o cs x, xs[z.toNat]? = some x ∧ E.rep G cs x ∧ (∀ k, eptr v z E.size k = .pointer (some ⟨b, o + k, none⟩)) ∧ (∀ j u, cs[j]? = some u → Gr b (o + j) u)
theorem RSl.at (h : RSl E G v xs) (h0 : 0 ≤ z) (h1 : z < xs.length) : At E G G v xs z := h.cells h0 h1
theorem Own.at (h : Own E e G w base v xs) (h0 : 0 ≤ z) (h1 : z < xs.length) : At E (Gadd G w v) G v xs z := by
 obtain ⟨cells, ⟨hl, hown⟩, hr⟩ := h.ex
 have hz : z.toNat < xs.length := by omega
 rcases hown with ⟨rfl, h0⟩ | ⟨g, cap, cur, rfl, _, hg, hnc, hcm, hcs, htake⟩
 ·omega
 ·refine ⟨g, z.toNat * E.size, (cells.drop (z.toNat * E.size)).take E.size, _, List.getElem?_eq_getElem hz, hr _ _ (List.getElem?_eq_getElem hz), fun k => ?_, fun j u hu => Or.inr ⟨rfl, ?_⟩⟩
  ·simp only [eptr, Addr.add]; split <;> simp_all
  ·rw [List.getElem?_take] at hu
   split at hu
   ·rw [List.getElem?_drop] at hu
    rw [cell_of_row w g _ cur e (0, 0) hg]
    rw [← htake, List.getElem?_take] at hu
    split at hu
    ·simpa using hu
    ·cases hu
   ·cases hu
end
section
variable {Gr G : Pin} {v : Value} {z : Int}
variable {j : Nat}
theorem mS {xs : List Nd} (hv : At eNode Gr G v xs z) (hj : z.toNat = j) :
  ∃ l r, RSl eInt G l (xs.getD j default).l ∧ RSl eInt G r (xs.getD j default).r ∧
   ∀ {P : Program} {w : World} {d : Option Nat} {t ty : Nat} {pos : String} {aft : Array Edge} {g : Option (Nat × Bool)} {x : Operand} {ρ : Operand → Value} (_ : (P.underlying t).map aggD = some true) (_ : (P.info? t).map (·.size) = some 2)
    (_ : ρ x = eptr v z 2 0) (_ : Pins Gr w), (execOp ρ ⟨d, .load t x, ty, pos, aft, g⟩).run P w = .ok (.value (.agg [l, r].toArray)) w := by
 obtain ⟨b, o, cs, e, he, hr, hp, hc⟩ := hv
 rw [hj] at he
 obtain ⟨l, r, hcs, hl, hrr⟩ := hr
 have hx : xs.getD j default = e := by rw [List.getD, he]; rfl
 refine ⟨l, r, by rw [hx]; exact hl, by rw [hx]; exact hrr, ?_⟩
 intro P w d t ty pos aft g x ρ ha hs hρ hP
 have hpp := hp 0
 simp only [eNode] at hpp
 refine zU (cs := [l, r]) (b := b) (o := o) ha hs (hρ.trans hpp) fun i u hi => ?_
 exact hP _ _ _ (hc i u (by rw [hcs]; exact hi))
theorem vO {xs : List Nd} (hv : At eNode Gr G v xs z) (hj : z.toNat = j) :
  ∃ l, RSl eInt G l (xs.getD j default).l ∧
   ∀ {P : Program} {w : World} {d : Option Nat} {t ty : Nat} {pos : String} {aft : Array Edge} {g : Option (Nat × Bool)} {x : Operand} {ρ : Operand → Value} (_ : (P.underlying t).map aggD = some false)
    (_ : ρ x = eptr v z 2 0) (_ : Pins Gr w), (execOp ρ ⟨d, .load t x, ty, pos, aft, g⟩).run P w = .ok (.value l) w := by
 obtain ⟨b, o, cs, e, he, hr, hp, hc⟩ := hv
 rw [hj] at he
 obtain ⟨l, r, hcs, hl, hrr⟩ := hr
 have hx : xs.getD j default = e := by rw [List.getD, he]; rfl
 refine ⟨l, by rw [hx]; exact hl, ?_⟩
 intro P w d t ty pos aft g x ρ ha hρ hP
 have hpp := hp 0
 simp only [eNode] at hpp
 exact zP (b := b) (o := o) ha (hρ.trans hpp) (hP _ _ _ (hc 0 l (by rw [hcs]; rfl)))
theorem vH {xs : List Nd} (hv : At eNode Gr G v xs z) (hj : z.toNat = j) :
  ∃ r, RSl eInt G r (xs.getD j default).r ∧
   ∀ {P : Program} {w : World} {d : Option Nat} {t ty : Nat} {pos : String} {aft : Array Edge} {g : Option (Nat × Bool)} {x : Operand} {ρ : Operand → Value} (_ : (P.underlying t).map aggD = some false)
    (_ : ρ x = eptr v z 2 1) (_ : Pins Gr w), (execOp ρ ⟨d, .load t x, ty, pos, aft, g⟩).run P w = .ok (.value r) w := by
 obtain ⟨b, o, cs, e, he, hr, hp, hc⟩ := hv
 rw [hj] at he
 obtain ⟨l, r, hcs, hl, hrr⟩ := hr
 have hx : xs.getD j default = e := by rw [List.getD, he]; rfl
 refine ⟨r, by rw [hx]; exact hrr, ?_⟩
 intro P w d t ty pos aft g x ρ ha hρ hP
 have hpp := hp 1
 simp only [eNode] at hpp
 exact zP (b := b) (o := o + 1) ha (hρ.trans hpp) (hP _ _ _ (hc 1 r (by rw [hcs]; rfl)))
theorem nm_form {β : Type} {F : Elt β} {xs : List (List β)} (hv : At (eSl F) Gr G v xs z) (hj : z.toNat = j) :
  ∃ u, RSl F G u (xs.getD j []) ∧
   ∀ {P : Program} {w : World} {d : Option Nat} {t ty : Nat} {pos : String} {aft : Array Edge} {g : Option (Nat × Bool)} {x : Operand} {ρ : Operand → Value} (_ : (P.underlying t).map aggD = some true) (_ : (P.info? t).map (·.size) = some 1)
    (_ : ρ x = eptr v z 1 0) (_ : Pins Gr w), (execOp ρ ⟨d, .load t x, ty, pos, aft, g⟩).run P w = .ok (.value (.agg [u].toArray)) w := by
 obtain ⟨b, o, cs, e, he, hr, hp, hc⟩ := hv
 rw [hj] at he
 obtain ⟨u, hcs, hu⟩ := hr
 have hx : xs.getD j [] = e := by rw [List.getD, he]; rfl
 refine ⟨u, by rw [hx]; exact hu, ?_⟩
 intro P w d t ty pos aft g x ρ ha hs hρ hP
 have hpp := hp 0
 simp only [eSl] at hpp
 refine zU (cs := [u]) (b := b) (o := o) ha hs (hρ.trans hpp) fun i q hi => ?_
 exact hP _ _ _ (hc i q (by rw [hcs]; exact hi))
end
theorem Own.nil {α : Type} (E : Elt α) (e : Nat) (G : Pin) (w : World) (base : Nat) : Own E e G w base (.slice none 0 0) ([] : List α) :=
 ⟨⟨[], ⟨by simp, Or.inl ⟨rfl, rfl⟩⟩, fun i x hx => by simp at hx⟩, fun k hk => by cases hk⟩
def Lo (w0 : World) (S : Nat → Prop) (x : Option Nat) : Prop := ∀ k, x = some k → w0.heap.size ≤ k ∨ S k
theorem kQ (w0 : World) (S : Nat → Prop) : Lo w0 S none := fun k hk => by cases hk
theorem lo_app {w0 w : World} {S : Nat → Prop} {v u : Value} (h : Lo w0 S u.ownBlock) (hw : v.ownBlock = u.ownBlock ∨ ∃ k, v.ownBlock = some k ∧ w.heap.size ≤ k) (hs : w0.heap.size ≤ w.heap.size) : Lo w0 S v.ownBlock := fun k hk => by
 rcases hw with h1 | ⟨k', h1, h2⟩
 ·exact h k (h1 ▸ hk)
 ·rw [h1] at hk; cases hk; exact Or.inl (Nat.le_trans hs h2)
theorem apart_none {x : Option Nat} : Apart none x := fun k hk => by cases hk
structure Bk (e1 e2 : Nat) (G : Pin) (w : World) (b : Nat) (u v : Value) (ns : List Nd) (bs : List Int) : Prop where
 bx : Bx G w b [u, v]
 ou : Own eNode e1 G w 0 u ns
 ov : Own eInt e2 G w 0 v bs
 abu : Apart (some b) u.ownBlock
 abv : Apart (some b) v.ownBlock
 auv : Apart u.ownBlock v.ownBlock
def inS (b : Nat) (u v : Value) (k : Nat) : Prop := k = b ∨ u.ownBlock = some k ∨ v.ownBlock = some k
section
variable {w0 w : World} {S : Nat → Prop} {b : Nat} {u v : Value} {x y : Option Nat}
theorem kU (hb : Lo w0 S (some b)) (hu : Lo w0 S u.ownBlock) (hv : Lo w0 S v.ownBlock) : ∀ i, inS b u v i → w0.heap.size ≤ i ∨ S i := fun i hi => by
 rcases hi with rfl | h | h
 ·exact hb _ rfl
 ·exact hu _ h
 ·exact hv _ h
theorem xZ (h : Lo w (inS b u v) x) (hS : ∀ i, inS b u v i → w0.heap.size ≤ i ∨ S i) (hs : w0.heap.size ≤ w.heap.size) : Lo w0 S x := fun k hk => by
 rcases h k hk with h1 | h1
 ·exact Or.inl (Nat.le_trans hs h1)
 ·exact hS k h1
theorem notS (hb : Apart x (some b)) (hu : Apart x u.ownBlock) (hv : Apart x v.ownBlock) : ∀ k, x = some k → ¬ inS b u v k := fun k hk hi => by
 rcases hi with rfl | h | h
 ·exact hb _ hk rfl
 ·exact hu _ hk h
 ·exact hv _ hk h
theorem notSb {c : Nat} (h : ∀ k, some c = some k → ¬ inS b u v k) : ¬ inS b u v c := h c rfl
theorem jA (h : Lo w (inS b u v) x) (hn : ∀ k, y = some k → ¬ inS b u v k) (hl : ∀ k, y = some k → k < w.heap.size) : Apart y x := fun k hy hx => by
 rcases h k hx with h1 | h1
 ·have := hl k hy; omega
 ·exact hn k hy h1
theorem lo_b : Lo w (inS b u v) (some b) := fun k hk => by cases hk; exact Or.inr (Or.inl rfl)
theorem lo_u : Lo w (inS b u v) u.ownBlock := fun _ hk => Or.inr (Or.inr (Or.inl hk))
theorem lo_v : Lo w (inS b u v) v.ownBlock := fun _ hk => Or.inr (Or.inr (Or.inr hk))
theorem yQ {α : Type} {E : Elt α} {e : Nat} {G : Pin} {xs : List α} (h : Own E e G w w0.heap.size v xs) : Lo w0 S v.ownBlock := fun k hk => Or.inl (h.lt k hk).1
theorem zS (h : w0.heap.size ≤ b) : Lo w0 S (some b) := fun k hk => by cases hk; exact Or.inl h
theorem kT {α : Type} {E : Elt α} {e base : Nat} {G : Pin} {xs : List α} (h : Own E e G w base v xs) : ∀ k, v.ownBlock = some k → k < w.heap.size := fun k hk => (h.lt k hk).2
theorem box_lt {G : Pin} {cs : List Value} (h : Bx G w b cs) : ∀ k, some b = some k → k < w.heap.size := fun k hk => by cases hk; exact h.lt
end
theorem vL {v : Value} (h : v.oneCell' = true) : v.cells.toList = [v] := by rw [yW h]
def setCells (off : Nat) (cs cells : List Value) : List Value := (cs.zipIdx 0).foldl (fun a x => a.set (off + x.2) x.1) cells
def fillL (place : Nat → Option (Nat × Nat)) (cells : List Value) : List (Nat × List Value) → Option (List Value)
 | [] => some cells
 | (i, cs) :: rest => match place i with
  | none => none
  | some (off, size) => if cs.length = size ∧ off + cs.length ≤ cells.length then fillL place (setCells off cs cells) rest else none
theorem eQ (off : Nat) (cs cells : List Value) : cs.toArray.zipIdx.foldl (fun (a : Array Value) (x : Value × Nat) => a.setIfInBounds (off + x.2) x.1) cells.toArray = (setCells off cs cells).toArray := by
 have key : ∀ (l : List (Value × Nat)) (cells : List Value), l.foldl (fun (a : Array Value) (x : Value × Nat) => a.setIfInBounds (off + x.2) x.1) cells.toArray = (l.foldl (fun a x => a.set (off + x.2) x.1) cells).toArray := by
  intro l
  induction l with
  | nil => intro cells; rfl
  | cons x r ih => intro cells; simp only [List.foldl_cons, List.setIfInBounds_toArray]; exact ih _
 rw [← Array.foldl_toList]
 unfold setCells
 rw [← key]
 simp
theorem gX {place : Nat → Option (Nat × Nat)} : ∀ {parts : List (Nat × Value × List Value)} {cells r : List Value}, (∀ p ∈ parts, p.2.1.cells = p.2.2.toArray) → fillL place cells (parts.map fun p => (p.1, p.2.2)) = some r →
  Instr.fill place cells.toArray (parts.map fun p => (p.1, p.2.1)) = some r.toArray
 | [], cells, r, _, h => by
  simp only [List.map_nil, fillL, Option.some.injEq] at h
  subst h; rfl
 | (i, v, cs) :: rest, cells, r, hc, h => by
  have hv : v.cells = cs.toArray := hc (i, v, cs) List.mem_cons_self
  simp only [List.map_cons, fillL] at h
  cases hp : place i with
  | none => simp [hp] at h
  | some q =>
   obtain ⟨off, size⟩ := q
   simp only [hp] at h
   split at h
   ·rename_i hk
    have ih := gX (fun p hp => hc p (List.mem_cons_of_mem _ hp)) h
    simp only [List.map_cons, Instr.fill, hp, hv, List.size_toArray]
    rw [if_neg (by simp; omega)]
    rw [← ih, ← eQ]
   ·cases h
section
variable {P : Program} {ρ : Operand → Value} {w : World} {d : Option Nat} {t ty : Nat} {pos : String} {aft : Array Edge} {g : Option (Nat × Bool)}
def placesD (P : Program) : TypeDesc → Option (List (Nat × Nat))
 | .struct fs => fs.toList.mapM fun f => (P.info? f.type).map fun i => (f.offset, i.size)
 | _ => none
theorem yY {parts : Array (Nat × Operand)} {fs : Array Field} {z : Value} {places : List (Nat × Nat)} (zs cs : List Value) (ps : List (Nat × Value × List Value)) (ht : P.underlying t = some (.struct fs)) (hz : (P.info? t).bind (·.zero) = some z) (hzc : z.cells.toList = zs)
  (hp' : (P.underlying t).bind (placesD P) = some places) (hpt : (parts.toList.map fun (i, x) => (i, ρ x)) = ps.map fun p => (p.1, p.2.1)) (hc : ∀ p ∈ ps, p.2.1.cells = p.2.2.toArray)
  (hf : fillL (places.toArray[·]?) zs (ps.map fun p => (p.1, p.2.2)) = some cs) :
  (execOp ρ ⟨d, .build t parts, ty, pos, aft, g⟩).run P w = .ok (.value (.agg cs.toArray)) w := by
 have hp : (fs.toList.mapM fun f => (P.info? f.type).map fun i => (f.offset, i.size)) = some places := by rw [ht] at hp'; exact hp'
 obtain ⟨it, hit, hzz⟩ := Option.bind_eq_some_iff.1 hz
 have hb : P.built t (parts.map fun (i, x) => (i, ρ x)).toList = some cs.toArray := by
  unfold Program.built
  rw [hit, ht]
  simp only [hzz, hp]
  rw [Array.toList_map, hpt]
  have := gX hc hf
  rw [← hzc] at this
  exact this
 have := Go.run_build (P := P) w t (parts.map fun (i, x) => (i, ρ x)) cs.toArray hb
 simp [execOp, this]
end
structure Cut (M : (Nat → Value) → World → Prop) (n : Nat) (x : Exit) (a : Act) (w : World) : Prop where
 out : x = .normal ∧ ∃ en, a = F n en ∧ M en w
variable {env : Nat → Value}
theorem eH {P : Program} {Q : Exit → Act → World → Prop} {c : Code} {n : Nat} {w : World} (M : (Nat → Value) → World → Prop) (h : ∀ en w, M en w → Q .normal (F n en) w)
  (hr : c.wp P (Cut M n) (F n env) w) : c.wp P Q (F n env) w :=
 wp_mono hr fun x a w hc => by
  obtain ⟨rfl, en, rfl, hm⟩ := hc.out
  exact h en w hm
theorem qS {M : (Nat → Value) → World → Prop} {n : Nat} {w : World} (h : M env w) : Cut M n .normal (F n env) w := ⟨rfl, env, rfl, h⟩
end Go.GL
namespace Go.GL
noncomputable def decP (p : Prop) : Bool := @decide p (Classical.propDecidable p)
variable {p : Prop} {hi b : Int} {j i m k q : Nat} {a bs asx bs2 fr : List Int} {ns xs ys fs ns2 ls : List Nd} {nd x : Nd} {P : Int → Prop} {need : List Bool}
theorem decP_true : decP p = true ↔ p := by unfold decP; exact @decide_eq_true_iff _ (Classical.propDecidable _)
theorem decP_false : decP p = false ↔ ¬ p := by unfold decP; exact @decide_eq_false_iff_not _ (Classical.propDecidable _)
theorem decP_iff {q : Prop} (h : p ↔ q) : decP p = decP q := by rw [propext h]
theorem decP_dec [Decidable p] : decP p = decide p := by
 by_cases h : p
 ·rw [decP_true.2 h, decide_eq_true h]
 ·rw [decP_false.2 h, decide_eq_false h]
def Rise (l : List Int) (lo hi : Int) : Prop := ∀ i, i < l.length → (lo ≤ l.getD i 0 ∧ l.getD i 0 ≤ hi) ∧ (0 < i → l.getD (i - 1) 0 < l.getD i 0)
theorem sJ {l : List Int} {lo : Int} (hp : ∀ i, i < j → (lo ≤ l.getD i 0 ∧ l.getD i 0 ≤ hi) ∧ (0 < i → l.getD (i - 1) 0 < l.getD i 0))
  (h1 : lo ≤ l.getD j 0 ∧ l.getD j 0 ≤ hi) (h2 : 0 < j → l.getD (j - 1) 0 < l.getD j 0) : ∀ i, i < j + 1 → (lo ≤ l.getD i 0 ∧ l.getD i 0 ≤ hi) ∧ (0 < i → l.getD (i - 1) 0 < l.getD i 0) := fun i hi => by
 by_cases he : i = j
 ·subst he; exact ⟨h1, h2⟩
 ·exact hp i (by omega)
theorem Rise.done {l : List Int} {lo : Int} (hj : l.length ≤ j) (hp : ∀ i, i < j → (lo ≤ l.getD i 0 ∧ l.getD i 0 ≤ hi) ∧ (0 < i → l.getD (i - 1) 0 < l.getD i 0)) : Rise l lo hi := fun i hi => hp i (by omega)
def putL : List Int → Int → List Int
 | [], n => [n]
 | x :: r, n => if x < n then x :: putL r n else if x = n then x :: r else n :: x :: r
def sortL (l : List Int) : List Int := l.foldl putL []
theorem put_next {l : List Int} {n : Int} (h : j < l.length) (h1 : l.getD j 0 < n) (hr : putL l n = l.take j ++ putL (l.drop j) n) : putL l n = l.take (j + 1) ++ putL (l.drop (j + 1)) n := by
 have e : l.getD j 0 = l[j] := by simp [List.getD, h]
 rw [hr, xU l 0 h, putL, if_pos h1, List.take_succ_eq_append_getElem h, e, List.append_assoc]
 rfl
theorem put_hit {l : List Int} {n : Int} (h : j < l.length) (h1 : l.getD j 0 = n) (hr : putL l n = l.take j ++ putL (l.drop j) n) : putL l n = l := by
 rw [hr, xU l 0 h, putL, if_neg (by omega), if_pos h1, ← xU l 0 h, List.take_append_drop]
theorem put_new {l : List Int} {n : Int} (h : j < l.length → ¬ l.getD j 0 < n ∧ ¬ l.getD j 0 = n) (hr : putL l n = l.take j ++ putL (l.drop j) n) :
  (([] ++ (l.take j).drop 0) ++ [n]) ++ (l.take l.length).drop j = putL l n := by
 rw [hr]
 by_cases hj : j < l.length
 ·rw [xU l 0 hj, putL, if_neg (h hj).1, if_neg (h hj).2, ← xU l 0 hj]; simp
 ·rw [List.drop_eq_nil_of_le (by omega : l.length ≤ j), putL]; simp; omega
theorem vF {n : Int} : ∀ {l : List Int}, (putL l n).length ≤ l.length + 1
 | [] => by simp [putL]
 | x :: r => by
  unfold putL
  have := vF (n := n) (l := r)
  split
  ·simp; omega
  ·split <;> simp
theorem tV {l : List Int} (h : j < l.length) : sortL (l.take (j + 1)) = putL (sortL (l.take j)) (l.getD j 0) := by
 unfold sortL
 rw [List.take_succ_eq_append_getElem h, List.foldl_append]
 simp [List.getD, h]
theorem fQ {α : Type} {l : List α} (h : l.length ≤ j) : l.take j = l := List.take_of_length_le h
theorem kG {l : List Int} : (sortL l).length ≤ l.length := by
 have key : ∀ (l a : List Int), (l.foldl putL a).length ≤ a.length + l.length := by
  intro l
  induction l with
  | nil => intro a; simp
  | cons x r ih => intro a; have := ih (putL a x); have := vF (n := x) (l := a); simp; omega
 have := key l []; simpa [sortL] using this
def atL (a : List Int) (l : List Int) : List Int := l.map fun k => a.getD k.toNat 0
theorem at_next {l : List Int} (h : j < l.length) : atL a (l.take (j + 1)) = atL a (l.take j) ++ [a.getD (l.getD j 0).toNat 0] := by
 unfold atL
 rw [List.take_succ_eq_append_getElem h, List.map_append]
 simp [List.getD, h]
theorem xS {l : List Int} : (atL a l).length = l.length := by simp [atL]
def bornOf (bs : List Int) (l : List Int) (b : Int) : Int := l.foldl (fun b k => max b (bs.getD k.toNat 0 + 1)) b
theorem eI {l : List Int} (h : j < l.length) : bornOf bs (l.take (j + 1)) b = max (bornOf bs (l.take j) b) (bs.getD (l.getD j 0).toNat 0 + 1) := by
 unfold bornOf
 rw [List.take_succ_eq_append_getElem h, List.foldl_append]
 simp [List.getD, h]
def BLim (bs : List Int) (m : Int) : Prop := ∀ i, i < bs.length → 0 ≤ bs.getD i 0 ∧ bs.getD i 0 ≤ m
theorem born_lim {l : List Int} {m : Int} (hb : BLim bs m) (hl : ∀ k ∈ l, 0 ≤ k ∧ k < bs.length) (h : 0 ≤ b ∧ b ≤ m + 1) : 0 ≤ bornOf bs l b ∧ bornOf bs l b ≤ m + 1 := by
 induction l generalizing b with
 | nil => exact h
 | cons x r ih =>
  have h1 := hl x List.mem_cons_self
  have h2 := hb x.toNat (by omega)
  exact ih (b := max b (bs.getD x.toNat 0 + 1)) (fun k hk => hl k (List.mem_cons_of_mem _ hk)) (by omega)
def aheadI (a b : Nd) : Int := orL [cmpL a.l b.l, cmpL a.r b.r]
theorem kF {a b : Nd} (h : cmpL a.l b.l ≠ 0) : aheadI a b = cmpL a.l b.l := by unfold aheadI; rw [orL, if_pos h]
theorem vJ {a b : Nd} (h : cmpL a.l b.l = 0) : aheadI a b = cmpL a.r b.r := by
 unfold aheadI; rw [orL, if_neg (by omega), orL]
 split
 ·rfl
 ·rename_i h1; simp only [orL]; omega
structure FitsP (ns : List Nd) : Prop where
 lim : 1 ≤ ns.length ∧ ns.length ≤ 120
 opts : ∀ k, k < ns.length → (ns.getD k default).l.length ≤ 24 ∧ (ns.getD k default).r.length ≤ 24
def findK (ns : List Nd) (bs : List Int) (nd : Nd) (b : Int) : Option Nat := (List.range ns.length).find? fun k => decide (bs.getD k 0 = b ∧ (ns.getD k default).l = nd.l ∧ (ns.getD k default).r = nd.r)
def putNd (l r : List Int) : Nd := ⟨sortL l, sortL r⟩
def putBorn (bs l r : List Int) : Int := bornOf bs r (bornOf bs l 0)
def putK (ns : List Nd) (bs l r : List Int) : Int := match findK ns bs (putNd l r) (putBorn bs l r) with
 | some k => k
 | none => ns.length
def putN (ns : List Nd) (bs l r : List Int) : List Nd := match findK ns bs (putNd l r) (putBorn bs l r) with
 | some _ => ns
 | none => ns ++ [putNd l r]
def putB (ns : List Nd) (bs l r : List Int) : List Int := match findK ns bs (putNd l r) (putBorn bs l r) with
 | some _ => bs
 | none => bs ++ [putBorn bs l r]
def NotAt (ns : List Nd) (bs : List Int) (nd : Nd) (b : Int) (k : Nat) : Prop := ¬ (bs.getD k 0 = b ∧ (ns.getD k default).l = nd.l ∧ (ns.getD k default).r = nd.r)
theorem bnot_dec [Decidable p] (h : ¬ p) : (!decide p) = true := by rw [decide_eq_false h]; rfl
theorem find_some (hj : j < ns.length) (hp : ∀ k, k < j → NotAt ns bs nd b k) (h : bs.getD j 0 = b ∧ (ns.getD j default).l = nd.l ∧ (ns.getD j default).r = nd.r) : findK ns bs nd b = some j := by
 unfold findK
 rw [List.find?_range_eq_some]
 refine ⟨decide_eq_true h, by simp [hj], fun k hk => ?_⟩
 exact bnot_dec (hp k hk)
theorem eC (hj : ns.length ≤ j) (hp : ∀ k, k < j → NotAt ns bs nd b k) : findK ns bs nd b = none := by
 unfold findK
 rw [List.find?_range_eq_none]
 intro k hk
 exact bnot_dec (hp k (by omega))
structure BookOk (ns : List Nd) (bs : List Int) : Prop where
 len : bs.length = ns.length
 lim : ns.length ≤ 1048576
 born : ∀ i, i < bs.length → 0 ≤ bs.getD i 0 ∧ bs.getD i 0 ≤ i
 opts : ∀ i, i < ns.length → (∀ k ∈ (ns.getD i default).l, 0 ≤ k ∧ k < i) ∧ (∀ k ∈ (ns.getD i default).r, 0 ≤ k ∧ k < i)
 lens : ∀ i, i < ns.length → (ns.getD i default).l.length ≤ 1048576 ∧ (ns.getD i default).r.length ≤ 1048576
theorem fits_end (hp : ∀ k, k < j → (ns.getD k default).l.length ≤ 24 ∧ (ns.getD k default).r.length ≤ 24) (h0 : j ≤ ns.length) (hj : ns.length ≤ j ∨ 120 < j) :
  decide ((1 : Int) ≤ ns.length ∧ (ns.length : Int) ≤ 120) = decP (FitsP ns) := by
 by_cases h : (1 : Int) ≤ ns.length ∧ (ns.length : Int) ≤ 120
 ·rw [decide_eq_true h, decP_true.2 ⟨by omega, fun k hk => hp k (by omega)⟩]
 ·rw [decide_eq_false h, decP_false.2 fun g => h (by have := g.lim; omega)]
theorem nT {a b : Nd} (h1 : a.l = b.l) (h2 : a.r = b.r) : a = b := by cases a; cases b; cases h1; cases h2; rfl
theorem eqstepN (hp : ∀ i, i < j → xs.getD i default = ys.getD i default) (h1 : (xs.getD j default).l = (ys.getD j default).l) (h2 : (xs.getD j default).r = (ys.getD j default).r) : ∀ i, i < j + 1 → xs.getD i default = ys.getD i default := fun i hi => by
 by_cases he : i = j
 ·subst he; exact nT h1 h2
 ·exact hp i (by omega)
theorem eqdoneN (hl : xs.length = ys.length) (hj : xs.length ≤ j) (hp : ∀ i, i < j → xs.getD i default = ys.getD i default) : xs = ys := by
 apply List.ext_getElem hl
 intro i h1 h2
 have := hp i (by omega)
 simpa [List.getD, h1, h2] using this
theorem mem_putL {n k : Int} : ∀ {l : List Int}, k ∈ putL l n ↔ k = n ∨ k ∈ l
 | [] => by simp [putL]
 | x :: r => by
  unfold putL
  split
  ·simp [mem_putL (l := r)]; constructor <;> (rintro (h | h | h) <;> simp [h])
  ·split
   ·rename_i h; subst h; simp
   ·simp
theorem mem_sortL {k : Int} {l : List Int} : k ∈ sortL l ↔ k ∈ l := by
 have key : ∀ (l a : List Int), k ∈ l.foldl putL a ↔ k ∈ a ∨ k ∈ l := by
  intro l
  induction l with
  | nil => intro a; simp
  | cons x r ih => intro a; rw [List.foldl_cons, ih, mem_putL, List.mem_cons]; constructor <;> intro h <;> rcases h with h | h <;> first | (rcases h with h | h <;> simp [h]) | simp [h]
 simpa [sortL] using key l []
theorem jC {l : List Int} (h : ∀ i, i < l.length → P (l.getD i 0)) : ∀ k ∈ l, P k := fun k hk => by
 obtain ⟨i, hi, rfl⟩ := List.getElem_of_mem hk
 have := h i hi
 simpa [List.getD, hi] using this
theorem xH {α : Type} {a b : List α} {d : α} (h : i < a.length) : (a ++ b).getD i d = a.getD i d := by simp [List.getD, List.getElem?_append_left h]
theorem pG {α : Type} {a : List α} {x d : α} : (a ++ [x]).getD a.length d = x := by simp [List.getD]
theorem xP {α : Type} {a : List α} {x d : α} (h : i = a.length) : (a ++ [x]).getD i d = x := by subst h; exact pG
theorem BookOk.put {xs ys : List Int} (h : BookOk ns bs) (hl : ns.length + 1 ≤ 1048576) (hls : xs.length ≤ 1048576 ∧ ys.length ≤ 1048576) (h1 : ∀ i, i < xs.length → 0 ≤ xs.getD i 0 ∧ xs.getD i 0 < ns.length) (h2 : ∀ i, i < ys.length → 0 ≤ ys.getD i 0 ∧ ys.getD i 0 < ns.length) :
  BookOk (putN ns bs xs ys) (putB ns bs xs ys) ∧ (0 ≤ putK ns bs xs ys ∧ putK ns bs xs ys < (putN ns bs xs ys).length) ∧ ns.length ≤ (putN ns bs xs ys).length ∧ (putN ns bs xs ys).length ≤ ns.length + 1 := by
 unfold putN putB putK
 cases hf : findK ns bs (putNd xs ys) (putBorn bs xs ys) with
 | some k =>
  have hk : k < ns.length := by
   unfold findK at hf
   have := List.mem_of_find?_eq_some hf
   simpa using this
  exact ⟨h, by simp; omega, Nat.le_refl _, by simp⟩
 | none =>
  have hm1 := jC (P := fun k => 0 ≤ k ∧ k < (ns.length : Int)) h1
  have hm2 := jC (P := fun k => 0 ≤ k ∧ k < (ns.length : Int)) h2
  have hb : BLim bs (ns.length - 1 : Int) := fun i hi => by
   have := h.born i hi
   have := h.len
   omega
  have hnb : 0 ≤ putBorn bs xs ys ∧ putBorn bs xs ys ≤ ns.length := by
   unfold putBorn
   have a1 := born_lim (b := 0) hb (fun k hk => by have := hm1 k hk; rw [h.len]; exact this) (by omega)
   have a2 := born_lim hb (fun k hk => by have := hm2 k hk; rw [h.len]; exact this) a1
   omega
  refine ⟨⟨by simp [h.len], by simp; omega, fun i hi => ?_, fun i hi => ?_, fun i hi => ?_⟩, by simp; omega, by simp, by simp⟩
  ·have hl' := h.len
   simp only [List.length_append, List.length_cons, List.length_nil] at hi
   by_cases hi' : i < bs.length
   ·rw [xH hi']; exact h.born i hi'
   ·rw [xP (by omega)]; omega
  ·simp only [List.length_append, List.length_cons, List.length_nil] at hi
   by_cases hi' : i < ns.length
   ·rw [xH hi']; exact h.opts i hi'
   ·rw [xP (by omega)]
    have e : i = ns.length := by omega
    subst e
    exact ⟨fun k hk => hm1 k (mem_sortL.1 hk), fun k hk => hm2 k (mem_sortL.1 hk)⟩
  ·simp only [List.length_append, List.length_cons, List.length_nil] at hi
   by_cases hi' : i < ns.length
   ·rw [xH hi']; exact h.lens i hi'
   ·rw [xP (by omega)]
    exact ⟨Nat.le_trans kG hls.1, Nat.le_trans kG hls.2⟩
theorem BookOk.optsOk (h : BookOk ns bs) : OptsOk ns := fun i n hn => by
 obtain ⟨hi, rfl⟩ := List.getElem?_eq_some_iff.1 hn
 have := h.opts i hi
 have e : ns.getD i default = ns[i] := by simp [List.getD, hi]
 rw [e] at this
 exact this
structure FormOk (fs : List Nd) : Prop where
 len : fs.length ≤ 1048576
 opts : OptsOk fs
 lens : ∀ i, i < fs.length → (fs.getD i default).l.length ≤ 1048576 ∧ (fs.getD i default).r.length ≤ 1048576
def addStep (s : List Int × List Nd × List Int) (n : Nd) : List Int × List Nd × List Int :=
 (s.1 ++ [putK s.2.1 s.2.2 (atL s.1 n.l) (atL s.1 n.r)], putN s.2.1 s.2.2 (atL s.1 n.l) (atL s.1 n.r), putB s.2.1 s.2.2 (atL s.1 n.l) (atL s.1 n.r))
def addM (ns : List Nd) (bs : List Int) (fs : List Nd) : List Int × List Nd × List Int := fs.foldl addStep ([], ns, bs)
theorem jQ (h : j < fs.length) : addM ns bs (fs.take (j + 1)) = addStep (addM ns bs (fs.take j)) (fs.getD j default) := by
 unfold addM
 rw [List.take_succ_eq_append_getElem h, List.foldl_append]
 simp [List.getD, h]
theorem vY {l : List Int} (ha : ∀ i, i < a.length → 0 ≤ a.getD i 0 ∧ a.getD i 0 < m) (hl : ∀ i, i < l.length → 0 ≤ l.getD i 0 ∧ l.getD i 0 < a.length) : ∀ i, i < (atL a l).length → 0 ≤ (atL a l).getD i 0 ∧ (atL a l).getD i 0 < m := fun i hi => by
 rw [xS] at hi
 have h1 := hl i hi
 have h2 := ha (l.getD i 0).toNat (by omega)
 have e : (atL a l).getD i 0 = a.getD (l.getD i 0).toNat 0 := by simp [atL, List.getD, hi]
 rw [e]; exact h2
structure AddOk (ns : List Nd) (k : Nat) (asx : List Int) (ns2 : List Nd) (bs2 : List Int) : Prop where
 book : BookOk ns2 bs2
 len : asx.length = k
 lo : ns.length ≤ ns2.length
 hi : ns2.length ≤ ns.length + k
 places : ∀ i, i < asx.length → 0 ≤ asx.getD i 0 ∧ asx.getD i 0 < ns2.length
theorem AddOk.start (h : BookOk ns bs) : AddOk ns 0 [] ns bs := ⟨h, rfl, Nat.le_refl _, Nat.le_refl _, fun i hi => by simp at hi⟩
theorem AddOk.at1 (h : AddOk ns k asx ns2 bs2) (hf : FormOk fs) (hk : k < fs.length) :
  (∀ i, i < (fs.getD k default).l.length → 0 ≤ (fs.getD k default).l.getD i 0 ∧ (fs.getD k default).l.getD i 0 < asx.length) ∧ (∀ i, i < (fs.getD k default).r.length → 0 ≤ (fs.getD k default).r.getD i 0 ∧ (fs.getD k default).r.getD i 0 < asx.length) := by
 rw [h.len]
 exact ⟨fun i hi => hf.opts.left hk hi, fun i hi => hf.opts.right hk hi⟩
theorem AddOk.step (h : AddOk ns k asx ns2 bs2) (hf : FormOk fs) (hk : k < fs.length) (hl : ns.length + fs.length ≤ 1048576) :
  AddOk ns (k + 1) (addStep (asx, ns2, bs2) (fs.getD k default)).1 (addStep (asx, ns2, bs2) (fs.getD k default)).2.1 (addStep (asx, ns2, bs2) (fs.getD k default)).2.2 := by
 have h1 := h.at1 hf hk
 have hb := h.book.put (xs := atL asx (fs.getD k default).l) (ys := atL asx (fs.getD k default).r) (by have := h.hi; omega) (by have := hf.lens k hk; rw [xS, xS]; omega) (vY h.places h1.1) (vY h.places h1.2)
 have hh := h.hi
 have hlo := h.lo
 refine ⟨hb.1, by simp [addStep, h.len], by simp only [addStep]; omega, by simp only [addStep]; omega, fun i hi => ?_⟩
 simp only [addStep, List.length_append, List.length_cons, List.length_nil] at hi ⊢
 by_cases hi' : i < asx.length
 ·rw [xH hi']; have := h.places i hi'; omega
 ·rw [xP (by omega)]; exact hb.2.1
theorem addM_ok (h : BookOk ns bs) (hf : FormOk fs) (hl : ns.length + fs.length ≤ 1048576) : ∀ k, k ≤ fs.length → AddOk ns k (addM ns bs (fs.take k)).1 (addM ns bs (fs.take k)).2.1 (addM ns bs (fs.take k)).2.2 := by
 intro k
 induction k with
 | zero => intro _; exact AddOk.start h
 | succ k ih => intro hk; rw [jQ (by omega)]; exact (ih (by omega)).step hf (by omega) hl
theorem jM (h : BookOk ns bs) (hf : FormOk fs) (hl : ns.length + fs.length ≤ 1048576) : AddOk ns fs.length (addM ns bs fs).1 (addM ns bs fs).2.1 (addM ns bs fs).2.2 := by
 have := addM_ok h hf hl fs.length (Nat.le_refl _)
 rwa [List.take_length] at this
def rootM (ns : List Nd) (bs : List Int) (fs : List Nd) : Int := (addM ns bs fs).1.getD ((addM ns bs fs).1.length - 1) 0
def reachM (ns : List Nd) (m : Nat) : List Bool := ugo ns (m + 1) ((List.replicate (m + 1) false).set m true)
def ndAt (a : List Int) (n : Nd) : Nd := ⟨sortL (atL a n.l), sortL (atL a n.r)⟩
def posM (l : List Nd) (x : Nd) : Nat := match l with
 | [] => 0
 | y :: r => if aheadI y x < 0 then posM r x + 1 else 0
theorem pos_next {l : List Nd} (h : j < l.length) (h1 : aheadI (l.getD j default) x < 0) (hr : posM l x = j + posM (l.drop j) x) : posM l x = (j + 1) + posM (l.drop (j + 1)) x := by
 rw [hr, xU l default h, posM, if_pos h1]; omega
theorem pos_stop {l : List Nd} (h : j < l.length) (h1 : ¬ aheadI (l.getD j default) x < 0) (hr : posM l x = j + posM (l.drop j) x) : posM l x = j := by
 rw [hr, xU l default h, posM, if_neg h1]; rfl
theorem pos_end {l : List Nd} (h : l.length ≤ j) (hr : posM l x = j + posM (l.drop j) x) : posM l x = j := by
 rw [hr, List.drop_eq_nil_of_le h]; rfl
def insM {α : Type} (l : List α) (i : Nat) (x : α) : List α := l.take i ++ [x] ++ l.drop i
theorem mT {α : Type} {l : List α} {x : α} : (([] ++ (l.take i).drop 0) ++ [x]) ++ (l.take l.length).drop i = insM l i x := by simp [insM]
theorem pC {α : Type} {l : List α} {x : α} (h : i ≤ l.length) : (insM l i x).length = l.length + 1 := by simp [insM]; omega
theorem mem_ins {α : Type} {l : List α} {x y : α} : y ∈ insM l i x ↔ y = x ∨ y ∈ l := by
 have := List.take_append_drop i l
 constructor
 ·intro h
  simp only [insM, List.mem_append, List.mem_singleton] at h
  rcases h with (h | h) | h
  ·exact Or.inr (List.mem_of_mem_take h)
  ·exact Or.inl h
  ·exact Or.inr (List.mem_of_mem_drop h)
 ·rintro (h | h)
  ·subst h; simp [insM]
  ·rw [← this] at h
   simp only [insM, List.mem_append, List.mem_singleton] at h ⊢
   rcases h with h | h <;> simp [h]
def lvStep (ns : List Nd) (bs : List Int) (need : List Bool) (at_ : List Int) (b : Int) (s : List Nd × List Int) (k : Nat) : List Nd × List Int :=
 if need.getD k false = true ∧ bs.getD k 0 = b then (insM s.1 (posM s.1 (ndAt at_ (ns.getD k default))) (ndAt at_ (ns.getD k default)), insM s.2 (posM s.1 (ndAt at_ (ns.getD k default))) (k : Int)) else s
def lvM (ns : List Nd) (bs : List Int) (need : List Bool) (at_ : List Int) (b : Int) (m : Nat) : List Nd × List Int := (List.range m).foldl (lvStep ns bs need at_ b) ([], [])
theorem lv_next {at_ : List Int} : lvM ns bs need at_ b (m + 1) = lvStep ns bs need at_ b (lvM ns bs need at_ b m) m := by
 unfold lvM; rw [List.range_succ, List.foldl_append]; rfl
def placeM : List Nd → List Int → List Int → List Nd → List Int × List Nd
 | x :: l, k :: f, a, o => placeM l f (a.set k.toNat o.length) (o ++ [x])
 | _, _, a, o => (a, o)
theorem place_next {l : List Nd} {f : List Int} {o : List Nd} (h : j < l.length) (h2 : j < f.length) : placeM (l.drop j) (f.drop j) a o = placeM (l.drop (j + 1)) (f.drop (j + 1)) (a.set (f.getD j 0).toNat o.length) (o ++ [l.getD j default]) := by
 rw [xU l default h, xU f 0 h2, placeM]
theorem place_end {l : List Nd} {f : List Int} {o : List Nd} (h : l.length ≤ j) : placeM (l.drop j) (f.drop j) a o = (a, o) := by
 rw [List.drop_eq_nil_of_le h]; cases f.drop j <;> rfl
def formStep (ns : List Nd) (bs : List Int) (need : List Bool) (m : Nat) (s : List Int × List Nd) (b : Nat) : List Int × List Nd :=
 placeM (lvM ns bs need s.1 b m).1 (lvM ns bs need s.1 b m).2 s.1 s.2
def formGo (ns : List Nd) (bs : List Int) (need : List Bool) (m : Nat) (q : Nat) : List Int × List Nd := (List.range q).foldl (formStep ns bs need m) (List.replicate m 0, [])
theorem fD : formGo ns bs need m (q + 1) = formStep ns bs need m (formGo ns bs need m q) q := by
 unfold formGo; rw [List.range_succ, List.foldl_append]; rfl
def formM (ns : List Nd) (bs : List Int) (root : Nat) : List Nd := (formGo ns bs (reachM ns root) (root + 1) ((bs.getD root 0).toNat + 1)).2
theorem ugo_length : ∀ {q : Nat} {is : List Bool}, (ugo ns q is).length = is.length := by
 intro q
 induction q with
 | zero => intro is; rfl
 | succ q ih =>
  intro is
  refine ih.trans ?_
  unfold ustep
  split
  ·rw [jJ, jJ]
  ·rfl
theorem fH (ns : List Nd) (m : Nat) : (reachM ns m).length = m + 1 := by unfold reachM; rw [ugo_length]; simp
theorem lv_skip {at_ : List Int} (hr : lvM ns bs need at_ b k = (ls, fr)) (h : ¬ (need.getD k false = true ∧ bs.getD k 0 = b)) : lvM ns bs need at_ b (k + 1) = (ls, fr) := by
 rw [lv_next, hr]; unfold lvStep; rw [if_neg h]
theorem lv_ins {at_ : List Int} (hr : lvM ns bs need at_ b k = (ls, fr)) (h1 : need.getD k false = true) (h2 : bs.getD k 0 = b) (hp : posM ls (ndAt at_ (ns.getD k default)) = i) :
  lvM ns bs need at_ b (k + 1) = ((([] ++ (ls.take i).drop 0) ++ [ndAt at_ (ns.getD k default)]) ++ (ls.take ls.length).drop i, (([] ++ (fr.take i).drop 0) ++ [(k : Int)]) ++ (fr.take fr.length).drop i) := by
 rw [lv_next, hr]; unfold lvStep; rw [if_pos ⟨h1, h2⟩, hp, mT, mT]
theorem ins_len {α : Type} {l : List α} {x : α} (h : i ≤ l.length) : ((([] ++ (l.take i).drop 0) ++ [x]) ++ (l.take l.length).drop i).length = l.length + 1 := by rw [mT, pC h]
theorem ins_all {l : List Int} {x : Int} (h : ∀ j, j < l.length → P (l.getD j 0)) (hx : P x) : ∀ j, j < ((([] ++ (l.take i).drop 0) ++ [x]) ++ (l.take l.length).drop i).length → P (((([] ++ (l.take i).drop 0) ++ [x]) ++ (l.take l.length).drop i).getD j 0) := fun j hj => by
 rw [mT] at hj ⊢
 rcases mem_ins.1 (xE (d := (0 : Int)) hj) with h1 | h1
 ·rw [h1]; exact hx
 ·exact jC h _ h1
theorem form_done {o : List Nd} (hr : formGo ns bs (reachM ns m) (m + 1) q = (a, o)) (hq : q = (bs.getD m 0).toNat + 1) : formM ns bs m = o := by
 unfold formM; rw [← hq, hr]
theorem form_step {a2 : List Int} {o o2 : List Nd} (hr : formGo ns bs need m q = (a, o)) (hl : lvM ns bs need a q m = (ls, fr)) (hp : placeM ls fr a o = (a2, o2)) :
  formGo ns bs need m (q + 1) = (a2, o2) := by
 rw [fD, hr]; unfold formStep; simp only [hl, hp]
structure GoodS (ns : List Nd) : Prop where
 fits : FitsP ns
 rise : ∀ i, i < ns.length → Rise (ns.getD i default).l 0 ((i : Int) - 1) ∧ Rise (ns.getD i default).r 0 ((i : Int) - 1)
 same : formM (addM [] [] ns).2.1 (addM [] [] ns).2.2 (rootM [] [] ns).toNat = ns
theorem Rise.all {l : List Int} {lo : Int} (h : Rise l lo hi) : ∀ k ∈ l, lo ≤ k ∧ k ≤ hi := jC fun i hi => (h i hi).1
theorem gI (h : FitsP ns) (hr : ∀ i, i < ns.length → Rise (ns.getD i default).l 0 ((i : Int) - 1) ∧ Rise (ns.getD i default).r 0 ((i : Int) - 1)) : FormOk ns :=
 ⟨by have := h.lim.2; omega, fun i n hn => by
  obtain ⟨hi, rfl⟩ := List.getElem?_eq_some_iff.1 hn
  have h1 := hr i hi
  have e : ns.getD i default = ns[i] := by simp [List.getD, hi]
  rw [e] at h1
  exact ⟨fun k hk => by have := h1.1.all k hk; omega, fun k hk => by have := h1.2.all k hk; omega⟩, fun i hi => by have := h.opts i hi; omega⟩
theorem qT : BookOk [] [] := ⟨rfl, Nat.zero_le _, fun i hi => absurd hi (Nat.not_lt_zero i), fun i hi => absurd hi (Nat.not_lt_zero i), fun i hi => absurd hi (Nat.not_lt_zero i)⟩
theorem tH (h : AddOk ns fs.length (addM ns bs fs).1 (addM ns bs fs).2.1 (addM ns bs fs).2.2) (h1 : 1 ≤ fs.length) : 0 ≤ rootM ns bs fs ∧ rootM ns bs fs < (addM ns bs fs).2.1.length := by
 unfold rootM
 exact h.places _ (by have := h.len; omega)
end Go.GL
namespace Go.GL
variable {x y : Int} {a b : Nd}
theorem mW : cmpI x y < 0 ↔ x < y := by unfold cmpI; split <;> (try split) <;> omega
theorem fE : cmpI x y = 0 ↔ x = y := by unfold cmpI; split <;> (try split) <;> omega
theorem cmpI_neg (x y : Int) : cmpI x y = - cmpI y x := by unfold cmpI; split <;> split <;> (try split) <;> omega
theorem cmpL_zero : ∀ {a b : List Int}, cmpL a b = 0 ↔ a = b
 | [], [] => by simp [cmpL]
 | [], _ :: _ => by simp [cmpL]
 | _ :: _, [] => by simp [cmpL]
 | x :: a, y :: b => by
  unfold cmpL
  have h := fE (x := x) (y := y)
  split
  ·rename_i h1
   constructor
   ·intro h2; exact absurd h2 h1
   ·intro h2; cases h2; exact absurd (h.2 rfl) h1
  ·rename_i h1
   have h2 := h.1 (Decidable.not_not.1 h1)
   subst h2
   rw [cmpL_zero]; simp
theorem pL : ∀ (a b : List Int), cmpL a b = - cmpL b a
 | [], [] => rfl
 | [], _ :: _ => rfl
 | _ :: _, [] => rfl
 | x :: a, y :: b => by
  unfold cmpL
  have h := cmpI_neg x y
  split <;> split <;> first | omega | exact pL a b
theorem tA : ∀ {a b c : List Int}, cmpL a b < 0 → cmpL b c < 0 → cmpL a c < 0
 | [], [], _, h, _ => by simp [cmpL] at h
 | _ :: _, [], _, h, _ => by simp [cmpL] at h
 | [], _ :: _, [], _, h => by simp [cmpL] at h
 | _ :: _, _ :: _, [], _, h => by simp [cmpL] at h
 | [], _ :: _, _ :: _, _, _ => by simp [cmpL]
 | x :: a, y :: b, z :: c, h, k => by
  unfold cmpL at h k ⊢
  have h1 := mW (x := x) (y := y); have h2 := mW (x := y) (y := z); have h3 := mW (x := x) (y := z)
  have h4 := fE (x := x) (y := y); have h5 := fE (x := y) (y := z); have h6 := fE (x := x) (y := z)
  by_cases e1 : cmpI x y = 0
  ·have := h4.1 e1; subst this
   rw [if_neg (by omega)] at h
   by_cases e2 : cmpI x z = 0
   ·have := h6.1 e2; subst this
    rw [if_neg (by omega)] at k ⊢
    exact tA h k
   ·rw [if_pos e2] at k ⊢; exact k
  ·rw [if_pos e1] at h
   by_cases e2 : cmpI y z = 0
   ·have := h5.1 e2; subst this
    rw [if_pos e1]; exact h
   ·rw [if_pos e2] at k
    have : x < z := by have := h1.1 h; have := h2.1 k; omega
    have := h3.2 this
    rw [if_pos (by omega)]; exact this
theorem ahead_lt : aheadI a b < 0 ↔ cmpL a.l b.l < 0 ∨ (cmpL a.l b.l = 0 ∧ cmpL a.r b.r < 0) := by
 by_cases h : cmpL a.l b.l = 0
 ·rw [vJ h]; omega
 ·rw [kF h]; omega
theorem ahead_zero : aheadI a b = 0 ↔ a = b := by
 by_cases h : cmpL a.l b.l = 0
 ·rw [vJ h, cmpL_zero]
  have := cmpL_zero.1 h
  constructor
  ·intro h2; exact nT this h2
  ·intro h2; rw [h2]
 ·rw [kF h]
  constructor
  ·intro h2; exact absurd h2 h
  ·intro h2; subst h2; exact absurd (cmpL_zero.2 rfl) h
theorem rM (a b : Nd) : aheadI a b = - aheadI b a := by
 have h1 := pL a.l b.l; have h2 := pL a.r b.r
 by_cases h : cmpL a.l b.l = 0
 ·rw [vJ h, vJ (by omega)]; exact h2
 ·rw [kF h, kF (by omega)]; exact h1
theorem mG {c : Nd} (h : aheadI a b < 0) (k : aheadI b c < 0) : aheadI a c < 0 := by
 rw [ahead_lt] at h k ⊢
 rcases h with h | ⟨h, h'⟩ <;> rcases k with k | ⟨k, k'⟩
 ·exact Or.inl (tA h k)
 ·have := cmpL_zero.1 k; rw [← this]; exact Or.inl h
 ·have := cmpL_zero.1 h; rw [this]; exact Or.inl k
 ·have e1 := cmpL_zero.1 h; have e2 := cmpL_zero.1 k
  exact Or.inr ⟨cmpL_zero.2 (e1.trans e2), tA h' k'⟩
theorem pair_lt {ns : List Nd} {bs : List Int} {i : Nat} : pairC ns bs i < 0 ↔ bs.getD (i - 1) 0 < bs.getD i 0 ∨ (bs.getD (i - 1) 0 = bs.getD i 0 ∧ aheadI (ns.getD (i - 1) default) (ns.getD i default) < 0) := by
 unfold pairC aheadI
 rw [orL]
 have h1 := mW (x := bs.getD (i - 1) 0) (y := bs.getD i 0)
 have h2 := fE (x := bs.getD (i - 1) 0) (y := bs.getD i 0)
 split
 ·rename_i h
  constructor
  ·intro h3; exact Or.inl (h1.1 h3)
  ·rintro (h3 | h3)
   ·exact h1.2 h3
   ·exact absurd (h2.2 h3.1) h
 ·rename_i h
  have h3 := h2.1 (Decidable.not_not.1 h)
  constructor
  ·intro h4; exact Or.inr ⟨h3, h4⟩
  ·rintro (h4 | h4)
   ·omega
   ·exact h4.2
theorem tP {b : Int} : ∀ {l : List Int} {last : Int}, goodFrom last b l = true ↔ (∀ i, i < l.length → (last < l.getD i 0 ∧ l.getD i 0 < b) ∧ (0 < i → l.getD (i - 1) 0 < l.getD i 0))
 | [], last => by simp [goodFrom]
 | x :: r, last => by
  unfold goodFrom
  have ih := tP (b := b) (l := r) (last := x)
  split
  ·rename_i h
   constructor
   ·intro h2; cases h2
   ·intro h2; have := h2 0 (by simp); simp [List.getD] at this; omega
  ·rename_i h
   rw [ih]
   constructor
   ·intro h2 i hi
    match i with
    | 0 => simp [List.getD]; omega
    | i + 1 =>
     have h3 := h2 i (by simpa using hi)
     have e : (x :: r).getD (i + 1) 0 = r.getD i 0 := by simp [List.getD]
     rw [e]
     refine ⟨by omega, fun _ => ?_⟩
     match i with
     | 0 => simp only [Nat.zero_add, Nat.sub_self]; simp [List.getD] at h3 ⊢; omega
     | i + 1 => have := h3.2 (by omega); simpa [List.getD] using this
   ·intro h2 i hi
    have h3 := h2 (i + 1) (by simpa using hi)
    have e : (x :: r).getD (i + 1) 0 = r.getD i 0 := by simp [List.getD]
    rw [e] at h3
    have key : ∀ j, j < r.length → x < r.getD j 0 := by
     intro j
     induction j with
     | zero => intro hj; have := (h2 1 (by simpa using hj)).2 (by omega); simpa [List.getD] using this
     | succ j ihj => intro hj; have := (h2 (j + 2) (by simp; omega)).2 (by omega); have := ihj (by omega); simp [List.getD] at *; omega
    refine ⟨⟨key i hi, h3.1.2⟩, fun h0 => ?_⟩
    have h4 := h3.2 (by omega)
    match i with
    | 0 => omega
    | i + 1 => simpa [List.getD] using h4
theorem goodOpts_iff {l : List Int} {b : Int} : goodOpts l b = true ↔ l.length ≤ 24 ∧ Rise l 0 (b - 1) := by
 unfold goodOpts
 split
 ·constructor
  ·intro h; cases h
  ·intro h; omega
 ·rw [tP]
  constructor
  ·intro h; exact ⟨by omega, fun i hi => by have := h i hi; omega⟩
  ·intro h i hi; have := h.2 i hi; omega
end Go.GL
namespace Go.GL
variable {i k : Nat} {ns : List Nd} {hi : Int}
theorem qM {α : Type} {l : List α} {j : Nat} {x d : α} (h : i ≠ j) : (l.set i x).getD j d = l.getD j d := by
 simp [List.getD, List.getElem?_set_ne h]
theorem kH {α : Type} {l : List α} {x d : α} (h : i < l.length) : (l.set i x).getD i d = x := by
 simp [List.getD, h]
theorem kD {bs bs' : List Int} : ∀ {l : List Int} {b : Int}, (∀ k ∈ l, bs.getD k.toNat 0 = bs'.getD k.toNat 0) → bornOf bs l b = bornOf bs' l b
 | [], _, _ => rfl
 | k :: l, b, h => by
  unfold bornOf
  rw [List.foldl_cons, List.foldl_cons, h k List.mem_cons_self]
  exact kD (l := l) fun k hk => h k (List.mem_cons_of_mem _ hk)
theorem brow_eq {i : Nat} : ∀ {l b : List Int}, (∀ k ∈ l, 0 ≤ k ∧ k < i) → i < b.length → brow i b l = b.set i (bornOf b l (b.getD i 0))
 | [], b, _, hi => by
  have e : b.getD i 0 = b[i] := by simp [List.getD, hi]
  simp only [brow, bornOf, List.foldl_nil, e, List.set_getElem_self]
 | k :: l, b, h, hi => by
  have hk := h k List.mem_cons_self
  have ih := brow_eq (i := i) (l := l) (b := bmax i b k) (fun k hk => h k (List.mem_cons_of_mem _ hk)) (by rw [mE]; exact hi)
  unfold brow at ih ⊢
  rw [List.foldl_cons, ih]
  unfold bmax
  rw [List.set_set, kH hi, kD (bs' := b) fun j hj => qM (by have := h j (List.mem_cons_of_mem _ hj); omega)]
  rfl
def BirthsOf (ns : List Nd) (bs : List Int) : Prop := bs.length = ns.length ∧ ∀ k, k < ns.length → bs.getD k 0 = putBorn bs (ns.getD k default).l (ns.getD k default).r
theorem vD {bs bs' l r : List Int} (hl : ∀ k ∈ l, bs.getD k.toNat 0 = bs'.getD k.toNat 0) (hr : ∀ k ∈ r, bs.getD k.toNat 0 = bs'.getD k.toNat 0) : putBorn bs l r = putBorn bs' l r := by
 unfold putBorn; rw [kD hl, kD hr]
theorem xW (h : OptsOk ns) (hk : k < ns.length) : (∀ o ∈ (ns.getD k default).l, 0 ≤ o ∧ o < k) ∧ (∀ o ∈ (ns.getD k default).r, 0 ≤ o ∧ o < k) :=
 h k _ (by simp [List.getD, hk])
theorem pM {ns : List Nd} (ho : OptsOk ns) : ∀ (j : Nat) (b : List Int), j ≤ ns.length → b.length = ns.length → (∀ k, k < j → b.getD k 0 = putBorn b (ns.getD k default).l (ns.getD k default).r) → (∀ k, j ≤ k → b.getD k 0 = 0) →
  BirthsOf ns (bgo j (ns.drop j) b) := by
 intro j b hj hb h1 h2
 by_cases he : j = ns.length
 ·subst he
  rw [bgo_end (Nat.le_refl _)]
  exact ⟨hb, h1⟩
 ·have hj' : j < ns.length := by omega
  rw [bgo_next hj']
  have o := xW ho hj'
  have e : brow j (brow j b (ns.getD j default).l) (ns.getD j default).r = b.set j (putBorn b (ns.getD j default).l (ns.getD j default).r) := by
   rw [brow_eq o.1 (by omega), brow_eq o.2 (by simp; omega), List.set_set, kH (by omega), h2 j (Nat.le_refl _)]
   rw [kD (bs := b.set j _) (bs' := b) fun k hk => qM (by have := o.2 k hk; omega)]
   rfl
  rw [e]
  refine pM ho (j + 1) _ hj' (by simp [hb]) (fun k hk => ?_) (fun k hk => ?_)
  ·have o' := xW ho (k := k) (by omega)
   rw [vD (bs := b.set j _) (bs' := b) (fun q hq => qM (by have := o'.1 q hq; omega)) (fun q hq => qM (by have := o'.2 q hq; omega))]
   by_cases hkj : k = j
   ·subst hkj; rw [kH (by omega)]
   ·rw [qM (by omega)]; exact h1 k (by omega)
  ·rw [qM (by omega)]; exact h2 k (by omega)
termination_by j _ _ => ns.length - j
theorem qP (ho : OptsOk ns) : BirthsOf ns (births ns) := by
 have := pM ho 0 (List.replicate ns.length 0) (Nat.zero_le _) (by simp) (fun k hk => absurd hk (Nat.not_lt_zero k)) (fun k _ => by simp [List.getD, List.getElem?_replicate]; split <;> rfl)
 exact this
def idx (k : Nat) : List Int := (List.range k).map Int.ofNat
theorem tM (h : i < k) : (idx k).getD i 0 = i := by simp [idx, List.getD, h]
theorem vC (k : Nat) : (idx k).length = k := by simp [idx]
theorem idx_succ (k : Nat) : idx (k + 1) = idx k ++ [(k : Int)] := by simp [idx, List.range_succ]
theorem atL_id {a l : List Int} (h : ∀ o ∈ l, 0 ≤ o ∧ a.getD o.toNat 0 = o) : atL a l = l := by
 unfold atL
 conv => rhs; rw [← List.map_id l]
 exact List.map_congr_left fun o ho => (h o ho).2
theorem rise_cons {x : Int} {r : List Int} {lo : Int} (h : Rise (x :: r) lo hi) : Rise r lo hi ∧ ∀ k ∈ r, x < k := by
 have h1 : Rise r lo hi := fun i hi => by
  have h2 := h (i + 1) (by simp; omega)
  have e : (x :: r).getD (i + 1) 0 = r.getD i 0 := by simp [List.getD]
  rw [e] at h2
  refine ⟨h2.1, fun h0 => ?_⟩
  have h3 := h2.2 (by omega)
  match i with
  | 0 => omega
  | i + 1 => simpa [List.getD] using h3
 refine ⟨h1, jC fun i => ?_⟩
 induction i with
 | zero => intro hi; have := (h 1 (by simp; omega)).2 (by omega); simpa [List.getD] using this
 | succ i ih => intro hi; have h3 := (h1 (i + 1) hi).2 (by omega); have := ih (by omega); simp only [Nat.add_sub_cancel] at h3; omega
theorem putL_end {l : List Int} {n : Int} (h : ∀ k ∈ l, k < n) : putL l n = l ++ [n] := by
 induction l with
 | nil => rfl
 | cons x r ih => unfold putL; rw [if_pos (h x List.mem_cons_self), ih fun k hk => h k (List.mem_cons_of_mem _ hk)]; rfl
theorem sF {lo : Int} : ∀ {l : List Int}, Rise l lo hi → sortL l = l := by
 have key : ∀ (l a : List Int), Rise l lo hi → (∀ x ∈ a, ∀ y ∈ l, x < y) → l.foldl putL a = a ++ l := by
  intro l
  induction l with
  | nil => intro a _ _; simp
  | cons x r ih =>
   intro a hr ha
   have hc := rise_cons hr
   rw [List.foldl_cons, putL_end fun k hk => ha k hk x List.mem_cons_self, ih _ hc.1 ?_, List.append_assoc]
   ·rfl
   ·intro k hk y hy
    rw [List.mem_append, List.mem_singleton] at hk
    rcases hk with hk | hk
    ·exact ha k hk y (List.mem_cons_of_mem _ hy)
    ·subst hk; exact hc.2 y hy
 intro l h
 have := key l [] h (fun x hx => by cases hx)
 simpa [sortL] using this
end Go.GL
namespace Go.GL
structure Wf (ns : List Nd) : Prop where
 ok : FormOk ns
 rise : ∀ i, i < ns.length → Rise (ns.getD i default).l 0 ((i : Int) - 1) ∧ Rise (ns.getD i default).r 0 ((i : Int) - 1)
def Diff (ns : List Nd) : Prop := ∀ i j, i < j → j < ns.length → ns.getD i default ≠ ns.getD j default
variable {i k : Nat} {ns : List Nd}
theorem fC {α : Type} {l : List α} {d : α} (h : i < k) : (l.take k).getD i d = l.getD i d := by
 simp [List.getD, h]
theorem vU {α : Type} (l : List α) (d : α) (h : k < l.length) : l.take (k + 1) = l.take k ++ [l.getD k d] := by
 rw [List.take_succ_eq_append_getElem h]; simp [List.getD, h]
theorem Wf.opts (h : Wf ns) (hk : k < ns.length) : (∀ o ∈ (ns.getD k default).l, 0 ≤ o ∧ o < k) ∧ (∀ o ∈ (ns.getD k default).r, 0 ≤ o ∧ o < k) := xW h.ok.opts hk
theorem tG (h : Wf ns) (hk : k < ns.length) : putNd (ns.getD k default).l (ns.getD k default).r = ns.getD k default := by
 unfold putNd
 rw [sF (h.rise k hk).1, sF (h.rise k hk).2]
theorem self_at (h : Wf ns) (hk : k < ns.length) {a : List Int} (ha : ∀ i, i < k → a.getD i 0 = i) : atL a (ns.getD k default).l = (ns.getD k default).l ∧ atL a (ns.getD k default).r = (ns.getD k default).r :=
 ⟨atL_id fun o ho => by have := (h.opts hk).1 o ho; rw [ha o.toNat (by omega)]; omega, atL_id fun o ho => by have := (h.opts hk).2 o ho; rw [ha o.toNat (by omega)]; omega⟩
theorem sH (h : Wf ns) (hk : k < ns.length) : putBorn ((births ns).take k) (ns.getD k default).l (ns.getD k default).r = (births ns).getD k 0 := by
 rw [(qP h.ok.opts).2 k hk]
 exact vD (fun o ho => fC (by have := (h.opts hk).1 o ho; omega)) (fun o ho => fC (by have := (h.opts hk).2 o ho; omega))
theorem step_new (h : Wf ns) (hk : k < ns.length) (hd : ∀ i, i < k → ns.getD i default ≠ ns.getD k default) :
  addStep (idx k, ns.take k, (births ns).take k) (ns.getD k default) = (idx (k + 1), ns.take (k + 1), (births ns).take (k + 1)) := by
 have ha := self_at h hk (a := idx k) fun i hi => tM hi
 have hl : (births ns).length = ns.length := gN ns
 have hf : findK (ns.take k) ((births ns).take k) (putNd (ns.getD k default).l (ns.getD k default).r) (putBorn ((births ns).take k) (ns.getD k default).l (ns.getD k default).r) = none := by
  refine eC (j := k) (by simp; omega) fun i hi g => ?_
  rw [tG h hk, fC (l := ns) hi] at g
  exact hd i hi (nT g.2.1 g.2.2)
 unfold addStep
 simp only [ha.1, ha.2]
 unfold putK putN putB
 rw [hf]
 simp only [tG h hk, sH h hk]
 rw [idx_succ, vU ns default hk, vU (births ns) 0 (by omega)]
 simp; omega
theorem step_old (h : Wf ns) (hk : k < ns.length) (hi : i < k) (hd : ns.getD i default = ns.getD k default) :
  (addStep (idx k, ns.take k, (births ns).take k) (ns.getD k default)).2.1 = ns.take k := by
 have ha := self_at h hk (a := idx k) fun i hi => tM hi
 unfold addStep
 simp only [ha.1, ha.2]
 unfold putN
 cases hf : findK (ns.take k) ((births ns).take k) (putNd (ns.getD k default).l (ns.getD k default).r) (putBorn ((births ns).take k) (ns.getD k default).l (ns.getD k default).r) with
 | some j => rfl
 | none =>
  exfalso
  unfold findK at hf
  rw [List.find?_eq_none] at hf
  have h1 := hf i (by simp; omega)
  apply h1
  refine decide_eq_true ?_
  rw [tG h hk, sH h hk, fC hi, fC hi, hd]
  refine ⟨?_, rfl, rfl⟩
  rw [(qP h.ok.opts).2 k hk, (qP h.ok.opts).2 i (by omega), hd]
theorem putN_le {bs l r : List Int} : (putN ns bs l r).length ≤ ns.length + 1 := by
 unfold putN; split <;> simp
theorem eM {ns : List Nd} {k : Nat} (hk : k ≤ ns.length) : (addM [] [] ns).2.1.length ≤ (addM [] [] (ns.take k)).2.1.length + (ns.length - k) := by
 by_cases he : k = ns.length
 ·subst he; rw [List.take_length]; omega
 ·have h1 := eM (ns := ns) (k := k + 1) (by omega)
  rw [jQ (by omega)] at h1
  have h2 := putN_le (ns := (addM [] [] (ns.take k)).2.1) (bs := (addM [] [] (ns.take k)).2.2) (l := atL (addM [] [] (ns.take k)).1 (ns.getD k default).l) (r := atL (addM [] [] (ns.take k)).1 (ns.getD k default).r)
  simp only [addStep] at h1
  omega
termination_by ns.length - k
theorem addM_prefix (h : Wf ns) (hn : Diff ns) : ∀ k, k ≤ ns.length → addM [] [] (ns.take k) = (idx k, ns.take k, (births ns).take k) := by
 intro k
 induction k with
 | zero => intro _; rfl
 | succ k ih => intro hk; rw [jQ (by omega), ih (by omega), step_new h (by omega) fun i hi => hn i k hi (by omega)]
theorem rN (h : Wf ns) (hn : Diff ns) : addM [] [] ns = (idx ns.length, ns, births ns) := by
 have := addM_prefix h hn ns.length (Nat.le_refl _)
 rw [List.take_length, List.take_of_length_le (by rw [gN]; exact Nat.le_refl _)] at this
 exact this
theorem addM_diff (h : Wf ns) (hl : ns.length ≤ (addM [] [] ns).2.1.length) : Diff ns := by
 have key : ∀ k, k ≤ ns.length → addM [] [] (ns.take k) = (idx k, ns.take k, (births ns).take k) ∧ ∀ i j, i < j → j < k → ns.getD i default ≠ ns.getD j default := by
  intro k
  induction k with
  | zero => intro _; exact ⟨rfl, fun i j _ hj => absurd hj (Nat.not_lt_zero j)⟩
  | succ k ih =>
   intro hk
   have hh := ih (by omega)
   have hd : ∀ i, i < k → ns.getD i default ≠ ns.getD k default := fun i hi he => by
    have h1 := eM (ns := ns) (k := k + 1) (by omega)
    rw [jQ (by omega), hh.1, step_old h (by omega) hi he] at h1
    simp at h1; omega
   refine ⟨by rw [jQ (by omega), hh.1, step_new h (by omega) hd], fun i j hi hj => ?_⟩
   by_cases he : j = k
   ·subst he; exact hd i hi
   ·exact hh.2 i j hi (by omega)
 exact fun i j hi hj => (key ns.length (Nat.le_refl _)).2 i j hi hj
end Go.GL
namespace Go.GL
theorem gC : ∀ {l : List Nd} {f a : List Int} {o : List Nd}, l.length = f.length → (placeM l f a o).2 = o ++ l
 | [], [], a, o, _ => by simp [placeM]
 | x :: l, k :: f, a, o, h => by
  rw [placeM, gC (by simpa using h)]; simp
theorem sM : ∀ {l : List Nd} {f a : List Int} {o : List Nd}, (placeM l f a o).1.length = a.length
 | [], _, a, o => by simp [placeM]
 | x :: l, [], a, o => by simp [placeM]
 | x :: l, k :: f, a, o => by rw [placeM, sM]; simp
theorem kM : ∀ {l : List Nd} {f a : List Int} {o : List Nd} {z : Nat}, (∀ k ∈ f, k.toNat ≠ z) → (placeM l f a o).1.getD z 0 = a.getD z 0
 | [], _, a, o, z, _ => by simp [placeM]
 | x :: l, [], a, o, z, _ => by simp [placeM]
 | x :: l, k :: f, a, o, z, h => by
  rw [placeM, kM fun q hq => h q (List.mem_cons_of_mem _ hq), qM (h k List.mem_cons_self)]
theorem nO : ∀ {l : List Nd} {f a : List Int} {o : List Nd} {i : Nat}, l.length = f.length → f.Nodup → (∀ k ∈ f, 0 ≤ k ∧ k < a.length) → i < f.length → (placeM l f a o).1.getD (f.getD i 0).toNat 0 = o.length + i
 | [], [], _, _, i, _, _, _, hi => by simp at hi
 | x :: l, k :: f, a, o, i, h, hn, hb, hi => by
  rw [placeM]
  have hk := hb k List.mem_cons_self
  have hn' := List.nodup_cons.1 hn
  have hb' : ∀ q ∈ f, 0 ≤ q ∧ q < (a.set k.toNat (o.length : Int)).length := fun q hq => by rw [List.length_set]; exact hb q (List.mem_cons_of_mem _ hq)
  match i with
  | 0 =>
   have e : (k :: f).getD 0 0 = k := rfl
   rw [e, kM, kH (by omega)]
   ·simp
   ·intro q hq he
    have := hb q (List.mem_cons_of_mem _ hq)
    have : q = k := by omega
    subst this; exact hn'.1 hq
  | i + 1 =>
   have e : (k :: f).getD (i + 1) 0 = f.getD i 0 := by simp [List.getD]
   rw [e, nO (by simpa using h) hn'.2 hb' (by simpa using hi)]
   simp; omega
variable {x : Nd}
theorem ins_cons {y : Nd} {r : List Nd} : insM (y :: r) (posM (y :: r) x) x = if aheadI y x < 0 then y :: insM r (posM r x) x else x :: y :: r := by
 rw [posM]
 split
 ·simp [insM]
 ·simp [insM]
theorem pP {a b c : Nd} (h : aheadI a b ≤ 0) (k : aheadI b c ≤ 0) : aheadI a c ≤ 0 := by
 by_cases h0 : aheadI a b = 0
 ·rw [ahead_zero.1 h0]; exact k
 ·by_cases k0 : aheadI b c = 0
  ·rw [← ahead_zero.1 k0]; exact h
  ·have := mG (show aheadI a b < 0 by omega) (show aheadI b c < 0 by omega); omega
theorem pB {x : Nd} : ∀ {l : List Nd}, l.Pairwise (fun a b => aheadI a b ≤ 0) → (insM l (posM l x) x).Pairwise (fun a b => aheadI a b ≤ 0)
 | [], _ => by simp [insM, posM]
 | y :: r, h => by
  have hc := List.pairwise_cons.1 h
  rw [ins_cons]
  split
  ·rename_i hy
   refine List.pairwise_cons.2 ⟨fun z hz => ?_, pB hc.2⟩
   rcases mem_ins.1 hz with hz | hz
   ·subst hz; omega
   ·exact hc.1 z hz
  ·rename_i hy
   have hxy : aheadI x y ≤ 0 := by have := rM x y; omega
   refine List.pairwise_cons.2 ⟨fun z hz => ?_, h⟩
   cases hz with
   | head => exact hxy
   | tail _ hz => exact pP hxy (hc.1 z hz)
theorem pos_le {l : List Nd} : posM l x ≤ l.length := by
 induction l with
 | nil => simp [posM]
 | cons y r ih => rw [posM]; split <;> simp; exact ih
def ndz (ns : List Nd) (a : List Int) (z : Int) : Nd := ndAt a (ns.getD z.toNat default)
structure LvOk (ns : List Nd) (bs : List Int) (need : List Bool) (a : List Int) (b : Int) (k : Nat) (s : List Nd × List Int) : Prop where
 map : s.1 = s.2.map (ndz ns a)
 mem : ∀ z ∈ s.2, 0 ≤ z ∧ z < k ∧ need.getD z.toNat false = true ∧ bs.getD z.toNat 0 = b
 all : ∀ j, j < k → need.getD j false = true → bs.getD j 0 = b → (j : Int) ∈ s.2
 nodup : s.2.Nodup
 sorted : s.1.Pairwise (fun x y => aheadI x y ≤ 0)
 count : s.2.length = (List.range k).countP fun j => need.getD j false && decide (bs.getD j 0 = b)
theorem ins_map {α β : Type} (f : α → β) (l : List α) (i : Nat) (x : α) : (insM l i x).map f = insM (l.map f) i (f x) := by simp [insM]
theorem ins_nodup {l : List Int} {i : Nat} {x : Int} (h : l.Nodup) (hx : x ∉ l) : (insM l i x).Nodup := by
 have hp : (insM l i x).Perm (x :: l) := by
  unfold insM
  have h1 : (l.take i ++ [x] ++ l.drop i).Perm ([x] ++ l.take i ++ l.drop i) := (List.perm_append_comm).append_right _
  simpa using h1
 exact hp.nodup_iff.2 (List.nodup_cons.2 ⟨hx, h⟩)
theorem lv_ok {ns : List Nd} {bs : List Int} {need : List Bool} {a : List Int} {b : Int} : ∀ k, LvOk ns bs need a b k (lvM ns bs need a b k) := by
 intro k
 induction k with
 | zero => exact ⟨rfl, fun z hz => (by cases hz), fun j hj => absurd hj (Nat.not_lt_zero j), List.nodup_nil, List.Pairwise.nil, rfl⟩
 | succ k ih =>
  rw [lv_next]
  unfold lvStep
  by_cases hc : need.getD k false = true ∧ bs.getD k 0 = b
  ·rw [if_pos hc]
   have hnew : (k : Int) ∉ (lvM ns bs need a b k).2 := fun hm => by have := ih.mem _ hm; omega
   have hlen : (lvM ns bs need a b k).1.length = (lvM ns bs need a b k).2.length := by rw [ih.map]; simp
   refine ⟨?_, fun z hz => ?_, fun j hj h1 h2 => ?_, ins_nodup ih.nodup hnew, pB ih.sorted, ?_⟩
   ·rw [ins_map, ← ih.map]; rfl
   ·rcases mem_ins.1 hz with hz | hz
    ·subst hz; exact ⟨by omega, by omega, by simpa using hc.1, by simpa using hc.2⟩
    ·have := ih.mem z hz; exact ⟨this.1, by omega, this.2.2⟩
   ·by_cases he : j = k
    ·subst he; exact mem_ins.2 (Or.inl rfl)
    ·exact mem_ins.2 (Or.inr (ih.all j (by omega) h1 h2))
   ·rw [pC (by have := pos_le (l := (lvM ns bs need a b k).1) (x := ndAt a (ns.getD k default)); omega), ih.count, List.range_succ, List.countP_append]
    have : (need.getD k false && decide (bs.getD k 0 = b)) = true := by rw [hc.1, decide_eq_true hc.2]; rfl
    simp only [List.countP_cons, List.countP_nil, this]; simp
  ·rw [if_neg hc]
   refine ⟨ih.map, fun z hz => ?_, fun j hj h1 h2 => ?_, ih.nodup, ih.sorted, ?_⟩
   ·have := ih.mem z hz; exact ⟨this.1, by omega, this.2.2⟩
   ·by_cases he : j = k
    ·subst he; exact absurd ⟨h1, h2⟩ hc
    ·exact ih.all j (by omega) h1 h2
   ·rw [ih.count, List.range_succ, List.countP_append]
    have : (need.getD k false && decide (bs.getD k 0 = b)) = false := by
     cases hn : need.getD k false with
     | false => rfl
     | true => simp only [Bool.true_and]; exact decide_eq_false fun h2 => hc ⟨hn, h2⟩
    simp only [List.countP_cons, List.countP_nil, this]; simp
end Go.GL
namespace Go.GL
section
variable {ns : List Nd} {bs : List Int} {need : List Bool} {m : Nat}
variable {a : List Int}
theorem lv_len {b : Int} {k : Nat} : (lvM ns bs need a b k).1.length = (lvM ns bs need a b k).2.length := by rw [(lv_ok k).map]; simp
theorem mC (q : Nat) : ∀ l : List Nat, l.countP (fun j => need.getD j false && decide (0 ≤ bs.getD j 0 ∧ bs.getD j 0 < ((q + 1 : Nat) : Int))) =
  l.countP (fun j => need.getD j false && decide (0 ≤ bs.getD j 0 ∧ bs.getD j 0 < (q : Int))) + l.countP (fun j => need.getD j false && decide (bs.getD j 0 = (q : Int)))
 | [] => rfl
 | j :: l => by
  have ih := mC q l
  simp only [List.countP_cons, ih]
  by_cases h : need.getD j false = true
  ·simp only [h, Bool.true_and, decide_eq_true_eq]
   by_cases h1 : bs.getD j 0 = (q : Int)
   ·rw [if_pos (by omega), if_neg (by omega), if_pos h1]; omega
   ·by_cases h2 : 0 ≤ bs.getD j 0 ∧ bs.getD j 0 < (q : Int)
    ·rw [if_pos (by omega), if_pos h2, if_neg h1]; omega
    ·rw [if_neg (by omega), if_neg h2, if_neg h1]; omega
  ·have h' : need.getD j false = false := by simpa using h
   simp only [h', Bool.false_and]
   simp
theorem pF : ∀ q : Nat, (formGo ns bs need m q).2.length = (List.range m).countP fun j => need.getD j false && decide (0 ≤ bs.getD j 0 ∧ bs.getD j 0 < (q : Int)) := by
 intro q
 induction q with
 | zero =>
  refine (List.countP_eq_zero.2 fun j _ => ?_).symm
  intro h
  simp only [Bool.and_eq_true, decide_eq_true_eq] at h
  omega
 | succ q ih =>
  rw [fD, mC, ← ih]
  unfold formStep
  rw [gC lv_len, List.length_append, lv_len, (lv_ok m).count]
theorem go_len : ∀ q : Nat, (formGo ns bs need m q).1.length = m := by
 intro q
 induction q with
 | zero => simp [formGo]
 | succ q ih => rw [fD]; unfold formStep; rw [sM]; exact ih
def Lower (ns : List Nd) (bs : List Int) : Prop := ∀ z, z < ns.length → (∀ o ∈ (ns.getD z default).l, 0 ≤ o ∧ o < z ∧ bs.getD o.toNat 0 < bs.getD z 0) ∧ (∀ o ∈ (ns.getD z default).r, 0 ≤ o ∧ o < z ∧ bs.getD o.toNat 0 < bs.getD z 0)
theorem nd_stable {a' : List Int} {z : Int} (h1 : ∀ o ∈ (ns.getD z.toNat default).l, a.getD o.toNat 0 = a'.getD o.toNat 0) (h2 : ∀ o ∈ (ns.getD z.toNat default).r, a.getD o.toNat 0 = a'.getD o.toNat 0) : ndz ns a z = ndz ns a' z := by
 unfold ndz ndAt atL
 rw [List.map_congr_left h1, List.map_congr_left h2]
structure GoOk (ns : List Nd) (bs : List Int) (need : List Bool) (m q : Nat) (fa : List Int) (s : List Int × List Nd) : Prop where
 map : s.2 = fa.map (ndz ns s.1)
 pos : ∀ p, p < fa.length → s.1.getD (fa.getD p 0).toNat 0 = p
 mem : ∀ z ∈ fa, 0 ≤ z ∧ z < m ∧ 0 ≤ bs.getD z.toNat 0 ∧ bs.getD z.toNat 0 < q
 all : ∀ j, j < m → need.getD j false = true → 0 ≤ bs.getD j 0 → bs.getD j 0 < q → (j : Int) ∈ fa
 order : fa.Pairwise fun i j => bs.getD i.toNat 0 < bs.getD j.toNat 0 ∨ (bs.getD i.toNat 0 = bs.getD j.toNat 0 ∧ aheadI (ndz ns s.1 i) (ndz ns s.1 j) ≤ 0)
 nd : ∀ z ∈ fa, need.getD z.toNat false = true
theorem go_ok (hl : Lower ns bs) (hm : m ≤ ns.length) : ∀ q : Nat, ∃ fa, GoOk ns bs need m q fa (formGo ns bs need m q) := by
 intro q
 induction q with
 | zero => exact ⟨[], rfl, fun p hp => absurd hp (Nat.not_lt_zero p), fun z hz => (by cases hz), fun j _ _ h0 h1 => (by omega), List.Pairwise.nil, fun z hz => (by cases hz)⟩
 | succ q ih =>
  obtain ⟨fa, ih⟩ := ih
  rw [fD]
  unfold formStep
  have hlen := go_len (ns := ns) (bs := bs) (need := need) (m := m) q
  generalize hs : formGo ns bs need m q = s at ih hlen
  obtain ⟨a, o⟩ := s
  simp only at ih hlen ⊢
  have lv := lv_ok (ns := ns) (bs := bs) (need := need) (a := a) (b := (q : Int)) m
  have ll := lv_len (ns := ns) (bs := bs) (need := need) (a := a) (b := (q : Int)) (k := m)
  generalize hr : lvM ns bs need a q m = t at lv ll
  obtain ⟨ls, fr⟩ := t
  simp only at lv ll ⊢
  have hmem : ∀ z ∈ fr, 0 ≤ z ∧ z < m ∧ bs.getD z.toNat 0 = q := fun z hz => by have := lv.mem z hz; exact ⟨this.1, this.2.1, this.2.2.2⟩
  have hoth : ∀ z : Nat, bs.getD z 0 < q → (placeM ls fr a o).1.getD z 0 = a.getD z 0 := fun z hz => kM fun k hk he => by have := (hmem k hk).2.2; rw [he] at this; omega
  have hst : ∀ z : Int, 0 ≤ z → z < m → bs.getD z.toNat 0 ≤ q → ndz ns (placeM ls fr a o).1 z = ndz ns a z := fun z h0 h1 h2 => by
   have h3 := hl z.toNat (by omega)
   exact nd_stable (fun x hx => hoth _ (by have := h3.1 x hx; omega)) (fun x hx => hoth _ (by have := h3.2 x hx; omega))
  have im : o = fa.map (ndz ns a) := ih.map
  have lm : ls = fr.map (ndz ns a) := lv.map
  have hol : o.length = fa.length := by have := congrArg List.length im; simpa using this
  have e1 : fa.map (ndz ns (placeM ls fr a o).1) = o := (List.map_congr_left fun z hz => by have := ih.mem z hz; exact hst z this.1 this.2.1 (by omega)).trans im.symm
  have e2 : fr.map (ndz ns (placeM ls fr a o).1) = ls := (List.map_congr_left fun z hz => by have := hmem z hz; exact hst z this.1 this.2.1 (by omega)).trans lm.symm
  refine ⟨fa ++ fr, ?_, fun p hp => ?_, fun z hz => ?_, fun j hj h1 h2 h3 => ?_, ?_, fun z hz => (List.mem_append.1 hz).elim (ih.nd z) fun h => (lv.mem z h).2.2.1⟩
  ·rw [gC ll, List.map_append, e1, e2]
  ·by_cases hp' : p < fa.length
   ·rw [xH hp']
    have h4 : fa.getD p 0 ∈ fa := xE hp'
    rw [hoth _ (by have := ih.mem _ h4; omega)]
    exact ih.pos p hp'
   ·have e : (fa ++ fr).getD p 0 = fr.getD (p - fa.length) 0 := by simp [List.getD, List.getElem?_append_right (Nat.le_of_not_lt hp')]
    rw [List.length_append] at hp
    rw [e, nO ll lv.nodup (fun k hk => by have := hmem k hk; omega) (by omega), hol]
    omega
  ·rcases List.mem_append.1 hz with hz | hz
   ·have := ih.mem z hz; omega
   ·have := hmem z hz; omega
  ·by_cases he : bs.getD j 0 = q
   ·exact List.mem_append.2 (Or.inr (lv.all j hj h1 he))
   ·exact List.mem_append.2 (Or.inl (ih.all j hj h1 h2 (by omega)))
  ·refine List.pairwise_append.2 ⟨?_, ?_, fun x hx y hy => ?_⟩
   ·refine ih.order.imp_of_mem fun {x y} hx hy h => ?_
    have a1 := ih.mem x hx; have a2 := ih.mem y hy
    rw [hst x a1.1 a1.2.1 (by omega), hst y a2.1 a2.2.1 (by omega)]; exact h
   ·have h5 := lv.sorted
    simp only at h5
    rw [lm, List.pairwise_map] at h5
    refine h5.imp_of_mem fun {x y} hx hy h => ?_
    have a1 := hmem x hx; have a2 := hmem y hy
    rw [hst x a1.1 a1.2.1 (by omega), hst y a2.1 a2.2.1 (by omega)]
    exact Or.inr ⟨by omega, h⟩
   ·have a1 := ih.mem x hx; have a2 := hmem y hy
    exact Or.inl (by omega)
end
theorem fM {bs : List Int} : ∀ {l : List Int} {b : Int}, b ≤ bornOf bs l b ∧ ∀ o ∈ l, bs.getD o.toNat 0 + 1 ≤ bornOf bs l b
 | [], b => ⟨Int.le_refl _, fun o ho => (by cases ho)⟩
 | k :: l, b => by
  have ih := fM (bs := bs) (l := l) (b := max b (bs.getD k.toNat 0 + 1))
  have e : bornOf bs (k :: l) b = bornOf bs l (max b (bs.getD k.toNat 0 + 1)) := rfl
  rw [e]
  refine ⟨by omega, fun o ho => ?_⟩
  cases ho with
  | head => omega
  | tail _ ho => exact ih.2 o ho
theorem fK {ns : List Nd} (ho : OptsOk ns) : Lower ns (births ns) := fun z hz => by
 have hb := (qP ho).2 z hz
 have o := xW ho hz
 have h1 := fM (bs := births ns) (l := (ns.getD z default).r) (b := bornOf (births ns) (ns.getD z default).l 0)
 have h2 := fM (bs := births ns) (l := (ns.getD z default).l) (b := 0)
 unfold putBorn at hb
 exact ⟨fun x hx => by have := o.1 x hx; have := h2.2 x hx; omega, fun x hx => by have := o.2 x hx; have := h1.2 x hx; omega⟩
theorem pY {ns : List Nd} (ho : OptsOk ns) {z : Nat} (hz : z < ns.length) : 0 ≤ (births ns).getD z 0 := by
 have hb := (qP ho).2 z hz
 have h1 := fM (bs := births ns) (l := (ns.getD z default).r) (b := bornOf (births ns) (ns.getD z default).l 0)
 have h2 := fM (bs := births ns) (l := (ns.getD z default).l) (b := 0)
 unfold putBorn at hb
 omega
end Go.GL
namespace Go.GL
variable {j : Int} {ns : List Nd}
theorem idx_neg {l : List Bool} : (∀ i, i < l.length → l.getD i false = true) → idxFrom false j l = -1 := by
 induction l generalizing j with
 | nil => intro _; rfl
 | cons x r ih =>
  intro h
  have h0 := h 0 (by simp)
  have e : x = true := by simpa [List.getD] using h0
  unfold idxFrom
  rw [e, if_neg (by decide)]
  exact ih fun i hi => by have := h (i + 1) (by simpa using hi); simpa [List.getD] using this
theorem idx_all {l : List Bool} (hj : 0 ≤ j) (h : idxFrom false j l < 0) : ∀ i, i < l.length → l.getD i false = true := by
 induction l generalizing j with
 | nil => intro i hi; simp at hi
 | cons x r ih =>
  unfold idxFrom at h
  cases x with
  | false => rw [if_pos rfl] at h; omega
  | true =>
   rw [if_neg (by decide)] at h
   intro i hi
   match i with
   | 0 => rfl
   | i + 1 => have := ih (by omega) h i (by simpa using hi); simpa [List.getD] using this
theorem nH (h : 1 ≤ ns.length) : reachM ns (ns.length - 1) = usedM ns (ns.length - 1) := by
 unfold reachM usedM
 rw [show ns.length - 1 + 1 = ns.length by omega]
theorem nd_self (w : Wf ns) {k : Nat} (hk : k < ns.length) {a : List Int} (ha : ∀ i, i < k → a.getD i 0 = i) : ndAt a (ns.getD k default) = ns.getD k default := by
 have h := self_at w hk ha
 unfold ndAt
 rw [h.1, h.2]
 exact tG w hk
theorem sI (w : Wf ns) (hd : Diff ns) (h : 1 ≤ ns.length) : rootM [] [] ns = ((ns.length - 1 : Nat) : Int) := by
 unfold rootM
 rw [rN w hd]
 simp only [vC]
 exact tM (by omega)
theorem good_to (h : GoodS ns) : GoodP ns := by
 have w : Wf ns := ⟨gI h.fits h.rise, h.rise⟩
 have hlim := h.fits.lim
 have hao := jM qT w.ok (by simp; omega)
 have hroot := tH hao hlim.1
 have hsame := h.same
 have hcount := congrArg List.length hsame
 unfold formM at hcount
 rw [pF] at hcount
 have hle := List.countP_le_length (p := fun j => (reachM (addM [] [] ns).2.1 (rootM [] [] ns).toNat).getD j false && decide (0 ≤ (addM [] [] ns).2.2.getD j 0 ∧ (addM [] [] ns).2.2.getD j 0 < (((addM [] [] ns).2.2.getD (rootM [] [] ns).toNat 0).toNat + 1 : Nat))) (l := List.range ((rootM [] [] ns).toNat + 1))
 rw [hcount, List.length_range] at hle
 have hd : Diff ns := addM_diff w (by omega)
 rw [sI w hd hlim.1, rN w hd] at hsame
 simp only [Int.toNat_natCast] at hsame
 unfold formM at hsame
 rw [show ns.length - 1 + 1 = ns.length by omega] at hsame
 have hcnt := congrArg List.length hsame
 rw [pF] at hcnt
 have hall := List.countP_eq_length.1 (hcnt.trans List.length_range.symm)
 obtain ⟨fa, go⟩ := go_ok (need := reachM ns (ns.length - 1)) (fK w.ok.opts) (Nat.le_refl ns.length) (((births ns).getD (ns.length - 1) 0).toNat + 1)
 have hpr : ∀ j, j < ns.length → (reachM ns (ns.length - 1)).getD j false = true ∧ 0 ≤ (births ns).getD j 0 ∧ (births ns).getD j 0 < (((births ns).getD (ns.length - 1) 0).toNat + 1 : Nat) := fun j hj => by
  have := hall j (List.mem_range.2 hj)
  simp only [Bool.and_eq_true, decide_eq_true_eq] at this
  exact ⟨this.1, this.2.1, this.2.2⟩
 generalize hs : formGo ns (births ns) (reachM ns (ns.length - 1)) ns.length (((births ns).getD (ns.length - 1) 0).toNat + 1) = s at go hsame
 have hmap : ns = fa.map (ndz ns s.1) := hsame.symm.trans go.map
 have hlen : fa.length = ns.length := by have := congrArg List.length hmap; simpa using this.symm
 have hget : ∀ p, p < ns.length → ns.getD p default = ndz ns s.1 (fa.getD p 0) := fun p hp => by
  have e : (fa.map (ndz ns s.1)).getD p default = ndz ns s.1 (fa.getD p 0) := by simp [List.getD, hlen, hp]
  rw [← hmap] at e
  exact e
 have hfind : ∀ k, k < ns.length → ∃ p, p < ns.length ∧ fa.getD p 0 = k ∧ s.1.getD k 0 = p := fun k hk => by
  have hp := hpr k hk
  obtain ⟨p, hp1, hp2⟩ := List.getElem_of_mem (go.all k hk hp.1 hp.2.1 hp.2.2)
  have e : fa.getD p 0 = k := by simp [List.getD, hp1, hp2]
  have := go.pos p hp1
  rw [e] at this
  exact ⟨p, by omega, e, by simpa using this⟩
 have hid : ∀ k, k < ns.length → s.1.getD k 0 = k := by
  intro k
  induction k using Nat.strongRecOn with
  | _ k ih =>
   intro hk
   obtain ⟨p, hp, e1, e2⟩ := hfind k hk
   have e3 := hget p hp
   rw [e1] at e3
   have e4 : ndz ns s.1 (k : Int) = ns.getD k default := nd_self w hk fun i hi => ih i hi (by omega)
   rw [e4] at e3
   have : p = k := by
    by_cases h1 : p < k
    ·exact absurd e3 (hd p k h1 hk)
    ·by_cases h2 : k < p
     ·exact absurd e3.symm (hd k p h2 hp)
     ·omega
   rw [e2, this]
 have hfa : ∀ p, p < ns.length → fa.getD p 0 = p := fun p hp => by
  obtain ⟨q, hq, e1, e2⟩ := hfind p hp
  have := hid p hp
  have : q = p := by omega
  subst this; exact e1
 refine ⟨hlim.1, hlim.2, fun i hi => ?_, fun i h1 h2 => ?_, ?_⟩
 ·have := h.fits.opts i hi
  exact ⟨goodOpts_iff.2 ⟨this.1, (h.rise i hi).1⟩, goodOpts_iff.2 ⟨this.2, (h.rise i hi).2⟩⟩
 ·rw [pair_lt]
  have ho := List.pairwise_iff_getElem.1 go.order (i - 1) i (by omega) (by omega) (by omega)
  have e1 : fa[i - 1]'(by omega) = ((i - 1 : Nat) : Int) := by have := hfa (i - 1) (by omega); simpa [List.getD, show i - 1 < fa.length by omega] using this
  have e2 : fa[i]'(by omega) = (i : Int) := by have := hfa i h2; simpa [List.getD, show i < fa.length by omega] using this
  rw [e1, e2] at ho
  have n1 : ndz ns s.1 ((i - 1 : Nat) : Int) = ns.getD (i - 1) default := nd_self w (by omega) fun j hj => hid j (by omega)
  have n2 : ndz ns s.1 (i : Int) = ns.getD i default := nd_self w h2 fun j hj => hid j (by omega)
  rw [n1, n2] at ho
  simp only [Int.toNat_natCast] at ho
  rcases ho with ho | ⟨ho, ho'⟩
  ·exact Or.inl ho
  ·refine Or.inr ⟨ho, ?_⟩
   have : aheadI (ns.getD (i - 1) default) (ns.getD i default) ≠ 0 := fun e => hd (i - 1) i (by omega) h2 (ahead_zero.1 e)
   omega
 ·unfold idxB
  rw [idx_neg fun i hi => ?_]
  ·omega
  ·rw [← nH hlim.1] at hi ⊢
   rw [fH] at hi
   exact (hpr i (by omega)).1
end Go.GL
namespace Go.GL
theorem asc_idx {l : List Int} (h1 : l.Pairwise (· < ·)) (h2 : ∀ z ∈ l, 0 ≤ z) (h3 : ∀ z ∈ l, ∀ y : Int, 0 ≤ y → y < z → y ∈ l) : ∀ i, i < l.length → l.getD i 0 = i := by
 intro i
 induction i using Nat.strongRecOn with
 | _ i ih =>
  intro hi
  have hp := List.pairwise_iff_getElem.1 h1
  have e : ∀ j (hj : j < l.length), l.getD j 0 = l[j] := fun j hj => by simp [List.getD, hj]
  have hge : (i : Int) ≤ l.getD i 0 := by
   match i with
   | 0 => have := h2 _ (xE (d := (0 : Int)) hi); omega
   | i + 1 =>
    have a := ih i (by omega) (by omega)
    have b := hp i (i + 1) (by omega) hi (by omega)
    rw [e _ hi]; rw [e _ (by omega)] at a; omega
  by_cases hlt : (i : Int) < l.getD i 0
  ·have hm := h3 _ (xE (d := (0 : Int)) hi) i (by omega) hlt
   obtain ⟨j, hj1, hj2⟩ := List.getElem_of_mem hm
   by_cases hji : j < i
   ·have a := ih j hji hj1
    rw [e _ hj1, hj2] at a; omega
   ·by_cases hji' : j = i
    ·subst hji'; rw [e _ hi, hj2] at hlt; omega
    ·have b := hp i j hi hj1 (by omega)
     rw [e _ hi] at hlt; omega
  ·omega
def SortedB (ns : List Nd) (bs : List Int) : Prop := ∀ i j, i < j → j < ns.length → bs.getD i 0 < bs.getD j 0 ∨ (bs.getD i 0 = bs.getD j 0 ∧ aheadI (ns.getD i default) (ns.getD j default) < 0)
variable {ns : List Nd}
theorem sorted_all {bs : List Int} (h : ∀ i, 1 ≤ i → i < ns.length → pairC ns bs i < 0) : SortedB ns bs := by
 intro i j hij
 induction j with
 | zero => omega
 | succ j ih =>
  intro hj
  have h1 := pair_lt.1 (h (j + 1) (by omega) hj)
  simp only [Nat.add_sub_cancel] at h1
  by_cases he : i = j
  ·subst he; exact h1
  ·have h2 := ih (by omega) (by omega)
   rcases h1 with h1 | ⟨h1, h1'⟩ <;> rcases h2 with h2 | ⟨h2, h2'⟩
   ·exact Or.inl (by omega)
   ·exact Or.inl (by omega)
   ·exact Or.inl (by omega)
   ·exact Or.inr ⟨by omega, mG h2' h1'⟩
theorem map_idx {s : Nat} (h : s ≤ ns.length) {l : List Int} (hl : l.length = s) (hi : ∀ i, i < s → l.getD i 0 = i) {f : Int → Nd} (hf : ∀ i : Nat, i < s → f i = ns.getD i default) : l.map f = ns.take s := by
 apply List.ext_getElem
 ·simp; omega
 ·intro i h1 h2
  simp at h1
  have a := hi i (by omega)
  have b := hf i (by omega)
  have e : l[i] = (i : Int) := by simpa [List.getD, h1] using a
  simp only [List.getElem_map, List.getElem_take, e, b]
  simp [List.getD, show i < ns.length by omega]
theorem go_id {need : List Bool} (w : Wf ns) (hn : ∀ j, j < ns.length → need.getD j false = true) (hs : SortedB ns (births ns)) : ∀ q : Nat, ∃ s, s ≤ ns.length ∧ (formGo ns (births ns) need ns.length q).2 = ns.take s ∧
  (∀ k, k < s → (formGo ns (births ns) need ns.length q).1.getD k 0 = k) ∧ (∀ k, k < ns.length → ((births ns).getD k 0 < q ↔ k < s)) := by
 intro q
 induction q with
 | zero => exact ⟨0, Nat.zero_le _, rfl, fun k hk => absurd hk (Nat.not_lt_zero k), fun k hk => by have := pY w.ok.opts hk; omega⟩
 | succ q ih =>
  obtain ⟨s, hsl, ho, ha, hb⟩ := ih
  rw [fD]
  unfold formStep
  have hlen := go_len (ns := ns) (bs := births ns) (need := need) (m := ns.length) q
  generalize hg : formGo ns (births ns) need ns.length q = t at ho ha hlen
  obtain ⟨a, o⟩ := t
  simp only at ho ha hlen ⊢
  have lv := lv_ok (ns := ns) (bs := births ns) (need := need) (a := a) (b := (q : Int)) ns.length
  have ll := lv_len (ns := ns) (bs := births ns) (need := need) (a := a) (b := (q : Int)) (k := ns.length)
  generalize hr : lvM ns (births ns) need a q ns.length = t at lv ll
  obtain ⟨ls, fr⟩ := t
  have lm : ls = fr.map (ndz ns a) := lv.map
  have lmem : ∀ z ∈ fr, 0 ≤ z ∧ z < ns.length ∧ (births ns).getD z.toNat 0 = q := fun z hz => by have := lv.mem z hz; exact ⟨this.1, this.2.1, this.2.2.2⟩
  have lall : ∀ j : Nat, j < ns.length → (births ns).getD j 0 = q → (j : Int) ∈ fr := fun j hj h => lv.all j hj (hn j hj) h
  have lnd : fr.Nodup := lv.nodup
  have lso : ls.Pairwise (fun x y => aheadI x y ≤ 0) := lv.sorted
  simp only at ll ⊢
  have hlow := fK w.ok.opts
  have hnd : ∀ z ∈ fr, ndz ns a z = ns.getD z.toNat default := fun z hz => by
   have h1 := lmem z hz
   have h2 := hlow z.toNat (by omega)
   unfold ndz ndAt
   rw [atL_id fun x hx => by have h3 := h2.1 x hx; have h4 := ha x.toNat ((hb x.toNat (by omega)).1 (by omega)); exact ⟨h3.1, by rw [h4]; omega⟩,
    atL_id fun x hx => by have h3 := h2.2 x hx; have h4 := ha x.toNat ((hb x.toNat (by omega)).1 (by omega)); exact ⟨h3.1, by rw [h4]; omega⟩]
   exact tG w (by omega)
  have hasc : fr.Pairwise (· < ·) := by
   rw [lm, List.pairwise_map] at lso
   refine (lso.and lnd).imp_of_mem fun {x y} hx hy h => ?_
   have a1 := lmem x hx; have a2 := lmem y hy
   rw [hnd x hx, hnd y hy] at h
   by_cases hxy : x < y
   ·exact hxy
   ·exfalso
    have hne : x ≠ y := h.2
    rcases hs y.toNat x.toNat (by omega) (by omega) with h3 | ⟨_, h3⟩
    ·omega
    ·have := rM (ns.getD x.toNat default) (ns.getD y.toNat default); have := h.1; omega
  have hge : ∀ z ∈ fr, (s : Int) ≤ z := fun z hz => by
   have h1 := lmem z hz
   have h2 := hb z.toNat (by omega)
   by_cases h3 : (s : Int) ≤ z
   ·exact h3
   ·have := h2.2 (by omega); omega
  have hidx : ∀ i, i < (idx s ++ fr).length → (idx s ++ fr).getD i 0 = i := by
   refine asc_idx ?_ (fun z hz => ?_) (fun z hz y h0 hy => ?_)
   ·refine List.pairwise_append.2 ⟨?_, hasc, fun x hx y hy => ?_⟩
    ·refine List.pairwise_iff_getElem.2 fun i j h1 h2 h3 => ?_
     simp [idx]; omega
    ·have := hge y hy
     simp only [idx, List.mem_map, List.mem_range] at hx
     obtain ⟨i, hi, rfl⟩ := hx
     have : Int.ofNat i = (i : Int) := rfl
     omega
   ·rcases List.mem_append.1 hz with hz | hz
    ·simp only [idx, List.mem_map] at hz
     obtain ⟨i, _, rfl⟩ := hz
     exact Int.natCast_nonneg i
    ·exact (lmem z hz).1
   ·have hin : y < s → y ∈ idx s ++ fr := fun h => List.mem_append.2 (Or.inl (by
     simp only [idx, List.mem_map, List.mem_range]
     exact ⟨y.toNat, by omega, by have : Int.ofNat y.toNat = (y.toNat : Int) := rfl; omega⟩))
    by_cases hys : y < s
    ·exact hin hys
    ·rcases List.mem_append.1 hz with hz | hz
     ·simp only [idx, List.mem_map, List.mem_range] at hz
      obtain ⟨i, hi, rfl⟩ := hz
      have : Int.ofNat i = (i : Int) := rfl
      exact absurd hy (by omega)
     ·have h1 := lmem z hz
      have h2 := hb y.toNat (by omega)
      have h3 := hs y.toNat z.toNat (by omega) (by omega)
      have h4 : (births ns).getD y.toNat 0 = q := by
       have : ¬ (births ns).getD y.toNat 0 < q := fun h => hys (by have := h2.1 h; omega)
       rcases h3 with h3 | ⟨h3, _⟩ <;> omega
      have := lall y.toNat (by omega) h4
      exact List.mem_append.2 (Or.inr (by rwa [show ((y.toNat : Nat) : Int) = y by omega] at this))
  have hfi : ∀ i, i < fr.length → fr.getD i 0 = ((s + i : Nat) : Int) := fun i hi => by
   have := hidx (s + i) (by simp [vC]; omega)
   simpa [List.getD, List.getElem?_append_right, vC] using this
  have hs' : s + fr.length ≤ ns.length := by
   by_cases h0 : fr.length = 0
   ·omega
   ·have h1 := hfi (fr.length - 1) (by omega)
    have h2 := lmem _ (xE (d := (0 : Int)) (l := fr) (j := fr.length - 1) (by omega))
    omega
  refine ⟨s + fr.length, hs', ?_, fun k hk => ?_, fun k hk => ?_⟩
  ·rw [gC ll, ho, lm]
   have e0 : idx s ++ fr = idx s ++ fr := rfl
   have e1 : (idx s ++ fr).map (fun z => ns.getD z.toNat default) = ns.take (s + fr.length) := map_idx hs' (by simp [vC]) (fun i hi => hidx i (by simp [vC]; omega)) (fun i _ => by simp)
   have e2 : (idx s).map (fun z => ns.getD z.toNat default) = ns.take s := map_idx hsl (vC s) (fun i hi => tM hi) (fun i _ => by simp)
   rw [← e1, List.map_append, e2, List.map_congr_left hnd]
  ·by_cases hks : k < s
   ·rw [kM fun z hz he => by have := hge z hz; omega]
    exact ha k hks
   ·have h1 := hfi (k - s) (by omega)
    have h2 := nO (o := o) (a := a) ll lnd (fun z hz => by have := lmem z hz; omega) (i := k - s) (by omega)
    rw [h1] at h2
    have h3 : o.length = s := by rw [ho]; simp; omega
    rw [show ((s + (k - s) : Nat) : Int).toNat = k by omega] at h2
    rw [h2, h3]; omega
  ·have h1 := hb k hk
   constructor
   ·intro h
    by_cases h2 : (births ns).getD k 0 < q
    ·have := h1.1 h2; omega
    ·have h3 := lall k hk (by omega)
     obtain ⟨i, hi1, hi2⟩ := List.getElem_of_mem h3
     have h4 := hfi i hi1
     have : fr.getD i 0 = k := by simp [List.getD, hi1, hi2]
     omega
   ·intro h
    by_cases h2 : k < s
    ·have := h1.2 h2; omega
    ·have h3 := hfi (k - s) (by omega)
     have h4 := lmem _ (xE (d := (0 : Int)) (l := fr) (j := k - s) (by omega))
     rw [h3] at h4
     rw [show ((s + (k - s) : Nat) : Int).toNat = k by omega] at h4
     omega
theorem good_from (h : GoodP ns) : GoodS ns := by
 have hg : ∀ i, i < ns.length → ((ns.getD i default).l.length ≤ 24 ∧ Rise (ns.getD i default).l 0 ((i : Int) - 1)) ∧ ((ns.getD i default).r.length ≤ 24 ∧ Rise (ns.getD i default).r 0 ((i : Int) - 1)) := fun i hi => ⟨goodOpts_iff.1 (h.opts i hi).1, goodOpts_iff.1 (h.opts i hi).2⟩
 have hfit : FitsP ns := ⟨⟨h.lo, h.hi⟩, fun k hk => ⟨(hg k hk).1.1, (hg k hk).2.1⟩⟩
 have hrise : ∀ i, i < ns.length → Rise (ns.getD i default).l 0 ((i : Int) - 1) ∧ Rise (ns.getD i default).r 0 ((i : Int) - 1) := fun i hi => ⟨(hg i hi).1.2, (hg i hi).2.2⟩
 have w : Wf ns := ⟨gI hfit hrise, hrise⟩
 have hs := sorted_all h.sorted
 have hd : Diff ns := fun i j hij hj he => by
  have hb := qP w.ok.opts
  rcases hs i j hij hj with h1 | ⟨_, h1⟩
  ·rw [hb.2 i (by omega), hb.2 j hj, he] at h1; omega
  ·rw [ahead_zero.2 he] at h1; omega
 refine ⟨hfit, hrise, ?_⟩
 have hlo := h.lo
 rw [sI w hd h.lo, rN w hd]
 simp only [Int.toNat_natCast]
 unfold formM
 rw [show ns.length - 1 + 1 = ns.length by omega]
 have hu : ∀ j, j < ns.length → (reachM ns (ns.length - 1)).getD j false = true := fun j hj => by
  have h1 := h.used
  rw [← nH h.lo] at h1
  exact idx_all (Int.le_refl 0) h1 j (by rw [fH]; omega)
 obtain ⟨s, hsl, ho, _, hb⟩ := go_id w hu hs (((births ns).getD (ns.length - 1) 0).toNat + 1)
 rw [ho]
 have h1 := (hb (ns.length - 1) (by omega)).1 (by omega)
 exact List.take_of_length_le (by omega)
theorem good_iff : GoodS ns ↔ GoodP ns := ⟨good_to, good_from⟩
theorem mU (ns : List Nd) : decP (GoodS ns) = goodB ns := decP_iff good_iff
end Go.GL
namespace Go.GL
end Go.GL
namespace Go.GL
open Go Go.RowKit
structure Cl where
 a : Int
 b : Int
 r : List Int
 l : List Int
deriving DecidableEq, Inhabited
def eClaim : Elt Cl where
 size := 4
 rep := fun G cs n => ∃ u v, cs = [.int .i64 n.a, .int .i64 n.b, u, v] ∧ RSl eInt G u n.r ∧ RSl eInt G v n.l
 mono := fun hg ⟨u, v, h1, h2, h3⟩ => ⟨u, v, h1, h2.mono hg, h3.mono hg⟩
 len := fun ⟨u, v, h1, h2, h3⟩ => by rw [h1]; rfl
 one := fun ⟨u, v, h1, h2, h3⟩ x hx => by
  obtain ⟨a, c, e1, _⟩ := h2.sl
  obtain ⟨a', c', e2, _⟩ := h3.sl
  rw [h1] at hx; simp at hx
  rcases hx with rfl | rfl | rfl | rfl
  ·rfl
  ·rfl
  ·subst e1; rfl
  ·subst e2; rfl
def RunsAgg (Gr : Pin) (v : Value) (z : Int) (size : Nat) (cs : List Value) : Prop :=
 ∀ {P : Program} {w : World} {d : Option Nat} {t ty : Nat} {pos : String} {aft : Array Edge} {g : Option (Nat × Bool)} {x : Operand} {ρ : Operand → Value} (_ : (P.underlying t).map aggD = some true) (_ : (P.info? t).map (·.size) = some size)
  (_ : ρ x = eptr v z size 0) (_ : Pins Gr w), (execOp ρ ⟨d, .load t x, ty, pos, aft, g⟩).run P w = .ok (.value (.agg cs.toArray)) w
def RunsCell (Gr : Pin) (v : Value) (z : Int) (size k : Nat) (u : Value) : Prop :=
 ∀ {P : Program} {w : World} {d : Option Nat} {t ty : Nat} {pos : String} {aft : Array Edge} {g : Option (Nat × Bool)} {x : Operand} {ρ : Operand → Value} (_ : (P.underlying t).map aggD = some false)
  (_ : ρ x = eptr v z size k) (_ : Pins Gr w), (execOp ρ ⟨d, .load t x, ty, pos, aft, g⟩).run P w = .ok (.value u) w
theorem qO {α : Type} {E : Elt α} {Gr G : Pin} {v : Value} {z : Int} {xs : List α} {j : Nat} (d : α) (hv : At E Gr G v xs z) (hj : z.toNat = j) :
  ∃ cs, E.rep G cs (xs.getD j d) ∧ RunsAgg Gr v z E.size cs ∧ ∀ k u, cs[k]? = some u → RunsCell Gr v z E.size k u := by
 obtain ⟨b, o, cs, e, he, hr, hp, hc⟩ := hv
 rw [hj] at he
 have hx : xs.getD j d = e := by rw [List.getD, he]; rfl
 have hl := E.len hr
 refine ⟨cs, by rw [hx]; exact hr, ?_, fun k u hu => ?_⟩
 ·intro P w d t ty pos aft g x ρ ha hs hρ hP
  exact zU (cs := cs) (b := b) (o := o) ha (by rw [hs, hl]) (hρ.trans (hp 0)) fun i u hi => hP _ _ _ (hc i u hi)
 ·intro P w d t ty pos aft g x ρ ha hρ hP
  exact zP (b := b) (o := o + k) ha (hρ.trans (hp k)) (hP _ _ _ (hc k u hu))
end Go.GL
namespace Go.GL
def ndC (c : Cl) : Nd := ⟨c.r, c.l⟩
variable {j : Nat}
theorem eqstepG {α : Type} {xs ys : List α} {d : α} (hp : ∀ i, i < j → xs.getD i d = ys.getD i d) (h : xs.getD j d = ys.getD j d) : ∀ i, i < j + 1 → xs.getD i d = ys.getD i d := fun i hi => by
 by_cases he : i = j
 ·subst he; exact h
 ·exact hp i (by omega)
theorem eqdoneG {α : Type} {xs ys : List α} {d : α} (hl : xs.length = ys.length) (hj : xs.length ≤ j) (hp : ∀ i, i < j → xs.getD i d = ys.getD i d) : xs = ys := by
 apply List.ext_getElem hl
 intro i h1 h2
 have := hp i (by omega)
 simpa [List.getD, h1, h2] using this
def rightsP (asx bs : List Nd) (r y : Int) : List (Int × Int) := ((asx.getD r.toNat default).l.map fun l => (l, y)) ++ ((bs.getD y.toNat default).r.map fun k => (r, k))
def leftsP (asx bs : List Nd) (x l : Int) : List (Int × Int) := ((asx.getD x.toNat default).l.map fun k => (k, l)) ++ ((bs.getD l.toNat default).r.map fun r => (x, r))
def prC (c : Cl) : Int × Int := (c.a, c.b)
end Go.GL
namespace Go.GL
variable {asx bs : List Nd} {a b : Int}
theorem map_next {α β : Type} {f : α → β} {l : List α} {q : Nat} (d : α) (h : q < l.length) : (l.take q).map f ++ [f (l.getD q d)] = (l.take (q + 1)).map f := by
 rw [vU l d h, List.map_append, List.map_cons, List.map_nil]
theorem mem_rights {r y : Int} : (a, b) ∈ rightsP asx bs r y ↔ (b = y ∧ a ∈ (asx.getD r.toNat default).l) ∨ (a = r ∧ b ∈ (bs.getD y.toNat default).r) := by
 unfold rightsP
 simp only [List.mem_append, List.mem_map, Prod.mk.injEq]
 constructor
 ·rintro (⟨l, h1, rfl, rfl⟩ | ⟨k, h1, rfl, rfl⟩)
  ·exact Or.inl ⟨rfl, h1⟩
  ·exact Or.inr ⟨rfl, h1⟩
 ·rintro (⟨rfl, h1⟩ | ⟨rfl, h1⟩)
  ·exact Or.inl ⟨_, h1, rfl, rfl⟩
  ·exact Or.inr ⟨_, h1, rfl, rfl⟩
theorem mem_lefts {x l : Int} : (a, b) ∈ leftsP asx bs x l ↔ (b = l ∧ a ∈ (asx.getD x.toNat default).l) ∨ (a = x ∧ b ∈ (bs.getD l.toNat default).r) := mem_rights
theorem jD {α : Type} {l : List α} {j : Nat} {d : α} (h : j < l.length) : l.getD j d ∈ l := by
 simp [List.getD, h]
theorem not_mem_of {α : Type} {l : List α} {n d : α} (h : ∀ i, i < l.length → l.getD i d ≠ n) : n ∉ l := fun hm => by
 obtain ⟨i, hi, rfl⟩ := List.getElem_of_mem hm
 exact h i hi (by simp [List.getD, hi])
end Go.GL
namespace Go.GL
theorem cl_ext {c d : Cl} (h1 : c.a = d.a) (h2 : c.b = d.b) (h3 : c.r = d.r) (h4 : c.l = d.l) : c = d := by
 obtain ⟨a, b, r, l⟩ := c
 obtain ⟨a', b', r', l'⟩ := d
 simp only at h1 h2 h3 h4
 subst h1 h2 h3 h4; rfl
end Go.GL
namespace Go.GL
end Go.GL
namespace Go.GL
open Go Go.RowKit Go.Deep Go.ChangeAt Go.ChangeShapes Go.WideShapes
def Gall (w : World) : Pin := fun b o u => w.cell? ⟨b, o, none⟩ = some u
theorem Gall.pins (w : World) : Pins (Gall w) w := fun _ _ _ h => h
section
variable {H : Type} {enc : TypeId × Value → H} {P : Program} {w : World} {base : Nat} {spare : Nat → Bool} {held : Bool}
def Reads {α : Type} (enc : TypeId × Value → H) (P : Program) (w : World) (base : Nat) (spare : Nat → Bool) (held : Bool) (E : Elt α) (t : TypeId) : Prop :=
 ∀ fuel cs x, DataW.trod enc P w base spare held fuel t cs = some x → ∃ y, E.rep (Gall w) cs y
variable {t e : TypeId}
theorem reads_byte (ht : P.underlying t = some (.int .u8)) : Reads enc P w base spare held eByte t := fun fuel cs x h => by
 obtain ⟨n, rfl, _, hw⟩ := DataW.trod_int ht h
 have hb : 0 ≤ n ∧ n ≤ 255 := by
  simp [Lit.wf, IntKind.min, IntKind.max, IntKind.signed, IntKind.bits] at hw
  omega
 refine ⟨UInt8.ofNat n.toNat, ?_⟩
 show [Value.int .u8 n] = [.int .u8 ((UInt8.ofNat n.toNat).toNat : Int)]
 have : ((UInt8.ofNat n.toNat).toNat : Int) = n := by
  rw [UInt8.toNat_ofNat']
  omega
 rw [this]
theorem add_of {a : Addr} {i b o : Nat} (h : a.add i = ⟨b, o, none⟩) (k : Nat) : a.add (i + k) = ⟨b, o + k, none⟩ := by
 obtain ⟨ab, ao, asx⟩ := a
 simp only [Addr.add] at h ⊢
 split at h
 ·rename_i hi; subst hi
  simp only [Addr.mk.injEq] at h
  obtain ⟨rfl, rfl, rfl⟩ := h
  split
  ·rename_i hk
   have : k = 0 := by omega
   subst this; rfl
  ·simp
 ·simp only [Addr.mk.injEq, and_true] at h
  obtain ⟨rfl, rfl⟩ := h
  rw [if_neg (by omega)]
  simp only [Addr.mk.injEq, and_true, true_and]
  omega
theorem mD {α : Type} {p : Nat → α → Prop} : ∀ {n : Nat}, (∀ i, i < n → ∃ x, p i x) → ∃ xs : List α, xs.length = n ∧ ∀ i y, xs[i]? = some y → p i y
 | 0, _ => ⟨[], rfl, fun i y hy => by simp at hy⟩
 | n + 1, h => by
  obtain ⟨xs, hl, hp⟩ := mD (n := n) fun i hi => h i (by omega)
  obtain ⟨x, hx⟩ := h n (by omega)
  refine ⟨xs ++ [x], by simp [hl], fun i y hy => ?_⟩
  rw [List.getElem?_append] at hy
  split at hy
  ·exact hp i y hy
  ·rename_i hi
   have hi2 : i < (xs ++ [x]).length := by
    have : i - xs.length < 1 := by
     have := (List.getElem?_eq_some_iff.1 hy).1
     simpa using this
    simp; omega
   have : i = n := by simp at hi2; omega
   subst this
   have e : i - xs.length = 0 := by omega
   rw [e] at hy
   simp at hy
   subst hy; exact hx
theorem reads_slice {α : Type} {E : Elt α} (ht : P.underlying t = some (.slice e)) (he : P.cellsOf e = E.size) (hs : 0 < E.size) (hE : Reads enc P w base spare held E e)
  {fuel : Nat} {cs : List Value} {x : DataW H × List MemPlace} (h : DataW.trod enc P w base spare held fuel t cs = some x) : ∃ v xs, cs = [v] ∧ RSl E (Gall w) v xs := by
 rcases open_slice ht h with ⟨rfl, _⟩ | ⟨a, len, cap, m, n, D, Pl, rfl, _, hl, hm, hmm, rfl, hx⟩
 ·exact ⟨_, [], rfl, ⟨none, 0, rfl, Nat.le_refl _, Nat.zero_le _⟩, fun i x hx => by simp at hx⟩
 ·have hle : len ≤ m := by rw [hmm]; split <;> omega
  have key : ∀ i, i < len → ∃ y, ∃ cs' : List Value, w.cells? base (a.add (i * E.size)) E.size = some cs' ∧ E.rep (Gall w) cs' y := fun i hi => by
   obtain ⟨cs', h1, h2⟩ := hx i (by omega)
   rw [he] at h1
   obtain ⟨y, hy⟩ := hE _ _ _ h2
   exact ⟨y, cs', h1, hy⟩
  obtain ⟨xs, hxl, hf⟩ := mD (α := α) (p := fun i y => ∃ cs' : List Value, w.cells? base (a.add (i * E.size)) E.size = some cs' ∧ E.rep (Gall w) cs' y) key
  subst hxl
  refine ⟨_, xs, rfl, ⟨some a, cap, rfl, hl, hm⟩, fun i y hy => ?_⟩
  obtain ⟨cs', h1, h2⟩ := hf i y hy
  obtain ⟨_, hlen, hcell⟩ := World.cells?_some h1
  have hc0 := hcell 0 (by omega)
  obtain ⟨b, o, hab⟩ : ∃ b o, a.add (i * E.size) = ⟨b, o, none⟩ := by
   cases hq : a.add (i * E.size) with
   | mk b o s =>
    rw [hq] at hc0
    have hz : cs'[0]? = some cs'[0] := List.getElem?_eq_getElem (by rw [hlen]; exact hs)
    have : (⟨b, o, s⟩ : Addr).add 0 = ⟨b, o, s⟩ := rfl
    rw [this] at hc0
    have hsp : s = none := by
     have h3 : w.cell? ⟨b, o, s⟩ = some cs'[0] := by simpa [hz] using hc0
     simpa using World.cell?_spot h3
    exact ⟨b, o, by rw [hsp]⟩
  refine ⟨a, b, o, _, _, cs', rfl, fun k => add_of hab k, h2, fun j u hj => ?_⟩
  have hjl : j < E.size := by
   have := (List.getElem?_eq_some_iff.1 hj).1
   omega
  have := hcell j hjl
  rw [hab] at this
  have e2 : (⟨b, o, none⟩ : Addr).add j = ⟨b, o + j, none⟩ := by
   simp only [Addr.add]
   split
   ·rename_i h; subst h; rfl
   ·rfl
  rw [e2] at this
  unfold Gall
  simp_all
theorem arg_slice {α : Type} {E : Elt α} {r : Reach} {b0 : Nat} {v : Value} {d : DataW H} {p : List MemPlace} (ht : P.underlying t = some (.slice e)) (he : P.cellsOf e = E.size) (hs : 0 < E.size) (hE : Reads enc P w base spare held E e)
  (hv : Value.okWide P w r b0 t v) (h : DataW.Trod enc P w base spare held t v d p) : ∃ xs, RSl E (Gall w) v xs := by
 obtain ⟨a, len, cap, rfl⟩ := okWide_slice ht hv
 obtain ⟨fuel, hf⟩ := h
 obtain ⟨u, xs, hcs, hr⟩ := reads_slice ht he hs hE hf
 have : u = .slice a len cap := by
  have h2 : [Value.slice a len cap] = [u] := hcs
  simpa using h2.symm
 subst this
 exact ⟨xs, hr⟩
end
end Go.GL
