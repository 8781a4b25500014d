/- Texts of this claim in one file: Deep, Text, Table, Part, Game, Den, Ord, Map, Key, Sort, Sg, Pool, Opts, Load, Great, Uniq, Dom, Rev, Canon, Red, Parts, Rank, SortF, Frm, Bud, Bkq, Sum, Make, Tiny, LitA, Draw, DrwF, OrdS, Num, Int2, Numb, Fit, Win, Laws, Three. -/
import Derived.Test.YtajkbplgbikgdaaGreatDoorOr2
import Derived.Lib.SliceRun
import Derived.Lib.Join
import Derived.Carry
import Derived.MapKept
import Derived.Laws.BytesString
import Derived.Sort.Row
import Derived.Sort.Grow
import Derived.Lib.SlicesCompact
import Derived.Shelf.SlSortCmp.NoneTotal
import Derived.Lib.QuietBelow
namespace Go.GL
open Go Go.RowKit
def eVal : Elt Value where
 size := 1
 rep := fun _ cs v => cs = [v] ∧ v.oneCell' = true
 mono := fun _ h => h
 len := fun h => by rw [h.1]; rfl
 one := fun h u hu => by rw [h.1] at hu; simp at hu; subst hu; exact h.2
def eVal2 : Elt (Value × Value) where
 size := 2
 rep := fun _ cs p => cs = [p.1, p.2] ∧ p.1.oneCell' = true ∧ p.2.oneCell' = true
 mono := fun _ h => h
 len := fun h => by rw [h.1]; rfl
 one := fun h u hu => by
  rw [h.1] at hu; simp at hu
  rcases hu with rfl | rfl
  ·exact h.2.1
  ·exact h.2.2
def Flat {α : Type} (E : Elt α) : Prop := ∀ {G G' : Pin} {cs : List Value} {x : α}, E.rep G cs x → E.rep G' cs x
theorem flat_int : Flat eInt := fun h => h
theorem Own.anti {α : Type} {E : Elt α} {e base : Nat} {G G' : Pin} {w : World} {v : Value} {xs : List α} (hE : Flat E) (h : Own E e G' w base v xs) (hg : Pin.le G G') : Own E e G w base v xs := by
 obtain ⟨cells, h1, h2⟩ := h.ex
 exact ⟨⟨cells, h1, fun i x hx => hE (h2 i x hx)⟩, fun k hk o u hu => h.free k hk o u (hg _ _ _ hu)⟩
theorem RSl.conv {α β : Type} {E : Elt α} {F : Elt β} {G : Pin} {v : Value} {xs : List α} {ys : List β} (h : RSl E G v xs) (hl : ys.length = xs.length) (hs : F.size = E.size) (hr : ∀ (i : Nat) x y cs, xs[i]? = some x → ys[i]? = some y → E.rep G cs x → F.rep G cs y) : RSl F G v ys := by
 refine ⟨?_, fun i y hy => ?_⟩
 ·obtain ⟨a, c, h1, h2, h3⟩ := h.sl
  exact ⟨a, c, by rw [hl]; exact h1, by rw [hl]; exact h2, h3⟩
 ·have hi : i < xs.length := by have := (List.getElem?_eq_some_iff.1 hy).1; omega
  obtain ⟨a, b, o, n, c, cs, h1, h2, h3, h4⟩ := h.at_ i _ (List.getElem?_eq_getElem hi)
  exact ⟨a, b, o, n, c, cs, h1, by rw [hs]; exact h2, hr i _ y cs (List.getElem?_eq_getElem hi) hy h3, h4⟩
abbrev Leaf := Value × List Int
structure Lvs (e : Nat) (G : Pin) (w : World) (lo hi : Nat) (L : List Leaf) : Prop where
 own : ∀ p ∈ L, Own eInt e G w lo p.1 p.2
 hi : ∀ p ∈ L, ∀ k, p.1.ownBlock = some k → k < hi
 ap : L.Pairwise fun p q => Apart p.1.ownBlock q.1.ownBlock
def ApL (L : List Leaf) (x : Option Nat) : Prop := ∀ p ∈ L, Apart p.1.ownBlock x
section
variable {e lo hi : Nat} {G G' : Pin} {w w' : World} {L L' : List Leaf}
theorem Lvs.nil : Lvs e G w lo hi [] := ⟨fun _ hp => (List.not_mem_nil hp).elim, fun _ hp => (List.not_mem_nil hp).elim, List.Pairwise.nil⟩
theorem ApL.nil {x : Option Nat} : ApL [] x := fun _ hp => (List.not_mem_nil hp).elim
theorem Lvs.ge (h : Lvs e G w lo hi L) : ∀ p ∈ L, ∀ k, p.1.ownBlock = some k → lo ≤ k ∧ k < w.heap.size := fun p hp k hk => (h.own p hp).lt k hk
theorem Lvs.map (h : Lvs e G w lo hi L) (f : ∀ p ∈ L, Own eInt e G w lo p.1 p.2 → Own eInt e G' w' lo p.1 p.2) : Lvs e G' w' lo hi L := ⟨fun p hp => f p hp (h.own p hp), h.hi, h.ap⟩
theorem Lvs.below (h : Lvs e G w lo hi L) (hb : Below w.heap.size w w') : Lvs e G w' lo hi L := h.map fun _ _ ho => ho.below hb
theorem Lvs.ext (h : Lvs e G w lo hi L) (hx : Ext noS G w G' w') : Lvs e G' w' lo hi L := h.map fun _ _ ho => ho.ext hx
theorem Lvs.extS {S : Nat → Prop} (h : Lvs e G w lo hi L) (hx : Ext S G w G' w') (hS : ∀ k, lo ≤ k → k < hi → ¬ S k) : Lvs e G' w' lo hi L :=
 h.map fun p hp ho => ho.extS hx fun k hk => hS k (ho.lt k hk).1 (h.hi p hp k hk)
theorem Lvs.kept {row : Option Nat} (h : Lvs e G w lo hi L) (hg : w.grownBy w' row) (ha : ApL L row) : Lvs e G w' lo hi L := h.map fun p hp ho => ho.keptA hg (ha p hp)
theorem Lvs.more {b : Nat} (h : Lvs e G w lo hi L) (hl : Pin.le G G') (hf : ∀ k o u, G' k o u → G k o u ∨ k = b) (ha : ApL L (some b)) : Lvs e G' w lo hi L := h.map fun p hp ho => ho.moreA hl hf (ha p hp)
theorem Lvs.weaken {lo' hi' : Nat} (h : Lvs e G w lo hi L) (hl : lo' ≤ lo) (hh : hi ≤ hi') : Lvs e G w lo' hi' L :=
 ⟨fun p hp => (h.own p hp).weaken hl, fun p hp k hk => Nat.lt_of_lt_of_le (h.hi p hp k hk) hh, h.ap⟩
theorem Lvs.top (h : Lvs e G w lo hi L) : Lvs e G w lo w.heap.size L := ⟨h.own, fun p hp k hk => ((h.own p hp).lt k hk).2, h.ap⟩
theorem Lvs.perm (h : Lvs e G w lo hi L) (hp : L.Perm L') : Lvs e G w lo hi L' :=
 ⟨fun p hq => h.own p (hp.mem_iff.2 hq), fun p hq => h.hi p (hp.mem_iff.2 hq), (hp.pairwise_iff (fun {a b} (x : Apart a.1.ownBlock b.1.ownBlock) => x.symm)).1 h.ap⟩
theorem ApL.perm {x : Option Nat} (h : ApL L x) (hp : L.Perm L') : ApL L' x := fun p hq => h p (hp.mem_iff.2 hq)
theorem Lvs.add {u : Value} {xs : List Int} (h : Lvs e G w lo w.heap.size L) (ho : Own eInt e G w lo u xs) (ha : ApL L u.ownBlock) : Lvs e G w lo w.heap.size (L ++ [(u, xs)]) := by
 refine ⟨fun p hp => ?_, fun p hp k hk => ?_, ?_⟩
 ·rcases List.mem_append.1 hp with h1 | h1
  ·exact h.own p h1
  ·simp at h1; subst h1; exact ho
 ·rcases List.mem_append.1 hp with h1 | h1
  ·exact h.hi p h1 k hk
  ·simp at h1; subst h1; exact (ho.lt k hk).2
 ·refine List.pairwise_append.2 ⟨h.ap, by simp, fun a ha' b hb => ?_⟩
  simp at hb; subst hb; exact ha a ha'
theorem ApL.add {u : Value} {xs : List Int} {x : Option Nat} (h : ApL L x) (hu : Apart u.ownBlock x) : ApL (L ++ [(u, xs)]) x := fun p hp => by
 rcases List.mem_append.1 hp with h1 | h1
 ·exact h p h1
 ·simp at h1; subst h1; exact hu
theorem ApL.fresh {x : Option Nat} (h : Lvs e G w lo hi L) (hx : ∀ k, x = some k → w.heap.size ≤ k) : ApL L x := fun p hp k hk hk' => by
 have h1 := ((h.own p hp).lt k hk).2; have h2 := hx k hk'; omega
theorem ApL.app {u v : Value} (h : Lvs e G w lo hi L) (ha : ApL L u.ownBlock) (hw : v.ownBlock = u.ownBlock ∨ ∃ k, v.ownBlock = some k ∧ w.heap.size ≤ k) : ApL L v.ownBlock := fun p hp =>
 zJ (ha p hp) hw (fun k hk => (h.own p hp).lt k hk)
def GLv (G : Pin) (w : World) (L : List Leaf) : Pin := fun b o u => G b o u ∨ ((∃ p ∈ L, p.1.ownBlock = some b) ∧ w.cell? ⟨b, o, none⟩ = some u)
theorem GLv.le : Pin.le G (GLv G w L) := fun _ _ _ h => Or.inl h
theorem GLv.pins (h : Pins G w) : Pins (GLv G w L) w := fun b o u hu => by
 rcases hu with hu | hu
 ·exact h b o u hu
 ·exact hu.2
theorem Lvs.read (h : Lvs e G w lo hi L) {p : Leaf} (hp : p ∈ L) : RSl eInt (GLv G w L) p.1 p.2 :=
 (h.own p hp).read.mono fun b o u hu => by
  rcases hu with h1 | h1
  ·exact Or.inl h1
  ·exact Or.inr ⟨⟨p, hp, h1.1⟩, h1.2⟩
end
def lvN (ps : List (Value × Value)) (ns : List Nd) : List Leaf := (ps.zip ns).flatMap fun q => [(q.1.1, q.2.l), (q.1.2, q.2.r)]
structure DForm (en e : Nat) (G : Pin) (w : World) (lo hi : Nat) (v : Value) (ns : List Nd) : Prop where
 ex : ∃ ps, ps.length = ns.length ∧ Own eVal2 en G w lo v ps ∧ (∀ k, v.ownBlock = some k → k < hi) ∧ Lvs e G w lo hi (lvN ps ns) ∧ ApL (lvN ps ns) v.ownBlock
theorem sQ {ps : List (Value × Value)} {ns : List Nd} {i : Nat} {p : Value × Value} {n : Nd} (hp : ps[i]? = some p) (hn : ns[i]? = some n) : (p.1, n.l) ∈ lvN ps ns ∧ (p.2, n.r) ∈ lvN ps ns := by
 have : (p, n) ∈ ps.zip ns := List.mem_of_getElem? (i := i) (by rw [List.getElem?_zip_eq_some]; exact ⟨hp, hn⟩)
 unfold lvN
 exact ⟨List.mem_flatMap.2 ⟨_, this, by simp⟩, List.mem_flatMap.2 ⟨_, this, by simp⟩⟩
section
variable {en e lo hi : Nat} {G G' : Pin} {w w' : World} {v : Value} {ns : List Nd}
theorem DForm.kept {b : Nat} (h : DForm en e G w lo hi v ns) (hg : w.grownBy w' (some b)) (hb : hi ≤ b ∨ b < lo) : DForm en e G w' lo hi v ns := by
 obtain ⟨ps, h1, h2, h3, h4, h5⟩ := h.ex
 exact ⟨⟨ps, h1, h2.keptA hg (fun k a c => by cases c; have := h3 _ a; have := (h2.lt _ a).1; omega), h3, h4.kept hg (fun p hp k a c => by cases c; have := h4.hi p hp _ a; have := (h4.ge p hp _ a).1; omega), h5⟩⟩
theorem DForm.read (h : DForm en e G w lo hi v ns) (hP : Pins G w) : ∃ G', Pin.le G G' ∧ Pins G' w ∧ RSl eNode G' v ns ∧ ∀ b o x, G' b o x → G b o x ∨ lo ≤ b := by
 obtain ⟨ps, h1, h2, h3, h4, h5⟩ := h.ex
 refine ⟨GLv (Gadd G w v) w (lvN ps ns), dN (Gadd.le _ _ _) GLv.le, GLv.pins (Gadd.pins hP v), (h2.read.mono GLv.le).conv h1.symm rfl fun i p n cs hp hn hr => ?_, fun b o x hx => ?_⟩
 rotate_left
 ·rcases hx with (a | a) | a
  ·exact Or.inl a
  ·exact Or.inr (h2.lt b a.1).1
  ·obtain ⟨⟨p, hp, hk⟩, _⟩ := a
   exact Or.inr ((h4.own p hp).lt b hk).1
 have hm := sQ hp hn
 obtain ⟨rfl, _, _⟩ := hr
 have key : ∀ q ∈ lvN ps ns, RSl eInt (GLv (Gadd G w v) w (lvN ps ns)) q.1 q.2 := fun q hq =>
  (h4.read hq).mono fun b o u hu => by
   rcases hu with a | a
   ·exact Or.inl (Or.inl a)
   ·exact Or.inr a
 exact ⟨_, _, rfl, key _ hm.1, key _ hm.2⟩
end
section
variable {er e lo hi : Nat} {G G' : Pin} {w w' : World} {u v : Value} {ls rs : List (List Int)}
end
theorem Own.up {α : Type} {E : Elt α} {e base lo : Nat} {G : Pin} {w : World} {v : Value} {xs : List α} (h : Own E e G w base v xs) (hl : ∀ k, v.ownBlock = some k → lo ≤ k) : Own E e G w lo v xs := by
 obtain ⟨cells, ⟨hc, hown⟩, hr⟩ := h.ex
 refine ⟨⟨cells, ⟨hc, ?_⟩, hr⟩, h.free⟩
 rcases hown with hn | ⟨g, cap, cur, h1, h2, h3⟩
 ·exact .inl hn
 ·exact .inr ⟨g, cap, cur, h1, hl g (by rw [h1]; rfl), h3⟩
def inR (lo hi : Nat) (k : Nat) : Prop := lo ≤ k ∧ k < hi
section
variable {P : Program} {ρ : Operand → Value} {w : World} {d : Option Nat} {t e ty t' : Nat} {pos : String} {aft : Array Edge} {g : Option (Nat × Bool)} {x y : Operand}
def nilSl : Value → Bool
 | .slice none _ _ => true
 | _ => false
theorem r_eqlNil {α : Type} {E : Elt α} {G : Pin} {v : Value} {xs : List α} (ht : P.underlying t = some (.slice e)) (hv : RSl E G v xs) (hx : ρ x = v) (hy : ρ y = .slice none 0 0) :
  (execOp ρ ⟨d, .binOp .eql t x y t', ty, pos, aft, g⟩).run P w = .ok (.value (.bool (nilSl v))) w := by
 obtain ⟨a, c, rfl, _⟩ := hv.sl
 have h := Go.Lib.run_eql_slice_nil (P := P) w t e a xs.length c 0 0 ht
 simp only [execOp, hx, hy]
 cases a <;> simp [eqGuard, nilSl, h]
theorem nil_of {α : Type} {E : Elt α} {G : Pin} {v : Value} {xs : List α} (hv : RSl E G v xs) (h : nilSl v = true) : xs = [] := by
 match xs, hv with
 | [], _ => rfl
 | x :: r, hv =>
  obtain ⟨a, b, o, n, c, cs, h1, _⟩ := hv.at_ 0 x rfl
  rw [h1] at h; cases h
end
theorem jW {P : Program} {n : Nat} {env : Nat → Value} {w : World} {fn : Func} {R : Ending → World → Prop} {s t b i : Nat} {cs : List Value} {v : Value} (hr : fn.results = #[.cell s t, .tmp i]) (hs : Nat.blt s n = true) (hi : Nat.blt i n = true) (hv : env s = .pointer (some ⟨b, 0, none⟩)) (hiv : env i = v) (ha : (P.underlying t).map aggD = some true) (hz : (P.info? t).map (·.size) = some cs.length)
  (hc : ∀ j u, cs[j]? = some u → w.cell? ⟨b, 0 + j, none⟩ = some u) (h : R (.returned (.tuple #[.agg cs.toArray, v])) w) : bodyPost P fn R .ret (F n env) w := by
 have h2 : s < n := by simpa [Nat.blt_eq] using hs
 have h3 : i < n := by simpa [Nat.blt_eq] using hi
 have hcell : ∀ j u, cs[j]? = some u → w.cell? ((⟨b, 0, none⟩ : Addr).add j) = some u := fun j u hj => by
  have := hc j u hj
  simp only [Addr.add]
  split
  ·simp_all
  ·exact this
 have hlv : (loadVar t ⟨b, 0, none⟩).run P w = .ok (.agg cs.toArray) w := by
  unfold loadVar
  simp only [Sem.run_bind, run_isAgg ha, Result.andThen_ok, if_true, run_sizeOf hz, run_loadCells_list (P := P) w ⟨b, 0, none⟩ cs hcell, Sem.run_pure]
 refine bodyPost_ret (v := .tuple #[.agg cs.toArray, v]) ?_ rfl h
 have he : (F n env).tmps[s]?.getD undef = .pointer (some ⟨b, 0, none⟩) := by simp [F, h2, hv]
 have he2 : (F n env).tmps[i]?.getD undef = v := by simp [F, h3, hiv]
 simp [results, hr, he, he2, asAddr, hlv]
section
variable {e lo hi : Nat} {G G' : Pin} {w w' : World} {L L1 L2 : List Leaf}
end
section
variable {en er e lo hi lo' hi' : Nat} {G Gx G' : Pin} {w w' : World} {u v : Value} {ns : List Nd} {ls rs : List (List Int)}
theorem pU (hP : Pins G w) (hx : Ext noS Gx w G' w') : Ext noS G w G w' := ⟨Pin.le_refl _, hP.below hx.below, fun _ _ _ h => Or.inl h, hx.os, hx.tape, hx.output, hx.size, hx.block⟩
theorem DForm.wide (h : DForm en e G w lo hi v ns) (hl : lo' ≤ lo) (hh : hi ≤ hi') : DForm en e G w lo' hi' v ns := by
 obtain ⟨ps, h1, h2, h3, h4, h5⟩ := h.ex
 exact ⟨⟨ps, h1, h2.weaken hl, fun k hk => Nat.lt_of_lt_of_le (h3 k hk) hh, h4.weaken hl hh, h5⟩⟩
theorem DForm.one (h : DForm en e G w lo hi v ns) : v.oneCell' = true := by
 obtain ⟨ps, h1, h2, h3, h4, h5⟩ := h.ex
 exact h2.one
end
theorem Ext.promise {S : Nat → Prop} {A G G' : Pin} {w0 w : World} {lo : Nat} (h : Ext S A w0 G w) (hl : Pin.le G G') (hp : Pins G' w) (hf : ∀ b o x, G' b o x → G b o x ∨ lo ≤ b) (hlo : w0.heap.size ≤ lo) : Ext S A w0 G' w :=
 ⟨dN h.le hl, hp, fun b o u hu => by
  rcases hf b o u hu with a | a
  ·exact h.fresh b o u a
  ·exact Or.inr (Nat.le_trans hlo a), h.os, h.tape, h.output, h.size, h.block⟩
end Go.GL
namespace Go.GL
open Go Go.RowKit
section
variable {P : Program} {ρ : Operand → Value} {w : World} {d : Option Nat} {t e ty : Nat} {pos : String} {aft : Array Edge} {g : Option (Nat × Bool)} {x y : Operand}
theorem r_neqB_same {t' : Nat} {p : Bool} (ht : P.underlying t = some .bool) (hx : ρ x = .bool p) (hy : ρ y = .bool p) : (execOp ρ ⟨d, .binOp .neq t x y t', ty, pos, aft, g⟩).run P w = .ok (.value (.bool false)) w := by
 rw [r_neqB ht hx hy]; simp
def RunsIndex (vs : List Value) (z : Int) (u : Value) : Prop :=
 ∀ {P : Program} {w : World} {d : Option Nat} {t e ty n : Nat} {pos : String} {aft : Array Edge} {g : Option (Nat × Bool)} {x y : Operand} {ρ : Operand → Value}
  (_ : P.underlying t = some (.array n e)) (_ : n = vs.length) (_ : (P.info? e).map (·.size) = some 1) (_ : (P.underlying e).map aggD = some false) (_ : ρ x = .agg vs.toArray) (_ : ρ y = .int .i64 z),
  (execOp ρ ⟨d, .index t x y, ty, pos, aft, g⟩).run P w = .ok (.value u) w
theorem mL {vs : List Value} {z : Int} {u : Value} (h0 : 0 ≤ z) (hu : vs[z.toNat]? = some u) : RunsIndex vs z u := by
 intro P w d t e ty n pos aft g x y ρ ht hn hs ha hx hy
 have hlt : z.toNat < vs.length := (List.getElem?_eq_some_iff.1 hu).1
 have h2 : 0 ≤ z ∧ z < (n : Int) := ⟨h0, by omega⟩
 have hp : (part e vs.toArray (z.toNat * 1)).run P w = .ok u w := by
  unfold part
  simp only [Sem.run_bind, run_isAgg ha, Result.andThen_ok]
  simp [hu]
 simp only [execOp, hx, hy, Instr.index, asIntOf, Sem.run_bind, Sem.run_pure, Result.andThen_ok, run_underlying ht, h2, if_true, run_sizeOf hs, and_self]
 rw [hp]; rfl
def pick2 {α : Type} (s : Nat) (xs ys : α) : α := if s = 0 then xs else ys
theorem pick2_0 {α : Type} (xs ys : α) : pick2 0 xs ys = xs := rfl
theorem pick2_1 {α : Type} (xs ys : α) : pick2 1 xs ys = ys := rfl
theorem name_index2 {α : Type} {E : Elt α} {G : Pin} {a b : Value} {xs ys : List α} (ha : RSl E G a xs) (hb : RSl E G b ys) {z : Int} (s : Nat) (h0 : 0 ≤ z) (h1 : z < 2) (hs : z.toNat = s) :
  ∃ u, RSl E G u (pick2 s xs ys) ∧ RunsIndex [a, b] z u := by
 subst hs
 unfold pick2
 by_cases h : z.toNat = 0
 ·exact ⟨a, by rw [if_pos h]; exact ha, mL h0 (by rw [h]; rfl)⟩
 ·exact ⟨b, by rw [if_neg h]; exact hb, mL h0 (by rw [show z.toNat = 1 by omega]; rfl)⟩
theorem r_buildA {parts : Array (Nat × Operand)} {n m : Nat} {z : Value} (zs cs : List Value) (ps : List (Nat × Value × List Value)) (ht : P.underlying t = some (.array n e)) (hz : (P.info? t).bind (·.zero) = some z) (hzc : z.cells.toList = zs)
  (he : (P.info? e).map (·.size) = some m) (hpt : (parts.toList.map fun (i, x) => (i, ρ x)) = ps.map fun p => (p.1, p.2.1)) (hc : ∀ p ∈ ps, p.2.1.cells = p.2.2.toArray)
  (hf : fillL (fun i => some (i * m, m)) zs (ps.map fun p => (p.1, p.2.2)) = some cs) :
  (execOp ρ ⟨d, .build t parts, ty, pos, aft, g⟩).run P w = .ok (.value (.agg cs.toArray)) w := by
 obtain ⟨it, hit, hzz⟩ := Option.bind_eq_some_iff.1 hz
 obtain ⟨ie, hie, hm⟩ := Option.map_eq_some_iff.1 he
 subst hm
 have hb : P.built t (parts.map fun (i, x) => (i, ρ x)).toList = some cs.toArray := by
  unfold Program.built
  rw [hit, ht]
  simp only [hzz, hie]
  rw [Array.toList_map, hpt]
  have := gE hc hf
  rw [← hzc] at this
  exact this
 have := Go.run_build (P := P) w t (parts.map fun (i, x) => (i, ρ x)) cs.toArray hb
 simp [execOp, this]
theorem r_idxb {b o n m k : Nat} {z : Int} (ht : P.underlying t = some (.array n e)) (hs : (P.info? e).map (·.size) = some m) (hx : ρ x = .pointer (some ⟨b, o, none⟩)) (hy : ρ y = .int .i64 z) (h0 : 0 ≤ z) (h1 : z < n) (hk : o + z.toNat * m = k) :
  (execOp ρ ⟨d, .indexAddr t x y, ty, pos, aft, g⟩).run P w = .ok (.value (.pointer (some ⟨b, k, none⟩))) w := by
 subst hk
 have hadd : (⟨b, o, none⟩ : Addr).add (z.toNat * m) = ⟨b, o + z.toNat * m, none⟩ := by
  simp only [Addr.add]
  split <;> simp_all
 simp [execOp, hx, hy, Instr.indexAt, asIntOf, Instr.sureAddr, run_underlying ht, h0, h1, run_sizeOf hs, hadd]
end
section
variable {P : Program} {ρ : Operand → Value} {w : World} {K : Value → World → Prop} {d : Option Nat} {t ty : Nat} {pos : String} {aft : Array Edge} {g : Option (Nat × Bool)} {x y : Operand} {G : Pin}
end
end Go.GL
namespace Go.GL
open Go Go.RowKit
section
variable {en e lo hi : Nat} {G G' : Pin} {w w' : World} {v : Value} {ns : List Nd}
theorem DForm.extS {S : Nat → Prop} (h : DForm en e G w lo hi v ns) (hx : Ext S G w G' w') (hS : ∀ k, lo ≤ k → k < hi → ¬ S k) : DForm en e G' w' lo hi v ns := by
 obtain ⟨ps, h1, h2, h3, h4, h5⟩ := h.ex
 exact ⟨⟨ps, h1, h2.extS hx (fun k hk => hS k (h2.lt k hk).1 (h3 k hk)), h3, h4.extS hx hS, h5⟩⟩
end
def DCh (en e : Nat) (G : Pin) (w : World) (R : Option Nat) : Nat → Nat → List Value → List (List Nd) → Prop
 | lo, hi, [], [] => lo ≤ hi
 | lo, hi, u :: us, f :: fs => ∃ l m, lo ≤ l ∧ l ≤ m ∧ (∀ b, R = some b → m ≤ b ∨ b < l) ∧ DForm en e G w l m u f ∧ DCh en e G w R m hi us fs
 | _, _, _, _ => False
section
variable {en e : Nat} {G G' : Pin} {w w' : World} {R R' : Option Nat}
theorem DCh.le : ∀ {lo hi : Nat} {us : List Value} {fs : List (List Nd)}, DCh en e G w R lo hi us fs → lo ≤ hi
 | _, _, [], [], h => h
 | _, _, _ :: _, _ :: _, ⟨_, _, h1, h2, _, _, h3⟩ => Nat.le_trans (Nat.le_trans h1 h2) h3.le
 | _, _, [], _ :: _, h => h.elim
 | _, _, _ :: _, [], h => h.elim
theorem DCh.map : ∀ {lo hi : Nat} {us : List Value} {fs : List (List Nd)}, DCh en e G w R lo hi us fs → (∀ l m u f, lo ≤ l → m ≤ hi → (∀ b, R = some b → m ≤ b ∨ b < l) → DForm en e G w l m u f → DForm en e G' w' l m u f) → DCh en e G' w' R lo hi us fs
 | _, _, [], [], h, _ => h
 | lo, hi, u :: us, f :: fs, ⟨l, m, h1, h0, hr, h2, h3⟩, hf => ⟨l, m, h1, h0, hr, hf _ _ _ _ h1 h3.le hr h2, h3.map fun l k u f hl hk hd => hf l k u f (by omega) hk hd⟩
 | _, _, [], _ :: _, h, _ => h.elim
 | _, _, _ :: _, [], h, _ => h.elim
end
section
variable {en ef e lo hi lo' hi' : Nat} {G G' : Pin} {w w' : World} {v : Value} {fs : List (List Nd)}
end
theorem jR {ns : List Nd} (hg : GoodP ns) : FormOk ns := kK (good_iff.2 hg).fits (good_iff.2 hg).rise
section
variable {P : Program} {ρ : Operand → Value} {w : World} {K : Value → World → Prop} {d : Option Nat} {t ty e : Nat} {pos : String} {aft : Array Edge} {g : Option (Nat × Bool)} {x y : Operand} {G : Pin} {v : Value}
end
section
variable {en ef e lo hi lo' hi' : Nat} {G G' : Pin} {w w' : World} {v : Value} {ns : List Nd} {us : List Value} {fs : List (List Nd)} {R : Option Nat}
theorem DCh.at : ∀ {lo hi j : Nat} {us : List Value} {fs : List (List Nd)}, DCh en e G w R lo hi us fs → j < fs.length → ∃ l m, lo ≤ l ∧ m ≤ hi ∧ (∀ b, R = some b → m ≤ b ∨ b < l) ∧ DForm en e G w l m (us.getD j default) (fs.getD j []) ∧
  ∀ {w' : World} {f' : List Nd}, Ext (inR l m) G w G w' → DForm en e G w' l m (us.getD j default) f' → DCh en e G w' R lo hi us (fs.set j f')
 | lo, hi, 0, u :: us, f :: fs, ⟨l, m, h1, h0, hr, h2, h3⟩, _ => ⟨l, m, h1, h3.le, hr, h2, fun hx hd => ⟨l, m, h1, h0, hr, hd, h3.map fun _ _ _ _ hl _ _ hq => hq.extS hx fun k h5 _ h7 => by have := h7.2; omega⟩⟩
 | lo, hi, j + 1, u :: us, f :: fs, ⟨l0, m0, h1, h0, hr, h2, h3⟩, hj => by
  obtain ⟨l, k, a1, a2, a3, a4, a5⟩ := h3.at (j := j) (by simpa using hj)
  exact ⟨l, k, by omega, a2, a3, by simpa using a4, fun hx hd => ⟨l0, m0, h1, h0, hr, h2.extS hx fun q _ h6 h7 => by have := h7.1; omega, a5 hx (by simpa using hd)⟩⟩
 | _, _, _, [], [], _, hj => (by simp at hj)
 | _, _, _, [], _ :: _, h, _ => h.elim
 | _, _, _, _ :: _, [], h, _ => h.elim
end
theorem cur_set {α : Type} {A B : List α} {j : Nat} {x : α} (d : α) (hl : A.length = B.length) (h : j < B.length) (hx : A.getD j d = x) : (A.take j ++ B.drop j).set j x = A.take (j + 1) ++ B.drop (j + 1) := by
 subst hx
 rw [List.set_append_right _ _ (by simp; omega), xH B d h, qE A d (by omega), show j - (List.take j A).length = 0 by simp; omega, List.set_cons_zero, List.append_assoc]; rfl
theorem cur_end {α : Type} {A B : List α} {j : Nat} (hl : A.length = B.length) (h : B.length ≤ j) : A.take j ++ B.drop j = A := by
 rw [List.drop_eq_nil_of_le h, List.append_nil, List.take_of_length_le (by omega)]
section
variable {α : Type} {E : Elt α} {e lo hi lo' hi' : Nat} {G G' : Pin} {w w' : World} {v : Value} {xs : List α}
end
section
variable {P : Program} {ρ : Operand → Value} {w : World} {K : Value → World → Prop} {d : Option Nat} {t ty e : Nat} {pos : String} {aft : Array Edge} {g : Option (Nat × Bool)} {x y : Operand} {G : Pin} {v : Value}
end
end Go.GL
namespace Go.GL
theorem vV {l : List Int} {k : Nat} : ∀ {is : List Bool}, is.getD k false = true → (setAll is l).getD k false = true := by
 induction l with
 | nil => intro is h; exact h
 | cons x r ih =>
  intro is h
  refine ih (is := is.set x.toNat true) ?_
  rw [List.getD, List.getElem?_set]
  split
  ·split
   ·rfl
   ·rename_i h1 h2; subst h1; simp [List.getD, Nat.le_of_not_lt h2] at h
  ·exact h
theorem mK {l : List Int} {k : Int} : ∀ {is : List Bool}, k ∈ l → k.toNat < is.length → (setAll is l).getD k.toNat false = true := by
 induction l with
 | nil => intro is h; cases h
 | cons x r ih =>
  intro is h hk
  cases h with
  | head => exact vV (is := is.set k.toNat true) (by simp [List.getD, hk])
  | tail _ h => exact ih (is := is.set x.toNat true) h (by simpa using hk)
theorem gJ {l : List Int} {z : Nat} : ∀ {is : List Bool}, (∀ k ∈ l, k.toNat ≠ z) → (setAll is l).getD z false = is.getD z false := by
 induction l with
 | nil => intro is _; rfl
 | cons x r ih =>
  intro is h
  have h1 := ih (is := is.set x.toNat true) fun k hk => h k (List.mem_cons_of_mem _ hk)
  have h2 := h x List.mem_cons_self
  refine h1.trans ?_
  simp [List.getD, List.getElem?_set_ne h2]
theorem ustep_mono {ns : List Nd} {is : List Bool} {i k : Nat} (h : is.getD k false = true) : (ustep ns is i).getD k false = true := by
 unfold ustep; split
 ·exact vV (vV h)
 ·exact h
theorem fA {ns : List Nd} : ∀ {q : Nat} {is : List Bool} {k : Nat}, is.getD k false = true → (ugo ns q is).getD k false = true
 | 0, _, _, h => h
 | q + 1, is, _, h => fA (q := q) (is := ustep ns is q) (ustep_mono h)
section
variable {ns : List Nd} (ho : OptsOk ns)
include ho
theorem mD {is : List Bool} {i z : Nat} (hi : i < ns.length) (hz : i ≤ z) : (ustep ns is i).getD z false = is.getD z false := by
 have o := xK ho hi
 unfold ustep; split
 ·rw [gJ fun k hk => by have := o.2 k hk; omega, gJ fun k hk => by have := o.1 k hk; omega]
 ·rfl
theorem eO : ∀ {q : Nat} {is : List Bool} {z : Nat}, q ≤ ns.length → q ≤ z + 1 → (ugo ns q is).getD z false = is.getD z false
 | 0, _, _, _, _ => rfl
 | q + 1, is, z, h, hz => (eO (q := q) (is := ustep ns is q) (by omega) (by omega)).trans (mD ho (by omega) (by omega))
theorem mF : ∀ {q : Nat} {is : List Bool}, q ≤ ns.length → q ≤ is.length → ∀ z, z < q → (ugo ns q is).getD z false = true →
  (∀ o ∈ (ns.getD z default).l, (ugo ns q is).getD o.toNat false = true) ∧ (∀ o ∈ (ns.getD z default).r, (ugo ns q is).getD o.toNat false = true)
 | 0, _, _, _, z, hz, _ => absurd hz (Nat.not_lt_zero z)
 | q + 1, is, h, hl, z, hz, hu => by
  have hul : (ustep ns is q).length = is.length := by
   unfold ustep; split
   ·rw [qZ, qZ]
   ·rfl
  by_cases he : z = q
  ·subst he
   have hu2 : is.getD z false = true := by
    rw [← mD ho (i := z) (z := z) (is := is) (by omega) (Nat.le_refl _), ← eO ho (q := z) (is := ustep ns is z) (by omega) (by omega)]
    exact hu
   have o := xK ho (k := z) (by omega)
   have e : ustep ns is z = setAll (setAll is (ns.getD z default).l) (ns.getD z default).r := fL hu2
   refine ⟨fun x hx => fA (q := z) (is := ustep ns is z) ?_, fun x hx => fA (q := z) (is := ustep ns is z) ?_⟩
   ·rw [e]; exact vV (mK hx (by have := o.1 x hx; omega))
   ·rw [e]; exact mK hx (by rw [qZ]; have := o.2 x hx; omega)
  ·exact mF (q := q) (is := ustep ns is q) (by omega) (by omega) z (by omega) hu
end
theorem fU : ∀ {a b : List Int}, a.Pairwise (· < ·) → b.Pairwise (· < ·) → (∀ z, z ∈ a ↔ z ∈ b) → a = b
 | [], [], _, _, _ => rfl
 | [], y :: b, _, _, h => by have := (h y).2 List.mem_cons_self; cases this
 | x :: a, [], _, _, h => by have := (h x).1 List.mem_cons_self; cases this
 | x :: a, y :: b, ha, hb, h => by
  have ha' := List.pairwise_cons.1 ha; have hb' := List.pairwise_cons.1 hb
  have e : x = y := by
   have h1 := (h x).1 List.mem_cons_self; have h2 := (h y).2 List.mem_cons_self
   cases h1 with
   | head => rfl
   | tail _ h1 =>
    cases h2 with
    | head => rfl
    | tail _ h2 => have := ha'.1 y h2; have := hb'.1 x h1; omega
  subst e
  congr 1
  refine fU ha'.2 hb'.2 fun z => ⟨fun hz => ?_, fun hz => ?_⟩
  ·have := (h z).1 (List.mem_cons_of_mem _ hz)
   cases this with
   | head => have := ha'.1 _ hz; omega
   | tail _ h1 => exact h1
  ·have := (h z).2 (List.mem_cons_of_mem _ hz)
   cases this with
   | head => have := hb'.1 _ hz; omega
   | tail _ h1 => exact h1
theorem wf_good {ns : List Nd} (h : GoodP ns) : Wf ns ∧ SortedB ns (births ns) ∧ Diff ns := by
 have hg := good_iff.2 h
 have w : Wf ns := ⟨kK hg.fits hg.rise, hg.rise⟩
 have hs := mH h.sorted
 refine ⟨w, hs, fun i j hij hj he => ?_⟩
 have hb := xX w.ok.opts
 rcases hs i j hij hj with h1 | ⟨_, h1⟩
 ·rw [hb.2 i (by omega), hb.2 j hj, he] at h1; omega
 ·rw [ahead_zero.2 he] at h1; omega
end Go.GL
namespace Go.GL
def loG (g i : Nat) : Prop := g.testBit (2 * i) = true
def roG (g i : Nat) : Prop := g.testBit (2 * i + 1) = true
theorem bit_lt {g k : Nat} (h : g.testBit k = true) : k < g := Nat.lt_of_lt_of_le Nat.lt_two_pow_self (Nat.ge_two_pow_of_testBit h)
theorem loG.lt {g i : Nat} (h : loG g i) : i < g := by have := bit_lt h; omega
theorem roG.lt {g i : Nat} (h : roG g i) : i < g := by have := bit_lt h; omega
theorem gext {a b : Nat} (hl : ∀ i, loG a i ↔ loG b i) (hr : ∀ i, roG a i ↔ roG b i) : a = b := by
 apply Nat.eq_of_testBit_eq
 intro k
 rcases Nat.mod_two_eq_zero_or_one k with h | h
 ·have e : k = 2 * (k / 2) := by omega
  have := hl (k / 2)
  unfold loG at this
  rw [← e] at this
  exact Bool.eq_iff_iff.2 this
 ·have e : k = 2 * (k / 2) + 1 := by omega
  have := hr (k / 2)
  unfold roG at this
  rw [← e] at this
  exact Bool.eq_iff_iff.2 this
def lefts (g : Nat) : List Nat := (List.range g).filter fun i => g.testBit (2 * i)
def rights (g : Nat) : List Nat := (List.range g).filter fun i => g.testBit (2 * i + 1)
theorem memG_l {g i : Nat} : i ∈ lefts g ↔ loG g i := by
 unfold lefts
 rw [List.mem_filter, List.mem_range]
 exact ⟨fun h => h.2, fun h => ⟨loG.lt h, h⟩⟩
theorem memG_r {g i : Nat} : i ∈ rights g ↔ roG g i := by
 unfold rights
 rw [List.mem_filter, List.mem_range]
 exact ⟨fun h => h.2, fun h => ⟨roG.lt h, h⟩⟩
def bitsG : List Nat → Nat
 | [] => 0
 | k :: l => 2 ^ k ||| bitsG l
theorem eI {k : Nat} : ∀ {l : List Nat}, (bitsG l).testBit k = true ↔ k ∈ l
 | [] => by simp [bitsG]
 | x :: l => by
  unfold bitsG
  rw [Nat.testBit_or, Bool.or_eq_true, eI (l := l), Nat.testBit_two_pow]
  simp only [decide_eq_true_eq, List.mem_cons]
  constructor
  ·rintro (h | h)
   ·exact Or.inl h.symm
   ·exact Or.inr h
  ·rintro (h | h)
   ·exact Or.inl h.symm
   ·exact Or.inr h
def mkG (l r : List Nat) : Nat := bitsG (l.map (2 * ·) ++ r.map (2 * · + 1))
theorem lo_mk {l r : List Nat} {i : Nat} : loG (mkG l r) i ↔ i ∈ l := by
 unfold loG mkG
 rw [eI, List.mem_append, List.mem_map, List.mem_map]
 constructor
 ·rintro (⟨a, ha, e⟩ | ⟨a, ha, e⟩)
  ·have : a = i := by omega
   rwa [← this]
  ·omega
 ·exact fun h => Or.inl ⟨i, h, rfl⟩
theorem ro_mk {l r : List Nat} {i : Nat} : roG (mkG l r) i ↔ i ∈ r := by
 unfold roG mkG
 rw [eI, List.mem_append, List.mem_map, List.mem_map]
 constructor
 ·rintro (⟨a, ha, e⟩ | ⟨a, ha, e⟩)
  ·omega
  ·have : a = i := by omega
   rwa [← this]
 ·exact fun h => Or.inr ⟨i, h, rfl⟩
theorem fF {l r l' r' : List Nat} (hl : ∀ i, i ∈ l ↔ i ∈ l') (hr : ∀ i, i ∈ r ↔ i ∈ r') : mkG l r = mkG l' r' :=
 gext (fun i => by rw [lo_mk, lo_mk]; exact hl i) (fun i => by rw [ro_mk, ro_mk]; exact hr i)
def geG (a b : Nat) : Prop := (∀ r, (_h : roG a r) → ¬ geG b r) ∧ (∀ l, (_h : loG b l) → ¬ geG l a)
termination_by a + b
decreasing_by
 ·have := _h.lt; omega
 ·have := _h.lt; omega
theorem ge_iff {a b : Nat} : geG a b ↔ (∀ r, roG a r → ¬ geG b r) ∧ (∀ l, loG b l → ¬ geG l a) := by
 rw [geG]
theorem tB (a : Nat) : geG a a := by
 induction a using Nat.strongRecOn with
 | _ a ih =>
  rw [ge_iff]
  refine ⟨fun r hr hg => ?_, fun l hl hg => ?_⟩
  ·exact (ge_iff.1 hg).1 r hr (ih r hr.lt)
  ·exact (ge_iff.1 hg).2 l hl (ih l hl.lt)
def eqG (a b : Nat) : Prop := geG a b ∧ geG b a
theorem not_ge_left {g l : Nat} (h : loG g l) : ¬ geG l g := (ge_iff.1 (tB g)).2 l h
theorem sM {g r : Nat} (h : roG g r) : ¬ geG g r := (ge_iff.1 (tB g)).1 r h
def negG (g : Nat) : Nat := mkG ((rights g).attach.map fun ⟨i, _h⟩ => negG i) ((lefts g).attach.map fun ⟨i, _h⟩ => negG i)
termination_by g
decreasing_by
 ·exact (memG_r.1 _h).lt
 ·exact (memG_l.1 _h).lt
def addG (a b : Nat) : Nat :=
 mkG (((lefts a).attach.map fun ⟨i, _h⟩ => addG i b) ++ (lefts b).attach.map fun ⟨i, _h⟩ => addG a i)
  (((rights a).attach.map fun ⟨i, _h⟩ => addG i b) ++ (rights b).attach.map fun ⟨i, _h⟩ => addG a i)
termination_by a + b
decreasing_by
 ·have := (memG_l.1 _h).lt; omega
 ·have := (memG_l.1 _h).lt; omega
 ·have := (memG_r.1 _h).lt; omega
 ·have := (memG_r.1 _h).lt; omega
theorem sR {i : Nat} : ¬ loG 0 i := fun h => absurd h.lt (by omega)
theorem sF {i : Nat} : ¬ roG 0 i := fun h => absurd h.lt (by omega)
def ordG (a b : Nat) : Nat :=
 mkG (lefts a ++ (lefts b).attach.map fun ⟨i, _h⟩ => ordG a i) (rights a ++ (rights b).attach.map fun ⟨i, _h⟩ => ordG a i)
termination_by b
decreasing_by
 ·exact (memG_l.1 _h).lt
 ·exact (memG_r.1 _h).lt
theorem lo_ord {a b x : Nat} : loG (ordG a b) x ↔ loG a x ∨ ∃ l, loG b l ∧ x = ordG a l := by
 rw [ordG, lo_mk, List.mem_append, memG_l, List.mem_map]
 constructor
 ·rintro (h | ⟨⟨i, h⟩, _, rfl⟩)
  ·exact Or.inl h
  ·exact Or.inr ⟨i, memG_l.1 h, rfl⟩
 ·rintro (h | ⟨r, h, rfl⟩)
  ·exact Or.inl h
  ·exact Or.inr ⟨⟨r, memG_l.2 h⟩, List.mem_attach _ _, rfl⟩
theorem ro_ord {a b x : Nat} : roG (ordG a b) x ↔ roG a x ∨ ∃ l, roG b l ∧ x = ordG a l := by
 rw [ordG, ro_mk, List.mem_append, memG_r, List.mem_map]
 constructor
 ·rintro (h | ⟨⟨i, h⟩, _, rfl⟩)
  ·exact Or.inl h
  ·exact Or.inr ⟨i, memG_r.1 h, rfl⟩
 ·rintro (h | ⟨r, h, rfl⟩)
  ·exact Or.inl h
  ·exact Or.inr ⟨⟨r, memG_r.2 h⟩, List.mem_attach _ _, rfl⟩
theorem ord_zero (a : Nat) : ordG a 0 = a := gext
 (fun i => by rw [lo_ord]; exact ⟨fun h => h.elim id fun ⟨l, h, _⟩ => (sR h).elim, Or.inl⟩)
 (fun i => by rw [ro_ord]; exact ⟨fun h => h.elim id fun ⟨l, h, _⟩ => (sF h).elim, Or.inl⟩)
theorem zero_ord (a : Nat) : ordG 0 a = a := by
 induction a using Nat.strongRecOn with
 | _ a ih =>
  apply gext
  ·intro i
   rw [lo_ord]
   constructor
   ·rintro (h | ⟨l, h, rfl⟩)
    ·exact (sR h).elim
    ·rwa [ih l h.lt]
   ·exact fun h => Or.inr ⟨i, h, (ih i h.lt).symm⟩
  ·intro i
   rw [ro_ord]
   constructor
   ·rintro (h | ⟨l, h, rfl⟩)
    ·exact (sF h).elim
    ·rwa [ih l h.lt]
   ·exact fun h => Or.inr ⟨i, h, (ih i h.lt).symm⟩
def NoDom (g : Nat) : Prop := (∀ a b, loG g a → loG g b → geG a b → a = b) ∧ (∀ a b, roG g a → roG g b → geG a b → a = b)
def NoRev (g : Nat) : Prop := (∀ l r, loG g l → roG l r → ¬ geG g r) ∧ (∀ r l, roG g r → loG r l → ¬ geG l g)
def CanonG (g : Nat) : Prop := NoDom g ∧ NoRev g ∧ (∀ l, (_h : loG g l) → CanonG l) ∧ (∀ r, (_h : roG g r) → CanonG r)
termination_by g
decreasing_by
 ·exact _h.lt
 ·exact _h.lt
end Go.GL
namespace Go.GL
def stepD (acc : List Nat) (n : Nd) : List Nat := acc ++ [mkG (n.l.map fun z => acc.getD z.toNat 0) (n.r.map fun z => acc.getD z.toNat 0)]
def dens (ns : List Nd) : List Nat := ns.foldl stepD []
def den (ns : List Nd) (k : Nat) : Nat := (dens ns).getD k 0
theorem nK : ∀ (ns : List Nd) (acc : List Nat), (ns.foldl stepD acc).length = acc.length + ns.length
 | [], acc => by simp
 | n :: ns, acc => by rw [List.foldl_cons, nK ns]; simp [stepD]; omega
theorem fold_pre : ∀ (ns : List Nd) (acc : List Nat) (k : Nat), k < acc.length → (ns.foldl stepD acc).getD k 0 = acc.getD k 0
 | [], acc, k, h => rfl
 | n :: ns, acc, k, h => by
  rw [List.foldl_cons, fold_pre ns _ k (by simp [stepD]; omega)]
  exact yU h
theorem eC {ns ms : List Nd} {k : Nat} (h : k < ns.length) : den (ns ++ ms) k = den ns k := by
 unfold den dens
 rw [List.foldl_append]
 exact fold_pre _ _ _ (by rw [nK]; simpa using h)
theorem den_take {ns : List Nd} {k m : Nat} (h : k < m) (hm : m ≤ ns.length) : den (ns.take m) k = den ns k := by
 have := eC (ns := ns.take m) (ms := ns.drop m) (k := k) (by simp; omega)
 rw [List.take_append_drop] at this
 exact this.symm
theorem eA {ns : List Nd} {k : Nat} (hk : k < ns.length) (hl : ∀ z ∈ (ns.getD k default).l, 0 ≤ z ∧ z < k) (hr : ∀ z ∈ (ns.getD k default).r, 0 ≤ z ∧ z < k) :
  den ns k = mkG ((ns.getD k default).l.map fun z => den ns z.toNat) ((ns.getD k default).r.map fun z => den ns z.toNat) := by
 rw [← den_take (m := k + 1) (by omega) (by omega), qE ns default hk]
 unfold den dens
 rw [List.foldl_append]
 have hlen : ((ns.take k).foldl stepD []).length = k := by rw [nK]; simp; omega
 have e0 : ∀ (A : List Nat) (n : Nd), List.foldl stepD A [n] = A ++ [mkG (n.l.map fun z => A.getD z.toNat 0) (n.r.map fun z => A.getD z.toNat 0)] := fun _ _ => rfl
 rw [e0, xN hlen.symm]
 have e : ∀ z : Int, 0 ≤ z ∧ z < k → (List.foldl stepD [] (ns.take k)).getD z.toNat 0 = (List.foldl stepD [] ns).getD z.toNat 0 := fun z hz => den_take (ns := ns) (k := z.toNat) (m := k) (by omega) (by omega)
 rw [List.map_congr_left (g := fun z => (List.foldl stepD [] ns).getD z.toNat 0) fun z hz => e z (hl z hz)]
 rw [List.map_congr_left (l := (ns.getD k default).r) (g := fun z => (List.foldl stepD [] ns).getD z.toNat 0) fun z hz => e z (hr z hz)]
theorem qW {ns : List Nd} (ho : OptsOk ns) {k : Nat} (hk : k < ns.length) :
  den ns k = mkG ((ns.getD k default).l.map fun z => den ns z.toNat) ((ns.getD k default).r.map fun z => den ns z.toNat) := eA hk (xK ho hk).1 (xK ho hk).2
theorem qV {ns : List Nd} (ho : OptsOk ns) {k x : Nat} (hk : k < ns.length) : loG (den ns k) x ↔ ∃ z ∈ (ns.getD k default).l, x = den ns z.toNat := by
 rw [qW ho hk, lo_mk, List.mem_map]
 exact ⟨fun ⟨z, h1, h2⟩ => ⟨z, h1, h2.symm⟩, fun ⟨z, h1, h2⟩ => ⟨z, h1, h2.symm⟩⟩
theorem qU {ns : List Nd} (ho : OptsOk ns) {k x : Nat} (hk : k < ns.length) : roG (den ns k) x ↔ ∃ z ∈ (ns.getD k default).r, x = den ns z.toNat := by
 rw [qW ho hk, ro_mk, List.mem_map]
 exact ⟨fun ⟨z, h1, h2⟩ => ⟨z, h1, h2.symm⟩, fun ⟨z, h1, h2⟩ => ⟨z, h1, h2.symm⟩⟩
structure Ar (ns : List Nd) (bs : List Int) : Prop where
 ok : BookOk ns bs
 rise : ∀ i, i < ns.length → (ns.getD i default).l.Pairwise (· < ·) ∧ (ns.getD i default).r.Pairwise (· < ·)
 diff : Diff ns
 born : BirthsOf ns bs
theorem Ar.opts {ns : List Nd} {bs : List Int} (h : Ar ns bs) : OptsOk ns := h.ok.optsOk
theorem Ar.empty : Ar [] [] := ⟨jC, fun i hi => absurd hi (Nat.not_lt_zero i), fun _ j _ hj => absurd hj (Nat.not_lt_zero j), rfl, fun k hk => absurd hk (Nat.not_lt_zero k)⟩
theorem fS {ns : List Nd} (ho : OptsOk ns) (hr : ∀ i, i < ns.length → (ns.getD i default).l.Pairwise (· < ·) ∧ (ns.getD i default).r.Pairwise (· < ·)) (hd : Diff ns) :
  ∀ (n i j : Nat), i + j ≤ n → i < ns.length → j < ns.length → den ns i = den ns j → i = j
 | 0, i, j, hn, _, _, _ => by omega
 | n + 1, i, j, hn, hi, hj, he => by
  have key : ∀ a b, a + b ≤ n + 1 → a < ns.length → b < ns.length → den ns a = den ns b → (∀ z ∈ (ns.getD a default).l, z ∈ (ns.getD b default).l) ∧ (∀ z ∈ (ns.getD a default).r, z ∈ (ns.getD b default).r) := by
   intro a b hab ha hb e
   have oa := xK ho ha
   have ob := xK ho hb
   constructor
   ·intro z hz
    have h1 : loG (den ns a) (den ns z.toNat) := (qV ho ha).2 ⟨z, hz, rfl⟩
    rw [e] at h1
    obtain ⟨y, hy, e2⟩ := (qV ho hb).1 h1
    have z1 := oa.1 z hz
    have y1 := ob.1 y hy
    have := fS ho hr hd n z.toNat y.toNat (by omega) (by omega) (by omega) e2
    have : z = y := by omega
    rwa [this]
   ·intro z hz
    have h1 : roG (den ns a) (den ns z.toNat) := (qU ho ha).2 ⟨z, hz, rfl⟩
    rw [e] at h1
    obtain ⟨y, hy, e2⟩ := (qU ho hb).1 h1
    have z1 := oa.2 z hz
    have y1 := ob.2 y hy
    have := fS ho hr hd n z.toNat y.toNat (by omega) (by omega) (by omega) e2
    have : z = y := by omega
    rwa [this]
  have k1 := key i j hn hi hj he
  have k2 := key j i (by omega) hj hi he.symm
  have el := fU (hr i hi).1 (hr j hj).1 fun z => ⟨k1.1 z, k2.1 z⟩
  have er := fU (hr i hi).2 (hr j hj).2 fun z => ⟨k1.2 z, k2.2 z⟩
  have e := mX el er
  rcases Nat.lt_trichotomy i j with h | h | h
  ·exact absurd e (hd i j h hj)
  ·exact h
  ·exact absurd e.symm (hd j i h hi)
theorem Ar.inj {ns : List Nd} {bs : List Int} (h : Ar ns bs) {i j : Nat} (hi : i < ns.length) (hj : j < ns.length) (he : den ns i = den ns j) : i = j := fS h.opts h.rise h.diff _ i j (Nat.le_refl _) hi hj he
theorem pK {n : Int} : ∀ {l : List Int}, l.Pairwise (· < ·) → (putL l n).Pairwise (· < ·)
 | [], _ => by simp [putL]
 | x :: r, h => by
  have h' := List.pairwise_cons.1 h
  unfold putL
  split
  ·rename_i hx
   refine List.pairwise_cons.2 ⟨fun k hk => ?_, pK h'.2⟩
   rcases mem_putL.1 hk with rfl | hk
   ·exact hx
   ·exact h'.1 k hk
  ·split
   ·exact h
   ·rename_i h1 h2
    refine List.pairwise_cons.2 ⟨fun k hk => ?_, h⟩
    rcases List.mem_cons.1 hk with rfl | hk
    ·omega
    ·have := h'.1 k hk; omega
theorem vL (l : List Int) : (sortL l).Pairwise (· < ·) := by
 have key : ∀ (l a : List Int), a.Pairwise (· < ·) → (l.foldl putL a).Pairwise (· < ·) := by
  intro l
  induction l with
  | nil => intro a h; exact h
  | cons x r ih => intro a h; exact ih _ (pK h)
 exact key l [] List.Pairwise.nil
theorem rB {bs : List Int} {m : Int} : ∀ {l : List Int} {b : Int}, bornOf bs l b ≤ m ↔ b ≤ m ∧ ∀ k ∈ l, bs.getD k.toNat 0 + 1 ≤ m
 | [], b => by simp [bornOf]
 | x :: r, b => by
  have e : bornOf bs (x :: r) b = bornOf bs r (max b (bs.getD x.toNat 0 + 1)) := rfl
  rw [e, rB (l := r)]
  simp only [List.mem_cons, forall_eq_or_imp]
  constructor
  ·rintro ⟨h1, h2⟩; exact ⟨by omega, by omega, h2⟩
  ·rintro ⟨h1, h2, h3⟩; exact ⟨by omega, h3⟩
theorem putBorn_le {bs l r : List Int} {m : Int} : putBorn bs l r ≤ m ↔ 0 ≤ m ∧ (∀ k ∈ l, bs.getD k.toNat 0 + 1 ≤ m) ∧ ∀ k ∈ r, bs.getD k.toNat 0 + 1 ≤ m := by
 unfold putBorn
 rw [rB, rB, and_assoc]
theorem putBorn_sort {bs l r : List Int} : putBorn bs (sortL l) (sortL r) = putBorn bs l r := by
 apply Int.le_antisymm
 ·rw [putBorn_le]
  have := putBorn_le (bs := bs) (l := l) (r := r).1 (Int.le_refl _)
  exact ⟨this.1, fun k hk => this.2.1 k (mem_sortL.1 hk), fun k hk => this.2.2 k (mem_sortL.1 hk)⟩
 ·rw [putBorn_le]
  have := putBorn_le (bs := bs) (l := sortL l) (r := sortL r).1 (Int.le_refl _)
  exact ⟨this.1, fun k hk => this.2.1 k (mem_sortL.2 hk), fun k hk => this.2.2 k (mem_sortL.2 hk)⟩
theorem Ar.put {ns : List Nd} {bs xs ys : List Int} (h : Ar ns bs) (hl : ns.length + 1 ≤ 1048576) (hls : xs.length ≤ 1048576 ∧ ys.length ≤ 1048576) (h1 : ∀ i, i < xs.length → 0 ≤ xs.getD i 0 ∧ xs.getD i 0 < ns.length) (h2 : ∀ i, i < ys.length → 0 ≤ ys.getD i 0 ∧ ys.getD i 0 < ns.length) :
  Ar (putN ns bs xs ys) (putB ns bs xs ys) ∧ den (putN ns bs xs ys) (putK ns bs xs ys).toNat = mkG (xs.map fun z => den ns z.toNat) (ys.map fun z => den ns z.toNat) ∧ ∀ k, k < ns.length → den (putN ns bs xs ys) k = den ns k := by
 have hb := h.ok.put hl hls h1 h2
 have hm1 := xS (P := fun k => 0 ≤ k ∧ k < (ns.length : Int)) h1
 have hm2 := xS (P := fun k => 0 ≤ k ∧ k < (ns.length : Int)) h2
 have hsort : ∀ (f : Int → Nat), mkG ((sortL xs).map f) ((sortL ys).map f) = mkG (xs.map f) (ys.map f) := fun f => fF
  (fun i => by simp only [List.mem_map, mem_sortL]) (fun i => by simp only [List.mem_map, mem_sortL])
 unfold putN putB putK at hb ⊢
 cases hf : findK ns bs (putNd xs ys) (putBorn bs xs ys) with
 | some k =>
  rw [hf] at hb
  simp only at hb ⊢
  have hmem := List.mem_of_find?_eq_some hf
  have hdec := List.find?_some hf
  have hk : k < ns.length := by simpa using hmem
  have hd : bs.getD k 0 = putBorn bs xs ys ∧ (ns.getD k default).l = sortL xs ∧ (ns.getD k default).r = sortL ys := of_decide_eq_true hdec
  refine ⟨h, ?_, fun k _ => by trivial⟩
  rw [Int.toNat_natCast, qW h.opts hk, hd.2.1, hd.2.2]
  exact hsort _
 | none =>
  rw [hf] at hb
  simp only at hb ⊢
  have hlen := h.ok.len
  have hnew : ∀ i, i < ns.length → ns.getD i default ≠ putNd xs ys := fun i hi e => by
   have hn := List.find?_eq_none.1 hf i (List.mem_range.2 hi)
   apply hn
   refine decide_eq_true ⟨?_, by rw [e], by rw [e]⟩
   rw [h.born.2 i hi, e]
   exact putBorn_sort
  have hat : ∀ i, i < ns.length → (ns ++ [putNd xs ys]).getD i default = ns.getD i default := fun i hi => yU hi
  have hself : (ns ++ [putNd xs ys]).getD ns.length default = putNd xs ys := xN rfl
  have hlast : ∀ i, i < (ns ++ [putNd xs ys]).length → i < ns.length ∨ i = ns.length := fun i hi => by simp at hi; omega
  have hbat : ∀ i, i < ns.length → (bs ++ [putBorn bs xs ys]).getD i 0 = bs.getD i 0 := fun i hi => yU (by omega)
  refine ⟨⟨hb.1, fun i hi => ?_, fun i j hij hj => ?_, by simp [hlen], fun k hk => ?_⟩, ?_, fun k hk => eC hk⟩
  ·rcases hlast i hi with hi' | rfl
   ·rw [hat i hi']; exact h.rise i hi'
   ·rw [hself]; exact ⟨vL _, vL _⟩
  ·rcases hlast j hj with hj' | rfl
   ·rw [hat i (by omega), hat j hj']; exact h.diff i j hij hj'
   ·rw [hat i hij, hself]; exact hnew i hij
  ·rcases hlast k hk with hk' | rfl
   ·have ho := xK h.opts hk'
    rw [hat k hk', hbat k hk', h.born.2 k hk']
    exact jT (fun z hz => (hbat z.toNat (by have := ho.1 z hz; omega)).symm) (fun z hz => (hbat z.toNat (by have := ho.2 z hz; omega)).symm)
   ·rw [hself, xN hlen.symm]
    refine putBorn_sort.symm.trans (jT (fun z hz => (hbat z.toNat ?_).symm) (fun z hz => (hbat z.toNat ?_).symm))
    ·have := hm1 z (mem_sortL.1 hz); omega
    ·have := hm2 z (mem_sortL.1 hz); omega
  ·rw [Int.toNat_natCast, eA (by simp) (by rw [hself]; exact fun z hz => hm1 z (mem_sortL.1 hz)) (by rw [hself]; exact fun z hz => hm2 z (mem_sortL.1 hz)), hself]
   have e : ∀ l : List Int, (∀ z ∈ l, 0 ≤ z ∧ z < (ns.length : Int)) → (sortL l).map (fun z => den (ns ++ [putNd xs ys]) z.toNat) = (sortL l).map fun z => den ns z.toNat := fun l hm =>
    List.map_congr_left fun z hz => eC (by have := hm z (mem_sortL.1 hz); omega)
   have e1 : (putNd xs ys).l = sortL xs := rfl
   have e2 : (putNd xs ys).r = sortL ys := rfl
   rw [e1, e2, e xs hm1, e ys hm2]
   exact hsort _
structure AddD (ns : List Nd) (fs : List Nd) (k : Nat) (s : List Int × List Nd × List Int) : Prop where
 ar : Ar s.2.1 s.2.2
 is : ∀ i, i < k → den s.2.1 (s.1.getD i 0).toNat = den fs i
 old : ∀ i, i < ns.length → den s.2.1 i = den ns i
theorem addM_den {ns : List Nd} {bs : List Int} {fs : List Nd} (h : Ar ns bs) (hf : FormOk fs) (hl : ns.length + fs.length ≤ 1048576) : ∀ k, k ≤ fs.length → AddD ns fs k (addM ns bs (fs.take k)) := by
 intro k
 induction k with
 | zero => intro _; exact ⟨h, fun i hi => absurd hi (Nat.not_lt_zero i), fun i _ => rfl⟩
 | succ k ih =>
  intro hk
  have ih := ih (by omega)
  have ha := addM_ok h.ok hf hl k (by omega)
  rw [jH (by omega)]
  generalize addM ns bs (fs.take k) = s at ih ha
  obtain ⟨asx, ns2, bs2⟩ := s
  have a1 := ha.at1 hf (show k < fs.length by omega)
  have hhi := ha.hi
  simp only at hhi
  have hp := ih.ar.put (xs := atL asx (fs.getD k default).l) (ys := atL asx (fs.getD k default).r) (by simp only; omega) (by have := hf.lens k (by omega); rw [xF, xF]; omega) (vK ha.places a1.1) (vK ha.places a1.2)
  have hlo := ha.lo
  have hal := ha.len
  simp only at hp ih hlo hal
  refine ⟨hp.1, fun i hi => ?_, fun i hi => ?_⟩
  ·show den (putN ns2 bs2 _ _) ((asx ++ [_]).getD i 0).toNat = den fs i
   by_cases he : i < k
   ·rw [yU (by omega), hp.2.2 _ (by have := ha.places i (by simp only; omega); simp only at this; omega)]
    exact ih.is i he
   ·have e : i = k := by omega
    subst e
    rw [xN hal.symm, hp.2.1, qW hf.opts (by omega)]
    have oo := xK hf.opts (show i < fs.length by omega)
    have em : ∀ l : List Int, (∀ z ∈ l, 0 ≤ z ∧ z < (i : Int)) → (atL asx l).map (fun z => den ns2 z.toNat) = l.map fun z => den fs z.toNat := fun l hm => by
     unfold atL
     rw [List.map_map]
     exact List.map_congr_left fun z hz => ih.is z.toNat (by have := hm z hz; omega)
    rw [em _ oo.1, em _ oo.2]
  ·show den (putN ns2 bs2 _ _) i = den ns i
   rw [hp.2.2 i (by omega)]
   exact ih.old i hi
theorem Ar.add {ns : List Nd} {bs : List Int} {fs : List Nd} (h : Ar ns bs) (hf : FormOk fs) (hl : ns.length + fs.length ≤ 1048576) : AddD ns fs fs.length (addM ns bs fs) := by
 have := addM_den h hf hl fs.length (Nat.le_refl _)
 rwa [List.take_length] at this
def gOf (fs : List Nd) : Nat := den fs (fs.length - 1)
theorem Ar.root {ns : List Nd} {bs : List Int} {fs : List Nd} (h : Ar ns bs) (hf : FormOk fs) (h1 : 1 ≤ fs.length) (hl : ns.length + fs.length ≤ 1048576) : den (addM ns bs fs).2.1 (rootM ns bs fs).toNat = gOf fs := by
 unfold rootM gOf
 have ha := vS h.ok hf hl
 rw [ha.len]
 exact (h.add hf hl).is _ (by omega)
end Go.GL
namespace Go.GL
open Go Go.RowKit
def inO (x : Option Nat) (k : Nat) : Prop := x = some k
theorem notO {x y : Option Nat} (h : Apart x y) : ∀ k, x = some k → ¬ inO y k := fun k hx hy => h k hx hy
theorem qM {c : Nat} {y : Option Nat} (h : Apart (some c) y) : ¬ inO y c := fun hy => h c rfl hy
theorem xL {w : World} {x : Option Nat} : Lo w (inO x) x := fun _ hk => Or.inr hk
noncomputable def geB (ns : List Nd) (x y : Int) : Bool := decP (geG (den ns x.toNat) (den ns y.toNat))
theorem sV {ns : List Nd} (ho : OptsOk ns) {x y : Int} {i : Nat} (hx : 0 ≤ x ∧ x < ns.length) (hi : i < (ns.getD x.toNat default).r.length) (h : geB ns y ((ns.getD x.toNat default).r.getD i 0) = true) : geB ns x y = false := by
 refine decP_false.2 fun g => (ge_iff.1 g).1 _ ((qU ho (by omega)).2 ⟨_, yT (d := (0 : Int)) hi, rfl⟩) (decP_true.1 h)
theorem geB_no_left {ns : List Nd} (ho : OptsOk ns) {x y : Int} {i : Nat} (hy : 0 ≤ y ∧ y < ns.length) (hi : i < (ns.getD y.toNat default).l.length) (h : geB ns ((ns.getD y.toNat default).l.getD i 0) x = true) : geB ns x y = false := by
 refine decP_false.2 fun g => (ge_iff.1 g).2 _ ((qV ho (by omega)).2 ⟨_, yT (d := (0 : Int)) hi, rfl⟩) (decP_true.1 h)
theorem geB_yes {ns : List Nd} (ho : OptsOk ns) {x y : Int} (hx : 0 ≤ x ∧ x < ns.length) (hy : 0 ≤ y ∧ y < ns.length) (h1 : ∀ i, i < (ns.getD x.toNat default).r.length → geB ns y ((ns.getD x.toNat default).r.getD i 0) = false) (h2 : ∀ i, i < (ns.getD y.toNat default).l.length → geB ns ((ns.getD y.toNat default).l.getD i 0) x = false) : geB ns x y = true := by
 refine decP_true.2 (ge_iff.2 ⟨fun r hr => ?_, fun l hl => ?_⟩)
 ·obtain ⟨z, hz, rfl⟩ := (qU ho (by omega)).1 hr
  obtain ⟨i, hi, rfl⟩ := List.getElem_of_mem hz
  have e : (ns.getD x.toNat default).r.getD i 0 = (ns.getD x.toNat default).r[i] := by rw [List.getD, List.getElem?_eq_getElem hi]; rfl
  have := h1 i hi
  rw [e] at this
  exact decP_false.1 this
 ·obtain ⟨z, hz, rfl⟩ := (qV ho (by omega)).1 hl
  obtain ⟨i, hi, rfl⟩ := List.getElem_of_mem hz
  have e : (ns.getD y.toNat default).l.getD i 0 = (ns.getD y.toNat default).l[i] := by rw [List.getD, List.getElem?_eq_getElem hi]; rfl
  have := h2 i hi
  rw [e] at this
  exact decP_false.1 this
noncomputable def alB (asx bs : List Nd) : Bool := goodB asx && goodB bs && decP (geG (gOf asx) (gOf bs))
theorem pair_bad {asx bs : List Nd} (h : goodB asx = false ∨ goodB bs = false) : (goodB asx && goodB bs) = false := by rcases h with h | h <;> simp [h]
theorem pair_good {asx bs : List Nd} (ha : GoodP asx) (hb : GoodP bs) : (goodB asx && goodB bs) = true := by rw [goodB_true.2 ha, goodB_true.2 hb]; rfl
theorem alB_bad {asx bs : List Nd} (h : goodB asx = false ∨ goodB bs = false) : alB asx bs = false ∧ (goodB asx && goodB bs) = false := by
 have e := pair_bad h; unfold alB; rw [e]; exact ⟨rfl, rfl⟩
theorem nQ {asx bs : List Nd} (ha : GoodP asx) (hb : GoodP bs) : alB asx bs = decP (geG (gOf asx) (gOf bs)) ∧ (goodB asx && goodB bs) = true := by
 have e := pair_good ha hb; unfold alB; rw [e]; exact ⟨rfl, rfl⟩
end Go.GL
namespace Go.GL
open Go Go.RowKit
section
variable {κ ν : Type} [DecidableEq κ]
def look (l : List (κ × ν)) (k : κ) : Option ν := (l.find? fun p => decide (p.1 = k)).map (·.2)
def putE : List (κ × ν) → κ → ν → List (κ × ν)
 | [], k, v => [(k, v)]
 | p :: r, k, v => if k = p.1 then (k, v) :: r else p :: putE r k v
def findE : List (κ × ν) → κ → Nat → Option (Nat × ν)
 | [], _, _ => none
 | p :: r, k, i => if k = p.1 then some (i, p.2) else findE r k (i + 1)
theorem kQ (k : κ) : ∀ (l : List (κ × ν)) (i : Nat), (findE l k i).map (·.2) = look l k
 | [], _ => rfl
 | p :: r, i => by
  unfold findE look
  by_cases h : k = p.1
  ·rw [if_pos h, List.find?_cons_of_pos (by simp [h])]; rfl
  ·rw [if_neg h, List.find?_cons_of_neg (by simp [Ne.symm h])]; exact kQ k r (i + 1)
theorem kH (p : κ × ν) (r : List (κ × ν)) (k : κ) : look (p :: r) k = if k = p.1 then some p.2 else look r k := by
 unfold look
 by_cases h : k = p.1
 ·rw [List.find?_cons_of_pos (by simp [h]), if_pos h]; rfl
 ·rw [List.find?_cons_of_neg (by simp [Ne.symm h]), if_neg h]
theorem vD (k k' : κ) (v : ν) : ∀ (l : List (κ × ν)), look (putE l k v) k' = if k' = k then some v else look l k'
 | [] => by
  unfold putE
  rw [kH]
 | p :: r => by
  unfold putE
  by_cases h : k = p.1
  ·rw [if_pos h, kH, kH]
   by_cases h2 : k' = k
   ·rw [if_pos h2, if_pos h2]
   ·rw [if_neg h2, if_neg h2, if_neg (by rw [← h]; exact h2)]
  ·rw [if_neg h, kH, kH, vD k k' v r]
   by_cases h2 : k' = p.1
   ·rw [if_pos h2, if_pos h2, if_neg (by rw [h2]; exact Ne.symm h)]
   ·rw [if_neg h2, if_neg h2]
theorem pM {k : κ} {v : ν} : ∀ {l : List (κ × ν)} {i : Nat}, findE l k i = none → putE l k v = l ++ [(k, v)]
 | [], _, _ => rfl
 | p :: r, i, h => by
  unfold findE at h
  split at h
  ·cases h
  ·rename_i hk
   unfold putE
   rw [if_neg hk, pM h]; rfl
theorem pL {k : κ} {v : ν} : ∀ {l : List (κ × ν)} {i j : Nat} {u : ν}, findE l k i = some (j, u) → i ≤ j ∧ (∃ p, l[j - i]? = some p ∧ p.1 = k) ∧ putE l k v = l.set (j - i) (k, v)
 | [], _, _, _, h => by cases h
 | p :: r, i, j, u, h => by
  unfold findE at h
  split at h
  ·rename_i hk
   simp only [Option.some.injEq, Prod.mk.injEq] at h
   obtain ⟨rfl, rfl⟩ := h
   refine ⟨Nat.le_refl _, ⟨p, by simp, hk.symm⟩, ?_⟩
   unfold putE
   rw [if_pos hk, Nat.sub_self]; rfl
  ·rename_i hk
   obtain ⟨h1, ⟨q, h2, h3⟩, h4⟩ := pL (v := v) h
   have e : j - i = (j - (i + 1)) + 1 := by omega
   refine ⟨by omega, ⟨q, by rw [e, List.getElem?_cons_succ]; exact h2, h3⟩, ?_⟩
   unfold putE
   rw [if_neg hk, h4, e]; rfl
theorem putE_map {μ : Type} {f : ν → μ} (k : κ) (v : ν) : ∀ (l : List (κ × ν)), putE (l.map fun p => (p.1, f p.2)) k (f v) = (putE l k v).map fun p => (p.1, f p.2)
 | [] => rfl
 | p :: r => by
  rw [List.map_cons]
  unfold putE
  by_cases h : k = p.1
  ·rw [if_pos h, if_pos h]; rfl
  ·rw [if_neg h, if_neg h, putE_map k v r]; rfl
end
structure KeyK {κ : Type} [DecidableEq κ] (P : Program) (kt : TypeId) (enc : κ → Value) : Prop where
 check : ∀ (b : Bool) (k : κ) (w : World), (Instr.checkKey b 10000 kt (enc k)).run P w = .ok () w
 find : ∀ (k : κ) (es : List MapEntry) (l : List (κ × Value)) (w : World), es.map (fun e => (e.key, e.val)) = l.map (fun p => (enc p.1, p.2)) → (Instr.findKey kt (enc k) es).run P w = .ok (findE l k 0) w
 same : ∀ (k : κ), Instr.sameBits 10000 (enc k) (enc k) = true
theorem ba_beq (a b : ByteArray) : (a == b) = decide (a = b) := by
 cases a with
 | mk x =>
  cases b with
  | mk y =>
   have e : ((⟨x⟩ : ByteArray) == ⟨y⟩) = (x == y) := rfl
   rw [e]
   by_cases h : x = y
   ·subst h; simp
   ·rw [decide_eq_false (by simpa using h)]
    simpa using h
section
variable {P : Program}
theorem pV {kt : TypeId} (h : P.underlying kt = some (.int .i64)) (b : Bool) (n : Nat) (k : Int) (w : World) : (Instr.checkKey b (n + 1) kt (.int .i64 k)).run P w = .ok () w := by
 rw [Instr.checkKey]
 simp only [Sem.run_bind, run_underlying h, Result.andThen_ok]
 rfl
theorem check_str {kt : TypeId} (h : P.underlying kt = some .string) (b : Bool) (n : Nat) (k : ByteArray) (w : World) : (Instr.checkKey b (n + 1) kt (.string k)).run P w = .ok () w := by
 rw [Instr.checkKey]
 simp only [Sem.run_bind, run_underlying h, Result.andThen_ok]
 rfl
theorem fQ {w : World} {r : Nat} {es : Array MapEntry} {c : Nat} (h : w.heap[r]? = some (.map es c)) : (getObj r).run P w = .ok (.map es c) w := by simp [getObj, Sem.run, h]
theorem qS {kt : TypeId} (h : P.underlying kt = some (.int .i64)) : KeyK P kt (fun k : Int => Value.int .i64 k) where
 check := fun b k w => pV h b 9999 k w
 find := fun k es l w hl => by
  have key : ∀ (es : List MapEntry) (l : List (Int × Value)) (i : Nat), es.map (fun e => (e.key, e.val)) = l.map (fun p => (Value.int .i64 p.1, p.2)) → Instr.findNow (.int .i64) (.int .i64 k) es i = some (findE l k i) := by
   intro es
   induction es with
   | nil => intro l i hl; cases l with | nil => rfl | cons p r => cases hl
   | cons e r ih =>
    intro l i hl
    cases l with
    | nil => cases hl
    | cons p q =>
     simp only [List.map_cons, List.cons.injEq, Prod.mk.injEq] at hl
     obtain ⟨⟨h1, h2⟩, h3⟩ := hl
     unfold Instr.findNow findE
     rw [h1]
     simp only [Instr.sameNow, if_true]
     by_cases hk : k = p.1
     ·subst hk; simp [h2]
     ·have : (k == p.1) = false := by simpa using hk
      rw [this, if_neg hk]
      exact ih q (i + 1) h3
  simp [Instr.findKey, run_underlying h, key es l 0 hl]
 same := fun k => by show Instr.sameBits (9999 + 1) _ _ = true; simp [Instr.sameBits]
theorem key_str {kt : TypeId} (h : P.underlying kt = some .string) : KeyK P kt (fun k : ByteArray => Value.string k) where
 check := fun b k w => check_str h b 9999 k w
 find := fun k es l w hl => by
  have key : ∀ (es : List MapEntry) (l : List (ByteArray × Value)) (i : Nat), es.map (fun e => (e.key, e.val)) = l.map (fun p => (Value.string p.1, p.2)) → Instr.findNow .string (.string k) es i = some (findE l k i) := by
   intro es
   induction es with
   | nil => intro l i hl; cases l with | nil => rfl | cons p r => cases hl
   | cons e r ih =>
    intro l i hl
    cases l with
    | nil => cases hl
    | cons p q =>
     simp only [List.map_cons, List.cons.injEq, Prod.mk.injEq] at hl
     obtain ⟨⟨h1, h2⟩, h3⟩ := hl
     unfold Instr.findNow findE
     rw [h1]
     simp only [Instr.sameNow, ba_beq]
     by_cases hk : k = p.1
     ·subst hk; simp [h2]
     ·rw [decide_eq_false hk, if_neg hk]
      exact ih q (i + 1) h3
  simp [Instr.findKey, run_underlying h, key es l 0 hl]
 same := fun k => by show Instr.sameBits (9999 + 1) _ _ = true; simp [Instr.sameBits, ba_beq]
theorem check_pair {kt e : TypeId} (h : P.underlying kt = some (.array 2 e)) (he : P.underlying e = some (.int .i64)) (hs : (P.info? e).map (·.size) = some 1) (b : Bool) (n : Nat) (k : Int × Int) (w : World) :
  (Instr.checkKey b (n + 1 + 1) kt (.agg #[.int .i64 k.1, .int .i64 k.2])).run P w = .ok () w := by
 have ha : (P.underlying e).map aggD = some false := by rw [he]; rfl
 have hpart : ∀ (u v : Int) (i : Nat) (z : Int), (#[Value.int .i64 u, .int .i64 v] : Array Value)[i]? = some (.int .i64 z) → (part e #[.int .i64 u, .int .i64 v] i).run P w = .ok (.int .i64 z) w := fun u v i z hk => by
  unfold part
  simp only [Sem.run_bind, run_isAgg ha, Result.andThen_ok]
  simp [hk]
 have hin : ∀ z : Int, (Instr.checkKey b (n + 1) e (.int .i64 z)).run P w = .ok () w := fun z => pV he b n z w
 rw [Instr.checkKey]
 simp only [Sem.run_bind, run_underlying h, Result.andThen_ok]
 simp [Std.Legacy.Range.forIn_eq_forIn_range', Std.Legacy.Range.size, List.range', run_sizeOf hs, hpart k.1 k.2 0 k.1 rfl, hpart k.1 k.2 1 k.2 rfl, hin]
def encP2 (k : Int × Int) : Value := .agg #[.int .i64 k.1, .int .i64 k.2]
theorem gT {kt e : TypeId} (h : P.underlying kt = some (.array 2 e)) (he : P.underlying e = some (.int .i64)) (hs : (P.info? e).map (·.size) = some 1) : KeyK P kt encP2 where
 check := fun b k w => check_pair h he hs b 9998 k w
 find := fun k es l w hl => by
  have hask : ∀ (es : List MapEntry) (l : List ((Int × Int) × Value)) (i : Nat), es.map (fun e => (e.key, e.val)) = l.map (fun p => (encP2 p.1, p.2)) → (Instr.findAsking kt (encP2 k) es i).run P w = .ok (findE l k i) w := by
   intro es
   induction es with
   | nil => intro l i hl; cases l with | nil => rfl | cons p r => cases hl
   | cons x r ih =>
    intro l i hl
    cases l with
    | nil => cases hl
    | cons p q =>
     simp only [List.map_cons, List.cons.injEq, Prod.mk.injEq] at hl
     obtain ⟨⟨h1, h2⟩, h3⟩ := hl
     have heq : (Op.equal kt (encP2 k) (encP2 p.1)).run P w = .ok (decide (k = p.1)) w := tL (w := w) 9998 h he hs
     unfold Instr.findAsking findE
     rw [h1]
     simp only [Sem.run_bind, heq, Result.andThen_ok]
     by_cases hk : k = p.1
     ·simp [hk, h2]
     ·simp only [hk, decide_false, if_false, Bool.false_eq_true]
      exact ih q (i + 1) h3
  unfold Instr.findKey
  simp only [Sem.run_bind, run_underlying h, Result.andThen_ok]
  match es, l, hl with
  | [], [], _ => rfl
  | x :: r, p :: q, hl =>
   have hx : x.key = encP2 p.1 := by simp only [List.map_cons, List.cons.injEq, Prod.mk.injEq] at hl; exact hl.1.1
   have : Instr.findNow (.array 2 e) (encP2 k) (x :: r) 0 = none := by
    unfold Instr.findNow
    rw [hx]; rfl
   rw [this]
   exact hask (x :: r) (p :: q) 0 hl
  | [], p :: q, hl => cases hl
  | x :: r, [], hl => cases hl
 same := fun k => by show Instr.sameBits (9998 + 1 + 1) _ _ = true; simp [encP2, Instr.sameBits]
end
structure Mp {κ ν : Type} (enc : κ → Value) (val : ν → Value) (w : World) (m : Nat) (l : List (κ × ν)) : Prop where
 heap : ∃ es clock, w.heap[m]? = some (.map es clock) ∧ es.toList.map (fun e => (e.key, e.val)) = l.map fun p => (enc p.1, val p.2)
section
variable {κ ν : Type} {enc : κ → Value} {val : ν → Value} {w w' : World} {m : Nat} {l : List (κ × ν)}
theorem Mp.lt (h : Mp enc val w m l) : m < w.heap.size := by
 obtain ⟨es, c, h1, _⟩ := h.heap
 exact (Array.getElem?_eq_some_iff.1 h1).1
theorem Mp.keep (h : Mp enc val w m l) (hb : w'.heap[m]? = w.heap[m]?) : Mp enc val w' m l := by
 obtain ⟨es, c, h1, h2⟩ := h.heap
 exact ⟨es, c, hb.trans h1, h2⟩
theorem Mp.below (h : Mp enc val w m l) (hb : Below w.heap.size w w') : Mp enc val w' m l := h.keep (hb.block m h.lt)
theorem Mp.kept {row : Option Nat} (h : Mp enc val w m l) (hg : w.grownBy w' row) (hne : Apart (some m) row) : Mp enc val w' m l :=
 h.keep (hg.block m h.lt fun e => hne m rfl e.symm)
theorem Mp.free {G : Pin} (h : Mp enc val w m l) (hP : Pins G w) : ∀ o u, ¬ G m o u := fun o u hg => by
 obtain ⟨es, c, h1, _⟩ := h.heap
 have := hP m o u hg
 simp [World.cell?, h1] at this
end
theorem yF {α : Type} {E : Elt α} {e : Nat} {G : Pin} {w : World} {base : Nat} {v : Value} {xs : List α} {κ ν : Type} {enc : κ → Value} {val : ν → Value} {m : Nat} {l : List (κ × ν)} (h : Mp enc val w m l) (ho : Own E e G w base v xs) : Apart (some m) v.ownBlock := fun k hk hv => by
 cases hk
 obtain ⟨es, c, h1, _⟩ := h.heap
 obtain ⟨cells, ⟨hl, hown⟩, hr⟩ := ho.ex
 rcases hown with ⟨rfl, _⟩ | ⟨g, cap, cur, rfl, _, hg, _⟩
 ·cases hv
 ·have : g = m := by simpa [Value.ownBlock] using hv
  subst this
  rw [h1] at hg; cases hg
theorem xO {G : Pin} {w : World} {b : Nat} {cs : List Value} {κ ν : Type} {enc : κ → Value} {val : ν → Value} {m : Nat} {l : List (κ × ν)} (h : Mp enc val w m l) (hb : Bx G w b cs) : Apart (some m) (some b) := fun k hk hv => by
 cases hk; cases hv
 obtain ⟨es, c, h1, _⟩ := h.heap
 obtain ⟨T, hT⟩ := hb.heap
 rw [h1] at hT; cases hT
section
variable {P : Program} {ρ : Operand → Value} {w : World} {K : Value → World → Prop} {d : Option Nat} {t kt et ty : Nat} {pos : String} {aft : Array Edge} {g : Option (Nat × Bool)} {x y z : Operand} {G : Pin}
 {κ ν : Type} [DecidableEq κ] {enc : κ → Value} {val : ν → Value} {m : Nat} {l : List (κ × ν)}
omit [DecidableEq κ] in
theorem jF (enc : κ → Value) (val : ν → Value) (hP : Pins G w) (h : ∀ m w', m = w.heap.size → Mp enc val w' m [] → Pins G w' → Below w.heap.size w w' → K (.map (some m)) w') : EO P ρ ⟨d, .makeMap t none, ty, pos, aft, g⟩ w K := by
 have hb : Below w.heap.size w (w.alloc (.map #[] 0)) := (Below.refl _ _).alloc (Nat.le_refl _) _
 refine EO.run (v := .map (some w.heap.size)) (w' := w.alloc (.map #[] 0)) ?_ (h _ _ rfl ⟨#[], 0, ?_, rfl⟩ (hP.below hb) hb)
 ·simp [execOp, run_makeMap]
 ·exact heap_alloc_new w _
theorem run_look (hk : KeyK P kt enc) (ht : P.underlying t = some (.map kt et)) {zv : Value} (hz : (P.info? et).bind (·.zero) = some zv) (hm : Mp enc val w m l) {k : κ} (hx : ρ x = .map (some m)) (hy : ρ y = enc k) :
  (execOp ρ ⟨d, .lookup t x y true, ty, pos, aft, g⟩).run P w = .ok (.value (.tuple #[((look l k).map val).getD zv, .bool (look l k).isSome])) w := by
 obtain ⟨es, c, h1, h2⟩ := hm.heap
 obtain ⟨it, hit, hzz⟩ := Option.bind_eq_some_iff.1 hz
 have hzv : (zeroValue et).run P w = .ok zv w := by simp [zeroValue, typeInfo, hit, hzz]
 have h2' : es.toList.map (fun e => (e.key, e.val)) = (l.map fun p => (p.1, val p.2)).map fun p => (enc p.1, p.2) := by rw [h2, List.map_map]; rfl
 have hf := hk.find k es.toList _ w h2'
 have hl : look (l.map fun p => (p.1, val p.2)) k = (look l k).map val := by
  unfold look
  rw [List.find?_map, Option.map_map, Option.map_map]; rfl
 have hfl := kQ k (l.map fun p => (p.1, val p.2)) 0
 rw [hl] at hfl
 have hrun : (Instr.lookup t (.map (some m)) (enc k) true).run P w = .ok (.tuple #[((look l k).map val).getD zv, .bool (look l k).isSome]) w := by
  unfold Instr.lookup
  simp only [Sem.run_bind, run_underlying ht, Result.andThen_ok, fQ h1, Sem.run_pure, hk.check, hf]
  cases hq : findE (l.map fun p => (p.1, val p.2)) k 0 with
  | none =>
   rw [hq] at hfl
   have hn : look l k = none := by
    cases hh : look l k with
    | none => rfl
    | some v => rw [hh] at hfl; cases hfl
   simp [hzv, hn]
  | some r =>
   rw [hq] at hfl
   cases hh : look l k with
   | none => rw [hh] at hfl; cases hfl
   | some v =>
    rw [hh] at hfl
    simp only [Option.map_some, Option.some.injEq] at hfl
    simp [hfl]
 simp [execOp, hx, hy, hrun]
theorem pG (hk : KeyK P kt enc) (ht : P.underlying t = some (.map kt et)) {zv : Value} (hz : (P.info? et).bind (·.zero) = some zv) (hm : Mp enc val w m l) {k : κ} (hx : ρ x = .map (some m)) (hy : ρ y = enc k) :
  (execOp ρ ⟨d, .lookup t x y false, ty, pos, aft, g⟩).run P w = .ok (.value (((look l k).map val).getD zv)) w := by
 obtain ⟨es, c, h1, h2⟩ := hm.heap
 obtain ⟨it, hit, hzz⟩ := Option.bind_eq_some_iff.1 hz
 have hzv : (zeroValue et).run P w = .ok zv w := by simp [zeroValue, typeInfo, hit, hzz]
 have h2' : es.toList.map (fun e => (e.key, e.val)) = (l.map fun p => (p.1, val p.2)).map fun p => (enc p.1, p.2) := by rw [h2, List.map_map]; rfl
 have hf := hk.find k es.toList _ w h2'
 have hl : look (l.map fun p => (p.1, val p.2)) k = (look l k).map val := by
  unfold look
  rw [List.find?_map, Option.map_map, Option.map_map]; rfl
 have hfl := kQ k (l.map fun p => (p.1, val p.2)) 0
 rw [hl] at hfl
 have hrun : (Instr.lookup t (.map (some m)) (enc k) false).run P w = .ok (((look l k).map val).getD zv) w := by
  unfold Instr.lookup
  simp only [Sem.run_bind, run_underlying ht, Result.andThen_ok, fQ h1, Sem.run_pure, hk.check, hf]
  cases hq : findE (l.map fun p => (p.1, val p.2)) k 0 with
  | none =>
   rw [hq] at hfl
   have hn : look l k = none := by
    cases hh : look l k with
    | none => rfl
    | some v => rw [hh] at hfl; cases hfl
   simp [hzv, hn]
  | some r =>
   rw [hq] at hfl
   cases hh : look l k with
   | none => rw [hh] at hfl; cases hfl
   | some v =>
    rw [hh] at hfl
    simp only [Option.map_some, Option.some.injEq] at hfl
    simp [hfl]
 simp [execOp, hx, hy, hrun]
theorem fC {l : List (κ × Bool)} (hk : KeyK P kt enc) (ht : P.underlying t = some (.map kt et)) (hz : (P.info? et).bind (·.zero) = some (.bool false)) (hm : Mp enc (fun v : Bool => Value.bool v) w m l) {k : κ} (hx : ρ x = .map (some m)) (hy : ρ y = enc k) :
  (execOp ρ ⟨d, .lookup t x y false, ty, pos, aft, g⟩).run P w = .ok (.value (.bool ((look l k).getD false))) w := by
 rw [pG hk ht hz hm hx hy]
 cases look l k <;> rfl
theorem qN {l : List (κ × Int)} (hk : KeyK P kt enc) (ht : P.underlying t = some (.map kt et)) (hz : (P.info? et).bind (·.zero) = some (.int .i64 0)) (hm : Mp enc (fun v : Int => Value.int .i64 v) w m l) {k : κ} (hx : ρ x = .map (some m)) (hy : ρ y = enc k) :
  (execOp ρ ⟨d, .lookup t x y false, ty, pos, aft, g⟩).run P w = .ok (.value (.int .i64 ((look l k).getD 0))) w := by
 rw [pG hk ht hz hm hx hy]
 cases look l k <;> rfl
theorem nT {l : List (κ × Int)} (hk : KeyK P kt enc) (ht : P.underlying t = some (.map kt et)) (hz : (P.info? et).bind (·.zero) = some (.int .i64 0)) (hm : Mp enc (fun v : Int => Value.int .i64 v) w m l) {k : κ} (hx : ρ x = .map (some m)) (hy : ρ y = enc k) :
  (execOp ρ ⟨d, .lookup t x y true, ty, pos, aft, g⟩).run P w = .ok (.value (.tuple #[.int .i64 ((look l k).getD 0), .bool (look l k).isSome])) w := by
 rw [run_look hk ht hz hm hx hy]
 cases look l k <;> rfl
theorem mM {l : List (κ × Bool)} (hk : KeyK P kt enc) (ht : P.underlying t = some (.map kt et)) (hz : (P.info? et).bind (·.zero) = some (.bool false)) (hm : Mp enc (fun v : Bool => Value.bool v) w m l) {k : κ} (hx : ρ x = .map (some m)) (hy : ρ y = enc k) :
  (execOp ρ ⟨d, .lookup t x y true, ty, pos, aft, g⟩).run P w = .ok (.value (.tuple #[.bool ((look l k).getD false), .bool (look l k).isSome])) w := by
 rw [run_look hk ht hz hm hx hy]
 cases look l k <;> rfl
theorem qA (hk : KeyK P kt enc) (ht : P.underlying t = some (.map kt et)) {k : κ} {v : ν} (hx : ρ x = .map (some m)) (hy : ρ y = enc k) (hz : ρ z = val v) (hP : Pins G w) (hm : Mp enc val w m l)
  (h : ∀ w', Mp enc val w' m (putE l k v) → Pins G w' → w.grownBy w' (some m) → w'.heap.size = w.heap.size → K undef w') : EO P ρ ⟨d, .mapUpdate t x y z, ty, pos, aft, g⟩ w K := by
 obtain ⟨es, c, h1, h2⟩ := hm.heap
 have h2' : es.toList.map (fun e => (e.key, e.val)) = (l.map fun p => (p.1, val p.2)).map fun p => (enc p.1, p.2) := by rw [h2, List.map_map]; rfl
 have hf := hk.find k es.toList _ w h2'
 have hl : look (l.map fun p => (p.1, val p.2)) k = (look l k).map val := by
  unfold look
  rw [List.find?_map, Option.map_map, Option.map_map]; rfl
 have hfl := kQ k (l.map fun p => (p.1, val p.2)) 0
 rw [hl] at hfl
 have hset : ∀ o : Obj, (setObj m o).run P w = .ok () { w with heap := w.heap.setIfInBounds m o } := fun o => by simp [setObj, Sem.run, h1]
 have hgrow : ∀ o : Obj, w.grownBy { w with heap := w.heap.setIfInBounds m o } (some m) := fun o =>
  ⟨rfl, rfl, rfl, by simp, fun j _ hj => by
   simp only [Array.getElem?_setIfInBounds]
   rw [if_neg (fun e => hj (by rw [e]))]⟩
 have hlt := hm.lt
 have hat : ∀ o : Obj, ({ w with heap := w.heap.setIfInBounds m o } : World).heap[m]? = some o := fun o => by
  simp [hlt]
 have hpins : ∀ o : Obj, Pins G { w with heap := w.heap.setIfInBounds m o } := fun o => hP.grown (hgrow o) (fun j hj o' u' => by cases hj; exact hm.free hP o' u')
 have fin : ∀ o : Obj, (Instr.mapUpdate t (.map (some m)) (enc k) (val v)).run P w = .ok () { w with heap := w.heap.setIfInBounds m o } → Mp enc val { w with heap := w.heap.setIfInBounds m o } m (putE l k v) → EO P ρ ⟨d, .mapUpdate t x y z, ty, pos, aft, g⟩ w K := fun o hr hmp =>
  EO.skip (w' := { w with heap := w.heap.setIfInBounds m o }) (by simp [execOp, hx, hy, hz, hr]) (h _ hmp (hpins o) (hgrow o) (by simp))
 have hpm := putE_map (f := val) k v l
 cases hq : findE (l.map fun p => (p.1, val p.2)) k 0 with
 | none =>
  rw [hq] at hf
  refine fin (.map (es.push { key := enc k, val := val v, born := c }) (c + 1)) ?_ ⟨_, _, hat _, ?_⟩
  ·unfold Instr.mapUpdate
   simp only [Sem.run_bind, run_underlying ht, Result.andThen_ok, fQ h1, hk.check, hf, hset]
  ·rw [pM hq] at hpm
   have : (putE l k v).map (fun p => (enc p.1, val p.2)) = ((putE l k v).map fun p => (p.1, val p.2)).map fun p => (enc p.1, p.2) := by rw [List.map_map]; rfl
   rw [this, ← hpm, List.map_append, ← h2']
   simp
 | some r =>
  obtain ⟨i, u⟩ := r
  rw [hq] at hf
  obtain ⟨_, ⟨p, hp, hpk⟩, hset2⟩ := pL (v := val v) hq
  rw [Nat.sub_zero] at hp hset2
  have hei : (es.toList.map (fun e => (e.key, e.val)))[i]? = some (enc k, p.2) := by
   rw [h2', List.getElem?_map, hp]
   simp [hpk]
  obtain ⟨e, he, hek⟩ : ∃ e, es[i]? = some e ∧ e.key = enc k := by
   rw [List.getElem?_map] at hei
   cases hh : es.toList[i]? with
   | none => rw [hh] at hei; cases hei
   | some e =>
    rw [hh] at hei
    simp only [Option.map_some, Option.some.injEq, Prod.mk.injEq] at hei
    exact ⟨e, by rw [← Array.getElem?_toList]; exact hh, hei.1⟩
  have hstay : (Instr.keyThatStays (enc k) (enc k)).run P w = .ok (enc k) w := by
   unfold Instr.keyThatStays
   rw [if_pos (hk.same k)]; rfl
  refine fin (.map (es.modify i fun e => { e with key := enc k, val := val v }) c) ?_ ⟨_, _, hat _, ?_⟩
  ·unfold Instr.mapUpdate
   simp only [Sem.run_bind, run_underlying ht, Result.andThen_ok, fQ h1, hk.check, hf, he, Option.map_some, Option.getD_some, hek, hstay, hset]
  ·have : (putE l k v).map (fun p => (enc p.1, val p.2)) = ((putE l k v).map fun p => (p.1, val p.2)).map fun p => (enc p.1, p.2) := by rw [List.map_map]; rfl
   rw [this, ← hpm, hset2, List.map_set, ← h2']
   rw [Array.toList_modify]
   apply List.ext_getElem?
   intro n
   simp only [List.getElem?_map, List.getElem?_set, List.getElem?_modify, List.length_map]
   by_cases hn : i = n
   ·subst hn
    have hlt2 : i < es.toList.length := by
     have := (Array.getElem?_eq_some_iff.1 he).1
     simpa using this
    have hlt3 : i < es.size := by simpa using hlt2
    simp [hlt3]
   ·simp [hn]
end
end Go.GL
namespace Go.GL
open Go Go.RowKit
section
variable {P : Program} {ρ : Operand → Value} {w : World} {d : Option Nat} {t ty t' : Nat} {pos : String} {aft : Array Edge} {g : Option (Nat × Bool)} {x y c : Operand}
 {v u : Value} {i j : Int} {k : IntKind} {G : Pin} {K : Value → World → Prop}
theorem rG {n : Int} (h : 0 ≤ n ∧ n ≤ 18446744073709551615) : IntKind.u64.wrap n = n := by
 unfold IntKind.wrap
 simp only [IntKind.bits, IntKind.signed]
 have : n % (2 : Int) ^ 64 = n := Int.emod_eq_of_lt h.1 (by omega)
 simp only [this, Bool.false_and]
 rfl
theorem wrapI {n : Int} (h : -9223372036854775808 ≤ n ∧ n ≤ 9223372036854775807) : IntKind.i64.wrap n = n := by
 simp [IntWalk.i64_in n h]
theorem r_subX (hx : ρ x = .int .u64 i) (hy : ρ y = .int .u64 j) (h : 0 ≤ i - j ∧ i - j ≤ 18446744073709551615) : (execOp ρ ⟨d, .binOp .sub t x y t', ty, pos, aft, g⟩).run P w = .ok (.value (.int .u64 (i - j))) w := by
 simp [execOp, hx, hy, binOp, eqGuard, Op.intArith, rG h]
theorem r_mulX (hx : ρ x = .int .u64 i) (hy : ρ y = .int .u64 j) (h : 0 ≤ i * j ∧ i * j ≤ 18446744073709551615) : (execOp ρ ⟨d, .binOp .mul t x y t', ty, pos, aft, g⟩).run P w = .ok (.value (.int .u64 (i * j))) w := by
 simp [execOp, hx, hy, binOp, eqGuard, Op.intArith, rG h]
theorem r_quoX (hx : ρ x = .int .u64 i) (hy : ρ y = .int .u64 j) (h0 : 0 ≤ i) (h1 : 0 < j) (h2 : i ≤ 18446744073709551615) : (execOp ρ ⟨d, .binOp .quo t x y t', ty, pos, aft, g⟩).run P w = .ok (.value (.int .u64 (i / j))) w := by
 have hj : j ≠ 0 := by omega
 have he : i.tdiv j = i / j := Int.tdiv_eq_ediv_of_nonneg h0
 have hle : i / j ≤ i := Int.ediv_le_self j h0
 have hge : 0 ≤ i / j := Int.ediv_nonneg h0 (by omega)
 simp [execOp, hx, hy, binOp, eqGuard, Op.intDiv, hj, he, rG (n := i / j) ⟨by omega, by omega⟩]
theorem sI (hx : ρ x = .int .u64 i) (hy : ρ y = .int .u64 j) : (execOp ρ ⟨d, .binOp .add t x y t', ty, pos, aft, g⟩).run P w = .ok (.value (.int .u64 (IntKind.u64.wrap (i + j)))) w := by
 simp [execOp, hx, hy, binOp, eqGuard, Op.intArith]
theorem r_mulU (hx : ρ x = .int .u64 i) (hy : ρ y = .int .u64 j) : (execOp ρ ⟨d, .binOp .mul t x y t', ty, pos, aft, g⟩).run P w = .ok (.value (.int .u64 (IntKind.u64.wrap (i * j)))) w := by
 simp [execOp, hx, hy, binOp, eqGuard, Op.intArith]
theorem r_shrU (hx : ρ x = .int .u64 i) (hy : ρ y = .int .u64 j) (h0 : 0 ≤ j) : (execOp ρ ⟨d, .binOp .shr t x y t', ty, pos, aft, g⟩).run P w = .ok (.value (.int .u64 (i.fdiv (2 ^ (min j.toNat 64))))) w := by
 simp [execOp, hx, hy, binOp, eqGuard, Op.shift, show ¬ j < 0 by omega, IntKind.bits]
def andW (k : IntKind) (i j : Int) : Int := k.wrap (BitVec.ofInt k.bits i &&& BitVec.ofInt k.bits j).toNat
theorem r_and (hx : ρ x = .int k i) (hy : ρ y = .int k j) : (execOp ρ ⟨d, .binOp .and t x y t', ty, pos, aft, g⟩).run P w = .ok (.value (.int k (andW k i j))) w := by
 simp [execOp, hx, hy, binOp, eqGuard, Op.intBits, andW]
theorem low8_lt (i : Int) : 0 ≤ andW .u64 i 255 ∧ andW .u64 i 255 ≤ 255 := by
 have h : (BitVec.ofInt 64 i &&& BitVec.ofInt 64 255).toNat ≤ 255 := by
  rw [BitVec.toNat_and]
  exact Nat.le_trans Nat.and_le_right (by decide)
 have e : andW .u64 i 255 = ((BitVec.ofInt 64 i &&& BitVec.ofInt 64 255).toNat : Int) := rG ⟨by omega, by show ((BitVec.ofInt 64 i &&& BitVec.ofInt 64 255).toNat : Int) ≤ _; omega⟩
 rw [e]; omega
theorem kO {t2 : Nat} {k2 : IntKind} {td : TypeDesc} (hs : P.underlying t = some td) (hd : P.underlying t2 = some (.int k2)) (hx : ρ x = .int k i) (hw : k2.wrap i = j) : (execOp ρ ⟨d, .convert t t2 x, ty, pos, aft, g⟩).run P w = .ok (.value (.int k2 j)) w := by
 subst hw
 simp [execOp, hx, convert, run_underlying hs, run_underlying hd, Conv.intToInt]
def arrV (l : List UInt8) : List Value := l.map fun x => .int .u8 x.toNat
theorem arrV_len (l : List UInt8) : (arrV l).length = l.length := by simp [arrV]
theorem o_stpk {b k : Nat} {l : List UInt8} {x0 : UInt8} (hs : (P.info? t).map (·.size) = some 1) (hx : ρ x = .pointer (some ⟨b, k, none⟩)) (hy : ρ y = .int .u8 (x0.toNat : Int)) (hk : k < l.length)
  (hP : Pins G w) (hb : Bx G w b (arrV l)) (h : ∀ w', Bx G w' b (arrV (l.set k x0)) → Pins G w' → w.grownBy w' (some b) → w'.heap.size = w.heap.size → K undef w') : EO P ρ ⟨d, .store t x y, ty, pos, aft, g⟩ w K :=
 o_stp (us := [.int .u8 (x0.toNat : Int)]) (cs := arrV l) (cs' := arrV (l.set k x0)) hs hx hy rfl (fun v hv => by simp at hv; subst hv; rfl) hP hb (by rw [arrV_len]; exact hk) (by
  unfold arrV
  rw [List.map_set, List.set_eq_take_append_cons_drop, if_pos (by simpa using hk), List.append_assoc]
  rfl) h
theorem name_arr {b n : Nat} {l : List UInt8} {z : Int} (hb : BxP G b (arrV l)) (hn : l.length = n) (hz : 0 ≤ z ∧ z < n) (hm : n ≤ 1000000) : ∃ v, RSl eByte G v (l.drop z.toNat) ∧
  ∀ {P : Program} {w : World} {d : Option Nat} {t ty e : Nat} {pos : String} {aft : Array Edge} {g : Option (Nat × Bool)} {x y : Operand} {ρ : Operand → Value} (_ : P.underlying t = some (.array n e)) (_ : (P.info? e).map (·.size) = some 1) (_ : ρ x = .pointer (some ⟨b, 0, none⟩)) (_ : ρ y = .int .i64 z),
   (execOp ρ ⟨d, .slice t x (some y) none none, ty, pos, aft, g⟩).run P w = .ok (.value v) w := by
 have hne : ¬ n = z.toNat := by omega
 refine ⟨.slice (some ⟨b, z.toNat, none⟩) (n - z.toNat) (n - z.toNat), ⟨⟨_, _, by rw [List.length_drop, hn], by rw [List.length_drop, hn]; exact Nat.le_refl _, by unfold maxLen; omega⟩, fun i q hi => ?_⟩, ?_⟩
 ·rw [List.getElem?_drop] at hi
  refine ⟨⟨b, z.toNat, none⟩, b, z.toNat + i, _, _, [.int .u8 (q.toNat : Int)], rfl, fun k => ?_, rfl, fun j u hj => ?_⟩
  ·show Addr.add ⟨b, z.toNat, none⟩ (i * 1 + k) = _
   by_cases h0 : i * 1 + k = 0
   ·have h1 : i = 0 := by omega
    have h2 : k = 0 := by omega
    subst h1 h2; rfl
   ·simp only [Addr.add, if_neg h0, Addr.mk.injEq, true_and, and_true]; omega
  ·have hj0 : j = 0 := by
    have := (List.getElem?_eq_some_iff.1 hj).1
    simpa using this
   subst hj0
   simp at hj
   subst hj
   exact hb _ _ (by unfold arrV; rw [Nat.add_zero, List.getElem?_map, hi]; rfl)
 ·intro P w d t ty e pos aft g x y ρ ht hs hx hy
  obtain ⟨inf, hinf, hsz⟩ := Option.map_eq_some_iff.1 hs
  have hzn : (z.toNat : Int) ≤ n := by omega
  simp only [execOp, hx, hy, Option.map, Instr.sliceAt, Sem.run_bind, run_underlying ht, Result.andThen_ok, Instr.sureAddr, Sem.run_pure]
  simp [Instr.sliceBounds, run_sliceBound, hz.1, show z ≤ (n : Int) by omega, sizeOf, typeInfo, hinf, hsz, hne, Addr.add]
  omega
theorem sL {α : Type} {E : Elt α} {e bytes : Nat} {z : Value} {n : Int} (ht : P.underlying t = some (.slice e)) (hi : (P.info? e).map (fun i => (i.size, i.bytes, i.zero)) = some (E.size, bytes, some z))
  (hx : ρ x = .int .i64 0) (hy : ρ y = .int .i64 n) (hP : Pins G w) (h0 : 0 ≤ n) (hb : (bytes : Int) * n ≤ 281474976710656) (hm : n ≤ 9223372036854775807)
  (h : ∀ v w', Own E e G w' w.heap.size v ([] : List α) → Pins G w' → Below w.heap.size w w' → v.ownBlock = some w.heap.size → K v w') : EO P ρ ⟨d, .makeSlice t x y, ty, pos, aft, g⟩ w K := by
 obtain ⟨inf, hinf, hsz⟩ := Option.map_eq_some_iff.1 hi
 simp only [Prod.mk.injEq] at hsz
 obtain ⟨hsz, hby, hz1⟩ := hsz
 have hr := _root_.Go.run_make (P := P) w t e inf z ht hinf hz1 .i64 .i64 0 n (Int.le_refl _) h0 (by rw [hby]; exact hb) hm
 have hbl : Below w.heap.size w (w.alloc (.cells (madeCells z.cells (n.toNat * inf.size)) e)) := (Below.refl _ _).alloc (Nat.le_refl _) _
 have hfree : ∀ k, Value.ownBlock (.slice (some ⟨w.heap.size, 0, none⟩) 0 n.toNat) = some k → ∀ o u, ¬ G k o u := by
  intro k hk o u hG
  simp [Value.ownBlock] at hk
  have := vQ (hP _ _ _ hG); omega
 refine EO.run (v := .slice (some ⟨w.heap.size, 0, none⟩) 0 n.toNat) ?_ (h _ _ ⟨⟨[], ⟨by simp, Or.inr ⟨w.heap.size, n.toNat, madeCells z.cells (n.toNat * inf.size), rfl, Nat.le_refl _, heap_alloc_new w _, Nat.zero_le _, by unfold maxLen; omega, by rw [size_madeCells, hsz], by simp⟩⟩, fun i q hq => by simp at hq⟩, hfree⟩ (hP.below hbl) hbl rfl)
 simp only [execOp, hx, hy, Sem.run_bind, hr, Result.andThen_ok]
 rfl
def b2s (l : List UInt8) : ByteArray := ⟨l.toArray⟩
theorem eJ {a b : List UInt8} (h : b2s a = b2s b) : a = b := by
 have := congrArg (fun x => x.data.toList) h
 simpa [b2s] using this
theorem pS : ∀ (l : List UInt8) (s : ByteArray), (l.map fun x => (x.toNat : Int)).foldl (fun r n => r.push (UInt8.ofNat n.toNat)) s = ⟨(s.data.toList ++ l).toArray⟩
 | [], s => by cases s; simp
 | x :: l, s => by
  rw [List.map_cons, List.foldl_cons, pS l]
  simp [ByteArray.push]
theorem r_b2s {e : Nat} {xs : List UInt8} (ht : P.underlying t = some (.slice e)) (he : P.underlying e = some (.int .u8)) (hs : P.underlying t' = some .string) (hx : ρ x = v) (hv : RSl eByte G v xs) (hP : Pins G w) :
  (execOp ρ ⟨d, .convert t t' x, ty, pos, aft, g⟩).run P w = .ok (.value (.string (b2s xs))) w := by
 obtain ⟨a, cp, rfl, _, _⟩ := hv.sl
 have key : (Conv.bytesToString (.slice a xs.length cp)).run P w = .ok (.string (b2s xs)) w := by
  cases a with
  | none =>
   have h0 : xs = [] := by
    cases xs with
    | nil => rfl
    | cons q r =>
     obtain ⟨a', _, _, _, _, _, h1, _⟩ := hv.at_ 0 q rfl
     cases h1
   subst h0; rfl
  | some a =>
   have hcell : ∀ j q, (xs.map fun x => Value.int .u8 (x.toNat : Int))[j]? = some q → w.cell? (a.add j) = some q := fun j q hj => by
    rw [List.getElem?_map] at hj
    obtain ⟨y, hy, rfl⟩ := Option.map_eq_some_iff.1 hj
    obtain ⟨a', b, o, n, c', cs, h1, h2, h3, h4⟩ := hv.at_ j y hy
    simp only [Value.slice.injEq, Option.some.injEq] at h1
    obtain ⟨rfl, _, _⟩ := h1
    have h5 := h2 0
    simp only [eByte, Nat.mul_one, Nat.add_zero] at h5 h3
    rw [h5]
    exact hP _ _ _ (by have := h4 0 _ (by rw [h3]; rfl); simpa using this)
   have hl := run_loadCells_list (P := P) w a (xs.map fun x => Value.int .u8 (x.toNat : Int)) hcell
   rw [List.length_map] at hl
   have e0 : (xs.map fun x => Value.int .u8 (x.toNat : Int)) = (xs.map fun x => (x.toNat : Int)).map (Value.int .u8) := by rw [List.map_map]; rfl
   rw [e0] at hl
   rw [run_bytesToString w a xs.length cp _ hl, pS]
   simp [b2s]
 simp only [execOp, hx, convert, Sem.run_bind, run_underlying ht, run_underlying hs, Result.andThen_ok, run_underlying he, key]
 rfl
def digC (n : Nat) : UInt8 := if n < 10 then UInt8.ofNat (48 + n) else UInt8.ofNat (87 + n)
def digs36 : ByteArray := ⟨#[48, 49, 50, 51, 52, 53, 54, 55, 56, 57, 97, 98, 99, 100, 101, 102, 103, 104, 105, 106, 107, 108, 109, 110, 111, 112, 113, 114, 115, 116, 117, 118, 119, 120, 121, 122]⟩
theorem digs_at : ∀ n : Fin 36, digs36[n.val]? = some (digC n.val) := by decide
theorem r_digit (ht : P.underlying t = some .string) (hx : ρ x = .string digs36) (hy : ρ y = .int k i) (h : 0 ≤ i ∧ i < 36) : (execOp ρ ⟨d, .index t x y, ty, pos, aft, g⟩).run P w = .ok (.value (.int .u8 ((digC i.toNat).toNat : Int))) w := by
 have e := digs_at ⟨i.toNat, by omega⟩
 simp only at e
 simp [execOp, hx, hy, Instr.index, asIntOf, run_underlying ht, h.1, e]
end
theorem digC_inj : ∀ a b : Fin 36, digC a.val = digC b.val → a = b := by decide
theorem digC_sep : ∀ a : Fin 36, digC a.val ≠ 44 ∧ digC a.val ≠ 124 := by decide
def dig36 (n : Nat) : List UInt8 := if _h : n < 36 then [digC n] else dig36 (n / 36) ++ [digC (n % 36)]
termination_by n
decreasing_by omega
theorem kR {n : Nat} (h : n < 36) : dig36 n = [digC n] := by rw [dig36, dif_pos h]
theorem fJ {n : Nat} (h : ¬ n < 36) : dig36 n = dig36 (n / 36) ++ [digC (n % 36)] := by rw [dig36, dif_neg h]
theorem sZ (n : Nat) : 0 < (dig36 n).length := by
 by_cases h : n < 36
 ·rw [kR h]; simp
 ·rw [fJ h]; simp
theorem dig_len : ∀ (k n : Nat), n < 36 ^ (k + 1) → (dig36 n).length ≤ k + 1
 | 0, n, h => by rw [kR (by simpa using h)]; simp
 | k + 1, n, h => by
  by_cases hn : n < 36
  ·rw [kR hn]; simp
  ·rw [fJ hn]
   have := dig_len k (n / 36) (by rw [Nat.pow_succ] at h; omega)
   simp; omega
theorem dig13 {n : Nat} (h : n < 9223372036854775808) : (dig36 n).length ≤ 13 := by
 have h36 : (36 : Nat) ^ 13 = 170581728179578208256 := by decide
 exact dig_len 12 n (by omega)
theorem sY (n : Nat) : ∀ x ∈ dig36 n, x ≠ 44 ∧ x ≠ 124 := by
 induction n using Nat.strongRecOn with
 | _ n ih =>
  intro x hx
  by_cases h : n < 36
  ·rw [kR h] at hx; simp at hx; subst hx; exact digC_sep ⟨n, h⟩
  ·rw [fJ h] at hx
   rcases List.mem_append.1 hx with hx | hx
   ·exact ih _ (by omega) x hx
   ·simp at hx; subst hx; exact digC_sep ⟨n % 36, by omega⟩
theorem dig_inj : ∀ (a b : Nat), dig36 a = dig36 b → a = b := by
 intro a
 induction a using Nat.strongRecOn with
 | _ a ih =>
  intro b h
  by_cases ha : a < 36 <;> by_cases hb : b < 36
  ·rw [kR ha, kR hb] at h
   have := digC_inj ⟨a, ha⟩ ⟨b, hb⟩ (by simpa using h)
   simpa using this
  ·rw [kR ha, fJ hb] at h
   have h1 := congrArg List.length h
   have := sZ (b / 36)
   rw [List.length_append] at h1
   simp only [List.length_cons, List.length_nil] at h1; omega
  ·rw [fJ ha, kR hb] at h
   have h1 := congrArg List.length h
   have := sZ (a / 36)
   rw [List.length_append] at h1
   simp only [List.length_cons, List.length_nil] at h1; omega
  ·rw [fJ ha, fJ hb] at h
   obtain ⟨h1, h2⟩ := List.append_inj' h rfl
   have e1 := ih (a / 36) (by omega) _ h1
   have e2 := digC_inj ⟨a % 36, by omega⟩ ⟨b % 36, by omega⟩ (by simpa using h2)
   simp at e2; omega
theorem dig_step {u0 : Nat} {uz iz : Int} {L : List UInt8} (hd : dig36 u0 = dig36 uz.toNat ++ L.drop iz.toNat) (hL : L.length = 65) (hu : 36 ≤ uz) (hi : 1 ≤ iz ∧ iz ≤ 65) :
  dig36 u0 = dig36 (uz / 36).toNat ++ (L.set (iz - 1).toNat (digC (uz - (uz / 36 * 36)).toNat)).drop (iz - 1).toNat := by
 have e1 : (uz / 36).toNat = uz.toNat / 36 := by omega
 have e2 : (uz - (uz / 36 * 36)).toNat = uz.toNat % 36 := by omega
 have e3 : iz.toNat = (iz - 1).toNat + 1 := by omega
 rw [hd, fJ (by omega), e1, e2, e3, List.append_assoc]
 congr 1
 rw [List.drop_set, if_neg (by omega), Nat.sub_self, List.drop_eq_getElem_cons (by omega : (iz - 1).toNat < L.length)]
 rfl
theorem dig_last {u0 : Nat} {uz iz : Int} {L : List UInt8} (hd : dig36 u0 = dig36 uz.toNat ++ L.drop iz.toNat) (hL : L.length = 65) (hu : ¬ 36 ≤ uz) (hi : 1 ≤ iz ∧ iz ≤ 65) :
  (L.set (iz - 1).toNat (digC uz.toNat)).drop (iz - 1).toNat = dig36 u0 := by
 have e3 : iz.toNat = (iz - 1).toNat + 1 := by omega
 rw [hd, kR (by omega), e3]
 rw [List.drop_set, if_neg (by omega), Nat.sub_self, List.drop_eq_getElem_cons (by omega : (iz - 1).toNat < L.length)]
 rfl
theorem dig_place {u0 : Nat} {uz iz : Int} {L : List UInt8} (hd : dig36 u0 = dig36 uz.toNat ++ L.drop iz.toNat) (hL : L.length = 65) (h0 : u0 < 9223372036854775808) : 53 ≤ iz := by
  have h1 := congrArg List.length hd
  have h2 := sZ uz.toNat
  have h3 := dig_len 12 u0 (by have : (36 : Nat) ^ 13 = 170581728179578208256 := by decide
                               omega)
  rw [List.length_append, List.length_drop] at h1
  omega
theorem not_pow36 : decide (andW .i64 36 (36 - 1) = (0 : Int)) = false := by decide
def keyL (l : List Int) : List UInt8 := l.flatMap fun z => dig36 z.toNat ++ [44]
def keyN (l r : List Int) : List UInt8 := keyL l ++ [124] ++ keyL r
theorem key_next {l : List Int} {j : Nat} (h : j < l.length) : keyL (l.take (j + 1)) = keyL (l.take j) ++ dig36 (l.getD j 0).toNat ++ [44] := by
 rw [qE l 0 h]; simp [keyL]
theorem cut_at {s : UInt8} : ∀ {a b x y : List UInt8}, (∀ z ∈ a, z ≠ s) → (∀ z ∈ b, z ≠ s) → a ++ s :: x = b ++ s :: y → a = b ∧ x = y
 | [], [], _, _, _, _, h => by simpa using h
 | [], q :: b, _, _, _, hb, h => by simp at h; exact absurd h.1.symm (hb q List.mem_cons_self)
 | p :: a, [], _, _, ha, _, h => by simp at h; exact absurd h.1 (ha p List.mem_cons_self)
 | p :: a, q :: b, x, y, ha, hb, h => by
  simp only [List.cons_append, List.cons.injEq] at h
  obtain ⟨h1, h2⟩ := cut_at (a := a) (b := b) (fun z hz => ha z (List.mem_cons_of_mem _ hz)) (fun z hz => hb z (List.mem_cons_of_mem _ hz)) h.2
  exact ⟨by rw [h.1, h1], h2⟩
theorem tU (z : Int) (l : List Int) (x : List UInt8) : keyL (z :: l) ++ x = dig36 z.toNat ++ 44 :: (keyL l ++ x) := by simp [keyL]
theorem keyL_sep (l : List Int) : ∀ x ∈ keyL l, x ≠ 124 := fun x hx => by
 obtain ⟨z, _, hz⟩ := List.mem_flatMap.1 hx
 rcases List.mem_append.1 hz with hz | hz
 ·exact (sY _ x hz).2
 ·simp at hz; subst hz; decide
theorem nD : ∀ {a b : List Int}, (∀ z ∈ a, 0 ≤ z) → (∀ z ∈ b, 0 ≤ z) → keyL a = keyL b → a = b
 | [], [], _, _, _ => rfl
 | [], z :: b, _, _, h => by
  have := congrArg List.length h
  simp [keyL] at this
 | z :: a, [], _, _, h => by
  have := congrArg List.length h
  simp [keyL] at this
 | z :: a, y :: b, ha, hb, h => by
  have e1 := tU z a []
  have e2 := tU y b []
  rw [List.append_nil, List.append_nil] at e1 e2
  rw [e1, e2] at h
  obtain ⟨h1, h2⟩ := cut_at (fun q hq => (sY _ q hq).1) (fun q hq => (sY _ q hq).1) h
  have := dig_inj _ _ h1
  have z0 := ha z List.mem_cons_self; have y0 := hb y List.mem_cons_self
  rw [nD (fun q hq => ha q (List.mem_cons_of_mem _ hq)) (fun q hq => hb q (List.mem_cons_of_mem _ hq)) h2, show z = y by omega]
theorem nC {a b c e : List Int} (ha : ∀ z ∈ a, 0 ≤ z) (hb : ∀ z ∈ b, 0 ≤ z) (hc : ∀ z ∈ c, 0 ≤ z) (he : ∀ z ∈ e, 0 ≤ z) (h : keyN a b = keyN c e) : a = c ∧ b = e := by
 unfold keyN at h
 rw [List.append_assoc, List.append_assoc] at h
 obtain ⟨h1, h2⟩ := cut_at (keyL_sep a) (keyL_sep c) h
 exact ⟨nD ha hc h1, nD hb he h2⟩
theorem key_len {l : List Int} (h : ∀ z ∈ l, 0 ≤ z ∧ z < 9223372036854775808) : (keyL l).length ≤ 14 * l.length := by
  induction l with
  | nil => simp [keyL]
  | cons z l ih =>
    have e := tU z l []
    rw [List.append_nil] at e
    have h1 := h z List.mem_cons_self
    have := dig_len 12 z.toNat (by have : (36 : Nat) ^ 13 = 170581728179578208256 := by decide
                                   omega)
    have := ih fun y hy => h y (List.mem_cons_of_mem _ hy)
    rw [e]; simp; omega
theorem mA {w : World} {x y z : Option Nat} (h : Lo w (inO y) x) (ha : Apart z y) (hl : ∀ k, z = some k → k < w.heap.size) : Apart z x := fun k hz hx => by
 rcases h k hx with h1 | h1
 ·have := hl k hz; omega
 ·exact ha k hz h1
theorem sS {w0 w : World} {S : Nat → Prop} {x y : Option Nat} (h : Lo w (inO y) x) (hy : Lo w0 S y) (hs : w0.heap.size ≤ w.heap.size) : Lo w0 S x := fun k hk => by
 rcases h k hk with h1 | h1
 ·exact Or.inl (by omega)
 ·exact hy k h1
end Go.GL
namespace Go.GL
open Go Go.RowKit Go.Sort
theorem tM {e base g n cap : Nat} {G : Pin} {w : World} {zs : List Int} (h : Own eInt e G w base (.slice (some ⟨g, 0, none⟩) n cap) zs) : n = zs.length ∧ g < w.heap.size ∧ zs.length ≤ cap ∧ Holds (Value.int .i64) w g 0 zs.toArray := by
 obtain ⟨cells, ⟨hl, hown⟩, hr⟩ := h.ex
 rcases hown with ⟨he, _⟩ | ⟨g', cap', cur, he, hb, hg, hnc, hcm, hcs, htake⟩
 ·cases he
 ·simp only [Value.slice.injEq, Option.some.injEq, Addr.mk.injEq] at he
  obtain ⟨⟨rfl, _⟩, rfl, rfl⟩ := he
  refine ⟨rfl, (Array.getElem?_eq_some_iff.1 hg).1, hnc, fun j hj => ?_⟩
  have hj' : j < zs.length := by simpa using hj
  have hz : zs[j]? = some zs[j] := List.getElem?_eq_getElem hj'
  have h1 := hr j _ hz
  have h2 : (List.drop (j * eInt.size) cells).take eInt.size = [.int .i64 zs[j]] := h1
  have h3 : cells[j]? = some (.int .i64 zs[j]) := by
   have := congrArg (fun l => l[0]?) h2
   simp only [List.getElem?_take, List.getElem?_drop] at this
   simpa [eInt] using this
  rw [← htake, List.getElem?_take] at h3
  split at h3
  ·have h4 : cur[j]? = some (.int .i64 zs[j]) := by simpa using h3
   refine ⟨?_, ?_⟩
   ·rw [cell_of_row w g _ cur e (0, 0) hg, Nat.zero_add, h4]
    simp [hj']
   ·simp [World.frozen?, hg]
  ·cases h3
theorem sJ {e base g n cap : Nat} {G : Pin} {w w' : World} {zs ys : List Int} {d : Array Int} {os : Array Obj} {m : Nat} (h : Own eInt e G w base (.slice (some ⟨g, 0, none⟩) n cap) zs) (hP : Pins G w)
  (hw : w' = grow (putRow (Value.int .i64) (Go.Sort.ahead w m) g 0 d) os) (hd : d.size = zs.length) (hy : d.toList.take ys.length = ys) : Own eInt e G w' base (.slice (some ⟨g, 0, none⟩) ys.length cap) ys ∧ Pins G w' ∧ w.grownBy w' (some g) := by
 obtain ⟨cells, ⟨hl, hown⟩, hr⟩ := h.ex
 have hfree := h.free
 rcases hown with ⟨he, _⟩ | ⟨g', cap', cur, he, hb, hg, hnc, hcm, hcs, htake⟩
 ·cases he
 ·simp only [Value.slice.injEq, Option.some.injEq, Addr.mk.injEq] at he
  obtain ⟨⟨rfl, _⟩, rfl, rfl⟩ := he
  have hlt : g < w.heap.size := (Array.getElem?_eq_some_iff.1 hg).1
  have hle : ys.length ≤ d.size := by
   have := congrArg List.length hy
   simp only [List.length_take, Array.length_toList] at this; omega
  have hh : w'.heap = w.heap.modify g (onCells (putCells (Value.int .i64) 0 d)) ++ os := by subst hw; rfl
  have hat : w'.heap[g]? = some (.cells (putCells (Value.int .i64) 0 d cur) e (0, 0)) := by
   rw [hh, Array.getElem?_append_left (by simpa using hlt), Array.getElem?_modify, if_pos rfl, hg]; rfl
  have hgr : w.grownBy w' (some g) := ⟨by subst hw; rfl, by subst hw; rfl, by subst hw; rfl, by rw [hh]; simp, fun k hk hne => by
   rw [hh, Array.getElem?_append_left (by simpa using hk), Array.getElem?_modify, if_neg (fun e => hne (by rw [e]))]⟩
  refine ⟨⟨⟨ys.map (Value.int .i64), ⟨by simp [eInt], Or.inr ⟨g, cap, _, rfl, hb, hat, by omega, hcm, by rw [putCells, Array.size_mapIdx, hcs], ?_⟩⟩, fun i x hx => ?_⟩, hfree⟩, hP.grown hgr (fun k hk => by cases hk; exact hfree g rfl), hgr⟩
  ·apply List.ext_getElem?
   intro j
   simp only [eInt, Nat.mul_one, List.getElem?_take, Array.getElem?_toList, putCells, Array.getElem?_mapIdx, List.getElem?_map]
   by_cases hj : j < ys.length
   ·have hjc : j < cur.size := by rw [hcs]; simp only [eInt]; omega
    rw [if_pos hj, Array.getElem?_eq_getElem hjc, Option.map_some, if_pos (by omega), List.getElem?_eq_getElem hj]
    simp only [Option.map_some, Nat.sub_zero, Option.some.injEq, Value.int.injEq, true_and]
    have h5 : ys[j]? = d[j]? := by
     have := congrArg (fun l => l[j]?) hy
     simp only [List.getElem?_take, if_pos hj, Array.getElem?_toList] at this
     exact this.symm
    rw [List.getElem?_eq_getElem hj, Array.getElem?_eq_getElem (show j < d.size by omega)] at h5
    rw [getElem!_pos d j (by omega)]
    simpa using h5.symm
   ·rw [if_neg hj, List.getElem?_eq_none (by omega)]; rfl
  ·show (List.drop (i * 1) (ys.map (Value.int .i64))).take 1 = [.int .i64 x]
   have hi := (List.getElem?_eq_some_iff.1 hx).1
   rw [Nat.mul_one, List.drop_eq_getElem_cons (by simpa using hi)]
   simp only [List.getElem_map, List.take_succ_cons, List.take_zero, List.cons.injEq, and_true, Value.int.injEq, true_and]
   rw [List.getElem?_eq_getElem hi] at hx
   simpa using hx
theorem Ext.one {G : Pin} {w w' : World} {x : Option Nat} (hP : Pins G w') (hg : w.grownBy w' x) : Ext (inO x) G w G w' :=
 ⟨Pin.le_refl _, hP, fun _ _ _ h => Or.inl h, hg.os, hg.tape, hg.output, hg.size, fun k hk hs => hg.block k hk fun e => hs e.symm⟩
def sortM (zs : List Int) : List Int := zs.mergeSort fun x y => decide (x ≤ y)
theorem sortM_pw (zs : List Int) : (sortM zs).Pairwise (· ≤ ·) := by
 have := List.pairwise_mergeSort (le := fun x y : Int => decide (x ≤ y)) (fun a b c h1 h2 => by simp at *; omega) (fun a b => by simp; omega) zs
 exact this.imp fun h => by simpa using h
theorem mem_sortM {zs : List Int} {x : Int} : x ∈ sortM zs ↔ x ∈ zs := List.mem_mergeSort
theorem vI (zs : List Int) : (sortM zs).length = zs.length := List.length_mergeSort _
theorem compact_mem {zs : List Int} {x : Int} : x ∈ Lib.compact zs ↔ x ∈ zs := by
 unfold Lib.compact Lib.compactUpTo
 rw [List.mem_map]
 constructor
 ·rintro ⟨j, hj, rfl⟩
  have := List.mem_range.1 (List.mem_filter.1 hj).1
  simp [this]
 ·intro hx
  have key : ∀ j, j < zs.length → zs.getD j 0 = x → ∃ i, i ∈ (List.range zs.length).filter (Lib.keeps zs.toArray) ∧ zs.toArray[i]! = x := by
   intro j
   induction j with
   | zero => intro h1 h2; exact ⟨0, List.mem_filter.2 ⟨List.mem_range.2 h1, by simp [Lib.keeps]⟩, by simpa [List.getD, h1] using h2⟩
   | succ j ih =>
    intro h1 h2
    by_cases he : zs.getD j 0 = x
    ·exact ih (by omega) he
    ·refine ⟨j + 1, List.mem_filter.2 ⟨List.mem_range.2 h1, ?_⟩, by simpa [List.getD, h1] using h2⟩
     unfold Lib.keeps
     refine decide_eq_true (Or.inr ?_)
     have e1 : zs.toArray[j + 1]! = x := by simpa [List.getD, h1] using h2
     have e2 : zs.toArray[j + 1 - 1]! = zs.getD j 0 := by simp [List.getD, show j < zs.length by omega]
     rw [e1, e2]; exact fun e => he e.symm
  obtain ⟨j, hj, e⟩ := List.getElem_of_mem hx
  exact key j hj (by simp [List.getD, hj, e])
theorem compact_pw {zs : List Int} (h : zs.Pairwise (· ≤ ·)) : (Lib.compact zs).Pairwise (· < ·) := by
 unfold Lib.compact Lib.compactUpTo
 rw [List.pairwise_map]
 have hs : ∀ i j, i ≤ j → j < zs.length → zs.toArray[i]! ≤ zs.toArray[j]! := fun i j hij hj => by
  have e1 : zs.toArray[i]! = zs[i]'(by omega) := by simp [show i < zs.length by omega]
  have e2 : zs.toArray[j]! = zs[j] := by simp [hj]
  rw [e1, e2]
  by_cases he : i = j
  ·subst he; exact Int.le_refl _
  ·exact List.pairwise_iff_getElem.1 h i j (by omega) hj (by omega)
 refine (List.Pairwise.filter _ List.pairwise_lt_range).imp_of_mem ?_
 intro a b ha hb hab
 have hb1 := List.mem_filter.1 hb
 have hbl := List.mem_range.1 hb1.1
 have hk := of_decide_eq_true hb1.2
 rcases hk with hk | hk
 ·omega
 ·have h1 := hs a (b - 1) (by omega) (by omega)
  have h2 := hs (b - 1) b (by omega) hbl
  omega
theorem distinct_eq (zs : List Int) : Lib.compact (sortM zs) = sortL zs :=
 fU (compact_pw (sortM_pw zs)) (vL zs) fun z => by rw [compact_mem, mem_sortM, mem_sortL]
theorem compact_len (zs : List Int) : (Lib.compact zs).length ≤ zs.length := by
 unfold Lib.compact Lib.compactUpTo
 rw [List.length_map]
 exact Nat.le_trans (List.length_filter_le _ _) (by simp)
theorem tN {e base : Nat} {G : Pin} {w : World} {v : Value} {zs : List Int} (h : Own eInt e G w base v zs) : (v = .slice none 0 0 ∧ zs = []) ∨ ∃ g cap, v = .slice (some ⟨g, 0, none⟩) zs.length cap := by
 obtain ⟨cells, ⟨hl, hown⟩, hr⟩ := h.ex
 rcases hown with ⟨rfl, h0⟩ | ⟨g, cap, cur, rfl, _⟩
 ·exact Or.inl ⟨rfl, List.eq_nil_of_length_eq_zero h0⟩
 ·exact Or.inr ⟨g, cap, rfl⟩
end Go.GL
namespace Go.GL
structure SG (ns : List Nd) : Prop where
 lo : 1 ≤ ns.length
 wf : Wf ns
 srt : SortedB ns (births ns)
 last : ∀ k : Nat, k + 1 < ns.length → ∃ j, k < j ∧ j < ns.length ∧ ((k : Int) ∈ (ns.getD j default).l ∨ (k : Int) ∈ (ns.getD j default).r)
theorem rW {l : List Int} {hi : Int} (h : l.Pairwise (· < ·)) (hb : ∀ z ∈ l, 0 ≤ z ∧ z ≤ hi) : Rise l 0 hi := fun i hi' => by
 refine ⟨hb _ (yT hi'), fun h0 => ?_⟩
 have := List.pairwise_iff_getElem.1 h (i - 1) i (by omega) hi' (by omega)
 simpa [List.getD, hi', show i - 1 < l.length by omega] using this
theorem pw_rise {l : List Int} {lo hi : Int} (h : Rise l lo hi) : l.Pairwise (· < ·) := by
 rw [List.pairwise_iff_getElem]
 intro i j hi hj hij
 have key : ∀ j, i < j → j < l.length → l.getD i 0 < l.getD j 0 := by
  intro j
  induction j with
  | zero => intro h0; omega
  | succ j ih =>
   intro h1 h2
   have a := (h (j + 1) h2).2 (by omega)
   simp only [Nat.add_sub_cancel] at a
   by_cases he : i = j
   ·subst he; exact a
   ·have := ih (by omega) (by omega); omega
 have := key j hij hj
 simpa [List.getD, hi, hj] using this
theorem SG.opts {ns : List Nd} (h : SG ns) : OptsOk ns := h.wf.ok.opts
theorem SG.pw {ns : List Nd} (h : SG ns) : ∀ i, i < ns.length → (ns.getD i default).l.Pairwise (· < ·) ∧ (ns.getD i default).r.Pairwise (· < ·) := fun i hi => ⟨pw_rise (h.wf.rise i hi).1, pw_rise (h.wf.rise i hi).2⟩
theorem SG.diff {ns : List Nd} (h : SG ns) : Diff ns := fun i j hij hj he => by
 have hb := xX h.opts
 rcases h.srt i j hij hj with h1 | ⟨_, h1⟩
 ·rw [hb.2 i (by omega), hb.2 j hj, he] at h1; omega
 ·rw [ahead_zero.2 he] at h1; omega
theorem SG.inj {ns : List Nd} (h : SG ns) {i j : Nat} (hi : i < ns.length) (hj : j < ns.length) (he : den ns i = den ns j) : i = j := fS h.opts h.pw h.diff _ i j (Nat.le_refl _) hi hj he
theorem fB {k : Nat} : ∀ {l : List Int} {is : List Bool}, (setAll is l).getD k false = true → is.getD k false = true ∨ ∃ z ∈ l, z.toNat = k
 | [], _, h => Or.inl h
 | x :: l, is, h => by
  rcases fB (l := l) (is := is.set x.toNat true) h with h1 | ⟨z, hz, e⟩
  ·by_cases he : x.toNat = k
   ·exact Or.inr ⟨x, List.mem_cons_self, he⟩
   ·rw [qL he] at h1; exact Or.inl h1
  ·exact Or.inr ⟨z, List.mem_cons_of_mem _ hz, e⟩
theorem eP {ns : List Nd} {k : Nat} : ∀ {q : Nat} {is : List Bool}, (ugo ns q is).getD k false = true → is.getD k false = true ∨ ∃ j, j < q ∧ (ugo ns q is).getD j false = true ∧ ∃ z, (z ∈ (ns.getD j default).l ∨ z ∈ (ns.getD j default).r) ∧ z.toNat = k
 | 0, _, h => Or.inl h
 | q + 1, is, h => by
  rcases eP (q := q) (is := ustep ns is q) h with h1 | ⟨j, hj, h2, h3⟩
  ·by_cases hq : is.getD q false = true
   ·rw [fL hq] at h1
    have hm : (ugo ns (q + 1) is).getD q false = true := fA hq
    rcases fB h1 with h1 | ⟨z, hz, e⟩
    ·rcases fB h1 with h1 | ⟨z, hz, e⟩
     ·exact Or.inl h1
     ·exact Or.inr ⟨q, by omega, hm, z, Or.inl hz, e⟩
    ·exact Or.inr ⟨q, by omega, hm, z, Or.inr hz, e⟩
   ·rw [mC (by simpa using hq)] at h1; exact Or.inl h1
  ·exact Or.inr ⟨j, by omega, h2, h3⟩
theorem gC {ns : List Nd} {m k : Nat} (h : (reachM ns m).getD k false = true) : k = m ∨ ∃ j, j ≤ m ∧ (reachM ns m).getD j false = true ∧ ∃ z, (z ∈ (ns.getD j default).l ∨ z ∈ (ns.getD j default).r) ∧ z.toNat = k := by
 unfold reachM at h ⊢
 rcases eP h with h1 | ⟨j, hj, h2⟩
 ·left
  by_cases he : m = k
  ·exact he.symm
  ·rw [qL he] at h1
   simp [List.getD, List.getElem?_replicate] at h1
   split at h1 <;> simp at h1
 ·exact Or.inr ⟨j, by omega, h2⟩
theorem reach_self {ns : List Nd} {m : Nat} : (reachM ns m).getD m false = true := by
 unfold reachM
 exact fA (by simp [List.getD])
theorem sH {ns : List Nd} (ho : OptsOk ns) {m : Nat} (hm : m < ns.length) {z : Nat} (hz : z ≤ m) (hu : (reachM ns m).getD z false = true) :
  (∀ o ∈ (ns.getD z default).l, (reachM ns m).getD o.toNat false = true) ∧ (∀ o ∈ (ns.getD z default).r, (reachM ns m).getD o.toNat false = true) :=
 mF ho (by omega) (by simp) z (by omega) hu
theorem lower_of {ns : List Nd} {bs : List Int} (ho : OptsOk ns) (hb : BirthsOf ns bs) : Lower ns bs := fun z hz => by
 have hb := hb.2 z hz
 have o := xK ho hz
 have h1 := kU (bs := bs) (l := (ns.getD z default).r) (b := bornOf bs (ns.getD z default).l 0)
 have h2 := kU (bs := bs) (l := (ns.getD z default).l) (b := 0)
 unfold putBorn at hb
 exact ⟨fun x hx => by have := o.1 x hx; have := h2.2 x hx; omega, fun x hx => by have := o.2 x hx; have := h1.2 x hx; omega⟩
theorem tG {ns : List Nd} {bs : List Int} (hb : BirthsOf ns bs) {z : Nat} (hz : z < ns.length) : 0 ≤ bs.getD z 0 := by
 rw [hb.2 z hz]
 exact (putBorn_le.1 (Int.le_refl _)).1
theorem rC {bs bs' A : List Int} : ∀ {l : List Int} {b : Int}, (∀ o ∈ l, bs'.getD (A.getD o.toNat 0).toNat 0 = bs.getD o.toNat 0) → bornOf bs' (atL A l) b = bornOf bs l b
 | [], _, _ => rfl
 | x :: l, b, h => by
  show bornOf bs' (atL A l) (max b (bs'.getD (A.getD x.toNat 0).toNat 0 + 1)) = bornOf bs l (max b (bs.getD x.toNat 0 + 1))
  rw [h x List.mem_cons_self]
  exact rC fun o ho => h o (List.mem_cons_of_mem _ ho)
theorem mem_atL {A l : List Int} {x : Int} : x ∈ atL A l ↔ ∃ o ∈ l, A.getD o.toNat 0 = x := by simp [atL]
theorem rY {ns : List Nd} {bs : List Int} (h : Ar ns bs) {m : Nat} (hm : m < ns.length) : SG (formM ns bs m) ∧ gOf (formM ns bs m) = den ns m ∧ (formM ns bs m).length ≤ m + 1 := by
  have ho := h.opts
  have hlw := lower_of ho h.born
  have hlen : (formM ns bs m).length ≤ m + 1 := by
    unfold formM
    rw [nI]
    exact Nat.le_trans List.countP_le_length (by simp)
  have hlim := h.ok.lim
  obtain ⟨fa, go⟩ := go_ok (need := reachM ns m) hlw (show m + 1 ≤ ns.length by omega) ((bs.getD m 0).toNat + 1)
  have hbm := tG h.born hm
  unfold formM at hlen ⊢
  generalize formGo ns bs (reachM ns m) (m + 1) ((bs.getD m 0).toNat + 1) = s at go hlen
  obtain ⟨A, out⟩ := s
  have hmap : out = fa.map (ndz ns A) := go.map
  have hpos : ∀ p, p < fa.length → A.getD (fa.getD p 0).toNat 0 = p := go.pos
  have hN : out.length = fa.length := by rw [hmap]; simp
  simp only at hlen ⊢
  have hget : ∀ p, p < fa.length → out.getD p default = ndz ns A (fa.getD p 0) := fun p hp => by rw [hmap]; simp [List.getD, hp]
  have hmem : ∀ p, p < fa.length → 0 ≤ fa.getD p 0 ∧ fa.getD p 0 ≤ m ∧ (reachM ns m).getD (fa.getD p 0).toNat false = true ∧ bs.getD (fa.getD p 0).toNat 0 ≤ bs.getD m 0 := fun p hp => by
    have h1 := go.mem _ (yT (d := (0 : Int)) hp)
    exact ⟨h1.1, by omega, go.nd _ (yT hp), by omega⟩
  have hfind : ∀ z : Nat, z ≤ m → (reachM ns m).getD z false = true → bs.getD z 0 ≤ bs.getD m 0 → ∃ p, p < fa.length ∧ fa.getD p 0 = z ∧ A.getD z 0 = p := fun z hz h1 h2 => by
    obtain ⟨p, hp, e⟩ := List.getElem_of_mem (go.all z (by omega) h1 (tG h.born (by omega)) (by omega))
    have e2 : fa.getD p 0 = z := by simp [List.getD, hp, e]
    have := hpos p hp
    rw [e2] at this
    exact ⟨p, hp, e2, by simpa using this⟩
  have hord : ∀ p p', p < p' → p' < fa.length → bs.getD (fa.getD p 0).toNat 0 < bs.getD (fa.getD p' 0).toNat 0 ∨ (bs.getD (fa.getD p 0).toNat 0 = bs.getD (fa.getD p' 0).toNat 0 ∧ aheadI (ndz ns A (fa.getD p 0)) (ndz ns A (fa.getD p' 0)) ≤ 0) := fun p p' hpp hp' => by
    have := List.pairwise_iff_getElem.1 go.order p p' (by omega) hp' hpp
    simpa [List.getD, hp', show p < fa.length by omega] using this
  have hopt : ∀ p, p < fa.length → (∀ o ∈ (ns.getD (fa.getD p 0).toNat default).l, 0 ≤ o ∧ ∃ p', p' < p ∧ fa.getD p' 0 = o ∧ A.getD o.toNat 0 = p') ∧ (∀ o ∈ (ns.getD (fa.getD p 0).toNat default).r, 0 ≤ o ∧ ∃ p', p' < p ∧ fa.getD p' 0 = o ∧ A.getD o.toNat 0 = p') := fun p hp => by
    have hm1 := hmem p hp
    have hl1 := hlw (fa.getD p 0).toNat (by omega)
    have hc := sH ho hm (z := (fa.getD p 0).toNat) (by omega) hm1.2.2.1
    have key : ∀ o : Int, 0 ≤ o → o < (fa.getD p 0).toNat → bs.getD o.toNat 0 < bs.getD (fa.getD p 0).toNat 0 → (reachM ns m).getD o.toNat false = true → ∃ p', p' < p ∧ fa.getD p' 0 = o ∧ A.getD o.toNat 0 = p' := fun o h0 h1 h2 h3 => by
      obtain ⟨p', hp', e1, e2⟩ := hfind o.toNat (by omega) h3 (by omega)
      have e1' : fa.getD p' 0 = o := by omega
      refine ⟨p', ?_, e1', e2⟩
      by_cases hlt : p' < p
      · exact hlt
      · by_cases he : p' = p
        · subst he; omega
        · rcases hord p p' (by omega) hp' with h4 | ⟨h4, _⟩ <;> rw [e1'] at h4 <;> omega
    exact ⟨fun o hox => by have := hl1.1 o hox; exact ⟨this.1, key o this.1 this.2.1 this.2.2 (hc.1 o hox)⟩, fun o hox => by have := hl1.2 o hox; exact ⟨this.1, key o this.1 this.2.1 this.2.2 (hc.2 o hox)⟩⟩
  have hlists : ∀ p, p < fa.length → (out.getD p default).l = sortL (atL A (ns.getD (fa.getD p 0).toNat default).l) ∧ (out.getD p default).r = sortL (atL A (ns.getD (fa.getD p 0).toNat default).r) := fun p hp => by
    rw [hget p hp]; exact ⟨rfl, rfl⟩
  have hbnd : ∀ p, p < fa.length → (∀ z ∈ (out.getD p default).l, 0 ≤ z ∧ z < (p : Int)) ∧ (∀ z ∈ (out.getD p default).r, 0 ≤ z ∧ z < (p : Int)) := fun p hp => by
    have h1 := hopt p hp
    rw [(hlists p hp).1, (hlists p hp).2]
    constructor
    · intro z hz
      obtain ⟨o, hox, e⟩ := mem_atL.1 (mem_sortL.1 hz)
      obtain ⟨_, p', h2, _, e2⟩ := h1.1 o hox
      omega
    · intro z hz
      obtain ⟨o, hox, e⟩ := mem_atL.1 (mem_sortL.1 hz)
      obtain ⟨_, p', h2, _, e2⟩ := h1.2 o hox
      omega
  have hoo : OptsOk out := fun i n hn => by
    obtain ⟨hi, rfl⟩ := List.getElem?_eq_some_iff.1 hn
    have := hbnd i (by omega)
    have e : out.getD i default = out[i] := by simp [List.getD, hi]
    rw [e] at this; exact this
  have hlens : ∀ i, i < out.length → (out.getD i default).l.length ≤ 1048576 ∧ (out.getD i default).r.length ≤ 1048576 := fun i hi => by
    have hm1 := hmem i (by omega)
    have hl1 := h.ok.lens (fa.getD i 0).toNat (by omega)
    rw [(hlists i (by omega)).1, (hlists i (by omega)).2]
    exact ⟨Nat.le_trans jD (by rw [xF]; exact hl1.1), Nat.le_trans jD (by rw [xF]; exact hl1.2)⟩
  have wf : Wf out := ⟨⟨by omega, hoo, hlens⟩, fun i hi => by
    have h1 := hbnd i (by omega)
    refine ⟨rW ?_ fun z hz => by have := h1.1 z hz; omega, rW ?_ fun z hz => by have := h1.2 z hz; omega⟩
    · rw [(hlists i (by omega)).1]; exact vL _
    · rw [(hlists i (by omega)).2]; exact vL _⟩
  have hden : ∀ p, p < fa.length → den out p = den ns (fa.getD p 0).toNat := by
    intro p
    induction p using Nat.strongRecOn with
    | _ p ih =>
      intro hp
      have h1 := hopt p hp
      have hm1 := hmem p hp
      rw [eA (by omega) (hbnd p hp).1 (hbnd p hp).2, qW ho (show (fa.getD p 0).toNat < ns.length by omega), (hlists p hp).1, (hlists p hp).2]
      have key : ∀ l : List Int, (∀ o ∈ l, 0 ≤ o ∧ ∃ p', p' < p ∧ fa.getD p' 0 = o ∧ A.getD o.toNat 0 = p') → ∀ i, i ∈ (sortL (atL A l)).map (fun z => den out z.toNat) ↔ i ∈ l.map fun z => den ns z.toNat := fun l hl i => by
        rw [List.mem_map, List.mem_map]
        constructor
        · rintro ⟨z, hz, rfl⟩
          obtain ⟨o, hox, e⟩ := mem_atL.1 (mem_sortL.1 hz)
          obtain ⟨_, p', h2, e1, e2⟩ := hl o hox
          refine ⟨o, hox, ?_⟩
          have : z.toNat = p' := by omega
          rw [this, ih p' h2 (by omega), e1]
        · rintro ⟨o, hox, rfl⟩
          obtain ⟨_, p', h2, e1, e2⟩ := hl o hox
          refine ⟨(p' : Int), mem_sortL.2 (mem_atL.2 ⟨o, hox, e2⟩), ?_⟩
          rw [Int.toNat_natCast, ih p' h2 (by omega), e1]
      exact fF (key _ h1.1) (key _ h1.2)
  have hborn : ∀ p, p < fa.length → (births out).getD p 0 = bs.getD (fa.getD p 0).toNat 0 := by
    intro p
    induction p using Nat.strongRecOn with
    | _ p ih =>
      intro hp
      have h1 := hopt p hp
      have hm1 := hmem p hp
      rw [(xX hoo).2 p (by omega), (hlists p hp).1, (hlists p hp).2, putBorn_sort, h.born.2 _ (show (fa.getD p 0).toNat < ns.length by omega)]
      have key : ∀ o : Int, (∃ p', p' < p ∧ fa.getD p' 0 = o ∧ A.getD o.toNat 0 = p') → (births out).getD (A.getD o.toNat 0).toNat 0 = bs.getD o.toNat 0 := fun o ⟨p', h2, e1, e2⟩ => by
        rw [e2, Int.toNat_natCast, ih p' h2 (by omega), e1]
      unfold putBorn
      rw [rC fun o hox => key o (h1.2 o hox).2, rC fun o hox => key o (h1.1 o hox).2]
  have srt : SortedB out (births out) := fun i j hij hj => by
    rw [hborn i (by omega), hborn j (by omega), hget i (by omega), hget j (by omega)]
    rcases hord i j hij (by omega) with h1 | ⟨h1, h2⟩
    · exact Or.inl h1
    · refine Or.inr ⟨h1, ?_⟩
      have hne : aheadI (ndz ns A (fa.getD i 0)) (ndz ns A (fa.getD j 0)) ≠ 0 := fun e => by
        have e1 := ahead_zero.1 e
        rw [← hget i (by omega), ← hget j (by omega)] at e1
        have d1 : den out i = den out j := by
          rw [qW hoo (show i < out.length by omega), qW hoo (show j < out.length by omega), e1]
        rw [hden i (by omega), hden j (by omega)] at d1
        have m1 := hmem i (by omega); have m2 := hmem j (by omega)
        have e3 := h.inj (by omega) (by omega) d1
        have p1 := hpos i (by omega); have p2 := hpos j (by omega)
        rw [e3] at p1; omega
      omega
  obtain ⟨pm, hpm, em, _⟩ := hfind m (Nat.le_refl _) reach_self (Int.le_refl _)
  have hroot : ∀ p, p < fa.length → fa.getD p 0 ≠ m → ∃ p', p < p' ∧ p' < fa.length ∧ ((p : Int) ∈ (out.getD p' default).l ∨ (p : Int) ∈ (out.getD p' default).r) := fun p hp hne => by
    have m1 := hmem p hp
    rcases gC m1.2.2.1 with h1 | ⟨j, hj, hr, z, hz, ez⟩
    · omega
    · have hz0 : 0 ≤ z := by
        have := xK ho (show j < ns.length by omega)
        rcases hz with hz | hz
        · exact (this.1 z hz).1
        · exact (this.2 z hz).1
      have ez' : z = fa.getD p 0 := by omega
      subst ez'
      have hle : bs.getD j 0 ≤ bs.getD m 0 := by
        have : ∀ n j : Nat, m - j ≤ n → j ≤ m → (reachM ns m).getD j false = true → bs.getD j 0 ≤ bs.getD m 0 := by
          intro n
          induction n with
          | zero => intro j h1 h2 _; have : j = m := by omega
                    rw [this]; exact Int.le_refl _
          | succ n ih =>
            intro j h1 h2 h3
            rcases gC h3 with h4 | ⟨i, hi, hri, y, hy, ey⟩
            · rw [h4]; exact Int.le_refl _
            · have hl := hlw i (by omega)
              have hyb : 0 ≤ y ∧ y < i ∧ bs.getD y.toNat 0 < bs.getD i 0 := by rcases hy with hy | hy; exact hl.1 y hy; exact hl.2 y hy
              have := ih i (by omega) hi hri
              rw [ey] at hyb; omega
        exact this m j (by omega) hj hr
      obtain ⟨p', hp', e1, e2⟩ := hfind j hj hr hle
      have h1 := hopt p' hp'
      rw [e1] at h1
      simp only [Int.toNat_natCast] at h1
      have hp1 := hpos p hp
      refine ⟨p', ?_, hp', ?_⟩
      · rcases hz with hz | hz
        · obtain ⟨_, q, h2, e3, e4⟩ := h1.1 _ hz; omega
        · obtain ⟨_, q, h2, e3, e4⟩ := h1.2 _ hz; omega
      · rw [(hlists p' hp').1, (hlists p' hp').2, e1]
        simp only [Int.toNat_natCast]
        rcases hz with hz | hz
        · exact Or.inl (mem_sortL.2 (mem_atL.2 ⟨_, hz, hp1⟩))
        · exact Or.inr (mem_sortL.2 (mem_atL.2 ⟨_, hz, hp1⟩))
  have hlast : fa.getD (fa.length - 1) 0 = m := by
    apply Classical.byContradiction
    intro hne
    obtain ⟨p', h1, h2, _⟩ := hroot (fa.length - 1) (by omega) hne
    omega
  refine ⟨⟨by omega, wf, srt, fun k hk => ?_⟩, ?_, hlen⟩
  · have hne : fa.getD k 0 ≠ m := fun e => by
      have p1 := hpos k (by omega); have p2 := hpos (fa.length - 1) (by omega)
      rw [e] at p1; rw [hlast] at p2; omega
    obtain ⟨p', h1, h2, h3⟩ := hroot k (by omega) hne
    exact ⟨p', h1, by omega, h3⟩
  · unfold gOf
    rw [hN, hden _ (by omega), hlast, Int.toNat_natCast]
end Go.GL
namespace Go.GL
open Go Go.RowKit
structure PM where
 f : Nat
 o : Nat
 c : Nat
 s : Nat
 n : Nat
structure PSt where
 ns : List Nd
 bs : List Int
 fl : List (ByteArray × Int)
 om : List ((Int × Int) × Bool)
 cm : List (Int × Int)
 sm : List ((Int × Int) × Int)
 gm : List (Int × Int)
def inP (p : Nat) (L R B : Value) (mm : PM) (k : Nat) : Prop := k = p ∨ L.ownBlock = some k ∨ R.ownBlock = some k ∨ B.ownBlock = some k ∨ k = mm.f ∨ k = mm.o ∨ k = mm.c ∨ k = mm.s ∨ k = mm.n
def NP (p : Nat) (L R B : Value) (mm : PM) (x : Option Nat) : Prop := ∀ k, x = some k → ¬ inP p L R B mm k
structure PDiff (mm : PM) : Prop where
 fo : mm.f ≠ mm.o
 fc : mm.f ≠ mm.c
 fs : mm.f ≠ mm.s
 fn : mm.f ≠ mm.n
 oc : mm.o ≠ mm.c
 os : mm.o ≠ mm.s
 on : mm.o ≠ mm.n
 cs : mm.c ≠ mm.s
 cn : mm.c ≠ mm.n
 sn : mm.s ≠ mm.n
structure Pk (er ei : Nat) (G : Pin) (w : World) (p : Nat) (L R B : Value) (mm : PM) (q : PSt) : Prop where
 bx : Bx G w p [L, R, B, .map (some mm.f), .map (some mm.o), .map (some mm.c), .map (some mm.s), .map (some mm.n)]
 ol : Own (eSl eInt) er G w 0 L (q.ns.map Nd.l)
 rr : Own (eSl eInt) er G w 0 R (q.ns.map Nd.r)
 ob : Own eInt ei G w 0 B q.bs
 ff : Mp (fun k : ByteArray => Value.string k) (fun v : Int => Value.int .i64 v) w mm.f q.fl
 fo : Mp encP2 (fun v : Bool => Value.bool v) w mm.o q.om
 fc : Mp (fun k : Int => Value.int .i64 k) (fun v : Int => Value.int .i64 v) w mm.c q.cm
 fs : Mp encP2 (fun v : Int => Value.int .i64 v) w mm.s q.sm
 fn : Mp (fun k : Int => Value.int .i64 k) (fun v : Int => Value.int .i64 v) w mm.n q.gm
 apl : Apart (some p) L.ownBlock
 apr : Apart (some p) R.ownBlock
 apb : Apart (some p) B.ownBlock
 alr : Apart L.ownBlock R.ownBlock
 alb : Apart L.ownBlock B.ownBlock
 arb : Apart R.ownBlock B.ownBlock
 df : PDiff mm
section
variable {er ei : Nat} {G G' : Pin} {w w' : World} {p : Nat} {L R B L' R' B' : Value} {mm : PM} {q : PSt}
theorem Mp.extS {κ ν : Type} {enc : κ → Value} {val : ν → Value} {m : Nat} {l : List (κ × ν)} {S : Nat → Prop} (h : Mp enc val w m l) (hx : Ext S G w G' w') (hS : ¬ S m) : Mp enc val w' m l := h.keep (hx.block m h.lt hS)
theorem Pk.lt (h : Pk er ei G w p L R B mm q) : ∀ k, inP p L R B mm k → k < w.heap.size := fun k hk => by
 rcases hk with rfl | hk | hk | hk | rfl | rfl | rfl | rfl | rfl
 ·exact h.bx.lt
 ·exact (h.ol.lt k hk).2
 ·exact (h.rr.lt k hk).2
 ·exact (h.ob.lt k hk).2
 ·exact h.ff.lt
 ·exact h.fo.lt
 ·exact h.fc.lt
 ·exact h.fs.lt
 ·exact h.fn.lt
theorem Pk.extS {S : Nat → Prop} (h : Pk er ei G w p L R B mm q) (hx : Ext S G w G' w') (hS : ∀ k, inP p L R B mm k → ¬ S k) : Pk er ei G' w' p L R B mm q where
 bx := h.bx.extS hx (hS _ (Or.inl rfl))
 ol := h.ol.extS hx fun k hk => hS k (Or.inr (Or.inl hk))
 rr := h.rr.extS hx fun k hk => hS k (Or.inr (Or.inr (Or.inl hk)))
 ob := h.ob.extS hx fun k hk => hS k (Or.inr (Or.inr (Or.inr (Or.inl hk))))
 ff := h.ff.extS hx (hS _ (Or.inr (Or.inr (Or.inr (Or.inr (Or.inl rfl))))))
 fo := h.fo.extS hx (hS _ (Or.inr (Or.inr (Or.inr (Or.inr (Or.inr (Or.inl rfl)))))))
 fc := h.fc.extS hx (hS _ (Or.inr (Or.inr (Or.inr (Or.inr (Or.inr (Or.inr (Or.inl rfl))))))))
 fs := h.fs.extS hx (hS _ (Or.inr (Or.inr (Or.inr (Or.inr (Or.inr (Or.inr (Or.inr (Or.inl rfl)))))))))
 fn := h.fn.extS hx (hS _ (Or.inr (Or.inr (Or.inr (Or.inr (Or.inr (Or.inr (Or.inr (Or.inr rfl)))))))))
 apl := h.apl
 apr := h.apr
 apb := h.apb
 alr := h.alr
 alb := h.alb
 arb := h.arb
 df := h.df
theorem Pk.ext (h : Pk er ei G w p L R B mm q) (hx : Ext noS G w G' w') : Pk er ei G' w' p L R B mm q := h.extS hx fun _ _ => id
theorem Pk.below (h : Pk er ei G w p L R B mm q) (hb : Below w.heap.size w w') (hP : Pins G w') : Pk er ei G w' p L R B mm q :=
 h.ext ⟨Pin.le_refl _, hP, fun _ _ _ h => Or.inl h, hb.os, hb.tape, hb.output, hb.size, fun k hk _ => hb.block k hk⟩
theorem Pk.kept {x : Option Nat} (h : Pk er ei G w p L R B mm q) (hg : w.grownBy w' x) (hP : Pins G w') (hn : NP p L R B mm x) : Pk er ei G w' p L R B mm q :=
 h.extS (Ext.one hP hg) fun k hk hx => hn k hx hk
theorem Pk.more {b : Nat} (h : Pk er ei G w p L R B mm q) (hl : Pin.le G G') (hf : ∀ k o u, G' k o u → G k o u ∨ k = b) (hn : NP p L R B mm (some b)) : Pk er ei G' w p L R B mm q where
 bx := h.bx.moreA hf fun k a c => hn k c (by cases a; exact Or.inl rfl)
 ol := h.ol.moreA hl hf fun k a c => hn k c (Or.inr (Or.inl a))
 rr := h.rr.moreA hl hf fun k a c => hn k c (Or.inr (Or.inr (Or.inl a)))
 ob := h.ob.moreA hl hf fun k a c => hn k c (Or.inr (Or.inr (Or.inr (Or.inl a))))
 ff := h.ff
 fo := h.fo
 fc := h.fc
 fs := h.fs
 fn := h.fn
 apl := h.apl
 apr := h.apr
 apb := h.apb
 alr := h.alr
 alb := h.alb
 arb := h.arb
 df := h.df
theorem Pk.moreO {v : Value} (h : Pk er ei G w p L R B mm q) (hl : Pin.le G G') (hf : ∀ k o u, G' k o u → G k o u ∨ v.ownBlock = some k) (hn : NP p L R B mm v.ownBlock) : Pk er ei G' w p L R B mm q where
 bx := h.bx.moreO hf fun k a c => hn k c (by cases a; exact Or.inl rfl)
 ol := h.ol.moreO hl hf fun k a c => hn k c (Or.inr (Or.inl a))
 rr := h.rr.moreO hl hf fun k a c => hn k c (Or.inr (Or.inr (Or.inl a)))
 ob := h.ob.moreO hl hf fun k a c => hn k c (Or.inr (Or.inr (Or.inr (Or.inl a))))
 ff := h.ff
 fo := h.fo
 fc := h.fc
 fs := h.fs
 fn := h.fn
 apl := h.apl
 apr := h.apr
 apb := h.apb
 alr := h.alr
 alb := h.alb
 arb := h.arb
 df := h.df
theorem Pk.new (h : Pk er ei G w p L R B mm q) {x : Option Nat} (hx : ∀ k, x = some k → w.heap.size ≤ k) : NP p L R B mm x := fun k hk hi => by
 have h1 := h.lt k hi; have h2 := hx k hk; omega
theorem qQ {x y : Option Nat} (hn : NP p L R B mm x) (h : Pk er ei G w p L R B mm q) (hw : y = x ∨ ∃ k, y = some k ∧ w.heap.size ≤ k) : NP p L R B mm y := by
 rcases hw with rfl | ⟨k, rfl, hk⟩
 ·exact hn
 ·exact h.new fun j hj => by cases hj; exact hk
theorem np_turn {x y : Option Nat} (hn : NP p L R B mm x) (h : Pk er ei G w p L R B mm q) (hl : Lo w (inO x) y) : NP p L R B mm y := fun k hk hi => by
 rcases hl k hk with h1 | h1
 ·have := h.lt k hi; omega
 ·exact hn k h1 hi
theorem NP.notb {c : Nat} (h : NP p L R B mm (some c)) : ¬ inP p L R B mm c := h c rfl
structure PLo (w : World) (p : Nat) (L R B : Value) (mm : PM) (L' R' B' : Value) : Prop where
 l : Lo w (inP p L R B mm) L'.ownBlock
 r : Lo w (inP p L R B mm) R'.ownBlock
 b : Lo w (inP p L R B mm) B'.ownBlock
theorem PLo.in (h : PLo w p L R B mm L' R' B') : ∀ k, inP p L' R' B' mm k → w.heap.size ≤ k ∨ inP p L R B mm k := fun k hk => by
 rcases hk with rfl | hk | hk | hk | hk
 ·exact Or.inr (Or.inl rfl)
 ·exact h.l k hk
 ·exact h.r k hk
 ·exact h.b k hk
 ·exact Or.inr (Or.inr (Or.inr (Or.inr (Or.inr hk))))
theorem NP.call {x : Option Nat} (h : NP p L R B mm x) (hlo : PLo w p L R B mm L' R' B') (hl : ∀ k, x = some k → k < w.heap.size) : NP p L' R' B' mm x := fun k hk hi => by
 rcases hlo.in k hi with h1 | h1
 ·have := hl k hk; omega
 ·exact h k hk h1
def PIn (w0 : World) (S : Nat → Prop) (p : Nat) (L R B : Value) (mm : PM) : Prop := ∀ k, inP p L R B mm k → w0.heap.size ≤ k ∨ S k
theorem PIn.self {w0 : World} : PIn w0 (inP p L R B mm) p L R B mm := fun _ h => Or.inr h
theorem PIn.call {w0 : World} {S : Nat → Prop} (h : PIn w0 S p L R B mm) (hlo : PLo w p L R B mm L' R' B') (hs : w0.heap.size ≤ w.heap.size) : PIn w0 S p L' R' B' mm := fun k hk => by
 rcases hlo.in k hk with h1 | h1
 ·exact Or.inl (by omega)
 ·exact h k h1
theorem PIn.lo {w0 : World} {p0 : Nat} {L0 R0 B0 : Value} (h : PIn w0 (inP p0 L0 R0 B0 mm) p L R B mm) (hp : p = p0) : PLo w0 p0 L0 R0 B0 mm L R B := by
 subst hp
 exact ⟨fun k hk => h k (Or.inr (Or.inl hk)), fun k hk => h k (Or.inr (Or.inr (Or.inl hk))), fun k hk => h k (Or.inr (Or.inr (Or.inr (Or.inl hk))))⟩
theorem PIn.o {w0 : World} {S : Nat → Prop} (h : PIn w0 S p L R B mm) : Lo w0 S (some mm.o) := fun k hk => by
 cases hk; exact h _ (Or.inr (Or.inr (Or.inr (Or.inr (Or.inr (Or.inl rfl))))))
theorem NP.ho {x : Option Nat} (h : NP p L R B mm x) : Apart x (some mm.o) := fun k a c => h k a (by cases c; exact Or.inr (Or.inr (Or.inr (Or.inr (Or.inr (Or.inl rfl))))))
theorem NP.hc {x : Option Nat} (h : NP p L R B mm x) : Apart x (some mm.c) := fun k a c => h k a (by cases c; exact Or.inr (Or.inr (Or.inr (Or.inr (Or.inr (Or.inr (Or.inl rfl)))))))
theorem NP.hn {x : Option Nat} (h : NP p L R B mm x) : Apart x (some mm.n) := fun k a c => h k a (by cases c; exact Or.inr (Or.inr (Or.inr (Or.inr (Or.inr (Or.inr (Or.inr (Or.inr rfl))))))))
theorem NP.hp {x : Option Nat} (h : NP p L R B mm x) : Apart x (some p) := fun k a c => h k a (by cases c; exact Or.inl rfl)
theorem NP.hl {x : Option Nat} (h : NP p L R B mm x) : Apart x L.ownBlock := fun k a c => h k a (Or.inr (Or.inl c))
theorem NP.hr {x : Option Nat} (h : NP p L R B mm x) : Apart x R.ownBlock := fun k a c => h k a (Or.inr (Or.inr (Or.inl c)))
theorem NP.hb {x : Option Nat} (h : NP p L R B mm x) : Apart x B.ownBlock := fun k a c => h k a (Or.inr (Or.inr (Or.inr (Or.inl c))))
theorem Pk.setO (h : Pk er ei G w p L R B mm q) (hx : Ext (inO (some mm.o)) G w G' w') {om : List ((Int × Int) × Bool)} (hm : Mp encP2 (fun v : Bool => Value.bool v) w' mm.o om) : Pk er ei G' w' p L R B mm { q with om := om } where
 bx := h.bx.extS hx (qM fun k a c => (xO h.fo h.bx) k c a)
 ol := h.ol.extS hx (notO (yF h.fo h.ol).symm)
 rr := h.rr.extS hx (notO (yF h.fo h.rr).symm)
 ob := h.ob.extS hx (notO (yF h.fo h.ob).symm)
 ff := h.ff.extS hx (fun e => h.df.fo (Option.some.inj e).symm)
 fo := hm
 fc := h.fc.extS hx (fun e => h.df.oc (Option.some.inj e))
 fs := h.fs.extS hx (fun e => h.df.os (Option.some.inj e))
 fn := h.fn.extS hx (fun e => h.df.on (Option.some.inj e))
 apl := h.apl
 apr := h.apr
 apb := h.apb
 alr := h.alr
 alb := h.alb
 arb := h.arb
 df := h.df
end
def pd (q : PSt) (z : Int) : Nat := den q.ns z.toNat
def PlaceOk (q : PSt) (z : Int) : Prop := 0 ≤ z ∧ z < q.ns.length
structure FindOk (ns : List Nd) (fl : List (ByteArray × Int)) : Prop where
 has : ∀ i : Nat, i < ns.length → look fl (b2s (keyN (ns.getD i default).l (ns.getD i default).r)) = some (i : Int)
 is : ∀ (l r : List Int) (z : Int), (∀ x ∈ l, 0 ≤ x) → (∀ x ∈ r, 0 ≤ x) → look fl (b2s (keyN l r)) = some z → ∃ i : Nat, i < ns.length ∧ z = i ∧ ns.getD i default = ⟨l, r⟩
structure PoolOk (q : PSt) : Prop where
 ar : Ar q.ns q.bs
 find : FindOk q.ns q.fl
 ord : ∀ a b v, look q.om (a, b) = some v → PlaceOk q a ∧ PlaceOk q b ∧ v = decP (geG (pd q a) (pd q b))
 can : ∀ a z, look q.cm a = some z → PlaceOk q a ∧ PlaceOk q z ∧ CanonG (pd q z) ∧ eqG (pd q z) (pd q a)
 sum : ∀ a b z, look q.sm (a, b) = some z → PlaceOk q a ∧ PlaceOk q b ∧ PlaceOk q z ∧ pd q z = addG (pd q a) (pd q b)
 neg : ∀ a z, look q.gm a = some z → PlaceOk q a ∧ PlaceOk q z ∧ pd q z = negG (pd q a)
theorem pkl (q : PSt) : (q.ns.map Nd.l).length = q.ns.length ∧ (q.ns.map Nd.r).length = q.ns.length := ⟨List.length_map .., List.length_map ..⟩
theorem pkb {q : PSt} (h : PoolOk q) : q.bs.length = q.ns.length ∧ q.ns.length ≤ 1048576 := ⟨h.ar.ok.len, h.ar.ok.lim⟩
structure PX (q q' : PSt) : Prop where
 len : q.ns.length ≤ q'.ns.length
 old : ∀ k, k < q.ns.length → q'.ns.getD k default = q.ns.getD k default
 can : ∀ a, look q'.cm a = none → look q.cm a = none
theorem PX.refl (q : PSt) : PX q q := ⟨Nat.le_refl _, fun _ _ => rfl, fun _ h => h⟩
theorem PX.trans {a b c : PSt} (h : PX a b) (k : PX b c) : PX a c := ⟨Nat.le_trans h.len k.len, fun i hi => (k.old i (by have := h.len; omega)).trans (h.old i hi), fun a ha => h.can a (k.can a ha)⟩
theorem PX.den {q q' : PSt} (h : PX q q') (ho : OptsOk q.ns) (ho' : OptsOk q'.ns) : ∀ k, k < q.ns.length → den q'.ns k = den q.ns k := by
 intro k
 induction k using Nat.strongRecOn with
 | _ k ih =>
  intro hk
  have oo := xK ho hk
  rw [qW ho' (by have := h.len; omega), qW ho hk, h.old k hk]
  rw [List.map_congr_left fun z hz => ih z.toNat (by have := oo.1 z hz; omega) (by have := oo.1 z hz; omega)]
  rw [List.map_congr_left (l := (q.ns.getD k default).r) fun z hz => ih z.toNat (by have := oo.2 z hz; omega) (by have := oo.2 z hz; omega)]
theorem PX.pd {q q' : PSt} (h : PX q q') (hq : PoolOk q) (hq' : PoolOk q') {z : Int} (hz : PlaceOk q z) : pd q' z = pd q z := h.den hq.ar.opts hq'.ar.opts _ (by have := hz.1; have := hz.2; omega)
theorem PX.place {q q' : PSt} (h : PX q q') {z : Int} (hz : PlaceOk q z) : PlaceOk q' z := ⟨hz.1, by have := hz.2; have := h.len; omega⟩
theorem jP (ns : List Nd) (i : Nat) : (ns.map Nd.l).getD i [] = (ns.getD i default).l := by
 simp only [List.getD, List.getElem?_map]
 cases ns[i]? <;> rfl
theorem jO (ns : List Nd) (i : Nat) : (ns.map Nd.r).getD i [] = (ns.getD i default).r := by
 simp only [List.getD, List.getElem?_map]
 cases ns[i]? <;> rfl
theorem PoolOk.empty : PoolOk ⟨[], [], [], [], [], [], []⟩ where
 ar := Ar.empty
 find := ⟨fun i hi => absurd hi (Nat.not_lt_zero i), fun l r z _ _ h => by cases h⟩
 ord := fun a b v h => by cases h
 can := fun a z h => by cases h
 sum := fun a b z h => by cases h
 neg := fun a z h => by cases h
theorem PoolOk.setO {q : PSt} (h : PoolOk q) {a b : Int} {v : Bool} (ha : PlaceOk q a) (hb : PlaceOk q b) (hv : v = decP (geG (pd q a) (pd q b))) : PoolOk { q with om := putE q.om (a, b) v } :=
 by
 refine ⟨h.ar, h.find, ?_, h.can, h.sum, h.neg⟩
 intro c d u hu
 simp only at hu
 rw [vD] at hu
 split at hu
 ·rename_i he
  cases he; cases hu
  exact ⟨ha, hb, hv⟩
 ·exact h.ord c d u hu
section
variable {p : Nat} {L R B : Value} {mm : PM} {w0 : World} {S : Nat → Prop}
theorem PIn.lp (h : PIn w0 S p L R B mm) : Lo w0 S (some p) := fun k hk => by cases hk; exact h _ (Or.inl rfl)
theorem PIn.ll (h : PIn w0 S p L R B mm) : Lo w0 S L.ownBlock := fun k hk => h k (Or.inr (Or.inl hk))
theorem PIn.lr (h : PIn w0 S p L R B mm) : Lo w0 S R.ownBlock := fun k hk => h k (Or.inr (Or.inr (Or.inl hk)))
theorem PIn.lb (h : PIn w0 S p L R B mm) : Lo w0 S B.ownBlock := fun k hk => h k (Or.inr (Or.inr (Or.inr (Or.inl hk))))
theorem PIn.f (h : PIn w0 S p L R B mm) : Lo w0 S (some mm.f) := fun k hk => by cases hk; exact h _ (Or.inr (Or.inr (Or.inr (Or.inr (Or.inl rfl)))))
theorem NP.hf {x : Option Nat} (h : NP p L R B mm x) : Apart x (some mm.f) := fun k a c => h k a (by cases c; exact Or.inr (Or.inr (Or.inr (Or.inr (Or.inl rfl)))))
theorem PIn.fresh {w : World} (h : ∀ k, inP p L R B mm k → w.heap.size ≤ k) (hs : w0.heap.size ≤ w.heap.size) : PIn w0 S p L R B mm := fun k hk => Or.inl (by have := h k hk; omega)
theorem np_fresh {w : World} {x : Option Nat} (h : ∀ k, inP p L R B mm k → w.heap.size ≤ k) (hl : ∀ k, x = some k → k < w.heap.size) : NP p L R B mm x := fun k hk hi => by have := h k hi; have := hl k hk; omega
theorem kW {a b : Nat} (h : a ≠ b) : Apart (some a) (some b) := fun k hk hb => by cases hk; cases hb; exact h rfl
end
theorem lookF {q : PSt} (h : PoolOk q) {xs ys : List Int} (h1 : ∀ i, i < xs.length → 0 ≤ xs.getD i 0 ∧ xs.getD i 0 < q.ns.length) (h2 : ∀ i, i < ys.length → 0 ≤ ys.getD i 0 ∧ ys.getD i 0 < q.ns.length)
  {z : Int} (hz : look q.fl (b2s (keyN (sortL xs) (sortL ys))) = some z) : PlaceOk q z ∧ pd q z = mkG (xs.map (pd q)) (ys.map (pd q)) := by
 have m1 := xS (P := fun k => 0 ≤ k ∧ k < (q.ns.length : Int)) h1
 have m2 := xS (P := fun k => 0 ≤ k ∧ k < (q.ns.length : Int)) h2
 obtain ⟨i, hi, rfl, e⟩ := h.find.is _ _ _ (fun x hx => (m1 x (mem_sortL.1 hx)).1) (fun x hx => (m2 x (mem_sortL.1 hx)).1) hz
 refine ⟨⟨by omega, by omega⟩, ?_⟩
 unfold pd
 rw [Int.toNat_natCast, qW h.ar.opts hi, e]
 exact fF (fun x => by simp only [List.mem_map, mem_sortL]) (fun x => by simp only [List.mem_map, mem_sortL])
def addQ (q : PSt) (xs ys : List Int) (b : Int) : PSt := { q with ns := q.ns ++ [⟨sortL xs, sortL ys⟩], bs := q.bs ++ [b], fl := putE q.fl (b2s (keyN (sortL xs) (sortL ys))) (q.ns.length : Int) }
theorem PoolOk.add {q : PSt} (h : PoolOk q) {xs ys : List Int} {b : Int} (hl : q.ns.length + 1 ≤ 1048576) (hls : xs.length ≤ 1048576 ∧ ys.length ≤ 1048576)
  (h1 : ∀ i, i < xs.length → 0 ≤ xs.getD i 0 ∧ xs.getD i 0 < q.ns.length) (h2 : ∀ i, i < ys.length → 0 ≤ ys.getD i 0 ∧ ys.getD i 0 < q.ns.length)
  (hn : look q.fl (b2s (keyN (sortL xs) (sortL ys))) = none) (hb : b = bornOf q.bs (sortL ys) (bornOf q.bs (sortL xs) 0)) :
  PoolOk (addQ q xs ys b) ∧ PX q (addQ q xs ys b) ∧ PlaceOk (addQ q xs ys b) (q.ns.length : Int) ∧ pd (addQ q xs ys b) (q.ns.length : Int) = mkG (xs.map (pd q)) (ys.map (pd q)) ∧ (addQ q xs ys b).ns.length ≤ q.ns.length + 1 := by
 have m1 := xS (P := fun k => 0 ≤ k ∧ k < (q.ns.length : Int)) h1
 have m2 := xS (P := fun k => 0 ≤ k ∧ k < (q.ns.length : Int)) h2
 have hb2 : b = putBorn q.bs xs ys := hb.trans putBorn_sort
 have hf : findK q.ns q.bs (putNd xs ys) (putBorn q.bs xs ys) = none := by
  cases hf : findK q.ns q.bs (putNd xs ys) (putBorn q.bs xs ys) with
  | none => rfl
  | some k =>
   exfalso
   have hk : k < q.ns.length := by simpa using List.mem_of_find?_eq_some hf
   have hd : q.bs.getD k 0 = putBorn q.bs xs ys ∧ (q.ns.getD k default).l = sortL xs ∧ (q.ns.getD k default).r = sortL ys := by
    have hdec := List.find?_some hf
    exact of_decide_eq_true hdec
   have := h.find.has k hk
   rw [hd.2.1, hd.2.2, hn] at this
   cases this
 have hp := h.ar.put hl hls h1 h2
 have eN : putN q.ns q.bs xs ys = q.ns ++ [⟨sortL xs, sortL ys⟩] := by unfold putN; rw [hf]; rfl
 have eB : putB q.ns q.bs xs ys = q.bs ++ [b] := by unfold putB; rw [hf, hb2]
 have eK : putK q.ns q.bs xs ys = q.ns.length := by unfold putK; rw [hf]
 rw [eN, eB, eK] at hp
 have hpx : PX q (addQ q xs ys b) := ⟨by simp [addQ], fun k hk => yU hk, fun _ h => h⟩
 have hpd : ∀ z : Int, PlaceOk q z → pd (addQ q xs ys b) z = pd q z := fun z hz => hp.2.2 z.toNat (by have := hz.1; have := hz.2; omega)
 have hpl : ∀ z : Int, PlaceOk q z → PlaceOk (addQ q xs ys b) z := fun z hz => hpx.place hz
 have hlen : (q.ns ++ [(⟨sortL xs, sortL ys⟩ : Nd)]).length = q.ns.length + 1 := by simp
 refine ⟨⟨hp.1, ⟨fun i hi => ?_, fun l r z hl0 hr0 hz => ?_⟩, fun a c v hv => ?_, fun a z hz => ?_, fun a c z hz => ?_, fun a z hz => ?_⟩, hpx, ⟨by omega, by show (q.ns.length : Int) < ((q.ns ++ [(⟨sortL xs, sortL ys⟩ : Nd)]).length : Int); rw [hlen]; omega⟩, ?_, by show (q.ns ++ [(⟨sortL xs, sortL ys⟩ : Nd)]).length ≤ _; rw [hlen]; exact Nat.le_refl _⟩
 ·show look (putE q.fl _ _) _ = _
  have hi' : i < q.ns.length + 1 := by rw [← hlen]; exact hi
  by_cases he : i < q.ns.length
  ·have e : (addQ q xs ys b).ns.getD i default = q.ns.getD i default := yU he
   rw [e, vD, if_neg]
   ·exact h.find.has i he
   ·intro hk
    have oo := xK h.ar.opts he
    obtain ⟨e1, e2⟩ := nC (fun z hz => (oo.1 z hz).1) (fun z hz => (oo.2 z hz).1) (fun z hz => (m1 z (mem_sortL.1 hz)).1) (fun z hz => (m2 z (mem_sortL.1 hz)).1) (eJ hk)
    have := h.find.has i he
    rw [e1, e2, hn] at this
    cases this
  ·have e0 : i = q.ns.length := by omega
   subst e0
   have e : (addQ q xs ys b).ns.getD q.ns.length default = ⟨sortL xs, sortL ys⟩ := xN rfl
   rw [e, vD, if_pos rfl]
 ·have hz' : look (putE q.fl (b2s (keyN (sortL xs) (sortL ys))) (q.ns.length : Int)) (b2s (keyN l r)) = some z := hz
  rw [vD] at hz'
  split at hz'
  ·rename_i hk
   obtain ⟨e1, e2⟩ := nC hl0 hr0 (fun z hz => (m1 z (mem_sortL.1 hz)).1) (fun z hz => (m2 z (mem_sortL.1 hz)).1) (eJ hk)
   cases hz'
   exact ⟨q.ns.length, by show _ < (q.ns ++ [_]).length; rw [hlen]; omega, rfl, by rw [e1, e2]; exact xN rfl⟩
  ·obtain ⟨i, h3, h4, h5⟩ := h.find.is l r z hl0 hr0 hz'
   exact ⟨i, by show _ < (q.ns ++ [_]).length; rw [hlen]; omega, h4, (yU h3).trans h5⟩
 ·obtain ⟨h3, h4, h5⟩ := h.ord a c v hv
  exact ⟨hpl a h3, hpl c h4, by rw [hpd a h3, hpd c h4]; exact h5⟩
 ·obtain ⟨h3, h4, h5, h6⟩ := h.can a z hz
  exact ⟨hpl a h3, hpl z h4, by rw [hpd z h4]; exact h5, by rw [hpd z h4, hpd a h3]; exact h6⟩
 ·obtain ⟨h3, h4, h5, h6⟩ := h.sum a c z hz
  exact ⟨hpl a h3, hpl c h4, hpl z h5, by rw [hpd z h5, hpd a h3, hpd c h4]; exact h6⟩
 ·obtain ⟨h3, h4, h5⟩ := h.neg a z hz
  exact ⟨hpl a h3, hpl z h4, by rw [hpd z h4, hpd a h3]; exact h5⟩
 ·exact hp.2.1
theorem px_map {q q' : PSt} (h : PX q q') (hq : PoolOk q) (hq' : PoolOk q') {ls : List Int} (hl : ∀ z ∈ ls, PlaceOk q z) : ls.map (pd q') = ls.map (pd q) := List.map_congr_left fun z hz => h.pd hq hq' (hl z hz)
theorem qH {q : PSt} {ls : List Int} (h : ∀ z ∈ ls, PlaceOk q z) : ∀ i, i < ls.length → 0 ≤ ls.getD i 0 ∧ ls.getD i 0 < q.ns.length := fun _ hi => h _ (yT hi)
theorem rI {xs : List Int} {n : Nat} (h1 : ∀ i, i < xs.length → 0 ≤ xs.getD i 0 ∧ xs.getD i 0 < n) : ∀ i, i < (sortL xs).length → 0 ≤ (sortL xs).getD i 0 ∧ (sortL xs).getD i 0 < n := fun _ hi =>
 xS (P := fun k => 0 ≤ k ∧ k < (n : Int)) h1 _ (mem_sortL.1 (yT hi))
theorem tT {xs : List Int} {n j : Nat} (h1 : ∀ i, i < xs.length → 0 ≤ xs.getD i 0 ∧ xs.getD i 0 < n) (hn : n ≤ 1048576) : (keyL (xs.take j)).length ≤ 14 * xs.length := by
 have := key_len (l := xs.take j) fun z hz => by
  have := xS (P := fun k => 0 ≤ k ∧ k < (n : Int)) h1 z (List.mem_of_mem_take hz); omega
 have h2 : (xs.take j).length ≤ xs.length := by simp; omega
 omega
end Go.GL
namespace Go.GL
open Go Go.RowKit
theorem at_getD {a l : List Int} {i : Nat} (h : i < l.length) : (atL a l).getD i 0 = a.getD (l.getD i 0).toNat 0 := by simp [atL, List.getD, h]
end Go.GL
namespace Go.GL
open Go Go.RowKit
theorem xR {a b c : PSt} (h : b.ns = a.ns ∧ b.bs = a.bs) (k : c.ns = b.ns ∧ c.bs = b.bs) : c.ns = a.ns ∧ c.bs = a.bs := ⟨k.1.trans h.1, k.2.trans h.2⟩
theorem PlaceOk.same {q q2 : PSt} {a : Int} (hn : q2.ns = q.ns ∧ q2.bs = q.bs) (h : PlaceOk q a) : PlaceOk q2 a := by unfold PlaceOk; rw [hn.1]; exact h
theorem pd_same {q q2 : PSt} {a : Int} (hn : q2.ns = q.ns ∧ q2.bs = q.bs) : pd q2 a = pd q a := by unfold pd; rw [hn.1]
theorem tC {q q2 : PSt} {a b : Int} (hn : q2.ns = q.ns ∧ q2.bs = q.bs) : geB q2.ns a b = geB q.ns a b := by rw [hn.1]
theorem sB {q q2 : PSt} {a b : Int} {v : Bool} (hn : q2.ns = q.ns ∧ q2.bs = q.bs) (hv : geB q.ns a b = v) : v = decP (geG (pd q2 a) (pd q2 b)) := by
 rw [pd_same hn, pd_same hn, ← hv]; rfl
theorem geB_refl {ns : List Nd} {a : Int} : geB ns a a = true := decP_true.2 (tB _)
structure LdOk (fs : List Nd) (q q2 : PSt) (k : Nat) (ats : List Int) : Prop where
 len : ats.length = k
 hi : q2.ns.length ≤ q.ns.length + k
 pl : ∀ i, i < k → PlaceOk q2 (ats.getD i 0) ∧ pd q2 (ats.getD i 0) = den fs i
theorem LdOk.start {fs : List Nd} {q : PSt} : LdOk fs q q 0 [] := ⟨rfl, Nat.le_refl _, fun i hi => absurd hi (Nat.not_lt_zero i)⟩
theorem LdOk.opt {fs : List Nd} {q q2 : PSt} {k : Nat} {ats : List Int} (h : LdOk fs q q2 k ats) {l : List Int} (hl : ∀ z ∈ l, 0 ≤ z ∧ z < k) :
  ∀ i, i < (atL ats l).length → 0 ≤ (atL ats l).getD i 0 ∧ (atL ats l).getD i 0 < q2.ns.length := by
 intro i hi
 rw [xF] at hi
 rw [at_getD hi]
 have := hl _ (yT (d := (0 : Int)) hi)
 exact (h.pl _ (by omega)).1
theorem LdOk.den {fs : List Nd} {q q2 : PSt} {k : Nat} {ats : List Int} (h : LdOk fs q q2 k ats) {l : List Int} (hl : ∀ z ∈ l, 0 ≤ z ∧ z < k) :
  (atL ats l).map (pd q2) = l.map fun z => GL.den fs z.toNat := by
 unfold atL
 rw [List.map_map]
 refine List.map_congr_left fun z hz => ?_
 have := hl z hz
 exact (h.pl z.toNat (by omega)).2
theorem LdOk.step {fs : List Nd} {q q2 q3 : PSt} {k : Nat} {ats : List Int} {z : Int} (h : LdOk fs q q2 k ats) (hf : FormOk fs) (hk : k < fs.length) (hq : PoolOk q2) (hq' : PoolOk q3) (hx : PX q2 q3) (hz : PlaceOk q3 z)
  (hd : pd q3 z = mkG ((atL ats (fs.getD k default).l).map (pd q2)) ((atL ats (fs.getD k default).r).map (pd q2))) (hn : q3.ns.length ≤ q2.ns.length + 1) : LdOk fs q q3 (k + 1) (ats ++ [z]) := by
 have oo := xK hf.opts hk
 refine ⟨by rw [List.length_append, h.len]; rfl, by have := h.hi; omega, fun i hi => ?_⟩
 by_cases he : i = k
 ·subst he
  have e : (ats ++ [z]).getD i 0 = z := by rw [← h.len]; simp [List.getD]
  rw [e]
  refine ⟨hz, ?_⟩
  rw [hd, h.den oo.1, h.den oo.2, qW hf.opts hk]
 ·have hi' : i < k := by omega
  have e : (ats ++ [z]).getD i 0 = ats.getD i 0 := by simp [List.getD, List.getElem?_append_left (show i < ats.length by rw [h.len]; exact hi')]
  rw [e]
  have := h.pl i hi'
  exact ⟨hx.place this.1, (hx.pd hq hq' this.1).trans this.2⟩
theorem LdOk.root {fs : List Nd} {q q2 : PSt} {ats : List Int} (h : LdOk fs q q2 fs.length ats) (h1 : 1 ≤ fs.length) : PlaceOk q2 (ats.getD (fs.length - 1) 0) ∧ pd q2 (ats.getD (fs.length - 1) 0) = gOf fs := h.pl _ (by omega)
theorem geB_roots {q : PSt} {a b : Int} {g h : Nat} (ha : pd q a = g) (hb : pd q b = h) : geB q.ns a b = decP (geG g h) := by rw [← ha, ← hb]; rfl
end Go.GL
namespace Go.GL
open Go Go.RowKit
end Go.GL
namespace Go.GL
theorem tO {a b : List Nd} (ha : SG a) (hb : SG b) {n i j : Nat} (hi : i < a.length) (hj : j < b.length) (hpre : ∀ k, k < n → k < a.length ∧ k < b.length ∧ den a k = den b k)
  (hai : (∀ z ∈ (a.getD i default).l, z < (n : Int)) ∧ (∀ z ∈ (a.getD i default).r, z < (n : Int))) (hbj : (∀ z ∈ (b.getD j default).l, z < (n : Int)) ∧ (∀ z ∈ (b.getD j default).r, z < (n : Int)))
  (he : den a i = den b j) : a.getD i default = b.getD j default := by
 have oa := xK ha.opts hi
 have ob := xK hb.opts hj
 refine mX (fU (ha.pw i hi).1 (hb.pw j hj).1 fun z => ⟨fun hz => ?_, fun hz => ?_⟩) (fU (ha.pw i hi).2 (hb.pw j hj).2 fun z => ⟨fun hz => ?_, fun hz => ?_⟩)
 ·have h1 : loG (den a i) (den a z.toNat) := (qV ha.opts hi).2 ⟨z, hz, rfl⟩
  rw [he] at h1
  obtain ⟨y, hy, e⟩ := (qV hb.opts hj).1 h1
  have z1 := oa.1 z hz; have z2 := hai.1 z hz; have y1 := ob.1 y hy; have y2 := hbj.1 y hy
  have p1 := hpre z.toNat (by omega); have p2 := hpre y.toNat (by omega)
  have := ha.inj (i := z.toNat) (j := y.toNat) (by omega) (by omega) (by rw [e, p2.2.2])
  have : z = y := by omega
  rwa [this]
 ·have h1 : loG (den b j) (den b z.toNat) := (qV hb.opts hj).2 ⟨z, hz, rfl⟩
  rw [← he] at h1
  obtain ⟨y, hy, e⟩ := (qV ha.opts hi).1 h1
  have z1 := ob.1 z hz; have z2 := hbj.1 z hz; have y1 := oa.1 y hy; have y2 := hai.1 y hy
  have p1 := hpre z.toNat (by omega); have p2 := hpre y.toNat (by omega)
  have := ha.inj (i := z.toNat) (j := y.toNat) (by omega) (by omega) (by rw [← e, p1.2.2])
  have : z = y := by omega
  rwa [this]
 ·have h1 : roG (den a i) (den a z.toNat) := (qU ha.opts hi).2 ⟨z, hz, rfl⟩
  rw [he] at h1
  obtain ⟨y, hy, e⟩ := (qU hb.opts hj).1 h1
  have z1 := oa.2 z hz; have z2 := hai.2 z hz; have y1 := ob.2 y hy; have y2 := hbj.2 y hy
  have p1 := hpre z.toNat (by omega); have p2 := hpre y.toNat (by omega)
  have := ha.inj (i := z.toNat) (j := y.toNat) (by omega) (by omega) (by rw [e, p2.2.2])
  have : z = y := by omega
  rwa [this]
 ·have h1 : roG (den b j) (den b z.toNat) := (qU hb.opts hj).2 ⟨z, hz, rfl⟩
  rw [← he] at h1
  obtain ⟨y, hy, e⟩ := (qU ha.opts hi).1 h1
  have z1 := ob.2 z hz; have z2 := hbj.2 z hz; have y1 := oa.2 y hy; have y2 := hai.2 y hy
  have p1 := hpre z.toNat (by omega); have p2 := hpre y.toNat (by omega)
  have := ha.inj (i := z.toNat) (j := y.toNat) (by omega) (by omega) (by rw [← e, p1.2.2])
  have : z = y := by omega
  rwa [this]
theorem kV {a b : List Nd} (ha : OptsOk a) (hb : OptsOk b) : ∀ (n i j : Nat), i + j ≤ n → i < a.length → j < b.length → den a i = den b j → (births a).getD i 0 ≤ (births b).getD j 0
 | _, i, j, _, hi, hj, he => by
  have oa := xK ha hi
  have ob := xK hb hj
  rw [(xX ha).2 i hi, putBorn_le]
  have hbj := (xX hb).2 j hj
  have hb2 := putBorn_le.1 (Int.le_of_eq hbj.symm)
  refine ⟨tG (xX hb) hj, fun z hz => ?_, fun z hz => ?_⟩
  ·have h1 : loG (den a i) (den a z.toNat) := (qV ha hi).2 ⟨z, hz, rfl⟩
   rw [he] at h1
   obtain ⟨y, hy, e⟩ := (qV hb hj).1 h1
   have z1 := oa.1 z hz; have y1 := ob.1 y hy
   have := kV ha hb (z.toNat + y.toNat) z.toNat y.toNat (Nat.le_refl _) (by omega) (by omega) e
   have := hb2.2.1 y hy
   omega
  ·have h1 : roG (den a i) (den a z.toNat) := (qU ha hi).2 ⟨z, hz, rfl⟩
   rw [he] at h1
   obtain ⟨y, hy, e⟩ := (qU hb hj).1 h1
   have z1 := oa.2 z hz; have y1 := ob.2 y hy
   have := kV ha hb (z.toNat + y.toNat) z.toNat y.toNat (Nat.le_refl _) (by omega) (by omega) e
   have := hb2.2.2 y hy
   omega
termination_by _ i j => i + j
decreasing_by all_goals omega
theorem pX {a b : List Nd} (ha : OptsOk a) (hb : OptsOk b) {i j : Nat} (hi : i < a.length) (hj : j < b.length) (he : den a i = den b j) : (births a).getD i 0 = (births b).getD j 0 :=
 Int.le_antisymm (kV ha hb _ i j (Nat.le_refl _) hi hj he) (kV hb ha _ j i (Nat.le_refl _) hj hi he.symm)
theorem SG.sub {a b : List Nd} (ha : SG a) (hb : SG b) (he : gOf a = gOf b) : ∀ k, k < a.length → ∃ j, j < b.length ∧ den b j = den a k := by
 have key : ∀ n k, a.length - k ≤ n → k < a.length → ∃ j, j < b.length ∧ den b j = den a k := by
  intro n
  induction n with
  | zero => intro k h1 h2; omega
  | succ n ih =>
   intro k h1 h2
   by_cases hk : k + 1 < a.length
   ·obtain ⟨i, hki, hi, hz⟩ := ha.last k hk
    obtain ⟨j, hj, e⟩ := ih i (by omega) hi
    rcases hz with hz | hz
    ·have h3 : loG (den a i) (den a (k : Int).toNat) := (qV ha.opts hi).2 ⟨_, hz, rfl⟩
     rw [← e] at h3
     obtain ⟨y, hy, e2⟩ := (qV hb.opts hj).1 h3
     have := (xK hb.opts hj).1 y hy
     exact ⟨y.toNat, by omega, by rw [← e2]; rfl⟩
    ·have h3 : roG (den a i) (den a (k : Int).toNat) := (qU ha.opts hi).2 ⟨_, hz, rfl⟩
     rw [← e] at h3
     obtain ⟨y, hy, e2⟩ := (qU hb.opts hj).1 h3
     have := (xK hb.opts hj).2 y hy
     exact ⟨y.toNat, by omega, by rw [← e2]; rfl⟩
   ·have hb1 := hb.lo
    refine ⟨b.length - 1, by omega, ?_⟩
    have : k = a.length - 1 := by omega
    rw [this]; exact he.symm
 exact fun k hk => key _ k (Nat.le_refl _) hk
theorem SG.low {a : List Nd} (ha : SG a) {n i : Nat} (hi : i < a.length) (hb : (births a).getD i 0 ≤ (births a).getD n 0) (hn : n < a.length) : (∀ z ∈ (a.getD i default).l, z < (n : Int)) ∧ (∀ z ∈ (a.getD i default).r, z < (n : Int)) := by
 have hl := kP ha.opts i hi
 have key : ∀ z : Int, 0 ≤ z → z < i → (births a).getD z.toNat 0 < (births a).getD i 0 → z < (n : Int) := fun z h0 h1 h2 => by
  by_cases hlt : z < (n : Int)
  ·exact hlt
  ·by_cases he : n = z.toNat
   ·subst he; omega
   ·rcases ha.srt n z.toNat (by omega) (by omega) with h3 | ⟨h3, _⟩ <;> omega
 exact ⟨fun z hz => by have := hl.1 z hz; exact key z this.1 this.2.1 this.2.2, fun z hz => by have := hl.2 z hz; exact key z this.1 this.2.1 this.2.2⟩
theorem pE {a b : List Nd} (ha : SG a) (hb : SG b) (he : gOf a = gOf b) : ∀ n, n ≤ a.length → n ≤ b.length ∧ ∀ k, k < n → a.getD k default = b.getD k default ∧ den a k = den b k := by
 intro n
 induction n with
 | zero => intro _; exact ⟨Nat.zero_le _, fun k hk => absurd hk (Nat.not_lt_zero k)⟩
 | succ n ih =>
  intro hn
  obtain ⟨hnb, hpre⟩ := ih (by omega)
  obtain ⟨j, hj, ej⟩ := ha.sub hb he n (by omega)
  have hjn : n ≤ j := by
   apply Classical.byContradiction
   intro hlt
   have := (hpre j (by omega)).2
   have := ha.inj (i := j) (j := n) (by omega) (by omega) (by rw [this, ej])
   omega
  have hbn : n < b.length := by omega
  obtain ⟨i, hi, ei⟩ := hb.sub ha he.symm n hbn
  have hin : n ≤ i := by
   apply Classical.byContradiction
   intro hlt
   have := (hpre i (by omega)).2
   have := hb.inj (i := i) (j := n) (by omega) (by omega) (by rw [← this, ei])
   omega
  have hp : ∀ k, k < n → k < a.length ∧ k < b.length ∧ den a k = den b k := fun k hk => ⟨by omega, by omega, (hpre k hk).2⟩
  have hgh : den a n = den b n := by
   by_cases hjn' : j = n
   ·rw [hjn'] at ej; exact ej.symm
   ·have hin' : i ≠ n := fun e => by
     rw [e] at ei
     exact hjn' (hb.inj hj hbn (by rw [ej, ei]))
    exfalso
    have s1 := hb.srt n j (by omega) hj
    have s2 := ha.srt n i (by omega) hi
    have b1 := pX ha.opts hb.opts (show n < a.length by omega) hj ej.symm
    have b2 := pX ha.opts hb.opts hi hbn ei
    have a1 := ha.low (n := n) (i := n) (by omega) (Int.le_refl _) (by omega)
    have hle : (births a).getD i 0 ≤ (births a).getD n 0 := by rcases s1 with s1 | ⟨s1, _⟩ <;> omega
    have a2 := ha.low (n := n) (i := i) hi hle (by omega)
    have c1 := hb.low (n := n) (i := n) hbn (Int.le_refl _) hbn
    have hle2 : (births b).getD j 0 ≤ (births b).getD n 0 := by rcases s2 with s2 | ⟨s2, _⟩ <;> omega
    have c2 := hb.low (n := n) (i := j) hj hle2 hbn
    have e1 := tO ha hb (n := n) hi hbn hp a2 c1 ei
    have e2 := tO ha hb (n := n) (show n < a.length by omega) hj hp a1 c2 ej.symm
    have x1 : aheadI (b.getD n default) (b.getD j default) < 0 := by rcases s1 with s1 | ⟨_, s1⟩; omega; exact s1
    have x2 : aheadI (a.getD n default) (a.getD i default) < 0 := by rcases s2 with s2 | ⟨_, s2⟩; omega; exact s2
    rw [e1, e2, jG] at x2
    omega
  refine ⟨hbn, fun k hk => ?_⟩
  by_cases hk' : k < n
  ·exact hpre k hk'
  ·have : k = n := by omega
   subst this
   exact ⟨tO ha hb (n := k) (by omega) hbn hp (ha.low (by omega) (Int.le_refl _) (by omega)) (hb.low hbn (Int.le_refl _) hbn) hgh, hgh⟩
theorem pD {a b : List Nd} (ha : SG a) (hb : SG b) (he : gOf a = gOf b) : a = b := by
 have h1 := pE ha hb he a.length (Nat.le_refl _)
 have h2 := pE hb ha he.symm b.length (Nat.le_refl _)
 exact sX (by omega) (Nat.le_refl _) fun i hi => (h1.2 i hi).1
theorem good_sg {ns : List Nd} (h : GoodP ns) : SG ns := by
 obtain ⟨w, hs, hd⟩ := wf_good h
 have hlo := h.lo
 refine ⟨hlo, w, hs, fun k hk => ?_⟩
 have hu : (reachM ns (ns.length - 1)).getD k false = true := by
  rw [gB hlo]
  exact idx_all (j := 0) (Int.le_refl _) h.used k (by unfold usedM; rw [mE]; simp; omega)
 rcases gC hu with h1 | ⟨j, hj, _, z, hz, ez⟩
 ·omega
 ·have oo := xK w.ok.opts (show j < ns.length by omega)
  refine ⟨j, ?_, by omega, ?_⟩
  ·rcases hz with hz | hz
   ·have := oo.1 z hz; omega
   ·have := oo.2 z hz; omega
  ·rcases hz with hz | hz
   ·have := oo.1 z hz; left; rwa [show (k : Int) = z by omega]
   ·have := oo.2 z hz; right; rwa [show (k : Int) = z by omega]
theorem sg_good {ns : List Nd} (h : SG ns) (hf : FitsP ns) : GoodP ns := by
 refine good_iff.1 ⟨hf, h.wf.rise, ?_⟩
 have ha := Ar.empty.add h.wf.ok (by have := h.wf.ok.len; simp; omega)
 have hr := Ar.empty.root h.wf.ok h.lo (by have := h.wf.ok.len; simp; omega)
 have hao := vS jC h.wf.ok (by have := h.wf.ok.len; simp; omega)
 have hlt := sE hao h.lo
 obtain ⟨h1, h2, _⟩ := rY ha.ar (m := (rootM [] [] ns).toNat) (by omega)
 exact pD h1 h (h2.trans hr)
def IsForm (g : Nat) (ns : List Nd) : Prop := SG ns ∧ gOf ns = g
theorem IsForm.unique {g : Nat} {a b : List Nd} (ha : IsForm g a) (hb : IsForm g b) : a = b := pD ha.1 hb.1 (ha.2.trans hb.2.symm)
end Go.GL
namespace Go.GL
open Go Go.RowKit
theorem Gadd.turn {S : Nat → Prop} {G0 G G' : Pin} {w0 w w' : World} {v : Value} (h : Pins (Gadd G0 w0 v) w) (hP : Pins G0 w') (hx : Ext S G w G' w') (hS : ∀ k, v.ownBlock = some k → ¬ S k) : Pins (Gadd G0 w0 v) w' := fun b o u hu => by
 rcases hu with hu | hu
 ·exact hP b o u hu
 ·have h1 := h b o u (Or.inr hu)
  have h2 := hx.block b (vQ h1) (hS b hu.1)
  unfold World.cell? at h1 ⊢
  simp only [h2]; exact h1
end Go.GL
namespace Go.GL
open Go Go.RowKit
theorem jB {q : PSt} (hok : PoolOk q) {c : Int} (hc : PlaceOk q c) : (∀ z ∈ (q.ns.getD c.toNat default).l, PlaceOk q z) ∧ (∀ z ∈ (q.ns.getD c.toNat default).r, PlaceOk q z) := by
 have oo := xK hok.ar.opts (show c.toNat < q.ns.length by have := hc.1; have := hc.2; omega)
 exact ⟨fun z hz => ⟨(oo.1 z hz).1, by have := (oo.1 z hz).2; have := hc.2; have := hc.1; omega⟩, fun z hz => ⟨(oo.2 z hz).1, by have := (oo.2 z hz).2; have := hc.2; have := hc.1; omega⟩⟩
end Go.GL
namespace Go.GL
open Go Go.RowKit
structure WoOk (D ds : List Int) (k : Nat) : Prop where
 pw : ds.Pairwise (· < ·)
 mem : ∀ z, z ∈ ds ↔ z ∈ D ∧ (k : Int) ≤ z
theorem WoOk.hit {D ds : List Int} {k : Nat} (h : WoOk D ds k) (h1 : 0 < ds.length) (h2 : ds.getD 0 0 = (k : Int)) : WoOk D (ds.drop 1) (k + 1) ∧ (k : Int) ∈ D := by
 cases ds with
 | nil => cases h1
 | cons x r =>
  have hx : x = (k : Int) := h2
  subst hx
  have hp := List.pairwise_cons.1 h.pw
  refine ⟨⟨hp.2, fun z => ⟨fun hz => ?_, fun hz => ?_⟩⟩, ((h.mem k).1 List.mem_cons_self).1⟩
  ·have := hp.1 z hz
   exact ⟨((h.mem z).1 (List.mem_cons_of_mem _ hz)).1, by omega⟩
  ·have h3 := (h.mem z).2 ⟨hz.1, by omega⟩
   rcases List.mem_cons.1 h3 with rfl | h3
   ·omega
   ·exact h3
theorem qY : ∀ (n : Nat) (l : List Int), l.Nodup → (∀ x ∈ l, 0 ≤ x ∧ x < (n : Int)) → l.length ≤ n
 | 0, l, _, h => by
  cases l with
  | nil => exact Nat.le_refl 0
  | cons x r => have := h x List.mem_cons_self; omega
 | n + 1, l, hn, h => by
  by_cases hm : (n : Int) ∈ l
  ·have h1 := List.length_erase_of_mem hm
   have h2 := qY n (l.erase (n : Int)) (hn.erase _) fun x hx => by
    have h3 := (hn.mem_erase_iff).1 hx
    have := h x h3.2
    have := h3.1
    omega
   omega
  ·have := qY n l hn fun x hx => by
    have h1 := h x hx
    by_cases e : x = (n : Int)
    ·exact absurd (e ▸ hx) hm
    ·omega
   omega
theorem own_cut {α : Type} {E : Elt α} {e base : Nat} {G : Pin} {w : World} {v : Value} {xs : List α} (h : Own E e G w base v xs) (m : Nat) (zz : Int) (hz : 0 ≤ zz) (hzm : zz.toNat = m) (hm : m ≤ xs.length) (hp : 0 < xs.length) :
  ∃ u, Own E e G w base u (xs.take m) ∧ u.ownBlock = v.ownBlock ∧ RunsSlice v u E.size none (some zz) := by
 subst hzm
 obtain ⟨cells, ⟨hl, hown⟩, hr⟩ := h.ex
 rcases hown with ⟨_, h0⟩ | ⟨g, cap, cur, rfl, hb, hg, hn, hc, hs, ht⟩
 ·omega
 ·refine ⟨.slice (some ⟨g, 0, none⟩) zz.toNat cap, ⟨⟨cells.take (zz.toNat * E.size), ⟨?_, Or.inr ⟨g, cap, cur, ?_, hb, hg, ?_, hc, hs, ?_⟩⟩, fun i x hx => ?_⟩, h.free⟩, rfl, ?_⟩
  ·rw [List.length_take, List.length_take, hl, Nat.min_eq_left hm]
   exact Nat.min_eq_left (Nat.mul_le_mul_right _ hm)
  ·rw [List.length_take, Nat.min_eq_left hm]
  ·rw [List.length_take, Nat.min_eq_left hm]; omega
  ·rw [List.length_take, Nat.min_eq_left hm, ← ht, List.take_take, Nat.min_eq_left (Nat.mul_le_mul_right _ hm)]
  ·rw [List.getElem?_take] at hx
   split at hx
   ·rename_i hi
    have h1 := hr i x hx
    have h2 : (i + 1) * E.size ≤ zz.toNat * E.size := Nat.mul_le_mul_right _ hi
    rw [Nat.add_mul, Nat.one_mul] at h2
    rw [List.drop_take, List.take_take, Nat.min_eq_left (by omega)]
    exact h1
   ·cases hx
  ·intro P w' d t e' ty pos aft gg x lx hx ρ htt hsz hρ hlx hhx
   have he := elem_of htt
   have ht' : P.underlying t = some (.slice (P.elem t)) := by rw [he]; exact htt
   have hsz' : ∀ w : World, (sizeOf (P.elem t)).run P w = .ok E.size w := fun w => by rw [he]; exact run_sizeOf hsz w
   have key : (Instr.slice t (.slice (some ⟨g, 0, none⟩) xs.length cap) none (some (.int .i64 zz)) none).run P w' = .ok (.slice (some ⟨g, 0, none⟩) zz.toNat cap) w' := by
    refine (run_slice_h w' t (some ⟨g, 0, none⟩) xs.length cap ht' .i64 zz (by omega) (by omega)).trans ?_
    rw [hsz']
    simp [sliced, Addr.add]
   simp only [Option.map_none, Option.map_some] at hlx hhx
   simp [execOp, hρ, hlx, hhx, run_sliceAt_slice w' t _ _ _ _ ht', key]
end Go.GL
namespace Go.GL
open Go Go.RowKit
section
variable {q : PSt} {lf : Bool} {g : Nat} {wl ss kept : List Int} {m : Nat}
end
def SnOk (sn : List (Int × Bool)) (ss : List Int) : Prop := ∀ i, look sn i = if i ∈ ss then some true else none
theorem SnOk.start : SnOk [] [] := fun _ => rfl
theorem SnOk.yes {sn : List (Int × Bool)} {ss : List Int} {i : Int} (h : SnOk sn ss) (hi : (look sn i).getD false = true) : i ∈ ss := by
 rw [h i] at hi
 split at hi
 ·assumption
 ·cases hi
theorem SnOk.no {sn : List (Int × Bool)} {ss : List Int} {i : Int} (h : SnOk sn ss) (hi : (look sn i).getD false = false) : i ∉ ss := fun hm => by
 rw [h i, if_pos hm] at hi; cases hi
theorem SnOk.put {sn : List (Int × Bool)} {ss : List Int} {i : Int} (h : SnOk sn ss) : SnOk (putE sn i true) (ss ++ [i]) := fun x => by
 rw [vD, h x]
 by_cases e : x = i
 ·rw [if_pos e, if_pos (List.mem_append_right _ (List.mem_singleton.2 e))]
 ·rw [if_neg e]
  by_cases hm : x ∈ ss
  ·rw [if_pos hm, if_pos (List.mem_append_left _ hm)]
  ·rw [if_neg hm, if_neg fun h => (List.mem_append.1 h).elim hm fun h => e (List.mem_singleton.1 h)]
end Go.GL
namespace Go.GL
open Go Go.RowKit
inductive SubG (g : Nat) : Nat → Prop
 | self : SubG g g
 | left {x i : Nat} (h : SubG g x) (hl : loG x i) : SubG g i
 | right {x i : Nat} (h : SubG g x) (hr : roG x i) : SubG g i
def optsQ (q : PSt) (z : Int) : List Int := (q.ns.getD z.toNat default).l ++ (q.ns.getD z.toNat default).r
theorem opts_pl {q : PSt} (hok : PoolOk q) {z o : Int} (hz : PlaceOk q z) (ho : o ∈ optsQ q z) : PlaceOk q o ∧ o < z := by
 have h0 := hz.1; have h1 := hz.2
 have oo := xK hok.ar.opts (show z.toNat < q.ns.length by omega)
 unfold PlaceOk
 rcases List.mem_append.1 ho with h | h
 ·have := oo.1 o h; omega
 ·have := oo.2 o h; omega
structure PtOk (q : PSt) (rs list : List Int) (k : Nat) : Prop where
 nd : list.Nodup
 pl : ∀ z ∈ list, PlaceOk q z
 root : ∀ r ∈ rs, r ∈ list
 cl : ∀ j, j < k → ∀ o ∈ optsQ q (list.getD j 0), o ∈ list
 kl : k ≤ list.length
 min : ∀ C : Int → Prop, (∀ r ∈ rs, C r) → (∀ z, PlaceOk q z → C z → ∀ o ∈ optsQ q z, C o) → ∀ z ∈ list, C z
theorem mV {α : Type} {l : List α} {x : α} (h : l.Nodup) (hx : x ∉ l) : (l ++ [x]).Nodup := by
 unfold List.Nodup at h ⊢
 rw [List.pairwise_append]
 refine ⟨h, by simp, fun a ha b hb => ?_⟩
 simp at hb; subst hb
 intro e; subst e; exact hx ha
section
variable {q : PSt} {rs list : List Int} {k i : Nat}
theorem PtOk.start : PtOk q (rs.take 0) [] 0 := by
 refine ⟨List.nodup_nil, fun z hz => (List.not_mem_nil hz).elim, fun z hz => ?_, fun j hj => absurd hj (Nat.not_lt_zero j), Nat.le_refl _, fun _ _ _ z hz => (List.not_mem_nil hz).elim⟩
 simp at hz
theorem PtOk.len (h : PtOk q rs list k) : list.length ≤ q.ns.length := qY _ list h.nd fun x hx => h.pl x hx
theorem PtOk.rseen (h : PtOk q (rs.take i) list 0) (hi : i < rs.length) (hm : rs.getD i 0 ∈ list) : PtOk q (rs.take (i + 1)) list 0 := by
 rw [qE rs 0 hi]
 refine ⟨h.nd, h.pl, fun r hr => ?_, h.cl, h.kl, fun C h1 h2 => h.min C (fun r hr => h1 r (List.mem_append_left _ hr)) h2⟩
 rcases List.mem_append.1 hr with h3 | h3
 ·exact h.root r h3
 ·simp at h3; subst h3; simpa [List.getD] using hm
theorem PtOk.rnew (h : PtOk q (rs.take i) list 0) (hi : i < rs.length) (hm : rs.getD i 0 ∉ list) (hp : PlaceOk q (rs.getD i 0)) : PtOk q (rs.take (i + 1)) (list ++ [rs.getD i 0]) 0 := by
 rw [qE rs 0 hi]
 refine ⟨mV h.nd hm, fun z hz => ?_, fun r hr => ?_, fun j hj => absurd hj (Nat.not_lt_zero j), Nat.zero_le _, fun C h1 h2 z hz => ?_⟩
 ·rcases List.mem_append.1 hz with h3 | h3
  ·exact h.pl z h3
  ·rw [List.mem_singleton.1 h3]; exact hp
 ·rcases List.mem_append.1 hr with h3 | h3
  ·exact List.mem_append_left _ (h.root r h3)
  ·exact List.mem_append_right _ h3
 ·rcases List.mem_append.1 hz with h3 | h3
  ·exact h.min C (fun r hr => h1 r (List.mem_append_left _ hr)) h2 z h3
  ·exact h1 z (List.mem_append_right _ h3)
structure PtIn (q : PSt) (rs list : List Int) (k : Nat) (x : Int) (ds : List Int) : Prop where
 ok : PtOk q rs list k
 kl : k < list.length
 at_ : list.getD k 0 = x
 ds : ∀ o ∈ ds, o ∈ list
variable {x o : Int} {ds : List Int}
theorem PtIn.start (h : PtOk q rs list k) (hk : k < list.length) : PtIn q rs list k (list.getD k 0) [] := ⟨h, hk, rfl, fun _ h => (List.not_mem_nil h).elim⟩
theorem PtIn.seen (h : PtIn q rs list k x ds) (ho : o ∈ list) : PtIn q rs list k x (ds ++ [o]) := ⟨h.ok, h.kl, h.at_, fun y hy => by
 rcases List.mem_append.1 hy with h3 | h3
 ·exact h.ds y h3
 ·rw [List.mem_singleton.1 h3]; exact ho⟩
theorem PtIn.new (h : PtIn q rs list k x ds) (hok : PoolOk q) (ho : o ∉ list) (hx : o ∈ optsQ q x) : PtIn q rs (list ++ [o]) k x (ds ++ [o]) := by
 have hxm : x ∈ list := by rw [← h.at_]; exact yT h.kl
 have hxp := h.ok.pl x hxm
 refine ⟨⟨mV h.ok.nd ho, fun z hz => ?_, fun r hr => List.mem_append_left _ (h.ok.root r hr), fun j hj y hy => ?_, by simp; have := h.kl; omega, fun C h1 h2 z hz => ?_⟩, by simp; have := h.kl; omega, by rw [yU h.kl]; exact h.at_, fun y hy => ?_⟩
 ·rcases List.mem_append.1 hz with h3 | h3
  ·exact h.ok.pl z h3
  ·rw [List.mem_singleton.1 h3]; exact (opts_pl hok hxp hx).1
 ·rw [yU (by have := h.kl; omega)] at hy
  exact List.mem_append_left _ (h.ok.cl j hj y hy)
 ·rcases List.mem_append.1 hz with h3 | h3
  ·exact h.ok.min C h1 h2 z h3
  ·rw [List.mem_singleton.1 h3]; exact h2 x hxp (h.ok.min C h1 h2 x hxm) o hx
 ·rcases List.mem_append.1 hy with h3 | h3
  ·exact List.mem_append_left _ (h.ds y h3)
  ·exact List.mem_append_right _ h3
theorem PtIn.done (h : PtIn q rs list k x ds) (hd : ∀ o ∈ optsQ q x, o ∈ ds) : PtOk q rs list (k + 1) := by
 refine ⟨h.ok.nd, h.ok.pl, h.ok.root, fun j hj y hy => ?_, h.kl, h.ok.min⟩
 by_cases he : j = k
 ·subst he; rw [h.at_] at hy; exact h.ds y (hd y hy)
 ·exact h.ok.cl j (by omega) y hy
end
def dzL (l r : List Int) (s : Nat) : List Int := if s = 0 then [] else if s = 1 then l else l ++ r
theorem dz_next {l r : List Int} {s : Nat} (h : s < 2) : dzL l r (s + 1) = dzL l r s ++ pick2 s l r := by
 rcases (show s = 0 ∨ s = 1 by omega) with rfl | rfl <;> simp [dzL, pick2]
theorem dz_in {l r : List Int} {s i : Nat} (h : s < 2) (hi : i < (pick2 s l r).length) : (pick2 s l r).getD i 0 ∈ l ++ r := by
 rcases (show s = 0 ∨ s = 1 by omega) with rfl | rfl
 ·rw [pick2_0] at hi ⊢; exact List.mem_append_left _ (yT hi)
 ·rw [pick2_1] at hi ⊢; exact List.mem_append_right _ (yT hi)
theorem lo_pd {q : PSt} (hok : PoolOk q) {z : Int} {x : Nat} (hz : PlaceOk q z) : loG (pd q z) x ↔ ∃ o ∈ (q.ns.getD z.toNat default).l, x = pd q o := qV hok.ar.opts (by have := hz.1; have := hz.2; omega)
theorem ro_pd {q : PSt} (hok : PoolOk q) {z : Int} {x : Nat} (hz : PlaceOk q z) : roG (pd q z) x ↔ ∃ o ∈ (q.ns.getD z.toNat default).r, x = pd q o := qU hok.ar.opts (by have := hz.1; have := hz.2; omega)
theorem PtOk.sub {q : PSt} {rs list : List Int} (hok : PoolOk q) (h : PtOk q rs list list.length) (hr : ∀ r ∈ rs, PlaceOk q r) {x : Nat} : (∃ z ∈ list, pd q z = x) ↔ ∃ r ∈ rs, SubG (pd q r) x := by
 constructor
 ·rintro ⟨z, hz, rfl⟩
  refine (h.min (fun z => PlaceOk q z ∧ ∃ r ∈ rs, SubG (pd q r) (pd q z)) (fun r hm => ⟨hr r hm, r, hm, .self⟩) (fun z hz ⟨_, r, hm, hs⟩ o ho => ⟨(opts_pl hok hz ho).1, r, hm, ?_⟩) z hz).2
  rcases List.mem_append.1 ho with h3 | h3
  ·exact hs.left ((lo_pd hok hz).2 ⟨o, h3, rfl⟩)
  ·exact hs.right ((ro_pd hok hz).2 ⟨o, h3, rfl⟩)
 ·rintro ⟨r, hm, hs⟩
  have cl : ∀ z ∈ list, ∀ o ∈ optsQ q z, o ∈ list := fun z hz o ho => by
   obtain ⟨j, hj, e⟩ := List.getElem_of_mem hz
   exact h.cl j hj o (by rw [show list.getD j 0 = z by simp [List.getD, hj, e]]; exact ho)
  induction hs with
  | self => exact ⟨r, h.root r hm, rfl⟩
  | left _ hl ih =>
   obtain ⟨z, hz, rfl⟩ := ih
   obtain ⟨o, ho, e⟩ := (lo_pd hok (h.pl z hz)).1 hl
   exact ⟨o, cl z hz o (List.mem_append_left _ ho), e.symm⟩
  | right _ hl ih =>
   obtain ⟨z, hz, rfl⟩ := ih
   obtain ⟨o, ho, e⟩ := (ro_pd hok (h.pl z hz)).1 hl
   exact ⟨o, cl z hz o (List.mem_append_right _ ho), e.symm⟩
theorem sg_sub {ns : List Nd} (h : SG ns) {x : Nat} : (∃ k, k < ns.length ∧ den ns k = x) ↔ SubG (gOf ns) x := by
 have hlo := h.lo
 constructor
 ·have key : ∀ n k, ns.length - k ≤ n → k < ns.length → SubG (gOf ns) (den ns k) := by
   intro n
   induction n with
   | zero => intro k h1 h2; omega
   | succ n ih =>
    intro k h1 h2
    by_cases hk : k + 1 < ns.length
    ·obtain ⟨i, hki, hi, hz⟩ := h.last k hk
     have := ih i (by omega) hi
     rcases hz with hz | hz
     ·exact this.left ((qV h.opts hi).2 ⟨_, hz, rfl⟩)
     ·exact this.right ((qU h.opts hi).2 ⟨_, hz, rfl⟩)
    ·have : k = ns.length - 1 := by omega
     subst this; exact .self
  rintro ⟨k, hk, rfl⟩
  exact key _ k (Nat.le_refl _) hk
 ·intro hs
  induction hs with
  | self => exact ⟨ns.length - 1, by omega, rfl⟩
  | left _ hl ih =>
   obtain ⟨k, hk, rfl⟩ := ih
   obtain ⟨o, ho, e⟩ := (qV h.opts hk).1 hl
   have := (xK h.opts hk).1 o ho
   exact ⟨o.toNat, by omega, e.symm⟩
  | right _ hl ih =>
   obtain ⟨k, hk, rfl⟩ := ih
   obtain ⟨o, ho, e⟩ := (qU h.opts hk).1 hl
   have := (xK h.opts hk).2 o ho
   exact ⟨o.toNat, by omega, e.symm⟩
end Go.GL
namespace Go.GL
open Go Go.RowKit
def bn (q : PSt) (z : Int) : Int := q.bs.getD z.toNat 0
def rkI (rk : List (Int × Int)) (o : Int) : Int := (look rk o).getD 0
structure NodeOf (q : PSt) (list : List Int) (m : Nat) (z : Int) (x : Nd) : Prop where
 lp : x.l.Pairwise (· < ·)
 rp : x.r.Pairwise (· < ·)
 l1 : ∀ j ∈ x.l, ∃ i : Nat, i < m ∧ j = (i : Int) ∧ list.getD i 0 ∈ (q.ns.getD z.toNat default).l
 l2 : ∀ o ∈ (q.ns.getD z.toNat default).l, ∃ i : Nat, i < m ∧ (i : Int) ∈ x.l ∧ list.getD i 0 = o
 r1 : ∀ j ∈ x.r, ∃ i : Nat, i < m ∧ j = (i : Int) ∧ list.getD i 0 ∈ (q.ns.getD z.toNat default).r
 r2 : ∀ o ∈ (q.ns.getD z.toNat default).r, ∃ i : Nat, i < m ∧ (i : Int) ∈ x.r ∧ list.getD i 0 = o
theorem NodeOf.same {q : PSt} {list list' : List Int} {m m' : Nat} {z : Int} {x : Nd} (h : NodeOf q list m z x) (hm : m ≤ m') (hs : ∀ i, i < m → list'.getD i 0 = list.getD i 0) : NodeOf q list' m' z x := by
 refine ⟨h.lp, h.rp, fun j hj => ?_, fun o ho => ?_, fun j hj => ?_, fun o ho => ?_⟩
 ·obtain ⟨i, h1, h2, h3⟩ := h.l1 j hj; exact ⟨i, by omega, h2, by rw [hs i h1]; exact h3⟩
 ·obtain ⟨i, h1, h2, h3⟩ := h.l2 o ho; exact ⟨i, by omega, h2, by rw [hs i h1]; exact h3⟩
 ·obtain ⟨i, h1, h2, h3⟩ := h.r1 j hj; exact ⟨i, by omega, h2, by rw [hs i h1]; exact h3⟩
 ·obtain ⟨i, h1, h2, h3⟩ := h.r2 o ho; exact ⟨i, by omega, h2, by rw [hs i h1]; exact h3⟩
theorem sortM_lt {zs : List Int} (h : zs.Nodup) : (sortM zs).Pairwise (· < ·) := by
 have h1 := sortM_pw zs
 have h2 : (sortM zs).Nodup := (List.mergeSort_perm zs _).nodup_iff.2 h
 have h3 : (sortM zs).Pairwise fun a b => a ≤ b ∧ a ≠ b := h1.and h2
 exact h3.imp fun {a b} ⟨h4, h5⟩ => by omega
theorem nodup_map {l : List Int} {f : Int → Int} (h : l.Nodup) (hf : ∀ a ∈ l, ∀ b ∈ l, f a = f b → a = b) : (l.map f).Nodup := by
 unfold List.Nodup at h ⊢
 rw [List.pairwise_map]
 exact h.imp_of_mem fun {a b} ha hb hne e => hne (hf a ha b hb e)
theorem vC {l : List Int} (h : l.Pairwise (· < ·)) : l.Nodup := h.imp fun {a b} h e => by omega
theorem pJ {list l : List Int} {m : Nat} {rk : List (Int × Int)} (hl : l.Nodup) (ho : ∀ o ∈ l, ∃ i : Nat, i < m ∧ list.getD i 0 = o) (hr : ∀ i : Nat, i < m → look rk (list.getD i 0) = some (i : Int)) :
  (sortM (l.map (rkI rk))).Pairwise (· < ·) ∧ (∀ j ∈ sortM (l.map (rkI rk)), ∃ i : Nat, i < m ∧ j = (i : Int) ∧ list.getD i 0 ∈ l) ∧ (∀ o ∈ l, ∃ i : Nat, i < m ∧ (i : Int) ∈ sortM (l.map (rkI rk)) ∧ list.getD i 0 = o) := by
 have hv : ∀ o ∈ l, ∃ i : Nat, i < m ∧ list.getD i 0 = o ∧ rkI rk o = i := fun o h => by
  obtain ⟨i, h1, h2⟩ := ho o h
  refine ⟨i, h1, h2, ?_⟩
  have := hr i h1
  rw [h2] at this; unfold rkI; rw [this]; rfl
 refine ⟨sortM_lt (nodup_map hl fun a ha b hb e => ?_), fun j hj => ?_, fun o h => ?_⟩
 ·obtain ⟨i, _, h2, h3⟩ := hv a ha
  obtain ⟨i', _, h2', h3'⟩ := hv b hb
  have : i = i' := by omega
  rw [← h2, ← h2', this]
 ·obtain ⟨o, h1, rfl⟩ := List.mem_map.1 (mem_sortM.1 hj)
  obtain ⟨i, h2, h3, h4⟩ := hv o h1
  exact ⟨i, h2, h4, by rw [h3]; exact h1⟩
 ·obtain ⟨i, h2, h3, h4⟩ := hv o h
  exact ⟨i, h2, mem_sortM.2 (by rw [← h4]; exact List.mem_map_of_mem h), h3⟩
def rkN (rk : List (Int × Int)) (n : Nd) : Nd := ⟨sortM (n.l.map (rkI rk)), sortM (n.r.map (rkI rk))⟩
theorem rank_node {q : PSt} (hok : PoolOk q) {list : List Int} {m : Nat} {z : Int} {rk : List (Int × Int)} (hz : PlaceOk q z) (ho : ∀ o ∈ optsQ q z, ∃ i : Nat, i < m ∧ list.getD i 0 = o) (hr : ∀ i : Nat, i < m → look rk (list.getD i 0) = some (i : Int)) :
  NodeOf q list m z (rkN rk (q.ns.getD z.toNat default)) := by
 have hp := hok.ar.rise z.toNat (by have := hz.1; have := hz.2; omega)
 obtain ⟨a1, a2, a3⟩ := pJ (vC hp.1) (fun o h => ho o (List.mem_append_left _ h)) hr
 obtain ⟨b1, b2, b3⟩ := pJ (vC hp.2) (fun o h => ho o (List.mem_append_right _ h)) hr
 exact ⟨a1, b1, a2, a3, b2, b3⟩
theorem NodeOf.uniq {q : PSt} (hok : PoolOk q) {list : List Int} {m : Nat} {y z : Int} {x : Nd} (h : NodeOf q list m y x) (k : NodeOf q list m z x) (hy : PlaceOk q y) (hz : PlaceOk q z) : y = z := by
 have key : ∀ {y z : Int}, NodeOf q list m y x → NodeOf q list m z x → (∀ o ∈ (q.ns.getD y.toNat default).l, o ∈ (q.ns.getD z.toNat default).l) ∧ (∀ o ∈ (q.ns.getD y.toNat default).r, o ∈ (q.ns.getD z.toNat default).r) := fun {y z} h k => by
  refine ⟨fun o ho => ?_, fun o ho => ?_⟩
  ·obtain ⟨i, h1, h2, h3⟩ := h.l2 o ho
   obtain ⟨i', h4, h5, h6⟩ := k.l1 _ h2
   have : i = i' := by omega
   rw [← h3, this]; exact h6
  ·obtain ⟨i, h1, h2, h3⟩ := h.r2 o ho
   obtain ⟨i', h4, h5, h6⟩ := k.r1 _ h2
   have : i = i' := by omega
   rw [← h3, this]; exact h6
 have e : den q.ns y.toNat = den q.ns z.toNat := by
  rw [qW hok.ar.opts (by have := hy.1; have := hy.2; omega), qW hok.ar.opts (by have := hz.1; have := hz.2; omega)]
  refine fF (fun i => ?_) (fun i => ?_)
  ·simp only [List.mem_map]
   exact ⟨fun ⟨o, ho, e⟩ => ⟨o, (key h k).1 o ho, e⟩, fun ⟨o, ho, e⟩ => ⟨o, (key k h).1 o ho, e⟩⟩
  ·simp only [List.mem_map]
   exact ⟨fun ⟨o, ho, e⟩ => ⟨o, (key h k).2 o ho, e⟩, fun ⟨o, ho, e⟩ => ⟨o, (key k h).2 o ho, e⟩⟩
 have := hok.ar.inj (i := y.toNat) (j := z.toNat) (by have := hy.1; have := hy.2; omega) (by have := hz.1; have := hz.2; omega) e
 have := hy.1; have := hz.1; omega
structure OrI (q : PSt) (P list : List Int) (n : Nat) (nodes : List Nd) : Prop where
 perm : list.Perm P
 srt : ∀ i j, i < j → j < list.length → bn q (list.getD i 0) ≤ bn q (list.getD j 0)
 nl : n ≤ list.length
 cut : ∀ i j, i < n → n ≤ j → j < list.length → bn q (list.getD i 0) < bn q (list.getD j 0)
 len : nodes.length = n
 node : ∀ i, i < n → NodeOf q list n (list.getD i 0) (nodes.getD i default)
 asc : ∀ i j, i < j → j < n → bn q (list.getD i 0) < bn q (list.getD j 0) ∨ (bn q (list.getD i 0) = bn q (list.getD j 0) ∧ aheadI (nodes.getD i default) (nodes.getD j default) < 0)
def RkOk (list : List Int) (n : Nat) (rk : List (Int × Int)) : Prop := ∀ i : Nat, i < n → look rk (list.getD i 0) = some (i : Int)
section
variable {q : PSt} {rs P list : List Int} {n : Nat} {nodes : List Nd} {rk : List (Int × Int)}
theorem bn_opt (hok : PoolOk q) {z o : Int} (hz : PlaceOk q z) (ho : o ∈ optsQ q z) : bn q o < bn q z := by
 have hl := lower_of hok.ar.opts hok.ar.born z.toNat (by have := hz.1; have := hz.2; omega)
 unfold bn
 rcases List.mem_append.1 ho with h | h
 ·exact (hl.1 o h).2.2
 ·exact (hl.2 o h).2.2
theorem OrI.start (hp : list.Perm P) (hs : ∀ i j, i < j → j < list.length → bn q (list.getD i 0) ≤ bn q (list.getD j 0)) : OrI q P list 0 [] :=
 ⟨hp, hs, Nat.zero_le _, fun i _ hi => absurd hi (Nat.not_lt_zero i), rfl, fun i hi => absurd hi (Nat.not_lt_zero i), fun _ j _ hj => absurd hj (Nat.not_lt_zero j)⟩
theorem OrI.mem (h : OrI q P list n nodes) {z : Int} : z ∈ list ↔ z ∈ P := h.perm.mem_iff
theorem OrI.opts (h : OrI q P list n nodes) (hok : PoolOk q) (hP : PtOk q rs P P.length) {k : Nat} (hk : k < list.length) (hb : bn q (list.getD k 0) = bn q (list.getD n 0)) (hn : n < list.length) : ∀ o ∈ optsQ q (list.getD k 0), ∃ i : Nat, i < n ∧ list.getD i 0 = o := fun o ho => by
 have hz : list.getD k 0 ∈ P := h.mem.1 (yT hk)
 have hpz := hP.pl _ hz
 have hoP : o ∈ P := by
  obtain ⟨j, hj, e⟩ := List.getElem_of_mem hz
  exact hP.cl j hj o (by rw [show P.getD j 0 = list.getD k 0 by simp [List.getD, hj, e]]; exact ho)
 obtain ⟨p, hp, e⟩ := List.getElem_of_mem (h.mem.2 hoP)
 have e2 : list.getD p 0 = o := by simp [List.getD, hp, e]
 refine ⟨p, ?_, e2⟩
 have h1 := bn_opt hok hpz ho
 by_cases hpn : p < n
 ·exact hpn
 ·exfalso
  by_cases he : p = n
  ·subst he; rw [← e2] at h1; omega
  ·have := h.srt n p (by omega) hp
   rw [← e2] at h1; omega
structure GrI (q : PSt) (list : List Int) (n : Nat) (es : List (Int × Nd)) : Prop where
 le : n + es.length ≤ list.length
 at_ : ∀ i, i < es.length → (es.getD i default).1 = list.getD (n + i) 0 ∧ bn q (list.getD (n + i) 0) = bn q (list.getD n 0) ∧ NodeOf q list n (es.getD i default).1 (es.getD i default).2
theorem GrI.start (h : OrI q P list n nodes) : GrI q list n [] := ⟨by simpa using h.nl, fun i hi => absurd hi (Nat.not_lt_zero i)⟩
theorem getD_snoc2 {α : Type} {l : List α} {x d : α} {i : Nat} (h : i < (l ++ [x]).length) : (l ++ [x]).getD i d = if i < l.length then l.getD i d else x := by
 by_cases hi : i < l.length
 ·rw [if_pos hi, yU hi]
 ·rw [if_neg hi]
  have : i = l.length := by simp at h; omega
  subst this; simp [List.getD]
theorem GrI.step {es : List (Int × Nd)} (h : GrI q list n es) (ho : OrI q P list n nodes) (hok : PoolOk q) (hP : PtOk q rs P P.length) (hr : RkOk list n rk) (hk : n + es.length < list.length) (hb : bn q (list.getD (n + es.length) 0) = bn q (list.getD n 0)) :
  GrI q list n (es ++ [(list.getD (n + es.length) 0, rkN rk (q.ns.getD (list.getD (n + es.length) 0).toNat default))]) := by
 refine ⟨by simp; omega, fun i hi => ?_⟩
 rw [getD_snoc2 hi]
 by_cases h1 : i < es.length
 ·rw [if_pos h1]; exact h.at_ i h1
 ·rw [if_neg h1]
  have : i = es.length := by simp at hi; omega
  subst this
  have hz := hP.pl _ (ho.mem.1 (yT (d := (0 : Int)) hk))
  exact ⟨rfl, hb, rank_node hok hz (ho.opts hok hP hk hb (by omega)) hr⟩
theorem GrI.mid {es : List (Int × Nd)} (h : GrI q list n es) : list = list.take n ++ es.map (·.1) ++ list.drop (n + es.length) := by
 have hl := h.le
 apply List.ext_getElem
 ·simp; omega
 ·intro i h1 h2
  by_cases c1 : i < n
  ·rw [List.getElem_append_left (by simp; omega), List.getElem_append_left (by simp; omega), List.getElem_take]
  ·by_cases c2 : i < n + es.length
   ·rw [List.getElem_append_left (by simp; omega), List.getElem_append_right (by simp; omega), List.getElem_map]
    have := (h.at_ (i - n) (by omega)).1
    simp only [List.length_take]
    have e1 : i - min n list.length = i - n := by omega
    have e2 : n + (i - n) = i := by omega
    rw [e2] at this
    simp only [e1]
    simp [List.getD, show i - n < es.length by omega, h1] at this
    exact this.symm
   ·rw [List.getElem_append_right (by simp; omega), List.getElem_drop]
    congr 1
    simp; omega
def regroup (list : List Int) (n : Nat) (es : List (Int × Nd)) : List Int := list.take n ++ es.map (·.1) ++ list.drop (n + es.length)
theorem vM {es : List (Int × Nd)} (h : n + es.length ≤ list.length) : (regroup list n es).length = list.length := by
 unfold regroup; simp; omega
theorem xZ {es : List (Int × Nd)} (h : n + es.length ≤ list.length) {i : Nat} (hi : i < n) : (regroup list n es).getD i 0 = list.getD i 0 := by
 unfold regroup
 rw [List.append_assoc, yU (by simp; omega), vJ hi]
theorem jX {es : List (Int × Nd)} (h : n + es.length ≤ list.length) {i : Nat} (hi : i < es.length) : (regroup list n es).getD (n + i) 0 = (es.getD i default).1 := by
 unfold regroup
 rw [yU (by simp; omega)]
 simp only [List.getD]
 rw [List.getElem?_append_right (by simp; omega)]
 have : n + i - (list.take n).length = i := by simp; omega
 rw [this, List.getElem?_map]
 simp [hi]
theorem gA {es : List (Int × Nd)} (h : n + es.length ≤ list.length) {i : Nat} (hi : n + es.length ≤ i) : (regroup list n es).getD i 0 = list.getD i 0 := by
 unfold regroup
 simp only [List.getD]
 rw [List.getElem?_append_right (by simp; omega), List.getElem?_drop]
 congr 2
 simp; omega
theorem gN {es es' : List (Int × Nd)} (h : GrI q list n es) (hp : es'.Perm es) : (regroup list n es').Perm list := by
 have e := h.mid
 have hl := hp.length_eq
 unfold regroup
 rw [hl]
 exact List.Perm.trans (List.Perm.append_right _ (List.Perm.append_left _ (hp.map _))) (by rw [← e])
theorem OrI.group {es es' : List (Int × Nd)} (h : OrI q P list n nodes) (hok : PoolOk q) (hP : PtOk q rs P P.length) (hg : GrI q list n es) (hn : n < list.length) (hend : n + es.length = list.length ∨ bn q (list.getD (n + es.length) 0) ≠ bn q (list.getD n 0))
  (hp : es'.Perm es) (hs : ∀ i j, i < j → j < es'.length → ¬ aheadI (es'.getD j default).2 (es'.getD i default).2 < 0) : OrI q P (regroup list n es') (n + es'.length) (nodes ++ es'.map (·.2)) := by
 have hl := hp.length_eq
 have hgl := hg.le
 rw [← hl] at hgl hend
 have hrl := vM hgl
 have hrp := gN hg hp
 have hat : ∀ i, i < es'.length → ∃ j, j < es.length ∧ es'.getD i default = es.getD j default := fun i hi => by
  have : es'.getD i default ∈ es := hp.mem_iff.1 (yT hi)
  obtain ⟨j, hj, e⟩ := List.getElem_of_mem this
  exact ⟨j, hj, by rw [← e]; simp [List.getD, hj]⟩
 have hbm : ∀ i, i < es'.length → bn q ((regroup list n es').getD (n + i) 0) = bn q (list.getD n 0) ∧ NodeOf q list n (es'.getD i default).1 (es'.getD i default).2 ∧ PlaceOk q (es'.getD i default).1 := fun i hi => by
  rw [jX hgl hi]
  obtain ⟨j, hj, e⟩ := hat i hi
  rw [e]
  obtain ⟨h1, h2, h3⟩ := hg.at_ j hj
  exact ⟨by rw [h1]; exact h2, h3, by rw [h1]; exact hP.pl _ (h.mem.1 (yT (by omega)))⟩
 have hhi : ∀ j, n + es'.length ≤ j → j < list.length → bn q (list.getD n 0) < bn q (list.getD j 0) := fun j h1 h2 => by
  have h3 : bn q (list.getD (n + es'.length) 0) ≠ bn q (list.getD n 0) := hend.resolve_left (by omega)
  have h4 : bn q (list.getD n 0) ≤ bn q (list.getD (n + es'.length) 0) := by
   by_cases h0 : es'.length = 0
   ·rw [h0]; exact Int.le_refl _
   ·exact h.srt _ _ (by omega) (by omega)
  by_cases h5 : n + es'.length = j
  ·subst h5; omega
  ·have := h.srt _ _ (show n + es'.length < j by omega) h2; omega
 have hlo : ∀ i, i < n → bn q (list.getD i 0) < bn q (list.getD n 0) := fun i hi => h.cut i n hi (Nat.le_refl _) hn
 have hnd : (nodes ++ es'.map (·.2)).length = n + es'.length := by simp [h.len]
 have hnm : ∀ i, i < es'.length → (nodes ++ es'.map (·.2)).getD (n + i) default = (es'.getD i default).2 := fun i hi => by
  simp only [List.getD]
  rw [List.getElem?_append_right (by rw [h.len]; omega), h.len, List.getElem?_map]
  simp [hi]
 have hnl : ∀ i, i < n → (nodes ++ es'.map (·.2)).getD i default = nodes.getD i default := fun i hi => yU (by rw [h.len]; exact hi)
 have hndp : (regroup list n es').Nodup := hrp.nodup_iff.2 (h.perm.nodup_iff.2 hP.nd)
 refine ⟨hrp.trans h.perm, fun i j hij hj => ?_, by omega, fun i j hi hj hjl => ?_, hnd, fun i hi => ?_, fun i j hij hj => ?_⟩
 ·rw [hrl] at hj
  by_cases c1 : j < n
  ·rw [xZ hgl c1, xZ hgl (by omega)]; exact h.srt i j hij hj
  ·by_cases c2 : j < n + es'.length
   ·have e := (hbm (j - n) (by omega)).1
    rw [show n + (j - n) = j by omega] at e
    rw [e]
    by_cases c3 : i < n
    ·rw [xZ hgl c3]; exact Int.le_of_lt (hlo i c3)
    ·have e := (hbm (i - n) (by omega)).1
     rw [show n + (i - n) = i by omega] at e
     rw [e]; exact Int.le_refl _
   ·rw [gA hgl (i := j) (by omega)]
    have := hhi j (by omega) hj
    by_cases c3 : i < n
    ·rw [xZ hgl c3]; have := hlo i c3; omega
    ·by_cases c4 : i < n + es'.length
     ·have e := (hbm (i - n) (by omega)).1
      rw [show n + (i - n) = i by omega] at e
      rw [e]; omega
     ·rw [gA hgl (i := i) (by omega)]; exact h.srt i j hij hj
 ·rw [hrl] at hjl
  rw [gA hgl (i := j) hj]
  have := hhi j hj hjl
  by_cases c3 : i < n
  ·rw [xZ hgl c3]; have := hlo i c3; omega
  ·have e := (hbm (i - n) (by omega)).1
   rw [show n + (i - n) = i by omega] at e
   rw [e]; omega
 ·by_cases c1 : i < n
  ·rw [xZ hgl c1, hnl i c1]
   exact (h.node i c1).same (by omega) fun p hp => xZ hgl hp
  ·have e := hnm (i - n) (by omega)
   have e2 := jX hgl (i := i - n) (by omega)
   rw [show n + (i - n) = i by omega] at e e2
   rw [e, e2]
   exact (hbm (i - n) (by omega)).2.1.same (by omega) fun p hp => xZ hgl hp
 ·by_cases c1 : j < n
  ·rw [xZ hgl c1, xZ hgl (show i < n by omega), hnl j c1, hnl i (by omega)]; exact h.asc i j hij c1
  ·have ej := (hbm (j - n) (by omega)).1
   rw [show n + (j - n) = j by omega] at ej
   by_cases c3 : i < n
   ·left; rw [ej, xZ hgl c3]; exact hlo i c3
   ·have ei := (hbm (i - n) (by omega)).1
    rw [show n + (i - n) = i by omega] at ei
    right
    refine ⟨by rw [ei, ej], ?_⟩
    have n1 := hnm (i - n) (by omega)
    have n2 := hnm (j - n) (by omega)
    rw [show n + (i - n) = i by omega] at n1
    rw [show n + (j - n) = j by omega] at n2
    rw [n1, n2]
    have h1 := hs (i - n) (j - n) (by omega) (by omega)
    rw [jG] at h1
    have h2 : aheadI (es'.getD (i - n) default).2 (es'.getD (j - n) default).2 ≠ 0 := fun e => by
     have e1 := ahead_zero.1 e
     obtain ⟨_, b1, b2⟩ := hbm (i - n) (by omega)
     obtain ⟨_, d1, d2⟩ := hbm (j - n) (by omega)
     rw [e1] at b1
     have e3 := b1.uniq hok d1 b2 d2
     have g1 := jX hgl (i := i - n) (by omega)
     have g2 := jX hgl (i := j - n) (by omega)
     rw [show n + (i - n) = i by omega] at g1
     rw [show n + (j - n) = j by omega] at g2
     have := List.pairwise_iff_getElem.1 hndp i j (by omega) (by omega) hij
     apply this
     have q1 : (regroup list n es').getD i 0 = (regroup list n es')[i]'(by omega) := by simp [List.getD, show i < (regroup list n es').length by omega]
     have q2 : (regroup list n es').getD j 0 = (regroup list n es')[j]'(by omega) := by simp [List.getD, show j < (regroup list n es').length by omega]
     rw [← q1, ← q2, g1, g2, e3]
    omega
theorem OrI.low (h : OrI q P list list.length nodes) (hok : PoolOk q) (hP : PtOk q rs P P.length) {i p : Nat} (hi : i < list.length) (hp : p < list.length) (ho : list.getD p 0 ∈ optsQ q (list.getD i 0)) : p < i := by
 have h1 := bn_opt hok (hP.pl _ (h.mem.1 (yT (d := (0 : Int)) hi))) ho
 by_cases hlt : p < i
 ·exact hlt
 ·exfalso
  by_cases he : p = i
  ·subst he; omega
  ·have := h.srt i p (by omega) hp; omega
theorem OrI.book (h : OrI q P list list.length nodes) (hok : PoolOk q) (hP : PtOk q rs P P.length) : Wf nodes ∧ SortedB nodes (births nodes) ∧ (∀ i, i < nodes.length → den nodes i = pd q (list.getD i 0)) ∧ (∀ i, i < nodes.length → (births nodes).getD i 0 = bn q (list.getD i 0)) := by
 have hlen := h.len
 have hll : list.length ≤ q.ns.length := by rw [h.perm.length_eq]; exact hP.len
 have hlim := hok.ar.ok.lim
 have hbnd : ∀ i, i < nodes.length → (∀ z ∈ (nodes.getD i default).l, 0 ≤ z ∧ z < (i : Int)) ∧ (∀ z ∈ (nodes.getD i default).r, 0 ≤ z ∧ z < (i : Int)) := fun i hi => by
  have hn := h.node i (by omega)
  constructor
  ·intro z hz
   obtain ⟨p, h1, h2, h3⟩ := hn.l1 z hz
   have := h.low hok hP (show i < list.length by omega) h1 (List.mem_append_left _ h3)
   omega
  ·intro z hz
   obtain ⟨p, h1, h2, h3⟩ := hn.r1 z hz
   have := h.low hok hP (show i < list.length by omega) h1 (List.mem_append_right _ h3)
   omega
 have hoo : OptsOk nodes := fun i n hn => by
  obtain ⟨hi, rfl⟩ := List.getElem?_eq_some_iff.1 hn
  have := hbnd i hi
  have e : nodes.getD i default = nodes[i] := by simp [List.getD, hi]
  rw [e] at this; exact this
 have hnl : ∀ i, i < nodes.length → (nodes.getD i default).l.length ≤ 1048576 ∧ (nodes.getD i default).r.length ≤ 1048576 := fun i hi => by
  have hn := h.node i (by omega)
  have hb := hbnd i hi
  exact ⟨Nat.le_trans (qY i _ (vC hn.lp) hb.1) (by omega), Nat.le_trans (qY i _ (vC hn.rp) hb.2) (by omega)⟩
 have wf : Wf nodes := ⟨⟨by omega, hoo, hnl⟩, fun i hi => by
  have hn := h.node i (by omega)
  have hb := hbnd i hi
  exact ⟨rW hn.lp fun z hz => by have := hb.1 z hz; omega, rW hn.rp fun z hz => by have := hb.2 z hz; omega⟩⟩
 have hden : ∀ i, i < nodes.length → den nodes i = pd q (list.getD i 0) := by
  intro i
  induction i using Nat.strongRecOn with
  | _ i ih =>
   intro hi
   have hn := h.node i (by omega)
   have hz := hP.pl _ (h.mem.1 (yT (d := (0 : Int)) (show i < list.length by omega)))
   have hb := hbnd i hi
   unfold pd
   rw [eA hi hb.1 hb.2, qW hok.ar.opts (show (list.getD i 0).toNat < q.ns.length by have := hz.1; have := hz.2; omega)]
   refine fF (fun g => ?_) (fun g => ?_)
   ·rw [List.mem_map, List.mem_map]
    constructor
    ·rintro ⟨z, hz, rfl⟩
     obtain ⟨p, h1, h2, h3⟩ := hn.l1 z hz
     have := (hb.1 z hz).2
     exact ⟨_, h3, by rw [show z.toNat = p by omega, ih p (by omega) (by omega)]; rfl⟩
    ·rintro ⟨o, ho, rfl⟩
     obtain ⟨p, h1, h2, h3⟩ := hn.l2 o ho
     have := (hb.1 _ h2).2
     exact ⟨_, h2, by rw [Int.toNat_natCast, ih p (by omega) (by omega), h3]; rfl⟩
   ·rw [List.mem_map, List.mem_map]
    constructor
    ·rintro ⟨z, hz, rfl⟩
     obtain ⟨p, h1, h2, h3⟩ := hn.r1 z hz
     have := (hb.2 z hz).2
     exact ⟨_, h3, by rw [show z.toNat = p by omega, ih p (by omega) (by omega)]; rfl⟩
    ·rintro ⟨o, ho, rfl⟩
     obtain ⟨p, h1, h2, h3⟩ := hn.r2 o ho
     have := (hb.2 _ h2).2
     exact ⟨_, h2, by rw [Int.toNat_natCast, ih p (by omega) (by omega), h3]; rfl⟩
 have hborn : ∀ i, i < nodes.length → (births nodes).getD i 0 = bn q (list.getD i 0) := by
  intro i
  induction i using Nat.strongRecOn with
  | _ i ih =>
   intro hi
   have hn := h.node i (by omega)
   have hz := hP.pl _ (h.mem.1 (yT (d := (0 : Int)) (show i < list.length by omega)))
   have hb := hbnd i hi
   have e1 := (xX hoo).2 i hi
   have e2 := hok.ar.born.2 (list.getD i 0).toNat (by have := hz.1; have := hz.2; omega)
   unfold bn
   apply Int.le_antisymm
   ·rw [e1, putBorn_le]
    have h0 := tG hok.ar.born (z := (list.getD i 0).toNat) (by have := hz.1; have := hz.2; omega)
    have hp := putBorn_le.1 (Int.le_of_eq e2.symm)
    refine ⟨h0, fun z hz => ?_, fun z hz => ?_⟩
    ·obtain ⟨p, h1, h2, h3⟩ := hn.l1 z hz
     have := (hb.1 z hz).2
     rw [show z.toNat = p by omega, ih p (by omega) (by omega)]
     exact hp.2.1 _ h3
    ·obtain ⟨p, h1, h2, h3⟩ := hn.r1 z hz
     have := (hb.2 z hz).2
     rw [show z.toNat = p by omega, ih p (by omega) (by omega)]
     exact hp.2.2 _ h3
   ·rw [e2, putBorn_le]
    have h0 := tG (xX hoo) hi
    have hp := putBorn_le.1 (Int.le_of_eq e1.symm)
    refine ⟨h0, fun o ho => ?_, fun o ho => ?_⟩
    ·obtain ⟨p, h1, h2, h3⟩ := hn.l2 o ho
     have := (hb.1 _ h2).2
     have h4 := hp.2.1 _ h2
     rw [Int.toNat_natCast, ih p (by omega) (by omega), h3] at h4
     exact h4
    ·obtain ⟨p, h1, h2, h3⟩ := hn.r2 o ho
     have := (hb.2 _ h2).2
     have h4 := hp.2.2 _ h2
     rw [Int.toNat_natCast, ih p (by omega) (by omega), h3] at h4
     exact h4
 refine ⟨wf, fun i j hij hj => ?_, hden, hborn⟩
 rw [hborn i (by omega), hborn j hj]
 exact h.asc i j hij (by omega)
theorem OrI.form {r : Int} (h : OrI q P list list.length nodes) (hok : PoolOk q) (hP : PtOk q [r] P P.length) : IsForm (pd q r) nodes := by
 obtain ⟨wf, srt, hden, hborn⟩ := h.book hok hP
 have hlen := h.len
 have hrm : r ∈ list := h.mem.2 (hP.root r (by simp))
 have hpos : 1 ≤ list.length := List.length_pos_of_mem hrm
 have hex : ∀ z ∈ P, z = r ∨ ∃ y ∈ P, z ∈ optsQ q y := fun z hz => by
  have clP : ∀ y ∈ P, ∀ o ∈ optsQ q y, o ∈ P := fun y hy o ho => by
   obtain ⟨j, hj, e⟩ := List.getElem_of_mem hy
   exact hP.cl j hj o (by rw [show P.getD j 0 = y by simp [List.getD, hj, e]]; exact ho)
  exact (hP.min (fun z => z ∈ P ∧ (z = r ∨ ∃ y ∈ P, z ∈ optsQ q y)) (fun x hx => by
   have : x = r := by simpa using hx
   subst this
   exact ⟨hP.root _ (by simp), Or.inl rfl⟩) (fun z _ ⟨h1, _⟩ o ho => ⟨clP z h1 o ho, Or.inr ⟨z, h1, ho⟩⟩) z hz).2
 have hlater : ∀ k, k < list.length → list.getD k 0 ≠ r → ∃ j, k < j ∧ j < list.length ∧ list.getD k 0 ∈ optsQ q (list.getD j 0) := fun k hk hne => by
  rcases hex _ (h.mem.1 (yT (d := (0 : Int)) hk)) with h1 | ⟨y, hy, ho⟩
  ·exact absurd h1 hne
  ·obtain ⟨j, hj, e⟩ := List.getElem_of_mem (h.mem.2 hy)
   have e2 : list.getD j 0 = y := by simp [List.getD, hj, e]
   rw [← e2] at ho
   exact ⟨j, h.low hok hP hj hk ho, hj, ho⟩
 have hlast : list.getD (list.length - 1) 0 = r := by
  apply Classical.byContradiction
  intro hne
  obtain ⟨j, h1, h2, _⟩ := hlater (list.length - 1) (by omega) hne
  omega
 refine ⟨⟨by omega, wf, srt, fun k hk => ?_⟩, ?_⟩
 ·have hne : list.getD k 0 ≠ r := fun e => by
   have hnd : list.Nodup := h.perm.nodup_iff.2 hP.nd
   have := List.pairwise_iff_getElem.1 hnd k (list.length - 1) (by omega) (by omega) (by omega)
   apply this
   have q1 : list.getD k 0 = list[k]'(by omega) := by simp [List.getD, show k < list.length by omega]
   have q2 : list.getD (list.length - 1) 0 = list[list.length - 1]'(by omega) := by simp [List.getD, show list.length - 1 < list.length by omega]
   rw [← q1, ← q2, e, hlast]
  obtain ⟨j, h1, h2, h3⟩ := hlater k (by omega) hne
  refine ⟨j, h1, by omega, ?_⟩
  have hn := h.node j h2
  have hnd : list.Nodup := h.perm.nodup_iff.2 hP.nd
  have pos : ∀ p, p < list.length → list.getD p 0 = list.getD k 0 → p = k := fun p hp e => by
   have q1 : list.getD p 0 = list[p]'hp := by simp [List.getD, hp]
   have q2 : list.getD k 0 = list[k]'(by omega) := by simp [List.getD, show k < list.length by omega]
   rw [q1, q2] at e
   rcases Nat.lt_trichotomy p k with h6 | h6 | h6
   ·exact absurd e (List.pairwise_iff_getElem.1 hnd p k hp (by omega) h6)
   ·exact h6
   ·exact absurd e.symm (List.pairwise_iff_getElem.1 hnd k p (by omega) hp h6)
  rcases List.mem_append.1 h3 with h3 | h3
  ·obtain ⟨p, g1, g2, g3⟩ := hn.l2 _ h3
   have := pos p g1 g3; subst this; exact Or.inl g2
  ·obtain ⟨p, g1, g2, g3⟩ := hn.r2 _ h3
   have := pos p g1 g3; subst this; exact Or.inr g2
 ·unfold gOf
  rw [hden _ (by omega), hlen, hlast]
end
noncomputable def formG (g : Nat) : List Nd := @dite _ (∃ ns, IsForm g ns) (Classical.propDecidable _) (fun h => Classical.choose h) (fun _ => [])
theorem IsForm.eq {g : Nat} {ns : List Nd} (h : IsForm g ns) : formG g = ns := by
 have hx : ∃ ns, IsForm g ns := ⟨ns, h⟩
 unfold formG
 rw [dif_pos hx]
 exact (Classical.choose_spec hx).unique h
theorem form_eq {ns : List Nd} {bs : List Int} (h : Ar ns bs) {m : Nat} (hm : m < ns.length) : formM ns bs m = formG (den ns m) :=
 (IsForm.eq (g := den ns m) ⟨(rY h hm).1, (rY h hm).2.1⟩).symm
end Go.GL
namespace Go.GL
open Go Go.RowKit Go.Sort Go.Lib
theorem grow_of {w w' : World} (h : Below w.heap.size w w') (hd : w.drawn ≤ w'.drawn) : ∃ q os, w' = Go.Sort.grow (w.drewN q) os := by
 obtain ⟨p, hp⟩ := Go.regrown_of_below h
 have e : w'.drawn = p.d := by rw [hp]; rfl
 refine ⟨p.d - w.drawn, p.os, ?_⟩
 have e2 : Go.redrawn w p.d = w.drewN (p.d - w.drawn) := by
  show ({ w with drawn := p.d } : World) = { w with drawn := w.drawn + (p.d - w.drawn) }
  rw [show w.drawn + (p.d - w.drawn) = p.d by omega]
 rw [e2] at hp
 exact hp
section
variable {P : Program} {ρ : Operand → Value} {w : World} {K : Value → World → Prop} {d : Option Nat} {t ty e : Nat} {pos : String} {aft : Array Edge} {g : Option (Nat × Bool)} {x : Operand} {G : Pin}
theorem o_boxd (cs : List Value) {v : Value} (hx : ρ x = v) (hc : v.cells.toList = cs) (hP : Pins G w)
  (h : ∀ b w', w'.drawn = w.drawn → b = w.heap.size → Bx G w' b cs → Pins G w' → Below w.heap.size w w' → K (.pointer (some ⟨b, 0, none⟩)) w') : EO P ρ ⟨d, .box t x, ty, pos, aft, g⟩ w K := by
 obtain ⟨h1, h2, h3⟩ := newBox (w := w) cs t hP
 have hcs : v.cells = cs.toArray := by rw [← hc]
 refine EO.run ?_ (h _ (w.alloc (.cells cs.toArray t)) rfl rfl h1 h2 h3)
 simp [execOp, hx, Instr.box, newVar, newRow, hcs]
theorem r_makeFunc {fn : Fn} {caps : Array Operand} (vs : List Value) (hc : caps.toList.map ρ = vs) : (execOp ρ ⟨d, .makeFunc fn #[] caps, ty, pos, aft, g⟩).run P w = .ok (.value (.func fn #[] vs.toArray)) w := by
 have h2 : caps.map ρ = vs.toArray := by rw [← hc, ← Array.toList_map]
 simp [execOp, Instr.makeFunc, h2]
variable {α : Type} {E : Elt α}
theorem o_buildFd {n : Nat} {parts : Array (Nat × Operand)} (vs : List Value) (ys : List α) {z : Value} (ht : P.underlying t = some (.slice e)) (hs : (P.info? e).map (·.size) = some 1) (hz : (P.info? e).bind (·.zero) = some z)
  (hr : RepsF E G vs ys) (hone : ∀ u ∈ vs, u.oneCell' = true) (hn : n = vs.length) (hn2 : n = ys.length) (hE : E.size = 1)
  (hpt' : (parts.toList.map fun (i, x) => (i, ρ x)) = (vs.zipIdx 0).map fun x => (x.2, x.1)) (hpos : 0 < n ∧ n ≤ 1000000) (hP : Pins G w)
  (h : ∀ v w', w'.drawn = w.drawn → Own E e G w' w.heap.size v ys → Pins G w' → Below w.heap.size w w' → v.ownBlock = some w.heap.size → K v w') : EO P ρ ⟨d, .buildSlice t n parts, ty, pos, aft, g⟩ w K := by
 have hpt := (Array.toList_map ..).trans hpt'
 obtain ⟨inf, hinf, hsz⟩ := Option.map_eq_some_iff.1 hs
 have hzz : inf.zero = some z := by simpa [hinf] using hz
 have hrun := run_buildSlice (P := P) w t e n (parts.map fun (i, x) => (i, ρ x)) vs.toArray inf z ht hinf hzz (by rw [hsz]; omega) (by rw [hsz]; omega)
  (by rw [hpt, hsz]; exact Great.fill_flat _ _ (fun v hv => xE (hone v hv)) (by simp [hn]))
 obtain ⟨v, w', h1, h2, h3, h4, h5⟩ := run_build (E := E) (d := d) (ty := ty) (pos := pos) (aft := aft) (g := g) n parts vs ys hrun hP hn2 (by omega) (by rw [hE]; omega) (fun i y hy => by
  obtain ⟨v, hv, hrep⟩ := hr i y hy
  have : (vs.drop (i * E.size)).take E.size = [v] := by
   rw [hE, Nat.mul_one]
   apply List.ext_getElem?
   intro j
   rw [List.getElem?_take, List.getElem?_drop]
   match j with
   | 0 => simpa using hv
   | j + 1 => simp
  rw [this]; exact hrep)
 have h6 : (execOp ρ ⟨d, .buildSlice t n parts, ty, pos, aft, g⟩).run P w = .ok (.value (.slice (some ⟨w.heap.size, 0, none⟩) n n)) (w.alloc (.cells vs.toArray e)) := by
  simp only [execOp, Sem.run_bind, hrun, Result.andThen_ok]
  rfl
 have e1 : w'.drawn = w.drawn := by
  rw [h1] at h6; cases h6; rfl
 exact EO.run h1 (h v w' e1 h2 h3 h4 h5)
end
theorem own_cellsF {α : Type} {E : Elt α} {e base g n cap : Nat} {G : Pin} {w : World} {xs : List α} (h : Own E e G w base (.slice (some ⟨g, 0, none⟩) n cap) xs) :
  n = xs.length ∧ g < w.heap.size ∧ ∃ cells : List Value, cells.length = xs.length * E.size ∧ (∀ i x, xs[i]? = some x → E.rep G ((cells.drop (i * E.size)).take E.size) x) ∧ Holds id w g 0 cells.toArray := by
 obtain ⟨cells, ⟨hl, hown⟩, hr⟩ := h.ex
 rcases hown with ⟨he, _⟩ | ⟨g', cap', cur, he, hb, hg, hnc, hcm, hcs, htake⟩
 ·cases he
 ·simp only [Value.slice.injEq, Option.some.injEq, Addr.mk.injEq] at he
  obtain ⟨⟨rfl, _⟩, rfl, rfl⟩ := he
  refine ⟨rfl, (Array.getElem?_eq_some_iff.1 hg).1, cells, hl, hr, fun j hj => ?_⟩
  have hj' : j < cells.length := by simpa using hj
  have h3 : cells[j]? = some cells[j] := List.getElem?_eq_getElem hj'
  have h4 : cur[j]? = some cells[j] := by
   rw [← h3, ← htake, List.getElem?_take]
   rw [if_pos (by omega)]; simp
  refine ⟨?_, ?_⟩
  ·rw [cell_of_row w g _ cur e (0, 0) hg, Nat.zero_add, h4]
   simp [hj']
  ·simp [World.frozen?, hg]
theorem fI {w : World} {g m : Nat} {F : Array Value} {os : Array Obj} : w.grownBy (Go.Sort.grow (putRow id (Go.Sort.ahead w m) g 0 F) os) (some g) := by
 have hh : (Go.Sort.grow (putRow id (Go.Sort.ahead w m) g 0 F) os).heap = w.heap.modify g (onCells (putCells id 0 F)) ++ os := rfl
 exact ⟨rfl, rfl, rfl, by rw [hh]; simp, fun k hk hne => by
  rw [hh, Array.getElem?_append_left (by simpa using hk), Array.getElem?_modify, if_neg (fun e => hne (by rw [e]))]⟩
theorem own_putF {α : Type} {E : Elt α} {e base g n cap m : Nat} {G : Pin} {w w' : World} {xs ys : List α} {F : Array Value} {os : Array Obj} (h : Own E e G w base (.slice (some ⟨g, 0, none⟩) n cap) xs) (hP : Pins G w)
  (hw : w' = Go.Sort.grow (putRow id (Go.Sort.ahead w m) g 0 F) os) (hF : F.size = xs.length * E.size) (hy : ys.length = xs.length) (hrep : ∀ i y, ys[i]? = some y → E.rep G ((F.toList.drop (i * E.size)).take E.size) y) :
  Own E e G w' base (.slice (some ⟨g, 0, none⟩) n cap) ys ∧ Pins G w' ∧ w.grownBy w' (some g) := by
 obtain ⟨cells, ⟨hl, hown⟩, hr⟩ := h.ex
 have hfree := h.free
 rcases hown with ⟨he, _⟩ | ⟨g', cap', cur, he, hb, hg, hnc, hcm, hcs, htake⟩
 ·cases he
 ·simp only [Value.slice.injEq, Option.some.injEq, Addr.mk.injEq] at he
  obtain ⟨⟨rfl, _⟩, rfl, rfl⟩ := he
  have hlt : g < w.heap.size := (Array.getElem?_eq_some_iff.1 hg).1
  have hh : w'.heap = w.heap.modify g (onCells (putCells id 0 F)) ++ os := by subst hw; rfl
  have hat : w'.heap[g]? = some (.cells (putCells id 0 F cur) e (0, 0)) := by
   rw [hh, Array.getElem?_append_left (by simpa using hlt), Array.getElem?_modify, if_pos rfl, hg]; rfl
  have hgr : w.grownBy w' (some g) := by subst hw; exact fI
  have hle : xs.length * E.size ≤ cap * E.size := Nat.mul_le_mul_right _ hnc
  refine ⟨⟨⟨F.toList, ⟨by rw [hy]; simpa using hF, Or.inr ⟨g, cap, _, by rw [hy], hb, hat, by rw [hy]; exact hnc, hcm, by rw [putCells, Array.size_mapIdx, hcs], ?_⟩⟩, hrep⟩, hfree⟩, hP.grown hgr (fun k hk => by cases hk; exact hfree g rfl), hgr⟩
  apply List.ext_getElem?
  intro j
  simp only [List.getElem?_take, Array.getElem?_toList, putCells, Array.getElem?_mapIdx]
  by_cases hj : j < xs.length * E.size
  ·have hjc : j < cur.size := by rw [hcs]; omega
   rw [hy, if_pos hj, Array.getElem?_eq_getElem hjc, Option.map_some, if_pos (by omega), Array.getElem?_eq_getElem (show j < F.size by omega)]
   simp only [Nat.sub_zero, id]
   rw [getElem!_pos F j (by omega)]
  ·rw [hy, if_neg hj, Array.getElem?_eq_none (by omega)]
theorem chunkK {α : Type} [Inhabited α] {enc : α → List Value} {k : Nat} (hk : ∀ x, (enc x).length = k) {d : Array α} {i : Nat} (hi : i < d.size) : ((flatK enc k d).toList.drop (i * k)).take k = enc d[i]! := by
 have hb : i * k + k ≤ d.size * k := by
  have := Nat.mul_le_mul_right k (show i + 1 ≤ d.size from hi); rwa [Nat.add_mul, Nat.one_mul] at this
 apply List.ext_getElem?
 intro c
 rw [List.getElem?_take]
 by_cases hc : c < k
 ·rw [if_pos hc, List.getElem?_drop, Array.getElem?_toList, Array.getElem?_eq_getElem (by rw [size_flatK]; omega), List.getElem?_eq_getElem (by rw [hk]; exact hc)]
  have h1 := get_flatK enc k d (i * k + c) (by omega)
  rw [getElem!_pos _ _ (by rw [size_flatK]; omega)] at h1
  rw [h1]
  have e1 : (i * k + c) / k = i := by rw [Nat.add_comm, Nat.add_mul_div_right _ _ (by omega), Nat.div_eq_of_lt hc, Nat.zero_add]
  have e2 : (i * k + c) % k = c := by rw [Nat.add_comm, Nat.add_mul_mod_self_right, Nat.mod_eq_of_lt hc]
  rw [e1, e2, getElem!_pos _ _ (by rw [hk]; exact hc)]
 ·rw [if_neg hc, List.getElem?_eq_none (by rw [hk]; omega)]
theorem flatK_cells {α : Type} [Inhabited α] {enc : α → List Value} {k : Nat} {d : Array α} {cells : List Value} (hl : cells.length = d.size * k) (hr : ∀ i, i < d.size → (cells.drop (i * k)).take k = enc d[i]!) : flatK enc k d = cells.toArray := by
 apply Array.ext
 ·rw [size_flatK]; simpa using hl.symm
 ·intro t h1 h2
  rw [size_flatK] at h1
  have h3 := get_flatK enc k d t h1
  rw [getElem!_pos (flatK enc k d) t (by rw [size_flatK]; exact h1)] at h3
  rw [h3]
  have hk : 0 < k := by
   rcases Nat.eq_zero_or_pos k with h | h
   ·rw [h, Nat.mul_zero] at h1; omega
   ·exact h
  have hi : t / k < d.size := (Nat.div_lt_iff_lt_mul hk).2 h1
  have hm : t % k < k := Nat.mod_lt _ hk
  have h4 := congrArg (fun l : List Value => l[t % k]?) (hr (t / k) hi)
  simp only [List.getElem?_take, if_pos hm, List.getElem?_drop] at h4
  rw [show t / k * k + t % k = t by rw [Nat.mul_comm]; exact Nat.div_add_mod t k, List.getElem?_eq_getElem (by simpa using h2)] at h4
  have h5 : t % k < (enc d[t / k]!).length := by
   apply Classical.byContradiction
   intro hn
   rw [List.getElem?_eq_none (by omega)] at h4; cases h4
  rw [List.getElem?_eq_getElem h5] at h4
  rw [getElem!_pos (enc d[t / k]!) (t % k) h5]
  simpa using (Option.some.inj h4).symm
theorem mP {α β : Type} [Inhabited α] [Inhabited β] {enc : α → Value} {enc' : β → Value} {f : α → β} (he : ∀ x, enc x = enc' (f x)) (W : World) (g : Nat) (d : Array α) : putRow enc W g 0 d = putRow enc' W g 0 (d.map f) := by
 unfold putRow
 congr 1
 funext c
 unfold putCells
 apply Array.ext_getElem?
 intro k
 simp only [Array.getElem?_mapIdx, Array.size_map]
 cases c[k]? with
 | none => rfl
 | some y =>
  simp only [Option.map_some, Option.some.injEq]
  split
  ·rename_i h
   rw [getElem!_pos d (k - 0) (by omega), getElem!_pos (d.map f) (k - 0) (by simp; omega), Array.getElem_map, he]
  ·rfl
theorem holds_map {α β : Type} [Inhabited α] [Inhabited β] {enc : α → Value} {enc' : β → Value} {f : α → β} (he : ∀ x, enc x = enc' (f x)) {W : World} {g : Nat} {d : Array α} (h : Holds enc' W g 0 (d.map f)) : Holds enc W g 0 d := fun j hj => by
 have := h j (by simpa using hj)
 rw [getElem!_pos (d.map f) j (by simpa using hj), Array.getElem_map, ← he] at this
 rw [getElem!_pos d j hj]; exact this
theorem pO {α : Type} [Inhabited α] {d d' : Array α} (h : PermIn 0 d.size d d') : d'.size = d.size ∧ d'.toList.Perm d.toList := by
 obtain ⟨h1, _, h3⟩ := h
 refine ⟨h1, ?_⟩
 have e1 : d'.extract 0 d.size = d' := by rw [← h1]; simp
 have e2 : d.extract 0 d.size = d := by simp
 rw [e1, e2] at h3; exact h3
abbrev Plc (q : PSt) := { z : Int // PlaceOk q z }
def plcs (q : PSt) (zs : List Int) (h : ∀ z ∈ zs, PlaceOk q z) : List (Plc q) := zs.attach.map fun z => ⟨z.1, h z.1 z.2⟩
theorem plcs_val {q : PSt} {zs : List Int} (h : ∀ z ∈ zs, PlaceOk q z) : (plcs q zs h).map (·.1) = zs := by
 unfold plcs; rw [List.map_map]; simp [Function.comp_def]
def cfB (q : PSt) (x y : Plc q) : Int := cmpI (bn q x.1) (bn q y.1)
theorem ltB {q : PSt} {x y : Plc q} : Go.Proofs.ltOf (cfB q) x y = decide (bn q x.1 < bn q y.1) := by
 unfold Go.Proofs.ltOf cfB
 exact decide_eq_decide.2 tE
theorem swoB (q : PSt) : SWO (Go.Proofs.ltOf (cfB q)) where
 irrefl x := by rw [ltB]; simp
 trans x y z h1 h2 := by rw [ltB] at *; simp at *; omega
 ntrans x y z h1 h2 := by rw [ltB] at *; simp at *; omega
structure Ent where
 id : Int
 l : Value
 r : Value
 nd : Nd
instance : Inhabited Ent := ⟨⟨0, .slice none 0 0, .slice none 0 0, ⟨[], []⟩⟩⟩
def Ent.pr (x : Ent) : Value × Value := (x.l, x.r)
def Ent.gn (x : Ent) : Int × Nd := (x.id, x.nd)
def eEnt : Elt Ent where
 size := 3
 rep := fun _ cs x => cs = [.int .i64 x.id, x.l, x.r] ∧ x.l.oneCell' = true ∧ x.r.oneCell' = true
 mono := fun _ h => h
 len := fun h => by rw [h.1]; rfl
 one := fun h u hu => by
  rw [h.1] at hu; simp at hu
  rcases hu with rfl | rfl | rfl
  ·rfl
  ·exact h.2.1
  ·exact h.2.2
def lvE (es : List Ent) : List Leaf := es.flatMap fun x => [(x.l, x.nd.l), (x.r, x.nd.r)]
theorem lvE_mem {es : List Ent} {x : Ent} (h : x ∈ es) : (x.l, x.nd.l) ∈ lvE es ∧ (x.r, x.nd.r) ∈ lvE es := by
 unfold lvE
 exact ⟨List.mem_flatMap.2 ⟨x, h, by simp⟩, List.mem_flatMap.2 ⟨x, h, by simp⟩⟩
theorem lvE_app (a b : List Ent) : lvE (a ++ b) = lvE a ++ lvE b := by unfold lvE; rw [List.flatMap_append]
theorem lvE_perm {a b : List Ent} (h : a.Perm b) : (lvE a).Perm (lvE b) := List.Perm.flatMap_right _ h
theorem lvE_lvN : ∀ (es : List Ent), lvE es = lvN (es.map Ent.pr) (es.map Ent.nd)
 | [] => rfl
 | x :: es => by
  have := lvE_lvN es
  unfold lvE lvN at this ⊢
  simp only [List.flatMap_cons, List.map_cons, List.zip_cons_cons, Ent.pr, this]
def EntOk (G : Pin) (x : Ent) : Prop := RSl eInt G x.l x.nd.l ∧ RSl eInt G x.r x.nd.r ∧ x.l.oneCell' = true ∧ x.r.oneCell' = true
abbrev EntS (G : Pin) := { x : Ent // EntOk G x }
def encE {G : Pin} (x : EntS G) : List Value := [.int .i64 x.1.id, x.1.l, x.1.r]
def cfE {G : Pin} (x y : EntS G) : Int := orL [cmpL x.1.nd.l y.1.nd.l, cmpL x.1.nd.r y.1.nd.r]
def ents (G : Pin) (es : List Ent) (h : ∀ x ∈ es, EntOk G x) : List (EntS G) := es.attach.map fun x => ⟨x.1, h x.1 x.2⟩
theorem ents_val {G : Pin} {es : List Ent} (h : ∀ x ∈ es, EntOk G x) : (ents G es h).map (·.1) = es := by
 unfold ents; rw [List.map_map]; simp [Function.comp_def]
theorem ltE {G : Pin} {x y : EntS G} : Go.Proofs.ltOf cfE x y = decide (aheadI x.1.nd y.1.nd < 0) := rfl
theorem eM {a b c : Nd} (h : ¬ aheadI a b < 0) (k : ¬ aheadI b c < 0) : ¬ aheadI a c < 0 := fun hac => by
 rw [jG] at h k
 by_cases e1 : aheadI b a = 0
 ·have := ahead_zero.1 e1; subst this
  rw [jG] at hac; omega
 ·by_cases e2 : aheadI c b = 0
  ·have := ahead_zero.1 e2; subst this
   rw [jG] at hac; omega
  ·have := kD (show aheadI c b < 0 by omega) (show aheadI b a < 0 by omega)
   rw [jG] at hac; omega
theorem swoE (G : Pin) : SWO (Go.Proofs.ltOf (cfE (G := G))) where
 irrefl x := by rw [ltE]; simp [ahead_zero.2 (rfl : x.1.nd = x.1.nd)]
 trans x y z h1 h2 := by rw [ltE] at *; simp at *; exact kD h1 h2
 ntrans x y z h1 h2 := by
  rw [ltE] at *
  have := eM (of_decide_eq_false h1) (of_decide_eq_false h2)
  exact decide_eq_false this
theorem Lvs.turned {e lo hi : Nat} {G G' : Pin} {w w' : World} {L : List Leaf} {x : Option Nat} (h : Lvs e G w lo hi L) (hx : Ext (inO x) G w G' w') (ha : ApL L x) : Lvs e G' w' lo w'.heap.size L :=
 (h.map fun p hp ho => ho.extS hx fun k hk hs => ha p hp k hk hs : Lvs e G' w' lo hi L).top
theorem own_casesF {α : Type} {E : Elt α} {e base : Nat} {G : Pin} {w : World} {v : Value} {xs : List α} (h : Own E e G w base v xs) : (v = .slice none 0 0 ∧ xs = []) ∨ ∃ g cap, v = .slice (some ⟨g, 0, none⟩) xs.length cap := by
 obtain ⟨cells, ⟨hl, hown⟩, hr⟩ := h.ex
 rcases hown with ⟨he, hn⟩ | ⟨g', cap', cur, he, _⟩
 ·exact Or.inl ⟨he, List.eq_nil_of_length_eq_zero hn⟩
 ·exact Or.inr ⟨g', cap', he⟩
theorem reg_step {list : List Int} {n j : Nat} {gs : List Ent} (h : n + gs.length ≤ list.length) (hj : j < gs.length) : (list.take n ++ (gs.take j).map Ent.id ++ list.drop (n + j)).set (n + j) (gs.getD j default).id = list.take n ++ (gs.take (j + 1)).map Ent.id ++ list.drop (n + (j + 1)) := by
 have hA : (list.take n ++ (gs.take j).map Ent.id).length = n + j := by simp; omega
 rw [List.set_append_right _ _ (by rw [hA]; exact Nat.le_refl _), hA, Nat.sub_self, xH list 0 (show n + j < list.length by omega), List.set_cons_zero, qE gs default hj, List.map_append]
 simp [List.append_assoc, Nat.add_assoc]
theorem reg_end {list : List Int} {n : Nat} {gs : List Ent} : list.take n ++ (gs.take gs.length).map Ent.id ++ list.drop (n + gs.length) = regroup list n (gs.map Ent.gn) := by
 unfold regroup
 rw [List.take_length, List.map_map, List.length_map]; rfl
theorem RkOk.step {R : List Int} {m : Nat} {rk : List (Int × Int)} {z : Int} (h : RkOk R m rk) (hn : R.Nodup) (hm : m < R.length) (hz : R.getD m 0 = z) : RkOk R (m + 1) (putE rk z (m : Int)) := fun i hi => by
 rw [vD]
 by_cases he : i = m
 ·subst he; rw [if_pos hz]
 ·rw [if_neg]
  ·exact h i (by omega)
  ·intro e
   rw [← hz] at e
   have := List.pairwise_iff_getElem.1 hn i m (by omega) hm (by omega)
   apply this
   simpa [List.getD, hm, show i < R.length by omega] using e
theorem gn_at {gs : List Ent} {j : Nat} (h : j < gs.length) : (gs.map Ent.gn).getD j default = (gs.getD j default).gn := by simp [List.getD, h]
theorem OrI.ents {q : PSt} {rs P list : List Int} {n : Nat} {done gs gs2 : List Ent} (h : OrI q P list n (done.map Ent.nd)) (hok : PoolOk q) (hP : PtOk q rs P P.length) (hg : GrI q list n (gs.map Ent.gn)) (hn : n < list.length) (hend : n + gs.length = list.length ∨ bn q (list.getD (n + gs.length) 0) ≠ bn q (list.getD n 0))
  (hp : gs2.Perm gs) (hs : ∀ i j, i < j → j < gs2.length → ¬ aheadI (gs2.getD j default).nd (gs2.getD i default).nd < 0) : OrI q P (regroup list n (gs2.map Ent.gn)) (n + gs2.length) ((done ++ gs2).map Ent.nd) := by
 have h1 := h.group hok hP hg hn (by rw [List.length_map]; exact hend) (hp.map _) (fun i j hij hj => by
  rw [List.length_map] at hj
  rw [gn_at hj, gn_at (by omega)]
  exact hs i j hij hj)
 have e2 : (gs2.map Ent.gn).map (·.2) = gs2.map Ent.nd := by rw [List.map_map]; rfl
 rw [List.length_map, e2, ← List.map_append] at h1
 exact h1
theorem GrI.ent {q : PSt} {rs P list : List Int} {n kk : Nat} {nodes : List Nd} {rk : List (Int × Int)} {gs : List Ent} {u v : Value} (h : GrI q list n (gs.map Ent.gn)) (ho : OrI q P list n nodes) (hok : PoolOk q) (hP : PtOk q rs P P.length) (hr : RkOk list n rk) (hkk : kk = n + gs.length) (hk : kk < list.length) (hb : bn q (list.getD kk 0) = bn q (list.getD n 0)) :
  GrI q list n ((gs ++ [(⟨list.getD kk 0, u, v, ⟨sortM ((q.ns.getD (list.getD kk 0).toNat default).l.map (rkI rk)), sortM ((q.ns.getD (list.getD kk 0).toNat default).r.map (rkI rk))⟩⟩ : Ent)]).map Ent.gn) := by
 subst hkk
 have h1 := h.step ho hok hP hr (by rw [List.length_map]; exact hk) (by rw [List.length_map]; exact hb)
 rw [List.length_map] at h1
 rw [List.map_append]
 exact h1
theorem rk_getD {rk : List (Int × Int)} {xs : List Int} {j : Nat} (h : j < xs.length) : (xs.map (rkI rk)).getD j 0 = (look rk (xs.getD j 0)).getD 0 := by simp [List.getD, h, rkI]
theorem RkOk.ent {list : List Int} {n j : Nat} {gs2 : List Ent} {rk : List (Int × Int)} (h : RkOk (regroup list n (gs2.map Ent.gn)) (n + j) rk) (hn : (regroup list n (gs2.map Ent.gn)).Nodup) (hl : n + gs2.length ≤ list.length) (hj : j < gs2.length) : RkOk (regroup list n (gs2.map Ent.gn)) (n + (j + 1)) (putE rk (gs2.getD j default).id ((n + j : Nat) : Int)) :=
 h.step hn (by rw [vM (by rw [List.length_map]; exact hl)]; omega) (by rw [jX (by rw [List.length_map]; exact hl) (by rw [List.length_map]; exact hj), gn_at hj]; rfl)
theorem RkOk.reg {list : List Int} {n : Nat} {gs2 : List Ent} {rk : List (Int × Int)} (h : RkOk list n rk) (hl : n + gs2.length ≤ list.length) : RkOk (regroup list n (gs2.map Ent.gn)) (n + 0) rk := fun i hi => by
 rw [xZ (by rw [List.length_map]; exact hl) (by omega)]; exact h i (by omega)
end Go.GL
namespace Go.GL
open Go Go.RowKit
theorem form_is {q : PSt} (hok : PoolOk q) {r : Int} (hr : PlaceOk q r) : IsForm (pd q r) (formG (pd q r)) := by
 have h := rY hok.ar (m := r.toNat) (by have := hr.1; have := hr.2; omega)
 have e := IsForm.eq (g := pd q r) ⟨h.1, h.2.1⟩
 rw [e]; exact ⟨h.1, h.2.1⟩
theorem form_len {q : PSt} (hok : PoolOk q) {r : Int} (hr : PlaceOk q r) {zs : List Int} (h : PtOk q [r] zs zs.length) : (formG (pd q r)).length = zs.length := by
 have hf := form_is hok hr
 generalize formG (pd q r) = ns at hf
 have h1 : ((List.range ns.length).map (den ns)).Nodup := by
  unfold List.Nodup
  rw [List.pairwise_map]
  refine (List.nodup_range (n := ns.length)).imp_of_mem fun {a b} ha hb hne e => hne (hf.1.inj (List.mem_range.1 ha) (List.mem_range.1 hb) e)
 have h2 : (zs.map (pd q)).Nodup := by
  unfold List.Nodup
  rw [List.pairwise_map]
  refine h.nd.imp_of_mem fun {a b} ha hb hne e => hne ?_
  have pa := h.pl a ha; have pb := h.pl b hb
  have := hok.ar.inj (i := a.toNat) (j := b.toNat) (by have := pa.1; have := pa.2; omega) (by have := pb.1; have := pb.2; omega) e
  have := pa.1; have := pb.1; omega
 have h3 := (List.perm_ext_iff_of_nodup h1 h2).2 fun x => by
  have e1 : x ∈ (List.range ns.length).map (den ns) ↔ SubG (gOf ns) x := by
   rw [← sg_sub hf.1]
   simp only [List.mem_map, List.mem_range]
  have e2 : x ∈ zs.map (pd q) ↔ SubG (pd q r) x := by
   have := h.sub hok (fun y hy => by rw [List.mem_singleton.1 hy]; exact hr) (x := x)
   simp only [List.mem_map]
   rw [this]
   constructor
   ·rintro ⟨y, hy, hs⟩; rw [List.mem_singleton.1 hy] at hs; exact hs
   ·intro hs; exact ⟨r, by simp, hs⟩
  rw [e1, e2, hf.2]
 have := h3.length_eq
 simpa using this
noncomputable def fitB (g : Nat) : Bool := decP (FitsP (formG g))
noncomputable def frmG (g : Nat) : List Nd := if fitB g = true then formG g else []
theorem fit_long {g : Nat} (h : 120 < (formG g).length) : fitB g = false := decP_false.2 fun p => by have := p.lim; omega
theorem fit_opt {g k : Nat} {ns : List Nd} (hf : IsForm g ns) (hk : k < ns.length) (h : 24 < (ns.getD k default).l.length ∨ 24 < (ns.getD k default).r.length) : fitB g = false := decP_false.2 fun p => by
 rw [hf.eq] at p
 have := p.opts k hk; omega
theorem fit_yes {g : Nat} {ns : List Nd} (hf : IsForm g ns) (h : ns.length ≤ 120) (ho : ∀ k, k < ns.length → (ns.getD k default).l.length ≤ 24 ∧ (ns.getD k default).r.length ≤ 24) : fitB g = true := decP_true.2 (by
 rw [hf.eq]
 exact ⟨⟨hf.1.lo, h⟩, ho⟩)
theorem frm_no {g : Nat} (h : fitB g = false) : frmG g = [] := by unfold frmG; rw [h]; rfl
theorem frm_yes {g : Nat} {ns : List Nd} (hf : IsForm g ns) (h : fitB g = true) : frmG g = ns := by unfold frmG; rw [if_pos h]; exact hf.eq
theorem DForm.nil {en e lo hi : Nat} {G : Pin} {w : World} : DForm en e G w lo hi (.slice none 0 0) [] :=
 ⟨⟨[], rfl, Own.nil _ _ _ _ _, (fun k hk => by cases hk), Lvs.nil, ApL.nil⟩⟩
theorem gW {ns : List Nd} (h : GoodP ns) : frmG (gOf ns) = ns ∧ fitB (gOf ns) = true := by
 have hf : IsForm (gOf ns) ns := ⟨good_sg h, rfl⟩
 have h1 : fitB (gOf ns) = true := fit_yes hf h.hi fun k hk => by
  have := h.opts k hk
  exact ⟨(goodOpts_iff.1 this.1).1, (goodOpts_iff.1 this.2).1⟩
 exact ⟨frm_yes hf h1, h1⟩
theorem place_one {q : PSt} {i : Int} (hi : PlaceOk q i) : ∀ k, k < [i].length → PlaceOk q ([i].getD k 0) := fun k hk => by
 have h0 : k = 0 := by simpa using hk
 subst h0; exact hi
end Go.GL
namespace Go.GL
open Go Go.RowKit
structure GsOk (q : PSt) (ls : List Int) (gs : List Nat) : Prop where
 pl : ∀ z ∈ ls, PlaceOk q z
 eq : ls.map (pd q) = gs
theorem GsOk.nil {q : PSt} : GsOk q [] [] := ⟨fun _ h => (List.not_mem_nil h).elim, rfl⟩
theorem GsOk.px {q q' : PSt} {ls : List Int} {gs : List Nat} (h : GsOk q ls gs) (hx : PX q q') (hok : PoolOk q) (hok' : PoolOk q') : GsOk q' ls gs := ⟨fun z hz => hx.place (h.pl z hz), (px_map hx hok hok' h.pl).trans h.eq⟩
theorem GsOk.snoc {q : PSt} {ls : List Int} {gs : List Nat} {z : Int} {g : Nat} (h : GsOk q ls gs) (hz : PlaceOk q z) (hg : pd q z = g) : GsOk q (ls ++ [z]) (gs ++ [g]) := by
 refine ⟨fun y hy => ?_, by rw [List.map_append, h.eq]; simp [hg]⟩
 rcases List.mem_append.1 hy with h1 | h1
 ·exact h.pl y h1
 ·rw [List.mem_singleton.1 h1]; exact hz
theorem GsOk.len {q : PSt} {ls : List Int} {gs : List Nat} (h : GsOk q ls gs) : ls.length = gs.length := by rw [← h.eq, List.length_map]
theorem GsOk.next {q q' : PSt} {ls os : List Int} {z : Int} {pre : List Nat} {f : Int → Nat} {j : Nat} (h : GsOk q ls (pre ++ (os.take j).map f)) (hx : PX q q') (hok : PoolOk q) (hok' : PoolOk q') (hz : PlaceOk q' z) (hj : j < os.length) (hg : pd q' z = f (os.getD j 0)) : GsOk q' (ls ++ [z]) (pre ++ (os.take (j + 1)).map f) := by
 have h1 := (h.px hx hok hok').snoc hz hg
 rw [qE os 0 hj, List.map_append, ← List.append_assoc]
 exact h1
theorem GsOk.done {q : PSt} {ls os : List Int} {pre : List Nat} {f : Int → Nat} {j : Nat} (h : GsOk q ls (pre ++ (os.take j).map f)) (hj : j = os.length) : GsOk q ls (pre ++ os.map f) := by
 subst hj; rw [List.take_length] at h; exact h
theorem GsOk.lenj {q : PSt} {ls os : List Int} {pre : List Nat} {f : Int → Nat} {j : Nat} (h : GsOk q ls (pre ++ (os.take j).map f)) (hj : j ≤ os.length) : ls.length = pre.length + j := by
 have := h.len
 rw [List.length_append, List.length_map, List.length_take] at this; omega
section
variable {q : PSt} {f b : Int}
end
theorem len_half {q : PSt} (hok : PoolOk q) {f : Int} (hf : PlaceOk q f) : (q.ns.getD f.toNat default).l.length ≤ f.toNat ∧ (q.ns.getD f.toNat default).r.length ≤ f.toNat := by
 have h := show f.toNat < q.ns.length by have := hf.1; have := hf.2; omega
 have o := xK hok.ar.opts h
 have r := hok.ar.rise f.toNat h
 exact ⟨qY _ _ (vC r.1) o.1, qY _ _ (vC r.2) o.2⟩
end Go.GL
namespace Go.GL
open Go Go.RowKit
def flOf (ns : List Nd) : List (ByteArray × Int) := (List.range ns.length).map fun i => (b2s (keyN (ns.getD i default).l (ns.getD i default).r), (i : Int))
def bkq (ns : List Nd) (bs : List Int) : PSt := ⟨ns, bs, flOf ns, [], [], [], []⟩
theorem find_fl {ns : List Nd} {bs : List Int} (h : Ar ns bs) : FindOk ns (flOf ns) := by
 have hk : ∀ i, i < ns.length → ∀ l r : List Int, (∀ x ∈ l, 0 ≤ x) → (∀ x ∈ r, 0 ≤ x) → b2s (keyN (ns.getD i default).l (ns.getD i default).r) = b2s (keyN l r) → ns.getD i default = ⟨l, r⟩ := fun i hi l r hl hr e => by
  have oo := xK h.opts hi
  obtain ⟨e1, e2⟩ := nC (fun z hz => (oo.1 z hz).1) (fun z hz => (oo.2 z hz).1) hl hr (eJ e)
  cases hn : ns.getD i default with
  | mk a b => rw [hn] at e1 e2; simp only at e1 e2; rw [e1, e2]
 constructor
 ·intro i hi
  have oo := xK h.opts hi
  have key : ∀ n, (look ((List.range n).map fun i => (b2s (keyN (ns.getD i default).l (ns.getD i default).r), (i : Int))) (b2s (keyN (ns.getD i default).l (ns.getD i default).r))) = (if i < n then some (i : Int) else none) ∨ ns.length < n := by
   intro n
   induction n with
   | zero => left; rfl
   | succ n ih =>
    by_cases hn : ns.length < n + 1
    ·exact Or.inr hn
    left
    have ih := ih.resolve_right (by omega)
    rw [List.range_succ, List.map_append]
    unfold look at ih ⊢
    rw [List.find?_append]
    by_cases h1 : i < n
    ·rw [if_pos h1] at ih
     obtain ⟨p, hp, e⟩ := Option.map_eq_some_iff.1 ih
     rw [hp, if_pos (by omega)]
     simp [e]
    ·rw [if_neg h1] at ih
     have h2 := Option.map_eq_none_iff.1 ih
     rw [h2]
     by_cases h3 : i = n
     ·subst h3; rw [if_pos (by omega)]; simp
     ·rw [if_neg (by omega)]
      have hne : ¬ (b2s (keyN (ns.getD n default).l (ns.getD n default).r) = b2s (keyN (ns.getD i default).l (ns.getD i default).r)) := fun e => by
       have := hk n (by omega) _ _ (fun z hz => (oo.1 z hz).1) (fun z hz => (oo.2 z hz).1) e
       exact h.diff n i (by omega) hi this
      have hd := decide_eq_false hne
      simp only [List.map_cons, List.map_nil, List.find?_cons, hd, List.find?_nil]
      rfl
  have := (key ns.length).resolve_right (by omega)
  rw [if_pos hi] at this
  exact this
 ·intro l r z hl hr hz
  unfold look flOf at hz
  obtain ⟨p, hp, e⟩ := Option.map_eq_some_iff.1 hz
  have h1 := List.mem_of_find?_eq_some hp
  obtain ⟨i, hi, rfl⟩ := List.mem_map.1 h1
  have h3 := List.find?_some hp
  simp only [decide_eq_true_eq] at h3
  have h2 := h3
  have hi' := List.mem_range.1 hi
  exact ⟨i, hi', e.symm, hk i hi' l r hl hr h2⟩
theorem nO {ns : List Nd} {bs : List Int} (h : Ar ns bs) : PoolOk (bkq ns bs) :=
 ⟨h, find_fl h, (fun _ _ _ h => by cases h), (fun _ _ h => by cases h), (fun _ _ _ h => by cases h), (fun _ _ h => by cases h)⟩
theorem putN_app {ns : List Nd} {bs xs ys : List Int} : putN ns bs xs ys = ns ∨ putN ns bs xs ys = ns ++ [putNd xs ys] := by
 unfold putN
 split
 ·exact Or.inl rfl
 ·exact Or.inr rfl
structure PutOk (ns : List Nd) (bs xs ys : List Int) : Prop where
 ok : PoolOk (bkq (putN ns bs xs ys) (putB ns bs xs ys))
 px : PX (bkq ns bs) (bkq (putN ns bs xs ys) (putB ns bs xs ys))
 pl : PlaceOk (bkq (putN ns bs xs ys) (putB ns bs xs ys)) (putK ns bs xs ys)
 pd : pd (bkq (putN ns bs xs ys) (putB ns bs xs ys)) (putK ns bs xs ys) = mkG (xs.map (Go.GL.pd (bkq ns bs))) (ys.map (Go.GL.pd (bkq ns bs)))
 len : (putN ns bs xs ys).length ≤ ns.length + 1
theorem bk_put {ns : List Nd} {bs xs ys : List Int} (h : PoolOk (bkq ns bs)) (hl : ns.length + 1 ≤ 1048576) (hls : xs.length ≤ 1048576 ∧ ys.length ≤ 1048576) (h1 : ∀ z ∈ xs, PlaceOk (bkq ns bs) z) (h2 : ∀ z ∈ ys, PlaceOk (bkq ns bs) z) : PutOk ns bs xs ys := by
 have ha : Ar ns bs := h.ar
 have b1 := qH h1
 have b2 := qH h2
 have hp := ha.put hl hls b1 b2
 have hb := ha.ok.put hl hls b1 b2
 have hn := putN_app (ns := ns) (bs := bs) (xs := xs) (ys := ys)
 refine ⟨nO hp.1, ⟨?_, fun k hk => ?_, fun _ h => h⟩, hb.2.1, hp.2.1, ?_⟩
 ·show ns.length ≤ (putN ns bs xs ys).length
  rcases hn with e | e <;> rw [e]
  ·exact Nat.le_refl _
  ·simp
 ·show (putN ns bs xs ys).getD k default = ns.getD k default
  rcases hn with e | e <;> rw [e]
  exact yU hk
 ·rcases hn with e | e <;> rw [e] <;> simp
def NkOk (q : PSt) (ats : List Int) (k : Nat) (φ : Nat → Nat) : Prop := GsOk q ats ((List.range k).map φ)
section
variable {q q' : PSt} {ats : List Int} {k : Nat} {φ : Nat → Nat}
theorem NkOk.start : NkOk q [] 0 φ := GsOk.nil
theorem NkOk.len (h : NkOk q ats k φ) : ats.length = k := by have := GsOk.len h; simpa using this
theorem NkOk.snoc {z : Int} (h : NkOk q ats k φ) (hx : PX q q') (hok : PoolOk q) (hok' : PoolOk q') (hz : PlaceOk q' z) (hg : pd q' z = φ k) : NkOk q' (ats ++ [z]) (k + 1) φ := by
 unfold NkOk
 rw [List.range_succ, List.map_append]
 exact (GsOk.px h hx hok hok').snoc hz hg
theorem NkOk.at_ (h : NkOk q ats k φ) {i : Nat} (hi : i < k) : PlaceOk q (ats.getD i 0) ∧ pd q (ats.getD i 0) = φ i := by
 have hl := h.len
 refine ⟨h.pl _ (yT (by omega)), ?_⟩
 have := congrArg (fun l : List Nat => l[i]?) h.eq
 simp only [List.getElem?_map, List.getElem?_range hi, Option.map_some] at this
 simp only [List.getElem?_eq_getElem (show i < ats.length by omega), Option.map_some] at this
 have e : ats.getD i 0 = ats[i]'(by omega) := by simp [List.getD, show i < ats.length by omega]
 rw [e]; exact Option.some.inj this
theorem NkOk.opts (h : NkOk q ats k φ) {l : List Int} (hl : ∀ z ∈ l, 0 ≤ z ∧ z < (k : Int)) : (∀ z ∈ atL ats l, PlaceOk q z) ∧ (atL ats l).map (pd q) = l.map fun z => φ z.toNat := by
 refine ⟨fun z hz => ?_, ?_⟩
 ·obtain ⟨o, ho, rfl⟩ := mem_atL.1 hz
  exact (h.at_ (i := o.toNat) (by have := hl o ho; omega)).1
 ·unfold atL
  rw [List.map_map]
  exact List.map_congr_left fun z hz => (h.at_ (i := z.toNat) (by have := hl z hz; omega)).2
end
theorem rD {ns : List Nd} {bs : List Int} (h : PoolOk (bkq ns bs)) {z : Int} (hz : PlaceOk (bkq ns bs) z) : formM ns bs z.toNat = formG (pd (bkq ns bs) z) := form_eq h.ar (m := z.toNat) (show z.toNat < ns.length by have := hz.1; have h2 : z < (ns.length : Int) := hz.2; omega)
end Go.GL
namespace Go.GL
open Go Go.RowKit
noncomputable def pairB (fs gs : List Nd) : Bool := goodB fs && goodB gs && decide (fs.length * gs.length ≤ 1600)
structure PairP (fs gs : List Nd) : Prop where
 a : GoodP fs
 b : GoodP gs
 le : fs.length * gs.length ≤ 1600
theorem pair_iff {fs gs : List Nd} : pairB fs gs = true ↔ PairP fs gs := by
 unfold pairB
 rw [Bool.and_eq_true, Bool.and_eq_true, decide_eq_true_eq]
 exact ⟨fun h => ⟨goodB_true.1 h.1.1, goodB_true.1 h.1.2, h.2⟩, fun h => ⟨⟨goodB_true.2 h.a, goodB_true.2 h.b⟩, h.le⟩⟩
theorem pair_int {fs gs : List Nd} : ((fs.length : Int) * (gs.length : Int) ≤ 1600) ↔ fs.length * gs.length ≤ 1600 := by
 rw [← Int.natCast_mul]; omega
theorem mul_120 {a b : Nat} (ha : a ≤ 120) (hb : b ≤ 120) : 0 ≤ (a : Int) * (b : Int) ∧ (a : Int) * (b : Int) ≤ 14400 := by
 have h1 := Nat.mul_le_mul ha hb
 rw [← Int.natCast_mul]
 omega
noncomputable def ifF (ns : List Nd) : List Nd := if decP (FitsP ns) = true then ns else []
theorem nH {ns : List Nd} (h : GoodP ns) : ∀ k, k < ns.length → (ns.getD k default).l.length ≤ 1000 ∧ (ns.getD k default).r.length ≤ 1000 := fun k hk => by
 have h1 := h.opts k hk
 have a := (goodOpts_iff.1 h1.1).1
 have b := (goodOpts_iff.1 h1.2).1
 omega
end Go.GL
namespace Go.GL
open Go Go.RowKit
structure AllW (fs : List (List Nd)) : Prop where
 len : fs.length ≤ 100
 ok : ∀ i, i < fs.length → FormOk (fs.getD i []) ∧ 1 ≤ (fs.getD i []).length ∧ (fs.getD i []).length ≤ 1000
theorem AllW.nil : AllW [] := ⟨by decide, fun i hi => absurd hi (Nat.not_lt_zero i)⟩
noncomputable def mkGm (fs gs : List (List Nd)) : Nat := mkG (fs.map gOf) (gs.map gOf)
structure RootOk (ns : List Nd) (bs : List Int) (fs : List Nd) : Prop where
 ok : PoolOk (bkq (addM ns bs fs).2.1 (addM ns bs fs).2.2)
 px : PX (bkq ns bs) (bkq (addM ns bs fs).2.1 (addM ns bs fs).2.2)
 pl : PlaceOk (bkq (addM ns bs fs).2.1 (addM ns bs fs).2.2) (rootM ns bs fs)
 pd : pd (bkq (addM ns bs fs).2.1 (addM ns bs fs).2.2) (rootM ns bs fs) = gOf fs
 len : (addM ns bs fs).2.1.length ≤ ns.length + fs.length
theorem addM_old {ns : List Nd} {bs : List Int} {fs : List Nd} : ∀ k, k ≤ fs.length → ns.length ≤ (addM ns bs (fs.take k)).2.1.length ∧ ∀ j, j < ns.length → (addM ns bs (fs.take k)).2.1.getD j default = ns.getD j default := by
 intro k
 induction k with
 | zero => intro _; exact ⟨Nat.le_refl _, fun j _ => rfl⟩
 | succ k ih =>
  intro hk
  obtain ⟨h1, h2⟩ := ih (by omega)
  rw [jH (by omega)]
  generalize addM ns bs (fs.take k) = s at h1 h2
  obtain ⟨az, ns2, bs2⟩ := s
  show ns.length ≤ (putN ns2 bs2 _ _).length ∧ ∀ j, j < ns.length → (putN ns2 bs2 _ _).getD j default = ns.getD j default
  simp only at h1 h2
  rcases putN_app (ns := ns2) (bs := bs2) (xs := atL az (fs.getD k default).l) (ys := atL az (fs.getD k default).r) with e | e <;> rw [e]
  ·exact ⟨h1, h2⟩
  ·refine ⟨by simp; omega, fun j hj => ?_⟩
   rw [yU (by omega)]; exact h2 j hj
theorem eH {ns : List Nd} {bs : List Int} {fs : List Nd} (h : PoolOk (bkq ns bs)) (hf : FormOk fs) (h1 : 1 ≤ fs.length) (hl : ns.length + fs.length ≤ 1048576) : RootOk ns bs fs := by
 have ha : Ar ns bs := h.ar
 have hd := ha.add hf hl
 have hr := ha.root hf h1 hl
 have hao := vS ha.ok hf hl
 have ho := addM_old (ns := ns) (bs := bs) (fs := fs) fs.length (Nat.le_refl _)
 rw [List.take_length] at ho
 have hp := hao.places (fs.length - 1) (by have := hao.len; omega)
 have hal := hao.len
 have e : rootM ns bs fs = (addM ns bs fs).1.getD (fs.length - 1) 0 := by unfold rootM; rw [hal]
 refine ⟨nO hd.ar, ⟨ho.1, ho.2, fun _ h => h⟩, ?_, hr, hao.hi⟩
 rw [e]; exact hp
theorem eQ {fs : List (List Nd)} {j : Nat} (h : j < fs.length) : (fs.take (j + 1)).map gOf = (fs.take j).map gOf ++ [gOf (fs.getD j [])] := by
 rw [qE fs [] h, List.map_append]; rfl
theorem sub_mk {ls rs : List Nat} {x : Nat} (h : SubG (mkG ls rs) x) : x = mkG ls rs ∨ ∃ y, y ∈ ls ++ rs ∧ SubG y x := by
 induction h with
 | self => exact Or.inl rfl
 | left _ hl ih =>
  rcases ih with rfl | ⟨y, hy, hs⟩
  ·exact Or.inr ⟨_, List.mem_append_left _ (lo_mk.1 hl), .self⟩
  ·exact Or.inr ⟨y, hy, hs.left hl⟩
 | right _ hl ih =>
  rcases ih with rfl | ⟨y, hy, hs⟩
  ·exact Or.inr ⟨_, List.mem_append_right _ (ro_mk.1 hl), .self⟩
  ·exact Or.inr ⟨y, hy, hs.right hl⟩
theorem form_le {g : Nat} {ns : List Nd} (h : IsForm g ns) {L : List Nat} (hL : ∀ x, SubG g x → x ∈ L) : ns.length ≤ L.length := by
 have h1 : ((List.range ns.length).map (den ns)).Nodup := by
  unfold List.Nodup
  rw [List.pairwise_map]
  exact (List.nodup_range (n := ns.length)).imp_of_mem fun {a b} ha hb hne e => hne (h.1.inj (List.mem_range.1 ha) (List.mem_range.1 hb) e)
 have h2 : ((List.range ns.length).map (den ns)) ⊆ L := fun x hx => by
  obtain ⟨j, hj, rfl⟩ := List.mem_map.1 hx
  exact hL _ (h.2 ▸ (sg_sub h.1).1 ⟨j, List.mem_range.1 hj, rfl⟩)
 have := h1.length_le_of_subset h2
 simpa using this
theorem tV {g : Nat} {ns : List Nd} (h : IsForm g ns) (hl : ns.length ≤ 1048576) : FormOk ns :=
 ⟨hl, h.1.opts, fun i hi => by
  have oo := xK h.1.opts hi
  have a := qY i _ (vC (h.1.pw i hi).1) oo.1
  have b := qY i _ (vC (h.1.pw i hi).2) oo.2
  omega⟩
theorem mY : ∀ (l : List (List Nd)) (ns : List Nd) (bs : List Int), PoolOk (bkq ns bs) → (∀ f ∈ l, FormOk f ∧ 1 ≤ f.length ∧ f.length ≤ 1000) → ns.length + 1000 * l.length ≤ 1048575 →
  ∃ ns2 bs2 ats, PoolOk (bkq ns2 bs2) ∧ PX (bkq ns bs) (bkq ns2 bs2) ∧ GsOk (bkq ns2 bs2) ats (l.map gOf) ∧ ns2.length ≤ ns.length + 1000 * l.length
 | [], ns, bs, h, _, _ => ⟨ns, bs, [], h, PX.refl _, GsOk.nil, Nat.le_refl _⟩
 | f :: l, ns, bs, h, hl, hb => by
  rw [List.length_cons] at hb
  obtain ⟨f1, f2, f3⟩ := hl f List.mem_cons_self
  have hr := eH (fs := f) h f1 f2 (by omega)
  have hlen := hr.len
  obtain ⟨ns2, bs2, ats, h1, h2, h3, h4⟩ := mY l _ _ hr.ok (fun g hg => hl g (List.mem_cons_of_mem _ hg)) (by omega)
  refine ⟨ns2, bs2, rootM ns bs f :: ats, h1, hr.px.trans h2, ⟨fun z hz => ?_, ?_⟩, by rw [List.length_cons]; omega⟩
  ·rcases List.mem_cons.1 hz with rfl | hz
   ·exact h2.place hr.pl
   ·exact h3.pl z hz
  ·rw [List.map_cons, List.map_cons, h3.eq, h2.pd hr.ok h1 hr.pl, hr.pd]
theorem allW_mem {fs : List (List Nd)} (h : AllW fs) : ∀ f ∈ fs, FormOk f ∧ 1 ≤ f.length ∧ f.length ≤ 1000 := fun f hf => by
 obtain ⟨i, hi, e⟩ := List.mem_iff_getElem.1 hf
 have := h.ok i hi
 have e2 : fs.getD i [] = f := by simp [List.getD, hi, e]
 rw [e2] at this; exact this
theorem mk_isform {fs gs : List (List Nd)} (hf : AllW fs) (hg : AllW gs) : IsForm (mkGm fs gs) (formG (mkGm fs gs)) := by
 have h1 := hf.len
 have h2 := hg.len
 obtain ⟨ns, bs, ats, a1, a2, a3, a4⟩ := mY fs [] [] (nO Ar.empty) (allW_mem hf) (by rw [List.length_nil]; omega)
 rw [List.length_nil] at a4
 obtain ⟨ns2, bs2, ats2, b1, b2, b3, b4⟩ := mY gs ns bs a1 (allW_mem hg) (by omega)
 have c := a3.px b2 a1 b1
 have l1 := c.len
 have l2 := b3.len
 rw [List.length_map] at l1 l2
 have hp := bk_put (xs := ats) (ys := ats2) b1 (by omega) ⟨by omega, by omega⟩ c.pl b3.pl
 have := form_is hp.ok hp.pl
 rw [hp.pd, c.eq, b3.eq] at this
 exact this
end Go.GL
namespace Go.GL
open Go Go.RowKit
def zF : List Nd := [⟨[], []⟩]
end Go.GL
namespace Go.GL
open Go Go.RowKit
theorem pY (v : Value) : (Value.agg [v].toArray).cells.toList = [v] := by simp [Value.cells]
theorem flat_one : ∀ (vs : List Value), ((vs.map fun v => Value.agg [v].toArray).flatMap fun v => v.cells.toList) = vs
 | [] => rfl
 | v :: vs => by
  rw [List.map_cons, List.flatMap_cons, pY v, flat_one vs]
  rfl
theorem gR {α : Type} {E : Elt α} {P : Program} {ρ : Operand → Value} {w : World} {G : Pin} {K : Value → World → Prop} {d : Option Nat} {t ty e : Nat} {pos : String} {aft : Array Edge} {g : Option (Nat × Bool)}
  {n : Nat} {parts : Array (Nat × Operand)} (vs : List Value) (ys : List α) {z : Value} (ht : P.underlying t = some (.slice e)) (hs : (P.info? e).map (·.size) = some 1) (hz : (P.info? e).bind (·.zero) = some z)
  (hr : RepsF E G vs ys) (_ : ∀ u ∈ vs, u.oneCell' = true) (hn : n = vs.length) (hn2 : n = ys.length) (hE : E.size = 1)
  (hpt' : (parts.toList.map fun (i, x) => (i, ρ x)) = ((vs.map fun v => Value.agg [v].toArray).zipIdx 0).map fun x => (x.2, x.1)) (hpos : 0 < n ∧ n ≤ 1000000) (hP : Pins G w)
  (h : ∀ v w', Own E e G w' w.heap.size v ys → Pins G w' → Below w.heap.size w w' → v.ownBlock = some w.heap.size → K v w') : EO P ρ ⟨d, .buildSlice t n parts, ty, pos, aft, g⟩ w K := by
 have hpt := (Array.toList_map ..).trans hpt'
 obtain ⟨inf, hinf, hsz⟩ := Option.map_eq_some_iff.1 hs
 have hzz : inf.zero = some z := by simpa [hinf] using hz
 have hrun := run_buildSlice (P := P) w t e n (parts.map fun (i, x) => (i, ρ x)) vs.toArray inf z ht hinf hzz (by rw [hsz]; omega) (by rw [hsz]; omega)
  (by
   rw [hpt, hsz]
   have hf := Great.fill_whole (s := 1) (by decide) (vs.map fun v => Value.agg [v].toArray) ((Array.range (n * 1)).map (z.cells[· % z.cells.size]!)) (fun v hv => by
    obtain ⟨u, _, rfl⟩ := List.mem_map.1 hv
    have := congrArg List.length (pY u)
    simpa using this) (by simp [hn])
   rw [hf, flat_one vs])
 obtain ⟨v, w', h1, h2, h3, h4, h5⟩ := run_build (E := E) (d := d) (ty := ty) (pos := pos) (aft := aft) (g := g) n parts vs ys hrun hP hn2 (by omega) (by rw [hE]; omega) (fun i y hy => by
  obtain ⟨v, hv, hrep⟩ := hr i y hy
  have : (vs.drop (i * E.size)).take E.size = [v] := by
   rw [hE, Nat.mul_one]
   apply List.ext_getElem?
   intro j
   rw [List.getElem?_take, List.getElem?_drop]
   match j with
   | 0 => simpa using hv
   | j + 1 => simp
  rw [this]; exact hrep)
 exact EO.run h1 (h v w' h2 h3 h4 h5)
theorem repsN {α : Type} {E : Elt α} {G : Pin} : RepsF E G [] [] := fun i y hy => by simp at hy
theorem gL {α : Type} {E : Elt α} {G : Pin} {v : Value} {y : α} {vs : List Value} {ys : List α} (h : E.rep G [v] y) (k : RepsF E G vs ys) : RepsF E G (v :: vs) (y :: ys) := fun i z hz => by
 cases i with
 | zero => simp at hz; subst hz; exact ⟨v, rfl, h⟩
 | succ i => simp at hz; obtain ⟨u, hu, hr⟩ := k i z hz; exact ⟨u, by simpa using hu, hr⟩
theorem onesN : ∀ u ∈ ([] : List Value), u.oneCell' = true := fun _ h => (List.not_mem_nil h).elim
theorem gQ {v : Value} {vs : List Value} (h : v.oneCell' = true) (k : ∀ u ∈ vs, u.oneCell' = true) : ∀ u ∈ v :: vs, u.oneCell' = true := fun u hu => by
 rcases List.mem_cons.1 hu with rfl | hu
 ·exact h
 ·exact k u hu
end Go.GL
namespace Go.GL
open Go Go.RowKit
theorem goodP_zF : GoodP zF := by
 refine ⟨by decide, by decide, fun i hi => ?_, fun i h1 hi => ?_, by decide⟩
 ·have h0 : i = 0 := by simpa [zF] using hi
  subst h0; decide
 ·have h0 : i = 0 := by simpa [zF] using hi
  omega
structure KQ (Q : List Nat) : Prop where
 is : ∀ g ∈ Q, IsForm g (formG g)
 sub : ∀ g ∈ Q, ∀ x, SubG g x → x ∈ Q
theorem KQ.nil : KQ [] := ⟨fun _ h => (List.not_mem_nil h).elim, fun _ h => (List.not_mem_nil h).elim⟩
theorem KQ.w {Q : List Nat} (h : KQ Q) (hl : Q.length ≤ 1000) {g : Nat} (hg : g ∈ Q) : FormOk (formG g) ∧ 1 ≤ (formG g).length ∧ (formG g).length ≤ Q.length := by
 have h1 := form_le (h.is g hg) (h.sub g hg)
 exact ⟨tV (h.is g hg) (by omega), (h.is g hg).1.lo, h1⟩
theorem KQ.allW {Q : List Nat} (h : KQ Q) (hl : Q.length ≤ 1000) {gs : List Nat} (hg : ∀ g ∈ gs, g ∈ Q) (hn : gs.length ≤ 100) : AllW (gs.map formG) := by
 refine ⟨by simpa using hn, fun i hi => ?_⟩
 have hi' : i < gs.length := by simpa using hi
 have e : (gs.map formG).getD i [] = formG gs[i] := by simp [List.getD, hi']
 rw [e]
 obtain ⟨a, b, c⟩ := h.w hl (hg _ (List.getElem_mem hi'))
 exact ⟨a, b, by omega⟩
theorem KQ.gof {Q : List Nat} (h : KQ Q) {gs : List Nat} (hg : ∀ g ∈ gs, g ∈ Q) : (gs.map formG).map gOf = gs := by
 rw [List.map_map]
 refine (List.map_congr_left (g := id) fun g hm => ?_).trans (List.map_id _)
 exact (h.is g (hg g hm)).2
theorem KQ.add {Q : List Nat} (h : KQ Q) (hl : Q.length ≤ 1000) {gs hs : List Nat} (hg : ∀ g ∈ gs, g ∈ Q) (hh : ∀ g ∈ hs, g ∈ Q) (h1 : gs.length ≤ 100) (h2 : hs.length ≤ 100) : KQ (mkGm (gs.map formG) (hs.map formG) :: Q) := by
 have hi := mk_isform (h.allW hl hg h1) (h.allW hl hh h2)
 have e : mkGm (gs.map formG) (hs.map formG) = mkG gs hs := by unfold mkGm; rw [h.gof hg, h.gof hh]
 rw [e] at hi ⊢
 refine ⟨fun g hm => ?_, fun g hm x hx => ?_⟩
 ·rcases List.mem_cons.1 hm with rfl | hm
  ·exact hi
  ·exact h.is g hm
 ·rcases List.mem_cons.1 hm with rfl | hm
  ·rcases sub_mk hx with rfl | ⟨y, hy, hs⟩
   ·exact List.mem_cons_self
   ·rcases List.mem_append.1 hy with hy | hy
    ·exact List.mem_cons_of_mem _ (h.sub y (hg y hy) x hs)
    ·exact List.mem_cons_of_mem _ (h.sub y (hh y hy) x hs)
  ·exact List.mem_cons_of_mem _ (h.sub g hm x hx)
theorem Bx.anti {G G' : Pin} {w : World} {b : Nat} {cs : List Value} (h : Bx G' w b cs) (hl : Pin.le G G') : Bx G w b cs := ⟨h.heap, fun o u hu => h.free o u (hl _ _ _ hu)⟩
theorem ownV_anti {e base : Nat} {G G' : Pin} {w : World} {v : Value} {xs : List Value} (h : Own eVal e G' w base v xs) (hl : Pin.le G G') : Own eVal e G w base v xs := by
 obtain ⟨cells, h1, h2⟩ := h.ex
 exact ⟨⟨cells, h1, h2⟩, fun k hk o u hu => h.free k hk o u (hl _ _ _ hu)⟩
theorem ext_grown {x : Option Nat} {G G' : Pin} {w w' : World} (h : Ext (inO x) G w G' w') : w.grownBy w' x :=
 ⟨h.os, h.tape, h.output, h.size, fun k hk hne => h.block k hk fun hx => hne hx.symm⟩
theorem ext_back {S : Nat → Prop} {G Gx G' : Pin} {w w' : World} (hl : Pin.le G Gx) (hx : Ext S Gx w G' w') : Ext S G w G w' :=
 ⟨Pin.le_refl _, fun b o u hu => hx.pins b o u (hx.le _ _ _ (hl _ _ _ hu)), fun _ _ _ h => Or.inl h, hx.os, hx.tape, hx.output, hx.size, hx.block⟩
structure Tk (e base : Nat) (G : Pin) (w : World) (v : Value) (ns : List Nd) : Prop where
 own : ∃ Gi, Own eNode e Gi w base v ns ∧ Pin.le Gi G
 rd : RSl eNode G v ns
 lo : 1 ≤ ns.length
section
variable {e base : Nat} {G G' : Pin} {w w' : World} {v : Value} {ns : List Nd} {x row : Option Nat}
theorem Tk.blk (h : Tk e base G w v ns) : ∀ k, v.ownBlock = some k → ∃ o u, G k o u := fun k hk => by
 obtain ⟨a, b, o, n, c, cs, hv, hk2, hr, hg⟩ := h.rd.at_ 0 _ (List.getElem?_eq_getElem h.lo)
 have hb : a.block = b := by
  have h := congrArg Addr.block (hk2 0)
  refine Eq.trans ?_ h
  simp only [Addr.add]; split <;> rfl
 have hl := eNode.len hr
 have hc : 0 < cs.length := by rw [hl]; decide
 refine ⟨o + 0, cs[0], ?_⟩
 have h1 := hg 0 _ (List.getElem?_eq_getElem hc)
 rw [hv] at hk
 have : k = b := by rw [← hb]; exact (Option.some.inj hk).symm
 rw [this]; exact h1
theorem Tk.le (h : Tk e base G w v ns) (hl : Pin.le G G') : Tk e base G' w v ns := by
 obtain ⟨Gi, h1, h2⟩ := h.own
 exact ⟨⟨Gi, h1, dN h2 hl⟩, h.rd.mono hl, h.lo⟩
theorem Tk.kept (h : Tk e base G w v ns) (hg : w.grownBy w' row) (hf : ∀ k, row = some k → ∀ o u, ¬ G k o u) : Tk e base G w' v ns := by
 obtain ⟨Gi, h1, h2⟩ := h.own
 refine ⟨⟨Gi, h1.keptA hg (fun k a b => ?_), h2⟩, h.rd, h.lo⟩
 obtain ⟨o, u, hu⟩ := h.blk k a
 exact hf k b o u hu
theorem Tk.below (h : Tk e base G w v ns) (hb : Below w.heap.size w w') : Tk e base G w' v ns := h.kept (Below.grownBy hb none) fun _ hk => by cases hk
theorem Tk.ext (h : Tk e base G w v ns) (hx : Ext noS G w G' w') : Tk e base G' w' v ns := (h.below hx.below).le hx.le
theorem Tk.turned (h : Tk e base G w v ns) (hx : Ext (inO x) G w G' w') (hf : ∀ k, x = some k → ∀ o u, ¬ G k o u) : Tk e base G' w' v ns := (h.kept (ext_grown hx) hf).le hx.le
theorem Tk.one (h : Tk e base G w v ns) : v.oneCell' = true := h.rd.one
theorem Tk.give {S : Nat → Prop} {G0 : Pin} {w0 : World} (h : Tk e w0.heap.size G w v ns) (hP : Pins G0 w0) (hx : Ext S G0 w0 G w) : ∃ G2, Own eNode e G2 w w0.heap.size v ns ∧ Ext S G0 w0 G2 w ∧ Pin.le G2 G := by
 obtain ⟨Gi, h1, h2⟩ := h.own
 have h2' : Pin.le (fun b o u => Gi b o u ∨ G0 b o u) G := fun b o u hu => hu.elim (h2 b o u) (hx.le b o u)
 refine ⟨fun b o u => Gi b o u ∨ G0 b o u, h1.mono (fun b o u hu => Or.inl hu) (fun k hk o u hu => ?_), ⟨fun b o u hu => Or.inr hu, fun b o u hu => hx.pins b o u (h2' b o u hu), fun b o u hu => hx.fresh b o u (h2' b o u hu), hx.os, hx.tape, hx.output, hx.size, hx.block⟩, h2'⟩
 rcases hu with hu | hu
 ·exact h1.free k hk o u hu
 ·have a := (h1.lt k hk).1
  have b := vQ (hP k o u hu)
  omega
end
section
variable {e base : Nat} {G G' : Pin} {w w' : World} {Q : List Nat} {vs : List Value} {x row : Option Nat}
end
theorem pB {G : Pin} {v : Value} {us : List Value} {fs : List (List Nd)} (hr : RSl eVal G v us) (hl : fs.length = us.length) (hk : ∀ i, i < us.length → RSl eNode G (us.getD i default) (fs.getD i [])) : RSl (eSl eNode) G v fs := by
 obtain ⟨a, c, h1, h2, h3⟩ := hr.sl
 refine ⟨⟨a, c, by rw [h1, hl], by omega, h3⟩, fun i f hi => ?_⟩
 have hi' : i < fs.length := (List.getElem?_eq_some_iff.1 hi).1
 obtain ⟨a, b, o, n, c, cs, e1, e2, e3, e4⟩ := hr.at_ i _ (List.getElem?_eq_getElem (show i < us.length by omega))
 refine ⟨a, b, o, n, c, cs, e1, e2, ?_, e4⟩
 have h4 := hk i (by omega)
 have e5 : us.getD i default = us[i]'(by omega) := by simp [List.getD, show i < us.length by omega]
 have e6 : fs.getD i [] = f := by simp [List.getD, hi]
 rw [e5, e6] at h4
 exact ⟨_, e3.1, h4⟩
theorem AllW.cons {g : Nat} {f : List Nd} {fs : List (List Nd)} (h : IsForm g f) (hl : f.length ≤ 1000) (k : AllW fs) (hn : fs.length < 100) : AllW (f :: fs) := by
 refine ⟨by simp; omega, fun i hi => ?_⟩
 cases i with
 | zero => exact ⟨tV h (by show f.length ≤ _; omega), h.1.lo, hl⟩
 | succ i => exact k.ok i (by simpa using hi)
theorem u8_of {n : Int} (h : 0 ≤ n ∧ n < 256) : n = ((UInt8.ofNat n.toNat).toNat : Int) := by
 rw [UInt8.toNat_ofNat']; omega
theorem wrapB {n : Int} (h : 0 ≤ n ∧ n < 256) : IntKind.u8.wrap n = n := by
 unfold IntKind.wrap
 simp only [IntKind.bits, IntKind.signed]
 simp
 omega
theorem gH (n : Int) : 0 ≤ IntKind.u64.wrap n ∧ IntKind.u64.wrap n < 18446744073709551616 := by
 unfold IntKind.wrap
 simp only [IntKind.bits, IntKind.signed]
 have h1 := Int.emod_nonneg n (b := (2 : Int) ^ 64) (by decide)
 have h2 := Int.emod_lt_of_pos n (b := (2 : Int) ^ 64) (by decide)
 simp at h1 h2 ⊢
 omega
theorem eE {P : Program} {n : Nat} {env : Nat → Value} {w : World} {fn : Func} {R : Ending → World → Prop} {s t b s2 b2 : Nat} {cs ds : List Value} (hr : fn.results = #[.cell s t, .cell s2 t]) (hs : Nat.blt s n = true) (hs2 : Nat.blt s2 n = true) (hv : env s = .pointer (some ⟨b, 0, none⟩)) (hv2 : env s2 = .pointer (some ⟨b2, 0, none⟩)) (ha : (P.underlying t).map aggD = some true) (hz : (P.info? t).map (·.size) = some cs.length) (hz2 : ds.length = cs.length)
  (hc : ∀ j u, cs[j]? = some u → w.cell? ⟨b, 0 + j, none⟩ = some u) (hd : ∀ j u, ds[j]? = some u → w.cell? ⟨b2, 0 + j, none⟩ = some u) (h : R (.returned (.tuple #[.agg cs.toArray, .agg ds.toArray])) w) : bodyPost P fn R .ret (F n env) w := by
 have h2 : s < n := by simpa [Nat.blt_eq] using hs
 have h3 : s2 < n := by simpa [Nat.blt_eq] using hs2
 have key : ∀ (b : Nat) (cs : List Value), (P.info? t).map (·.size) = some cs.length → (∀ j u, cs[j]? = some u → w.cell? ⟨b, 0 + j, none⟩ = some u) → (loadVar t ⟨b, 0, none⟩).run P w = .ok (.agg cs.toArray) w := fun b cs hz hc => by
  have hcell : ∀ j u, cs[j]? = some u → w.cell? ((⟨b, 0, none⟩ : Addr).add j) = some u := fun j u hj => by
   have := hc j u hj
   simp only [Addr.add]
   split
   ·simp_all
   ·exact this
  unfold loadVar
  simp only [Sem.run_bind, run_isAgg ha, Result.andThen_ok, if_true, run_sizeOf hz, run_loadCells_list (P := P) w ⟨b, 0, none⟩ cs hcell, Sem.run_pure]
 have hl1 := key b cs hz hc
 have hl2 := key b2 ds (by rw [hz2]; exact hz) hd
 refine bodyPost_ret (v := .tuple #[.agg cs.toArray, .agg ds.toArray]) ?_ rfl h
 have he : (F n env).tmps[s]?.getD undef = .pointer (some ⟨b, 0, none⟩) := by simp [F, h2, hv]
 have he2 : (F n env).tmps[s2]?.getD undef = .pointer (some ⟨b2, 0, none⟩) := by simp [F, h3, hv2]
 simp [results, hr, he, he2, asAddr, hl1, hl2]
section
variable {P : Program} {ρ : Operand → Value} {w : World} {K : Value → World → Prop} {d : Option Nat} {t ty e : Nat} {pos : String} {aft : Array Edge} {g : Option (Nat × Bool)} {x y : Operand} {G : Pin} {v : Value}
theorem run_setNL {base : Nat} {xs : List Nd} {z : Int} {u : Value} {l : List Int} (hs : (P.info? t).map (·.size) = some 1) (hx : ρ x = eptr v z 2 0) (hy : ρ y = u) (hu : RSl eInt G u l) (hP : Pins G w) (hv : Own eNode e G w base v xs) (h0 : 0 ≤ z) (h1 : z < xs.length) :
  ∃ w', (execOp ρ ⟨d, .store t x y, ty, pos, aft, g⟩).run P w = .ok .skip w' ∧ Own eNode e G w' base v (xs.set z.toNat ⟨l, (xs.getD z.toNat default).r⟩) ∧ Pins G w' ∧ w.grownBy w' v.ownBlock ∧ w'.heap.size = w.heap.size := by
 have hz : z.toNat < xs.length := by omega
 obtain ⟨cells, hown, hr⟩ := hv.ex
 have hel := hr z.toNat _ (List.getElem?_eq_getElem hz)
 have hx1 : xs[z.toNat] = xs.getD z.toNat default := by simp [List.getD, hz]
 rw [hx1] at hel
 obtain ⟨u0, v0, hcells, hl0, hr0⟩ := hel
 have hone := hu.one
 have hone0 := hr0.one
 obtain ⟨gb, w', hb, hp, hrun, a1, a2, a3, a4⟩ := hv.setAt (P := P) h0 h1 (q := ⟨l, (xs.getD z.toNat default).r⟩) (cs := [u, v0]) ⟨u, v0, rfl, hu, hr0⟩ hP
 rcases hown.2 with ⟨rfl, hl0⟩ | ⟨g', cap, cur, rfl, hbg, hg, hnc, hcm, hcs, htake⟩
 ·omega
 ·have hgb : gb = g' := by simpa [Value.ownBlock] using hb.symm
  subst hgb
  have e2 : eNode.size = 2 := rfl
  rw [e2] at hrun hcs htake hcells hp
  have hle1 : z.toNat * 2 + 2 ≤ cur.size := by omega
  rw [← htake] at hcells
  have hc : ∀ k a, ([u0, v0] : List Value)[k]? = some a → cur.toList[z.toNat * 2 + k]? = some a := fun k a ha => by
   have hk : k < 2 := by have := (List.getElem?_eq_some_iff.1 ha).1; simpa using this
   have h3 : ((((cur.toList.take (xs.length * 2)).drop (z.toNat * 2)).take 2)[k]?) = some a := by rw [hcells]; exact ha
   rw [List.getElem?_take, if_pos hk, List.getElem?_drop, List.getElem?_take, if_pos (by omega)] at h3
   exact h3
  have c1 := hc 1 _ rfl
  have r1 := run_storeCells_at P gb (z.toNat * 2) e [u, v0] 0 cur w hg (by simpa using hle1) (by intro a ha; simp at ha; rcases ha with rfl | rfl <;> assumption)
  have r2 := run_storeCells_at P gb (z.toNat * 2) e [u] 0 cur w hg (by simp; omega) (by intro a ha; simp at ha; subst ha; assumption)
  simp only [Nat.add_zero] at r1 r2
  have hw : w' = w.setRow gb (cur.toList.take (z.toNat * 2) ++ [u] ++ cur.toList.drop (z.toNat * 2 + [u].length)).toArray := by
   rw [hrun] at r1
   have hw1 := (Result.ok.inj r1).2
   rw [hw1]
   congr 2
   have hd1 : cur.toList.drop (z.toNat * 2 + 1) = v0 :: cur.toList.drop (z.toNat * 2 + 2) := by
    obtain ⟨h7, h8⟩ := List.getElem?_eq_some_iff.1 c1
    rw [List.drop_eq_getElem_cons h7, h8]
   simp [hd1]
  have hpt : eptr (.slice (some ⟨gb, 0, none⟩) xs.length cap) z 2 0 = .pointer (some ⟨gb, z.toNat * 2, none⟩) := by
   clear hx hrun r1 r2 hw hr hc hp a1 hv hown
   simp only [eptr, Addr.add]; split <;> simp_all
  rw [hpt] at hx
  refine ⟨w', ?_, a1, a2, a3, a4⟩
  have hlv : (storeVar t ⟨gb, z.toNat * 2, none⟩ u).run P w = .ok () w' := by
   have hc2 : u.cells = #[u] := xE hone
   unfold storeVar
   simp only [Sem.run_bind, run_sizeOf hs, Result.andThen_ok, hc2]
   simp only [List.size_toArray, List.length_cons, List.length_nil, Nat.zero_add, ne_eq, not_true_eq_false, if_false]
   rw [r2, hw]
  simp only [execOp, hx, hy, Instr.storeAt, Instr.sureAddr, Sem.run_bind, Sem.run_pure, Result.andThen_ok, hlv]
theorem o_setNL {base : Nat} {xs : List Nd} {z : Int} {u : Value} {l : List Int} (hs : (P.info? t).map (·.size) = some 1) (hx : ρ x = eptr v z 2 0) (hy : ρ y = u) (hu : RSl eInt G u l) (hP : Pins G w) (hv : Own eNode e G w base v xs) (h0 : 0 ≤ z) (h1 : z < xs.length)
  (h : ∀ w', Own eNode e G w' base v (xs.set z.toNat ⟨l, (xs.getD z.toNat default).r⟩) → Pins G w' → w.grownBy w' v.ownBlock → w'.heap.size = w.heap.size → K undef w') : EO P ρ ⟨d, .store t x y, ty, pos, aft, g⟩ w K := by
 obtain ⟨w', h2, h3, h4, h5, h6⟩ := run_setNL (d := d) (ty := ty) (pos := pos) (aft := aft) (g := g) hs hx hy hu hP hv h0 h1
 exact EO.skip h2 (h w' h3 h4 h5 h6)
end
end Go.GL
namespace Go.GL
open Go Go.RowKit
abbrev DS := Int × Int
def nxB (code : List UInt8) (a : Int) : Int := if a < (code.length : Int) then ((code.getD a.toNat 0).toNat : Int) else 0
def nxS (code : List UInt8) (a s : Int) : Int := IntKind.u64.wrap (IntKind.u64.wrap (IntKind.u64.wrap (s * 6364136223846793005) + nxB code a) + 868868)
def nextF (code : List UInt8) (d : DS) : Int × DS :=
 (if d.1 + 1 ≤ (code.length : Int) then nxB code d.1 else andW .u64 (Int.fdiv (nxS code d.1 d.2) (2 ^ (min (40 : Int).toNat 64))) 255, d.1 + 1, nxS code d.1 d.2)
def pickF (code : List UInt8) (n : Int) (d : DS) : Int × DS :=
 if n ≤ 1 then (0, d) else if 200 < n then (((nextF code d).1 * 256 + (nextF code (nextF code d).2).1) % n, (nextF code (nextF code d).2).2) else ((nextF code d).1 % n, (nextF code d).2)
def oneF (code : List UInt8) (n : Int) (d : DS) : Bool × DS := (decide ((pickF code n d).1 = 0), (pickF code n d).2)
def amongF (code : List UInt8) (xs : List Int) (d : DS) : Int × DS := (xs.getD (pickF code (xs.length : Int) d).1.toNat 0, (pickF code (xs.length : Int) d).2)
def picksF (code : List UInt8) (n : Int) : Nat → DS → List Nat × DS
 | 0, d => ([], d)
 | k + 1, d => ((picksF code n k d).1 ++ [(pickF code n (picksF code n k d).2).1.toNat], (pickF code n (picksF code n k d).2).2)
def someF (code : List UInt8) (n m : Int) (d : DS) : List Nat × DS := picksF code n (pickF code (m + 1) d).1.toNat (pickF code (m + 1) d).2
noncomputable def sq0 : Nat := mkG [] []
noncomputable def sq1 : Nat := mkG [sq0] []
noncomputable def sq2 : Nat := mkG [] [sq0]
noncomputable def sq3 : Nat := mkG [sq0] [sq0]
noncomputable def sq4 : Nat := mkG [sq0] [sq3]
noncomputable def sq5 : Nat := mkG [sq0] [sq1]
noncomputable def sq6 : Nat := mkG [sq1] [sq2]
noncomputable def sq7 : Nat := mkG [sq0, sq3] [sq0, sq3]
noncomputable def sq8 : Nat := mkG [sq3] [sq0]
noncomputable def smallQ : List Nat := [sq0, sq1, sq2, sq3, sq4, sq5, sq6, sq7, sq8]
def takeI (Q : List Nat) (is : List Nat) : List Nat := is.map fun i => Q.getD i 0
noncomputable def formN (code : List UInt8) : Nat → DS → List Nat × DS
 | 0, d => (smallQ, d)
 | k + 1, d =>
  let r := formN code k d
  let l := someF code (r.1.length : Int) 2 r.2
  let x := someF code (r.1.length : Int) 2 l.2
  (r.1 ++ [mkG (takeI r.1 l.1) (takeI r.1 x.1)], x.2)
noncomputable def formD (code : List UInt8) (n : Nat) (d : DS) : Nat × DS :=
 let r := formN code n d
 let o := oneF code 3 r.2
 if o.1 = true then (r.1.getD (pickF code (r.1.length : Int) o.2).1.toNat 0, (pickF code (r.1.length : Int) o.2).2) else (r.1.getD (r.1.length - 1) 0, o.2)
noncomputable def anyT (code : List UInt8) (f : List Nd) (k t : Int) (d : DS) : List Nd × DS :=
 if t = 0 then (f.set k.toNat ⟨(f.getD k.toNat default).l ++ [(amongF code [0, k, -1, 1] d).1], (f.getD k.toNat default).r⟩, (amongF code [0, k, -1, 1] d).2)
 else if t = 1 then (f ++ [⟨[], [0]⟩], d)
 else if t = 2 then (f.take (f.length - 1), d)
 else if t = 3 then ((f.set 0 (f.getD k.toNat default)).set k.toNat (f.getD 0 default), d)
 else (f, d)
noncomputable def anyF (code : List UInt8) (n : Nat) (d : DS) : List Nd × DS :=
 let g := formD code n d
 let f := formG g.1
 let k := pickF code (f.length : Int) g.2
 let t := pickF code 24 k.2
 anyT code f k.1 t.1 t.2
noncomputable def drF (code : List UInt8) : List Nd :=
 let o := oneF code 8 (0, 0)
 if o.1 = true then
  let a := formD code 5 o.2
  let b := formD code 6 a.2
  let c := formD code 6 b.2
  formG (mkG [a.1, b.1] [c.1])
 else (anyF code 4 o.2).1
noncomputable def vfF (code : List UInt8) : List Nd := if goodB (drF code) = true ∧ (drF code).length ≤ 30 then drF code else zF
theorem vf_yes {code : List UInt8} (h : goodB (drF code) = true) (k : (drF code).length ≤ 30) : vfF code = drF code := if_pos ⟨h, k⟩
theorem vf_no1 {code : List UInt8} (h : goodB (drF code) = false) : vfF code = zF := if_neg fun k => by rw [h] at k; cases k.1
theorem vf_no2 {code : List UInt8} (h : ¬ (drF code).length ≤ 30) : vfF code = zF := if_neg fun k => h k.2
theorem pick_small {code : List UInt8} {n : Int} {d : DS} (h : n ≤ 1) : (0, d) = pickF code n d := (if_pos h).symm
theorem pick_one {code : List UInt8} {n z a' s' : Int} {d : DS} (h : ¬ n ≤ 1) (h2 : ¬ 200 < n) (e : (z, a', s') = nextF code d) : (z % n, a', s') = pickF code n d := by
 unfold pickF; rw [if_neg h, if_neg h2, ← e]
theorem pick_two {code : List UInt8} {n z a' s' y a2 s2 : Int} {d : DS} (h : ¬ n ≤ 1) (h2 : 200 < n) (e : (z, a', s') = nextF code d) (e2 : (y, a2, s2) = nextF code (a', s')) : ((z * 256 + y) % n, a2, s2) = pickF code n d := by
 unfold pickF; rw [if_neg h, if_pos h2, ← e]; simp only; rw [← e2]
theorem one_of {code : List UInt8} {n z a' s' : Int} {d : DS} (e : (z, a', s') = pickF code n d) : (decide (z = 0), a', s') = oneF code n d := by unfold oneF; rw [← e]
theorem among_of {code : List UInt8} {xs : List Int} {z a' s' : Int} {d : DS} (e : (z, a', s') = pickF code (xs.length : Int) d) : (xs.getD z.toNat 0, a', s') = amongF code xs d := by unfold amongF; rw [← e]
theorem picks_next {code : List UInt8} {n z a' s' a2 s2 : Int} {k : Nat} {is : List Nat} {d : DS} (h : (is, a', s') = picksF code n k d) (e : (z, a2, s2) = pickF code n (a', s')) : (is ++ [z.toNat], a2, s2) = picksF code n (k + 1) d := by
 rw [picksF, ← h]; simp only; rw [← e]
theorem some_of {code : List UInt8} {n m z a' s' a2 s2 : Int} {k : Nat} {is : List Nat} {d : DS} (e : (z, a', s') = pickF code (m + 1) d) (h : (is, a2, s2) = picksF code n k (a', s')) (hk : k = z.toNat) : (is, a2, s2) = someF code n m d := by
 subst hk; unfold someF; rw [← e]; exact h
abbrev VG := Value × Nat
def FrP (e base : Nat) (G : Pin) (w : World) (ps : List VG) : Prop := ∀ p ∈ ps, Tk e base G w p.1 (formG p.2)
section
variable {e base : Nat} {G G' : Pin} {w w' : World} {ps qs rs : List VG} {x row : Option Nat}
theorem FrP.nil : FrP e base G w [] := fun _ h => (List.not_mem_nil h).elim
theorem FrP.le (h : FrP e base G w ps) (hl : Pin.le G G') : FrP e base G' w ps := fun v hv => (h v hv).le hl
theorem FrP.below (h : FrP e base G w ps) (hb : Below w.heap.size w w') : FrP e base G w' ps := fun v hv => (h v hv).below hb
theorem FrP.ext (h : FrP e base G w ps) (hx : Ext noS G w G' w') : FrP e base G' w' ps := fun v hv => (h v hv).ext hx
theorem FrP.kept (h : FrP e base G w ps) (hg : w.grownBy w' row) (hf : ∀ k, row = some k → ∀ o u, ¬ G k o u) : FrP e base G w' ps := fun v hv => (h v hv).kept hg hf
theorem FrP.turned (h : FrP e base G w ps) (hx : Ext (inO x) G w G' w') (hf : ∀ k, x = some k → ∀ o u, ¬ G k o u) : FrP e base G' w' ps := fun v hv => (h v hv).turned hx hf
theorem FrP.mem (h : FrP e base G w ps) (hu : ∀ p ∈ qs, p ∈ ps) : FrP e base G w qs := fun v hv => h v (hu v hv)
theorem FrP.wide (h : FrP e base G w ps) {base' : Nat} (hb : base' ≤ base) : FrP e base' G w ps := fun v hv => by
 have b := h v hv
 obtain ⟨Gi, h1, h2⟩ := b.own
 exact ⟨⟨Gi, h1.weaken hb, h2⟩, b.rd, b.lo⟩
theorem FrP.cons (h : FrP e base G w ps) {v : Value} {g : Nat} (hv : Tk e base G w v (formG g)) : FrP e base G w ((v, g) :: ps) := fun u hu => by
 rcases List.mem_cons.1 hu with rfl | hu
 ·exact hv
 ·exact h u hu
theorem FrP.one (h : FrP e base G w ps) {p : VG} (hv : p ∈ ps) : p.1.oneCell' = true := (h p hv).one
theorem FrP.reads (h : FrP e base G w ps) : ∀ i, i < (ps.map Prod.fst).length → RSl eNode G ((ps.map Prod.fst).getD i default) (((ps.map Prod.snd).map formG).getD i []) := fun i hi => by
 have hi' : i < ps.length := by simpa using hi
 have h1 := (h _ (List.getElem_mem hi')).rd
 simpa [List.getD, hi'] using h1
end
theorem KQ.mem {Q R : List Nat} (h : KQ Q) (h1 : ∀ x, x ∈ Q ↔ x ∈ R) : KQ R := ⟨fun g hg => h.is g ((h1 g).2 hg), fun g hg x hx => (h1 x).1 (h.sub g ((h1 g).2 hg) x hx)⟩
theorem snoc_iff {α : Type} {l : List α} {a : α} : ∀ x, x ∈ a :: l ↔ x ∈ l ++ [a] := fun x => by simp [or_comm]
theorem snoc_memP {l : List VG} {a : VG} : ∀ p ∈ l ++ [a], p ∈ a :: l := fun p hp => (snoc_iff p).2 hp
theorem mG {ps : List VG} {is : List Nat} (h : ∀ i ∈ is, i < ps.length) : (is.map fun i => (ps.map Prod.fst).getD i default) = (is.map fun i => ps.getD i default).map Prod.fst ∧ takeI (ps.map Prod.snd) is = (is.map fun i => ps.getD i default).map Prod.snd ∧ ∀ p ∈ is.map (fun i => ps.getD i default), p ∈ ps := by
 refine ⟨?_, ?_, fun p hp => ?_⟩
 ·rw [List.map_map]
  refine List.map_congr_left fun i hi => ?_
  have := h i hi
  simp [List.getD, this]
 ·unfold takeI
  rw [List.map_map]
  refine List.map_congr_left fun i hi => ?_
  have := h i hi
  simp [List.getD, this]
 ·obtain ⟨i, hi, rfl⟩ := List.mem_map.1 hp
  have := h i hi
  simp [List.getD, this]
theorem fdr_next {code : List UInt8} {k : Nat} {d : DS} {Q : List Nat} {a s a1 s1 a2 s2 : Int} {is js : List Nat} (h : (Q, a, s) = formN code k d) (h1 : (is, a1, s1) = someF code (Q.length : Int) 2 (a, s)) (h2 : (js, a2, s2) = someF code (Q.length : Int) 2 (a1, s1)) : (Q ++ [mkG (takeI Q is) (takeI Q js)], a2, s2) = formN code (k + 1) d := by
 rw [formN, ← h]; simp only; rw [← h1]; simp only; rw [← h2]
theorem fdr_pick {code : List UInt8} {k : Nat} {d : DS} {Q : List Nat} {a s a1 s1 a2 s2 z : Int} (h : (Q, a, s) = formN code k d) (h1 : (true, a1, s1) = oneF code 3 (a, s)) (h2 : (z, a2, s2) = pickF code (Q.length : Int) (a1, s1)) : (Q.getD z.toNat 0, a2, s2) = formD code k d := by
 unfold formD; rw [← h]; simp only; rw [← h1]; simp only [if_true]; rw [← h2]
theorem fdr_last {code : List UInt8} {k : Nat} {d : DS} {Q : List Nat} {a s a1 s1 : Int} (h : (Q, a, s) = formN code k d) (h1 : (false, a1, s1) = oneF code 3 (a, s)) : (Q.getD (Q.length - 1) 0, a1, s1) = formD code k d := by
 unfold formD; rw [← h]; simp only; rw [← h1]; simp only [Bool.false_eq_true, if_false]
theorem rE {code : List UInt8} {n : Nat} {d : DS} {g : Nat} {a s k a1 s1 t a2 s2 : Int} {fs : List Nd} {d' : DS} (h : (g, a, s) = formD code n d) (h1 : (k, a1, s1) = pickF code ((formG g).length : Int) (a, s)) (h2 : (t, a2, s2) = pickF code 24 (a1, s1)) (h3 : (fs, d') = anyT code (formG g) k t (a2, s2)) : (fs, d') = anyF code n d := by
 unfold anyF; rw [← h]; simp only; rw [← h1]; simp only; rw [← h2]; exact h3
theorem dr_long {code : List UInt8} {a b c : Nat} {a0 s0 a1 s1 a2 s2 a3 s3 : Int} (h : (true, a0, s0) = oneF code 8 (0, 0)) (h1 : (a, a1, s1) = formD code 5 (a0, s0)) (h2 : (b, a2, s2) = formD code 6 (a1, s1)) (h3 : (c, a3, s3) = formD code 6 (a2, s2)) : formG (mkG [a, b] [c]) = drF code := by
 unfold drF; rw [← h]; simp only [if_true]; rw [← h1]; simp only; rw [← h2]; simp only; rw [← h3]
theorem dr_any {code : List UInt8} {fs : List Nd} {a0 s0 a1 s1 : Int} (h : (false, a0, s0) = oneF code 8 (0, 0)) (h1 : (fs, a1, s1) = anyF code 4 (a0, s0)) : fs = drF code := by
 unfold drF; rw [← h]; simp only [Bool.false_eq_true, if_false]; rw [← h1]
def cutF (code : List UInt8) (n : Nat) : List UInt8 := code.drop (min n code.length) ++ [UInt8.ofNat (min n code.length)]
end Go.GL
namespace Go.GL
open Go Go.RowKit
theorem ord_mk {a b : Nat} {la ra lb rb : List Nat} (h1 : ∀ x, loG a x ↔ x ∈ la) (h2 : ∀ x, roG a x ↔ x ∈ ra) (h3 : ∀ x, loG b x ↔ x ∈ lb) (h4 : ∀ x, roG b x ↔ x ∈ rb) :
  mkG (la ++ lb.map (ordG a)) (ra ++ rb.map (ordG a)) = ordG a b := by
 refine gext (fun x => ?_) (fun x => ?_)
 ·rw [lo_mk, lo_ord, List.mem_append, List.mem_map, h1]
  refine or_congr Iff.rfl ⟨?_, ?_⟩
  ·rintro ⟨y, hy, rfl⟩; exact ⟨y, (h3 y).2 hy, rfl⟩
  ·rintro ⟨y, hy, rfl⟩; exact ⟨y, (h3 y).1 hy, rfl⟩
 ·rw [ro_mk, ro_ord, List.mem_append, List.mem_map, h2]
  refine or_congr Iff.rfl ⟨?_, ?_⟩
  ·rintro ⟨y, hy, rfl⟩; exact ⟨y, (h4 y).2 hy, rfl⟩
  ·rintro ⟨y, hy, rfl⟩; exact ⟨y, (h4 y).1 hy, rfl⟩
theorem ord_den {fs gs : List Nd} (hf : OptsOk fs) (hg : OptsOk gs) {i k : Nat} (hi : i < fs.length) (hk : k < gs.length) :
  mkG ((fs.getD i default).l.map (fun o => den fs o.toNat) ++ (gs.getD k default).l.map fun o => ordG (den fs i) (den gs o.toNat))
   ((fs.getD i default).r.map (fun o => den fs o.toNat) ++ (gs.getD k default).r.map fun o => ordG (den fs i) (den gs o.toNat)) = ordG (den fs i) (den gs k) := by
 have e : ∀ l : List Int, (l.map fun o => ordG (den fs i) (den gs o.toNat)) = (l.map fun o => den gs o.toNat).map (ordG (den fs i)) := fun l => by rw [List.map_map]; rfl
 rw [e, e]
 refine ord_mk (fun x => ?_) (fun x => ?_) (fun x => ?_) fun x => ?_
 ·rw [qV hf hi, List.mem_map]; exact ⟨fun ⟨z, h, e⟩ => ⟨z, h, e.symm⟩, fun ⟨z, h, e⟩ => ⟨z, h, e.symm⟩⟩
 ·rw [qU hf hi, List.mem_map]; exact ⟨fun ⟨z, h, e⟩ => ⟨z, h, e.symm⟩, fun ⟨z, h, e⟩ => ⟨z, h, e.symm⟩⟩
 ·rw [qV hg hk, List.mem_map]; exact ⟨fun ⟨z, h, e⟩ => ⟨z, h, e.symm⟩, fun ⟨z, h, e⟩ => ⟨z, h, e.symm⟩⟩
 ·rw [qU hg hk, List.mem_map]; exact ⟨fun ⟨z, h, e⟩ => ⟨z, h, e.symm⟩, fun ⟨z, h, e⟩ => ⟨z, h, e.symm⟩⟩
section
variable {q q' : PSt} {ats : List Int} {k : Nat} {φ : Nat → Nat}
theorem NkOk.px (h : NkOk q ats k φ) (hx : PX q q') (hok : PoolOk q) (hok' : PoolOk q') : NkOk q' ats k φ := GsOk.px h hx hok hok'
end
theorem add_nk {fs : List Nd} (hf : FormOk fs) (hl : fs.length ≤ 524288) : PoolOk (bkq (addM [] [] fs).2.1 (addM [] [] fs).2.2) ∧ NkOk (bkq (addM [] [] fs).2.1 (addM [] [] fs).2.2) (addM [] [] fs).1 fs.length (den fs) ∧ (addM [] [] fs).2.1.length ≤ fs.length := by
 have hd := Ar.add Ar.empty hf (by simp; omega)
 have ha := vS jC hf (by simp; omega)
 have hal := ha.len
 have hhi := ha.hi
 refine ⟨nO hd.ar, ⟨fun z hz => ?_, ?_⟩, by simpa using hhi⟩
 ·obtain ⟨i, hi, rfl⟩ := List.getElem_of_mem hz
  have := ha.places i hi
  rw [show (addM [] [] fs).1.getD i 0 = (addM [] [] fs).1[i] by simp [List.getD, hi]] at this
  exact this
 ·apply List.ext_getElem
  ·simp [hal]
  ·intro i h1 h2
   simp only [List.getElem_map, List.getElem_range]
   have := hd.is i (by simpa using h2)
   rw [show (addM [] [] fs).1.getD i 0 = (addM [] [] fs).1[i]'(by simpa using h1) by simp [List.getD, show i < (addM [] [] fs).1.length by simpa using h1]] at this
   exact this
theorem mS {q : PSt} (hok : PoolOk q) {f b : Int} (hf : PlaceOk q f) (hb : PlaceOk q b) :
  mkG ((q.ns.getD f.toNat default).l.map (pd q) ++ (q.ns.getD b.toNat default).l.map fun o => ordG (pd q f) (pd q o))
   ((q.ns.getD f.toNat default).r.map (pd q) ++ (q.ns.getD b.toNat default).r.map fun o => ordG (pd q f) (pd q o)) = ordG (pd q f) (pd q b) := by
 have e : ∀ l : List Int, (l.map fun o => ordG (pd q f) (pd q o)) = (l.map (pd q)).map (ordG (pd q f)) := fun l => by rw [List.map_map]; rfl
 rw [e, e]
 refine ord_mk (fun x => ?_) (fun x => ?_) (fun x => ?_) fun x => ?_
 ·rw [lo_pd hok hf, List.mem_map]; exact ⟨fun ⟨z, h, e⟩ => ⟨z, h, e.symm⟩, fun ⟨z, h, e⟩ => ⟨z, h, e.symm⟩⟩
 ·rw [ro_pd hok hf, List.mem_map]; exact ⟨fun ⟨z, h, e⟩ => ⟨z, h, e.symm⟩, fun ⟨z, h, e⟩ => ⟨z, h, e.symm⟩⟩
 ·rw [lo_pd hok hb, List.mem_map]; exact ⟨fun ⟨z, h, e⟩ => ⟨z, h, e.symm⟩, fun ⟨z, h, e⟩ => ⟨z, h, e.symm⟩⟩
 ·rw [ro_pd hok hb, List.mem_map]; exact ⟨fun ⟨z, h, e⟩ => ⟨z, h, e.symm⟩, fun ⟨z, h, e⟩ => ⟨z, h, e.symm⟩⟩
structure OmOk (q : PSt) (sm : List (Int × Int)) (ats : List Int) (k a : Nat) (gs : List Nd) : Prop where
 has : ∀ j, j < k → ∃ z, look sm (ats.getD j 0) = some z ∧ PlaceOk q z ∧ pd q z = ordG a (den gs j)
section
variable {q q' : PSt} {sm : List (Int × Int)} {ats : List Int} {k a n : Nat} {gs : List Nd}
theorem OmOk.start : OmOk q sm ats 0 a gs := ⟨fun j hj => absurd hj (Nat.not_lt_zero j)⟩
theorem OmOk.px (h : OmOk q sm ats k a gs) (hx : PX q q') (hok : PoolOk q) (hok' : PoolOk q') : OmOk q' sm ats k a gs := ⟨fun j hj => by
 obtain ⟨z, h1, h2, h3⟩ := h.has j hj
 exact ⟨z, h1, hx.place h2, (hx.pd hok hok' h2).trans h3⟩⟩
theorem OmOk.put {z : Int} (h : OmOk q sm ats k a gs) (hat : NkOk q ats n (den gs)) (hk : k < n) (hz : PlaceOk q z) (hg : pd q z = ordG a (den gs k)) : OmOk q (putE sm (ats.getD k 0) z) ats (k + 1) a gs := ⟨fun j hj => by
 rw [vD]
 split
 ·rename_i e
  have a1 := (hat.at_ (i := j) (by omega)).2
  have a2 := (hat.at_ (i := k) hk).2
  rw [e, a2] at a1
  exact ⟨z, rfl, hz, by rw [hg, a1]⟩
 ·rename_i e
  have hne : j ≠ k := fun h2 => e (by rw [h2])
  exact h.has j (by omega)⟩
theorem OmOk.opt {o : Int} (h : OmOk q sm ats k a gs) (hok : PoolOk q) (hg : OptsOk gs) (hgl : gs.length = n) (hat : NkOk q ats n (den gs)) (hk : k < n) (ho : o ∈ (q.ns.getD (ats.getD k 0).toNat default).l ∨ o ∈ (q.ns.getD (ats.getD k 0).toNat default).r) :
  PlaceOk q ((look sm o).getD 0) ∧ pd q ((look sm o).getD 0) = ordG a (pd q o) := by
 obtain ⟨hz, hd⟩ := hat.at_ hk
 have hop := jB hok hz
 have hpo : PlaceOk q o := ho.elim (hop.1 o) (hop.2 o)
 have oo := xK hg (show k < gs.length by omega)
 obtain ⟨j, hj, e⟩ : ∃ j, j < k ∧ pd q o = den gs j := by
  rcases ho with ho | ho
  ·obtain ⟨z, hz2, e⟩ := (qV hg (show k < gs.length by omega)).1 (hd ▸ (lo_pd hok hz).2 ⟨o, ho, rfl⟩)
   exact ⟨z.toNat, by have := oo.1 z hz2; omega, e⟩
  ·obtain ⟨z, hz2, e⟩ := (qU hg (show k < gs.length by omega)).1 (hd ▸ (ro_pd hok hz).2 ⟨o, ho, rfl⟩)
   exact ⟨z.toNat, by have := oo.2 z hz2; omega, e⟩
 obtain ⟨hj1, hj2⟩ := hat.at_ (i := j) (by omega)
 have h1 := hpo.1
 have h2 := hpo.2
 have h3 := hj1.1
 have h4 := hj1.2
 have hi := hok.ar.inj (i := o.toNat) (j := (ats.getD j 0).toNat) (by omega) (by omega) (e.trans hj2.symm)
 have hoj : o = ats.getD j 0 := by omega
 obtain ⟨z, e1, e2, e3⟩ := h.has j hj
 rw [hoj, e1]
 exact ⟨e2, by rw [← hoj, e]; exact e3⟩
end
theorem LdOk.nk {fs : List Nd} {q q2 : PSt} {ats : List Int} {n : Nat} (h : LdOk fs q q2 n ats) : NkOk q2 ats n (GL.den fs) := by
 have hl := h.len
 refine ⟨fun z hz => ?_, ?_⟩
 ·obtain ⟨i, hi, rfl⟩ := List.getElem_of_mem hz
  have := (h.pl i (by omega)).1
  rwa [show ats.getD i 0 = ats[i] by simp [List.getD, hi]] at this
 ·apply List.ext_getElem
  ·simp [hl]
  ·intro i h1 h2
   simp only [List.getElem_map, List.getElem_range]
   have := (h.pl i (by simpa using h2)).2
   rwa [show ats.getD i 0 = ats[i]'(by simpa using h1) by simp [List.getD, show i < ats.length by simpa using h1]] at this
noncomputable def ordF (fs gs : List Nd) : List Nd := if pairB fs gs = true then frmG (ordG (gOf fs) (gOf gs)) else []
noncomputable def ordB (fs gs : List Nd) : Bool := if pairB fs gs = true then fitB (ordG (gOf fs) (gOf gs)) else false
theorem ord_no {fs gs : List Nd} (h : pairB fs gs = false) : ordF fs gs = [] ∧ ordB fs gs = false := by
 unfold ordF ordB; rw [h]; exact ⟨rfl, rfl⟩
theorem gP {fs gs : List Nd} (h : pairB fs gs = true) : ordF fs gs = frmG (ordG (gOf fs) (gOf gs)) ∧ ordB fs gs = fitB (ordG (gOf fs) (gOf gs)) := by
 unfold ordF ordB; rw [if_pos h, if_pos h]; exact ⟨rfl, rfl⟩
end Go.GL
namespace Go.GL
open Go Go.RowKit
end Go.GL
namespace Go.GL
open Go Go.RowKit
section
variable {P : Program} {w : World} {ρ : Operand → Value} {d : Option Nat} {t t' ty : Nat} {pos : String} {aft : Array Edge} {g : Option (Nat × Bool)} {x y : Operand} {i j : Int}
end
end Go.GL
namespace Go.GL
open Go Go.RowKit
end Go.GL
namespace Go.GL
open Go Go.RowKit
end Go.GL
namespace Go.GL
open Go Go.RowKit
theorem zero_g : gOf zF = 0 := by
 show mkG [] [] = 0
 exact gext (fun i => by rw [lo_mk]; exact ⟨fun h => (List.not_mem_nil h).elim, fun h => (sR h).elim⟩) (fun i => by rw [ro_mk]; exact ⟨fun h => (List.not_mem_nil h).elim, fun h => (sF h).elim⟩)
end Go.GL
namespace Go.GL
open Go Go.RowKit
theorem d_prom {en e : Nat} {G G' : Pin} {w w' : World} {u : Value} {ns : List Nd} (hd : DForm en e G' w' w.heap.size w'.heap.size u ns) (hx : Ext noS G w G' w') : ∃ G2, RSl eNode G2 u ns ∧ Ext noS G w G2 w' := by
 obtain ⟨G2, hl, hp, hr, hf⟩ := hd.read hx.pins
 exact ⟨G2, hr, hx.promise hl hp hf (Nat.le_refl _)⟩
end Go.GL
namespace Go.GL
open Go Go.RowKit
theorem fit_good {g : Nat} (h : fitB g = true) : GoodP (frmG g) ∧ gOf (frmG g) = g := by
 have hp := decP_true.1 h
 have e : frmG g = formG g := by unfold frmG; rw [if_pos h]
 by_cases hx : ∃ ns, IsForm g ns
 ·obtain ⟨ns, hf⟩ := hx
  rw [e, hf.eq]
  rw [hf.eq] at hp
  exact ⟨sg_good hf.1 hp, hf.2⟩
 ·exfalso
  have hn : formG g = [] := by unfold formG; exact dif_neg hx
  have hl := hp.lim.1
  rw [hn] at hl
  exact absurd hl (by decide)
theorem pA {a : List Nd} (h : GoodP a) : pairB zF a = true ∧ pairB a zF = true := by
 have h1 := h.hi
 exact ⟨pair_iff.2 ⟨goodP_zF, h, by show 1 * a.length ≤ 1600; omega⟩, pair_iff.2 ⟨h, goodP_zF, by show a.length * 1 ≤ 1600; omega⟩⟩
theorem fD (a : Nat) : ∀ (n b c : Nat), b + c ≤ n → (geG (ordG a b) (ordG a c) ↔ geG b c)
 | 0, b, c, hn => by
  have h1 : b = 0 := by omega
  have h2 : c = 0 := by omega
  subst h1 h2
  exact ⟨fun _ => tB _, fun _ => tB _⟩
 | n + 1, b, c, hn => by
  constructor
  ·intro h
   rw [ge_iff]
   exact ⟨fun r hr hg => (ge_iff.1 h).1 (ordG a r) (ro_ord.2 (Or.inr ⟨r, hr, rfl⟩)) ((fD a n c r (by have := hr.lt; omega)).2 hg),
    fun l hl hg => (ge_iff.1 h).2 (ordG a l) (lo_ord.2 (Or.inr ⟨l, hl, rfl⟩)) ((fD a n l b (by have := hl.lt; omega)).2 hg)⟩
  ·intro h
   rw [ge_iff]
   refine ⟨fun r hr hg => ?_, fun l hl hg => ?_⟩
   ·rcases ro_ord.1 hr with k | ⟨r', k, rfl⟩
    ·exact sM (ro_ord.2 (Or.inl k)) hg
    ·exact (ge_iff.1 h).1 r' k ((fD a n c r' (by have := k.lt; omega)).1 hg)
   ·rcases lo_ord.1 hl with k | ⟨l', k, rfl⟩
    ·exact not_ge_left (lo_ord.2 (Or.inl k)) hg
    ·exact (ge_iff.1 h).2 l' k ((fD a n l' b (by have := k.lt; omega)).1 hg)
theorem ord_ge {a b c : Nat} : geG (ordG a b) (ordG a c) ↔ geG b c := fD a _ b c (Nat.le_refl _)
theorem mT {fs gs : List Nd} (h : ordB fs gs = true) : GoodP fs ∧ GoodP gs ∧ GoodP (ordF fs gs) ∧ gOf (ordF fs gs) = ordG (gOf fs) (gOf gs) := by
 cases hp : pairB fs gs
 ·rw [(ord_no hp).2] at h; cases h
 ·have k := pair_iff.1 hp
  obtain ⟨e1, e2⟩ := gP hp
  rw [e2] at h
  have f := fit_good h
  exact ⟨k.a, k.b, by rw [e1]; exact f.1, by rw [e1]; exact f.2⟩
theorem ord_top {a : List Nd} (h : GoodP a) : ordB zF a = true ∧ ordF zF a = a ∧ ordB a zF = true ∧ ordF a zF = a := by
 obtain ⟨e1, e2⟩ := gP (pA h).1
 obtain ⟨e3, e4⟩ := gP (pA h).2
 rw [e1, e2, e3, e4, zero_g, zero_ord, ord_zero]
 exact ⟨(gW h).2, (gW h).1, (gW h).2, (gW h).1⟩
theorem ord_al {a b c : List Nd} (h : ordB a b = true) (k : ordB a c = true) : alB (ordF a b) (ordF a c) = alB b c := by
 have h1 := mT h
 have k1 := mT k
 rw [(nQ h1.2.2.1 k1.2.2.1).1, (nQ h1.2.1 k1.2.1).1, h1.2.2.2, k1.2.2.2, show geG (ordG (gOf a) (gOf b)) (ordG (gOf a) (gOf c)) = geG (gOf b) (gOf c) from propext ord_ge]
end Go.GL
namespace Go.GL
end Go.GL
