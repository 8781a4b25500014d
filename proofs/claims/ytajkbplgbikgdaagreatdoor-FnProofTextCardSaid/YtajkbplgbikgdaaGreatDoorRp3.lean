/- Texts of this claim in one file: Deep, Text, Table, Part, Game, Den, Map, Prf, Ord, Key, Sort, Sg, Pool, Opts, Load, Great, Uniq, Dom, PrfB, PrfC, PrfD, Uses, Bend, Txt, Ptx, Pty, Ptw, Pbn, Byte, Ptr, Pts, Rev, Canon, Red, Parts, Rank, SortF, Frm, Bud, Bkq, Sum, Make, Tiny, LitA, Draw. -/
import Derived.Test.YtajkbplgbikgdaaGreatDoorRp2
import Derived.Lib.SliceRun
import Derived.Lib.Join
import Derived.Carry
import Derived.MapKept
import Derived.Laws.BytesString
import Derived.Sort.Row
import Derived.Sort.Grow
import Derived.Lib.SlicesCompact
import Derived.Lib.SplitLaws
import Derived.Lib.IndexBytes
import Derived.Lib.ItoaNum
import Derived.Lib.AtoiTie
import Derived.Stop.IfaceNil
import Derived.Deep.Draws
import Derived.Lib.IndexMore
import Derived.Shelf.SlSortCmp.NoneTotal
import Derived.Lib.QuietBelow
namespace Go.GL
open Go Go.RowKit
def eVal : Elt Value where
 size := 1
 rep := fun _ cs v => cs = [v] ∧ v.oneCell' = true
 mono := fun _ h => h
 len := fun h => by rw [h.1]; rfl
 one := fun h u hu => by rw [h.1] at hu; simp at hu; subst hu; exact h.2
def eVal2 : Elt (Value × Value) where
 size := 2
 rep := fun _ cs p => cs = [p.1, p.2] ∧ p.1.oneCell' = true ∧ p.2.oneCell' = true
 mono := fun _ h => h
 len := fun h => by rw [h.1]; rfl
 one := fun h u hu => by
  rw [h.1] at hu; simp at hu
  rcases hu with rfl | rfl
  ·exact h.2.1
  ·exact h.2.2
def Flat {α : Type} (E : Elt α) : Prop := ∀ {G G' : Pin} {cs : List Value} {x : α}, E.rep G cs x → E.rep G' cs x
theorem flat_int : Flat eInt := fun h => h
theorem Own.anti {α : Type} {E : Elt α} {e base : Nat} {G G' : Pin} {w : World} {v : Value} {xs : List α} (hE : Flat E) (h : Own E e G' w base v xs) (hg : Pin.le G G') : Own E e G w base v xs := by
 obtain ⟨cells, h1, h2⟩ := h.ex
 exact ⟨⟨cells, h1, fun i x hx => hE (h2 i x hx)⟩, fun k hk o u hu => h.free k hk o u (hg _ _ _ hu)⟩
theorem RSl.conv {α β : Type} {E : Elt α} {F : Elt β} {G : Pin} {v : Value} {xs : List α} {ys : List β} (h : RSl E G v xs) (hl : ys.length = xs.length) (hs : F.size = E.size) (hr : ∀ (i : Nat) x y cs, xs[i]? = some x → ys[i]? = some y → E.rep G cs x → F.rep G cs y) : RSl F G v ys := by
 refine ⟨?_, fun i y hy => ?_⟩
 ·obtain ⟨a, c, h1, h2, h3⟩ := h.sl
  exact ⟨a, c, by rw [hl]; exact h1, by rw [hl]; exact h2, h3⟩
 ·have hi : i < xs.length := by have := (List.getElem?_eq_some_iff.1 hy).1; omega
  obtain ⟨a, b, o, n, c, cs, h1, h2, h3, h4⟩ := h.at_ i _ (List.getElem?_eq_getElem hi)
  exact ⟨a, b, o, n, c, cs, h1, by rw [hs]; exact h2, hr i _ y cs (List.getElem?_eq_getElem hi) hy h3, h4⟩
abbrev Leaf := Value × List Int
structure Lvs (e : Nat) (G : Pin) (w : World) (lo hi : Nat) (L : List Leaf) : Prop where
 own : ∀ p ∈ L, Own eInt e G w lo p.1 p.2
 hi : ∀ p ∈ L, ∀ k, p.1.ownBlock = some k → k < hi
 ap : L.Pairwise fun p q => Apart p.1.ownBlock q.1.ownBlock
def ApL (L : List Leaf) (x : Option Nat) : Prop := ∀ p ∈ L, Apart p.1.ownBlock x
section
variable {e lo hi : Nat} {G G' : Pin} {w w' : World} {L L' : List Leaf}
theorem Lvs.nil : Lvs e G w lo hi [] := ⟨fun _ hp => (List.not_mem_nil hp).elim, fun _ hp => (List.not_mem_nil hp).elim, List.Pairwise.nil⟩
variable {x : Option Nat} {xs : List Int}
theorem ApL.nil : ApL [] x := fun _ hp => (List.not_mem_nil hp).elim
theorem Lvs.ge (h : Lvs e G w lo hi L) : ∀ p ∈ L, ∀ k, p.1.ownBlock = some k → lo ≤ k ∧ k < w.heap.size := fun p hp k hk => (h.own p hp).lt k hk
theorem Lvs.map (h : Lvs e G w lo hi L) (f : ∀ p ∈ L, Own eInt e G w lo p.1 p.2 → Own eInt e G' w' lo p.1 p.2) : Lvs e G' w' lo hi L := ⟨fun p hp => f p hp (h.own p hp), h.hi, h.ap⟩
theorem Lvs.below (h : Lvs e G w lo hi L) (hb : Below w.heap.size w w') : Lvs e G w' lo hi L := h.map fun _ _ ho => ho.below hb
theorem Lvs.ext (h : Lvs e G w lo hi L) (hx : Ext noS G w G' w') : Lvs e G' w' lo hi L := h.map fun _ _ ho => ho.ext hx
theorem Lvs.extS {S : Nat → Prop} (h : Lvs e G w lo hi L) (hx : Ext S G w G' w') (hS : ∀ k, lo ≤ k → k < hi → ¬ S k) : Lvs e G' w' lo hi L :=
 h.map fun p hp ho => ho.extS hx fun k hk => hS k (ho.lt k hk).1 (h.hi p hp k hk)
theorem Lvs.kept {row : Option Nat} (h : Lvs e G w lo hi L) (hg : w.grownBy w' row) (ha : ApL L row) : Lvs e G w' lo hi L := h.map fun p hp ho => ho.keptA hg (ha p hp)
theorem Lvs.weaken {lo' hi' : Nat} (h : Lvs e G w lo hi L) (hl : lo' ≤ lo) (hh : hi ≤ hi') : Lvs e G w lo' hi' L :=
 ⟨fun p hp => (h.own p hp).weaken hl, fun p hp k hk => Nat.lt_of_lt_of_le (h.hi p hp k hk) hh, h.ap⟩
theorem Lvs.top (h : Lvs e G w lo hi L) : Lvs e G w lo w.heap.size L := ⟨h.own, fun p hp k hk => ((h.own p hp).lt k hk).2, h.ap⟩
theorem Lvs.add {u : Value} (h : Lvs e G w lo w.heap.size L) (ho : Own eInt e G w lo u xs) (ha : ApL L u.ownBlock) : Lvs e G w lo w.heap.size (L ++ [(u, xs)]) := by
 refine ⟨fun p hp => ?_, fun p hp k hk => ?_, ?_⟩
 ·rcases List.mem_append.1 hp with h1 | h1
  ·exact h.own p h1
  ·simp at h1; subst h1; exact ho
 ·rcases List.mem_append.1 hp with h1 | h1
  ·exact h.hi p h1 k hk
  ·simp at h1; subst h1; exact (ho.lt k hk).2
 ·refine List.pairwise_append.2 ⟨h.ap, by simp, fun a ha' b hb => ?_⟩
  simp at hb; subst hb; exact ha a ha'
theorem ApL.add {u : Value} (h : ApL L x) (hu : Apart u.ownBlock x) : ApL (L ++ [(u, xs)]) x := fun p hp => by
 rcases List.mem_append.1 hp with h1 | h1
 ·exact h p h1
 ·simp at h1; subst h1; exact hu
theorem ApL.fresh (h : Lvs e G w lo hi L) (hx : ∀ k, x = some k → w.heap.size ≤ k) : ApL L x := fun p hp k hk hk' => by
 have h1 := ((h.own p hp).lt k hk).2; have h2 := hx k hk'; omega
theorem ApL.app {u v : Value} (h : Lvs e G w lo hi L) (ha : ApL L u.ownBlock) (hw : v.ownBlock = u.ownBlock ∨ ∃ k, v.ownBlock = some k ∧ w.heap.size ≤ k) : ApL L v.ownBlock := fun p hp =>
 zJ (ha p hp) hw (fun k hk => (h.own p hp).lt k hk)
def GLv (G : Pin) (w : World) (L : List Leaf) : Pin := fun b o u => G b o u ∨ ((∃ p ∈ L, p.1.ownBlock = some b) ∧ w.cell? ⟨b, o, none⟩ = some u)
theorem GLv.le : Pin.le G (GLv G w L) := fun _ _ _ h => Or.inl h
theorem GLv.pins (h : Pins G w) : Pins (GLv G w L) w := fun b o u hu => by
 rcases hu with hu | hu
 ·exact h b o u hu
 ·exact hu.2
theorem Lvs.read (h : Lvs e G w lo hi L) {p : Leaf} (hp : p ∈ L) : RSl eInt (GLv G w L) p.1 p.2 :=
 (h.own p hp).read.mono fun b o u hu => by
  rcases hu with h1 | h1
  ·exact Or.inl h1
  ·exact Or.inr ⟨⟨p, hp, h1.1⟩, h1.2⟩
theorem GLv.new (h : Lvs e G w lo hi L) {b o : Nat} {u : Value} (hu : GLv G w L b o u) : G b o u ∨ (lo ≤ b ∧ b < hi) := by
 rcases hu with h1 | ⟨⟨p, hp, h1⟩, _⟩
 ·exact Or.inl h1
 ·exact Or.inr ⟨((h.own p hp).lt b h1).1, h.hi p hp b h1⟩
end
def lvN (ps : List (Value × Value)) (ns : List Nd) : List Leaf := (ps.zip ns).flatMap fun q => [(q.1.1, q.2.l), (q.1.2, q.2.r)]
structure DForm (en e : Nat) (G : Pin) (w : World) (lo hi : Nat) (v : Value) (ns : List Nd) : Prop where
 ex : ∃ ps, ps.length = ns.length ∧ Own eVal2 en G w lo v ps ∧ (∀ k, v.ownBlock = some k → k < hi) ∧ Lvs e G w lo hi (lvN ps ns) ∧ ApL (lvN ps ns) v.ownBlock
theorem lvN_snoc (ps : List (Value × Value)) (ns : List Nd) (p : Value × Value) (n : Nd) (h : ps.length = ns.length) : lvN (ps ++ [p]) (ns ++ [n]) = lvN ps ns ++ [(p.1, n.l)] ++ [(p.2, n.r)] := by
 unfold lvN
 rw [List.zip_append h, List.flatMap_append, List.append_assoc]; rfl
variable {i : Nat}
theorem lvN_mem {ps : List (Value × Value)} {ns : List Nd} {p : Value × Value} {n : Nd} (hp : ps[i]? = some p) (hn : ns[i]? = some n) : (p.1, n.l) ∈ lvN ps ns ∧ (p.2, n.r) ∈ lvN ps ns := by
 have : (p, n) ∈ ps.zip ns := List.mem_of_getElem? (i := i) (by rw [List.getElem?_zip_eq_some]; exact ⟨hp, hn⟩)
 unfold lvN
 exact ⟨List.mem_flatMap.2 ⟨_, this, by simp⟩, List.mem_flatMap.2 ⟨_, this, by simp⟩⟩
def inR (lo hi : Nat) (k : Nat) : Prop := lo ≤ k ∧ k < hi
theorem xN {P : Program} {n : Nat} {env : Nat → Value} {w : World} {fn : Func} {R : Ending → World → Prop} {s t b : Nat} {cs : List Value} {v : Value} (hr : fn.results = #[.cell s t, .tmp i]) (hs : Nat.blt s n = true) (hi : Nat.blt i n = true) (hv : env s = .pointer (some ⟨b, 0, none⟩)) (hiv : env i = v) (ha : (P.underlying t).map aggD = some true) (hz : (P.info? t).map (·.size) = some cs.length)
  (hc : ∀ j u, cs[j]? = some u → w.cell? ⟨b, 0 + j, none⟩ = some u) (h : R (.returned (.tuple #[.agg cs.toArray, v])) w) : bodyPost P fn R .ret (F n env) w := by
 have h2 : s < n := by simpa [Nat.blt_eq] using hs
 have h3 : i < n := by simpa [Nat.blt_eq] using hi
 have hcell : ∀ j u, cs[j]? = some u → w.cell? ((⟨b, 0, none⟩ : Addr).add j) = some u := fun j u hj => by
  have := hc j u hj
  simp only [Addr.add]
  split
  ·simp_all
  ·exact this
 have hlv : (loadVar t ⟨b, 0, none⟩).run P w = .ok (.agg cs.toArray) w := by
  unfold loadVar
  simp only [Sem.run_bind, jW ha, Result.andThen_ok, if_true, qA hz, run_loadCells_list (P := P) w ⟨b, 0, none⟩ cs hcell, Sem.run_pure]
 refine bodyPost_ret (v := .tuple #[.agg cs.toArray, v]) ?_ rfl h
 have he : (F n env).tmps[s]?.getD undef = .pointer (some ⟨b, 0, none⟩) := by simp [F, h2, hv]
 have he2 : (F n env).tmps[i]?.getD undef = v := by simp [F, h3, hiv]
 simp [results, hr, he, he2, asAddr, hlv]
section
variable {en er e lo hi lo' hi' : Nat} {G Gx G' : Pin} {w w' : World} {u v : Value} {ns : List Nd} {ls rs : List (List Int)}
theorem deep_back (hP : Pins G w) (hx : Ext noS Gx w G' w') : Ext noS G w G w' := ⟨Pin.le_refl _, hP.below hx.below, fun _ _ _ h => Or.inl h, hx.os, hx.tape, hx.output, hx.size, hx.block⟩
end
theorem Ext.promise {S : Nat → Prop} {A G G' : Pin} {w0 w : World} {lo : Nat} (h : Ext S A w0 G w) (hl : Pin.le G G') (hp : Pins G' w) (hf : ∀ b o x, G' b o x → G b o x ∨ lo ≤ b) (hlo : w0.heap.size ≤ lo) : Ext S A w0 G' w :=
 ⟨dH h.le hl, hp, fun b o u hu => by
  rcases hf b o u hu with a | a
  ·exact h.fresh b o u a
  ·exact Or.inr (Nat.le_trans hlo a), h.os, h.tape, h.output, h.size, h.block⟩
end Go.GL
namespace Go.GL
open Go Go.RowKit
section
variable {P : Program} {ρ : Operand → Value} {w : World} {d : Option Nat} {t e ty : Nat} {pos : String} {aft : Array Edge} {g : Option (Nat × Bool)} {x y : Operand}
variable {p : ByteArray} {t' : Nat} {z : Int}
theorem nM {j : Int} (ht : P.underlying t = some .string) (hx : ρ x = .string p) (hy : ρ y = .int .i64 j) (h0 : 0 ≤ j) (h1 : j ≤ p.size) :
  (execOp ρ ⟨d, .slice t x none (some y) none, ty, pos, aft, g⟩).run P w = .ok (.value (.string (p.extract 0 j.toNat))) w := by
 have h := run_slice_string_h (P := P) w t p ht .i64 j h0 h1
 simp [execOp, hx, hy, Instr.sliceAt, run_underlying ht, h]
theorem r_neqS_same (hx : ρ x = .string p) (hy : ρ y = .string p) : (execOp ρ ⟨d, .binOp .neq t x y t', ty, pos, aft, g⟩).run P w = .ok (.value (.bool false)) w := by
 rw [jO hx hy]; simp
theorem r_neqB_same {p : Bool} (ht : P.underlying t = some .bool) (hx : ρ x = .bool p) (hy : ρ y = .bool p) : (execOp ρ ⟨d, .binOp .neq t x y t', ty, pos, aft, g⟩).run P w = .ok (.value (.bool false)) w := by
 rw [r_neqB ht hx hy]; simp
def RunsIndex (vs : List Value) (z : Int) (u : Value) : Prop :=
 ∀ {P : Program} {w : World} {d : Option Nat} {t e ty n : Nat} {pos : String} {aft : Array Edge} {g : Option (Nat × Bool)} {x y : Operand} {ρ : Operand → Value}
  (_ : P.underlying t = some (.array n e)) (_ : n = vs.length) (_ : (P.info? e).map (·.size) = some 1) (_ : (P.underlying e).map aggD = some false) (_ : ρ x = .agg vs.toArray) (_ : ρ y = .int .i64 z),
  (execOp ρ ⟨d, .index t x y, ty, pos, aft, g⟩).run P w = .ok (.value u) w
theorem nF {vs : List Value} {u : Value} (h0 : 0 ≤ z) (hu : vs[z.toNat]? = some u) : RunsIndex vs z u := by
 intro P w d t e ty n pos aft g x y ρ ht hn hs ha hx hy
 have hlt : z.toNat < vs.length := (List.getElem?_eq_some_iff.1 hu).1
 have h2 : 0 ≤ z ∧ z < (n : Int) := ⟨h0, by omega⟩
 have hp : (part e vs.toArray (z.toNat * 1)).run P w = .ok u w := by
  unfold part
  simp only [Sem.run_bind, jW ha, Result.andThen_ok]
  simp [hu]
 simp only [execOp, hx, hy, Instr.index, asIntOf, Sem.run_bind, Sem.run_pure, Result.andThen_ok, run_underlying ht, h2, if_true, qA hs, and_self]
 rw [hp]; rfl
def pick2 {α : Type} (s : Nat) (xs ys : α) : α := if s = 0 then xs else ys
theorem name_index2 {α : Type} {E : Elt α} {G : Pin} {a b : Value} {xs ys : List α} (ha : RSl E G a xs) (hb : RSl E G b ys) (s : Nat) (h0 : 0 ≤ z) (h1 : z < 2) (hs : z.toNat = s) :
  ∃ u, RSl E G u (pick2 s xs ys) ∧ RunsIndex [a, b] z u := by
 subst hs
 unfold pick2
 by_cases h : z.toNat = 0
 ·exact ⟨a, by rw [if_pos h]; exact ha, nF h0 (by rw [h]; rfl)⟩
 ·exact ⟨b, by rw [if_neg h]; exact hb, nF h0 (by rw [show z.toNat = 1 by omega]; rfl)⟩
theorem r_buildA {parts : Array (Nat × Operand)} {n m : Nat} {z : Value} (zs cs : List Value) (ps : List (Nat × Value × List Value)) (ht : P.underlying t = some (.array n e)) (hz : (P.info? t).bind (·.zero) = some z) (hzc : z.cells.toList = zs)
  (he : (P.info? e).map (·.size) = some m) (hpt : (parts.toList.map fun (i, x) => (i, ρ x)) = ps.map fun p => (p.1, p.2.1)) (hc : ∀ p ∈ ps, p.2.1.cells = p.2.2.toArray)
  (hf : fillL (fun i => some (i * m, m)) zs (ps.map fun p => (p.1, p.2.2)) = some cs) :
  (execOp ρ ⟨d, .build t parts, ty, pos, aft, g⟩).run P w = .ok (.value (.agg cs.toArray)) w := by
 obtain ⟨it, hit, hzz⟩ := Option.bind_eq_some_iff.1 hz
 obtain ⟨ie, hie, hm⟩ := Option.map_eq_some_iff.1 he
 subst hm
 have hb : P.built t (parts.map fun (i, x) => (i, ρ x)).toList = some cs.toArray := by
  unfold Program.built
  rw [hit, ht]
  simp only [hzz, hie]
  rw [Array.toList_map, hpt]
  have := gX hc hf
  rw [← hzc] at this
  exact this
 have := Go.run_build (P := P) w t (parts.map fun (i, x) => (i, ρ x)) cs.toArray hb
 simp [execOp, this]
end
variable {ns : List Nd} {i : Nat}
theorem RSl.strs {G : Pin} {w : World} {v : Value} {xs : List ByteArray} (h : RSl eStr G v xs) (hP : Pins G w) (hne : 0 < xs.length) :
  ∃ b o c, v = .slice (some ⟨b, o, none⟩) xs.length c ∧ xs.length ≤ c ∧ b < w.heap.size ∧ ∀ (j : Nat) x, xs[j]? = some x → w.cell? ⟨b, o + j, none⟩ = some (.string x) := by
 obtain ⟨a, c, rfl, hc, _⟩ := h.sl
 obtain ⟨a', b, o, n, c', cs, hv, hk, hr, hg⟩ := h.at_ 0 _ (List.getElem?_eq_getElem hne)
 simp only [Value.slice.injEq] at hv
 obtain ⟨rfl, rfl, rfl⟩ := hv
 have h0 : a' = ⟨b, o, none⟩ := by
  have := hk 0
  simpa [Addr.add] using this
 subst h0
 have hcell : ∀ (j : Nat) x, xs[j]? = some x → w.cell? ⟨b, o + j, none⟩ = some (.string x) := fun j x hx => by
  obtain ⟨a', b', o', n', c', cs', hv, hk', hr', hg'⟩ := h.at_ j x hx
  simp only [Value.slice.injEq, Option.some.injEq] at hv
  obtain ⟨rfl, _, _⟩ := hv
  have e := hk' 0
  have hcs : cs' = [.string x] := hr'
  subst hcs
  have h3 := hP _ _ _ (hg' 0 _ rfl)
  have hsz : eStr.size = 1 := rfl
  rw [hsz, Nat.mul_one, Nat.add_zero] at e
  have e2 : (⟨b, o, none⟩ : Addr).add j = ⟨b, o + j, none⟩ := by
   simp only [Addr.add]
   split
   ·rename_i h; subst h; rfl
   ·rfl
  rw [e2] at e
  rw [e]; exact h3
 refine ⟨b, o, c, rfl, hc, ?_, hcell⟩
 have h2 := hcell 0 _ (List.getElem?_eq_getElem hne)
 cases hb : w.heap[b]? with
 | none => simp [World.cell?, hb] at h2
 | some B => exact (Array.getElem?_eq_some_iff.1 hb).1
theorem GoodP.optsOk (hg : GoodP ns) : OptsOk ns := opts_ok hg.opts
theorem tN {l : List Int} {b : Int} (h : goodOpts l b = true) : l.length ≤ 24 := by
 unfold goodOpts at h
 split at h
 ·cases h
 ·omega
theorem GoodP.lenl (hg : GoodP ns) (hi : i < ns.length) : (ns.getD i default).l.length ≤ 24 := tN (hg.opts i hi).1
theorem GoodP.lenr (hg : GoodP ns) (hi : i < ns.length) : (ns.getD i default).r.length ≤ 24 := tN (hg.opts i hi).2
end Go.GL
namespace Go.GL
open Go Go.RowKit
section
variable {en e lo hi : Nat} {G G' : Pin} {w w' : World} {v : Value} {ns : List Nd}
theorem DForm.extS {S : Nat → Prop} (h : DForm en e G w lo hi v ns) (hx : Ext S G w G' w') (hS : ∀ k, lo ≤ k → k < hi → ¬ S k) : DForm en e G' w' lo hi v ns := by
 obtain ⟨ps, h1, h2, h3, h4, h5⟩ := h.ex
 exact ⟨⟨ps, h1, h2.extS hx (fun k hk => hS k (h2.lt k hk).1 (h3 k hk)), h3, h4.extS hx hS, h5⟩⟩
end
def DCh (en e : Nat) (G : Pin) (w : World) (R : Option Nat) : Nat → Nat → List Value → List (List Nd) → Prop
 | lo, hi, [], [] => lo ≤ hi
 | lo, hi, u :: us, f :: fs => ∃ l m, lo ≤ l ∧ l ≤ m ∧ (∀ b, R = some b → m ≤ b ∨ b < l) ∧ DForm en e G w l m u f ∧ DCh en e G w R m hi us fs
 | _, _, _, _ => False
section
variable {en e : Nat} {G G' : Pin} {w w' : World} {R R' : Option Nat}
theorem DCh.le : ∀ {lo hi : Nat} {us : List Value} {fs : List (List Nd)}, DCh en e G w R lo hi us fs → lo ≤ hi
 | _, _, [], [], h => h
 | _, _, _ :: _, _ :: _, ⟨_, _, h1, h2, _, _, h3⟩ => Nat.le_trans (Nat.le_trans h1 h2) h3.le
 | _, _, [], _ :: _, h => h.elim
 | _, _, _ :: _, [], h => h.elim
theorem DCh.map : ∀ {lo hi : Nat} {us : List Value} {fs : List (List Nd)}, DCh en e G w R lo hi us fs → (∀ l m u f, lo ≤ l → m ≤ hi → (∀ b, R = some b → m ≤ b ∨ b < l) → DForm en e G w l m u f → DForm en e G' w' l m u f) → DCh en e G' w' R lo hi us fs
 | _, _, [], [], h, _ => h
 | lo, hi, u :: us, f :: fs, ⟨l, m, h1, h0, hr, h2, h3⟩, hf => ⟨l, m, h1, h0, hr, hf _ _ _ _ h1 h3.le hr h2, h3.map fun l k u f hl hk hd => hf l k u f (by omega) hk hd⟩
 | _, _, [], _ :: _, h, _ => h.elim
 | _, _, _ :: _, [], h, _ => h.elim
end
theorem vX {ns : List Nd} (hg : GoodP ns) : FormOk ns := gI (good_iff.2 hg).fits (good_iff.2 hg).rise
section
variable {en ef e lo hi lo' hi' : Nat} {G G' : Pin} {w w' : World} {v : Value} {ns : List Nd} {us : List Value} {fs : List (List Nd)} {R : Option Nat}
theorem DCh.at : ∀ {lo hi j : Nat} {us : List Value} {fs : List (List Nd)}, DCh en e G w R lo hi us fs → j < fs.length → ∃ l m, lo ≤ l ∧ m ≤ hi ∧ (∀ b, R = some b → m ≤ b ∨ b < l) ∧ DForm en e G w l m (us.getD j default) (fs.getD j []) ∧
  ∀ {w' : World} {f' : List Nd}, Ext (inR l m) G w G w' → DForm en e G w' l m (us.getD j default) f' → DCh en e G w' R lo hi us (fs.set j f')
 | lo, hi, 0, u :: us, f :: fs, ⟨l, m, h1, h0, hr, h2, h3⟩, _ => ⟨l, m, h1, h3.le, hr, h2, fun hx hd => ⟨l, m, h1, h0, hr, hd, h3.map fun _ _ _ _ hl _ _ hq => hq.extS hx fun k h5 _ h7 => by have := h7.2; omega⟩⟩
 | lo, hi, j + 1, u :: us, f :: fs, ⟨l0, m0, h1, h0, hr, h2, h3⟩, hj => by
  obtain ⟨l, k, a1, a2, a3, a4, a5⟩ := h3.at (j := j) (by simpa using hj)
  exact ⟨l, k, by omega, a2, a3, by simpa using a4, fun hx hd => ⟨l0, m0, h1, h0, hr, h2.extS hx fun q _ h6 h7 => by have := h7.1; omega, a5 hx (by simpa using hd)⟩⟩
 | _, _, _, [], [], _, hj => (by simp at hj)
 | _, _, _, [], _ :: _, h, _ => h.elim
 | _, _, _, _ :: _, [], h, _ => h.elim
end
end Go.GL
namespace Go.GL
variable {k : Nat}
theorem kI {l : List Int} : ∀ {is : List Bool}, is.getD k false = true → (setAll is l).getD k false = true := by
 induction l with
 | nil => intro is h; exact h
 | cons x r ih =>
  intro is h
  refine ih (is := is.set x.toNat true) ?_
  rw [List.getD, List.getElem?_set]
  split
  ·split
   ·rfl
   ·rename_i h1 h2; subst h1; simp [List.getD, Nat.le_of_not_lt h2] at h
  ·exact h
theorem nD {l : List Int} {k : Int} : ∀ {is : List Bool}, k ∈ l → k.toNat < is.length → (setAll is l).getD k.toNat false = true := by
 induction l with
 | nil => intro is h; cases h
 | cons x r ih =>
  intro is h hk
  cases h with
  | head => exact kI (is := is.set k.toNat true) (by simp [List.getD, hk])
  | tail _ h => exact ih (is := is.set x.toNat true) h (by simpa using hk)
theorem tF {l : List Int} {z : Nat} : ∀ {is : List Bool}, (∀ k ∈ l, k.toNat ≠ z) → (setAll is l).getD z false = is.getD z false := by
 induction l with
 | nil => intro is _; rfl
 | cons x r ih =>
  intro is h
  have h1 := ih (is := is.set x.toNat true) fun k hk => h k (List.mem_cons_of_mem _ hk)
  have h2 := h x List.mem_cons_self
  refine h1.trans ?_
  simp [List.getD, List.getElem?_set_ne h2]
theorem ustep_mono {ns : List Nd} {is : List Bool} {i : Nat} (h : is.getD k false = true) : (ustep ns is i).getD k false = true := by
 unfold ustep; split
 ·exact kI (kI h)
 ·exact h
theorem fP {ns : List Nd} : ∀ {q : Nat} {is : List Bool} {k : Nat}, is.getD k false = true → (ugo ns q is).getD k false = true
 | 0, _, _, h => h
 | q + 1, is, _, h => fP (q := q) (is := ustep ns is q) (ustep_mono h)
section
variable {ns : List Nd} (ho : OptsOk ns)
include ho
theorem mY {is : List Bool} {i z : Nat} (hi : i < ns.length) (hz : i ≤ z) : (ustep ns is i).getD z false = is.getD z false := by
 have o := xW ho hi
 unfold ustep; split
 ·rw [tF fun k hk => by have := o.2 k hk; omega, tF fun k hk => by have := o.1 k hk; omega]
 ·rfl
theorem ugo_keep : ∀ {q : Nat} {is : List Bool} {z : Nat}, q ≤ ns.length → q ≤ z + 1 → (ugo ns q is).getD z false = is.getD z false
 | 0, _, _, _, _ => rfl
 | q + 1, is, z, h, hz => (ugo_keep (q := q) (is := ustep ns is q) (by omega) (by omega)).trans (mY ho (by omega) (by omega))
theorem mZ : ∀ {q : Nat} {is : List Bool}, q ≤ ns.length → q ≤ is.length → ∀ z, z < q → (ugo ns q is).getD z false = true →
  (∀ o ∈ (ns.getD z default).l, (ugo ns q is).getD o.toNat false = true) ∧ (∀ o ∈ (ns.getD z default).r, (ugo ns q is).getD o.toNat false = true)
 | 0, _, _, _, z, hz, _ => absurd hz (Nat.not_lt_zero z)
 | q + 1, is, h, hl, z, hz, hu => by
  have hul : (ustep ns is q).length = is.length := by
   unfold ustep; split
   ·rw [jJ, jJ]
   ·rfl
  by_cases he : z = q
  ·subst he
   have hu2 : is.getD z false = true := by
    rw [← mY ho (i := z) (z := z) (is := is) (by omega) (Nat.le_refl _), ← ugo_keep ho (q := z) (is := ustep ns is z) (by omega) (by omega)]
    exact hu
   have o := xW ho (k := z) (by omega)
   have e : ustep ns is z = setAll (setAll is (ns.getD z default).l) (ns.getD z default).r := tU hu2
   refine ⟨fun x hx => fP (q := z) (is := ustep ns is z) ?_, fun x hx => fP (q := z) (is := ustep ns is z) ?_⟩
   ·rw [e]; exact kI (nD hx (by have := o.1 x hx; omega))
   ·rw [e]; exact nD hx (by rw [jJ]; have := o.2 x hx; omega)
  ·exact mZ (q := q) (is := ustep ns is q) (by omega) (by omega) z (by omega) hu
end
theorem tT : ∀ {a b : List Int}, a.Pairwise (· < ·) → b.Pairwise (· < ·) → (∀ z, z ∈ a ↔ z ∈ b) → a = b
 | [], [], _, _, _ => rfl
 | [], y :: b, _, _, h => by have := (h y).2 List.mem_cons_self; cases this
 | x :: a, [], _, _, h => by have := (h x).1 List.mem_cons_self; cases this
 | x :: a, y :: b, ha, hb, h => by
  have ha' := List.pairwise_cons.1 ha; have hb' := List.pairwise_cons.1 hb
  have e : x = y := by
   have h1 := (h x).1 List.mem_cons_self; have h2 := (h y).2 List.mem_cons_self
   cases h1 with
   | head => rfl
   | tail _ h1 =>
    cases h2 with
    | head => rfl
    | tail _ h2 => have := ha'.1 y h2; have := hb'.1 x h1; omega
  subst e
  congr 1
  refine tT ha'.2 hb'.2 fun z => ⟨fun hz => ?_, fun hz => ?_⟩
  ·have := (h z).1 (List.mem_cons_of_mem _ hz)
   cases this with
   | head => have := ha'.1 _ hz; omega
   | tail _ h1 => exact h1
  ·have := (h z).2 (List.mem_cons_of_mem _ hz)
   cases this with
   | head => have := hb'.1 _ hz; omega
   | tail _ h1 => exact h1
end Go.GL
namespace Go.GL
def loG (g i : Nat) : Prop := g.testBit (2 * i) = true
def roG (g i : Nat) : Prop := g.testBit (2 * i + 1) = true
variable {g i a b : Nat}
theorem bit_lt {k : Nat} (h : g.testBit k = true) : k < g := Nat.lt_of_lt_of_le Nat.lt_two_pow_self (Nat.ge_two_pow_of_testBit h)
theorem loG.lt (h : loG g i) : i < g := by have := bit_lt h; omega
theorem roG.lt (h : roG g i) : i < g := by have := bit_lt h; omega
theorem gext (hl : ∀ i, loG a i ↔ loG b i) (hr : ∀ i, roG a i ↔ roG b i) : a = b := by
 apply Nat.eq_of_testBit_eq
 intro k
 rcases Nat.mod_two_eq_zero_or_one k with h | h
 ·have e : k = 2 * (k / 2) := by omega
  have := hl (k / 2)
  unfold loG at this
  rw [← e] at this
  exact Bool.eq_iff_iff.2 this
 ·have e : k = 2 * (k / 2) + 1 := by omega
  have := hr (k / 2)
  unfold roG at this
  rw [← e] at this
  exact Bool.eq_iff_iff.2 this
def lefts (g : Nat) : List Nat := (List.range g).filter fun i => g.testBit (2 * i)
def rights (g : Nat) : List Nat := (List.range g).filter fun i => g.testBit (2 * i + 1)
theorem memG_l : i ∈ lefts g ↔ loG g i := by
 unfold lefts
 rw [List.mem_filter, List.mem_range]
 exact ⟨fun h => h.2, fun h => ⟨loG.lt h, h⟩⟩
theorem memG_r : i ∈ rights g ↔ roG g i := by
 unfold rights
 rw [List.mem_filter, List.mem_range]
 exact ⟨fun h => h.2, fun h => ⟨roG.lt h, h⟩⟩
def bitsG : List Nat → Nat
 | [] => 0
 | k :: l => 2 ^ k ||| bitsG l
theorem bits_at {k : Nat} : ∀ {l : List Nat}, (bitsG l).testBit k = true ↔ k ∈ l
 | [] => by simp [bitsG]
 | x :: l => by
  unfold bitsG
  rw [Nat.testBit_or, Bool.or_eq_true, bits_at (l := l), Nat.testBit_two_pow]
  simp only [decide_eq_true_eq, List.mem_cons]
  constructor
  ·rintro (h | h)
   ·exact Or.inl h.symm
   ·exact Or.inr h
  ·rintro (h | h)
   ·exact Or.inl h.symm
   ·exact Or.inr h
def mkG (l r : List Nat) : Nat := bitsG (l.map (2 * ·) ++ r.map (2 * · + 1))
theorem lo_mk {l r : List Nat} : loG (mkG l r) i ↔ i ∈ l := by
 unfold loG mkG
 rw [bits_at, List.mem_append, List.mem_map, List.mem_map]
 constructor
 ·rintro (⟨a, ha, e⟩ | ⟨a, ha, e⟩)
  ·have : a = i := by omega
   rwa [← this]
  ·omega
 ·exact fun h => Or.inl ⟨i, h, rfl⟩
theorem ro_mk {l r : List Nat} : roG (mkG l r) i ↔ i ∈ r := by
 unfold roG mkG
 rw [bits_at, List.mem_append, List.mem_map, List.mem_map]
 constructor
 ·rintro (⟨a, ha, e⟩ | ⟨a, ha, e⟩)
  ·omega
  ·have : a = i := by omega
   rwa [← this]
 ·exact fun h => Or.inr ⟨i, h, rfl⟩
theorem mk_congr {l r l' r' : List Nat} (hl : ∀ i, i ∈ l ↔ i ∈ l') (hr : ∀ i, i ∈ r ↔ i ∈ r') : mkG l r = mkG l' r' :=
 gext (fun i => by rw [lo_mk, lo_mk]; exact hl i) (fun i => by rw [ro_mk, ro_mk]; exact hr i)
def geG (a b : Nat) : Prop := (∀ r, (_h : roG a r) → ¬ geG b r) ∧ (∀ l, (_h : loG b l) → ¬ geG l a)
termination_by a + b
decreasing_by
 ·have := _h.lt; omega
 ·have := _h.lt; omega
theorem ge_iff : geG a b ↔ (∀ r, roG a r → ¬ geG b r) ∧ (∀ l, loG b l → ¬ geG l a) := by
 rw [geG]
theorem ge_not (h : ¬ geG a b) : (∃ r, roG a r ∧ geG b r) ∨ ∃ l, loG b l ∧ geG l a := by
 rw [ge_iff] at h
 by_cases h1 : ∃ r, roG a r ∧ geG b r
 ·exact Or.inl h1
 ·right
  apply Classical.byContradiction
  intro h2
  exact h ⟨fun r hr hg => h1 ⟨r, hr, hg⟩, fun l hl hg => h2 ⟨l, hl, hg⟩⟩
def eqG (a b : Nat) : Prop := geG a b ∧ geG b a
def negG (g : Nat) : Nat := mkG ((rights g).attach.map fun ⟨i, _h⟩ => negG i) ((lefts g).attach.map fun ⟨i, _h⟩ => negG i)
termination_by g
decreasing_by
 ·exact (memG_r.1 _h).lt
 ·exact (memG_l.1 _h).lt
def addG (a b : Nat) : Nat :=
 mkG (((lefts a).attach.map fun ⟨i, _h⟩ => addG i b) ++ (lefts b).attach.map fun ⟨i, _h⟩ => addG a i)
  (((rights a).attach.map fun ⟨i, _h⟩ => addG i b) ++ (rights b).attach.map fun ⟨i, _h⟩ => addG a i)
termination_by a + b
decreasing_by
 ·have := (memG_l.1 _h).lt; omega
 ·have := (memG_l.1 _h).lt; omega
 ·have := (memG_r.1 _h).lt; omega
 ·have := (memG_r.1 _h).lt; omega
def NoDom (g : Nat) : Prop := (∀ a b, loG g a → loG g b → geG a b → a = b) ∧ (∀ a b, roG g a → roG g b → geG a b → a = b)
def NoRev (g : Nat) : Prop := (∀ l r, loG g l → roG l r → ¬ geG g r) ∧ (∀ r l, roG g r → loG r l → ¬ geG l g)
def CanonG (g : Nat) : Prop := NoDom g ∧ NoRev g ∧ (∀ l, (_h : loG g l) → CanonG l) ∧ (∀ r, (_h : roG g r) → CanonG r)
termination_by g
decreasing_by
 ·exact _h.lt
 ·exact _h.lt
end Go.GL
namespace Go.GL
def stepD (acc : List Nat) (n : Nd) : List Nat := acc ++ [mkG (n.l.map fun z => acc.getD z.toNat 0) (n.r.map fun z => acc.getD z.toNat 0)]
def dens (ns : List Nd) : List Nat := ns.foldl stepD []
def den (ns : List Nd) (k : Nat) : Nat := (dens ns).getD k 0
theorem pH : ∀ (ns : List Nd) (acc : List Nat), (ns.foldl stepD acc).length = acc.length + ns.length
 | [], acc => by simp
 | n :: ns, acc => by rw [List.foldl_cons, pH ns]; simp [stepD]; omega
theorem fold_pre : ∀ (ns : List Nd) (acc : List Nat) (k : Nat), k < acc.length → (ns.foldl stepD acc).getD k 0 = acc.getD k 0
 | [], acc, k, h => rfl
 | n :: ns, acc, k, h => by
  rw [List.foldl_cons, fold_pre ns _ k (by simp [stepD]; omega)]
  exact xH h
variable {ns fs : List Nd} {k x : Nat} {bs : List Int}
theorem den_app {ms : List Nd} (h : k < ns.length) : den (ns ++ ms) k = den ns k := by
 unfold den dens
 rw [List.foldl_append]
 exact fold_pre _ _ _ (by rw [pH]; simpa using h)
theorem den_take {m : Nat} (h : k < m) (hm : m ≤ ns.length) : den (ns.take m) k = den ns k := by
 have := den_app (ns := ns.take m) (ms := ns.drop m) (k := k) (by simp; omega)
 rw [List.take_append_drop] at this
 exact this.symm
theorem den_at (hk : k < ns.length) (hl : ∀ z ∈ (ns.getD k default).l, 0 ≤ z ∧ z < k) (hr : ∀ z ∈ (ns.getD k default).r, 0 ≤ z ∧ z < k) :
  den ns k = mkG ((ns.getD k default).l.map fun z => den ns z.toNat) ((ns.getD k default).r.map fun z => den ns z.toNat) := by
 rw [← den_take (m := k + 1) (by omega) (by omega), vU ns default hk]
 unfold den dens
 rw [List.foldl_append]
 have hlen : ((ns.take k).foldl stepD []).length = k := by rw [pH]; simp; omega
 have e0 : ∀ (A : List Nat) (n : Nd), List.foldl stepD A [n] = A ++ [mkG (n.l.map fun z => A.getD z.toNat 0) (n.r.map fun z => A.getD z.toNat 0)] := fun _ _ => rfl
 rw [e0, xP hlen.symm]
 have e : ∀ z : Int, 0 ≤ z ∧ z < k → (List.foldl stepD [] (ns.take k)).getD z.toNat 0 = (List.foldl stepD [] ns).getD z.toNat 0 := fun z hz => den_take (ns := ns) (k := z.toNat) (m := k) (by omega) (by omega)
 rw [List.map_congr_left (g := fun z => (List.foldl stepD [] ns).getD z.toNat 0) fun z hz => e z (hl z hz)]
 rw [List.map_congr_left (l := (ns.getD k default).r) (g := fun z => (List.foldl stepD [] ns).getD z.toNat 0) fun z hz => e z (hr z hz)]
theorem vS (ho : OptsOk ns) (hk : k < ns.length) :
  den ns k = mkG ((ns.getD k default).l.map fun z => den ns z.toNat) ((ns.getD k default).r.map fun z => den ns z.toNat) := den_at hk (xW ho hk).1 (xW ho hk).2
theorem qZ (ho : OptsOk ns) (hk : k < ns.length) : loG (den ns k) x ↔ ∃ z ∈ (ns.getD k default).l, x = den ns z.toNat := by
 rw [vS ho hk, lo_mk, List.mem_map]
 exact ⟨fun ⟨z, h1, h2⟩ => ⟨z, h1, h2.symm⟩, fun ⟨z, h1, h2⟩ => ⟨z, h1, h2.symm⟩⟩
theorem qY (ho : OptsOk ns) (hk : k < ns.length) : roG (den ns k) x ↔ ∃ z ∈ (ns.getD k default).r, x = den ns z.toNat := by
 rw [vS ho hk, ro_mk, List.mem_map]
 exact ⟨fun ⟨z, h1, h2⟩ => ⟨z, h1, h2.symm⟩, fun ⟨z, h1, h2⟩ => ⟨z, h1, h2.symm⟩⟩
structure Ar (ns : List Nd) (bs : List Int) : Prop where
 ok : BookOk ns bs
 rise : ∀ i, i < ns.length → (ns.getD i default).l.Pairwise (· < ·) ∧ (ns.getD i default).r.Pairwise (· < ·)
 diff : Diff ns
 born : BirthsOf ns bs
theorem Ar.opts (h : Ar ns bs) : OptsOk ns := h.ok.optsOk
theorem Ar.empty : Ar [] [] := ⟨qT, fun i hi => absurd hi (Nat.not_lt_zero i), fun _ j _ hj => absurd hj (Nat.not_lt_zero j), rfl, fun k hk => absurd hk (Nat.not_lt_zero k)⟩
theorem gJ {ns : List Nd} (ho : OptsOk ns) (hr : ∀ i, i < ns.length → (ns.getD i default).l.Pairwise (· < ·) ∧ (ns.getD i default).r.Pairwise (· < ·)) (hd : Diff ns) :
  ∀ (n i j : Nat), i + j ≤ n → i < ns.length → j < ns.length → den ns i = den ns j → i = j
 | 0, i, j, hn, _, _, _ => by omega
 | n + 1, i, j, hn, hi, hj, he => by
  have key : ∀ a b, a + b ≤ n + 1 → a < ns.length → b < ns.length → den ns a = den ns b → (∀ z ∈ (ns.getD a default).l, z ∈ (ns.getD b default).l) ∧ (∀ z ∈ (ns.getD a default).r, z ∈ (ns.getD b default).r) := by
   intro a b hab ha hb e
   have oa := xW ho ha
   have ob := xW ho hb
   constructor
   ·intro z hz
    have h1 : loG (den ns a) (den ns z.toNat) := (qZ ho ha).2 ⟨z, hz, rfl⟩
    rw [e] at h1
    obtain ⟨y, hy, e2⟩ := (qZ ho hb).1 h1
    have z1 := oa.1 z hz
    have y1 := ob.1 y hy
    have := gJ ho hr hd n z.toNat y.toNat (by omega) (by omega) (by omega) e2
    have : z = y := by omega
    rwa [this]
   ·intro z hz
    have h1 : roG (den ns a) (den ns z.toNat) := (qY ho ha).2 ⟨z, hz, rfl⟩
    rw [e] at h1
    obtain ⟨y, hy, e2⟩ := (qY ho hb).1 h1
    have z1 := oa.2 z hz
    have y1 := ob.2 y hy
    have := gJ ho hr hd n z.toNat y.toNat (by omega) (by omega) (by omega) e2
    have : z = y := by omega
    rwa [this]
  have k1 := key i j hn hi hj he
  have k2 := key j i (by omega) hj hi he.symm
  have el := tT (hr i hi).1 (hr j hj).1 fun z => ⟨k1.1 z, k2.1 z⟩
  have er := tT (hr i hi).2 (hr j hj).2 fun z => ⟨k1.2 z, k2.2 z⟩
  have e := nT el er
  rcases Nat.lt_trichotomy i j with h | h | h
  ·exact absurd e (hd i j h hj)
  ·exact h
  ·exact absurd e.symm (hd j i h hi)
theorem Ar.inj (h : Ar ns bs) {i j : Nat} (hi : i < ns.length) (hj : j < ns.length) (he : den ns i = den ns j) : i = j := gJ h.opts h.rise h.diff _ i j (Nat.le_refl _) hi hj he
theorem sL {n : Int} : ∀ {l : List Int}, l.Pairwise (· < ·) → (putL l n).Pairwise (· < ·)
 | [], _ => by simp [putL]
 | x :: r, h => by
  have h' := List.pairwise_cons.1 h
  unfold putL
  split
  ·rename_i hx
   refine List.pairwise_cons.2 ⟨fun k hk => ?_, sL h'.2⟩
   rcases mem_putL.1 hk with rfl | hk
   ·exact hx
   ·exact h'.1 k hk
  ·split
   ·exact h
   ·rename_i h1 h2
    refine List.pairwise_cons.2 ⟨fun k hk => ?_, h⟩
    rcases List.mem_cons.1 hk with rfl | hk
    ·omega
    ·have := h'.1 k hk; omega
theorem fF (l : List Int) : (sortL l).Pairwise (· < ·) := by
 have key : ∀ (l a : List Int), a.Pairwise (· < ·) → (l.foldl putL a).Pairwise (· < ·) := by
  intro l
  induction l with
  | nil => intro a h; exact h
  | cons x r ih => intro a h; exact ih _ (sL h)
 exact key l [] List.Pairwise.nil
theorem rK {bs : List Int} {m : Int} : ∀ {l : List Int} {b : Int}, bornOf bs l b ≤ m ↔ b ≤ m ∧ ∀ k ∈ l, bs.getD k.toNat 0 + 1 ≤ m
 | [], b => by simp [bornOf]
 | x :: r, b => by
  have e : bornOf bs (x :: r) b = bornOf bs r (max b (bs.getD x.toNat 0 + 1)) := rfl
  rw [e, rK (l := r)]
  simp only [List.mem_cons, forall_eq_or_imp]
  constructor
  ·rintro ⟨h1, h2⟩; exact ⟨by omega, by omega, h2⟩
  ·rintro ⟨h1, h2, h3⟩; exact ⟨by omega, h3⟩
theorem putBorn_le {l r : List Int} {m : Int} : putBorn bs l r ≤ m ↔ 0 ≤ m ∧ (∀ k ∈ l, bs.getD k.toNat 0 + 1 ≤ m) ∧ ∀ k ∈ r, bs.getD k.toNat 0 + 1 ≤ m := by
 unfold putBorn
 rw [rK, rK, and_assoc]
theorem putBorn_sort {l r : List Int} : putBorn bs (sortL l) (sortL r) = putBorn bs l r := by
 apply Int.le_antisymm
 ·rw [putBorn_le]
  have := putBorn_le (bs := bs) (l := l) (r := r).1 (Int.le_refl _)
  exact ⟨this.1, fun k hk => this.2.1 k (mem_sortL.1 hk), fun k hk => this.2.2 k (mem_sortL.1 hk)⟩
 ·rw [putBorn_le]
  have := putBorn_le (bs := bs) (l := sortL l) (r := sortL r).1 (Int.le_refl _)
  exact ⟨this.1, fun k hk => this.2.1 k (mem_sortL.2 hk), fun k hk => this.2.2 k (mem_sortL.2 hk)⟩
theorem Ar.put {xs ys : List Int} (h : Ar ns bs) (hl : ns.length + 1 ≤ 1048576) (hls : xs.length ≤ 1048576 ∧ ys.length ≤ 1048576) (h1 : ∀ i, i < xs.length → 0 ≤ xs.getD i 0 ∧ xs.getD i 0 < ns.length) (h2 : ∀ i, i < ys.length → 0 ≤ ys.getD i 0 ∧ ys.getD i 0 < ns.length) :
  Ar (putN ns bs xs ys) (putB ns bs xs ys) ∧ den (putN ns bs xs ys) (putK ns bs xs ys).toNat = mkG (xs.map fun z => den ns z.toNat) (ys.map fun z => den ns z.toNat) ∧ ∀ k, k < ns.length → den (putN ns bs xs ys) k = den ns k := by
 have hb := h.ok.put hl hls h1 h2
 have hm1 := jC (P := fun k => 0 ≤ k ∧ k < (ns.length : Int)) h1
 have hm2 := jC (P := fun k => 0 ≤ k ∧ k < (ns.length : Int)) h2
 have hsort : ∀ (f : Int → Nat), mkG ((sortL xs).map f) ((sortL ys).map f) = mkG (xs.map f) (ys.map f) := fun f => mk_congr
  (fun i => by simp only [List.mem_map, mem_sortL]) (fun i => by simp only [List.mem_map, mem_sortL])
 unfold putN putB putK at hb ⊢
 cases hf : findK ns bs (putNd xs ys) (putBorn bs xs ys) with
 | some k =>
  rw [hf] at hb
  simp only at hb ⊢
  have hmem := List.mem_of_find?_eq_some hf
  have hdec := List.find?_some hf
  have hk : k < ns.length := by simpa using hmem
  have hd : bs.getD k 0 = putBorn bs xs ys ∧ (ns.getD k default).l = sortL xs ∧ (ns.getD k default).r = sortL ys := of_decide_eq_true hdec
  refine ⟨h, ?_, fun k _ => by trivial⟩
  rw [Int.toNat_natCast, vS h.opts hk, hd.2.1, hd.2.2]
  exact hsort _
 | none =>
  rw [hf] at hb
  simp only at hb ⊢
  have hlen := h.ok.len
  have hnew : ∀ i, i < ns.length → ns.getD i default ≠ putNd xs ys := fun i hi e => by
   have hn := List.find?_eq_none.1 hf i (List.mem_range.2 hi)
   apply hn
   refine decide_eq_true ⟨?_, by rw [e], by rw [e]⟩
   rw [h.born.2 i hi, e]
   exact putBorn_sort
  have hat : ∀ i, i < ns.length → (ns ++ [putNd xs ys]).getD i default = ns.getD i default := fun i hi => xH hi
  have hself : (ns ++ [putNd xs ys]).getD ns.length default = putNd xs ys := xP rfl
  have hlast : ∀ i, i < (ns ++ [putNd xs ys]).length → i < ns.length ∨ i = ns.length := fun i hi => by simp at hi; omega
  have hbat : ∀ i, i < ns.length → (bs ++ [putBorn bs xs ys]).getD i 0 = bs.getD i 0 := fun i hi => xH (by omega)
  refine ⟨⟨hb.1, fun i hi => ?_, fun i j hij hj => ?_, by simp [hlen], fun k hk => ?_⟩, ?_, fun k hk => den_app hk⟩
  ·rcases hlast i hi with hi' | rfl
   ·rw [hat i hi']; exact h.rise i hi'
   ·rw [hself]; exact ⟨fF _, fF _⟩
  ·rcases hlast j hj with hj' | rfl
   ·rw [hat i (by omega), hat j hj']; exact h.diff i j hij hj'
   ·rw [hat i hij, hself]; exact hnew i hij
  ·rcases hlast k hk with hk' | rfl
   ·have ho := xW h.opts hk'
    rw [hat k hk', hbat k hk', h.born.2 k hk']
    exact vD (fun z hz => (hbat z.toNat (by have := ho.1 z hz; omega)).symm) (fun z hz => (hbat z.toNat (by have := ho.2 z hz; omega)).symm)
   ·rw [hself, xP hlen.symm]
    refine putBorn_sort.symm.trans (vD (fun z hz => (hbat z.toNat ?_).symm) (fun z hz => (hbat z.toNat ?_).symm))
    ·have := hm1 z (mem_sortL.1 hz); omega
    ·have := hm2 z (mem_sortL.1 hz); omega
  ·rw [Int.toNat_natCast, den_at (by simp) (by rw [hself]; exact fun z hz => hm1 z (mem_sortL.1 hz)) (by rw [hself]; exact fun z hz => hm2 z (mem_sortL.1 hz)), hself]
   have e : ∀ l : List Int, (∀ z ∈ l, 0 ≤ z ∧ z < (ns.length : Int)) → (sortL l).map (fun z => den (ns ++ [putNd xs ys]) z.toNat) = (sortL l).map fun z => den ns z.toNat := fun l hm =>
    List.map_congr_left fun z hz => den_app (by have := hm z (mem_sortL.1 hz); omega)
   have e1 : (putNd xs ys).l = sortL xs := rfl
   have e2 : (putNd xs ys).r = sortL ys := rfl
   rw [e1, e2, e xs hm1, e ys hm2]
   exact hsort _
structure AddD (ns : List Nd) (fs : List Nd) (k : Nat) (s : List Int × List Nd × List Int) : Prop where
 ar : Ar s.2.1 s.2.2
 is : ∀ i, i < k → den s.2.1 (s.1.getD i 0).toNat = den fs i
 old : ∀ i, i < ns.length → den s.2.1 i = den ns i
theorem addM_den (h : Ar ns bs) (hf : FormOk fs) (hl : ns.length + fs.length ≤ 1048576) : ∀ k, k ≤ fs.length → AddD ns fs k (addM ns bs (fs.take k)) := by
 intro k
 induction k with
 | zero => intro _; exact ⟨h, fun i hi => absurd hi (Nat.not_lt_zero i), fun i _ => rfl⟩
 | succ k ih =>
  intro hk
  have ih := ih (by omega)
  have ha := addM_ok h.ok hf hl k (by omega)
  rw [jQ (by omega)]
  generalize addM ns bs (fs.take k) = s at ih ha
  obtain ⟨asx, ns2, bs2⟩ := s
  have a1 := ha.at1 hf (show k < fs.length by omega)
  have hhi := ha.hi
  simp only at hhi
  have hp := ih.ar.put (xs := atL asx (fs.getD k default).l) (ys := atL asx (fs.getD k default).r) (by simp only; omega) (by have := hf.lens k (by omega); rw [xS, xS]; omega) (vY ha.places a1.1) (vY ha.places a1.2)
  have hlo := ha.lo
  have hal := ha.len
  simp only at hp ih hlo hal
  refine ⟨hp.1, fun i hi => ?_, fun i hi => ?_⟩
  ·show den (putN ns2 bs2 _ _) ((asx ++ [_]).getD i 0).toNat = den fs i
   by_cases he : i < k
   ·rw [xH (by omega), hp.2.2 _ (by have := ha.places i (by simp only; omega); simp only at this; omega)]
    exact ih.is i he
   ·have e : i = k := by omega
    subst e
    rw [xP hal.symm, hp.2.1, vS hf.opts (by omega)]
    have oo := xW hf.opts (show i < fs.length by omega)
    have em : ∀ l : List Int, (∀ z ∈ l, 0 ≤ z ∧ z < (i : Int)) → (atL asx l).map (fun z => den ns2 z.toNat) = l.map fun z => den fs z.toNat := fun l hm => by
     unfold atL
     rw [List.map_map]
     exact List.map_congr_left fun z hz => ih.is z.toNat (by have := hm z hz; omega)
    rw [em _ oo.1, em _ oo.2]
  ·show den (putN ns2 bs2 _ _) i = den ns i
   rw [hp.2.2 i (by omega)]
   exact ih.old i hi
theorem Ar.add (h : Ar ns bs) (hf : FormOk fs) (hl : ns.length + fs.length ≤ 1048576) : AddD ns fs fs.length (addM ns bs fs) := by
 have := addM_den h hf hl fs.length (Nat.le_refl _)
 rwa [List.take_length] at this
def gOf (fs : List Nd) : Nat := den fs (fs.length - 1)
theorem Ar.root (h : Ar ns bs) (hf : FormOk fs) (h1 : 1 ≤ fs.length) (hl : ns.length + fs.length ≤ 1048576) : den (addM ns bs fs).2.1 (rootM ns bs fs).toNat = gOf fs := by
 unfold rootM gOf
 have ha := jM h.ok hf hl
 rw [ha.len]
 exact (h.add hf hl).is _ (by omega)
end Go.GL
namespace Go.GL
open Go Go.RowKit
section
variable {κ ν : Type} [DecidableEq κ]
def look (l : List (κ × ν)) (k : κ) : Option ν := (l.find? fun p => decide (p.1 = k)).map (·.2)
end
section
variable {P : Program} {ρ : Operand → Value} {w : World} {K : Value → World → Prop} {d : Option Nat} {t kt et ty : Nat} {pos : String} {aft : Array Edge} {g : Option (Nat × Bool)} {x y z : Operand} {G : Pin}
 {κ ν : Type} [DecidableEq κ] {enc : κ → Value} {val : ν → Value} {m : Nat} {l : List (κ × ν)}
end
end Go.GL
namespace Go.GL
def firstG {α : Type} (p : α → Bool) : Int → List α → Int
 | _, [] => -1
 | i, x :: r => if p x = true then i else firstG p (i + 1) r
section
variable {α : Type} {p q : α → Bool}
theorem rE : ∀ (l : List α) (i : Int), firstG p i l = -1 ∨ (i ≤ firstG p i l ∧ firstG p i l < i + l.length)
 | [], _ => Or.inl rfl
 | x :: r, i => by
  unfold firstG
  by_cases h : p x = true
  ·rw [if_pos h]; simp only [List.length_cons]; omega
  ·rw [if_neg h]
   rcases rE r (i + 1) with h1 | h1
   ·exact Or.inl h1
   ·simp only [List.length_cons]; omega
theorem pI : ∀ (l : List α) (i : Int), 0 ≤ i → (0 ≤ firstG p i l ↔ ∃ x ∈ l, p x = true)
 | [], _, _ => by simp [firstG]
 | x :: r, i, hi => by
  unfold firstG
  by_cases h : p x = true
  ·rw [if_pos h]; exact ⟨fun _ => ⟨x, by simp, h⟩, fun _ => hi⟩
  ·rw [if_neg h, pI r (i + 1) (by omega)]
   constructor
   ·rintro ⟨y, h1, h2⟩; exact ⟨y, by simp [h1], h2⟩
   ·rintro ⟨y, h1, h2⟩
    rcases List.mem_cons.1 h1 with rfl | h1
    ·exact absurd h2 h
    ·exact ⟨y, h1, h2⟩
theorem eA (d : α) : ∀ (l : List α) (i : Int) (n : Nat), n < l.length → p (l.getD n d) = true → (∀ k, k < n → p (l.getD k d) = false) → firstG p i l = i + n
 | [], _, _, h, _, _ => absurd h (Nat.not_lt_zero _)
 | x :: r, i, 0, _, h, _ => by
  have h' : p x = true := h
  unfold firstG
  rw [if_pos h']; simp
 | x :: r, i, n + 1, hl, h, hm => by
  have h0 : p x = false := hm 0 (by omega)
  unfold firstG
  rw [if_neg (by rw [h0]; exact Bool.false_ne_true), eA d r (i + 1) n (by simp at hl; omega) h fun k hk => hm (k + 1) (by omega)]
  omega
end
def lowL (L : List Cl) (ks : List (Int × Int)) : Int := firstG (fun c => decide (prC c ∈ ks)) 0 L
theorem low_lt (L : List Cl) (ks : List (Int × Int)) : lowL L ks < L.length := by
 rcases rE (p := fun c => decide (prC c ∈ ks)) L 0 with h | h <;> unfold lowL <;> omega
variable {L os : List Cl} {ks : List (Int × Int)} {asx bs : List Nd} {x k j : Nat} {nd nd2 : List Bool} {xs : List Int} {z : Int}
theorem low_pos : 0 ≤ lowL L ks ↔ ∃ c ∈ L, prC c ∈ ks := by
 unfold lowL
 rw [pI L 0 (by omega)]
 simp only [decide_eq_true_eq]
theorem low_at {n : Nat} (h : n < L.length) (hp : prC (L.getD n default) ∈ ks) (hm : ∀ q, q < n → prC (L.getD q default) ∉ ks) : (n : Int) = lowL L ks := by
 unfold lowL
 rw [eA default L 0 n h (decide_eq_true hp) fun q hq => decide_eq_false (hm q hq)]; omega
theorem low_len {n : Nat} (h : 0 ≤ lowL L ks) (hm : ∀ q, q < n → prC (L.getD q default) ∉ ks) : n < L.length ∧ (n : Int) ≤ lowL L ks := by
 obtain ⟨c, hc, hk⟩ := low_pos.1 h
 obtain ⟨j, hj⟩ := List.mem_iff_getElem?.1 hc
 have hjl := (List.getElem?_eq_some_iff.1 hj).1
 have hg : L.getD j default = c := by simp [List.getD, hj]
 have hn : n < L.length := by
  refine Classical.byContradiction fun hn => ?_
  exact hm j (by omega) (by rw [hg]; exact hk)
 refine ⟨hn, Classical.byContradiction fun hlt => ?_⟩
 obtain ⟨m, hme⟩ : ∃ m : Nat, lowL L ks = m := ⟨(lowL L ks).toNat, by omega⟩
 have hml := low_lt L ks
 have hall : ∀ q, q < n → decide (prC (L.getD q default) ∈ ks) = false := fun q hq => decide_eq_false (hm q hq)
 have key : ∀ (l : List Cl) (i : Int) (n : Nat), 0 ≤ i → n ≤ l.length → (∀ q, q < n → decide (prC (l.getD q default) ∈ ks) = false) → firstG (fun c => decide (prC c ∈ ks)) i l = -1 ∨ i + n ≤ firstG (fun c => decide (prC c ∈ ks)) i l := by
  intro l
  induction l with
  | nil => intro i n _ _ _; exact Or.inl rfl
  | cons x r ih =>
   intro i n hi hnl hq
   cases n with
   | zero =>
    rcases rE (p := fun c => decide (prC c ∈ ks)) (x :: r) i with h1 | h1
    ·exact Or.inl h1
    ·right; omega
   | succ n =>
    have h0 : decide (prC x ∈ ks) = false := hq 0 (by omega)
    unfold firstG
    rw [if_neg (by simp only [h0]; exact Bool.false_ne_true)]
    rcases ih (i + 1) n (by omega) (by simp at hnl; omega) (fun q hq' => hq (q + 1) (by omega)) with h1 | h1
    ·exact Or.inl h1
    ·right; omega
 rcases key L 0 n (by omega) (by omega) hall with h1 | h1
 ·have : lowL L ks = -1 := h1
  omega
 ·have : (0 : Int) + n ≤ lowL L ks := h1
  omega
noncomputable def trC (asx bs : List Nd) (x y : Nat) : Bool := decP (geG (den asx x) (den bs y))
def claimOf (asx bs : List Nd) (L : List Cl) (x y : Nat) : Cl :=
 ⟨x, y, (asx.getD x default).r.map fun r => lowL L (rightsP asx bs r y), (bs.getD y default).l.map fun l => lowL L (leftsP asx bs x l)⟩
structure JustP (asx bs : List Nd) (L : List Cl) (x y : Nat) : Prop where
 r : ∀ r ∈ (asx.getD x default).r, 0 ≤ lowL L (rightsP asx bs r y)
 l : ∀ l ∈ (bs.getD y default).l, 0 ≤ lowL L (leftsP asx bs x l)
noncomputable def nextL (asx bs : List Nd) (L : List Cl) (x y : Nat) : List Cl := if trC asx bs x y = true then L ++ [claimOf asx bs L x y] else L
noncomputable def colL (asx bs : List Nd) (L : List Cl) (x : Nat) : Nat → List Cl
 | 0 => L
 | k + 1 => nextL asx bs (colL asx bs L x k) x k
noncomputable def rowL (asx bs : List Nd) : Nat → List Cl
 | 0 => []
 | i + 1 => colL asx bs (rowL asx bs i) i bs.length
def WfL (L : List Cl) : Prop := ∀ j, j < L.length → ∀ z, (z ∈ (L.getD j default).r ∨ z ∈ (L.getD j default).l) → 0 ≤ z ∧ z < j
structure TrueL (asx bs : List Nd) (L : List Cl) (x k : Nat) : Prop where
 mem : ∀ i j : Nat, j < bs.length → ((∃ c ∈ L, prC c = ((i : Int), (j : Int))) ↔ (trC asx bs i j = true ∧ (i < x ∨ (i = x ∧ j < k))))
 wf : WfL L
theorem TrueL.start (asx bs : List Nd) : TrueL asx bs [] 0 0 := ⟨fun i j _ => ⟨fun ⟨c, h, _⟩ => (List.not_mem_nil h).elim, fun h => by omega⟩, fun j hj => absurd hj (Nat.not_lt_zero j)⟩
theorem TrueL.row (h : TrueL asx bs L x bs.length) : TrueL asx bs L (x + 1) 0 := ⟨fun i j hj => by rw [h.mem i j hj]; constructor <;> rintro ⟨h1, h2⟩ <;> exact ⟨h1, by omega⟩, h.wf⟩
theorem TrueL.key (h : TrueL asx bs L x k) (ha : OptsOk asx) (hb : OptsOk bs) {r y : Int} (hr : 0 ≤ r ∧ r < asx.length) (hy : 0 ≤ y ∧ y < bs.length) (hlt : r < x ∨ (r = x ∧ y < k)) :
  0 ≤ lowL L (rightsP asx bs r y) ↔ ¬ geG (den bs y.toNat) (den asx r.toNat) := by
 have hr' : r.toNat < asx.length := by omega
 have hy' : y.toNat < bs.length := by omega
 have hor := xW ha hr'; have hoy := xW hb hy'
 rw [low_pos]
 constructor
 ·rintro ⟨c, hc, hk⟩ hg
  rcases mem_rights.1 (show (c.a, c.b) ∈ rightsP asx bs r y from hk) with ⟨h1, h2⟩ | ⟨h1, h2⟩
  ·have hz := hor.1 _ h2
   have hm := (h.mem c.a.toNat y.toNat hy').1 ⟨c, hc, by unfold prC; rw [h1]; congr 1 <;> omega⟩
   exact (ge_iff.1 hg).2 _ ((qZ ha hr').2 ⟨_, h2, rfl⟩) (decP_true.1 hm.1)
  ·have hz := hoy.2 _ h2
   have hm := (h.mem r.toNat c.b.toNat (by omega)).1 ⟨c, hc, by unfold prC; rw [h1]; congr 1 <;> omega⟩
   exact (ge_iff.1 hg).1 _ ((qY hb hy').2 ⟨_, h2, rfl⟩) (decP_true.1 hm.1)
 ·intro hg
  rcases ge_not hg with ⟨q, h1, h2⟩ | ⟨q, h1, h2⟩
  ·obtain ⟨z, hz, rfl⟩ := (qY hb hy').1 h1
   have hzb := hoy.2 _ hz
   obtain ⟨c, hc, he⟩ := (h.mem r.toNat z.toNat (by omega)).2 ⟨decP_true.2 h2, by omega⟩
   refine ⟨c, hc, ?_⟩
   rw [he]
   exact mem_rights.2 (Or.inr ⟨by omega, by rw [Int.toNat_of_nonneg hzb.1]; exact hz⟩)
  ·obtain ⟨z, hz, rfl⟩ := (qZ ha hr').1 h1
   have hzb := hor.1 _ hz
   obtain ⟨c, hc, he⟩ := (h.mem z.toNat y.toNat hy').2 ⟨decP_true.2 h2, by omega⟩
   refine ⟨c, hc, ?_⟩
   rw [he]
   exact mem_rights.2 (Or.inl ⟨by omega, by rw [Int.toNat_of_nonneg hzb.1]; exact hz⟩)
theorem TrueL.just (h : TrueL asx bs L x k) (ha : OptsOk asx) (hb : OptsOk bs) (hx : x < asx.length) (hk : k < bs.length) : JustP asx bs L x k ↔ trC asx bs x k = true := by
 have hox := xW ha hx; have hok := xW hb hk
 unfold trC
 rw [decP_true, ge_iff]
 constructor
 ·intro g
  refine ⟨fun q hq => ?_, fun q hq => ?_⟩
  ·obtain ⟨z, hz, rfl⟩ := (qY ha hx).1 hq
   have hzb := hox.2 _ hz
   have := (h.key ha hb (r := z) (y := (k : Int)) ⟨hzb.1, by omega⟩ ⟨by omega, by omega⟩ (Or.inl (by omega))).1 (g.r z hz)
   exact this
  ·obtain ⟨z, hz, rfl⟩ := (qZ hb hk).1 hq
   have hzb := hok.1 _ hz
   have := (h.key ha hb (r := (x : Int)) (y := z) ⟨by omega, by omega⟩ ⟨hzb.1, by omega⟩ (Or.inr ⟨rfl, by omega⟩)).1 (g.l z hz)
   exact this
 ·intro g
  refine ⟨fun z hz => ?_, fun z hz => ?_⟩
  ·have hzb := hox.2 _ hz
   exact (h.key ha hb (r := z) (y := (k : Int)) ⟨hzb.1, by omega⟩ ⟨by omega, by omega⟩ (Or.inl (by omega))).2 (g.1 _ ((qY ha hx).2 ⟨z, hz, rfl⟩))
  ·have hzb := hok.1 _ hz
   exact (h.key ha hb (r := (x : Int)) (y := z) ⟨by omega, by omega⟩ ⟨hzb.1, by omega⟩ (Or.inr ⟨rfl, by omega⟩)).2 (g.2 _ ((qZ hb hk).2 ⟨z, hz, rfl⟩))
theorem TrueL.next (h : TrueL asx bs L x k) (ha : OptsOk asx) (hb : OptsOk bs) (hx : x < asx.length) (hk : k < bs.length) : TrueL asx bs (nextL asx bs L x k) x (k + 1) := by
 unfold nextL
 by_cases ht : trC asx bs x k = true
 ·rw [if_pos ht]
  have hj := (h.just ha hb hx hk).2 ht
  refine ⟨fun i j hjb => ?_, fun j hjl z hz => ?_⟩
  ·constructor
   ·rintro ⟨c, hc, he⟩
    rcases List.mem_append.1 hc with h1 | h1
    ·have := (h.mem i j hjb).1 ⟨c, h1, he⟩
     exact ⟨this.1, by omega⟩
    ·simp at h1; subst h1
     have e1 : (x : Int) = i := congrArg Prod.fst he
     have e2 : (k : Int) = j := congrArg Prod.snd he
     have e1' : x = i := by omega
     have e2' : k = j := by omega
     subst e1'; subst e2'
     exact ⟨ht, Or.inr ⟨rfl, by omega⟩⟩
   ·rintro ⟨h1, h2⟩
    by_cases he : i = x ∧ j = k
    ·obtain ⟨rfl, rfl⟩ := he
     exact ⟨claimOf asx bs L i j, List.mem_append_right _ (by simp), rfl⟩
    ·obtain ⟨c, hc, e⟩ := (h.mem i j hjb).2 ⟨h1, by omega⟩
     exact ⟨c, List.mem_append_left _ hc, e⟩
  ·by_cases hjL : j < L.length
   ·have e : (L ++ [claimOf asx bs L x k]).getD j default = L.getD j default := by simp [List.getD, List.getElem?_append_left hjL]
    rw [e] at hz
    exact h.wf j hjL z hz
   ·have hje : j = L.length := by simp at hjl; omega
    subst hje
    have e : (L ++ [claimOf asx bs L x k]).getD L.length default = claimOf asx bs L x k := by simp [List.getD]
    rw [e] at hz
    rcases hz with hz | hz
    ·obtain ⟨r, hr, rfl⟩ := List.mem_map.1 hz
     exact ⟨hj.r r hr, low_lt _ _⟩
    ·obtain ⟨l, hl, rfl⟩ := List.mem_map.1 hz
     exact ⟨hj.l l hl, low_lt _ _⟩
 ·rw [if_neg ht]
  refine ⟨fun i j hjb => ?_, h.wf⟩
  rw [h.mem i j hjb]
  constructor
  ·rintro ⟨h1, h2⟩; exact ⟨h1, by omega⟩
  ·rintro ⟨h1, h2⟩
   refine ⟨h1, ?_⟩
   by_cases he : i = x ∧ j = k
   ·obtain ⟨rfl, rfl⟩ := he; exact absurd h1 ht
   ·omega
theorem eO {asx bs : List Nd} {L : List Cl} {x : Nat} (h : TrueL asx bs L x 0) (ha : OptsOk asx) (hb : OptsOk bs) (hx : x < asx.length) : ∀ k, k ≤ bs.length → TrueL asx bs (colL asx bs L x k) x k
 | 0, _ => h
 | k + 1, hk => (eO h ha hb hx k (by omega)).next ha hb hx (by omega)
theorem mK {asx bs : List Nd} (ha : OptsOk asx) (hb : OptsOk bs) : ∀ x, x ≤ asx.length → TrueL asx bs (rowL asx bs x) x 0
 | 0, _ => TrueL.start asx bs
 | x + 1, hx => (eO (mK ha hb x (by omega)) ha hb (by omega) bs.length (Nat.le_refl _)).row
theorem trueAt (ha : OptsOk asx) (hb : OptsOk bs) (hx : x < asx.length) (hk : k ≤ bs.length) : TrueL asx bs (colL asx bs (rowL asx bs x) x k) x k := eO (mK ha hb x (by omega)) ha hb hx k hk
theorem next_len (asx bs : List Nd) (L : List Cl) (x y : Nat) : L.length ≤ (nextL asx bs L x y).length ∧ (nextL asx bs L x y).length ≤ L.length + 1 := by
 unfold nextL; split <;> simp
theorem col_len (asx bs : List Nd) (L : List Cl) (x : Nat) : ∀ k, (colL asx bs L x k).length ≤ L.length + k
 | 0 => Nat.le_refl _
 | k + 1 => by
  have h1 := col_len asx bs L x k; have h2 := (next_len asx bs (colL asx bs L x k) x k).2
  show (nextL asx bs (colL asx bs L x k) x k).length ≤ _
  omega
theorem row_len (asx bs : List Nd) : ∀ x, (rowL asx bs x).length ≤ x * bs.length
 | 0 => by simp [rowL]
 | x + 1 => by
  have h1 := row_len asx bs x; have h2 := col_len asx bs (rowL asx bs x) x bs.length
  show (colL asx bs (rowL asx bs x) x bs.length).length ≤ _
  rw [Nat.succ_mul]; omega
def needAll (nd : List Bool) (xs : List Int) : List Bool := xs.foldl (fun a i => a.set i.toNat true) nd
theorem jS : ∀ (xs : List Int) (nd : List Bool), (needAll nd xs).length = nd.length
 | [], _ => rfl
 | x :: r, nd => by
  show (needAll (nd.set x.toNat true) r).length = _
  rw [jS r]; simp
theorem needAll_next {q : Nat} (h : q < xs.length) : (needAll nd (xs.take q)).set (xs.getD q 0).toNat true = needAll nd (xs.take (q + 1)) := by
 rw [vU xs 0 h]; unfold needAll; rw [List.foldl_append]; rfl
theorem fI {k : Nat} : ∀ (xs : List Int) (nd : List Bool), nd.getD k false = true → (needAll nd xs).getD k false = true
 | [], _, h => h
 | x :: r, nd, h => by
  show (needAll (nd.set x.toNat true) r).getD k false = true
  refine fI r _ ?_
  have hk : k < nd.length := by
   refine Classical.byContradiction fun hk => ?_
   simp [List.getD, List.getElem?_eq_none (show nd.length ≤ k by omega)] at h
  by_cases he : x.toNat = k
  ·subst he; simp [List.getD, hk]
  ·simp only [List.getD, List.getElem?_set_ne he]; exact h
noncomputable def needStep (L : List Cl) (nd : List Bool) (k : Nat) : List Bool := if nd.getD k false = true then needAll (needAll nd (L.getD k default).r) (L.getD k default).l else nd
noncomputable def needN (L : List Cl) : Nat → List Bool
 | 0 => (List.replicate L.length false).set (L.length - 1) true
 | j + 1 => needStep L (needN L j) (L.length - 1 - j)
theorem kP (L : List Cl) : ∀ j, (needN L j).length = L.length
 | 0 => by simp [needN]
 | j + 1 => by
  show (needStep L (needN L j) (L.length - 1 - j)).length = _
  unfold needStep
  split
  ·rw [jS, jS, kP L j]
  ·exact kP L j
noncomputable def cutStep (L : List Cl) (nd : List Bool) (j : Nat) (s : List Int × List Cl) : List Int × List Cl :=
 if nd.getD j false = true then (s.1.set j s.2.length, s.2 ++ [⟨(L.getD j default).a, (L.getD j default).b, atL (s.1.set j s.2.length) (L.getD j default).r, atL (s.1.set j s.2.length) (L.getD j default).l⟩]) else s
noncomputable def cutN (L : List Cl) (nd : List Bool) : Nat → List Int × List Cl
 | 0 => (List.replicate L.length 0, [])
 | j + 1 => cutStep L nd j (cutN L nd j)
theorem gZ (L : List Cl) (nd : List Bool) : ∀ j, (cutN L nd j).1.length = L.length ∧ (cutN L nd j).2.length ≤ j
 | 0 => by simp [cutN]
 | j + 1 => by
  have h := gZ L nd j
  show (cutStep L nd j (cutN L nd j)).1.length = _ ∧ (cutStep L nd j (cutN L nd j)).2.length ≤ _
  unfold cutStep
  split
  ·simp only [List.length_set, List.length_append, List.length_cons, List.length_nil]; omega
  ·omega
noncomputable def cutL (L : List Cl) : List Cl := (cutN L (needN L L.length) L.length).2
noncomputable def fullL (asx bs : List Nd) : List Cl := rowL asx bs asx.length
structure PrfP (asx bs : List Nd) : Prop where
 ga : GoodP asx
 gb : GoodP bs
 ge : geG (gOf asx) (gOf bs)
 le : (cutL (fullL asx bs)).length ≤ 200
noncomputable def prfB (asx bs : List Nd) : Bool := decP (PrfP asx bs)
noncomputable def prfL (asx bs : List Nd) : List Cl := if prfB asx bs = true then cutL (fullL asx bs) else []
theorem full_pos (ha : GoodP asx) (hb : GoodP bs) (hg : geG (gOf asx) (gOf bs)) : 1 ≤ (fullL asx bs).length := by
 have h1 := ha.lo; have h2 := hb.lo
 obtain ⟨c, hc, _⟩ := ((mK ha.optsOk hb.optsOk asx.length (Nat.le_refl _)).mem (asx.length - 1) (bs.length - 1) (by omega)).2 ⟨decP_true.2 hg, Or.inl (by omega)⟩
 exact List.length_pos_of_mem hc
theorem full_len (ha : GoodP asx) (hb : GoodP bs) : (fullL asx bs).length ≤ 14400 := by
 have h1 := row_len asx bs asx.length; have h2 := ha.hi; have h3 := hb.hi
 have h4 : asx.length * bs.length ≤ 120 * 120 := Nat.mul_le_mul h2 h3
 unfold fullL
 omega
theorem col_bound (ha : asx.length ≤ 120) (hb : bs.length ≤ 120) (hx : x < asx.length) (hk : k ≤ bs.length) : (colL asx bs (rowL asx bs x) x k).length ≤ 14400 := by
 have h1 := row_len asx bs x; have h2 := col_len asx bs (rowL asx bs x) x k
 have h3 : (x + 1) * bs.length ≤ 120 * 120 := Nat.mul_le_mul (by omega) hb
 rw [Nat.succ_mul] at h3
 omega
noncomputable def needZ (L : List Cl) (z : Int) : List Bool := needN L ((L.length : Int) - 1 - z).toNat
theorem needZ_start (L : List Cl) : needZ L ((L.length : Int) - 1) = (List.replicate L.length false).set ((L.length : Int) - 1).toNat true := by
 unfold needZ
 rw [show ((L.length : Int) - 1 - ((L.length : Int) - 1)).toNat = 0 by omega, show ((L.length : Int) - 1).toNat = L.length - 1 by omega]; rfl
theorem needZ_step (h0 : 0 ≤ z) (h1 : z < L.length) : needZ L (z - 1) = needStep L (needZ L z) z.toNat := by
 unfold needZ
 rw [show ((L.length : Int) - 1 - (z - 1)).toNat = ((L.length : Int) - 1 - z).toNat + 1 by omega]
 show needStep L _ _ = _
 rw [show L.length - 1 - ((L.length : Int) - 1 - z).toNat = z.toNat by omega]
theorem needZ_end (h : z = -1) : needZ L z = needN L L.length := by
 subst h; unfold needZ; rw [show ((L.length : Int) - 1 - -1).toNat = L.length by omega]
theorem need_yes (h : nd.getD k false = true) : needStep L nd k = needAll (needAll nd (L.getD k default).r) (L.getD k default).l := by unfold needStep; rw [if_pos h]
theorem need_no (h : nd.getD k false = false) : needStep L nd k = nd := by unfold needStep; rw [if_neg (by rw [h]; exact Bool.false_ne_true)]
noncomputable def halfN (nd : List Bool) (xs : List Int) (k : Nat) : List Bool := if nd.getD k false = true then needAll nd xs else nd
theorem pE (nd : List Bool) (xs : List Int) (k : Nat) : (0 = 0 ∨ nd.getD k false = true) ∧ nd = needAll nd (xs.take 0) := ⟨Or.inl rfl, rfl⟩
theorem sZ {q : Nat} (h : (q = 0 ∨ nd.getD k false = true) ∧ nd2 = needAll nd (xs.take q)) (hq : q < xs.length) (hk : nd2.getD k false = true) :
  (q + 1 = 0 ∨ nd.getD k false = true) ∧ nd2.set (xs.getD q 0).toNat true = needAll nd (xs.take (q + 1)) := by
 refine ⟨Or.inr ?_, by rw [h.2]; exact needAll_next hq⟩
 rcases h.1 with h1 | h1
 ·subst h1
  have := h.2
  rw [List.take_zero] at this
  rw [this] at hk; exact hk
 ·exact h1
theorem sY {q : Nat} (h : (q = 0 ∨ nd.getD k false = true) ∧ nd2 = needAll nd (xs.take q)) (hk : nd2.getD k false = false) : nd2 = halfN nd xs k := by
 have hn : nd.getD k false = false := by
  cases hc : nd.getD k false
  ·rfl
  ·have := fI (xs.take q) nd hc
   rw [← h.2, hk] at this; cases this
 rcases h.1 with h1 | h1
 ·subst h1
  have h2 := h.2
  rw [List.take_zero] at h2
  unfold halfN
  rw [if_neg (by rw [hn]; exact Bool.false_ne_true)]; exact h2
 ·rw [hn] at h1; cases h1
theorem half_end {q : Nat} (h : (q = 0 ∨ nd.getD k false = true) ∧ nd2 = needAll nd (xs.take q)) (hk : nd2.getD k false = true) (hq : xs.length ≤ q) : nd2 = halfN nd xs k := by
 rw [List.take_of_length_le hq] at h
 have hn : nd.getD k false = true := by
  rcases h.1 with h1 | h1
  ·have hx : xs = [] := List.eq_nil_of_length_eq_zero (by omega)
   have h2 := h.2
   rw [hx] at h2
   rw [show nd2 = nd from h2] at hk; exact hk
  ·exact h1
 unfold halfN
 rw [if_pos hn]; exact h.2
theorem half_step {nd3 : List Bool} (h1 : nd2 = halfN nd (L.getD k default).r k) (h2 : nd3 = halfN nd2 (L.getD k default).l k) : nd3 = needStep L nd k := by
 subst h1; subst h2
 cases hc : nd.getD k false
 ·rw [need_no hc]
  have e : ∀ xs, halfN nd xs k = nd := fun xs => by unfold halfN; rw [if_neg (by rw [hc]; exact Bool.false_ne_true)]
  rw [e, e]
 ·rw [need_yes hc]
  have e : halfN nd (L.getD k default).r k = needAll nd (L.getD k default).r := by unfold halfN; rw [if_pos hc]
  rw [e]
  unfold halfN
  rw [if_pos (fI _ _ hc)]
theorem mV {at_ : List Int} (h : cutN L nd j = (at_, os)) (hn : nd.getD j false = true) :
  cutN L nd (j + 1) = (at_.set j os.length, os ++ [⟨(L.getD j default).a, (L.getD j default).b, atL (at_.set j os.length) (L.getD j default).r, atL (at_.set j os.length) (L.getD j default).l⟩]) := by
 show cutStep L nd j (cutN L nd j) = _
 rw [h]; unfold cutStep; rw [if_pos hn]
theorem cut_no {at_ : List Int} (h : cutN L nd j = (at_, os)) (hn : nd.getD j false = false) : cutN L nd (j + 1) = (at_, os) := by
 show cutStep L nd j (cutN L nd j) = _
 rw [h]; unfold cutStep; rw [if_neg (by rw [hn]; exact Bool.false_ne_true)]
theorem next_lens (ha : GoodP asx) (hb : GoodP bs) {y : Nat} (h : ∀ c ∈ L, c.r.length ≤ 24 ∧ c.l.length ≤ 24) : ∀ c ∈ nextL asx bs L x y, c.r.length ≤ 24 ∧ c.l.length ≤ 24 := by
 have hd : ∀ (ns : List Nd), GoodP ns → ∀ i, (ns.getD i default).l.length ≤ 24 ∧ (ns.getD i default).r.length ≤ 24 := fun ns g i => by
  by_cases hi : i < ns.length
  ·exact ⟨g.lenl hi, g.lenr hi⟩
  ·have e : ns.getD i default = default := by simp [List.getD, List.getElem?_eq_none (show ns.length ≤ i by omega)]
   rw [e]; exact ⟨Nat.zero_le _, Nat.zero_le _⟩
 unfold nextL
 split
 ·intro c hc
  rcases List.mem_append.1 hc with h1 | h1
  ·exact h c h1
  ·simp at h1; subst h1
   unfold claimOf
   simp only [List.length_map]
   exact ⟨(hd asx ha x).2, (hd bs hb y).1⟩
 ·exact h
theorem col_lens {asx bs : List Nd} (ha : GoodP asx) (hb : GoodP bs) {L : List Cl} {x : Nat} (h : ∀ c ∈ L, c.r.length ≤ 24 ∧ c.l.length ≤ 24) : ∀ k, ∀ c ∈ colL asx bs L x k, c.r.length ≤ 24 ∧ c.l.length ≤ 24
 | 0 => h
 | k + 1 => next_lens ha hb (col_lens ha hb h k)
theorem row_lens {asx bs : List Nd} (ha : GoodP asx) (hb : GoodP bs) : ∀ x, ∀ c ∈ rowL asx bs x, c.r.length ≤ 24 ∧ c.l.length ≤ 24
 | 0 => fun _ h => by cases h
 | x + 1 => col_lens ha hb (row_lens ha hb x) _
structure LOk (L : List Cl) : Prop where
 wf : WfL L
 ln : ∀ j, j < L.length → (L.getD j default).r.length ≤ 24 ∧ (L.getD j default).l.length ≤ 24
 pos : 1 ≤ L.length
 hi : L.length ≤ 14400
theorem LOk.r (h : LOk L) {q : Nat} (hj : j < L.length) (hq : q < (L.getD j default).r.length) : 0 ≤ (L.getD j default).r.getD q 0 ∧ (L.getD j default).r.getD q 0 < j := h.wf j hj _ (Or.inl (jD hq))
theorem LOk.l (h : LOk L) {q : Nat} (hj : j < L.length) (hq : q < (L.getD j default).l.length) : 0 ≤ (L.getD j default).l.getD q 0 ∧ (L.getD j default).l.getD q 0 < j := h.wf j hj _ (Or.inr (jD hq))
theorem full_ok (ha : GoodP asx) (hb : GoodP bs) (hg : geG (gOf asx) (gOf bs)) : LOk (fullL asx bs) :=
 ⟨(mK ha.optsOk hb.optsOk asx.length (Nat.le_refl _)).wf, fun _ hj => row_lens ha hb asx.length _ (jD hj), full_pos ha hb hg, full_len ha hb⟩
theorem gP {asx bs : List Nd} (h : ¬ PrfP asx bs) : prfB asx bs = false ∧ prfL asx bs = [] := by
 have : prfB asx bs = false := decP_false.2 h
 exact ⟨this, by unfold prfL; rw [this]; rfl⟩
theorem mQ {asx bs : List Nd} (h : PrfP asx bs) : prfB asx bs = true ∧ prfL asx bs = cutL (fullL asx bs) := by
 have : prfB asx bs = true := decP_true.2 h
 exact ⟨this, by unfold prfL; rw [this]; rfl⟩
end Go.GL
namespace Go.GL
open Go Go.RowKit
def inO (x : Option Nat) (k : Nat) : Prop := x = some k
variable {x y : Int} {ns : List Nd} {ks k1 k2 : List Int} {m m' k i j : Nat}
theorem notO {x y : Option Nat} (h : Apart x y) : ∀ k, x = some k → ¬ inO y k := fun k hx hy => h k hx hy
theorem xJ {c : Nat} {y : Option Nat} (h : Apart (some c) y) : ¬ inO y c := fun hy => h c rfl hy
theorem xO {w : World} {x : Option Nat} : Lo w (inO x) x := fun _ hk => Or.inr hk
noncomputable def geB (ns : List Nd) (x y : Int) : Bool := decP (geG (den ns x.toNat) (den ns y.toNat))
def KOk (ns : List Nd) (ks : List Int) (m : Nat) : Prop := ∀ i j : Nat, i < ns.length → j < ns.length → i + j < m → ks.getD (i * ns.length + j) 0 = 0 ∨ ks.getD (i * ns.length + j) 0 = if geB ns i j = true then 1 else 2
def KSame (ns : List Nd) (ks ks' : List Int) (m : Nat) : Prop := ∀ i j : Nat, i < ns.length → j < ns.length → m ≤ i + j → ks'.getD (i * ns.length + j) 0 = ks.getD (i * ns.length + j) 0
structure KRes (ns : List Nd) (ks ks' : List Int) (m : Nat) : Prop where
 len : ks'.length = ks.length
 ok : KOk ns ks' m
 same : KSame ns ks ks' m
theorem KOk.mono (h : KOk ns ks m) (hm : m' ≤ m) : KOk ns ks m' := fun i j hi hj hs => h i j hi hj (by omega)
theorem KOk.zero : KOk ns (List.replicate k 0) m := fun i j _ _ _ => Or.inl (by simp [List.getD, List.getElem?_replicate]; split <;> rfl)
theorem KRes.refl (h : KOk ns ks m) : KRes ns ks ks m := ⟨rfl, h, fun _ _ _ _ _ => rfl⟩
theorem KRes.wide (h : KRes ns ks k1 m) (k : KRes ns k1 k2 m') (hm : m' ≤ m) : KRes ns ks k2 m := by
 refine ⟨k.len.trans h.len, fun i j hi hj hs => ?_, fun i j hi hj hs => ?_⟩
 ·by_cases hlt : i + j < m'
  ·exact k.ok i j hi hj hlt
  ·rw [k.same i j hi hj (by omega)]; exact h.ok i j hi hj hs
 ·rw [k.same i j hi hj (by omega), h.same i j hi hj hs]
theorem idx_lt {n : Nat} (hi : i < n) (hj : j < n) : i * n + j < n * n := by
 have h : (i + 1) * n ≤ n * n := Nat.mul_le_mul_right n hi
 rw [Nat.add_mul] at h; omega
theorem idx_eq {n l : Nat} (hj : j < n) (hl : l < n) (h : i * n + j = k * n + l) : i = k ∧ j = l := by
 have hn : 0 < n := by omega
 have h1 : (n * i + j) / n = i := by rw [Nat.mul_add_div hn, Nat.div_eq_of_lt hj]; rfl
 have h2 : (n * k + l) / n = k := by rw [Nat.mul_add_div hn, Nat.div_eq_of_lt hl]; rfl
 rw [Nat.mul_comm, Nat.mul_comm k] at h
 rw [h] at h1
 have : i = k := h1.symm.trans h2
 subst this
 exact ⟨rfl, by omega⟩
theorem idx_int (hx : 0 ≤ x ∧ x < ns.length) (hy : 0 ≤ y ∧ y < ns.length) : (x * (ns.length : Int) + y).toNat = x.toNat * ns.length + y.toNat := by
 have e : x * (ns.length : Int) + y = ((x.toNat * ns.length + y.toNat : Nat) : Int) := by
  rw [Int.natCast_add, Int.natCast_mul]
  rw [Int.toNat_of_nonneg hx.1, Int.toNat_of_nonneg hy.1]
 rw [e, Int.toNat_natCast]
theorem idx_bd (hx : 0 ≤ x ∧ x < ns.length) (hy : 0 ≤ y ∧ y < ns.length) (hn : ns.length ≤ 1048576) :
  (0 ≤ x * (ns.length : Int) ∧ x * (ns.length : Int) ≤ 1099511627776) ∧ x * (ns.length : Int) + y < (ns.length * ns.length : Nat) := by
 have h1 := idx_lt (n := ns.length) (i := x.toNat) (j := y.toNat) (by omega) (by omega)
 have e : x * (ns.length : Int) = ((x.toNat * ns.length : Nat) : Int) := by rw [Int.natCast_mul, Int.toNat_of_nonneg hx.1]
 have h2 : x.toNat * ns.length ≤ 1048576 * 1048576 := Nat.mul_le_mul (by omega) hn
 refine ⟨⟨by omega, by omega⟩, by omega⟩
theorem vR {l : List Int} (h : j ≠ i) : (l.set i x).getD j 0 = l.getD j 0 := by simp [List.getD, Ne.symm h]
theorem KRes.prov {v : Int} (hx : 0 ≤ x ∧ x < ns.length) (hy : 0 ≤ y ∧ y < ns.length) (h : KOk ns ks (x.toNat + y.toNat + 1)) :
  KOk ns (ks.set (x * (ns.length : Int) + y).toNat v) (x.toNat + y.toNat) ∧ ∀ i j : Nat, i < ns.length → j < ns.length → x.toNat + y.toNat < i + j → (ks.set (x * (ns.length : Int) + y).toNat v).getD (i * ns.length + j) 0 = ks.getD (i * ns.length + j) 0 := by
 rw [idx_int hx hy]
 refine ⟨fun i j hi hj hs => ?_, fun i j hi hj hs => ?_⟩
 ·rw [vR fun e => by have := idx_eq hj (by omega) e; omega]
  exact h i j hi hj (by omega)
 ·rw [vR fun e => by have := idx_eq hj (by omega) e; omega]
theorem KRes.told (hx : 0 ≤ x ∧ x < ns.length) (hy : 0 ≤ y ∧ y < ns.length) (hl : ks.length = ns.length * ns.length) (h : KOk ns ks (x.toNat + y.toNat + 1)) (k : KRes ns (ks.set (x * (ns.length : Int) + y).toNat 2) k1 (x.toNat + y.toNat))
  (hk : k2 = if geB ns x y = true then k1.set (x * (ns.length : Int) + y).toNat 1 else k1) :
  KRes ns ks k2 (x.toNat + y.toNat + 1) ∧ decide (k2.getD (x * (ns.length : Int) + y).toNat 0 = 1) = geB ns x y := by
 have hp := KRes.prov (v := 2) hx hy h
 rw [idx_int hx hy] at k hk hp ⊢
 have hlt := idx_lt (n := ns.length) (i := x.toNat) (j := y.toNat) (by omega) (by omega)
 have hl1 : k1.length = ns.length * ns.length := by rw [k.len, List.length_set, hl]
 have hself : k1.getD (x.toNat * ns.length + y.toNat) 0 = 2 := by
  rw [k.same x.toNat y.toNat (by omega) (by omega) (Nat.le_refl _)]
  simp [List.getD, hl, hlt]
 have hgn : geB ns (x.toNat : Int) (y.toNat : Int) = geB ns x y := by rw [Int.toNat_of_nonneg hx.1, Int.toNat_of_nonneg hy.1]
 have hother : ∀ q, q ≠ x.toNat * ns.length + y.toNat → k2.getD q 0 = k1.getD q 0 := fun q hq => by
  rw [hk]; split
  ·exact vR hq
  ·rfl
 have hat : k2.getD (x.toNat * ns.length + y.toNat) 0 = if geB ns x y = true then 1 else 2 := by
  rw [hk]; split
  ·simp [List.getD, hl1, hlt]
  ·exact hself
 refine ⟨⟨?_, fun i j hi hj hs => ?_, fun i j hi hj hs => ?_⟩, ?_⟩
 ·rw [hk]; split
  ·rw [List.length_set, hl1, hl]
  ·rw [hl1, hl]
 ·by_cases he : i * ns.length + j = x.toNat * ns.length + y.toNat
  ·obtain ⟨rfl, rfl⟩ := idx_eq hj (by omega) he
   right; rw [hat, hgn]
  ·rw [hother _ he]
   by_cases hlt2 : i + j < x.toNat + y.toNat
   ·exact k.ok i j hi hj hlt2
   ·rw [k.same i j hi hj (by omega), vR he]; exact h i j hi hj hs
 ·rw [hother _ fun e => by have := idx_eq hj (by omega) e; omega, k.same i j hi hj (by omega), hp.2 i j hi hj (by omega)]
 ·rw [hat]
  split
  ·rename_i hg; rw [hg]; rfl
  ·rename_i hg; rw [Bool.not_eq_true] at hg; rw [hg]; rfl
theorem KOk.known (hx : 0 ≤ x ∧ x < ns.length) (hy : 0 ≤ y ∧ y < ns.length) (h : KOk ns ks (x.toNat + y.toNat + 1)) (h0 : ¬ ks.getD (x * (ns.length : Int) + y).toNat 0 = 0) :
  decide (ks.getD (x * (ns.length : Int) + y).toNat 0 = 1) = geB ns x y := by
 rw [idx_int hx hy] at h0 ⊢
 have hgn : geB ns (x.toNat : Int) (y.toNat : Int) = geB ns x y := by rw [Int.toNat_of_nonneg hx.1, Int.toNat_of_nonneg hy.1]
 rcases h x.toNat y.toNat (by omega) (by omega) (by omega) with h1 | h1
 ·exact absurd h1 h0
 ·rw [h1, hgn]
  split
  ·rename_i hg; rw [hg]; rfl
  ·rename_i hg; rw [Bool.not_eq_true] at hg; rw [hg]; rfl
theorem geB_no_right (ho : OptsOk ns) (hx : 0 ≤ x ∧ x < ns.length) (hi : i < (ns.getD x.toNat default).r.length) (h : geB ns y ((ns.getD x.toNat default).r.getD i 0) = true) : geB ns x y = false := by
 refine decP_false.2 fun g => (ge_iff.1 g).1 _ ((qY ho (by omega)).2 ⟨_, xE (d := (0 : Int)) hi, rfl⟩) (decP_true.1 h)
theorem geB_no_left (ho : OptsOk ns) (hy : 0 ≤ y ∧ y < ns.length) (hi : i < (ns.getD y.toNat default).l.length) (h : geB ns ((ns.getD y.toNat default).l.getD i 0) x = true) : geB ns x y = false := by
 refine decP_false.2 fun g => (ge_iff.1 g).2 _ ((qZ ho (by omega)).2 ⟨_, xE (d := (0 : Int)) hi, rfl⟩) (decP_true.1 h)
theorem geB_yes (ho : OptsOk ns) (hx : 0 ≤ x ∧ x < ns.length) (hy : 0 ≤ y ∧ y < ns.length) (h1 : ∀ i, i < (ns.getD x.toNat default).r.length → geB ns y ((ns.getD x.toNat default).r.getD i 0) = false) (h2 : ∀ i, i < (ns.getD y.toNat default).l.length → geB ns ((ns.getD y.toNat default).l.getD i 0) x = false) : geB ns x y = true := by
 refine decP_true.2 (ge_iff.2 ⟨fun r hr => ?_, fun l hl => ?_⟩)
 ·obtain ⟨z, hz, rfl⟩ := (qY ho (by omega)).1 hr
  obtain ⟨i, hi, rfl⟩ := List.getElem_of_mem hz
  have e : (ns.getD x.toNat default).r.getD i 0 = (ns.getD x.toNat default).r[i] := by rw [List.getD, List.getElem?_eq_getElem hi]; rfl
  have := h1 i hi
  rw [e] at this
  exact decP_false.1 this
 ·obtain ⟨z, hz, rfl⟩ := (qZ ho (by omega)).1 hl
  obtain ⟨i, hi, rfl⟩ := List.getElem_of_mem hz
  have e : (ns.getD y.toNat default).l.getD i 0 = (ns.getD y.toNat default).l[i] := by rw [List.getD, List.getElem?_eq_getElem hi]; rfl
  have := h2 i hi
  rw [e] at this
  exact decP_false.1 this
theorem sq_bd {n : Nat} (h : n ≤ 1048576) : 0 ≤ (n : Int) * (n : Int) ∧ (n : Int) * (n : Int) ≤ 1099511627776 := by
 have h1 : n * n ≤ 1048576 * 1048576 := Nat.mul_le_mul h h
 rw [← Int.natCast_mul]; omega
theorem sq_nat (n : Nat) : ((n : Int) * (n : Int)).toNat = n * n := by rw [← Int.natCast_mul]; rfl
theorem ge_roots {asx bs : List Nd} (ha : FormOk asx ∧ 1 ≤ asx.length) (hb : FormOk bs ∧ 1 ≤ bs.length) (hl : asx.length + bs.length ≤ 1048576) (x y : Int) (hx : x = rootM [] [] asx) (hy : y = rootM (addM [] [] asx).2.1 (addM [] [] asx).2.2 bs) :
  geB (addM (addM [] [] asx).2.1 (addM [] [] asx).2.2 bs).2.1 x y = decP (geG (gOf asx) (gOf bs)) ∧ geB (addM (addM [] [] asx).2.1 (addM [] [] asx).2.2 bs).2.1 y x = decP (geG (gOf bs) (gOf asx)) := by
 have h0 := jM qT ha.1 (by simp; omega)
 have hlen := h0.hi
 simp only [List.length_nil, Nat.zero_add] at hlen
 have d0 := Ar.empty.add ha.1 (by simp; omega)
 have d1 := d0.ar.add hb.1 (by omega)
 have r0 := Ar.empty.root ha.1 ha.2 (by simp; omega)
 have r1 := d0.ar.root hb.1 hb.2 (by omega)
 have l0 := tH h0 ha.2
 subst hx hy
 have e0 : den (addM (addM [] [] asx).2.1 (addM [] [] asx).2.2 bs).2.1 (rootM [] [] asx).toNat = gOf asx := (d1.old _ (by omega)).trans r0
 unfold geB
 rw [e0, r1]
 exact ⟨rfl, rfl⟩
structure Od (e1 e2 : Nat) (G : Pin) (w : World) (o b : Nat) (bu bv kv : Value) (ns : List Nd) (bs ks : List Int) : Prop where
 bk : Bk e1 e2 G w b bu bv ns bs
 ox : Bx G w o [.pointer (some ⟨b, 0, none⟩), kv]
 ok : Own eInt e2 G w 0 kv ks
 aok : Apart (some o) kv.ownBlock
 abk : Apart (some b) kv.ownBlock
 auk : Apart bu.ownBlock kv.ownBlock
 avk : Apart bv.ownBlock kv.ownBlock
end Go.GL
namespace Go.GL
open Go Go.RowKit
section
variable {P : Program} {ρ : Operand → Value} {w : World} {d : Option Nat} {t ty t' : Nat} {pos : String} {aft : Array Edge} {g : Option (Nat × Bool)} {x y c : Operand}
 {v u : Value} {i j : Int} {k : IntKind} {G : Pin} {K : Value → World → Prop}
theorem wrapU {n : Int} (h : 0 ≤ n ∧ n ≤ 18446744073709551615) : IntKind.u64.wrap n = n := by
 unfold IntKind.wrap
 simp only [IntKind.bits, IntKind.signed]
 have : n % (2 : Int) ^ 64 = n := Int.emod_eq_of_lt h.1 (by omega)
 simp only [this, Bool.false_and]
 rfl
theorem pZ {n : Int} (h : -9223372036854775808 ≤ n ∧ n ≤ 9223372036854775807) : IntKind.i64.wrap n = n := by
 simp [IntWalk.i64_in n h]
theorem r_addU (hx : ρ x = .int .u64 i) (hy : ρ y = .int .u64 j) : (execOp ρ ⟨d, .binOp .add t x y t', ty, pos, aft, g⟩).run P w = .ok (.value (.int .u64 (IntKind.u64.wrap (i + j)))) w := by
 simp [execOp, hx, hy, binOp, eqGuard, Op.intArith]
theorem r_mulU (hx : ρ x = .int .u64 i) (hy : ρ y = .int .u64 j) : (execOp ρ ⟨d, .binOp .mul t x y t', ty, pos, aft, g⟩).run P w = .ok (.value (.int .u64 (IntKind.u64.wrap (i * j)))) w := by
 simp [execOp, hx, hy, binOp, eqGuard, Op.intArith]
theorem r_shrU (hx : ρ x = .int .u64 i) (hy : ρ y = .int .u64 j) (h0 : 0 ≤ j) : (execOp ρ ⟨d, .binOp .shr t x y t', ty, pos, aft, g⟩).run P w = .ok (.value (.int .u64 (i.fdiv (2 ^ (min j.toNat 64))))) w := by
 simp [execOp, hx, hy, binOp, eqGuard, Op.shift, show ¬ j < 0 by omega, IntKind.bits]
def andW (k : IntKind) (i j : Int) : Int := k.wrap (BitVec.ofInt k.bits i &&& BitVec.ofInt k.bits j).toNat
theorem r_and (hx : ρ x = .int k i) (hy : ρ y = .int k j) : (execOp ρ ⟨d, .binOp .and t x y t', ty, pos, aft, g⟩).run P w = .ok (.value (.int k (andW k i j))) w := by
 simp [execOp, hx, hy, binOp, eqGuard, Op.intBits, andW]
theorem low8_lt (i : Int) : 0 ≤ andW .u64 i 255 ∧ andW .u64 i 255 ≤ 255 := by
 have h : (BitVec.ofInt 64 i &&& BitVec.ofInt 64 255).toNat ≤ 255 := by
  rw [BitVec.toNat_and]
  exact Nat.le_trans Nat.and_le_right (by decide)
 have e : andW .u64 i 255 = ((BitVec.ofInt 64 i &&& BitVec.ofInt 64 255).toNat : Int) := wrapU ⟨by omega, by show ((BitVec.ofInt 64 i &&& BitVec.ofInt 64 255).toNat : Int) ≤ _; omega⟩
 rw [e]; omega
theorem fS {t2 : Nat} {k2 : IntKind} {td : TypeDesc} (hs : P.underlying t = some td) (hd : P.underlying t2 = some (.int k2)) (hx : ρ x = .int k i) (hw : k2.wrap i = j) : (execOp ρ ⟨d, .convert t t2 x, ty, pos, aft, g⟩).run P w = .ok (.value (.int k2 j)) w := by
 subst hw
 simp [execOp, hx, convert, run_underlying hs, run_underlying hd, Conv.intToInt]
def b2s (l : List UInt8) : ByteArray := ⟨l.toArray⟩
theorem b2s_inj {a b : List UInt8} (h : b2s a = b2s b) : a = b := by
 have := congrArg (fun x => x.data.toList) h
 simpa [b2s] using this
def digC (n : Nat) : UInt8 := if n < 10 then UInt8.ofNat (48 + n) else UInt8.ofNat (87 + n)
end
theorem digC_inj : ∀ a b : Fin 36, digC a.val = digC b.val → a = b := by decide
theorem digC_sep : ∀ a : Fin 36, digC a.val ≠ 44 ∧ digC a.val ≠ 124 := by decide
def dig36 (n : Nat) : List UInt8 := if _h : n < 36 then [digC n] else dig36 (n / 36) ++ [digC (n % 36)]
termination_by n
decreasing_by omega
theorem rI {n : Nat} (h : n < 36) : dig36 n = [digC n] := by rw [dig36, dif_pos h]
theorem rJ {n : Nat} (h : ¬ n < 36) : dig36 n = dig36 (n / 36) ++ [digC (n % 36)] := by rw [dig36, dif_neg h]
theorem dig_pos (n : Nat) : 0 < (dig36 n).length := by
 by_cases h : n < 36
 ·rw [rI h]; simp
 ·rw [rJ h]; simp
theorem dig_sep (n : Nat) : ∀ x ∈ dig36 n, x ≠ 44 ∧ x ≠ 124 := by
 induction n using Nat.strongRecOn with
 | _ n ih =>
  intro x hx
  by_cases h : n < 36
  ·rw [rI h] at hx; simp at hx; subst hx; exact digC_sep ⟨n, h⟩
  ·rw [rJ h] at hx
   rcases List.mem_append.1 hx with hx | hx
   ·exact ih _ (by omega) x hx
   ·simp at hx; subst hx; exact digC_sep ⟨n % 36, by omega⟩
theorem dig_inj : ∀ (a b : Nat), dig36 a = dig36 b → a = b := by
 intro a
 induction a using Nat.strongRecOn with
 | _ a ih =>
  intro b h
  by_cases ha : a < 36 <;> by_cases hb : b < 36
  ·rw [rI ha, rI hb] at h
   have := digC_inj ⟨a, ha⟩ ⟨b, hb⟩ (by simpa using h)
   simpa using this
  ·rw [rI ha, rJ hb] at h
   have h1 := congrArg List.length h
   have := dig_pos (b / 36)
   rw [List.length_append] at h1
   simp only [List.length_cons, List.length_nil] at h1; omega
  ·rw [rJ ha, rI hb] at h
   have h1 := congrArg List.length h
   have := dig_pos (a / 36)
   rw [List.length_append] at h1
   simp only [List.length_cons, List.length_nil] at h1; omega
  ·rw [rJ ha, rJ hb] at h
   obtain ⟨h1, h2⟩ := List.append_inj' h rfl
   have e1 := ih (a / 36) (by omega) _ h1
   have e2 := digC_inj ⟨a % 36, by omega⟩ ⟨b % 36, by omega⟩ (by simpa using h2)
   simp at e2; omega
def keyL (l : List Int) : List UInt8 := l.flatMap fun z => dig36 z.toNat ++ [44]
def keyN (l r : List Int) : List UInt8 := keyL l ++ [124] ++ keyL r
theorem cut_at {s : UInt8} : ∀ {a b x y : List UInt8}, (∀ z ∈ a, z ≠ s) → (∀ z ∈ b, z ≠ s) → a ++ s :: x = b ++ s :: y → a = b ∧ x = y
 | [], [], _, _, _, _, h => by simpa using h
 | [], q :: b, _, _, _, hb, h => by simp at h; exact absurd h.1.symm (hb q List.mem_cons_self)
 | p :: a, [], _, _, ha, _, h => by simp at h; exact absurd h.1 (ha p List.mem_cons_self)
 | p :: a, q :: b, x, y, ha, hb, h => by
  simp only [List.cons_append, List.cons.injEq] at h
  obtain ⟨h1, h2⟩ := cut_at (a := a) (b := b) (fun z hz => ha z (List.mem_cons_of_mem _ hz)) (fun z hz => hb z (List.mem_cons_of_mem _ hz)) h.2
  exact ⟨by rw [h.1, h1], h2⟩
theorem sV (z : Int) (l : List Int) (x : List UInt8) : keyL (z :: l) ++ x = dig36 z.toNat ++ 44 :: (keyL l ++ x) := by simp [keyL]
theorem keyL_sep (l : List Int) : ∀ x ∈ keyL l, x ≠ 124 := fun x hx => by
 obtain ⟨z, _, hz⟩ := List.mem_flatMap.1 hx
 rcases List.mem_append.1 hz with hz | hz
 ·exact (dig_sep _ x hz).2
 ·simp at hz; subst hz; decide
theorem nZ : ∀ {a b : List Int}, (∀ z ∈ a, 0 ≤ z) → (∀ z ∈ b, 0 ≤ z) → keyL a = keyL b → a = b
 | [], [], _, _, _ => rfl
 | [], z :: b, _, _, h => by
  have := congrArg List.length h
  simp [keyL] at this
 | z :: a, [], _, _, h => by
  have := congrArg List.length h
  simp [keyL] at this
 | z :: a, y :: b, ha, hb, h => by
  have e1 := sV z a []
  have e2 := sV y b []
  rw [List.append_nil, List.append_nil] at e1 e2
  rw [e1, e2] at h
  obtain ⟨h1, h2⟩ := cut_at (fun q hq => (dig_sep _ q hq).1) (fun q hq => (dig_sep _ q hq).1) h
  have := dig_inj _ _ h1
  have z0 := ha z List.mem_cons_self; have y0 := hb y List.mem_cons_self
  rw [nZ (fun q hq => ha q (List.mem_cons_of_mem _ hq)) (fun q hq => hb q (List.mem_cons_of_mem _ hq)) h2, show z = y by omega]
theorem keyN_inj {a b c e : List Int} (ha : ∀ z ∈ a, 0 ≤ z) (hb : ∀ z ∈ b, 0 ≤ z) (hc : ∀ z ∈ c, 0 ≤ z) (he : ∀ z ∈ e, 0 ≤ z) (h : keyN a b = keyN c e) : a = c ∧ b = e := by
 unfold keyN at h
 rw [List.append_assoc, List.append_assoc] at h
 obtain ⟨h1, h2⟩ := cut_at (keyL_sep a) (keyL_sep c) h
 exact ⟨nZ ha hc h1, nZ hb he h2⟩
end Go.GL
namespace Go.GL
open Go Go.RowKit Go.Sort
theorem Ext.one {G : Pin} {w w' : World} {x : Option Nat} (hP : Pins G w') (hg : w.grownBy w' x) : Ext (inO x) G w G w' :=
 ⟨Pin.le_refl _, hP, fun _ _ _ h => Or.inl h, hg.os, hg.tape, hg.output, hg.size, fun k hk hs => hg.block k hk fun e => hs e.symm⟩
end Go.GL
namespace Go.GL
structure SG (ns : List Nd) : Prop where
 lo : 1 ≤ ns.length
 wf : Wf ns
 srt : SortedB ns (births ns)
 last : ∀ k : Nat, k + 1 < ns.length → ∃ j, k < j ∧ j < ns.length ∧ ((k : Int) ∈ (ns.getD j default).l ∨ (k : Int) ∈ (ns.getD j default).r)
variable {hi : Int} {ns : List Nd} {m z : Nat} {bs : List Int}
theorem rise_pw {l : List Int} (h : l.Pairwise (· < ·)) (hb : ∀ z ∈ l, 0 ≤ z ∧ z ≤ hi) : Rise l 0 hi := fun i hi' => by
 refine ⟨hb _ (xE hi'), fun h0 => ?_⟩
 have := List.pairwise_iff_getElem.1 h (i - 1) i (by omega) hi' (by omega)
 simpa [List.getD, hi', show i - 1 < l.length by omega] using this
theorem pw_rise {l : List Int} {lo : Int} (h : Rise l lo hi) : l.Pairwise (· < ·) := by
 rw [List.pairwise_iff_getElem]
 intro i j hi hj hij
 have key : ∀ j, i < j → j < l.length → l.getD i 0 < l.getD j 0 := by
  intro j
  induction j with
  | zero => intro h0; omega
  | succ j ih =>
   intro h1 h2
   have a := (h (j + 1) h2).2 (by omega)
   simp only [Nat.add_sub_cancel] at a
   by_cases he : i = j
   ·subst he; exact a
   ·have := ih (by omega) (by omega); omega
 have := key j hij hj
 simpa [List.getD, hi, hj] using this
theorem SG.opts (h : SG ns) : OptsOk ns := h.wf.ok.opts
theorem SG.pw (h : SG ns) : ∀ i, i < ns.length → (ns.getD i default).l.Pairwise (· < ·) ∧ (ns.getD i default).r.Pairwise (· < ·) := fun i hi => ⟨pw_rise (h.wf.rise i hi).1, pw_rise (h.wf.rise i hi).2⟩
theorem SG.diff (h : SG ns) : Diff ns := fun i j hij hj he => by
 have hb := qP h.opts
 rcases h.srt i j hij hj with h1 | ⟨_, h1⟩
 ·rw [hb.2 i (by omega), hb.2 j hj, he] at h1; omega
 ·rw [ahead_zero.2 he] at h1; omega
theorem SG.inj (h : SG ns) {i j : Nat} (hi : i < ns.length) (hj : j < ns.length) (he : den ns i = den ns j) : i = j := gJ h.opts h.pw h.diff _ i j (Nat.le_refl _) hi hj he
theorem fR {k : Nat} : ∀ {l : List Int} {is : List Bool}, (setAll is l).getD k false = true → is.getD k false = true ∨ ∃ z ∈ l, z.toNat = k
 | [], _, h => Or.inl h
 | x :: l, is, h => by
  rcases fR (l := l) (is := is.set x.toNat true) h with h1 | ⟨z, hz, e⟩
  ·by_cases he : x.toNat = k
   ·exact Or.inr ⟨x, List.mem_cons_self, he⟩
   ·rw [qM he] at h1; exact Or.inl h1
  ·exact Or.inr ⟨z, List.mem_cons_of_mem _ hz, e⟩
theorem ugo_from {ns : List Nd} {k : Nat} : ∀ {q : Nat} {is : List Bool}, (ugo ns q is).getD k false = true → is.getD k false = true ∨ ∃ j, j < q ∧ (ugo ns q is).getD j false = true ∧ ∃ z, (z ∈ (ns.getD j default).l ∨ z ∈ (ns.getD j default).r) ∧ z.toNat = k
 | 0, _, h => Or.inl h
 | q + 1, is, h => by
  rcases ugo_from (q := q) (is := ustep ns is q) h with h1 | ⟨j, hj, h2, h3⟩
  ·by_cases hq : is.getD q false = true
   ·rw [tU hq] at h1
    have hm : (ugo ns (q + 1) is).getD q false = true := fP hq
    rcases fR h1 with h1 | ⟨z, hz, e⟩
    ·rcases fR h1 with h1 | ⟨z, hz, e⟩
     ·exact Or.inl h1
     ·exact Or.inr ⟨q, by omega, hm, z, Or.inl hz, e⟩
    ·exact Or.inr ⟨q, by omega, hm, z, Or.inr hz, e⟩
   ·rw [ustep_no (by simpa using hq)] at h1; exact Or.inl h1
  ·exact Or.inr ⟨j, by omega, h2, h3⟩
theorem nI {k : Nat} (h : (reachM ns m).getD k false = true) : k = m ∨ ∃ j, j ≤ m ∧ (reachM ns m).getD j false = true ∧ ∃ z, (z ∈ (ns.getD j default).l ∨ z ∈ (ns.getD j default).r) ∧ z.toNat = k := by
 unfold reachM at h ⊢
 rcases ugo_from h with h1 | ⟨j, hj, h2⟩
 ·left
  by_cases he : m = k
  ·exact he.symm
  ·rw [qM he] at h1
   simp [List.getD, List.getElem?_replicate] at h1
   split at h1 <;> simp at h1
 ·exact Or.inr ⟨j, by omega, h2⟩
theorem reach_self : (reachM ns m).getD m false = true := by
 unfold reachM
 exact fP (by simp [List.getD])
theorem reach_closed (ho : OptsOk ns) (hm : m < ns.length) (hz : z ≤ m) (hu : (reachM ns m).getD z false = true) :
  (∀ o ∈ (ns.getD z default).l, (reachM ns m).getD o.toNat false = true) ∧ (∀ o ∈ (ns.getD z default).r, (reachM ns m).getD o.toNat false = true) :=
 mZ ho (by omega) (by simp) z (by omega) hu
theorem lower_of (ho : OptsOk ns) (hb : BirthsOf ns bs) : Lower ns bs := fun z hz => by
 have hb := hb.2 z hz
 have o := xW ho hz
 have h1 := fM (bs := bs) (l := (ns.getD z default).r) (b := bornOf bs (ns.getD z default).l 0)
 have h2 := fM (bs := bs) (l := (ns.getD z default).l) (b := 0)
 unfold putBorn at hb
 exact ⟨fun x hx => by have := o.1 x hx; have := h2.2 x hx; omega, fun x hx => by have := o.2 x hx; have := h1.2 x hx; omega⟩
theorem born_nn (hb : BirthsOf ns bs) (hz : z < ns.length) : 0 ≤ bs.getD z 0 := by
 rw [hb.2 z hz]
 exact (putBorn_le.1 (Int.le_refl _)).1
theorem rL {bs bs' A : List Int} : ∀ {l : List Int} {b : Int}, (∀ o ∈ l, bs'.getD (A.getD o.toNat 0).toNat 0 = bs.getD o.toNat 0) → bornOf bs' (atL A l) b = bornOf bs l b
 | [], _, _ => rfl
 | x :: l, b, h => by
  show bornOf bs' (atL A l) (max b (bs'.getD (A.getD x.toNat 0).toNat 0 + 1)) = bornOf bs l (max b (bs.getD x.toNat 0 + 1))
  rw [h x List.mem_cons_self]
  exact rL fun o ho => h o (List.mem_cons_of_mem _ ho)
theorem mem_atL {A l : List Int} {x : Int} : x ∈ atL A l ↔ ∃ o ∈ l, A.getD o.toNat 0 = x := by simp [atL]
theorem form_sg (h : Ar ns bs) (hm : m < ns.length) : SG (formM ns bs m) ∧ gOf (formM ns bs m) = den ns m ∧ (formM ns bs m).length ≤ m + 1 := by
  have ho := h.opts
  have hlw := lower_of ho h.born
  have hlen : (formM ns bs m).length ≤ m + 1 := by
    unfold formM
    rw [pF]
    exact Nat.le_trans List.countP_le_length (by simp)
  have hlim := h.ok.lim
  obtain ⟨fa, go⟩ := go_ok (need := reachM ns m) hlw (show m + 1 ≤ ns.length by omega) ((bs.getD m 0).toNat + 1)
  have hbm := born_nn h.born hm
  unfold formM at hlen ⊢
  generalize formGo ns bs (reachM ns m) (m + 1) ((bs.getD m 0).toNat + 1) = s at go hlen
  obtain ⟨A, out⟩ := s
  have hmap : out = fa.map (ndz ns A) := go.map
  have hpos : ∀ p, p < fa.length → A.getD (fa.getD p 0).toNat 0 = p := go.pos
  have hN : out.length = fa.length := by rw [hmap]; simp
  simp only at hlen ⊢
  have hget : ∀ p, p < fa.length → out.getD p default = ndz ns A (fa.getD p 0) := fun p hp => by rw [hmap]; simp [List.getD, hp]
  have hmem : ∀ p, p < fa.length → 0 ≤ fa.getD p 0 ∧ fa.getD p 0 ≤ m ∧ (reachM ns m).getD (fa.getD p 0).toNat false = true ∧ bs.getD (fa.getD p 0).toNat 0 ≤ bs.getD m 0 := fun p hp => by
    have h1 := go.mem _ (xE (d := (0 : Int)) hp)
    exact ⟨h1.1, by omega, go.nd _ (xE hp), by omega⟩
  have hfind : ∀ z : Nat, z ≤ m → (reachM ns m).getD z false = true → bs.getD z 0 ≤ bs.getD m 0 → ∃ p, p < fa.length ∧ fa.getD p 0 = z ∧ A.getD z 0 = p := fun z hz h1 h2 => by
    obtain ⟨p, hp, e⟩ := List.getElem_of_mem (go.all z (by omega) h1 (born_nn h.born (by omega)) (by omega))
    have e2 : fa.getD p 0 = z := by simp [List.getD, hp, e]
    have := hpos p hp
    rw [e2] at this
    exact ⟨p, hp, e2, by simpa using this⟩
  have hord : ∀ p p', p < p' → p' < fa.length → bs.getD (fa.getD p 0).toNat 0 < bs.getD (fa.getD p' 0).toNat 0 ∨ (bs.getD (fa.getD p 0).toNat 0 = bs.getD (fa.getD p' 0).toNat 0 ∧ aheadI (ndz ns A (fa.getD p 0)) (ndz ns A (fa.getD p' 0)) ≤ 0) := fun p p' hpp hp' => by
    have := List.pairwise_iff_getElem.1 go.order p p' (by omega) hp' hpp
    simpa [List.getD, hp', show p < fa.length by omega] using this
  have hopt : ∀ p, p < fa.length → (∀ o ∈ (ns.getD (fa.getD p 0).toNat default).l, 0 ≤ o ∧ ∃ p', p' < p ∧ fa.getD p' 0 = o ∧ A.getD o.toNat 0 = p') ∧ (∀ o ∈ (ns.getD (fa.getD p 0).toNat default).r, 0 ≤ o ∧ ∃ p', p' < p ∧ fa.getD p' 0 = o ∧ A.getD o.toNat 0 = p') := fun p hp => by
    have hm1 := hmem p hp
    have hl1 := hlw (fa.getD p 0).toNat (by omega)
    have hc := reach_closed ho hm (z := (fa.getD p 0).toNat) (by omega) hm1.2.2.1
    have key : ∀ o : Int, 0 ≤ o → o < (fa.getD p 0).toNat → bs.getD o.toNat 0 < bs.getD (fa.getD p 0).toNat 0 → (reachM ns m).getD o.toNat false = true → ∃ p', p' < p ∧ fa.getD p' 0 = o ∧ A.getD o.toNat 0 = p' := fun o h0 h1 h2 h3 => by
      obtain ⟨p', hp', e1, e2⟩ := hfind o.toNat (by omega) h3 (by omega)
      have e1' : fa.getD p' 0 = o := by omega
      refine ⟨p', ?_, e1', e2⟩
      by_cases hlt : p' < p
      · exact hlt
      · by_cases he : p' = p
        · subst he; omega
        · rcases hord p p' (by omega) hp' with h4 | ⟨h4, _⟩ <;> rw [e1'] at h4 <;> omega
    exact ⟨fun o hox => by have := hl1.1 o hox; exact ⟨this.1, key o this.1 this.2.1 this.2.2 (hc.1 o hox)⟩, fun o hox => by have := hl1.2 o hox; exact ⟨this.1, key o this.1 this.2.1 this.2.2 (hc.2 o hox)⟩⟩
  have hlists : ∀ p, p < fa.length → (out.getD p default).l = sortL (atL A (ns.getD (fa.getD p 0).toNat default).l) ∧ (out.getD p default).r = sortL (atL A (ns.getD (fa.getD p 0).toNat default).r) := fun p hp => by
    rw [hget p hp]; exact ⟨rfl, rfl⟩
  have hbnd : ∀ p, p < fa.length → (∀ z ∈ (out.getD p default).l, 0 ≤ z ∧ z < (p : Int)) ∧ (∀ z ∈ (out.getD p default).r, 0 ≤ z ∧ z < (p : Int)) := fun p hp => by
    have h1 := hopt p hp
    rw [(hlists p hp).1, (hlists p hp).2]
    constructor
    · intro z hz
      obtain ⟨o, hox, e⟩ := mem_atL.1 (mem_sortL.1 hz)
      obtain ⟨_, p', h2, _, e2⟩ := h1.1 o hox
      omega
    · intro z hz
      obtain ⟨o, hox, e⟩ := mem_atL.1 (mem_sortL.1 hz)
      obtain ⟨_, p', h2, _, e2⟩ := h1.2 o hox
      omega
  have hoo : OptsOk out := fun i n hn => by
    obtain ⟨hi, rfl⟩ := List.getElem?_eq_some_iff.1 hn
    have := hbnd i (by omega)
    have e : out.getD i default = out[i] := by simp [List.getD, hi]
    rw [e] at this; exact this
  have hlens : ∀ i, i < out.length → (out.getD i default).l.length ≤ 1048576 ∧ (out.getD i default).r.length ≤ 1048576 := fun i hi => by
    have hm1 := hmem i (by omega)
    have hl1 := h.ok.lens (fa.getD i 0).toNat (by omega)
    rw [(hlists i (by omega)).1, (hlists i (by omega)).2]
    exact ⟨Nat.le_trans kG (by rw [xS]; exact hl1.1), Nat.le_trans kG (by rw [xS]; exact hl1.2)⟩
  have wf : Wf out := ⟨⟨by omega, hoo, hlens⟩, fun i hi => by
    have h1 := hbnd i (by omega)
    refine ⟨rise_pw ?_ fun z hz => by have := h1.1 z hz; omega, rise_pw ?_ fun z hz => by have := h1.2 z hz; omega⟩
    · rw [(hlists i (by omega)).1]; exact fF _
    · rw [(hlists i (by omega)).2]; exact fF _⟩
  have hden : ∀ p, p < fa.length → den out p = den ns (fa.getD p 0).toNat := by
    intro p
    induction p using Nat.strongRecOn with
    | _ p ih =>
      intro hp
      have h1 := hopt p hp
      have hm1 := hmem p hp
      rw [den_at (by omega) (hbnd p hp).1 (hbnd p hp).2, vS ho (show (fa.getD p 0).toNat < ns.length by omega), (hlists p hp).1, (hlists p hp).2]
      have key : ∀ l : List Int, (∀ o ∈ l, 0 ≤ o ∧ ∃ p', p' < p ∧ fa.getD p' 0 = o ∧ A.getD o.toNat 0 = p') → ∀ i, i ∈ (sortL (atL A l)).map (fun z => den out z.toNat) ↔ i ∈ l.map fun z => den ns z.toNat := fun l hl i => by
        rw [List.mem_map, List.mem_map]
        constructor
        · rintro ⟨z, hz, rfl⟩
          obtain ⟨o, hox, e⟩ := mem_atL.1 (mem_sortL.1 hz)
          obtain ⟨_, p', h2, e1, e2⟩ := hl o hox
          refine ⟨o, hox, ?_⟩
          have : z.toNat = p' := by omega
          rw [this, ih p' h2 (by omega), e1]
        · rintro ⟨o, hox, rfl⟩
          obtain ⟨_, p', h2, e1, e2⟩ := hl o hox
          refine ⟨(p' : Int), mem_sortL.2 (mem_atL.2 ⟨o, hox, e2⟩), ?_⟩
          rw [Int.toNat_natCast, ih p' h2 (by omega), e1]
      exact mk_congr (key _ h1.1) (key _ h1.2)
  have hborn : ∀ p, p < fa.length → (births out).getD p 0 = bs.getD (fa.getD p 0).toNat 0 := by
    intro p
    induction p using Nat.strongRecOn with
    | _ p ih =>
      intro hp
      have h1 := hopt p hp
      have hm1 := hmem p hp
      rw [(qP hoo).2 p (by omega), (hlists p hp).1, (hlists p hp).2, putBorn_sort, h.born.2 _ (show (fa.getD p 0).toNat < ns.length by omega)]
      have key : ∀ o : Int, (∃ p', p' < p ∧ fa.getD p' 0 = o ∧ A.getD o.toNat 0 = p') → (births out).getD (A.getD o.toNat 0).toNat 0 = bs.getD o.toNat 0 := fun o ⟨p', h2, e1, e2⟩ => by
        rw [e2, Int.toNat_natCast, ih p' h2 (by omega), e1]
      unfold putBorn
      rw [rL fun o hox => key o (h1.2 o hox).2, rL fun o hox => key o (h1.1 o hox).2]
  have srt : SortedB out (births out) := fun i j hij hj => by
    rw [hborn i (by omega), hborn j (by omega), hget i (by omega), hget j (by omega)]
    rcases hord i j hij (by omega) with h1 | ⟨h1, h2⟩
    · exact Or.inl h1
    · refine Or.inr ⟨h1, ?_⟩
      have hne : aheadI (ndz ns A (fa.getD i 0)) (ndz ns A (fa.getD j 0)) ≠ 0 := fun e => by
        have e1 := ahead_zero.1 e
        rw [← hget i (by omega), ← hget j (by omega)] at e1
        have d1 : den out i = den out j := by
          rw [vS hoo (show i < out.length by omega), vS hoo (show j < out.length by omega), e1]
        rw [hden i (by omega), hden j (by omega)] at d1
        have m1 := hmem i (by omega); have m2 := hmem j (by omega)
        have e3 := h.inj (by omega) (by omega) d1
        have p1 := hpos i (by omega); have p2 := hpos j (by omega)
        rw [e3] at p1; omega
      omega
  obtain ⟨pm, hpm, em, _⟩ := hfind m (Nat.le_refl _) reach_self (Int.le_refl _)
  have hroot : ∀ p, p < fa.length → fa.getD p 0 ≠ m → ∃ p', p < p' ∧ p' < fa.length ∧ ((p : Int) ∈ (out.getD p' default).l ∨ (p : Int) ∈ (out.getD p' default).r) := fun p hp hne => by
    have m1 := hmem p hp
    rcases nI m1.2.2.1 with h1 | ⟨j, hj, hr, z, hz, ez⟩
    · omega
    · have hz0 : 0 ≤ z := by
        have := xW ho (show j < ns.length by omega)
        rcases hz with hz | hz
        · exact (this.1 z hz).1
        · exact (this.2 z hz).1
      have ez' : z = fa.getD p 0 := by omega
      subst ez'
      have hle : bs.getD j 0 ≤ bs.getD m 0 := by
        have : ∀ n j : Nat, m - j ≤ n → j ≤ m → (reachM ns m).getD j false = true → bs.getD j 0 ≤ bs.getD m 0 := by
          intro n
          induction n with
          | zero => intro j h1 h2 _; have : j = m := by omega
                    rw [this]; exact Int.le_refl _
          | succ n ih =>
            intro j h1 h2 h3
            rcases nI h3 with h4 | ⟨i, hi, hri, y, hy, ey⟩
            · rw [h4]; exact Int.le_refl _
            · have hl := hlw i (by omega)
              have hyb : 0 ≤ y ∧ y < i ∧ bs.getD y.toNat 0 < bs.getD i 0 := by rcases hy with hy | hy; exact hl.1 y hy; exact hl.2 y hy
              have := ih i (by omega) hi hri
              rw [ey] at hyb; omega
        exact this m j (by omega) hj hr
      obtain ⟨p', hp', e1, e2⟩ := hfind j hj hr hle
      have h1 := hopt p' hp'
      rw [e1] at h1
      simp only [Int.toNat_natCast] at h1
      have hp1 := hpos p hp
      refine ⟨p', ?_, hp', ?_⟩
      · rcases hz with hz | hz
        · obtain ⟨_, q, h2, e3, e4⟩ := h1.1 _ hz; omega
        · obtain ⟨_, q, h2, e3, e4⟩ := h1.2 _ hz; omega
      · rw [(hlists p' hp').1, (hlists p' hp').2, e1]
        simp only [Int.toNat_natCast]
        rcases hz with hz | hz
        · exact Or.inl (mem_sortL.2 (mem_atL.2 ⟨_, hz, hp1⟩))
        · exact Or.inr (mem_sortL.2 (mem_atL.2 ⟨_, hz, hp1⟩))
  have hlast : fa.getD (fa.length - 1) 0 = m := by
    apply Classical.byContradiction
    intro hne
    obtain ⟨p', h1, h2, _⟩ := hroot (fa.length - 1) (by omega) hne
    omega
  refine ⟨⟨by omega, wf, srt, fun k hk => ?_⟩, ?_, hlen⟩
  · have hne : fa.getD k 0 ≠ m := fun e => by
      have p1 := hpos k (by omega); have p2 := hpos (fa.length - 1) (by omega)
      rw [e] at p1; rw [hlast] at p2; omega
    obtain ⟨p', h1, h2, h3⟩ := hroot k (by omega) hne
    exact ⟨p', h1, by omega, h3⟩
  · unfold gOf
    rw [hN, hden _ (by omega), hlast, Int.toNat_natCast]
end Go.GL
namespace Go.GL
open Go Go.RowKit
structure PM where
 f : Nat
 o : Nat
 c : Nat
 s : Nat
 n : Nat
structure PSt where
 ns : List Nd
 bs : List Int
 fl : List (ByteArray × Int)
 om : List ((Int × Int) × Bool)
 cm : List (Int × Int)
 sm : List ((Int × Int) × Int)
 gm : List (Int × Int)
def inP (p : Nat) (L R B : Value) (mm : PM) (k : Nat) : Prop := k = p ∨ L.ownBlock = some k ∨ R.ownBlock = some k ∨ B.ownBlock = some k ∨ k = mm.f ∨ k = mm.o ∨ k = mm.c ∨ k = mm.s ∨ k = mm.n
def NP (p : Nat) (L R B : Value) (mm : PM) (x : Option Nat) : Prop := ∀ k, x = some k → ¬ inP p L R B mm k
section
variable {er ei : Nat} {G G' : Pin} {w w' : World} {p : Nat} {L R B L' R' B' : Value} {mm : PM} {q : PSt}
variable {x : Option Nat}
theorem NP.ho (h : NP p L R B mm x) : Apart x (some mm.o) := fun k a c => h k a (by cases c; exact Or.inr (Or.inr (Or.inr (Or.inr (Or.inr (Or.inl rfl))))))
theorem NP.hc (h : NP p L R B mm x) : Apart x (some mm.c) := fun k a c => h k a (by cases c; exact Or.inr (Or.inr (Or.inr (Or.inr (Or.inr (Or.inr (Or.inl rfl)))))))
theorem NP.hn (h : NP p L R B mm x) : Apart x (some mm.n) := fun k a c => h k a (by cases c; exact Or.inr (Or.inr (Or.inr (Or.inr (Or.inr (Or.inr (Or.inr (Or.inr rfl))))))))
theorem NP.hp (h : NP p L R B mm x) : Apart x (some p) := fun k a c => h k a (by cases c; exact Or.inl rfl)
theorem NP.hl (h : NP p L R B mm x) : Apart x L.ownBlock := fun k a c => h k a (Or.inr (Or.inl c))
theorem NP.hr (h : NP p L R B mm x) : Apart x R.ownBlock := fun k a c => h k a (Or.inr (Or.inr (Or.inl c)))
theorem NP.hb (h : NP p L R B mm x) : Apart x B.ownBlock := fun k a c => h k a (Or.inr (Or.inr (Or.inr (Or.inl c))))
end
def pd (q : PSt) (z : Int) : Nat := den q.ns z.toNat
def PlaceOk (q : PSt) (z : Int) : Prop := 0 ≤ z ∧ z < q.ns.length
structure FindOk (ns : List Nd) (fl : List (ByteArray × Int)) : Prop where
 has : ∀ i : Nat, i < ns.length → look fl (b2s (keyN (ns.getD i default).l (ns.getD i default).r)) = some (i : Int)
 is : ∀ (l r : List Int) (z : Int), (∀ x ∈ l, 0 ≤ x) → (∀ x ∈ r, 0 ≤ x) → look fl (b2s (keyN l r)) = some z → ∃ i : Nat, i < ns.length ∧ z = i ∧ ns.getD i default = ⟨l, r⟩
structure PoolOk (q : PSt) : Prop where
 ar : Ar q.ns q.bs
 find : FindOk q.ns q.fl
 ord : ∀ a b v, look q.om (a, b) = some v → PlaceOk q a ∧ PlaceOk q b ∧ v = decP (geG (pd q a) (pd q b))
 can : ∀ a z, look q.cm a = some z → PlaceOk q a ∧ PlaceOk q z ∧ CanonG (pd q z) ∧ eqG (pd q z) (pd q a)
 sum : ∀ a b z, look q.sm (a, b) = some z → PlaceOk q a ∧ PlaceOk q b ∧ PlaceOk q z ∧ pd q z = addG (pd q a) (pd q b)
 neg : ∀ a z, look q.gm a = some z → PlaceOk q a ∧ PlaceOk q z ∧ pd q z = negG (pd q a)
theorem pkl (q : PSt) : (q.ns.map Nd.l).length = q.ns.length ∧ (q.ns.map Nd.r).length = q.ns.length := ⟨List.length_map .., List.length_map ..⟩
theorem pkb {q : PSt} (h : PoolOk q) : q.bs.length = q.ns.length ∧ q.ns.length ≤ 1048576 := ⟨h.ar.ok.len, h.ar.ok.lim⟩
structure PX (q q' : PSt) : Prop where
 len : q.ns.length ≤ q'.ns.length
 old : ∀ k, k < q.ns.length → q'.ns.getD k default = q.ns.getD k default
 can : ∀ a, look q'.cm a = none → look q.cm a = none
theorem PX.refl (q : PSt) : PX q q := ⟨Nat.le_refl _, fun _ _ => rfl, fun _ h => h⟩
theorem PX.trans {a b c : PSt} (h : PX a b) (k : PX b c) : PX a c := ⟨Nat.le_trans h.len k.len, fun i hi => (k.old i (by have := h.len; omega)).trans (h.old i hi), fun a ha => h.can a (k.can a ha)⟩
theorem PX.den {q q' : PSt} (h : PX q q') (ho : OptsOk q.ns) (ho' : OptsOk q'.ns) : ∀ k, k < q.ns.length → den q'.ns k = den q.ns k := by
 intro k
 induction k using Nat.strongRecOn with
 | _ k ih =>
  intro hk
  have oo := xW ho hk
  rw [vS ho' (by have := h.len; omega), vS ho hk, h.old k hk]
  rw [List.map_congr_left fun z hz => ih z.toNat (by have := oo.1 z hz; omega) (by have := oo.1 z hz; omega)]
  rw [List.map_congr_left (l := (q.ns.getD k default).r) fun z hz => ih z.toNat (by have := oo.2 z hz; omega) (by have := oo.2 z hz; omega)]
theorem PX.pd {q q' : PSt} (h : PX q q') (hq : PoolOk q) (hq' : PoolOk q') {z : Int} (hz : PlaceOk q z) : pd q' z = pd q z := h.den hq.ar.opts hq'.ar.opts _ (by have := hz.1; have := hz.2; omega)
theorem PX.place {q q' : PSt} (h : PX q q') {z : Int} (hz : PlaceOk q z) : PlaceOk q' z := ⟨hz.1, by have := hz.2; have := h.len; omega⟩
section
variable {p : Nat} {L R B : Value} {mm : PM} {w0 : World} {S : Nat → Prop}
theorem NP.hf {x : Option Nat} (h : NP p L R B mm x) : Apart x (some mm.f) := fun k a c => h k a (by cases c; exact Or.inr (Or.inr (Or.inr (Or.inr (Or.inl rfl)))))
end
variable {ls : List Int}
theorem px_map {q q' : PSt} (h : PX q q') (hq : PoolOk q) (hq' : PoolOk q') (hl : ∀ z ∈ ls, PlaceOk q z) : ls.map (pd q') = ls.map (pd q) := List.map_congr_left fun z hz => h.pd hq hq' (hl z hz)
theorem gB {q : PSt} (h : ∀ z ∈ ls, PlaceOk q z) : ∀ i, i < ls.length → 0 ≤ ls.getD i 0 ∧ ls.getD i 0 < q.ns.length := fun _ hi => h _ (xE hi)
end Go.GL
namespace Go.GL
open Go Go.RowKit
end Go.GL
namespace Go.GL
open Go Go.RowKit
structure LdOk (fs : List Nd) (q q2 : PSt) (k : Nat) (ats : List Int) : Prop where
 len : ats.length = k
 hi : q2.ns.length ≤ q.ns.length + k
 pl : ∀ i, i < k → PlaceOk q2 (ats.getD i 0) ∧ pd q2 (ats.getD i 0) = den fs i
theorem LdOk.den {fs : List Nd} {q q2 : PSt} {k : Nat} {ats : List Int} (h : LdOk fs q q2 k ats) {l : List Int} (hl : ∀ z ∈ l, 0 ≤ z ∧ z < k) :
  (atL ats l).map (pd q2) = l.map fun z => GL.den fs z.toNat := by
 unfold atL
 rw [List.map_map]
 refine List.map_congr_left fun z hz => ?_
 have := hl z hz
 exact (h.pl z.toNat (by omega)).2
end Go.GL
namespace Go.GL
open Go Go.RowKit
end Go.GL
namespace Go.GL
variable {a b : List Nd} {i j : Nat}
theorem tZ (ha : SG a) (hb : SG b) {n : Nat} (hi : i < a.length) (hj : j < b.length) (hpre : ∀ k, k < n → k < a.length ∧ k < b.length ∧ den a k = den b k)
  (hai : (∀ z ∈ (a.getD i default).l, z < (n : Int)) ∧ (∀ z ∈ (a.getD i default).r, z < (n : Int))) (hbj : (∀ z ∈ (b.getD j default).l, z < (n : Int)) ∧ (∀ z ∈ (b.getD j default).r, z < (n : Int)))
  (he : den a i = den b j) : a.getD i default = b.getD j default := by
 have oa := xW ha.opts hi
 have ob := xW hb.opts hj
 refine nT (tT (ha.pw i hi).1 (hb.pw j hj).1 fun z => ⟨fun hz => ?_, fun hz => ?_⟩) (tT (ha.pw i hi).2 (hb.pw j hj).2 fun z => ⟨fun hz => ?_, fun hz => ?_⟩)
 ·have h1 : loG (den a i) (den a z.toNat) := (qZ ha.opts hi).2 ⟨z, hz, rfl⟩
  rw [he] at h1
  obtain ⟨y, hy, e⟩ := (qZ hb.opts hj).1 h1
  have z1 := oa.1 z hz; have z2 := hai.1 z hz; have y1 := ob.1 y hy; have y2 := hbj.1 y hy
  have p1 := hpre z.toNat (by omega); have p2 := hpre y.toNat (by omega)
  have := ha.inj (i := z.toNat) (j := y.toNat) (by omega) (by omega) (by rw [e, p2.2.2])
  have : z = y := by omega
  rwa [this]
 ·have h1 : loG (den b j) (den b z.toNat) := (qZ hb.opts hj).2 ⟨z, hz, rfl⟩
  rw [← he] at h1
  obtain ⟨y, hy, e⟩ := (qZ ha.opts hi).1 h1
  have z1 := ob.1 z hz; have z2 := hbj.1 z hz; have y1 := oa.1 y hy; have y2 := hai.1 y hy
  have p1 := hpre z.toNat (by omega); have p2 := hpre y.toNat (by omega)
  have := ha.inj (i := z.toNat) (j := y.toNat) (by omega) (by omega) (by rw [← e, p1.2.2])
  have : z = y := by omega
  rwa [this]
 ·have h1 : roG (den a i) (den a z.toNat) := (qY ha.opts hi).2 ⟨z, hz, rfl⟩
  rw [he] at h1
  obtain ⟨y, hy, e⟩ := (qY hb.opts hj).1 h1
  have z1 := oa.2 z hz; have z2 := hai.2 z hz; have y1 := ob.2 y hy; have y2 := hbj.2 y hy
  have p1 := hpre z.toNat (by omega); have p2 := hpre y.toNat (by omega)
  have := ha.inj (i := z.toNat) (j := y.toNat) (by omega) (by omega) (by rw [e, p2.2.2])
  have : z = y := by omega
  rwa [this]
 ·have h1 : roG (den b j) (den b z.toNat) := (qY hb.opts hj).2 ⟨z, hz, rfl⟩
  rw [← he] at h1
  obtain ⟨y, hy, e⟩ := (qY ha.opts hi).1 h1
  have z1 := ob.2 z hz; have z2 := hbj.2 z hz; have y1 := oa.2 y hy; have y2 := hai.2 y hy
  have p1 := hpre z.toNat (by omega); have p2 := hpre y.toNat (by omega)
  have := ha.inj (i := z.toNat) (j := y.toNat) (by omega) (by omega) (by rw [← e, p1.2.2])
  have : z = y := by omega
  rwa [this]
theorem fN {a b : List Nd} (ha : OptsOk a) (hb : OptsOk b) : ∀ (n i j : Nat), i + j ≤ n → i < a.length → j < b.length → den a i = den b j → (births a).getD i 0 ≤ (births b).getD j 0
 | _, i, j, _, hi, hj, he => by
  have oa := xW ha hi
  have ob := xW hb hj
  rw [(qP ha).2 i hi, putBorn_le]
  have hbj := (qP hb).2 j hj
  have hb2 := putBorn_le.1 (Int.le_of_eq hbj.symm)
  refine ⟨born_nn (qP hb) hj, fun z hz => ?_, fun z hz => ?_⟩
  ·have h1 : loG (den a i) (den a z.toNat) := (qZ ha hi).2 ⟨z, hz, rfl⟩
   rw [he] at h1
   obtain ⟨y, hy, e⟩ := (qZ hb hj).1 h1
   have z1 := oa.1 z hz; have y1 := ob.1 y hy
   have := fN ha hb (z.toNat + y.toNat) z.toNat y.toNat (Nat.le_refl _) (by omega) (by omega) e
   have := hb2.2.1 y hy
   omega
  ·have h1 : roG (den a i) (den a z.toNat) := (qY ha hi).2 ⟨z, hz, rfl⟩
   rw [he] at h1
   obtain ⟨y, hy, e⟩ := (qY hb hj).1 h1
   have z1 := oa.2 z hz; have y1 := ob.2 y hy
   have := fN ha hb (z.toNat + y.toNat) z.toNat y.toNat (Nat.le_refl _) (by omega) (by omega) e
   have := hb2.2.2 y hy
   omega
termination_by _ i j => i + j
decreasing_by all_goals omega
theorem eK (ha : OptsOk a) (hb : OptsOk b) (hi : i < a.length) (hj : j < b.length) (he : den a i = den b j) : (births a).getD i 0 = (births b).getD j 0 :=
 Int.le_antisymm (fN ha hb _ i j (Nat.le_refl _) hi hj he) (fN hb ha _ j i (Nat.le_refl _) hj hi he.symm)
theorem SG.sub (ha : SG a) (hb : SG b) (he : gOf a = gOf b) : ∀ k, k < a.length → ∃ j, j < b.length ∧ den b j = den a k := by
 have key : ∀ n k, a.length - k ≤ n → k < a.length → ∃ j, j < b.length ∧ den b j = den a k := by
  intro n
  induction n with
  | zero => intro k h1 h2; omega
  | succ n ih =>
   intro k h1 h2
   by_cases hk : k + 1 < a.length
   ·obtain ⟨i, hki, hi, hz⟩ := ha.last k hk
    obtain ⟨j, hj, e⟩ := ih i (by omega) hi
    rcases hz with hz | hz
    ·have h3 : loG (den a i) (den a (k : Int).toNat) := (qZ ha.opts hi).2 ⟨_, hz, rfl⟩
     rw [← e] at h3
     obtain ⟨y, hy, e2⟩ := (qZ hb.opts hj).1 h3
     have := (xW hb.opts hj).1 y hy
     exact ⟨y.toNat, by omega, by rw [← e2]; rfl⟩
    ·have h3 : roG (den a i) (den a (k : Int).toNat) := (qY ha.opts hi).2 ⟨_, hz, rfl⟩
     rw [← e] at h3
     obtain ⟨y, hy, e2⟩ := (qY hb.opts hj).1 h3
     have := (xW hb.opts hj).2 y hy
     exact ⟨y.toNat, by omega, by rw [← e2]; rfl⟩
   ·have hb1 := hb.lo
    refine ⟨b.length - 1, by omega, ?_⟩
    have : k = a.length - 1 := by omega
    rw [this]; exact he.symm
 exact fun k hk => key _ k (Nat.le_refl _) hk
theorem SG.low (ha : SG a) {n : Nat} (hi : i < a.length) (hb : (births a).getD i 0 ≤ (births a).getD n 0) (hn : n < a.length) : (∀ z ∈ (a.getD i default).l, z < (n : Int)) ∧ (∀ z ∈ (a.getD i default).r, z < (n : Int)) := by
 have hl := fK ha.opts i hi
 have key : ∀ z : Int, 0 ≤ z → z < i → (births a).getD z.toNat 0 < (births a).getD i 0 → z < (n : Int) := fun z h0 h1 h2 => by
  by_cases hlt : z < (n : Int)
  ·exact hlt
  ·by_cases he : n = z.toNat
   ·subst he; omega
   ·rcases ha.srt n z.toNat (by omega) (by omega) with h3 | ⟨h3, _⟩ <;> omega
 exact ⟨fun z hz => by have := hl.1 z hz; exact key z this.1 this.2.1 this.2.2, fun z hz => by have := hl.2 z hz; exact key z this.1 this.2.1 this.2.2⟩
theorem sG (ha : SG a) (hb : SG b) (he : gOf a = gOf b) : ∀ n, n ≤ a.length → n ≤ b.length ∧ ∀ k, k < n → a.getD k default = b.getD k default ∧ den a k = den b k := by
 intro n
 induction n with
 | zero => intro _; exact ⟨Nat.zero_le _, fun k hk => absurd hk (Nat.not_lt_zero k)⟩
 | succ n ih =>
  intro hn
  obtain ⟨hnb, hpre⟩ := ih (by omega)
  obtain ⟨j, hj, ej⟩ := ha.sub hb he n (by omega)
  have hjn : n ≤ j := by
   apply Classical.byContradiction
   intro hlt
   have := (hpre j (by omega)).2
   have := ha.inj (i := j) (j := n) (by omega) (by omega) (by rw [this, ej])
   omega
  have hbn : n < b.length := by omega
  obtain ⟨i, hi, ei⟩ := hb.sub ha he.symm n hbn
  have hin : n ≤ i := by
   apply Classical.byContradiction
   intro hlt
   have := (hpre i (by omega)).2
   have := hb.inj (i := i) (j := n) (by omega) (by omega) (by rw [← this, ei])
   omega
  have hp : ∀ k, k < n → k < a.length ∧ k < b.length ∧ den a k = den b k := fun k hk => ⟨by omega, by omega, (hpre k hk).2⟩
  have hgh : den a n = den b n := by
   by_cases hjn' : j = n
   ·rw [hjn'] at ej; exact ej.symm
   ·have hin' : i ≠ n := fun e => by
     rw [e] at ei
     exact hjn' (hb.inj hj hbn (by rw [ej, ei]))
    exfalso
    have s1 := hb.srt n j (by omega) hj
    have s2 := ha.srt n i (by omega) hi
    have b1 := eK ha.opts hb.opts (show n < a.length by omega) hj ej.symm
    have b2 := eK ha.opts hb.opts hi hbn ei
    have a1 := ha.low (n := n) (i := n) (by omega) (Int.le_refl _) (by omega)
    have hle : (births a).getD i 0 ≤ (births a).getD n 0 := by rcases s1 with s1 | ⟨s1, _⟩ <;> omega
    have a2 := ha.low (n := n) (i := i) hi hle (by omega)
    have c1 := hb.low (n := n) (i := n) hbn (Int.le_refl _) hbn
    have hle2 : (births b).getD j 0 ≤ (births b).getD n 0 := by rcases s2 with s2 | ⟨s2, _⟩ <;> omega
    have c2 := hb.low (n := n) (i := j) hj hle2 hbn
    have e1 := tZ ha hb (n := n) hi hbn hp a2 c1 ei
    have e2 := tZ ha hb (n := n) (show n < a.length by omega) hj hp a1 c2 ej.symm
    have x1 : aheadI (b.getD n default) (b.getD j default) < 0 := by rcases s1 with s1 | ⟨_, s1⟩; omega; exact s1
    have x2 : aheadI (a.getD n default) (a.getD i default) < 0 := by rcases s2 with s2 | ⟨_, s2⟩; omega; exact s2
    rw [e1, e2, rM] at x2
    omega
  refine ⟨hbn, fun k hk => ?_⟩
  by_cases hk' : k < n
  ·exact hpre k hk'
  ·have : k = n := by omega
   subst this
   exact ⟨tZ ha hb (n := k) (by omega) hbn hp (ha.low (by omega) (Int.le_refl _) (by omega)) (hb.low hbn (Int.le_refl _) hbn) hgh, hgh⟩
theorem sg_unique (ha : SG a) (hb : SG b) (he : gOf a = gOf b) : a = b := by
 have h1 := sG ha hb he a.length (Nat.le_refl _)
 have h2 := sG hb ha he.symm b.length (Nat.le_refl _)
 exact eqdoneN (by omega) (Nat.le_refl _) fun i hi => (h1.2 i hi).1
def IsForm (g : Nat) (ns : List Nd) : Prop := SG ns ∧ gOf ns = g
theorem IsForm.unique {g : Nat} (ha : IsForm g a) (hb : IsForm g b) : a = b := sg_unique ha.1 hb.1 (ha.2.trans hb.2.symm)
end Go.GL
namespace Go.GL
open Go Go.RowKit
def KAll (ns : List Nd) (ks : List Int) : Prop := ks.length = ns.length * ns.length ∧ ∀ m, KOk ns ks m
variable {ns : List Nd}
theorem KAll.res {ks k1 : List Int} {m : Nat} (h : KAll ns ks) (k : KRes ns ks k1 m) : KAll ns k1 := by
 refine ⟨k.len.trans h.1, fun m' i j hi hj hs => ?_⟩
 by_cases hlt : i + j < m
 ·exact k.ok i j hi hj hlt
 ·rw [k.same i j hi hj (by omega)]; exact h.2 m' i j hi hj hs
theorem KAll.zero : KAll ns (List.replicate (ns.length * ns.length) 0) := ⟨by simp, fun _ => KOk.zero⟩
theorem Gadd.turn {S : Nat → Prop} {G0 G G' : Pin} {w0 w w' : World} {v : Value} (h : Pins (Gadd G0 w0 v) w) (hP : Pins G0 w') (hx : Ext S G w G' w') (hS : ∀ k, v.ownBlock = some k → ¬ S k) : Pins (Gadd G0 w0 v) w' := fun b o u hu => by
 rcases hu with hu | hu
 ·exact hP b o u hu
 ·have h1 := h b o u (Or.inr hu)
  have h2 := hx.block b (kE h1) (hS b hu.1)
  unfold World.cell? at h1 ⊢
  simp only [h2]; exact h1
end Go.GL
namespace Go.GL
structure PairB (ns bs : List Nd) : Prop where
 ok1 : AddOk [] ns.length (addM [] [] ns).1 (addM [] [] ns).2.1 (addM [] [] ns).2.2
 ok2 : AddOk (addM [] [] ns).2.1 bs.length (addM (addM [] [] ns).2.1 (addM [] [] ns).2.2 bs).1 (addM (addM [] [] ns).2.1 (addM [] [] ns).2.2 bs).2.1 (addM (addM [] [] ns).2.1 (addM [] [] ns).2.2 bs).2.2
 p1 : ∀ i, i < ns.length → 0 ≤ (addM [] [] ns).1.getD i 0 ∧ (addM [] [] ns).1.getD i 0 < (addM (addM [] [] ns).2.1 (addM [] [] ns).2.2 bs).2.1.length
 p2 : ∀ i, i < bs.length → 0 ≤ (addM (addM [] [] ns).2.1 (addM [] [] ns).2.2 bs).1.getD i 0 ∧ (addM (addM [] [] ns).2.1 (addM [] [] ns).2.2 bs).1.getD i 0 < (addM (addM [] [] ns).2.1 (addM [] [] ns).2.2 bs).2.1.length
 ge : ∀ i k, i < ns.length → k < bs.length → geB (addM (addM [] [] ns).2.1 (addM [] [] ns).2.2 bs).2.1 ((addM [] [] ns).1.getD i 0) ((addM (addM [] [] ns).2.1 (addM [] [] ns).2.2 bs).1.getD k 0) = trC ns bs i k
variable {ns bs : List Nd} {L : List Cl} {i j : Nat}
theorem pair_book (hf : FormOk ns) (hg : FormOk bs) (hl : ns.length + bs.length ≤ 1048576) : PairB ns bs := by
 have h1 := jM qT hf (by simp; omega)
 have hd1 := Ar.add Ar.empty hf (by simp; omega)
 have hi1 := h1.hi
 simp only [List.length_nil, Nat.zero_add] at hi1
 have h2 := jM h1.book hg (by omega)
 have hd2 := Ar.add hd1.ar hg (by omega)
 have hlo := h2.lo
 have e1 := h1.len; have e2 := h2.len
 refine ⟨h1, h2, fun i hi => ?_, fun i hi => h2.places i (by omega), fun i k hi hk => ?_⟩
 ·have := h1.places i (by omega); omega
 ·have q := h1.places i (by omega)
  unfold geB trC
  rw [hd2.is k hk, hd2.old _ (by omega), hd1.is i hi]
theorem next_y (h : L = colL ns bs (rowL ns bs i) i j) (ht : trC ns bs i j = true) :
  L ++ [⟨(claimOf ns bs L i j).a, (claimOf ns bs L i j).b, (claimOf ns bs L i j).r, (claimOf ns bs L i j).l⟩] = colL ns bs (rowL ns bs i) i (j + 1) := by
 subst h
 show _ = nextL ns bs _ i j
 unfold nextL; rw [if_pos ht]
theorem next_n (h : L = colL ns bs (rowL ns bs i) i j) (ht : trC ns bs i j = false) : L = colL ns bs (rowL ns bs i) i (j + 1) := by
 subst h
 show _ = nextL ns bs _ i j
 unfold nextL; rw [if_neg (by rw [ht]; exact Bool.false_ne_true)]
end Go.GL
namespace Go.GL
theorem fU {j : Nat} : ∀ (xs : List Int) (nd : List Bool), (needAll nd xs).getD j false = true ↔ nd.getD j false = true ∨ (j < nd.length ∧ ∃ z ∈ xs, z.toNat = j)
 | [], nd => by simp [needAll]
 | x :: r, nd => by
  have e : needAll nd (x :: r) = needAll (nd.set x.toNat true) r := rfl
  rw [e, fU r]
  by_cases hx : x.toNat = j
  ·subst hx
   by_cases hl : x.toNat < nd.length
   ·have h1 : (nd.set x.toNat true).getD x.toNat false = true := by simp [List.getD, hl]
    exact ⟨fun _ => Or.inr ⟨hl, x, by simp, rfl⟩, fun _ => Or.inl h1⟩
   ·have h1 : nd.set x.toNat true = nd := List.set_eq_of_length_le (by omega)
    rw [h1]
    constructor
    ·rintro (h | ⟨h, _⟩)
     ·exact Or.inl h
     ·exact absurd h hl
    ·rintro (h | ⟨h, _⟩)
     ·exact Or.inl h
     ·exact absurd h hl
  ·have h1 : (nd.set x.toNat true).getD j false = nd.getD j false := by simp only [List.getD, List.getElem?_set_ne hx]
   rw [h1, List.length_set]
   constructor
   ·rintro (h | ⟨h, z, hz, e⟩)
    ·exact Or.inl h
    ·exact Or.inr ⟨h, z, by simp [hz], e⟩
   ·rintro (h | ⟨h, z, hz, ez⟩)
    ·exact Or.inl h
    ·rcases List.mem_cons.1 hz with rfl | hz
     ·exact absurd ez hx
     ·exact Or.inr ⟨h, z, hz, ez⟩
def refC (c : Cl) (z : Int) : Prop := z ∈ c.r ∨ z ∈ c.l
theorem step_get {L : List Cl} {nd : List Bool} {k j : Nat} : (needStep L nd k).getD j false = true ↔ nd.getD j false = true ∨ (nd.getD k false = true ∧ j < nd.length ∧ ∃ z, refC (L.getD k default) z ∧ z.toNat = j) := by
 by_cases hk : nd.getD k false = true
 ·rw [need_yes hk, fU, fU, jS]
  constructor
  ·rintro ((h | ⟨h, z, hz, e⟩) | ⟨h, z, hz, e⟩)
   ·exact Or.inl h
   ·exact Or.inr ⟨hk, h, z, Or.inl hz, e⟩
   ·exact Or.inr ⟨hk, h, z, Or.inr hz, e⟩
  ·rintro (h | ⟨_, h, z, hz | hz, e⟩)
   ·exact Or.inl (Or.inl h)
   ·exact Or.inl (Or.inr ⟨h, z, hz, e⟩)
   ·exact Or.inr ⟨h, z, hz, e⟩
 ·rw [need_no (by simpa using hk)]
  exact ⟨Or.inl, fun h => h.elim id fun h => absurd h.1 hk⟩
structure NeedI (L : List Cl) (t : Nat) (nd : List Bool) : Prop where
 len : nd.length = L.length
 last : nd.getD (L.length - 1) false = true
 cl : ∀ k, k < L.length → L.length ≤ k + t → nd.getD k false = true → ∀ z, refC (L.getD k default) z → nd.getD z.toNat false = true
 by_ : ∀ j, nd.getD j false = true → j = L.length - 1 ∨ ∃ k, k < L.length ∧ L.length ≤ k + t ∧ nd.getD k false = true ∧ refC (L.getD k default) (j : Int)
theorem needI {L : List Cl} (h : LOk L) : ∀ t, t ≤ L.length → NeedI L t (needN L t)
 | 0, _ => by
  have hp := h.pos
  refine ⟨kP L 0, ?_, fun k hk hl => absurd hl (by omega), fun j hj => Or.inl ?_⟩
  ·show ((List.replicate L.length false).set (L.length - 1) true).getD (L.length - 1) false = true
   simp [List.getD, show L.length - 1 < L.length by omega]
  ·refine Classical.byContradiction fun hne => ?_
   change ((List.replicate L.length false).set (L.length - 1) true).getD j false = true at hj
   have : ((List.replicate L.length false).set (L.length - 1) true).getD j false = (List.replicate L.length false).getD j false := by simp only [List.getD, List.getElem?_set_ne (show L.length - 1 ≠ j from fun e => hne e.symm)]
   rw [this] at hj
   simp only [List.getD, List.getElem?_replicate] at hj
   split at hj <;> simp at hj
 | t + 1, ht => by
  have ih := needI h t (by omega)
  have hs : needN L (t + 1) = needStep L (needN L t) (L.length - 1 - t) := rfl
  have hk0 : L.length - 1 - t < L.length := by omega
  have hw : ∀ k, k < L.length → ∀ z, refC (L.getD k default) z → 0 ≤ z ∧ z < k := fun k hk z hz => h.wf k hk z hz
  refine ⟨kP L (t + 1), by rw [hs]; exact step_get.2 (Or.inl ih.last), fun k hk hl hn z hz => ?_, fun j hj => ?_⟩
  ·have hzk := hw k hk z hz
   rw [hs] at hn ⊢
   rcases step_get.1 hn with h1 | ⟨h1, _, z', hz', e⟩
   ·by_cases he : k = L.length - 1 - t
    ·subst he
     exact step_get.2 (Or.inr ⟨h1, by rw [ih.len]; omega, z, hz, rfl⟩)
    ·exact step_get.2 (Or.inl (ih.cl k hk (by omega) h1 z hz))
   ·have := hw _ hk0 z' hz'
    omega
  ·rw [hs] at hj
   rcases step_get.1 hj with h1 | ⟨h1, h2, z, hz, e⟩
   ·rcases ih.by_ j h1 with h3 | ⟨k, a, b, c, d⟩
    ·exact Or.inl h3
    ·exact Or.inr ⟨k, a, by omega, by rw [hs]; exact step_get.2 (Or.inl c), d⟩
   ·have := hw _ hk0 z hz
    refine Or.inr ⟨L.length - 1 - t, hk0, by omega, by rw [hs]; exact step_get.2 (Or.inl h1), ?_⟩
    rw [show (j : Int) = z by omega]; exact hz
noncomputable def cnt (L : List Cl) (nd : List Bool) (j : Nat) : Nat := (cutN L nd j).2.length
section
variable {L : List Cl} {nd : List Bool}
variable {j : Nat}
theorem cnt_yes (h : nd.getD j false = true) : cnt L nd (j + 1) = cnt L nd j + 1 := by
 unfold cnt
 rw [mV (at_ := (cutN L nd j).1) (os := (cutN L nd j).2) rfl h]; simp
theorem cnt_no (h : nd.getD j false = false) : cnt L nd (j + 1) = cnt L nd j := by
 unfold cnt
 rw [cut_no (at_ := (cutN L nd j).1) (os := (cutN L nd j).2) rfl h]
theorem cnt_mono {i : Nat} : ∀ j, i ≤ j → cnt L nd i ≤ cnt L nd j
  | 0, h => by have : i = 0 := by omega
               subst this; exact Nat.le_refl _
  | j + 1, h => by
    by_cases he : i = j + 1
    · subst he; exact Nat.le_refl _
    · have := cnt_mono (i := i) j (by omega)
      cases hn : nd.getD j false
      · rw [cnt_no hn]; exact this
      · rw [cnt_yes hn]; omega
theorem cnt_lt {i : Nat} (h : i < j) (hn : nd.getD i false = true) : cnt L nd i < cnt L nd j := by
 have h1 := cnt_mono (L := L) (nd := nd) (i := i + 1) j (by omega)
 rw [cnt_yes hn] at h1; omega
theorem cutn_at {i : Nat} (hi : i < L.length) (hn : nd.getD i false = true) : ∀ j, i < j → (cutN L nd j).1.getD i 0 = cnt L nd i ∧
  (cutN L nd j).2.getD (cnt L nd i) default = ⟨(L.getD i default).a, (L.getD i default).b, atL (cutN L nd (i + 1)).1 (L.getD i default).r, atL (cutN L nd (i + 1)).1 (L.getD i default).l⟩
 | 0, h => absurd h (Nat.not_lt_zero _)
 | j + 1, h => by
  have hl := (gZ L nd j).1
  by_cases he : i = j
  ·subst he
   have hc := mV (at_ := (cutN L nd i).1) (os := (cutN L nd i).2) rfl hn
   rw [hc]
   refine ⟨by simp [List.getD, hl, hi, cnt], ?_⟩
   exact xP rfl
  ·have ih := cutn_at hi hn j (by omega)
   cases hj : nd.getD j false
   ·have hc := cut_no (L := L) (at_ := (cutN L nd j).1) (os := (cutN L nd j).2) rfl hj
    rw [hc]; exact ih
   ·have hc := mV (L := L) (at_ := (cutN L nd j).1) (os := (cutN L nd j).2) rfl hj
    have hlt := cnt_lt (L := L) (show i < j by omega) hn
    have e1 : (cutN L nd (j + 1)).1.getD i 0 = (cutN L nd j).1.getD i 0 := by rw [hc]; simp only [List.getD, List.getElem?_set_ne (show j ≠ i by omega)]
    have e2 : (cutN L nd (j + 1)).2.getD (cnt L nd i) default = (cutN L nd j).2.getD (cnt L nd i) default := by rw [hc]; exact xH hlt
    rw [e1, e2]; exact ih
theorem cnt_inv {m : Nat} : ∀ j, m < cnt L nd j → ∃ i, i < j ∧ nd.getD i false = true ∧ cnt L nd i = m
 | 0, h => absurd h (Nat.not_lt_zero _)
 | j + 1, h => by
  cases hn : nd.getD j false
  ·rw [cnt_no hn] at h
   obtain ⟨i, a, b, c⟩ := cnt_inv (m := m) j h
   exact ⟨i, by omega, b, c⟩
  ·rw [cnt_yes hn] at h
   by_cases hm : m = cnt L nd j
   ·exact ⟨j, by omega, hn, hm.symm⟩
   ·obtain ⟨i, a, b, c⟩ := cnt_inv (m := m) j (by omega)
    exact ⟨i, by omega, b, c⟩
end
structure KeptI (L : List Cl) (i m : Nat) : Prop where
 lt : m < (cutL L).length
 a : ((cutL L).getD m default).a = (L.getD i default).a
 b : ((cutL L).getD m default).b = (L.getD i default).b
 r : ((cutL L).getD m default).r = (L.getD i default).r.map fun z => ((cnt L (needN L L.length) z.toNat : Nat) : Int)
 l : ((cutL L).getD m default).l = (L.getD i default).l.map fun z => ((cnt L (needN L L.length) z.toNat : Nat) : Int)
theorem kept {L : List Cl} (h : LOk L) {i : Nat} (hi : i < L.length) (hn : (needN L L.length).getD i false = true) : KeptI L i (cnt L (needN L L.length) i) := by
 have hI := needI h L.length (Nat.le_refl _)
 obtain ⟨_, h2⟩ := cutn_at hi hn L.length hi
 have hlt := cnt_lt (L := L) hi hn
 have hat : ∀ xs : List Int, (∀ z ∈ xs, refC (L.getD i default) z) → atL (cutN L (needN L L.length) (i + 1)).1 xs = xs.map fun z => ((cnt L (needN L L.length) z.toNat : Nat) : Int) := fun xs hx => by
  unfold atL
  refine List.map_congr_left fun z hz => ?_
  have hw := h.wf i hi z (hx z hz)
  exact (cutn_at (by omega) (hI.cl i hi (by omega) hn z (hx z hz)) (i + 1) (by omega)).1
 have e : (cutL L).getD (cnt L (needN L L.length) i) default = (cutN L (needN L L.length) L.length).2.getD (cnt L (needN L L.length) i) default := rfl
 refine ⟨hlt, ?_, ?_, ?_, ?_⟩
 ·rw [e, h2]
 ·rw [e, h2]
 ·rw [e, h2]; exact hat _ fun z hz => Or.inl hz
 ·rw [e, h2]; exact hat _ fun z hz => Or.inr hz
theorem kept_inv {L : List Cl} {m : Nat} (hm : m < (cutL L).length) : ∃ i, i < L.length ∧ (needN L L.length).getD i false = true ∧ cnt L (needN L L.length) i = m := cnt_inv L.length hm
theorem cut_wf {L : List Cl} (h : LOk L) : WfL (cutL L) := fun m hm z hz => by
 obtain ⟨i, hi, hn, rfl⟩ := kept_inv hm
 have hK := kept h hi hn
 have hI := needI h L.length (Nat.le_refl _)
 have hz' : ∃ y, refC (L.getD i default) y ∧ z = ((cnt L (needN L L.length) y.toNat : Nat) : Int) := by
  rcases hz with hz | hz
  ·rw [hK.r] at hz
   obtain ⟨y, hy, rfl⟩ := List.mem_map.1 hz
   exact ⟨y, Or.inl hy, rfl⟩
  ·rw [hK.l] at hz
   obtain ⟨y, hy, rfl⟩ := List.mem_map.1 hz
   exact ⟨y, Or.inr hy, rfl⟩
 obtain ⟨y, hy, rfl⟩ := hz'
 have hw := h.wf i hi y hy
 have := cnt_lt (L := L) (show y.toNat < i by omega) (hI.cl i hi (by omega) hn y hy)
 omega
end Go.GL
namespace Go.GL
open Go Go.RowKit
abbrev C4 := Int × Int × Value × Value
def eCl4 : Elt C4 where
 size := 4
 rep := fun _ cs p => cs = [.int .i64 p.1, .int .i64 p.2.1, p.2.2.1, p.2.2.2] ∧ p.2.2.1.oneCell' = true ∧ p.2.2.2.oneCell' = true
 mono := fun _ h => h
 len := fun h => by rw [h.1]; rfl
 one := fun h u hu => by
  rw [h.1] at hu; simp at hu
  rcases hu with rfl | rfl | rfl | rfl
  ·rfl
  ·rfl
  ·exact h.2.1
  ·exact h.2.2
def vv4 (p : C4) : Value × Value := p.2.2
def ab4 (p : C4) : Int × Int := (p.1, p.2.1)
def lvC (ps : List C4) (cs : List Cl) : List Leaf := lvN (ps.map vv4) (cs.map ndC)
structure DPrf (cn e : Nat) (G : Pin) (w : World) (lo hi : Nat) (v : Value) (cs : List Cl) : Prop where
 ex : ∃ ps : List C4, ps.length = cs.length ∧ ps.map ab4 = cs.map prC ∧ Own eCl4 cn G w lo v ps ∧ (∀ k, v.ownBlock = some k → k < hi) ∧ Lvs e G w lo hi (lvC ps cs) ∧ ApL (lvC ps cs) v.ownBlock
variable {a b : Int} {u : Value}
theorem lvC_snoc {ps : List C4} {cs : List Cl} {LV : List Leaf} {v : Value} {c : Cl} (h : LV = lvC ps cs) (hl : ps.length = cs.length) : LV ++ [(u, c.r)] ++ [(v, c.l)] = lvC (ps ++ [(a, b, u, v)]) (cs ++ [c]) := by
 subst h
 have e : (ps.map vv4).length = (cs.map ndC).length := by simp only [List.length_map]; exact hl
 unfold lvC
 rw [List.map_append, List.map_append, List.map_singleton, List.map_singleton]
 exact (lvN_snoc (ps.map vv4) (cs.map ndC) (u, v) (ndC c) e).symm
theorem ab_snoc {ps : List C4} {cs : List Cl} {v : Value} {c : Cl} (h : ps.map ab4 = cs.map prC) (hc : prC c = (a, b)) : (ps ++ [(a, b, u, v)]).map ab4 = (cs ++ [c]).map prC := by
 rw [List.map_append, List.map_append, h, List.map_singleton, List.map_singleton, hc]; rfl
section
variable {cn e lo hi lo' hi' : Nat} {G G' : Pin} {w w' : World} {v : Value} {cs : List Cl}
theorem DPrf.nil : DPrf cn e G w lo hi (.slice none 0 0) [] := ⟨[], rfl, rfl, Own.nil _ _ _ _ _, fun k hk => (by cases hk), Lvs.nil, ApL.nil⟩
theorem DPrf.below (h : DPrf cn e G w lo hi v cs) (hb : Below w.heap.size w w') : DPrf cn e G w' lo hi v cs := by
 obtain ⟨ps, h1, h0, h2, h3, h4, h5⟩ := h.ex
 exact ⟨⟨ps, h1, h0, h2.below hb, h3, h4.below hb, h5⟩⟩
theorem DPrf.extS {S : Nat → Prop} (h : DPrf cn e G w lo hi v cs) (hx : Ext S G w G' w') (hS : ∀ k, lo ≤ k → k < hi → ¬ S k) : DPrf cn e G' w' lo hi v cs := by
 obtain ⟨ps, h1, h0, h2, h3, h4, h5⟩ := h.ex
 exact ⟨⟨ps, h1, h0, h2.extS hx (fun k hk => hS k (h2.lt k hk).1 (h3 k hk)), h3, h4.extS hx hS, h5⟩⟩
theorem DPrf.wide (h : DPrf cn e G w lo hi v cs) (hl : lo' ≤ lo) (hh : hi ≤ hi') : DPrf cn e G w lo' hi' v cs := by
 obtain ⟨ps, h1, h0, h2, h3, h4, h5⟩ := h.ex
 exact ⟨⟨ps, h1, h0, h2.weaken hl, fun k hk => Nat.lt_of_lt_of_le (h3 k hk) hh, h4.weaken hl hh, h5⟩⟩
theorem DPrf.kept {b : Nat} (h : DPrf cn e G w lo hi v cs) (hg : w.grownBy w' (some b)) (hb : hi ≤ b ∨ b < lo) : DPrf cn e G w' lo hi v cs := by
 obtain ⟨ps, h1, h0, h2, h3, h4, h5⟩ := h.ex
 exact ⟨⟨ps, h1, h0, h2.keptA hg (fun k a c => by cases c; have := h3 _ a; have := (h2.lt _ a).1; omega), h3, h4.kept hg (fun p hp k a c => by cases c; have := h4.hi p hp _ a; have := (h4.ge p hp _ a).1; omega), h5⟩⟩
theorem DPrf.one (h : DPrf cn e G w lo hi v cs) : v.oneCell' = true := by
 obtain ⟨ps, h1, h0, h2, h3, h4, h5⟩ := h.ex
 exact h2.one
theorem DPrf.len (h : DPrf cn e G w lo hi v cs) : cs.length ≤ 9223372036854775807 := by
 obtain ⟨ps, h1, h0, h2, h3, h4, h5⟩ := h.ex
 rw [← h1]; exact h2.max
end
end Go.GL
namespace Go.GL
open Go Go.RowKit
def new4 (f : Nat) (q : Int) (p : C4) : C4 := if f = 0 then (q, p.2) else (p.1, q, p.2.2)
section
variable {P : Program} {ρ : Operand → Value} {w : World} {K : Value → World → Prop} {d : Option Nat} {t ty e : Nat} {pos : String} {aft : Array Edge} {g : Option (Nat × Bool)} {x y : Operand} {G : Pin} {v : Value}
variable {base : Nat} {z q : Int}
theorem run_setC {xs : List C4} (f : Nat) (hf : f < 2) (hs : (P.info? t).map (·.size) = some 1) (hx : ρ x = eptr v z 4 f) (hy : ρ y = .int .i64 q) (hP : Pins G w) (hv : Own eCl4 e G w base v xs) (h0 : 0 ≤ z) (h1 : z < xs.length) :
  ∃ w', (execOp ρ ⟨d, .store t x y, ty, pos, aft, g⟩).run P w = .ok .skip w' ∧ Own eCl4 e G w' base v (xs.set z.toNat (new4 f q (xs.getD z.toNat default))) ∧ Pins G w' ∧ w.grownBy w' v.ownBlock ∧ w'.heap.size = w.heap.size := by
 have hz : z.toNat < xs.length := by omega
 obtain ⟨cells, hown, hr⟩ := hv.ex
 have hx1 : xs[z.toNat] = xs.getD z.toNat default := by simp [List.getD, hz]
 have hel0 := hr z.toNat _ (List.getElem?_eq_getElem hz)
 rw [hx1] at hel0
 have hn1 : (new4 f q (xs.getD z.toNat default)).2.2 = (xs.getD z.toNat default).2.2 := by unfold new4; split <;> rfl
 obtain ⟨gb, w', hb, hp, hrun, a1, a2, a3, a4⟩ := hv.setAt (P := P) h0 h1 (q := new4 f q (xs.getD z.toNat default)) (cs := [Value.int .i64 (new4 f q (xs.getD z.toNat default)).1, Value.int .i64 (new4 f q (xs.getD z.toNat default)).2.1, (new4 f q (xs.getD z.toNat default)).2.2.1, (new4 f q (xs.getD z.toNat default)).2.2.2])
  ⟨rfl, by rw [hn1]; exact hel0.2.1, by rw [hn1]; exact hel0.2.2⟩ hP
 rcases hown.2 with ⟨rfl, hl0⟩ | ⟨g', cap, cur, rfl, hbg, hg, hnc, hcm, hcs, htake⟩
 ·omega
 ·have hgb : gb = g' := by simpa [Value.ownBlock] using hb.symm
  subst hgb
  have e2 : eCl4.size = 4 := rfl
  rw [e2] at hrun hcs htake hr hp
  have hle1 : z.toNat * 4 + 4 ≤ cur.size := by omega
  have hel := hel0.1
  rw [e2, ← htake] at hel
  have ho1 := hel0.2.1; have ho2 := hel0.2.2
  have hc : ∀ k u, ([Value.int .i64 (xs.getD z.toNat default).1, .int .i64 (xs.getD z.toNat default).2.1, (xs.getD z.toNat default).2.2.1, (xs.getD z.toNat default).2.2.2] : List Value)[k]? = some u → cur.toList[z.toNat * 4 + k]? = some u := fun k u hu => by
   have hk : k < 4 := by have := (List.getElem?_eq_some_iff.1 hu).1; simpa using this
   have h3 : ((((cur.toList.take (xs.length * 4)).drop (z.toNat * 4)).take 4)[k]?) = some u := by rw [show ((cur.toList.take (xs.length * 4)).drop (z.toNat * 4)).take 4 = _ from hel]; exact hu
   rw [List.getElem?_take, if_pos hk, List.getElem?_drop, List.getElem?_take, if_pos (by omega)] at h3
   exact h3
  have c0 := hc 0 _ rfl
  have c1 := hc 1 _ rfl
  have c2 := hc 2 _ rfl
  have c3 := hc 3 _ rfl
  rw [Nat.add_zero] at c0
  have r1 := run_storeCells_at P gb (z.toNat * 4) e [.int .i64 (new4 f q (xs.getD z.toNat default)).1, .int .i64 (new4 f q (xs.getD z.toNat default)).2.1, (new4 f q (xs.getD z.toNat default)).2.2.1, (new4 f q (xs.getD z.toNat default)).2.2.2] 0 cur w hg (by simpa using hle1)
   (by
    intro u hu
    rcases List.mem_cons.1 hu with rfl | hu
    ·rfl
    rcases List.mem_cons.1 hu with rfl | hu
    ·rfl
    rcases List.mem_cons.1 hu with rfl | hu
    ·rw [hn1]; exact ho1
    rcases List.mem_cons.1 hu with rfl | hu
    ·rw [hn1]; exact ho2
    ·cases hu)
  have r2 := run_storeCells_at P gb (z.toNat * 4 + f) e [.int .i64 q] 0 cur w hg (by simp; omega) (by intro u hu; simp at hu; subst hu; rfl)
  simp only [Nat.add_zero] at r1 r2
  have hw : w' = w.setRow gb (cur.toList.take (z.toNat * 4 + f) ++ [Value.int .i64 q] ++ cur.toList.drop (z.toNat * 4 + f + [Value.int .i64 q].length)).toArray := by
   rw [hrun] at r1
   have hw1 := (Result.ok.inj r1).2
   rw [hw1]
   congr 2
   have hd0 : cur.toList.drop (z.toNat * 4) = .int .i64 (xs.getD z.toNat default).1 :: .int .i64 (xs.getD z.toNat default).2.1 :: (xs.getD z.toNat default).2.2.1 :: (xs.getD z.toNat default).2.2.2 :: cur.toList.drop (z.toNat * 4 + 4) := by
    obtain ⟨h5, h6⟩ := List.getElem?_eq_some_iff.1 c0
    obtain ⟨h7, h8⟩ := List.getElem?_eq_some_iff.1 c1
    obtain ⟨h9, h10⟩ := List.getElem?_eq_some_iff.1 c2
    obtain ⟨h11, h12⟩ := List.getElem?_eq_some_iff.1 c3
    rw [List.drop_eq_getElem_cons h5, List.drop_eq_getElem_cons h7, List.drop_eq_getElem_cons h9, List.drop_eq_getElem_cons h11, h6, h8, h10, h12]
   match f, hf with
   | 0, _ =>
    have : cur.toList.drop (z.toNat * 4 + 1) = .int .i64 (xs.getD z.toNat default).2.1 :: (xs.getD z.toNat default).2.2.1 :: (xs.getD z.toNat default).2.2.2 :: cur.toList.drop (z.toNat * 4 + 4) := by
     have := congrArg (List.drop 1) hd0
     rw [List.drop_drop] at this
     simpa using this
    simp [this, new4]
   | 1, _ =>
    have h2 : cur.toList.drop (z.toNat * 4 + 2) = (xs.getD z.toNat default).2.2.1 :: (xs.getD z.toNat default).2.2.2 :: cur.toList.drop (z.toNat * 4 + 4) := by
     have := congrArg (List.drop 2) hd0
     rw [List.drop_drop] at this
     simpa using this
    have : cur.toList.take (z.toNat * 4 + 1) = cur.toList.take (z.toNat * 4) ++ [.int .i64 (xs.getD z.toNat default).1] := by
     rw [List.take_add_one, c0]; rfl
    simp [this, h2, new4]
  have hpt : eptr (.slice (some ⟨gb, 0, none⟩) xs.length cap) z 4 f = .pointer (some ⟨gb, z.toNat * 4 + f, none⟩) := by
   clear hx hrun r1 r2 hw hr hc hel hp a1 hv hown hel0 ho1 ho2
   simp only [eptr, Addr.add]; split <;> simp_all
  rw [hpt] at hx
  refine ⟨w', ?_, a1, a2, a3, a4⟩
  have hlv : (storeVar t ⟨gb, z.toNat * 4 + f, none⟩ (.int .i64 q)).run P w = .ok () w' := by
   unfold storeVar
   simp only [Sem.run_bind, qA hs, Result.andThen_ok]
   have : (Value.int .i64 q).cells.size = 1 := rfl
   simp only [this, ne_eq, not_true_eq_false, if_false]
   have hc2 : (Value.int .i64 q).cells.toList = [.int .i64 q] := rfl
   rw [hc2, r2, hw]
  simp only [execOp, hx, hy, Instr.storeAt, Instr.sureAddr, Sem.run_bind, Sem.run_pure, Result.andThen_ok, hlv]
theorem o_setC {xs : List C4} (f : Nat) (hf : f < 2) (hs : (P.info? t).map (·.size) = some 1) (hx : ρ x = eptr v z 4 f) (hy : ρ y = .int .i64 q) (hP : Pins G w) (hv : Own eCl4 e G w base v xs) (h0 : 0 ≤ z) (h1 : z < xs.length)
  (h : ∀ w', Own eCl4 e G w' base v (xs.set z.toNat (new4 f q (xs.getD z.toNat default))) → Pins G w' → w.grownBy w' v.ownBlock → w'.heap.size = w.heap.size → K undef w') :
  EO P ρ ⟨d, .store t x y, ty, pos, aft, g⟩ w K := by
 obtain ⟨w', h2, h3, h4, h5, h6⟩ := run_setC (d := d) (ty := ty) (pos := pos) (aft := aft) (g := g) f hf hs hx hy hP hv h0 h1
 exact EO.skip h2 (h w' h3 h4 h5 h6)
end
end Go.GL
namespace Go.GL
open Go Go.RowKit
theorem vv_at {zs ps : List C4} (h : zs.map vv4 = ps.map vv4) (j : Nat) : (zs.getD j default).2.2 = (ps.getD j default).2.2 := by
 have := congrArg (fun l => l.getD j (vv4 default)) h
 simp only [List.getD, List.getElem?_map, Option.getD_map] at this
 exact this
theorem set_vv {ys : List C4} {j f : Nat} {q : Int} : (ys.set j (new4 f q (ys.getD j default))).map vv4 = ys.map vv4 := by
 apply List.ext_getElem?
 intro i
 simp only [List.getElem?_map]
 by_cases hi : j = i
 ·subst hi
  by_cases hj : j < ys.length
  ·have e : vv4 (new4 f q ys[j]) = vv4 ys[j] := by unfold new4 vv4; split <;> rfl
   simp [List.getD, hj, e]
  ·rw [List.set_eq_of_length_le (by omega)]
 ·rw [List.getElem?_set_ne hi]
structure SmC (cs : List Cl) : Prop where
 len : cs.length ≤ 200
 ln : ∀ j, j < cs.length → (cs.getD j default).r.length ≤ 24 ∧ (cs.getD j default).l.length ≤ 24
theorem cut_lens {L : List Cl} {nd : List Bool} (h : ∀ j, (L.getD j default).r.length ≤ 24 ∧ (L.getD j default).l.length ≤ 24) : ∀ j, ∀ c ∈ (cutN L nd j).2, c.r.length ≤ 24 ∧ c.l.length ≤ 24
 | 0 => fun _ hc => by cases hc
 | j + 1 => by
  have ih := cut_lens (nd := nd) h j
  show ∀ c ∈ (cutStep L nd j (cutN L nd j)).2, _
  unfold cutStep
  split
  ·intro c hc
   rcases List.mem_append.1 hc with h1 | h1
   ·exact ih c h1
   ·simp at h1; subst h1
    simp only [xS]; exact h j
  ·exact ih
theorem vV (asx bs : List Nd) : SmC (prfL asx bs) := by
 by_cases hp : PrfP asx bs
 ·obtain ⟨_, e2⟩ := mQ hp
  rw [e2]
  have hf := (full_ok hp.ga hp.gb hp.ge).ln
  have hall : ∀ j, ((fullL asx bs).getD j default).r.length ≤ 24 ∧ ((fullL asx bs).getD j default).l.length ≤ 24 := fun j => by
   by_cases hj : j < (fullL asx bs).length
   ·exact hf j hj
   ·have e : (fullL asx bs).getD j default = default := by simp [List.getD, List.getElem?_eq_none (show (fullL asx bs).length ≤ j by omega)]
    rw [e]; exact ⟨Nat.zero_le _, Nat.zero_le _⟩
  exact ⟨hp.le, fun j hj => cut_lens hall _ _ (jD hj)⟩
 ·obtain ⟨_, e2⟩ := gP hp
  rw [e2]; exact ⟨Nat.zero_le _, fun j hj => absurd hj (Nat.not_lt_zero j)⟩
end Go.GL
namespace Go.GL
open Go Go.RowKit
variable {us : List Int} {B : Int}
theorem vI {P : Program} {n : Nat} {env : Nat → Value} {w : World} {fn : Func} {R : Ending → World → Prop} {s t b s2 b2 s3 b3 t3 : Nat} {cs ds es : List Value} (hr : fn.results = #[.cell s t, .cell s2 t, .cell s3 t3]) (hs : Nat.blt s n = true) (hs2 : Nat.blt s2 n = true) (hs3 : Nat.blt s3 n = true) (hv : env s = .pointer (some ⟨b, 0, none⟩)) (hv2 : env s2 = .pointer (some ⟨b2, 0, none⟩)) (hv3 : env s3 = .pointer (some ⟨b3, 0, none⟩)) (ha : (P.underlying t).map aggD = some true) (hz : (P.info? t).map (·.size) = some cs.length) (hz2 : ds.length = cs.length) (ha3 : (P.underlying t3).map aggD = some true) (hz3 : (P.info? t3).map (·.size) = some es.length)
  (hc : ∀ j u, cs[j]? = some u → w.cell? ⟨b, 0 + j, none⟩ = some u) (hd : ∀ j u, ds[j]? = some u → w.cell? ⟨b2, 0 + j, none⟩ = some u) (he0 : ∀ j u, es[j]? = some u → w.cell? ⟨b3, 0 + j, none⟩ = some u) (h : R (.returned (.tuple #[.agg cs.toArray, .agg ds.toArray, .agg es.toArray])) w) : bodyPost P fn R .ret (F n env) w := by
 have h2 : s < n := by simpa [Nat.blt_eq] using hs
 have h3 : s2 < n := by simpa [Nat.blt_eq] using hs2
 have h4 : s3 < n := by simpa [Nat.blt_eq] using hs3
 have key : ∀ (t b : Nat) (cs : List Value), (P.underlying t).map aggD = some true → (P.info? t).map (·.size) = some cs.length → (∀ j u, cs[j]? = some u → w.cell? ⟨b, 0 + j, none⟩ = some u) → (loadVar t ⟨b, 0, none⟩).run P w = .ok (.agg cs.toArray) w := fun t b cs ha hz hc => by
  have hcell : ∀ j u, cs[j]? = some u → w.cell? ((⟨b, 0, none⟩ : Addr).add j) = some u := fun j u hj => by
   have := hc j u hj
   simp only [Addr.add]
   split
   ·simp_all
   ·exact this
  unfold loadVar
  simp only [Sem.run_bind, jW ha, Result.andThen_ok, if_true, qA hz, run_loadCells_list (P := P) w ⟨b, 0, none⟩ cs hcell, Sem.run_pure]
 have hl1 := key t b cs ha hz hc
 have hl2 := key t b2 ds ha (by rw [hz2]; exact hz) hd
 have hl3 := key t3 b3 es ha3 hz3 he0
 refine bodyPost_ret (v := .tuple #[.agg cs.toArray, .agg ds.toArray, .agg es.toArray]) ?_ rfl h
 have he : (F n env).tmps[s]?.getD undef = .pointer (some ⟨b, 0, none⟩) := by simp [F, h2, hv]
 have he2 : (F n env).tmps[s2]?.getD undef = .pointer (some ⟨b2, 0, none⟩) := by simp [F, h3, hv2]
 have he3 : (F n env).tmps[s3]?.getD undef = .pointer (some ⟨b3, 0, none⟩) := by simp [F, h4, hv3]
 simp [results, hr, he, he2, he3, asAddr, hl1, hl2, hl3]
structure UsP (ps : List Cl) : Prop where
 hi : ps.length ≤ 200
 wf : WfL ps
theorem UsP.at {ps : List Cl} (h : UsP ps) {k s i : Nat} (hk : k < ps.length) (hi : i < (pick2 s (ps.getD k default).r (ps.getD k default).l).length) :
  0 ≤ (pick2 s (ps.getD k default).r (ps.getD k default).l).getD i 0 ∧ (pick2 s (ps.getD k default).r (ps.getD k default).l).getD i 0 < k := by
 refine h.wf k hk _ ?_
 unfold pick2 at hi ⊢
 split at hi <;> rename_i hs
 ·rw [if_pos hs]; exact Or.inl (jD hi)
 ·rw [if_neg hs]; exact Or.inr (jD hi)
theorem vG (asx bs : List Nd) : UsP (prfL asx bs) := by
 by_cases hp : PrfP asx bs
 ·rw [(mQ hp).2]; exact ⟨hp.le, cut_wf (full_ok hp.ga hp.gb hp.ge)⟩
 ·rw [(gP hp).2]; exact ⟨Nat.zero_le _, fun j hj => absurd hj (Nat.not_lt_zero j)⟩
theorem set_bd (h : ∀ m : Nat, 0 ≤ us.getD m 0 ∧ us.getD m 0 ≤ B) (i : Nat) : ∀ m : Nat, 0 ≤ (us.set i (us.getD i 0 + 1)).getD m 0 ∧ (us.set i (us.getD i 0 + 1)).getD m 0 ≤ B + 1 := fun m => by
 have hm := h m; have hi := h i
 by_cases hx : i = m
 ·subst hx
  by_cases hl : i < us.length
  ·have : (us.set i (us.getD i 0 + 1)).getD i 0 = us.getD i 0 + 1 := by simp [List.getD, hl]
   rw [this]; omega
  ·rw [List.set_eq_of_length_le (by omega)]; omega
 ·have : (us.set i (us.getD i 0 + 1)).getD m 0 = us.getD m 0 := by simp only [List.getD, List.getElem?_set_ne hx]
  rw [this]; omega
theorem rep_bd (n : Nat) : ∀ m : Nat, 0 ≤ (List.replicate n (0 : Int)).getD m 0 ∧ (List.replicate n (0 : Int)).getD m 0 ≤ 0 := fun m => by
 have : (List.replicate n (0 : Int)).getD m 0 = 0 := by
  simp only [List.getD, List.getElem?_replicate]; split <;> rfl
 rw [this]; omega
theorem bd_le {C : Int} (h : ∀ m : Nat, 0 ≤ us.getD m 0 ∧ us.getD m 0 ≤ B) (hc : B ≤ C) : ∀ m : Nat, 0 ≤ us.getD m 0 ∧ us.getD m 0 ≤ C := fun m => ⟨(h m).1, Int.le_trans (h m).2 hc⟩
end Go.GL
namespace Go.GL
open Go Go.RowKit
def BxL (G : Pin) (w : World) (bs : List (Nat × List Value)) : Prop := ∀ p ∈ bs, Bx G w p.1 p.2
def NotB (bs : List (Nat × List Value)) (x : Option Nat) : Prop := ∀ p ∈ bs, Apart (some p.1) x
section
variable {G G' : Pin} {w w' : World} {bs : List (Nat × List Value)} {lo hi : Nat}
theorem BxL.below (h : BxL G w bs) (hb : Below w.heap.size w w') : BxL G w' bs := fun p hp => (h p hp).below hb
theorem BxL.ext (h : BxL G w bs) (hx : Ext noS G w G' w') : BxL G' w' bs := fun p hp => (h p hp).ext hx
theorem BxL.kept {row : Option Nat} (h : BxL G w bs) (hg : w.grownBy w' row) (ha : NotB bs row) : BxL G w' bs := fun p hp => (h p hp).keptA hg (ha p hp)
theorem BxL.moreO {v : Value} (h : BxL G w bs) (hf : ∀ k o x, G' k o x → G k o x ∨ v.ownBlock = some k) (ha : NotB bs v.ownBlock) : BxL G' w bs := fun p hp => (h p hp).moreO hf (ha p hp)
theorem BxL.turned {x : Option Nat} (h : BxL G w bs) (hx : Ext (inO x) G w G' w') (ha : NotB bs x) : BxL G' w' bs := fun p hp => (h p hp).extS hx (xJ (ha p hp))
theorem BxL.new {x : Option Nat} (h : BxL G w bs) (hx : ∀ k, x = some k → w.heap.size ≤ k) : NotB bs x := fun p hp k h1 h2 => by
 cases h1
 have h3 := (h p hp).lt
 have h4 := hx _ h2
 omega
variable {b : Nat}
theorem NotB.app {u v : Value} (h : NotB bs u.ownBlock) (hl : BxL G w bs) (hw : v.ownBlock = u.ownBlock ∨ ∃ k, v.ownBlock = some k ∧ w.heap.size ≤ k) : NotB bs v.ownBlock := by
 rcases hw with e | ⟨k, e, hk⟩
 ·rw [e]; exact h
 ·exact hl.new fun j hj => by rw [e] at hj; cases hj; exact hk
theorem Bx.moreR {cs : List Value} (h : Bx G w b cs) (hf : ∀ k o u, G' k o u → G k o u ∨ (lo ≤ k ∧ k < hi)) (hb : hi ≤ b ∨ b < lo) : Bx G' w b cs :=
 ⟨h.heap, fun o u hu => by
  rcases hf b o u hu with a | a
  ·exact h.free o u a
  ·omega⟩
theorem BxL.moreR (h : BxL G w bs) (hf : ∀ k o u, G' k o u → G k o u ∨ (lo ≤ k ∧ k < hi)) (hb : ∀ p ∈ bs, hi ≤ p.1 ∨ p.1 < lo) : BxL G' w bs := fun p hp => (h p hp).moreR hf (hb p hp)
theorem NotB.row {v : Value} (hb : ∀ p ∈ bs, hi ≤ p.1 ∨ p.1 < lo) (h1 : ∀ k, v.ownBlock = some k → lo ≤ k ∧ k < hi) : NotB bs v.ownBlock := fun p hp k e1 e2 => by
 cases e1
 have h2 := h1 _ e2
 have h3 := hb p hp
 omega
theorem xC {v : Value} (h1 : ∀ k, v.ownBlock = some k → lo ≤ k ∧ k < hi) (hb : hi ≤ b ∨ b < lo) : Apart v.ownBlock (some b) := fun k e1 e2 => by
 cases e2
 have h2 := h1 _ e1
 omega
end
section
variable {cn e lo hi : Nat} {G G' : Pin} {w w' : World} {v : Value} {cs : List Cl}
variable {L : List Leaf} {k : Nat}
theorem DPrf.run_len {P : Program} {t ety : Nat} {d : Option Nat} {ty : Nat} {pos : String} {aft : Array Edge} {g : Option (Nat × Bool)} {x : Operand} {ρ : Operand → Value} {w9 : World} (h : DPrf cn e G w lo hi v cs) (ht : P.underlying t = some (.slice ety)) (hx : ρ x = v) :
  (execOp ρ ⟨d, .call { callee := .builtin .len, args := #[x], argTypes := #[t] }, ty, pos, aft, g⟩).run P w9 = .ok (.value (.int .i64 cs.length)) w9 := by
 obtain ⟨ps, h1, h0, h2, h3, h4, h5⟩ := h.ex
 rw [← h1]
 exact Go.GL.run_len ht hx h2.read
theorem Lvs.sub {L' : List Leaf} (h : Lvs e G w lo hi L) (hs : L'.Sublist L) : Lvs e G w lo hi L' := ⟨fun p hp => h.own p (hs.subset hp), fun p hp => h.hi p (hs.subset hp), h.ap.sublist hs⟩
theorem Own.moreL {α : Type} {E : Elt α} {base : Nat} {u : Value} {xs : List α} (h : Own E e G w base u xs) (ha : ApL L u.ownBlock) : Own E e (GLv G w L) w base u xs :=
 h.mono GLv.le fun k hk o x hu => by
  rcases hu with a | ⟨⟨p, hp, a⟩, _⟩
  ·exact h.free k hk o x a
  ·exact ha p hp k a hk
theorem DPrf.readR (h : DPrf cn e G w lo hi v cs) (hP : Pins G w) : ∃ G', Pin.le G G' ∧ Pins G' w ∧ RSl eClaim G' v cs ∧ ∀ b o x, G' b o x → G b o x ∨ (lo ≤ b ∧ b < hi) := by
 obtain ⟨ps, h1, h0, h2, h3, h4, h5⟩ := h.ex
 refine ⟨GLv (Gadd G w v) w (lvC ps cs), dH (Gadd.le _ _ _) GLv.le, GLv.pins (Gadd.pins hP v), (h2.read.mono GLv.le).conv h1.symm rfl fun i p c cells hp hc hr => ?_, fun b o x hx => ?_⟩
 rotate_left
 ·rcases hx with (a | a) | a
  ·exact Or.inl a
  ·exact Or.inr ⟨(h2.lt b a.1).1, h3 b a.1⟩
  ·obtain ⟨⟨p, hp, hk⟩, _⟩ := a
   exact Or.inr ⟨((h4.own p hp).lt b hk).1, h4.hi p hp b hk⟩
 have hm := lvN_mem (ps := ps.map vv4) (ns := cs.map ndC) (i := i) (p := vv4 p) (n := ndC c) (by rw [List.getElem?_map, hp]; rfl) (by rw [List.getElem?_map, hc]; rfl)
 obtain ⟨rfl, _, _⟩ := hr
 have key : ∀ q ∈ lvC ps cs, RSl eInt (GLv (Gadd G w v) w (lvC ps cs)) q.1 q.2 := fun q hq =>
  (h4.read hq).mono fun b o u hu => by
   rcases hu with a | a
   ·exact Or.inl (Or.inl a)
   ·exact Or.inr a
 have he : ab4 p = prC c := by
  have := congrArg (fun l => l[i]?) h0
  simp only [List.getElem?_map, hp, hc, Option.map_some] at this
  exact Option.some.inj this
 have e1 : p.1 = c.a := congrArg Prod.fst he
 have e2 : p.2.1 = c.b := congrArg Prod.snd he
 exact ⟨_, _, (by rw [e1, e2]; rfl), key _ hm.1, key _ hm.2⟩
theorem lvC_split {ps1 ps2 : List C4} {cs1 cs2 : List Cl} {p : C4} {c : Cl} (hl : ps1.length = cs1.length) :
  lvC (ps1 ++ p :: ps2) (cs1 ++ c :: cs2) = (lvC ps1 cs1 ++ [(p.2.2.1, c.r)]) ++ (p.2.2.2, c.l) :: lvC ps2 cs2 := by
 unfold lvC lvN
 rw [List.map_append, List.map_append, List.zip_append (by simp only [List.length_map]; exact hl), List.flatMap_append]
 simp [vv4, ndC]
theorem split_at {α : Type} [Inhabited α] {l : List α} (h : k < l.length) : l = l.take k ++ l.getD k default :: l.drop (k + 1) := by
 have h1 : l.getD k default = l[k] := by simp [List.getD, h]
 rw [h1, ← List.drop_eq_getElem_cons h, List.take_append_drop]
theorem DPrf.open (h : DPrf cn e G w lo hi v cs) (hP : Pins G w) (hk : k < cs.length) :
  ∃ (G' : Pin) (ps : List C4) (y u : Value), y = (ps.getD k default).2.2.1 ∧ u = (ps.getD k default).2.2.2 ∧ Pin.le G G' ∧ Pins G' w ∧ ps.length = cs.length ∧ Own eCl4 cn G' w lo v ps ∧ Own eInt e G' w lo u (cs.getD k default).l ∧
   (∀ j, v.ownBlock = some j → lo ≤ j ∧ j < hi) ∧ (∀ j, u.ownBlock = some j → lo ≤ j ∧ j < hi) ∧ Apart u.ownBlock v.ownBlock ∧ RSl eInt G' y (cs.getD k default).r ∧ (∀ i, i < ps.length → RSl eInt G' (ps.getD i default).2.2.1 (cs.getD i default).r) ∧
   (∀ i, i < ps.length → i ≠ k → RSl eInt G' (ps.getD i default).2.2.2 (cs.getD i default).l) ∧ (∀ b o x, G' b o x → G b o x ∨ (lo ≤ b ∧ b < hi)) := by
 obtain ⟨ps, h1, h0, h2, h3, h4, h5⟩ := h.ex
 have hpk : k < ps.length := by omega
 have hsp : lvC ps cs = (lvC (ps.take k) (cs.take k) ++ [((ps.getD k default).2.2.1, (cs.getD k default).r)]) ++ ((ps.getD k default).2.2.2, (cs.getD k default).l) :: lvC (ps.drop (k + 1)) (cs.drop (k + 1)) := by
  conv => lhs; rw [split_at hpk, split_at hk]
  exact lvC_split (by simp only [List.length_take]; omega)
 have h6 := h4
 have h7 := h5
 rw [hsp] at h4 h5
 have hsub : ((lvC (ps.take k) (cs.take k) ++ [((ps.getD k default).2.2.1, (cs.getD k default).r)]) ++ lvC (ps.drop (k + 1)) (cs.drop (k + 1))).Sublist ((lvC (ps.take k) (cs.take k) ++ [((ps.getD k default).2.2.1, (cs.getD k default).r)]) ++ ((ps.getD k default).2.2.2, (cs.getD k default).l) :: lvC (ps.drop (k + 1)) (cs.drop (k + 1))) :=
  List.Sublist.append (List.Sublist.refl _) (List.sublist_cons_self _ _)
 have hS := h4.sub hsub
 have hap := h4.ap
 rw [List.pairwise_append] at hap
 have hmu : ((ps.getD k default).2.2.2, (cs.getD k default).l) ∈ (lvC (ps.take k) (cs.take k) ++ [((ps.getD k default).2.2.1, (cs.getD k default).r)]) ++ ((ps.getD k default).2.2.2, (cs.getD k default).l) :: lvC (ps.drop (k + 1)) (cs.drop (k + 1)) := List.mem_append_right _ List.mem_cons_self
 have hou := h4.own _ hmu
 have hau : ApL ((lvC (ps.take k) (cs.take k) ++ [((ps.getD k default).2.2.1, (cs.getD k default).r)]) ++ lvC (ps.drop (k + 1)) (cs.drop (k + 1))) (ps.getD k default).2.2.2.ownBlock := fun p hp => by
  rcases List.mem_append.1 hp with a | a
  ·exact hap.2.2 p a _ List.mem_cons_self
  ·exact fun j e1 e2 => (List.pairwise_cons.1 hap.2.1).1 p a j e2 e1
 have hav : ApL ((lvC (ps.take k) (cs.take k) ++ [((ps.getD k default).2.2.1, (cs.getD k default).r)]) ++ lvC (ps.drop (k + 1)) (cs.drop (k + 1))) v.ownBlock := fun p hp => h5 p (hsub.subset hp)
 have hin : ∀ i, i < ps.length → i ≠ k → ((ps.getD i default).2.2.1, (cs.getD i default).r) ∈ (lvC (ps.take k) (cs.take k) ++ [((ps.getD k default).2.2.1, (cs.getD k default).r)]) ++ lvC (ps.drop (k + 1)) (cs.drop (k + 1)) ∧
   ((ps.getD i default).2.2.2, (cs.getD i default).l) ∈ (lvC (ps.take k) (cs.take k) ++ [((ps.getD k default).2.2.1, (cs.getD k default).r)]) ++ lvC (ps.drop (k + 1)) (cs.drop (k + 1)) := fun i hi hne => by
  have hci : i < cs.length := by omega
  have e1 : ps.getD i default = ps[i] := by simp [List.getD, hi]
  have e2 : cs.getD i default = cs[i] := by simp [List.getD, hci]
  by_cases hlt : i < k
  ·have hm := lvN_mem (ps := (ps.take k).map vv4) (ns := (cs.take k).map ndC) (i := i) (p := vv4 ps[i]) (n := ndC cs[i]) (by rw [List.getElem?_map, List.getElem?_take, if_pos hlt, List.getElem?_eq_getElem hi]; rfl) (by rw [List.getElem?_map, List.getElem?_take, if_pos hlt, List.getElem?_eq_getElem hci]; rfl)
   rw [e1, e2]
   exact ⟨List.mem_append_left _ (List.mem_append_left _ hm.1), List.mem_append_left _ (List.mem_append_left _ hm.2)⟩
  ·have e3 : k + 1 + (i - (k + 1)) = i := by omega
   have hm := lvN_mem (ps := (ps.drop (k + 1)).map vv4) (ns := (cs.drop (k + 1)).map ndC) (i := i - (k + 1)) (p := vv4 ps[i]) (n := ndC cs[i]) (by rw [List.getElem?_map, List.getElem?_drop, e3, List.getElem?_eq_getElem hi]; rfl) (by rw [List.getElem?_map, List.getElem?_drop, e3, List.getElem?_eq_getElem hci]; rfl)
   rw [e1, e2]
   exact ⟨List.mem_append_right _ hm.1, List.mem_append_right _ hm.2⟩
 have hy : ((ps.getD k default).2.2.1, (cs.getD k default).r) ∈ (lvC (ps.take k) (cs.take k) ++ [((ps.getD k default).2.2.1, (cs.getD k default).r)]) ++ lvC (ps.drop (k + 1)) (cs.drop (k + 1)) :=
  List.mem_append_left _ (List.mem_append_right _ List.mem_cons_self)
 refine ⟨GLv G w _, ps, _, _, rfl, rfl, GLv.le, GLv.pins hP, h1, h2.moreL hav, hou.moreL hau, fun j hj => ⟨(h2.lt j hj).1, h3 j hj⟩, fun j hj => ⟨(hou.lt j hj).1, h4.hi _ hmu j hj⟩, h5 _ hmu, hS.read hy, fun i hi => ?_, fun i hi hne => hS.read (hin i hi hne).2, fun b o x hx => GLv.new hS hx⟩
 by_cases hik : i = k
 ·subst hik; exact hS.read hy
 ·exact hS.read (hin i hi hik).1
end
def newR (u : Value) (p : C4) : C4 := (p.1, p.2.1, u, p.2.2.2)
section
variable {P : Program} {ρ : Operand → Value} {w : World} {K : Value → World → Prop} {d : Option Nat} {t ty e : Nat} {pos : String} {aft : Array Edge} {g : Option (Nat × Bool)} {x y : Operand} {G : Pin} {v : Value}
variable {base : Nat} {xs : List C4} {z : Int} {q : Value}
theorem run_setV (ho : q.oneCell' = true) (hs : (P.info? t).map (·.size) = some 1) (hx : ρ x = eptr v z 4 2) (hy : ρ y = q) (hP : Pins G w) (hv : Own eCl4 e G w base v xs) (h0 : 0 ≤ z) (h1 : z < xs.length) :
  ∃ w', (execOp ρ ⟨d, .store t x y, ty, pos, aft, g⟩).run P w = .ok .skip w' ∧ Own eCl4 e G w' base v (xs.set z.toNat (newR q (xs.getD z.toNat default))) ∧ Pins G w' ∧ w.grownBy w' v.ownBlock ∧ w'.heap.size = w.heap.size := by
 have hz : z.toNat < xs.length := by omega
 obtain ⟨cells, hown, hr⟩ := hv.ex
 have hx1 : xs[z.toNat] = xs.getD z.toNat default := by simp [List.getD, hz]
 have hel0 := hr z.toNat _ (List.getElem?_eq_getElem hz)
 rw [hx1] at hel0
 obtain ⟨gb, w', hb, hp, hrun, a1, a2, a3, a4⟩ := hv.setAt (P := P) h0 h1 (q := newR q (xs.getD z.toNat default)) (cs := [Value.int .i64 (xs.getD z.toNat default).1, Value.int .i64 (xs.getD z.toNat default).2.1, q, (xs.getD z.toNat default).2.2.2])
  ⟨rfl, ho, hel0.2.2⟩ hP
 rcases hown.2 with ⟨rfl, hl0⟩ | ⟨g', cap, cur, rfl, hbg, hg, hnc, hcm, hcs, htake⟩
 ·omega
 ·have hgb : gb = g' := by simpa [Value.ownBlock] using hb.symm
  subst hgb
  have e2 : eCl4.size = 4 := rfl
  rw [e2] at hrun hcs htake hr hp
  have hle1 : z.toNat * 4 + 4 ≤ cur.size := by omega
  have hel := hel0.1
  rw [e2, ← htake] at hel
  have ho2 := hel0.2.2
  have hc : ∀ k u, ([Value.int .i64 (xs.getD z.toNat default).1, .int .i64 (xs.getD z.toNat default).2.1, (xs.getD z.toNat default).2.2.1, (xs.getD z.toNat default).2.2.2] : List Value)[k]? = some u → cur.toList[z.toNat * 4 + k]? = some u := fun k u hu => by
   have hk : k < 4 := by have := (List.getElem?_eq_some_iff.1 hu).1; simpa using this
   have h3 : ((((cur.toList.take (xs.length * 4)).drop (z.toNat * 4)).take 4)[k]?) = some u := by rw [show ((cur.toList.take (xs.length * 4)).drop (z.toNat * 4)).take 4 = _ from hel]; exact hu
   rw [List.getElem?_take, if_pos hk, List.getElem?_drop, List.getElem?_take, if_pos (by omega)] at h3
   exact h3
  have c0 := hc 0 _ rfl
  have c1 := hc 1 _ rfl
  have c2 := hc 2 _ rfl
  have c3 := hc 3 _ rfl
  rw [Nat.add_zero] at c0
  have r1 := run_storeCells_at P gb (z.toNat * 4) e [.int .i64 (xs.getD z.toNat default).1, .int .i64 (xs.getD z.toNat default).2.1, q, (xs.getD z.toNat default).2.2.2] 0 cur w hg (by simpa using hle1)
   (by
    intro u hu
    rcases List.mem_cons.1 hu with rfl | hu
    ·rfl
    rcases List.mem_cons.1 hu with rfl | hu
    ·rfl
    rcases List.mem_cons.1 hu with rfl | hu
    ·exact ho
    rcases List.mem_cons.1 hu with rfl | hu
    ·exact ho2
    ·cases hu)
  have r2 := run_storeCells_at P gb (z.toNat * 4 + 2) e [q] 0 cur w hg (by simp; omega) (by intro u hu; simp at hu; subst hu; exact ho)
  simp only [Nat.add_zero] at r1 r2
  have hw : w' = w.setRow gb (cur.toList.take (z.toNat * 4 + 2) ++ [q] ++ cur.toList.drop (z.toNat * 4 + 2 + [q].length)).toArray := by
   rw [hrun] at r1
   have hw1 := (Result.ok.inj r1).2
   rw [hw1]
   congr 2
   have hd0 : cur.toList.drop (z.toNat * 4) = .int .i64 (xs.getD z.toNat default).1 :: .int .i64 (xs.getD z.toNat default).2.1 :: (xs.getD z.toNat default).2.2.1 :: (xs.getD z.toNat default).2.2.2 :: cur.toList.drop (z.toNat * 4 + 4) := by
    obtain ⟨h5, h6⟩ := List.getElem?_eq_some_iff.1 c0
    obtain ⟨h7, h8⟩ := List.getElem?_eq_some_iff.1 c1
    obtain ⟨h9, h10⟩ := List.getElem?_eq_some_iff.1 c2
    obtain ⟨h11, h12⟩ := List.getElem?_eq_some_iff.1 c3
    rw [List.drop_eq_getElem_cons h5, List.drop_eq_getElem_cons h7, List.drop_eq_getElem_cons h9, List.drop_eq_getElem_cons h11, h6, h8, h10, h12]
   have h2 : cur.toList.drop (z.toNat * 4 + 3) = (xs.getD z.toNat default).2.2.2 :: cur.toList.drop (z.toNat * 4 + 4) := by
    have := congrArg (List.drop 3) hd0
    rw [List.drop_drop] at this
    simpa using this
   have h3 : cur.toList.take (z.toNat * 4 + 2) = cur.toList.take (z.toNat * 4) ++ [.int .i64 (xs.getD z.toNat default).1, .int .i64 (xs.getD z.toNat default).2.1] := by
    rw [show z.toNat * 4 + 2 = (z.toNat * 4 + 1) + 1 from rfl, List.take_add_one, c1, List.take_add_one, c0]; simp
   simp [h2, h3]
  have hpt : eptr (.slice (some ⟨gb, 0, none⟩) xs.length cap) z 4 2 = .pointer (some ⟨gb, z.toNat * 4 + 2, none⟩) := by
   clear hx hrun r1 r2 hw hr hc hel hp a1 hv hown hel0 ho2
   simp only [eptr, Addr.add]; split <;> simp_all
  rw [hpt] at hx
  refine ⟨w', ?_, a1, a2, a3, a4⟩
  have hce : q.cells = #[q] := by cases q <;> simp_all [Value.oneCell', Value.cells]
  have hlv : (storeVar t ⟨gb, z.toNat * 4 + 2, none⟩ q).run P w = .ok () w' := by
   unfold storeVar
   simp only [Sem.run_bind, qA hs, Result.andThen_ok]
   have : q.cells.size = 1 := by rw [hce]; rfl
   simp only [this, ne_eq, not_true_eq_false, if_false]
   have hc2 : q.cells.toList = [q] := by rw [hce]
   rw [hc2, r2, hw]
  simp only [execOp, hx, hy, Instr.storeAt, Instr.sureAddr, Sem.run_bind, Sem.run_pure, Result.andThen_ok, hlv]
theorem o_setV (ho : q.oneCell' = true) (hs : (P.info? t).map (·.size) = some 1) (hx : ρ x = eptr v z 4 2) (hy : ρ y = q) (hP : Pins G w) (hv : Own eCl4 e G w base v xs) (h0 : 0 ≤ z) (h1 : z < xs.length)
  (h : ∀ w', Own eCl4 e G w' base v (xs.set z.toNat (newR q (xs.getD z.toNat default))) → Pins G w' → w.grownBy w' v.ownBlock → w'.heap.size = w.heap.size → K undef w') :
  EO P ρ ⟨d, .store t x y, ty, pos, aft, g⟩ w K := by
 obtain ⟨w', h2, h3, h4, h5, h6⟩ := run_setV (d := d) (ty := ty) (pos := pos) (aft := aft) (g := g) ho hs hx hy hP hv h0 h1
 exact EO.skip h2 (h w' h3 h4 h5 h6)
end
variable {b : Nat}
theorem set_at {ps : List C4} {k i : Nat} {q : C4} (hk : k < ps.length) : (ps.set k q).getD i default = if i = k then q else ps.getD i default := by
 by_cases h : i = k
 ·subst h; simp [List.getD, hk]
 ·rw [if_neg h]; simp only [List.getD, List.getElem?_set_ne (fun e => h e.symm)]
theorem BxL.nil {G : Pin} {w : World} : BxL G w [] := fun _ hp => (List.not_mem_nil hp).elim
theorem BxL.cons {G : Pin} {w : World} {cs : List Value} {bs : List (Nat × List Value)} (h : Bx G w b cs) (h2 : BxL G w bs) : BxL G w ((b, cs) :: bs) := fun p hp => by
 rcases List.mem_cons.1 hp with rfl | hp
 ·exact h
 ·exact h2 p hp
theorem NotB.nil {x : Option Nat} : NotB [] x := fun _ hp => (List.not_mem_nil hp).elim
theorem NotB.cons {cs : List Value} {bs : List (Nat × List Value)} {x : Option Nat} (h : Apart (some b) x) (h2 : NotB bs x) : NotB ((b, cs) :: bs) x := fun p hp => by
 rcases List.mem_cons.1 hp with rfl | hp
 ·exact h
 ·exact h2 p hp
theorem rng_nil {lo hi : Nat} : ∀ p ∈ ([] : List (Nat × List Value)), hi ≤ p.1 ∨ p.1 < lo := fun _ hp => (List.not_mem_nil hp).elim
theorem qU {lo hi : Nat} {cs : List Value} {bs : List (Nat × List Value)} (h : hi ≤ b ∨ b < lo) (h2 : ∀ p ∈ bs, hi ≤ p.1 ∨ p.1 < lo) : ∀ p ∈ (b, cs) :: bs, hi ≤ p.1 ∨ p.1 < lo := fun p hp => by
 rcases List.mem_cons.1 hp with rfl | hp
 ·exact h
 ·exact h2 p hp
end Go.GL
namespace Go.GL
open Go Go.RowKit Go.Lib
def splL (c : UInt8) : List UInt8 → List (List UInt8)
 | [] => [[]]
 | b :: l => if b = c then [] :: splL c l else match splL c l with
  | [] => [[b]]
  | x :: r => (b :: x) :: r
theorem mL (c : UInt8) : ∀ l, splL c l ≠ []
 | [] => by simp [splL]
 | b :: l => by
  unfold splL
  split
  ·simp
  ·split <;> simp
variable {G : Pin} {e : Nat}
theorem jP {b c : UInt8} (h : b ≠ c) {l x : List UInt8} {r : List (List UInt8)} (e : splL c l = x :: r) : splL c (b :: l) = (b :: x) :: r := by
 rw [splL, if_neg h, e]
theorem rQ (c : UInt8) : ∀ l : List UInt8, splitK [c] 0 (l.count c) l = splL c l
 | [] => rfl
 | b :: l => by
  have ih := rQ c l
  by_cases h : b = c
  ·subst h
   have e1 : (b :: l).count b = l.count b + 1 := List.count_cons_self
   have e2 : index (b :: l) [b] = 0 := by rw [index_one]; simp [indexByte]
   have e3 : splL b (b :: l) = [] :: splL b l := by rw [splL, if_pos rfl]
   rw [e1, splitK, e2, e3, ← ih]
   simp
  ·have e1 : (b :: l).count c = l.count c := List.count_cons_of_ne (fun e => h e)
   rw [e1]
   match hx : splL c l, mL c l with
   | x :: r, _ =>
    rw [jP h hx]
    rw [hx] at ih
    cases hn : l.count c with
    | zero =>
     rw [hn] at ih
     have ih' : [l] = x :: r := ih
     show [b :: l] = _
     obtain ⟨rfl, rfl⟩ := List.cons.inj ih'
     rfl
    | succ k =>
     rw [hn] at ih
     have hm : c ∈ l := List.count_pos_iff.1 (by omega)
     have hi : ∃ i : Nat, index l [c] = i := by
      rw [index_one]
      clear ih hx e1 hn h
      induction l with
      | nil => simp at hm
      | cons a l ih2 =>
       unfold indexByte
       by_cases ha : a = c
       ·exact ⟨0, by simp [ha]⟩
       ·obtain ⟨i, hi⟩ := ih2 (by simpa [Ne.symm ha] using hm)
        refine ⟨i + 1, ?_⟩
        simp [ha, hi]
     obtain ⟨i, hi⟩ := hi
     have hi2 : index (b :: l) [c] = ((i + 1 : Nat) : Int) := by
      rw [index, hi]
      have hp : [c].isPrefixOf (b :: l) = false := by simp [List.isPrefixOf, Ne.symm h]
      rw [hp]
      have : ¬ (((i : Int) == -1) = true) := by simp
      simp [this]
     rw [splitK, hi2] 
     rw [splitK, hi] at ih
     have n1 : ¬ ((((i + 1 : Nat) : Int) == -1) = true) := by simp; omega
     have n2 : ¬ (((i : Int) == -1) = true) := by simp
     rw [if_neg n1]
     rw [if_neg n2] at ih
     obtain ⟨a1, a2⟩ := List.cons.inj ih
     simp only [Int.toNat_natCast, Nat.add_zero, List.length_singleton] at a1 a2 ⊢
     rw [List.take_succ_cons, a1]
     congr 1
theorem vE (c : UInt8) (s : ByteArray) : (splitB ⟨#[c]⟩ 0 (countB s ⟨#[c]⟩) s).map (·.data.toList) = splL c s.data.toList := by
 have h := splitB_data ⟨#[c]⟩ 0 (countB s ⟨#[c]⟩) s
 rw [h]
 have e : countB s ⟨#[c]⟩ = s.data.toList.count c := by
  unfold countB
  exact count_one c _
 rw [e]
 exact rQ c _
theorem own_lit {α : Type} {E : Elt α} {w : World} {n : Nat} (cells : List Value) (ys : List α) (hP : Pins G w) (hn : n = ys.length) (hm : n ≤ 1000000000) (hl : cells.length = n * E.size) (hr : ∀ i y, ys[i]? = some y → E.rep G ((cells.drop (i * E.size)).take E.size) y) :
  Own E e G (w.alloc (.cells cells.toArray e)) w.heap.size (.slice (some ⟨w.heap.size, 0, none⟩) n n) ys ∧ Pins G (w.alloc (.cells cells.toArray e)) ∧ Below w.heap.size w (w.alloc (.cells cells.toArray e)) := by
 have hfree : ∀ k, Value.ownBlock (.slice (some ⟨w.heap.size, 0, none⟩) n n) = some k → ∀ o u, ¬ G k o u := by
  intro k hk o u hG
  simp [Value.ownBlock] at hk
  have := kE (hP _ _ _ hG); omega
 have hb : Below w.heap.size w (w.alloc (.cells cells.toArray e)) := (Below.refl _ _).alloc (Nat.le_refl _) _
 have ho := World.ownsRow_lit (base := w.heap.size) (e := e) (size := E.size) w cells.toArray n (Nat.le_refl _) (by unfold maxLen; omega) (by simpa using hl)
 exact ⟨⟨⟨cells, by rw [← hn]; simpa using ho, hr⟩, hfree⟩, hP.below hb, hb⟩
theorem own_strs {w : World} (xs : List ByteArray) (hP : Pins G w) (hm : xs.length ≤ 1000000000) :
  Own eStr e G (w.alloc (.cells (xs.map Value.string).toArray e)) w.heap.size (.slice (some ⟨w.heap.size, 0, none⟩) xs.length xs.length) xs ∧ Pins G (w.alloc (.cells (xs.map Value.string).toArray e)) ∧ Below w.heap.size w (w.alloc (.cells (xs.map Value.string).toArray e)) :=
 own_lit (E := eStr) (xs.map Value.string) xs hP rfl hm (by simp [eStr]) fun i y hy => by
  have hi := (List.getElem?_eq_some_iff.1 hy)
  obtain ⟨h1, h2⟩ := hi
  show ((xs.map Value.string).drop (i * 1)).take 1 = [Value.string y]
  rw [Nat.mul_one, List.drop_eq_getElem_cons (by simpa using h1)]
  simp [h2]
end Go.GL
namespace Go.GL
open Go Go.RowKit Go.Lib
theorem vM {a b : ByteArray} (h : a.data.toList = b.data.toList) : a = b := ByteArray.ext (Array.toList_inj.1 h)
theorem tB (a b : ByteArray) : (a ++ b).data.toList = a.data.toList ++ b.data.toList := by simp [ByteArray.data_append]
def numT (n : Int) : ByteArray := ⟨(Lib.itoa n).toArray⟩
def NumOk (n : Int) : Prop := 0 ≤ n ∧ n ≤ 999999
theorem qW {n : Int} (h : 0 ≤ n) : (numT n).data.toList = decDigits n.toNat := by
 unfold numT itoa
 rw [if_neg (by omega)]
theorem fT {k : Nat} (h : k < 256) : (UInt8.ofNat k).toNat = k := by
 rw [UInt8.toNat_ofNat']
 exact Nat.mod_eq_of_lt (by omega)
theorem jV (t : ByteArray) : t.data.toList.length = t.size := by rw [Array.length_toList]; rfl
theorem dec_dig (u : Nat) : ∀ c ∈ decDigits u, 48 ≤ c.toNat ∧ c.toNat ≤ 57 := fun c hc => by
 rw [decDigits] at hc
 split at hc
 ·rename_i h
  simp only [List.mem_singleton] at hc
  subst hc
  have e : (UInt8.ofNat (48 + u)).toNat = 48 + u := fT (by omega)
  omega
 ·rename_i h
  rcases List.mem_append.1 hc with h1 | h1
  ·exact dec_dig (u / 10) c h1
  ·simp only [List.mem_singleton] at h1
   subst h1
   have e : (UInt8.ofNat (48 + u % 10)).toNat = 48 + u % 10 := fT (by omega)
   omega
termination_by u
decreasing_by omega
theorem dec_size : ∀ (k u : Nat), u < 10 ^ (k + 1) → 1 ≤ (decDigits u).length ∧ (decDigits u).length ≤ k + 1
 | k, u => fun h => by
  rw [decDigits]
  split
  ·simp
  ·rename_i h10
   cases k with
   | zero => exact absurd h (by simpa using h10)
   | succ k =>
    have := dec_size k (u / 10) (by rw [Nat.pow_succ] at h; omega)
    simp only [List.length_append, List.length_singleton]
    omega
theorem mB : ∀ (a b : List UInt8) (acc : Nat), decFrom acc (a ++ b) = (decFrom acc a).bind fun m => decFrom m b
 | [], b, acc => rfl
 | x :: a, b, acc => by
  simp only [List.cons_append, decFrom]
  cases digitVal x with
  | none => rfl
  | some d => exact mB a b _
theorem digit_of {u : Nat} (h : u < 10) : digitVal (UInt8.ofNat (48 + u)) = some u := by
 have e : (UInt8.ofNat (48 + u)).toNat = 48 + u := fT (by omega)
 unfold digitVal
 rw [e, if_pos (by omega)]
 congr 1; omega
theorem pK (u : Nat) : decFrom 0 (decDigits u) = some u := by
 rw [decDigits]
 split
 ·rename_i h
  simp only [decFrom, digit_of h]
  congr 1; omega
 ·rename_i h
  rw [mB, pK (u / 10)]
  simp only [Option.bind_some, decFrom, digit_of (Nat.mod_lt u (by omega : 10 > 0))]
  congr 1; omega
termination_by u
decreasing_by omega
theorem qF {n : Int} (h : NumOk n) : 1 ≤ (numT n).size ∧ (numT n).size ≤ 6 := by
 have e : (numT n).size = (decDigits n.toNat).length := by rw [← qW h.1, jV]
 rw [e]
 exact dec_size 5 n.toNat (by have := h.1; have := h.2; omega)
theorem fB {n : Int} (h : 0 ≤ n) : ∀ c ∈ (numT n).data.toList, 48 ≤ c.toNat ∧ c.toNat ≤ 57 := by rw [qW h]; exact dec_dig _
theorem sQ {n : Int} (h : NumOk n) : Lib.atoi (numT n).data.toList = some n := by
 have h1 := fB h.1
 have h2 := qF h
 rw [qW h.1] at h1 ⊢
 have h3 := pK n.toNat
 match hd : decDigits n.toNat with
 | [] =>
  rw [hd] at h3
  have e : (numT n).size = (decDigits n.toNat).length := by rw [← qW h.1, jV]
  rw [hd] at e
  have e2 : (numT n).size = 0 := e
  omega
 | b :: r =>
  rw [hd] at h1 h3
  have hb := h1 b (by simp)
  have n1 : (b == 45) = false := by
   rw [beq_eq_false_iff_ne]; intro e; subst e; revert hb; decide
  have n2 : (b == 43) = false := by
   rw [beq_eq_false_iff_ne]; intro e; subst e; revert hb; decide
  show (if (b == 45) = true then _ else if (b == 43) = true then _ else (decNat (b :: r)).map fun (m : Nat) => (m : Int)) = some n
  rw [n1, n2]
  simp only [Bool.false_eq_true, if_false]
  unfold decNat
  simp only [List.isEmpty_cons, Bool.false_eq_true, if_false, h3, Option.map_some]
  congr 1
  have := h.1
  omega
structure RdN (s : ByteArray) (n : Int) (ok : Bool) : Prop where
 all : ∀ m, NumOk m → numT m = s → n = m ∧ ok = true
 lo : -999999 ≤ n
 hi : n ≤ 999999
def joinC (c : UInt8) (xs : List ByteArray) : ByteArray := ⟨(Lib.join (xs.map (·.data.toList)) [c]).toArray⟩
theorem gV (c : UInt8) (xs : List ByteArray) : (joinC c xs).data.toList = Lib.join (xs.map (·.data.toList)) [c] := rfl
theorem vW (c : UInt8) : joinC c [] = ⟨#[]⟩ := by unfold joinC; rw [List.map_nil, Lib.join_nil]
theorem jZ (c : UInt8) (x : ByteArray) : joinC c [x] = x := by
 apply vM
 rw [gV]
 simp [Lib.join_one]
theorem jF (c : UInt8) (x y : ByteArray) (xs : List ByteArray) : (joinC c (x :: y :: xs)).data.toList = x.data.toList ++ c :: (joinC c (y :: xs)).data.toList := by
 rw [gV, gV]
 simp only [List.map_cons, Lib.join_cons, Lib.joinTail]
 simp
theorem gG (c : UInt8) : ∀ (xs : List ByteArray) (y : ByteArray), joinC c (xs ++ [y]) = (if 0 < xs.length then joinC c xs ++ (⟨#[c]⟩ : ByteArray) else joinC c xs) ++ y
 | [], y => by
  apply vM
  rw [List.nil_append, jZ]
  simp [vW, ByteArray.data_append]
 | [x], y => by
  apply vM
  rw [List.singleton_append, jF, jZ, jZ]
  simp [ByteArray.data_append]
 | x :: z :: xs, y => by
  have ih := gG c (z :: xs) y
  apply vM
  rw [List.cons_append, List.cons_append, jF, ← List.cons_append, ih]
  simp only [List.length_cons, Nat.zero_lt_succ, if_true, tB, jF, List.append_assoc, List.cons_append]
theorem pA (c : UInt8) (xs : List ByteArray) (y : ByteArray) : (joinC c (xs ++ [y])).size = (joinC c xs).size + (if 0 < xs.length then 1 else 0) + y.size := by
 rw [gG]
 split
 ·rw [ByteArray.size_append, ByteArray.size_append]; rfl
 ·rw [ByteArray.size_append]; rfl
theorem rC {c b : UInt8} : ∀ {xs : List ByteArray}, b ∈ (joinC c xs).data.toList → b = c ∨ ∃ x ∈ xs, b ∈ x.data.toList
 | [], h => by rw [vW] at h; simp at h
 | [x], h => by rw [jZ] at h; exact Or.inr ⟨x, by simp, h⟩
 | x :: y :: xs, h => by
  rw [jF] at h
  rcases List.mem_append.1 h with h1 | h1
  ·exact Or.inr ⟨x, by simp, h1⟩
  ·rcases List.mem_cons.1 h1 with h2 | h2
   ·exact Or.inl h2
   ·rcases rC (xs := y :: xs) h2 with h3 | ⟨z, hz, h3⟩
    ·exact Or.inl h3
    ·exact Or.inr ⟨z, by simp at hz ⊢; exact Or.inr hz, h3⟩
theorem sE {c : UInt8} : ∀ {x : List UInt8}, c ∉ x → splL c x = [x]
 | [], _ => rfl
 | b :: x, h => by
  have hb : b ≠ c := fun e => h (e ▸ List.mem_cons_self)
  exact jP hb (sE fun hx => h (List.mem_cons_of_mem _ hx))
theorem splL_app {c : UInt8} : ∀ {x t : List UInt8}, c ∉ x → splL c (x ++ c :: t) = x :: splL c t
 | [], t, _ => by rw [List.nil_append, splL, if_pos rfl]
 | b :: x, t, h => by
  have ih := splL_app (x := x) (t := t) fun hx => h (List.mem_cons_of_mem _ hx)
  have hb : b ≠ c := fun e => h (e ▸ List.mem_cons_self)
  exact jP hb ih
theorem sD {c : UInt8} : ∀ {xs : List ByteArray}, xs ≠ [] → (∀ x ∈ xs, c ∉ x.data.toList) → splL c (joinC c xs).data.toList = xs.map (·.data.toList)
 | [], h, _ => absurd rfl h
 | [x], _, h => by rw [jZ, sE (h x (by simp))]; rfl
 | x :: y :: xs, _, h => by
  rw [jF, splL_app (h x (by simp)), sD (xs := y :: xs) (by simp) fun z hz => h z (by simp at hz ⊢; exact Or.inr hz)]
  rfl
theorem fJ : ∀ {xs ys : List ByteArray}, xs.map (·.data.toList) = ys.map (·.data.toList) → xs = ys
 | [], [], _ => rfl
 | [], _ :: _, h => by simp at h
 | _ :: _, [], h => by simp at h
 | x :: xs, y :: ys, h => by
  simp only [List.map_cons, List.cons.injEq] at h
  rw [vM h.1, fJ h.2]
def partsB (c : UInt8) (s : ByteArray) : List ByteArray := splitB ⟨#[c]⟩ 0 (countB s ⟨#[c]⟩) s
theorem parts_join {c : UInt8} {xs : List ByteArray} {s : ByteArray} (h0 : xs ≠ []) (h : ∀ x ∈ xs, c ∉ x.data.toList) (e : joinC c xs = s) : partsB c s = xs := by
 subst e
 exact fJ ((vE c _).trans (sD h0 h))
theorem kA (c : UInt8) (s : ByteArray) : 1 ≤ (partsB c s).length := by
 have h := congrArg List.length (vE c s)
 rw [List.length_map] at h
 have h2 := mL c s.data.toList
 have h3 : (splL c s.data.toList).length ≠ 0 := fun e => h2 (List.eq_nil_of_length_eq_zero e)
 unfold partsB; omega
theorem splL_len (c : UInt8) : ∀ l : List UInt8, (splL c l).length ≤ l.length + 1
 | [] => by simp [splL]
 | b :: l => by
  have ih := splL_len c l
  unfold splL
  split
  ·simp only [List.length_cons]; omega
  ·split
   ·simp
   ·rename_i x r e
    rw [e] at ih
    simp only [List.length_cons] at ih ⊢; omega
theorem sC (c : UInt8) : ∀ l : List UInt8, ∀ x ∈ splL c l, x.length ≤ l.length
 | [], x, hx => by simp [splL] at hx; simp [hx]
 | b :: l, x, hx => by
  have ih := sC c l
  unfold splL at hx
  split at hx
  ·rcases List.mem_cons.1 hx with h | h
   ·simp [h]
   ·have := ih x h; simp only [List.length_cons]; omega
  ·split at hx
   ·simp only [List.mem_singleton] at hx; subst hx; simp
   ·rename_i y r e
    rcases List.mem_cons.1 hx with h | h
    ·have := ih y (by rw [e]; simp); subst h; simp only [List.length_cons]; omega
    ·have := ih x (by rw [e]; simp [h]); simp only [List.length_cons]; omega
theorem jG (c : UInt8) (s : ByteArray) : (partsB c s).length ≤ s.size + 1 := by
 have h := congrArg List.length (vE c s)
 rw [List.length_map] at h
 have h2 := splL_len c s.data.toList
 have e : s.data.toList.length = s.size := jV s
 unfold partsB; omega
theorem qG (c : UInt8) (s : ByteArray) : ∀ x ∈ partsB c s, x.size ≤ s.size := fun x hx => by
 have h2 := sC c s.data.toList x.data.toList (by rw [← vE]; exact List.mem_map_of_mem hx)
 rw [jV, jV] at h2; exact h2
end Go.GL
namespace Go.GL
open Go Go.RowKit Go.Lib
def NumsOk (l : List Int) : Prop := ∀ x ∈ l, NumOk x
def numsT (l : List Int) : ByteArray := joinC 44 (l.map numT)
structure ClOk (d : Cl) : Prop where
 a : NumOk d.a
 b : NumOk d.b
 r : NumsOk d.r
 l : NumsOk d.l
def headT (d : Cl) : ByteArray := numT d.a ++ (⟨#[32]⟩ : ByteArray) ++ numT d.b
def clT (d : Cl) : ByteArray := headT d ++ (⟨#[58]⟩ : ByteArray) ++ numsT d.r ++ (⟨#[58]⟩ : ByteArray) ++ numsT d.l
def prT (p : List Cl) : ByteArray := joinC 59 (p.map clT)
theorem one_list (c : UInt8) : (⟨#[c]⟩ : ByteArray).data.toList = [c] := rfl
theorem tK {n : Int} (h : NumOk n) {c : UInt8} (hc : c.toNat < 48 ∨ 57 < c.toNat) : c ∉ (numT n).data.toList := fun hm => by
 have := fB h.1 c hm; omega
theorem gD {l : List Int} (h : NumsOk l) {c : UInt8} (hm : c ∈ (numsT l).data.toList) : c = 44 ∨ 48 ≤ c.toNat ∧ c.toNat ≤ 57 := by
 rcases rC hm with h1 | ⟨x, hx, h1⟩
 ·exact Or.inl h1
 ·obtain ⟨n, hn, rfl⟩ := List.mem_map.1 hx
  exact Or.inr (fB (h n hn).1 c h1)
variable {m : List Int} {d : Cl} {p : List Cl} {k : Nat}
theorem nR {s : ByteArray} (h : NumsOk m) (h0 : m ≠ []) (e : numsT m = s) : partsB 44 s = m.map numT :=
 parts_join (by simpa using h0) (fun x hx => by obtain ⟨n, hn, rfl⟩ := List.mem_map.1 hx; exact tK (h n hn) (by decide)) e
theorem jR : ∀ {l : List Int}, NumsOk l → l.length ≤ (numsT l).size ∧ (numsT l).size ≤ 7 * l.length
 | l, h => by
  have key : ∀ n, n ≤ l.length → n ≤ (numsT (l.take n)).size ∧ (numsT (l.take n)).size ≤ 7 * n := by
   intro n
   induction n with
   | zero => intro _; rw [List.take_zero, show numsT [] = ⟨#[]⟩ from vW 44]; exact ⟨Nat.zero_le _, Nat.le_refl _⟩
   | succ n ih =>
    intro hn
    have h1 := ih (by omega)
    have h2 := qF (h (l[n]'(by omega)) (List.getElem_mem _))
    rw [List.take_succ_eq_append_getElem (by omega)]
    unfold numsT at h1 ⊢
    rw [List.map_append, List.map_cons, List.map_nil, pA]
    split <;> omega
  have := key l.length (Nat.le_refl _)
  rwa [List.take_length] at this
theorem nums_nil (h : NumsOk m) (e : (numsT m).size = 0) : m = [] := List.eq_nil_of_length_eq_zero (by have := (jR h).1; omega)
theorem numsT_nil : numsT [] = ⟨#[]⟩ := vW 44
theorem rD (d : Cl) : (headT d).data.toList = (numT d.a).data.toList ++ 32 :: (numT d.b).data.toList := by
 unfold headT
 rw [tB, tB, one_list, List.append_assoc, List.singleton_append]
theorem head_join (d : Cl) : joinC 32 [numT d.a, numT d.b] = headT d := vM (by rw [jF, jZ, rD])
theorem pD (h : ClOk d) : partsB 32 (headT d) = [numT d.a, numT d.b] :=
 parts_join (by simp) (fun x hx => by
  rcases List.mem_cons.1 hx with rfl | hx
  ·exact tK h.a (by decide)
  ·rw [List.mem_singleton.1 hx]; exact tK h.b (by decide)) (head_join d)
theorem head_set (h : ClOk d) {c : UInt8} (hm : c ∈ (headT d).data.toList) : c = 32 ∨ 48 ≤ c.toNat ∧ c.toNat ≤ 57 := by
 rw [rD] at hm
 rcases List.mem_append.1 hm with h1 | h1
 ·exact Or.inr (fB h.a.1 c h1)
 ·rcases List.mem_cons.1 h1 with h2 | h2
  ·exact Or.inl h2
  ·exact Or.inr (fB h.b.1 c h2)
theorem cl_join (d : Cl) : joinC 58 [headT d, numsT d.r, numsT d.l] = clT d := vM (by
 rw [jF, jF, jZ]
 unfold clT
 simp only [tB, List.append_assoc, List.cons_append, List.nil_append])
theorem cl_parts {s : ByteArray} (h : ClOk d) (e : clT d = s) : partsB 58 s = [headT d, numsT d.r, numsT d.l] :=
 parts_join (by simp) (fun x hx => by
  rcases List.mem_cons.1 hx with rfl | hx
  ·intro hm; rcases head_set h hm with h1 | h1
   ·revert h1; decide
   ·revert h1; decide
  rcases List.mem_cons.1 hx with rfl | hx
  ·intro hm; rcases gD h.r hm with h1 | h1
   ·revert h1; decide
   ·revert h1; decide
  ·rw [List.mem_singleton.1 hx]; intro hm; rcases gD h.l hm with h1 | h1
   ·revert h1; decide
   ·revert h1; decide) ((cl_join d).trans e)
theorem cl_set (h : ClOk d) {c : UInt8} (hm : c ∈ (clT d).data.toList) : c = 32 ∨ c = 44 ∨ c = 58 ∨ 48 ≤ c.toNat ∧ c.toNat ≤ 57 := by
 rw [← cl_join] at hm
 rcases rC hm with h1 | ⟨x, hx, h1⟩
 ·exact Or.inr (Or.inr (Or.inl h1))
 ·rcases List.mem_cons.1 hx with rfl | hx
  ·exact (head_set h h1).imp id fun a => Or.inr (Or.inr a)
  rcases List.mem_cons.1 hx with rfl | hx
  ·exact Or.inr ((gD h.r h1).imp id fun a => Or.inr a)
  ·rw [List.mem_singleton.1 hx] at h1; exact Or.inr ((gD h.l h1).imp id fun a => Or.inr a)
theorem pr_parts {s : ByteArray} (h : ∀ d ∈ p, ClOk d) (h0 : p ≠ []) (e : prT p = s) : partsB 59 s = p.map clT :=
 parts_join (by simpa using h0) (fun x hx => by
  obtain ⟨d, hd, rfl⟩ := List.mem_map.1 hx
  intro hm
  rcases cl_set (h d hd) hm with h1 | h1 | h1 | h1
  ·revert h1; decide
  ·revert h1; decide
  ·revert h1; decide
  ·revert h1; decide) e
theorem vT (h : ClOk d) : 4 ≤ (clT d).size ∧ d.r.length ≤ (clT d).size ∧ d.l.length ≤ (clT d).size ∧ (clT d).size ≤ 16 + 7 * (d.r.length + d.l.length) := by
 have h1 := qF h.a
 have h2 := qF h.b
 have h3 := jR h.r
 have h4 := jR h.l
 have e : (clT d).size = (numT d.a).size + 1 + (numT d.b).size + 1 + (numsT d.r).size + 1 + (numsT d.l).size := by
  unfold clT headT
  simp only [ByteArray.size_append]; rfl
 omega
theorem prT_nil : prT [] = ⟨#[]⟩ := vW 59
theorem mR (h : k < p.length) : prT (p.take (k + 1)) = (if 0 < k then prT (p.take k) ++ (⟨#[59]⟩ : ByteArray) else prT (p.take k)) ++ clT (p.getD k default) := by
 have e : p.getD k default = p[k] := by simp [List.getD, h]
 rw [e]
 unfold prT
 rw [List.take_succ_eq_append_getElem h, List.map_append, List.map_cons, List.map_nil, gG, List.length_map, List.length_take, Nat.min_eq_left (by omega)]
theorem sN {l : List Int} (h : k < l.length) : numsT (l.take (k + 1)) = (if 0 < k then numsT (l.take k) ++ (⟨#[44]⟩ : ByteArray) else numsT (l.take k)) ++ numT (l.getD k 0) := by
 have e : l.getD k 0 = l[k] := by simp [List.getD, h]
 rw [e]
 unfold numsT
 rw [List.take_succ_eq_append_getElem h, List.map_append, List.map_cons, List.map_nil, gG, List.length_map, List.length_take, Nat.min_eq_left (by omega)]
def szW (p : List Cl) : Nat → Nat
 | 0 => 0
 | k + 1 => szW p k + ((clT (p.getD k default)).size + 1)
theorem pr_sz {p : List Cl} : ∀ {k : Nat}, k ≤ p.length → (prT (p.take k)).size + (if 0 < k then 1 else 0) = szW p k
 | 0, _ => by rw [List.take_zero, prT_nil]; rfl
 | k + 1, h => by
  have ih := pr_sz (p := p) (k := k) (by omega)
  rw [mR (by omega)]
  show _ = szW p k + _
  rw [← ih]
  simp only [ByteArray.size_append, Nat.zero_lt_succ, if_true]
  split
  ·rw [ByteArray.size_append]; show _ + 1 + _ + 1 = _; omega
  ·omega
theorem sz_mono (p : List Cl) {n : Nat} (h : k ≤ n) : szW p k ≤ szW p n := by
  induction n with
  | zero => have : k = 0 := by omega
            subst this; exact Nat.le_refl _
  | succ n ih =>
    rcases Nat.lt_or_ge k (n + 1) with h1 | h1
    · exact Nat.le_trans (ih (by omega)) (Nat.le_add_right _ _)
    · have : k = n + 1 := by omega
      subst this; exact Nat.le_refl _
theorem pr_mono (h : k ≤ p.length) : (prT (p.take k)).size ≤ (prT p).size := by
 have h1 := pr_sz (p := p) h
 have h2 := pr_sz (p := p) (Nat.le_refl _)
 have h3 := sz_mono p h
 rw [List.take_length] at h2
 rcases Nat.eq_zero_or_pos k with rfl | hk
 ·rw [List.take_zero, prT_nil]; exact Nat.zero_le _
 ·rw [if_pos hk] at h1
  rw [if_pos (by omega)] at h2
  omega
theorem gQ (h : k < p.length) : (clT (p.getD k default)).size ≤ (prT p).size := by
 have h1 := pr_mono (p := p) (k := k + 1) (by omega)
 rw [mR h, ByteArray.size_append] at h1
 omega
structure ShapeP (p : List Cl) : Prop where
 len : p.length ≤ 200
 r : ∀ k, k < p.length → ∀ j, j < (p.getD k default).r.length → 0 ≤ (p.getD k default).r.getD j 0 ∧ (p.getD k default).r.getD j 0 < (k : Int)
 l : ∀ k, k < p.length → ∀ j, j < (p.getD k default).l.length → 0 ≤ (p.getD k default).l.getD j 0 ∧ (p.getD k default).l.getD j 0 < (k : Int)
def AbOk (d : Cl) : Prop := (0 ≤ d.a ∧ d.a < 120) ∧ (0 ≤ d.b ∧ d.b < 120)
structure Told (p : List Cl) : Prop where
 shape : ShapeP p
 ab : ∀ k, k < p.length → AbOk (p.getD k default)
 size : (prT p).size ≤ 4000
theorem nums_of {l : List Int} {m : Int} (hm : m ≤ 999999) (h : ∀ j, j < l.length → 0 ≤ l.getD j 0 ∧ l.getD j 0 < m) : NumsOk l := fun x hx => by
 obtain ⟨i, hi, rfl⟩ := List.getElem_of_mem hx
 have := h i hi
 have e : l.getD i 0 = l[i] := by simp [List.getD, hi]
 rw [e] at this
 exact ⟨this.1, by omega⟩
theorem ShapeP.ok (h : ShapeP p) (hk : k < p.length) (hab : AbOk (p.getD k default)) : ClOk (p.getD k default) := by
 have hl := h.len
 have hk2 : ((k : Nat) : Int) ≤ 999999 := by omega
 exact ⟨⟨hab.1.1, by have := hab.1.2; omega⟩, ⟨hab.2.1, by have := hab.2.2; omega⟩, nums_of hk2 (h.r k hk), nums_of hk2 (h.l k hk)⟩
theorem Told.ok (h : Told p) : ∀ d ∈ p, ClOk d := fun d hd => by
 obtain ⟨k, hk, rfl⟩ := List.getElem_of_mem hd
 have e : p.getD k default = p[k] := by simp [List.getD, hk]
 have := h.shape.ok hk (h.ab k hk)
 rwa [e] at this
noncomputable def tdB (p : List Cl) : Bool := decP (Told p)
noncomputable def txF (p : List Cl) : ByteArray := if tdB p = true then prT p else ⟨#[]⟩
theorem fW (h : tdB p = true) : txF p = prT p := by unfold txF; rw [if_pos h]
theorem kS (h : tdB p = false) : txF p = ⟨#[]⟩ := by unfold txF; rw [h]; rfl
structure RdL (s : ByteArray) (l : List Int) (ok : Bool) : Prop where
 all : ∀ m, NumsOk m → numsT m = s → l = m ∧ ok = true
 len : l.length ≤ s.size + 1
structure RdC (s : ByteArray) (d : Cl) (ok : Bool) : Prop where
 all : ∀ m, ClOk m → clT m = s → d = m ∧ ok = true
 lr : d.r.length ≤ s.size + 1
 ll : d.l.length ≤ s.size + 1
structure RdP (s : ByteArray) (q : List Cl) (ok : Bool) : Prop where
 all : ∀ m, Told m → prT m = s → q = m ∧ ok = true
 yes : ok = true → Told q ∧ prT q = s
 no : ok = false → q = []
theorem RdP.same {s : ByteArray} {q q' : List Cl} {ok ok' : Bool} (h : RdP s q ok) (h' : RdP s q' ok') : q = q' ∧ ok = ok' := by
 cases ok with
 | true =>
  obtain ⟨h1, h2⟩ := h.yes rfl
  obtain ⟨e1, e2⟩ := h'.all q h1 h2
  exact ⟨e1.symm, e2.symm⟩
 | false =>
  cases ok' with
  | true =>
   obtain ⟨h1, h2⟩ := h'.yes rfl
   have := (h.all q' h1 h2).2
   cases this
  | false => exact ⟨(h.no rfl).trans (h'.no rfl).symm, rfl⟩
end Go.GL
namespace Go.GL
open Go Go.RowKit Go.Lib
theorem mF (w : World) (k : Nat) (os : Array Obj) : Below w.heap.size w (Go.Sort.grow (w.drewN k) os) :=
 ⟨rfl, rfl, rfl, by unfold Go.Sort.grow World.drewN; simp, fun j hj => by
  show (w.heap ++ os)[j]? = w.heap[j]?
  rw [Array.getElem?_append_left hj]⟩
theorem mA (w : World) (n : Nat) : Below w.heap.size w (w.drewN n) := ⟨rfl, rfl, rfl, Nat.le_refl _, fun _ _ => rfl⟩
def erV (b : Bool) (t N : Nat) : Value := if b = true then .nilIface else .iface t (.pointer (some ⟨N, 0, none⟩))
variable {b h k j : Nat} {G G' : Pin} {ps : List Cl}
theorem r_neqE {P : Program} {ρ : Operand → Value} {w : World} {d : Option Nat} {t ty t' te N : Nat} {b : Bool} {pos : String} {aft : Array Edge} {g : Option (Nat × Bool)} {x : Operand} {ms : Array (String × TypeId)} (hu : P.underlying t = some (.interface ms)) (hx : ρ x = erV b te N) (hy : ρ (.const .nilIface) = .nilIface) :
  (execOp ρ ⟨d, .binOp .neq t x (.const .nilIface) t', ty, pos, aft, g⟩).run P w = .ok (.value (.bool (!b))) w := by
 have hi : P.isIface t = true := by unfold Program.isIface; rw [hu]
 cases b with
 | true =>
  have hx' : ρ x = .nilIface := hx
  have h := run_neq_nil_nil_at (P := P) w t hi
  simp only [binOp] at h
  simp only [execOp, hx', hy, eqGuard, binOp]
  cases he : (Op.equal t .nilIface .nilIface).run P w with
  | ok b w' => simp [he] at h; simp [he, h.1, h.2]
  | halt a b => simp [he] at h
 | false =>
  have hx' : ρ x = .iface te (.pointer (some ⟨N, 0, none⟩)) := hx
  have h := run_neq_iface_nil (P := P) w t hi te (.pointer (some ⟨N, 0, none⟩))
  simp only [binOp] at h
  simp only [execOp, hx', hy, eqGuard, binOp]
  cases he : (Op.equal t (.iface te (.pointer (some ⟨N, 0, none⟩))) .nilIface).run P w with
  | ok b w' => simp [he] at h; simp [he, h.1, h.2]
  | halt a b => simp [he] at h
def ErG (b : Nat) (G : Pin) : Prop := ∃ te pe, G b 0 (.iface te pe)
theorem ErG.le (h : ErG b G) (hl : Pin.le G G') : ErG b G' := by obtain ⟨te, pe, h⟩ := h; exact ⟨te, pe, hl _ _ _ h⟩
def MxI (b : Nat) (G : Pin) : Prop := ∃ m, G b 0 (.int .i64 m)
theorem MxI.le (h : MxI b G) (hl : Pin.le G G') : MxI b G' := h.imp fun _ hm => hl _ _ _ hm
def LenB (ps : List Cl) : Prop := ∀ k, k < ps.length → (ps.getD k default).r.length ≤ 5000 ∧ (ps.getD k default).l.length ≤ 5000
theorem pick2_le {l r : List Int} (h1 : l.length ≤ 5000) (h2 : r.length ≤ 5000) : (pick2 h l r).length ≤ 5000 := by unfold pick2; split <;> assumption
def InK (k : Nat) (l : List Int) : Prop := ∀ j, j < l.length → 0 ≤ l.getD j 0 ∧ l.getD j 0 < (k : Int)
def RowIn (ps : List Cl) (k : Nat) : Prop := InK k (ps.getD k default).r ∧ InK k (ps.getD k default).l
theorem shape_of (hl : ps.length ≤ 200) (h : ∀ k, k < ps.length → RowIn ps k) : ShapeP ps := ⟨hl, fun k hk => (h k hk).1, fun k hk => (h k hk).2⟩
theorem ShapeP.pick (g : ShapeP ps) {s i : Nat} (hk : k < ps.length) (hi : i < (pick2 s (ps.getD k default).r (ps.getD k default).l).length) :
  0 ≤ (pick2 s (ps.getD k default).r (ps.getD k default).l).getD i 0 ∧ (pick2 s (ps.getD k default).r (ps.getD k default).l).getD i 0 < (k : Int) := by
 unfold pick2 at hi ⊢
 split at hi <;> rename_i hs
 ·rw [if_pos hs]; exact g.r k hk i hi
 ·rw [if_neg hs]; exact g.l k hk i hi
theorem row_next (h : ∀ j, j < k → RowIn ps j) (h2 : ∀ s, s < 2 → InK k (pick2 s (ps.getD k default).r (ps.getD k default).l)) : ∀ j, j < k + 1 → RowIn ps j := fun j hj => by
 by_cases e : j = k
 ·subst e; exact ⟨h2 0 (by omega), h2 1 (by omega)⟩
 ·exact h j (by omega)
theorem pick_next {r l : List Int} (hs : ∀ s, s < h → InK k (pick2 s r l)) (h2 : InK k (pick2 h r l)) : ∀ s, s < h + 1 → InK k (pick2 s r l) := fun s h1 => by
 by_cases e : s = h
 ·subst e; exact h2
 ·exact hs s (by omega)
theorem in_next {l : List Int} {q : Nat} (hs : ∀ j, j < q → 0 ≤ l.getD j 0 ∧ l.getD j 0 < (k : Int)) (h : 0 ≤ l.getD q 0 ∧ l.getD q 0 < (k : Int)) : ∀ j, j < q + 1 → 0 ≤ l.getD j 0 ∧ l.getD j 0 < (k : Int) := fun j h1 => by
 by_cases e : j = q
 ·subst e; exact h
 ·exact hs j (by omega)
theorem nums_at {l : List Int} (h : NumsOk l) (hj : j < l.length) : 0 ≤ l.getD j 0 ∧ l.getD j 0 ≤ 999999 := h _ (xE hj)
theorem fX {α : Type} {l : List α} {d : α} (h : j < l.length) : l.take (j + 1) = l.take j ++ [l.getD j d] := by
 have e : l.getD j d = l[j] := by simp [List.getD, h]
 rw [e, List.take_succ_eq_append_getElem h]
theorem words_next {α : Type} {l : List Int} {f : Int → α} (h : j < l.length) : (l.take (j + 1)).map f = (l.take j).map f ++ [f (l.getD j 0)] := by
 rw [fX (d := 0) h, List.map_append]; rfl
theorem cls_next {α : Type} {l : List Cl} {f : Cl → α} (h : j < l.length) : (l.take (j + 1)).map f = (l.take j).map f ++ [f (l.getD j default)] := by
 rw [fX (d := default) h, List.map_append]; rfl
end Go.GL
namespace Go.GL
theorem ab_next {ps : List Cl} {k : Nat} (h : ∀ j, j < k → AbOk (ps.getD j default)) (h2 : AbOk (ps.getD k default)) : ∀ j, j < k + 1 → AbOk (ps.getD j default) := fun j hj => by
 by_cases e : j = k
 ·subst e; exact h2
 ·exact h j (by omega)
end Go.GL
namespace Go.GL
theorem pr_le {ps : List Cl} (h : szW ps ps.length ≤ 4001) : (prT ps).size ≤ 4000 := by
 have h1 := pr_sz (p := ps) (Nat.le_refl _)
 rw [List.take_length] at h1
 rcases Nat.eq_zero_or_pos ps.length with h0 | h0
 ·have : ps = [] := List.eq_nil_of_length_eq_zero h0
  subst this
  rw [prT_nil]; exact Nat.zero_le _
 ·rw [if_pos h0] at h1; omega
end Go.GL
namespace Go.GL
open Go Go.RowKit Go.Lib
theorem dig_ext : ∀ k, k < 10 → (⟨#[48, 49, 50, 51, 52, 53, 54, 55, 56, 57]⟩ : ByteArray).extract k (k + 1) = ⟨#[UInt8.ofNat (48 + k)]⟩ := by decide
theorem sP {n : Int} (h : 0 ≤ n ∧ n < 10) : (⟨#[48, 49, 50, 51, 52, 53, 54, 55, 56, 57]⟩ : ByteArray).extract n.toNat (n + 1).toNat = numT n := by
 have e : (n + 1).toNat = n.toNat + 1 := by omega
 rw [e, dig_ext _ (by omega)]
 apply vM
 rw [qW h.1, decDigits_one (by omega)]
theorem numT_step {n : Int} (h : 10 ≤ n) : numT (n / 10) ++ (⟨#[48, 49, 50, 51, 52, 53, 54, 55, 56, 57]⟩ : ByteArray).extract (n % 10).toNat (n % 10 + 1).toNat = numT n := by
 rw [sP ⟨by omega, by omega⟩]
 apply vM
 rw [tB, qW (n := n / 10) (by omega), qW (n := n % 10) (by omega), qW (n := n) (by omega), decDigits_one (i := (n % 10).toNat) (by omega)]
 conv => rhs; rw [decDigits]
 rw [dif_neg (by omega), show (n / 10).toNat = n.toNat / 10 by omega, show (n % 10).toNat = n.toNat % 10 by omega]
theorem nS {n : Int} (h : n < 0) : (⟨#[45]⟩ : ByteArray) ++ numT (-n) = numT n := by
 apply vM
 rw [tB, qW (by omega)]
 unfold numT itoa
 rw [if_pos h, show (-n).toNat = n.natAbs by omega]
 rfl
end Go.GL
namespace Go.GL
open Go Go.RowKit Go.Lib
structure TxR (ps : List Cl) (z : ByteArray) : Prop where
 fit : (prT ps).size ≤ 4000 → z = prT ps
 big : 4000 < (prT ps).size → 4000 < z.size
 hi : z.size ≤ 80000
variable {ps : List Cl} {k : Nat} {z : ByteArray}
theorem tx_done (h : z = prT (ps.take k)) (hk : k = ps.length) (hz : z.size ≤ 80000) : TxR ps z := by
 rw [hk, List.take_length] at h
 exact ⟨fun _ => h, fun hb => by rw [h]; exact hb, hz⟩
theorem tx_cut (h : z = prT (ps.take k)) (hk : k ≤ ps.length) (hb : 4000 < z.size) (hz : z.size ≤ 80000) : TxR ps z := by
 have := pr_mono hk
 rw [← h] at this
 exact ⟨fun h1 => absurd h1 (by omega), fun _ => hb, hz⟩
theorem cl_assoc (o : ByteArray) (d : Cl) : ((((((o ++ numT d.a) ++ (⟨#[32]⟩ : ByteArray)) ++ numT d.b) ++ (⟨#[58]⟩ : ByteArray)) ++ numsT d.r) ++ (⟨#[58]⟩ : ByteArray)) ++ numsT d.l = o ++ clT d := by
 apply vM
 unfold clT headT
 simp only [tB, List.append_assoc]
theorem pr_stepA {o : ByteArray} (hk : k < ps.length) (h : o = prT (ps.take k)) (h0 : (0 : Int) < (k : Int)) : (((((((o ++ (⟨#[59]⟩ : ByteArray)) ++ numT (ps.getD k default).a) ++ (⟨#[32]⟩ : ByteArray)) ++ numT (ps.getD k default).b) ++ (⟨#[58]⟩ : ByteArray)) ++ numsT (ps.getD k default).r) ++ (⟨#[58]⟩ : ByteArray)) ++ numsT (ps.getD k default).l = prT (ps.take (k + 1)) := by
 rw [cl_assoc, mR hk, if_pos (by omega), h]
theorem pr_stepB {o : ByteArray} (hk : k < ps.length) (h : o = prT (ps.take k)) (h0 : ¬ (0 : Int) < (k : Int)) : ((((((o ++ numT (ps.getD k default).a) ++ (⟨#[32]⟩ : ByteArray)) ++ numT (ps.getD k default).b) ++ (⟨#[58]⟩ : ByteArray)) ++ numsT (ps.getD k default).r) ++ (⟨#[58]⟩ : ByteArray)) ++ numsT (ps.getD k default).l = prT (ps.take (k + 1)) := by
 rw [cl_assoc, mR hk, if_neg (by omega), h]
theorem nums_stepA {l : List Int} {o : ByteArray} (hk : k < l.length) (h : o = numsT (l.take k)) (h0 : (0 : Int) < (k : Int)) : (o ++ (⟨#[44]⟩ : ByteArray)) ++ numT (l.getD k 0) = numsT (l.take (k + 1)) := by
 rw [sN hk, if_pos (by omega), h]
theorem nums_stepB {l : List Int} {o : ByteArray} (hk : k < l.length) (h : o = numsT (l.take k)) (h0 : ¬ (0 : Int) < (k : Int)) : o ++ numT (l.getD k 0) = numsT (l.take (k + 1)) := by
 rw [sN hk, if_neg (by omega), h]
theorem nums_take {l : List Int} (h : NumsOk l) (hk : k ≤ l.length) : (numsT (l.take k)).size ≤ 7 * k := by
 have h1 : NumsOk (l.take k) := fun x hx => h x (List.mem_of_mem_take hx)
 have := (jR h1).2
 rw [List.length_take, Nat.min_eq_left hk] at this
 exact this
noncomputable def shB (ps : List Cl) : Bool := decP (ShapeP ps)
theorem sh_no (h : ¬ ShapeP ps) : shB ps = false := decP_false.2 h
theorem sh_done (h : ∀ j, j < k → RowIn ps j) (hk : ps.length ≤ k ∨ 200 < ps.length) : decide ((ps.length : Int) ≤ 200) = shB ps := by
 by_cases h1 : ps.length ≤ 200
 ·have : shB ps = true := decP_true.2 (shape_of h1 fun j hj => h j (by omega))
  rw [this]; simp; omega
 ·rw [sh_no fun g => h1 g.len]; simp; omega
theorem td_done (hs : shB ps = true) (hab : ∀ k, k < ps.length → AbOk (ps.getD k default)) (hz : TxR ps z) : decide ((z.size : Int) ≤ 4000) = tdB ps := by
 by_cases h1 : (prT ps).size ≤ 4000
 ·have : tdB ps = true := decP_true.2 ⟨decP_true.1 hs, hab, h1⟩
  rw [this, hz.fit h1]; simp; omega
 ·have : tdB ps = false := decP_false.2 fun g => h1 g.size
  have := hz.big (by omega)
  rw [‹tdB ps = false›]; simp; omega
theorem td_no (h : ¬ Told ps) : tdB ps = false := decP_false.2 h
theorem cls_ok (hs : shB ps = true) (hab : ∀ k, k < ps.length → AbOk (ps.getD k default)) : ∀ k, k < ps.length → ClOk (ps.getD k default) := fun k hk => (decP_true.1 hs).ok hk (hab k hk)
theorem nA (h : tdB ps = true) : ∀ k, k < ps.length → ClOk (ps.getD k default) := fun k hk => (decP_true.1 h).shape.ok hk ((decP_true.1 h).ab k hk)
theorem tE (h : tdB ps = true) (hz : TxR ps z) : z = txF ps := by rw [fW h]; exact hz.fit (decP_true.1 h).size
end Go.GL
namespace Go.GL
theorem in_rows {ps : List Cl} {k : Nat} (h : ∀ j, j < k → RowIn ps j) (h2 : RowIn ps k) : ∀ j, j < k + 1 → RowIn ps j := fun j hj => by
 by_cases e : j = k
 ·subst e; exact h2
 ·exact h j (by omega)
end Go.GL
namespace Go.GL
open Go Go.RowKit
def AbL (n m : Nat) (c : Cl) : Prop := (0 ≤ c.a ∧ c.a < (n : Int)) ∧ (0 ≤ c.b ∧ c.b < (m : Int))
theorem col_ab {asx bs L : List Nd} {M : List Cl} {x : Nat} (h : ∀ c ∈ M, AbL asx.length bs.length c) (hx : x < asx.length) : ∀ k, k ≤ bs.length → ∀ c ∈ colL asx bs M x k, AbL asx.length bs.length c
 | 0, _ => h
 | k + 1, hk => by
  have ih := col_ab (L := L) h hx k (by omega)
  show ∀ c ∈ nextL asx bs (colL asx bs M x k) x k, _
  unfold nextL
  split
  ·intro c hc
   rcases List.mem_append.1 hc with h1 | h1
   ·exact ih c h1
   ·rw [List.mem_singleton.1 h1]
    exact ⟨⟨Int.natCast_nonneg x, Int.ofNat_lt.2 hx⟩, ⟨Int.natCast_nonneg k, Int.ofNat_lt.2 hk⟩⟩
  ·exact ih
theorem row_ab {asx bs : List Nd} : ∀ x, x ≤ asx.length → ∀ c ∈ rowL asx bs x, AbL asx.length bs.length c
 | 0, _ => fun _ h => by cases h
 | x + 1, hx => col_ab (L := asx) (row_ab x (by omega)) (by omega) _ (Nat.le_refl _)
theorem cut_ab {L : List Cl} {nd : List Bool} {n m : Nat} (hn : 1 ≤ n) (hm : 1 ≤ m) (h : ∀ c ∈ L, AbL n m c) : ∀ j, ∀ c ∈ (cutN L nd j).2, AbL n m c
 | 0 => fun _ hc => by cases hc
 | j + 1 => by
  have ih := cut_ab (nd := nd) hn hm h j
  show ∀ c ∈ (cutStep L nd j (cutN L nd j)).2, _
  unfold cutStep
  split
  ·intro c hc
   rcases List.mem_append.1 hc with h1 | h1
   ·exact ih c h1
   ·rw [List.mem_singleton.1 h1]
    by_cases hj : j < L.length
    ·have := h _ (xE (d := default) hj)
     exact ⟨this.1, this.2⟩
    ·have e : L.getD j default = default := by simp [List.getD, List.getElem?_eq_none (show L.length ≤ j by omega)]
     show AbL n m ⟨(L.getD j default).a, (L.getD j default).b, _, _⟩
     rw [e]
     exact ⟨⟨Int.le_refl _, by show (0 : Int) < n; omega⟩, ⟨Int.le_refl _, by show (0 : Int) < m; omega⟩⟩
  ·exact ih
variable {v : Value}
theorem nums_mem {l : List Int} {m : Int} (hm : m ≤ 999999) (h : ∀ z ∈ l, 0 ≤ z ∧ z < m) : NumsOk l := fun x hx => ⟨(h x hx).1, by have := (h x hx).2; omega⟩
theorem gA (asx bs : List Nd) : ∀ k, k < (prfL asx bs).length → ClOk ((prfL asx bs).getD k default) := by
 by_cases hp : PrfP asx bs
 ·have e2 := (mQ hp).2
  have hw := (vG asx bs).wf
  have hu := (vG asx bs).hi
  rw [e2] at hw hu ⊢
  intro k hk
  have h1 := hp.ga.hi; have h2 := hp.gb.hi; have h3 := hp.ga.lo; have h4 := hp.gb.lo
  have ha := cut_ab (nd := needN (fullL asx bs) (fullL asx bs).length) h3 h4 (row_ab asx.length (Nat.le_refl _)) (fullL asx bs).length _ (xE (d := default) hk)
  have hb := ha.1; have hc := ha.2
  have h5 : (asx.length : Int) ≤ 120 := by omega
  have h6 : (bs.length : Int) ≤ 120 := by omega
  have hb2 := hb.2; have hc2 := hc.2
  exact ⟨⟨hb.1, Int.le_trans (Int.le_of_lt hb2) (by omega)⟩, ⟨hc.1, Int.le_trans (Int.le_of_lt hc2) (by omega)⟩, nums_mem (m := k) (by omega) fun z hz => hw k hk z (Or.inl hz), nums_mem (m := k) (by omega) fun z hz => hw k hk z (Or.inr hz)⟩
 ·intro k hk
  rw [(gP hp).2] at hk
  exact absurd hk (Nat.not_lt_zero k)
theorem SmC.lenb {cs : List Cl} (h : SmC cs) : LenB cs := fun k hk => by have := h.ln k hk; omega
theorem lenB_take {cs : List Cl} (h : LenB cs) (n : Nat) : LenB (cs.take n) := fun k hk => by
 rw [List.length_take] at hk
 have e : (cs.take n).getD k default = cs.getD k default := by simp [List.getD, show k < n by omega]
 rw [e]; exact h k (by omega)
theorem claimsB_of {G : Pin} {ps : List C4} (h : RSl eCl4 G v ps) (hr : ∀ i, i < ps.length → ∃ xs, xs.length ≤ 5000 ∧ RSl eInt G (ps.getD i default).2.2.1 xs) (hl : ∀ i, i < ps.length → ∃ xs, xs.length ≤ 5000 ∧ RSl eInt G (ps.getD i default).2.2.2 xs) : ∃ cs, RSl eClaim G v cs ∧ LenB cs := by
 classical
 refine ⟨(List.range ps.length).map fun i => ⟨(ps.getD i default).1, (ps.getD i default).2.1, if q : i < ps.length then (hr i q).choose else [], if q : i < ps.length then (hl i q).choose else []⟩, h.conv (by simp) rfl fun i p c cells hp hc hq => ?_, fun k hk => ?_⟩
 ·have hi : i < ps.length := (List.getElem?_eq_some_iff.1 hp).1
  have e1 : ps.getD i default = p := by simp [List.getD, hp]
  rw [List.getElem?_map, List.getElem?_range hi] at hc
  cases hc
  obtain ⟨rfl, _, _⟩ := hq
  have a := (hr i hi).choose_spec.2
  have b := (hl i hi).choose_spec.2
  simp only [dif_pos hi]
  subst e1
  exact ⟨_, _, rfl, a, b⟩
 ·have hk2 : k < ps.length := by simpa using hk
  have e : ((List.range ps.length).map fun i => (⟨(ps.getD i default).1, (ps.getD i default).2.1, if q : i < ps.length then (hr i q).choose else [], if q : i < ps.length then (hl i q).choose else []⟩ : Cl)).getD k default = ⟨(ps.getD k default).1, (ps.getD k default).2.1, (hr k hk2).choose, (hl k hk2).choose⟩ := by
   simp [List.getD, hk2]
  rw [e]
  exact ⟨(hr k hk2).choose_spec.1, (hl k hk2).choose_spec.1⟩
theorem kB {G1 G : Pin} {u : Value} {ps qs : List C4} {cs : List Cl} {ls : List Int} {k : Nat} (hpc : ps.length = cs.length) (hsm : SmC cs) (hle : Pin.le G1 G) (hu : u = (ps.getD k default).2.2.2) (hla : ∀ i, i < ps.length → i ≠ k → RSl eInt G1 (ps.getD i default).2.2.2 (cs.getD i default).l) (hul : RSl eInt G u ls) (hlu : ls.length ≤ 5000) (hq : qs.length = ps.length)
  (hv : ∀ i, i < ps.length → (∃ xs, xs.length ≤ 5000 ∧ RSl eInt G (qs.getD i default).2.2.1 xs) ∧ (qs.getD i default).2.2.2 = (ps.getD i default).2.2.2) (h : RSl eCl4 G v qs) : ∃ cs, RSl eClaim G v cs ∧ LenB cs :=
 claimsB_of h (fun i hi => (hv i (by omega)).1) fun i hi => by
  rw [(hv i (by omega)).2]
  by_cases e : i = k
  ·subst e; rw [← hu]; exact ⟨_, hlu, hul⟩
  ·exact ⟨_, (hsm.lenb i (by omega)).2, (hla i (by omega) e).mono hle⟩
section
variable {G1 G : Pin} {ps : List C4} {cs : List Cl} {k f : Nat}
theorem pJ (hpc : ps.length = cs.length) (hsm : SmC cs) (hle : Pin.le G1 G) (hra : ∀ i, i < ps.length → RSl eInt G1 (ps.getD i default).2.2.1 (cs.getD i default).r) : ∀ i, i < ps.length → (∃ xs, xs.length ≤ 5000 ∧ RSl eInt G (ps.getD i default).2.2.1 xs) ∧ (ps.getD i default).2.2.2 = (ps.getD i default).2.2.2 := fun i hi => ⟨⟨_, (hsm.lenb i (by omega)).1, (hra i hi).mono hle⟩, rfl⟩
theorem eD {q : Int} (hpc : ps.length = cs.length) (hsm : SmC cs) (hle : Pin.le G1 G) (hra : ∀ i, i < ps.length → RSl eInt G1 (ps.getD i default).2.2.1 (cs.getD i default).r) :
  ∀ i, i < ps.length → (∃ xs, xs.length ≤ 5000 ∧ RSl eInt G ((ps.set k (new4 f q (ps.getD k default))).getD i default).2.2.1 xs) ∧ ((ps.set k (new4 f q (ps.getD k default))).getD i default).2.2.2 = (ps.getD i default).2.2.2 := fun i hi => by
 have e := vv_at (set_vv (ys := ps) (j := k) (f := f) (q := q)) i
 exact ⟨⟨_, (hsm.lenb i (by omega)).1, by rw [e]; exact (hra i hi).mono hle⟩, by rw [e]⟩
theorem doneB_row {q : Value} {xs : List Int} (hx : xs.length ≤ 5000) (hpc : ps.length = cs.length) (hsm : SmC cs) (hk : k < ps.length) (hle : Pin.le G1 G) (hra : ∀ i, i < ps.length → RSl eInt G1 (ps.getD i default).2.2.1 (cs.getD i default).r) (hq : RSl eInt G q xs) :
  ∀ i, i < ps.length → (∃ xs, xs.length ≤ 5000 ∧ RSl eInt G ((ps.set k (newR q (ps.getD k default))).getD i default).2.2.1 xs) ∧ ((ps.set k (newR q (ps.getD k default))).getD i default).2.2.2 = (ps.getD i default).2.2.2 := fun i hi => by
 rw [set_at hk]
 by_cases e : i = k
 ·subst e; rw [if_pos rfl]; exact ⟨⟨_, hx, hq⟩, rfl⟩
 ·rw [if_neg e]; exact ⟨⟨_, (hsm.lenb i (by omega)).1, (hra i hi).mono hle⟩, rfl⟩
end
end Go.GL
namespace Go.GL
open Go Go.RowKit
def sB (s : ByteArray) (i : Nat) : UInt8 := s[i]?.getD 0
section
variable {P : Program} {ρ : Operand → Value} {w : World} {d : Option Nat} {t ty : Nat} {pos : String} {aft : Array Edge} {g : Option (Nat × Bool)} {x y : Operand}
variable {i j : Int} {p : ByteArray}
theorem vZ {k : IntKind} {s : ByteArray} (ht : P.underlying t = some .string) (hx : ρ x = .string s) (hy : ρ y = .int k i) (h0 : 0 ≤ i) (h1 : i < s.size) : (execOp ρ ⟨d, .index t x y, ty, pos, aft, g⟩).run P w = .ok (.value (.int .u8 ((sB s i.toNat).toNat : Int))) w := by
 have e : s[i.toNat]? = some (sB s i.toNat) := by
  unfold sB
  rw [getElem?_pos s i.toNat (by omega)]
  rfl
 simp [execOp, hx, hy, Instr.index, asIntOf, run_underlying ht, h0, e]
theorem tX (ht : P.underlying t = some .string) (hx : ρ x = .string p) (hy : ρ y = .int .i64 j) (h0 : 0 ≤ j) (h1 : j ≤ p.size) :
  (execOp ρ ⟨d, .slice t x (some y) none none, ty, pos, aft, g⟩).run P w = .ok (.value (.string (p.extract j.toNat p.size))) w := by
 have h := run_slice_string_l (P := P) w t p ht .i64 j h0 h1
 simp [execOp, hx, hy, Instr.sliceAt, run_underlying ht, h]
theorem nN {z : Operand} (ht : P.underlying t = some .string) (hx : ρ x = .string p) (hy : ρ y = .int .i64 i) (hz : ρ z = .int .i64 j) (h0 : 0 ≤ i) (h1 : i ≤ j) (h2 : j ≤ p.size) :
  (execOp ρ ⟨d, .slice t x (some y) (some z) none, ty, pos, aft, g⟩).run P w = .ok (.value (.string (p.extract i.toNat j.toNat))) w := by
 have h3 : 0 ≤ j := by omega
 have h4 : i ≤ (j.toNat : Int) := by omega
 have h : (Instr.slice t (.string p) (some (.int .i64 i)) (some (.int .i64 j)) none).run P w = .ok (.string (p.extract i.toNat j.toNat)) w := by
  have e1 := fun code => run_sliceBound (P := P) w .i64 i j.toNat code h0 h4
  simp [Instr.slice, run_underlying ht, Instr.sliceBounds, run_sliceBound, e1, h2, h3]
 simp [execOp, hx, hy, hz, Instr.sliceAt, run_underlying ht, h]
end
end Go.GL
namespace Go.GL
open Go Go.RowKit Go.Lib
def RngN (n : Int) : Prop := -999999 ≤ n ∧ n ≤ 999999
noncomputable def ntT (n : Int) : ByteArray := if decP (RngN n) = true then numT n else ⟨#[]⟩
theorem ntT_yes {n : Int} (h : -999999 ≤ n ∧ n ≤ 999999) : decP (RngN n) = true ∧ ntT n = numT n := by
 have : decP (RngN n) = true := decP_true.2 h
 exact ⟨this, by unfold ntT; rw [if_pos this]⟩
theorem ntT_no {n : Int} (h : ¬ (-999999 ≤ n ∧ n ≤ 999999)) : decP (RngN n) = false ∧ ntT n = ⟨#[]⟩ := by
 have : decP (RngN n) = false := decP_false.2 h
 exact ⟨this, by unfold ntT; rw [this]; rfl⟩
section
variable {s : ByteArray} {v : Int}
theorem rdn_long (h : 7 < s.size) : RdN s 0 false := ⟨fun m hm e => by have := (qF hm).2; rw [e] at this; omega, by omega, by omega⟩
theorem rdn_err (h : Lib.atoi s.data.toList = none) : RdN s 0 false := ⟨fun m hm e => (by have := sQ hm; rw [e, h] at this; cases this), by omega, by omega⟩
variable {m a b : Int} {j : Nat} {os : List Int} {d : Cl} {o1 o2 o3 o4 : Bool} {cs : List Cl}
theorem rdn_is (h : Lib.atoi s.data.toList = some v) (hm : NumOk m) (e : numT m = s) : v = m := by
 have := sQ hm
 rw [e, h] at this
 exact Option.some.inj this
theorem rdn_out (h : Lib.atoi s.data.toList = some v) (hr : decP (RngN v) = false) : RdN s 0 false :=
 ⟨fun m hm e => absurd (show RngN v by rw [rdn_is h hm e]; exact ⟨by have := hm.1; omega, hm.2⟩) (decP_false.1 hr), by omega, by omega⟩
theorem rdn_dif (h : Lib.atoi s.data.toList = some v) (hr : decP (RngN v) = true) (hd : ((ntT v).toList == s.toList) = false) : RdN s 0 false :=
 ⟨fun m hm e => by
  have e2 := rdn_is h hm e
  rw [(ntT_yes (decP_true.1 hr)).2, e2, e] at hd
  simp at hd, by omega, by omega⟩
theorem rdn_yes (h : Lib.atoi s.data.toList = some v) (hr : decP (RngN v) = true) : RdN s v true :=
 ⟨fun _ hm e => ⟨rdn_is h hm e, rfl⟩, (decP_true.1 hr).1, (decP_true.1 hr).2⟩
theorem RdN.no {n : Int} (h : RdN s n false) (hm : NumOk m) (e : numT m = s) : False := Bool.false_ne_true (h.all m hm e).2
structure LsI (s : ByteArray) (j : Nat) (os : List Int) : Prop where
 len : os.length = j
 all : ∀ m, NumsOk m → numsT m = s → os = m.take j
theorem lsI_zero : LsI s 0 [] := ⟨rfl, fun _ _ _ => by rw [List.take_zero]⟩
theorem sO {m : List Int} (hs : s.size ≠ 0) (e : numsT m = s) : m ≠ [] := fun h => by
 rw [h, numsT_nil] at e
 rw [← e] at hs
 exact hs rfl
theorem lsI_word {m : List Int} (hs : s.size ≠ 0) (hj : j < (partsB 44 s).length) (hm : NumsOk m) (e : numsT m = s) : j < m.length ∧ NumOk (m.getD j 0) ∧ numT (m.getD j 0) = (partsB 44 s).getD j ByteArray.empty := by
 have hp := nR hm (sO hs e) e
 rw [hp, List.length_map] at hj
 refine ⟨hj, nums_at hm hj, ?_⟩
 rw [hp]
 simp [List.getD, hj]
theorem lsI_next {n : Int} {ok : Bool} (hs : s.size ≠ 0) (h : LsI s j os) (hj : j < (partsB 44 s).length) (hr : RdN ((partsB 44 s).getD j ByteArray.empty) n ok) : LsI s (j + 1) (os ++ [n]) :=
 ⟨by rw [List.length_append, h.len]; rfl, fun m hm e => by
  obtain ⟨h1, h2, h3⟩ := lsI_word hs hj hm e
  rw [fX (d := 0) h1, ← h.all m hm e, (hr.all _ h2 h3).1]⟩
theorem lsI_fail {n : Int} (hs : s.size ≠ 0) (hj : j < (partsB 44 s).length) (hr : RdN ((partsB 44 s).getD j ByteArray.empty) n false) : RdL s [] false :=
 ⟨fun m hm e => by obtain ⟨h1, h2, h3⟩ := lsI_word hs hj hm e; exact (hr.no h2 h3).elim, Nat.zero_le _⟩
theorem lsI_done (hs : s.size ≠ 0) (h : LsI s j os) (hj : (partsB 44 s).length ≤ j) (hj2 : j ≤ (partsB 44 s).length) : RdL s os true :=
 ⟨fun m hm e => by
  have hp := congrArg List.length (nR hm (sO hs e) e)
  rw [List.length_map] at hp
  have := h.all m hm e
  rw [List.take_of_length_le (by omega)] at this
  exact ⟨this, rfl⟩, by have := jG 44 s; have := h.len; omega⟩
theorem rdl_nil (hs : s.size = 0) : RdL s [] true := ⟨fun m hm e => ⟨(nums_nil hm (by rw [e]; exact hs)).symm, rfl⟩, Nat.zero_le _⟩
theorem cut_app {c : UInt8} {x y : List UInt8} (h : c ∉ x) : Lib.cut (x ++ c :: y) [c] = (x, y, true) := by
 have hi : index (x ++ c :: y) [c] = (x.length : Int) := by
  rw [index_one]
  induction x with
  | nil => simp [indexByte]
  | cons b x ih =>
   have hb : (b == c) = false := by
    rw [beq_eq_false_iff_ne]; intro e; exact h (e ▸ List.mem_cons_self)
   have ih' := ih fun hx => h (List.mem_cons_of_mem _ hx)
   show (if b == c then 0 else if indexByte (x ++ c :: y) c == -1 then -1 else indexByte (x ++ c :: y) c + 1) = _
   rw [hb, ih']
   have : ((x.length : Int) == -1) = false := by rw [beq_eq_false_iff_ne]; omega
   rw [this]
   simp
 unfold Lib.cut
 rw [hi, if_pos (by omega)]
 simp
def cutA (c : UInt8) (s : ByteArray) : ByteArray := ⟨(Lib.cut s.data.toList [c]).1.toArray⟩
def cutZ (c : UInt8) (s : ByteArray) : ByteArray := ⟨(Lib.cut s.data.toList [c]).2.1.toArray⟩
def cutY (c : UInt8) (s : ByteArray) : Bool := (Lib.cut s.data.toList [c]).2.2
theorem head_cut (h : ClOk d) : cutA 32 (headT d) = numT d.a ∧ cutZ 32 (headT d) = numT d.b ∧ cutY 32 (headT d) = true := by
 have e := cut_app (c := 32) (y := (numT d.b).data.toList) (tK h.a (by decide))
 unfold cutA cutZ cutY
 rw [rD, e]
 exact ⟨rfl, rfl, rfl⟩
def fld (s : ByteArray) (k : Nat) : ByteArray := (partsB 58 s).getD k ByteArray.empty
theorem fld_of (h : ClOk d) (e : clT d = s) : (partsB 58 s).length = 3 ∧ fld s 0 = headT d ∧ fld s 1 = numsT d.r ∧ fld s 2 = numsT d.l := by
 have hp := cl_parts h e
 unfold fld
 rw [hp]
 exact ⟨rfl, rfl, rfl, rfl⟩
theorem jL {k : Nat} (hk : k < (partsB 58 s).length) : (fld s k).size ≤ s.size := qG 58 s _ (xE hk)
theorem rdc_len (h : (partsB 58 s).length ≠ 3) : RdC s ⟨0, 0, [], []⟩ false := ⟨fun _ hm e => absurd (fld_of hm e).1 h, Nat.zero_le _, Nat.zero_le _⟩
theorem rdc_any {r l : List Int} (h0 : 2 < (partsB 58 s).length) (h1 : RdN (cutA 32 (fld s 0)) a o1) (h2 : RdN (cutZ 32 (fld s 0)) b o2) (h3 : RdL (fld s 1) r o3) (h4 : RdL (fld s 2) l o4) :
  (∀ m, ClOk m → clT m = s → (⟨a, b, r, l⟩ : Cl) = m ∧ cutY 32 (fld s 0) = true ∧ o1 = true ∧ o2 = true ∧ o3 = true ∧ o4 = true) ∧ r.length ≤ s.size + 1 ∧ l.length ≤ s.size + 1 := by
 refine ⟨fun m hm e => ?_, ?_, ?_⟩
 ·obtain ⟨_, e0, e1, e2⟩ := fld_of hm e
  obtain ⟨c1, c2, c3⟩ := head_cut hm
  rw [e0] at h1 h2
  rw [e1] at h3
  rw [e2] at h4
  obtain ⟨a1, a2⟩ := h1.all m.a hm.a c1.symm
  obtain ⟨b1, b2⟩ := h2.all m.b hm.b c2.symm
  obtain ⟨r1, r2⟩ := h3.all m.r hm.r rfl
  obtain ⟨l1, l2⟩ := h4.all m.l hm.l rfl
  rw [e0]
  refine ⟨?_, c3, a2, b2, r2, l2⟩
  cases m
  simp only at a1 b1 r1 l1
  rw [a1, b1, r1, l1]
 ·have := h3.len; have := jL (s := s) (k := 1) (by omega); omega
 ·have := h4.len; have := jL (s := s) (k := 2) (by omega); omega
theorem rdc_yes {r l : List Int} (h0 : 2 < (partsB 58 s).length) (h1 : RdN (cutA 32 (fld s 0)) a o1) (h2 : RdN (cutZ 32 (fld s 0)) b o2) (h3 : RdL (fld s 1) r o3) (h4 : RdL (fld s 2) l o4) : RdC s ⟨a, b, r, l⟩ true := by
 obtain ⟨x, y, z⟩ := rdc_any h0 h1 h2 h3 h4
 exact ⟨fun m hm e => ⟨(x m hm e).1, rfl⟩, y, z⟩
theorem nK {r l : List Int} (h0 : 2 < (partsB 58 s).length) (h1 : RdN (cutA 32 (fld s 0)) a o1) (h2 : RdN (cutZ 32 (fld s 0)) b o2) (h3 : RdL (fld s 1) r o3) (h4 : RdL (fld s 2) l o4) (hn : ¬ (cutY 32 (fld s 0) = true ∧ o1 = true ∧ o2 = true ∧ o3 = true ∧ o4 = true)) : RdC s ⟨0, 0, [], []⟩ false :=
 ⟨fun m hm e => absurd ((rdc_any h0 h1 h2 h3 h4).1 m hm e).2 hn, Nat.zero_le _, Nat.zero_le _⟩
theorem RdC.no {m : Cl} (h : RdC s d false) (hm : ClOk m) (e : clT m = s) : False := Bool.false_ne_true (h.all m hm e).2
structure LcI (s : ByteArray) (j : Nat) (cs : List Cl) : Prop where
 len : cs.length = j
 all : ∀ m, (∀ d ∈ m, ClOk d) → prT m = s → cs = m.take j
 lb : LenB cs
theorem lcI_zero : LcI s 0 [] := ⟨rfl, fun _ _ _ => by rw [List.take_zero], fun k hk => absurd hk (Nat.not_lt_zero k)⟩
theorem prT_pos {m : List Cl} (hs : s.size ≠ 0) (e : prT m = s) : m ≠ [] := fun h => by
 rw [h, prT_nil] at e
 rw [← e] at hs
 exact hs rfl
theorem lcI_word {m : List Cl} (hs : s.size ≠ 0) (hj : j < (partsB 59 s).length) (hm : ∀ d ∈ m, ClOk d) (e : prT m = s) : j < m.length ∧ ClOk (m.getD j default) ∧ clT (m.getD j default) = (partsB 59 s).getD j ByteArray.empty := by
 have hp := pr_parts hm (prT_pos hs e) e
 rw [hp, List.length_map] at hj
 refine ⟨hj, hm _ (xE hj), ?_⟩
 rw [hp]
 simp [List.getD, hj]
theorem tL {ok : Bool} (hs : s.size ≠ 0) (hz : s.size ≤ 4000) (h : LcI s j cs) (hj : j < (partsB 59 s).length) (hr : RdC ((partsB 59 s).getD j ByteArray.empty) d ok) : LcI s (j + 1) (cs ++ [d]) :=
 ⟨by rw [List.length_append, h.len]; rfl, fun m hm e => by
  obtain ⟨h1, h2, h3⟩ := lcI_word hs hj hm e
  rw [fX (d := default) h1, ← h.all m hm e, (hr.all _ h2 h3).1], fun k hk => by
  have hw := qG 59 s _ (xE (d := ByteArray.empty) hj)
  have h1 := hr.lr
  have h2 := hr.ll
  rw [List.length_append, List.length_singleton] at hk
  by_cases hlt : k < cs.length
  ·have e : (cs ++ [d]).getD k default = cs.getD k default := by simp [List.getD, List.getElem?_append_left hlt]
   rw [e]; exact h.lb k hlt
  ·have e : (cs ++ [d]).getD k default = d := by
    have : k = cs.length := by omega
    subst this; simp [List.getD]
   rw [e]; omega⟩
theorem nV (hs : s.size ≠ 0) (hj : j < (partsB 59 s).length) (hr : RdC ((partsB 59 s).getD j ByteArray.empty) d false) : RdP s [] false :=
 ⟨fun m hm e => by obtain ⟨h1, h2, h3⟩ := lcI_word hs hj hm.ok e; exact (hr.no h2 h3).elim, fun h => (by cases h), fun _ => rfl⟩
def AllC (s : ByteArray) (cs : List Cl) : Prop := ∀ m, (∀ d ∈ m, ClOk d) → prT m = s → cs = m
theorem nW (hs : s.size ≠ 0) (h : LcI s j cs) (hj : (partsB 59 s).length ≤ j) : AllC s cs := fun m hm e => by
 have hp := congrArg List.length (pr_parts hm (prT_pos hs e) e)
 rw [List.length_map] at hp
 have := h.all m hm e
 rwa [List.take_of_length_le (by omega)] at this
theorem allC_nil (hs : s.size = 0) : AllC s [] := fun m hm e => by
 match m, hm, e with
 | [], _, _ => rfl
 | d :: m, hm, e =>
  have h1 := gQ (p := d :: m) (k := 0) (by simp)
  have h2 := (vT (hm d (by simp))).1
  rw [e] at h1
  have e3 : (d :: m).getD 0 default = d := rfl
  rw [e3] at h1
  omega
theorem rdp_long (h : 4000 < s.size) : RdP s [] false := ⟨fun m hm e => by have := hm.size; rw [e] at this; omega, fun h => (by cases h), fun _ => rfl⟩
theorem rdp_no (ha : AllC s cs) (h : tdB cs = false) : RdP s [] false :=
 ⟨fun m hm e => by have := ha m hm.ok e; subst this; exact absurd hm (decP_false.1 h), fun h => (by cases h), fun _ => rfl⟩
theorem mO (ha : AllC s cs) (h : tdB cs = true) (hd : ((txF cs).toList == s.toList) = false) : RdP s [] false :=
 ⟨fun m hm e => by have e2 := ha m hm.ok e; subst e2; rw [fW h, e] at hd; simp at hd, fun h => (by cases h), fun _ => rfl⟩
theorem ba_of_eq {a b : ByteArray} (h : (a.toList == b.toList) = true) : a = b := by
 have h2 := eq_of_beq h
 rw [ByteArray.toList_eq, ByteArray.toList_eq] at h2
 exact ByteArray.ext (Array.toList_inj.1 h2)
theorem mN (ha : AllC s cs) (h : tdB cs = true) (hd : ((txF cs).toList == s.toList) = true) : RdP s cs true := by
 have e := ba_of_eq hd
 rw [fW h] at e
 exact ⟨fun m hm e2 => ⟨ha m hm.ok e2, rfl⟩, fun _ => ⟨decP_true.1 h, e⟩, fun h => (by cases h)⟩
theorem fV (h : (s.toList == (⟨#[]⟩ : ByteArray).toList) = true) : s.size = 0 := by rw [ba_of_eq h]; rfl
theorem tS (h : (s.toList == (⟨#[]⟩ : ByteArray).toList) = false) : s.size ≠ 0 := fun h0 => by
 have : s = ⟨#[]⟩ := vM (List.eq_nil_of_length_eq_zero (by rw [jV]; exact h0))
 rw [this] at h; simp at h
end
end Go.GL
namespace Go.GL
open Go Go.RowKit Go.Lib
theorem mM (s : ByteArray) {i : Nat} (h : i < s.size) : s.data.toList[i]? = some (sB s i) := by
 have h2 : i < s.data.toList.length := by rw [jV]; exact h
 rw [List.getElem?_eq_getElem h2]
 unfold sB
 rw [getElem?_pos s i h]
 rfl
theorem pO (s : ByteArray) (a b : Nat) : (s.extract a b).data.toList = (s.data.toList.take b).drop a := by
 rw [ByteArray.data_extract, Array.toList_extract, List.extract_eq_take_drop, List.drop_take]
theorem nB {l : List UInt8} {i : Nat} {b : UInt8} (h : l[i]? = some b) : l.take (i + 1) = l.take i ++ [b] := by
 obtain ⟨h1, h2⟩ := List.getElem?_eq_some_iff.1 h
 rw [List.take_succ_eq_append_getElem h1, h2]
theorem kW {c b : UInt8} : ∀ {l : List UInt8} {A : List (List UInt8)} {z : List UInt8}, splL c l = A ++ [z] → splL c (l ++ [b]) = if b = c then A ++ [z] ++ [[]] else A ++ [z ++ [b]]
 | [], A, z, h => by
  have h1 : A = [] ∧ z = [] := by
   cases A with
   | nil => simp [splL] at h; exact ⟨rfl, h⟩
   | cons x A => simp [splL] at h
  obtain ⟨rfl, rfl⟩ := h1
  by_cases e : b = c
  ·rw [if_pos e, List.nil_append, splL, if_pos e]; rfl
  ·rw [if_neg e, List.nil_append, splL, if_neg e]; rfl
 | a :: l, A, z, h => by
  by_cases ha : a = c
  ·rw [splL, if_pos ha] at h
   cases A with
   | nil =>
    simp only [List.nil_append, List.cons.injEq] at h
    exact absurd h.2 (mL c l)
   | cons x A =>
    simp only [List.cons_append, List.cons.injEq] at h
    have ih := kW (b := b) h.2
    rw [List.cons_append, splL, if_pos ha, ih, h.1]
    split <;> simp
  ·match hx : splL c l, mL c l with
   | x :: r, _ =>
    rw [jP ha hx] at h
    cases A with
    | nil =>
     simp only [List.nil_append, List.cons.injEq] at h
     obtain ⟨h1, h2⟩ := h
     subst h2
     have ih := kW (b := b) (A := []) (z := x) hx
     rw [List.cons_append]
     by_cases e : b = c
     ·rw [if_pos e] at ih
      rw [jP ha ih, if_pos e, h1]; rfl
     ·rw [if_neg e] at ih
      rw [jP ha ih, if_neg e, ← h1]; rfl
    | cons y A =>
     simp only [List.cons_append, List.cons.injEq] at h
     obtain ⟨h1, h2⟩ := h
     have ih := kW (b := b) (A := x :: A) (z := z) (by rw [hx, h2]; rfl)
     rw [List.cons_append]
     by_cases e : b = c
     ·rw [if_pos e] at ih
      rw [jP ha ih, if_pos e, h1]; rfl
     ·rw [if_neg e] at ih
      rw [jP ha ih, if_neg e, h1]; rfl
structure SpI (s : ByteArray) (c : UInt8) (i f : Nat) (os : List ByteArray) : Prop where
 le : f ≤ i
 len : os.length ≤ i
 eq : splL c (s.data.toList.take i) = os.map (·.data.toList) ++ [(s.data.toList.take i).drop f]
section
variable {s : ByteArray} {c : UInt8} {i f : Nat} {os : List ByteArray}
theorem spI_zero : SpI s c 0 0 [] := ⟨Nat.le_refl _, Nat.le_refl _, by rw [List.take_zero]; rfl⟩
theorem spI_yes (h : SpI s c i f os) (hi : i < s.size) (hb : ((sB s i).toNat : Int) = (c.toNat : Int)) : SpI s c (i + 1) (i + 1) (os ++ [s.extract f i]) := by
 have hc : sB s i = c := UInt8.toNat_inj.1 (by omega)
 refine ⟨Nat.le_refl _, by rw [List.length_append]; have := h.len; simp only [List.length_singleton]; omega, ?_⟩
 have e := nB (mM s hi)
 have hd : (s.data.toList.take (i + 1)).drop (i + 1) = [] := List.drop_eq_nil_of_le (by rw [List.length_take]; omega)
 rw [hd, e, kW h.eq, if_pos hc, List.map_append, List.map_cons, List.map_nil, pO]
theorem spI_no (h : SpI s c i f os) (hi : i < s.size) (hb : ¬ ((sB s i).toNat : Int) = (c.toNat : Int)) : SpI s c (i + 1) f os := by
 have hc : ¬ sB s i = c := fun e => hb (by rw [e])
 have hl := h.le
 refine ⟨by omega, by have := h.len; omega, ?_⟩
 have e := nB (mM s hi)
 have hlen : f ≤ (s.data.toList.take i).length := by rw [List.length_take, jV]; omega
 rw [e, kW h.eq, if_neg hc, List.drop_append_of_le_length hlen]
theorem spI_done (h : SpI s c i f os) (hi : i = s.size) : os ++ [s.extract f s.size] = partsB c s := by
 subst hi
 have hs := h.eq
 have ht : s.data.toList.take s.size = s.data.toList := List.take_of_length_le (by rw [jV]; exact Nat.le_refl _)
 apply fJ
 have e2 : (partsB c s).map (·.data.toList) = splL c s.data.toList := vE c s
 rw [e2, List.map_append, List.map_cons, List.map_nil, pO, ← hs, ht]
end
def pw10 : Nat → Int
 | 0 => 1
 | k + 1 => 10 * pw10 k
theorem mP : ∀ {k : Nat}, k ≤ 6 → 1 ≤ pw10 k ∧ pw10 k ≤ 1000000 := by
 intro k hk
 have : k = 0 ∨ k = 1 ∨ k = 2 ∨ k = 3 ∨ k = 4 ∨ k = 5 ∨ k = 6 := by omega
 rcases this with rfl | rfl | rfl | rfl | rfl | rfl | rfl <;> decide
theorem tY {k : Nat} (hk : k < 6) : pw10 (k + 1) = 10 * pw10 k ∧ 1 ≤ pw10 k ∧ pw10 k ≤ 100000 := by
 refine ⟨rfl, (mP (by omega)).1, ?_⟩
 have : k = 0 ∨ k = 1 ∨ k = 2 ∨ k = 3 ∨ k = 4 ∨ k = 5 := by omega
 rcases this with rfl | rfl | rfl | rfl | rfl | rfl <;> decide
def RdD (s T : ByteArray) (j : Nat) (n : Int) : Prop := ∀ m, NumOk m → numT m = s → T = s ∧ decFrom 0 (T.data.toList.take j) = some n.toNat
section
variable {s T : ByteArray} {j : Nat} {n : Int}
theorem tI : RdD s s 0 0 := fun _ _ _ => ⟨rfl, by rw [List.take_zero]; rfl⟩
variable {m n' : Int}
theorem num_byte (hm : NumOk m) (e : numT m = s) {i : Nat} (hi : i < s.size) : 48 ≤ (sB s i).toNat ∧ (sB s i).toNat ≤ 57 := by
 subst e
 exact fB hm.1 _ (List.mem_of_getElem? (mM _ hi))
theorem rdd_neg (h : 1 < s.size) (hb : ((sB s 0).toNat : Int) = 45) : RdD s T j n := fun m hm e => by
 have := num_byte hm e (i := 0) (by omega); omega
theorem nJ (h : RdD s T j n) (h0 : 0 ≤ n) (hj : j < T.size) (h1 : 48 ≤ ((sB T j).toNat : Int)) (h2 : ((sB T j).toNat : Int) ≤ 57) : RdD s T (j + 1) (10 * n + (((sB T j).toNat : Int) - 48)) := fun m hm e => by
 obtain ⟨a, b⟩ := h m hm e
 refine ⟨a, ?_⟩
 have hd : digitVal (sB T j) = some ((sB T j).toNat - 48) := by unfold digitVal; rw [if_pos (by omega)]
 rw [decFrom_take _ j 0 n.toNat _ _ b (mM T hj) hd]
 congr 1; omega
theorem kZ (h : RdD s T j n) (hj : j < T.size) (hb : ¬ (48 ≤ ((sB T j).toNat : Int) ∧ ((sB T j).toNat : Int) ≤ 57)) : RdN s 0 false :=
 ⟨fun m hm e => by
  obtain ⟨a, _⟩ := h m hm e
  subst a
  have := num_byte hm e hj
  exact absurd ⟨by omega, by omega⟩ hb, by omega, by omega⟩
theorem rdd_len (h : RdD s T j n) (hb : ¬ (1 ≤ T.size ∧ T.size ≤ 6)) : RdN s 0 false :=
 ⟨fun m hm e => by
  obtain ⟨a, _⟩ := h m hm e
  subst a
  have := qF hm
  rw [e] at this
  exact absurd this hb, by omega, by omega⟩
theorem rdd_is (h : RdD s T j n) (h0 : 0 ≤ n) (hj : T.size ≤ j) (hm : NumOk m) (e : numT m = s) : T = s ∧ n = m := by
 obtain ⟨a, b⟩ := h m hm e
 refine ⟨a, ?_⟩
 subst a
 rw [List.take_of_length_le (by rw [jV]; exact hj), ← e, qW hm.1, pK] at b
 have := Option.some.inj b
 have := hm.1
 omega
theorem tW (h : RdD s T j n) (h0 : 0 ≤ n) (hj : T.size ≤ j) (hn : T = s → n' = n) (hd : ((numT n').toList == s.toList) = false) : RdN s 0 false :=
 ⟨fun m hm e => by
  obtain ⟨a, b⟩ := rdd_is h h0 hj hm e
  rw [hn a, b, e] at hd
  simp at hd, by omega, by omega⟩
theorem fZ (h : RdD s T j n) (h0 : 0 ≤ n) (hj : T.size ≤ j) (hn : T = s → n' = n) (h1 : -999999 ≤ n') (h2 : n' ≤ 999999) : RdN s n' true :=
 ⟨fun m hm e => by
  obtain ⟨a, b⟩ := rdd_is h h0 hj hm e
  exact ⟨(hn a).trans b, rfl⟩, h1, h2⟩
theorem rdl_emp {os : List Int} (hs : s.size = 0) (h : LsI s j os) (hj : j ≤ (partsB 44 s).length) : RdL s os true :=
 ⟨fun m hm e => by
  have e2 := nums_nil hm (by rw [e]; exact hs)
  have := h.all m hm e
  subst e2
  rw [List.take_nil] at this
  exact ⟨this, rfl⟩, by have := h.len; have := jG 44 s; omega⟩
theorem rdc_nos (h : ¬ ((partsB 58 s).length = 3 ∧ (partsB 32 (fld s 0)).length = 2)) : RdC s ⟨0, 0, [], []⟩ false :=
 ⟨fun m hm e => by
  obtain ⟨e0, e1, _, _⟩ := fld_of hm e
  rw [e1, pD hm] at h
  exact absurd ⟨e0, rfl⟩ h, Nat.zero_le _, Nat.zero_le _⟩
theorem rdc_sp {a b : Int} {r l : List Int} {o1 o2 o3 o4 : Bool} (h0 : (partsB 58 s).length = 3) (h1 : RdN ((partsB 32 (fld s 0)).getD 0 ByteArray.empty) a o1) (h2 : RdN ((partsB 32 (fld s 0)).getD 1 ByteArray.empty) b o2) (h3 : RdL (fld s 1) r o3) (h4 : RdL (fld s 2) l o4) : RdC s ⟨a, b, r, l⟩ true := by
 refine ⟨fun m hm e => ?_, ?_, ?_⟩
 ·obtain ⟨_, e0, e1, e2⟩ := fld_of hm e
  rw [e0, pD hm] at h1 h2
  rw [e1] at h3
  rw [e2] at h4
  obtain ⟨a1, _⟩ := h1.all m.a hm.a rfl
  obtain ⟨b1, _⟩ := h2.all m.b hm.b rfl
  obtain ⟨r1, _⟩ := h3.all m.r hm.r rfl
  obtain ⟨l1, _⟩ := h4.all m.l hm.l rfl
  refine ⟨?_, rfl⟩
  cases m
  simp only at a1 b1 r1 l1
  rw [a1, b1, r1, l1]
 ·have := h3.len; have := jL (s := s) (k := 1) (by omega); show r.length ≤ _; omega
 ·have := h4.len; have := jL (s := s) (k := 2) (by omega); show l.length ≤ _; omega
theorem allC_emp {cs : List Cl} (hs : s.size = 0) (h : LcI s j cs) : AllC s cs := fun m hm e => by
 have e2 := allC_nil hs m hm e
 have := h.all m hm e
 rw [← e2, List.take_nil] at this
 rw [this, ← e2]
end
end Go.GL
namespace Go.GL
open Go Go.RowKit
theorem r_sub8 {P : Program} {ρ : Operand → Value} {w : World} {d : Option Nat} {t ty t' : Nat} {pos : String} {aft : Array Edge} {g : Option (Nat × Bool)} {x y : Operand} {i j : Int} (hx : ρ x = .int .u8 i) (hy : ρ y = .int .u8 j) (h : 0 ≤ i - j ∧ i - j ≤ 255) : (execOp ρ ⟨d, .binOp .sub t x y t', ty, pos, aft, g⟩).run P w = .ok (.value (.int .u8 (i - j))) w := by
 simp [execOp, hx, hy, binOp, eqGuard, Op.intArith, IntWalk.u8_in _ h]
end Go.GL
namespace Go.GL
open Go Go.RowKit
end Go.GL
namespace Go.GL
open Go Go.RowKit
theorem gE : ∀ (n : Nat) (l : List Int), l.Nodup → (∀ x ∈ l, 0 ≤ x ∧ x < (n : Int)) → l.length ≤ n
 | 0, l, _, h => by
  cases l with
  | nil => exact Nat.le_refl 0
  | cons x r => have := h x List.mem_cons_self; omega
 | n + 1, l, hn, h => by
  by_cases hm : (n : Int) ∈ l
  ·have h1 := List.length_erase_of_mem hm
   have h2 := gE n (l.erase (n : Int)) (hn.erase _) fun x hx => by
    have h3 := (hn.mem_erase_iff).1 hx
    have := h x h3.2
    have := h3.1
    omega
   omega
  ·have := gE n l hn fun x hx => by
    have h1 := h x hx
    by_cases e : x = (n : Int)
    ·exact absurd (e ▸ hx) hm
    ·omega
   omega
theorem own_cut {α : Type} {E : Elt α} {e base : Nat} {G : Pin} {w : World} {v : Value} {xs : List α} (h : Own E e G w base v xs) (m : Nat) (zz : Int) (hz : 0 ≤ zz) (hzm : zz.toNat = m) (hm : m ≤ xs.length) (hp : 0 < xs.length) :
  ∃ u, Own E e G w base u (xs.take m) ∧ u.ownBlock = v.ownBlock ∧ RunsSlice v u E.size none (some zz) := by
 subst hzm
 obtain ⟨cells, ⟨hl, hown⟩, hr⟩ := h.ex
 rcases hown with ⟨_, h0⟩ | ⟨g, cap, cur, rfl, hb, hg, hn, hc, hs, ht⟩
 ·omega
 ·refine ⟨.slice (some ⟨g, 0, none⟩) zz.toNat cap, ⟨⟨cells.take (zz.toNat * E.size), ⟨?_, Or.inr ⟨g, cap, cur, ?_, hb, hg, ?_, hc, hs, ?_⟩⟩, fun i x hx => ?_⟩, h.free⟩, rfl, ?_⟩
  ·rw [List.length_take, List.length_take, hl, Nat.min_eq_left hm]
   exact Nat.min_eq_left (Nat.mul_le_mul_right _ hm)
  ·rw [List.length_take, Nat.min_eq_left hm]
  ·rw [List.length_take, Nat.min_eq_left hm]; omega
  ·rw [List.length_take, Nat.min_eq_left hm, ← ht, List.take_take, Nat.min_eq_left (Nat.mul_le_mul_right _ hm)]
  ·rw [List.getElem?_take] at hx
   split at hx
   ·rename_i hi
    have h1 := hr i x hx
    have h2 : (i + 1) * E.size ≤ zz.toNat * E.size := Nat.mul_le_mul_right _ hi
    rw [Nat.add_mul, Nat.one_mul] at h2
    rw [List.drop_take, List.take_take, Nat.min_eq_left (by omega)]
    exact h1
   ·cases hx
  ·intro P w' d t e' ty pos aft gg x lx hx ρ htt hsz hρ hlx hhx
   have he := elem_of htt
   have ht' : P.underlying t = some (.slice (P.elem t)) := by rw [he]; exact htt
   have hsz' : ∀ w : World, (sizeOf (P.elem t)).run P w = .ok E.size w := fun w => by rw [he]; exact qA hsz w
   have key : (Instr.slice t (.slice (some ⟨g, 0, none⟩) xs.length cap) none (some (.int .i64 zz)) none).run P w' = .ok (.slice (some ⟨g, 0, none⟩) zz.toNat cap) w' := by
    refine (run_slice_h w' t (some ⟨g, 0, none⟩) xs.length cap ht' .i64 zz (by omega) (by omega)).trans ?_
    rw [hsz']
    simp [sliced, Addr.add]
   simp only [Option.map_none, Option.map_some] at hlx hhx
   simp [execOp, hρ, hlx, hhx, run_sliceAt_slice w' t _ _ _ _ ht', key]
end Go.GL
namespace Go.GL
open Go Go.RowKit
end Go.GL
namespace Go.GL
open Go Go.RowKit
inductive SubG (g : Nat) : Nat → Prop
 | self : SubG g g
 | left {x i : Nat} (h : SubG g x) (hl : loG x i) : SubG g i
 | right {x i : Nat} (h : SubG g x) (hr : roG x i) : SubG g i
theorem sg_sub {ns : List Nd} (h : SG ns) {x : Nat} : (∃ k, k < ns.length ∧ den ns k = x) ↔ SubG (gOf ns) x := by
 have hlo := h.lo
 constructor
 ·have key : ∀ n k, ns.length - k ≤ n → k < ns.length → SubG (gOf ns) (den ns k) := by
   intro n
   induction n with
   | zero => intro k h1 h2; omega
   | succ n ih =>
    intro k h1 h2
    by_cases hk : k + 1 < ns.length
    ·obtain ⟨i, hki, hi, hz⟩ := h.last k hk
     have := ih i (by omega) hi
     rcases hz with hz | hz
     ·exact this.left ((qZ h.opts hi).2 ⟨_, hz, rfl⟩)
     ·exact this.right ((qY h.opts hi).2 ⟨_, hz, rfl⟩)
    ·have : k = ns.length - 1 := by omega
     subst this; exact .self
  rintro ⟨k, hk, rfl⟩
  exact key _ k (Nat.le_refl _) hk
 ·intro hs
  induction hs with
  | self => exact ⟨ns.length - 1, by omega, rfl⟩
  | left _ hl ih =>
   obtain ⟨k, hk, rfl⟩ := ih
   obtain ⟨o, ho, e⟩ := (qZ h.opts hk).1 hl
   have := (xW h.opts hk).1 o ho
   exact ⟨o.toNat, by omega, e.symm⟩
  | right _ hl ih =>
   obtain ⟨k, hk, rfl⟩ := ih
   obtain ⟨o, ho, e⟩ := (qY h.opts hk).1 hl
   have := (xW h.opts hk).2 o ho
   exact ⟨o.toNat, by omega, e.symm⟩
end Go.GL
namespace Go.GL
open Go Go.RowKit
theorem nodup_lt {l : List Int} (h : l.Pairwise (· < ·)) : l.Nodup := h.imp fun {a b} h e => by omega
noncomputable def formG (g : Nat) : List Nd := @dite _ (∃ ns, IsForm g ns) (Classical.propDecidable _) (fun h => Classical.choose h) (fun _ => [])
variable {ns : List Nd}
theorem IsForm.eq {g : Nat} (h : IsForm g ns) : formG g = ns := by
 have hx : ∃ ns, IsForm g ns := ⟨ns, h⟩
 unfold formG
 rw [dif_pos hx]
 exact (Classical.choose_spec hx).unique h
theorem form_eq {bs : List Int} (h : Ar ns bs) {m : Nat} (hm : m < ns.length) : formM ns bs m = formG (den ns m) :=
 (IsForm.eq (g := den ns m) ⟨(form_sg h hm).1, (form_sg h hm).2.1⟩).symm
end Go.GL
namespace Go.GL
open Go Go.RowKit Go.Sort Go.Lib
end Go.GL
namespace Go.GL
open Go Go.RowKit
theorem form_is {q : PSt} (hok : PoolOk q) {r : Int} (hr : PlaceOk q r) : IsForm (pd q r) (formG (pd q r)) := by
 have h := form_sg hok.ar (m := r.toNat) (by have := hr.1; have := hr.2; omega)
 have e := IsForm.eq (g := pd q r) ⟨h.1, h.2.1⟩
 rw [e]; exact ⟨h.1, h.2.1⟩
end Go.GL
namespace Go.GL
open Go Go.RowKit
structure GsOk (q : PSt) (ls : List Int) (gs : List Nat) : Prop where
 pl : ∀ z ∈ ls, PlaceOk q z
 eq : ls.map (pd q) = gs
variable {q : PSt} {ls : List Int} {gs : List Nat}
theorem GsOk.nil : GsOk q [] [] := ⟨fun _ h => (List.not_mem_nil h).elim, rfl⟩
theorem GsOk.px {q' : PSt} (h : GsOk q ls gs) (hx : PX q q') (hok : PoolOk q) (hok' : PoolOk q') : GsOk q' ls gs := ⟨fun z hz => hx.place (h.pl z hz), (px_map hx hok hok' h.pl).trans h.eq⟩
theorem GsOk.snoc {z : Int} {g : Nat} (h : GsOk q ls gs) (hz : PlaceOk q z) (hg : pd q z = g) : GsOk q (ls ++ [z]) (gs ++ [g]) := by
 refine ⟨fun y hy => ?_, by rw [List.map_append, h.eq]; simp [hg]⟩
 rcases List.mem_append.1 hy with h1 | h1
 ·exact h.pl y h1
 ·rw [List.mem_singleton.1 h1]; exact hz
theorem GsOk.len (h : GsOk q ls gs) : ls.length = gs.length := by rw [← h.eq, List.length_map]
end Go.GL
namespace Go.GL
open Go Go.RowKit
def flOf (ns : List Nd) : List (ByteArray × Int) := (List.range ns.length).map fun i => (b2s (keyN (ns.getD i default).l (ns.getD i default).r), (i : Int))
def bkq (ns : List Nd) (bs : List Int) : PSt := ⟨ns, bs, flOf ns, [], [], [], []⟩
variable {ns : List Nd} {bs xs ys : List Int}
theorem find_fl (h : Ar ns bs) : FindOk ns (flOf ns) := by
 have hk : ∀ i, i < ns.length → ∀ l r : List Int, (∀ x ∈ l, 0 ≤ x) → (∀ x ∈ r, 0 ≤ x) → b2s (keyN (ns.getD i default).l (ns.getD i default).r) = b2s (keyN l r) → ns.getD i default = ⟨l, r⟩ := fun i hi l r hl hr e => by
  have oo := xW h.opts hi
  obtain ⟨e1, e2⟩ := keyN_inj (fun z hz => (oo.1 z hz).1) (fun z hz => (oo.2 z hz).1) hl hr (b2s_inj e)
  cases hn : ns.getD i default with
  | mk a b => rw [hn] at e1 e2; simp only at e1 e2; rw [e1, e2]
 constructor
 ·intro i hi
  have oo := xW h.opts hi
  have key : ∀ n, (look ((List.range n).map fun i => (b2s (keyN (ns.getD i default).l (ns.getD i default).r), (i : Int))) (b2s (keyN (ns.getD i default).l (ns.getD i default).r))) = (if i < n then some (i : Int) else none) ∨ ns.length < n := by
   intro n
   induction n with
   | zero => left; rfl
   | succ n ih =>
    by_cases hn : ns.length < n + 1
    ·exact Or.inr hn
    left
    have ih := ih.resolve_right (by omega)
    rw [List.range_succ, List.map_append]
    unfold look at ih ⊢
    rw [List.find?_append]
    by_cases h1 : i < n
    ·rw [if_pos h1] at ih
     obtain ⟨p, hp, e⟩ := Option.map_eq_some_iff.1 ih
     rw [hp, if_pos (by omega)]
     simp [e]
    ·rw [if_neg h1] at ih
     have h2 := Option.map_eq_none_iff.1 ih
     rw [h2]
     by_cases h3 : i = n
     ·subst h3; rw [if_pos (by omega)]; simp
     ·rw [if_neg (by omega)]
      have hne : ¬ (b2s (keyN (ns.getD n default).l (ns.getD n default).r) = b2s (keyN (ns.getD i default).l (ns.getD i default).r)) := fun e => by
       have := hk n (by omega) _ _ (fun z hz => (oo.1 z hz).1) (fun z hz => (oo.2 z hz).1) e
       exact h.diff n i (by omega) hi this
      have hd := decide_eq_false hne
      simp only [List.map_cons, List.map_nil, List.find?_cons, hd, List.find?_nil]
      rfl
  have := (key ns.length).resolve_right (by omega)
  rw [if_pos hi] at this
  exact this
 ·intro l r z hl hr hz
  unfold look flOf at hz
  obtain ⟨p, hp, e⟩ := Option.map_eq_some_iff.1 hz
  have h1 := List.mem_of_find?_eq_some hp
  obtain ⟨i, hi, rfl⟩ := List.mem_map.1 h1
  have h3 := List.find?_some hp
  simp only [decide_eq_true_eq] at h3
  have h2 := h3
  have hi' := List.mem_range.1 hi
  exact ⟨i, hi', e.symm, hk i hi' l r hl hr h2⟩
theorem bkq_ok (h : Ar ns bs) : PoolOk (bkq ns bs) :=
 ⟨h, find_fl h, (fun _ _ _ h => by cases h), (fun _ _ h => by cases h), (fun _ _ _ h => by cases h), (fun _ _ h => by cases h)⟩
theorem putN_app : putN ns bs xs ys = ns ∨ putN ns bs xs ys = ns ++ [putNd xs ys] := by
 unfold putN
 split
 ·exact Or.inl rfl
 ·exact Or.inr rfl
structure PutOk (ns : List Nd) (bs xs ys : List Int) : Prop where
 ok : PoolOk (bkq (putN ns bs xs ys) (putB ns bs xs ys))
 px : PX (bkq ns bs) (bkq (putN ns bs xs ys) (putB ns bs xs ys))
 pl : PlaceOk (bkq (putN ns bs xs ys) (putB ns bs xs ys)) (putK ns bs xs ys)
 pd : pd (bkq (putN ns bs xs ys) (putB ns bs xs ys)) (putK ns bs xs ys) = mkG (xs.map (Go.GL.pd (bkq ns bs))) (ys.map (Go.GL.pd (bkq ns bs)))
 len : (putN ns bs xs ys).length ≤ ns.length + 1
theorem bk_put (h : PoolOk (bkq ns bs)) (hl : ns.length + 1 ≤ 1048576) (hls : xs.length ≤ 1048576 ∧ ys.length ≤ 1048576) (h1 : ∀ z ∈ xs, PlaceOk (bkq ns bs) z) (h2 : ∀ z ∈ ys, PlaceOk (bkq ns bs) z) : PutOk ns bs xs ys := by
 have ha : Ar ns bs := h.ar
 have b1 := gB h1
 have b2 := gB h2
 have hp := ha.put hl hls b1 b2
 have hb := ha.ok.put hl hls b1 b2
 have hn := putN_app (ns := ns) (bs := bs) (xs := xs) (ys := ys)
 refine ⟨bkq_ok hp.1, ⟨?_, fun k hk => ?_, fun _ h => h⟩, hb.2.1, hp.2.1, ?_⟩
 ·show ns.length ≤ (putN ns bs xs ys).length
  rcases hn with e | e <;> rw [e]
  ·exact Nat.le_refl _
  ·simp
 ·show (putN ns bs xs ys).getD k default = ns.getD k default
  rcases hn with e | e <;> rw [e]
  exact xH hk
 ·rcases hn with e | e <;> rw [e] <;> simp
theorem eJ (h : PoolOk (bkq ns bs)) {z : Int} (hz : PlaceOk (bkq ns bs) z) : formM ns bs z.toNat = formG (pd (bkq ns bs) z) := form_eq h.ar (m := z.toNat) (show z.toNat < ns.length by have := hz.1; have h2 : z < (ns.length : Int) := hz.2; omega)
end Go.GL
namespace Go.GL
open Go Go.RowKit
end Go.GL
namespace Go.GL
open Go Go.RowKit
structure AllW (fs : List (List Nd)) : Prop where
 len : fs.length ≤ 100
 ok : ∀ i, i < fs.length → FormOk (fs.getD i []) ∧ 1 ≤ (fs.getD i []).length ∧ (fs.getD i []).length ≤ 1000
noncomputable def mkGm (fs gs : List (List Nd)) : Nat := mkG (fs.map gOf) (gs.map gOf)
structure RootOk (ns : List Nd) (bs : List Int) (fs : List Nd) : Prop where
 ok : PoolOk (bkq (addM ns bs fs).2.1 (addM ns bs fs).2.2)
 px : PX (bkq ns bs) (bkq (addM ns bs fs).2.1 (addM ns bs fs).2.2)
 pl : PlaceOk (bkq (addM ns bs fs).2.1 (addM ns bs fs).2.2) (rootM ns bs fs)
 pd : pd (bkq (addM ns bs fs).2.1 (addM ns bs fs).2.2) (rootM ns bs fs) = gOf fs
 len : (addM ns bs fs).2.1.length ≤ ns.length + fs.length
variable {ns : List Nd} {bs : List Int} {fs : List (List Nd)} {g : Nat}
theorem addM_old {fs : List Nd} : ∀ k, k ≤ fs.length → ns.length ≤ (addM ns bs (fs.take k)).2.1.length ∧ ∀ j, j < ns.length → (addM ns bs (fs.take k)).2.1.getD j default = ns.getD j default := by
 intro k
 induction k with
 | zero => intro _; exact ⟨Nat.le_refl _, fun j _ => rfl⟩
 | succ k ih =>
  intro hk
  obtain ⟨h1, h2⟩ := ih (by omega)
  rw [jQ (by omega)]
  generalize addM ns bs (fs.take k) = s at h1 h2
  obtain ⟨az, ns2, bs2⟩ := s
  show ns.length ≤ (putN ns2 bs2 _ _).length ∧ ∀ j, j < ns.length → (putN ns2 bs2 _ _).getD j default = ns.getD j default
  simp only at h1 h2
  rcases putN_app (ns := ns2) (bs := bs2) (xs := atL az (fs.getD k default).l) (ys := atL az (fs.getD k default).r) with e | e <;> rw [e]
  ·exact ⟨h1, h2⟩
  ·refine ⟨by simp; omega, fun j hj => ?_⟩
   rw [xH (by omega)]; exact h2 j hj
theorem bk_root {fs : List Nd} (h : PoolOk (bkq ns bs)) (hf : FormOk fs) (h1 : 1 ≤ fs.length) (hl : ns.length + fs.length ≤ 1048576) : RootOk ns bs fs := by
 have ha : Ar ns bs := h.ar
 have hd := ha.add hf hl
 have hr := ha.root hf h1 hl
 have hao := jM ha.ok hf hl
 have ho := addM_old (ns := ns) (bs := bs) (fs := fs) fs.length (Nat.le_refl _)
 rw [List.take_length] at ho
 have hp := hao.places (fs.length - 1) (by have := hao.len; omega)
 have hal := hao.len
 have e : rootM ns bs fs = (addM ns bs fs).1.getD (fs.length - 1) 0 := by unfold rootM; rw [hal]
 refine ⟨bkq_ok hd.ar, ⟨ho.1, ho.2, fun _ h => h⟩, ?_, hr, hao.hi⟩
 rw [e]; exact hp
theorem take_map {j : Nat} (h : j < fs.length) : (fs.take (j + 1)).map gOf = (fs.take j).map gOf ++ [gOf (fs.getD j [])] := by
 rw [vU fs [] h, List.map_append]; rfl
theorem sub_mk {ls rs : List Nat} {x : Nat} (h : SubG (mkG ls rs) x) : x = mkG ls rs ∨ ∃ y, y ∈ ls ++ rs ∧ SubG y x := by
 induction h with
 | self => exact Or.inl rfl
 | left _ hl ih =>
  rcases ih with rfl | ⟨y, hy, hs⟩
  ·exact Or.inr ⟨_, List.mem_append_left _ (lo_mk.1 hl), .self⟩
  ·exact Or.inr ⟨y, hy, hs.left hl⟩
 | right _ hl ih =>
  rcases ih with rfl | ⟨y, hy, hs⟩
  ·exact Or.inr ⟨_, List.mem_append_right _ (ro_mk.1 hl), .self⟩
  ·exact Or.inr ⟨y, hy, hs.right hl⟩
theorem form_le (h : IsForm g ns) {L : List Nat} (hL : ∀ x, SubG g x → x ∈ L) : ns.length ≤ L.length := by
 have h1 : ((List.range ns.length).map (den ns)).Nodup := by
  unfold List.Nodup
  rw [List.pairwise_map]
  exact (List.nodup_range (n := ns.length)).imp_of_mem fun {a b} ha hb hne e => hne (h.1.inj (List.mem_range.1 ha) (List.mem_range.1 hb) e)
 have h2 : ((List.range ns.length).map (den ns)) ⊆ L := fun x hx => by
  obtain ⟨j, hj, rfl⟩ := List.mem_map.1 hx
  exact hL _ (h.2 ▸ (sg_sub h.1).1 ⟨j, List.mem_range.1 hj, rfl⟩)
 have := h1.length_le_of_subset h2
 simpa using this
theorem sX (h : IsForm g ns) (hl : ns.length ≤ 1048576) : FormOk ns :=
 ⟨hl, h.1.opts, fun i hi => by
  have oo := xW h.1.opts hi
  have a := gE i _ (nodup_lt (h.1.pw i hi).1) oo.1
  have b := gE i _ (nodup_lt (h.1.pw i hi).2) oo.2
  omega⟩
theorem nU : ∀ (l : List (List Nd)) (ns : List Nd) (bs : List Int), PoolOk (bkq ns bs) → (∀ f ∈ l, FormOk f ∧ 1 ≤ f.length ∧ f.length ≤ 1000) → ns.length + 1000 * l.length ≤ 1048575 →
  ∃ ns2 bs2 ats, PoolOk (bkq ns2 bs2) ∧ PX (bkq ns bs) (bkq ns2 bs2) ∧ GsOk (bkq ns2 bs2) ats (l.map gOf) ∧ ns2.length ≤ ns.length + 1000 * l.length
 | [], ns, bs, h, _, _ => ⟨ns, bs, [], h, PX.refl _, GsOk.nil, Nat.le_refl _⟩
 | f :: l, ns, bs, h, hl, hb => by
  rw [List.length_cons] at hb
  obtain ⟨f1, f2, f3⟩ := hl f List.mem_cons_self
  have hr := bk_root (fs := f) h f1 f2 (by omega)
  have hlen := hr.len
  obtain ⟨ns2, bs2, ats, h1, h2, h3, h4⟩ := nU l _ _ hr.ok (fun g hg => hl g (List.mem_cons_of_mem _ hg)) (by omega)
  refine ⟨ns2, bs2, rootM ns bs f :: ats, h1, hr.px.trans h2, ⟨fun z hz => ?_, ?_⟩, by rw [List.length_cons]; omega⟩
  ·rcases List.mem_cons.1 hz with rfl | hz
   ·exact h2.place hr.pl
   ·exact h3.pl z hz
  ·rw [List.map_cons, List.map_cons, h3.eq, h2.pd hr.ok h1 hr.pl, hr.pd]
theorem allW_mem (h : AllW fs) : ∀ f ∈ fs, FormOk f ∧ 1 ≤ f.length ∧ f.length ≤ 1000 := fun f hf => by
 obtain ⟨i, hi, e⟩ := List.mem_iff_getElem.1 hf
 have := h.ok i hi
 have e2 : fs.getD i [] = f := by simp [List.getD, hi, e]
 rw [e2] at this; exact this
theorem mk_isform {gs : List (List Nd)} (hf : AllW fs) (hg : AllW gs) : IsForm (mkGm fs gs) (formG (mkGm fs gs)) := by
 have h1 := hf.len
 have h2 := hg.len
 obtain ⟨ns, bs, ats, a1, a2, a3, a4⟩ := nU fs [] [] (bkq_ok Ar.empty) (allW_mem hf) (by rw [List.length_nil]; omega)
 rw [List.length_nil] at a4
 obtain ⟨ns2, bs2, ats2, b1, b2, b3, b4⟩ := nU gs ns bs a1 (allW_mem hg) (by omega)
 have c := a3.px b2 a1 b1
 have l1 := c.len
 have l2 := b3.len
 rw [List.length_map] at l1 l2
 have hp := bk_put (xs := ats) (ys := ats2) b1 (by omega) ⟨by omega, by omega⟩ c.pl b3.pl
 have := form_is hp.ok hp.pl
 rw [hp.pd, c.eq, b3.eq] at this
 exact this
end Go.GL
namespace Go.GL
open Go Go.RowKit
end Go.GL
namespace Go.GL
open Go Go.RowKit
theorem eL (v : Value) : (Value.agg [v].toArray).cells.toList = [v] := by simp [Value.cells]
theorem flat_one : ∀ (vs : List Value), ((vs.map fun v => Value.agg [v].toArray).flatMap fun v => v.cells.toList) = vs
 | [] => rfl
 | v :: vs => by
  rw [List.map_cons, List.flatMap_cons, eL v, flat_one vs]
  rfl
variable {G : Pin} {v : Value} {vs : List Value}
theorem nQ {α : Type} {E : Elt α} {P : Program} {ρ : Operand → Value} {w : World} {K : Value → World → Prop} {d : Option Nat} {t ty e : Nat} {pos : String} {aft : Array Edge} {g : Option (Nat × Bool)}
  {n : Nat} {parts : Array (Nat × Operand)} (vs : List Value) (ys : List α) {z : Value} (ht : P.underlying t = some (.slice e)) (hs : (P.info? e).map (·.size) = some 1) (hz : (P.info? e).bind (·.zero) = some z)
  (hr : RepsF E G vs ys) (_ : ∀ u ∈ vs, u.oneCell' = true) (hn : n = vs.length) (hn2 : n = ys.length) (hE : E.size = 1)
  (hpt' : (parts.toList.map fun (i, x) => (i, ρ x)) = ((vs.map fun v => Value.agg [v].toArray).zipIdx 0).map fun x => (x.2, x.1)) (hpos : 0 < n ∧ n ≤ 1000000) (hP : Pins G w)
  (h : ∀ v w', Own E e G w' w.heap.size v ys → Pins G w' → Below w.heap.size w w' → v.ownBlock = some w.heap.size → K v w') : EO P ρ ⟨d, .buildSlice t n parts, ty, pos, aft, g⟩ w K := by
 have hpt := (Array.toList_map ..).trans hpt'
 obtain ⟨inf, hinf, hsz⟩ := Option.map_eq_some_iff.1 hs
 have hzz : inf.zero = some z := by simpa [hinf] using hz
 have hrun := run_buildSlice (P := P) w t e n (parts.map fun (i, x) => (i, ρ x)) vs.toArray inf z ht hinf hzz (by rw [hsz]; omega) (by rw [hsz]; omega)
  (by
   rw [hpt, hsz]
   have hf := Great.fill_whole (s := 1) (by decide) (vs.map fun v => Value.agg [v].toArray) ((Array.range (n * 1)).map (z.cells[· % z.cells.size]!)) (fun v hv => by
    obtain ⟨u, _, rfl⟩ := List.mem_map.1 hv
    have := congrArg List.length (eL u)
    simpa using this) (by simp [hn])
   rw [hf, flat_one vs])
 obtain ⟨v, w', h1, h2, h3, h4, h5⟩ := run_build (E := E) (d := d) (ty := ty) (pos := pos) (aft := aft) (g := g) n parts vs ys hrun hP hn2 (by omega) (by rw [hE]; omega) (fun i y hy => by
  obtain ⟨v, hv, hrep⟩ := hr i y hy
  have : (vs.drop (i * E.size)).take E.size = [v] := by
   rw [hE, Nat.mul_one]
   apply List.ext_getElem?
   intro j
   rw [List.getElem?_take, List.getElem?_drop]
   match j with
   | 0 => simpa using hv
   | j + 1 => simp
  rw [this]; exact hrep)
 exact EO.run h1 (h v w' h2 h3 h4 h5)
theorem repsN {α : Type} {E : Elt α} : RepsF E G [] [] := fun i y hy => by simp at hy
theorem kJ {α : Type} {E : Elt α} {y : α} {ys : List α} (h : E.rep G [v] y) (k : RepsF E G vs ys) : RepsF E G (v :: vs) (y :: ys) := fun i z hz => by
 cases i with
 | zero => simp at hz; subst hz; exact ⟨v, rfl, h⟩
 | succ i => simp at hz; obtain ⟨u, hu, hr⟩ := k i z hz; exact ⟨u, by simpa using hu, hr⟩
theorem onesN : ∀ u ∈ ([] : List Value), u.oneCell' = true := fun _ h => (List.not_mem_nil h).elim
theorem kN (h : v.oneCell' = true) (k : ∀ u ∈ vs, u.oneCell' = true) : ∀ u ∈ v :: vs, u.oneCell' = true := fun u hu => by
 rcases List.mem_cons.1 hu with rfl | hu
 ·exact h
 ·exact k u hu
end Go.GL
namespace Go.GL
open Go Go.RowKit
structure KQ (Q : List Nat) : Prop where
 is : ∀ g ∈ Q, IsForm g (formG g)
 sub : ∀ g ∈ Q, ∀ x, SubG g x → x ∈ Q
theorem KQ.nil : KQ [] := ⟨fun _ h => (List.not_mem_nil h).elim, fun _ h => (List.not_mem_nil h).elim⟩
theorem KQ.w {Q : List Nat} (h : KQ Q) (hl : Q.length ≤ 1000) {g : Nat} (hg : g ∈ Q) : FormOk (formG g) ∧ 1 ≤ (formG g).length ∧ (formG g).length ≤ Q.length := by
 have h1 := form_le (h.is g hg) (h.sub g hg)
 exact ⟨sX (h.is g hg) (by omega), (h.is g hg).1.lo, h1⟩
variable {gs : List Nat}
theorem KQ.allW {Q : List Nat} (h : KQ Q) (hl : Q.length ≤ 1000) (hg : ∀ g ∈ gs, g ∈ Q) (hn : gs.length ≤ 100) : AllW (gs.map formG) := by
 refine ⟨by simpa using hn, fun i hi => ?_⟩
 have hi' : i < gs.length := by simpa using hi
 have e : (gs.map formG).getD i [] = formG gs[i] := by simp [List.getD, hi']
 rw [e]
 obtain ⟨a, b, c⟩ := h.w hl (hg _ (List.getElem_mem hi'))
 exact ⟨a, b, by omega⟩
theorem KQ.gof {Q : List Nat} (h : KQ Q) (hg : ∀ g ∈ gs, g ∈ Q) : (gs.map formG).map gOf = gs := by
 rw [List.map_map]
 refine (List.map_congr_left (g := id) fun g hm => ?_).trans (List.map_id _)
 exact (h.is g (hg g hm)).2
theorem KQ.add {Q : List Nat} (h : KQ Q) (hl : Q.length ≤ 1000) {hs : List Nat} (hg : ∀ g ∈ gs, g ∈ Q) (hh : ∀ g ∈ hs, g ∈ Q) (h1 : gs.length ≤ 100) (h2 : hs.length ≤ 100) : KQ (mkGm (gs.map formG) (hs.map formG) :: Q) := by
 have hi := mk_isform (h.allW hl hg h1) (h.allW hl hh h2)
 have e : mkGm (gs.map formG) (hs.map formG) = mkG gs hs := by unfold mkGm; rw [h.gof hg, h.gof hh]
 rw [e] at hi ⊢
 refine ⟨fun g hm => ?_, fun g hm x hx => ?_⟩
 ·rcases List.mem_cons.1 hm with rfl | hm
  ·exact hi
  ·exact h.is g hm
 ·rcases List.mem_cons.1 hm with rfl | hm
  ·rcases sub_mk hx with rfl | ⟨y, hy, hs⟩
   ·exact List.mem_cons_self
   ·rcases List.mem_append.1 hy with hy | hy
    ·exact List.mem_cons_of_mem _ (h.sub y (hg y hy) x hs)
    ·exact List.mem_cons_of_mem _ (h.sub y (hh y hy) x hs)
  ·exact List.mem_cons_of_mem _ (h.sub g hm x hx)
theorem Bx.anti {G G' : Pin} {w : World} {b : Nat} {cs : List Value} (h : Bx G' w b cs) (hl : Pin.le G G') : Bx G w b cs := ⟨h.heap, fun o u hu => h.free o u (hl _ _ _ hu)⟩
theorem ownV_anti {e base : Nat} {G G' : Pin} {w : World} {v : Value} {xs : List Value} (h : Own eVal e G' w base v xs) (hl : Pin.le G G') : Own eVal e G w base v xs := by
 obtain ⟨cells, h1, h2⟩ := h.ex
 exact ⟨⟨cells, h1, h2⟩, fun k hk o u hu => h.free k hk o u (hl _ _ _ hu)⟩
theorem ext_grown {x : Option Nat} {G G' : Pin} {w w' : World} (h : Ext (inO x) G w G' w') : w.grownBy w' x :=
 ⟨h.os, h.tape, h.output, h.size, fun k hk hne => h.block k hk fun hx => hne hx.symm⟩
theorem ext_back {S : Nat → Prop} {G Gx G' : Pin} {w w' : World} (hl : Pin.le G Gx) (hx : Ext S Gx w G' w') : Ext S G w G w' :=
 ⟨Pin.le_refl _, fun b o u hu => hx.pins b o u (hx.le _ _ _ (hl _ _ _ hu)), fun _ _ _ h => Or.inl h, hx.os, hx.tape, hx.output, hx.size, hx.block⟩
structure Tk (e base : Nat) (G : Pin) (w : World) (v : Value) (ns : List Nd) : Prop where
 own : ∃ Gi, Own eNode e Gi w base v ns ∧ Pin.le Gi G
 rd : RSl eNode G v ns
 lo : 1 ≤ ns.length
section
variable {e base : Nat} {G G' : Pin} {w w' : World} {v : Value} {ns : List Nd} {x row : Option Nat}
theorem Tk.blk (h : Tk e base G w v ns) : ∀ k, v.ownBlock = some k → ∃ o u, G k o u := fun k hk => by
 obtain ⟨a, b, o, n, c, cs, hv, hk2, hr, hg⟩ := h.rd.at_ 0 _ (List.getElem?_eq_getElem h.lo)
 have hb : a.block = b := by
  have h := congrArg Addr.block (hk2 0)
  refine Eq.trans ?_ h
  simp only [Addr.add]; split <;> rfl
 have hl := eNode.len hr
 have hc : 0 < cs.length := by rw [hl]; decide
 refine ⟨o + 0, cs[0], ?_⟩
 have h1 := hg 0 _ (List.getElem?_eq_getElem hc)
 rw [hv] at hk
 have : k = b := by rw [← hb]; exact (Option.some.inj hk).symm
 rw [this]; exact h1
theorem Tk.le (h : Tk e base G w v ns) (hl : Pin.le G G') : Tk e base G' w v ns := by
 obtain ⟨Gi, h1, h2⟩ := h.own
 exact ⟨⟨Gi, h1, dH h2 hl⟩, h.rd.mono hl, h.lo⟩
theorem Tk.kept (h : Tk e base G w v ns) (hg : w.grownBy w' row) (hf : ∀ k, row = some k → ∀ o u, ¬ G k o u) : Tk e base G w' v ns := by
 obtain ⟨Gi, h1, h2⟩ := h.own
 refine ⟨⟨Gi, h1.keptA hg (fun k a b => ?_), h2⟩, h.rd, h.lo⟩
 obtain ⟨o, u, hu⟩ := h.blk k a
 exact hf k b o u hu
theorem Tk.below (h : Tk e base G w v ns) (hb : Below w.heap.size w w') : Tk e base G w' v ns := h.kept (Below.grownBy hb none) fun _ hk => by cases hk
theorem Tk.ext (h : Tk e base G w v ns) (hx : Ext noS G w G' w') : Tk e base G' w' v ns := (h.below hx.below).le hx.le
theorem Tk.turned (h : Tk e base G w v ns) (hx : Ext (inO x) G w G' w') (hf : ∀ k, x = some k → ∀ o u, ¬ G k o u) : Tk e base G' w' v ns := (h.kept (ext_grown hx) hf).le hx.le
theorem Tk.one (h : Tk e base G w v ns) : v.oneCell' = true := h.rd.one
theorem Tk.give {S : Nat → Prop} {G0 : Pin} {w0 : World} (h : Tk e w0.heap.size G w v ns) (hP : Pins G0 w0) (hx : Ext S G0 w0 G w) : ∃ G2, Own eNode e G2 w w0.heap.size v ns ∧ Ext S G0 w0 G2 w ∧ Pin.le G2 G := by
 obtain ⟨Gi, h1, h2⟩ := h.own
 have h2' : Pin.le (fun b o u => Gi b o u ∨ G0 b o u) G := fun b o u hu => hu.elim (h2 b o u) (hx.le b o u)
 refine ⟨fun b o u => Gi b o u ∨ G0 b o u, h1.mono (fun b o u hu => Or.inl hu) (fun k hk o u hu => ?_), ⟨fun b o u hu => Or.inr hu, fun b o u hu => hx.pins b o u (h2' b o u hu), fun b o u hu => hx.fresh b o u (h2' b o u hu), hx.os, hx.tape, hx.output, hx.size, hx.block⟩, h2'⟩
 rcases hu with hu | hu
 ·exact h1.free k hk o u hu
 ·have a := (h1.lt k hk).1
  have b := kE (hP k o u hu)
  omega
end
def Fr (e base : Nat) (G : Pin) (w : World) (Q : List Nat) (vs : List Value) : Prop := ∀ v ∈ vs, ∃ g, g ∈ Q ∧ Tk e base G w v (formG g)
section
variable {e base : Nat} {G G' : Pin} {w w' : World} {Q : List Nat} {vs : List Value} {x row : Option Nat}
theorem Fr.nil : Fr e base G w Q [] := fun _ h => (List.not_mem_nil h).elim
theorem Fr.le (h : Fr e base G w Q vs) (hl : Pin.le G G') : Fr e base G' w Q vs := fun v hv => let ⟨g, a, b⟩ := h v hv; ⟨g, a, b.le hl⟩
theorem Fr.below (h : Fr e base G w Q vs) (hb : Below w.heap.size w w') : Fr e base G w' Q vs := fun v hv => let ⟨g, a, b⟩ := h v hv; ⟨g, a, b.below hb⟩
theorem Fr.ext (h : Fr e base G w Q vs) (hx : Ext noS G w G' w') : Fr e base G' w' Q vs := fun v hv => let ⟨g, a, b⟩ := h v hv; ⟨g, a, b.ext hx⟩
theorem Fr.kept (h : Fr e base G w Q vs) (hg : w.grownBy w' row) (hf : ∀ k, row = some k → ∀ o u, ¬ G k o u) : Fr e base G w' Q vs := fun v hv => let ⟨g, a, b⟩ := h v hv; ⟨g, a, b.kept hg hf⟩
theorem Fr.turned (h : Fr e base G w Q vs) (hx : Ext (inO x) G w G' w') (hf : ∀ k, x = some k → ∀ o u, ¬ G k o u) : Fr e base G' w' Q vs := fun v hv => let ⟨g, a, b⟩ := h v hv; ⟨g, a, b.turned hx hf⟩
theorem Fr.mem (h : Fr e base G w Q vs) {us : List Value} (hu : ∀ u ∈ us, u ∈ vs) : Fr e base G w Q us := fun v hv => h v (hu v hv)
theorem Fr.wide (h : Fr e base G w Q vs) {base' : Nat} (hb : base' ≤ base) : Fr e base' G w Q vs := fun v hv => by
 obtain ⟨g, a, b⟩ := h v hv
 obtain ⟨Gi, h1, h2⟩ := b.own
 exact ⟨g, a, ⟨Gi, h1.weaken hb, h2⟩, b.rd, b.lo⟩
theorem Fr.cons (h : Fr e base G w Q vs) {v : Value} {g : Nat} (hv : Tk e base G w v (formG g)) : Fr e base G w (g :: Q) (v :: vs) := fun u hu => by
 rcases List.mem_cons.1 hu with rfl | hu
 ·exact ⟨g, List.mem_cons_self, hv⟩
 ·obtain ⟨k, a, b⟩ := h u hu; exact ⟨k, List.mem_cons_of_mem _ a, b⟩
theorem Fr.one (h : Fr e base G w Q vs) {v : Value} (hv : v ∈ vs) : v.oneCell' = true := let ⟨_, _, b⟩ := h v hv; b.one
theorem Fr.games (h : Fr e base G w Q vs) : ∃ gs : List Nat, gs.length = vs.length ∧ (∀ g ∈ gs, g ∈ Q) ∧ ∀ i, i < vs.length → RSl eNode G (vs.getD i default) ((gs.map formG).getD i []) := by
 induction vs with
 | nil => exact ⟨[], rfl, fun _ h => (List.not_mem_nil h).elim, fun i hi => absurd hi (Nat.not_lt_zero i)⟩
 | cons v vs ih =>
  obtain ⟨gs, h1, h2, h3⟩ := ih fun u hu => h u (List.mem_cons_of_mem _ hu)
  obtain ⟨g, a, b⟩ := h v List.mem_cons_self
  refine ⟨g :: gs, by simp [h1], fun k hk => ?_, fun i hi => ?_⟩
  ·rcases List.mem_cons.1 hk with rfl | hk
   ·exact a
   ·exact h2 k hk
  ·cases i with
   | zero => simpa using b.rd
   | succ i => simpa using h3 i (by simpa using hi)
end
theorem sA {G : Pin} {v : Value} {us : List Value} {fs : List (List Nd)} (hr : RSl eVal G v us) (hl : fs.length = us.length) (hk : ∀ i, i < us.length → RSl eNode G (us.getD i default) (fs.getD i [])) : RSl (eSl eNode) G v fs := by
 obtain ⟨a, c, h1, h2, h3⟩ := hr.sl
 refine ⟨⟨a, c, by rw [h1, hl], by omega, h3⟩, fun i f hi => ?_⟩
 have hi' : i < fs.length := (List.getElem?_eq_some_iff.1 hi).1
 obtain ⟨a, b, o, n, c, cs, e1, e2, e3, e4⟩ := hr.at_ i _ (List.getElem?_eq_getElem (show i < us.length by omega))
 refine ⟨a, b, o, n, c, cs, e1, e2, ?_, e4⟩
 have h4 := hk i (by omega)
 have e5 : us.getD i default = us[i]'(by omega) := by simp [List.getD, show i < us.length by omega]
 have e6 : fs.getD i [] = f := by simp [List.getD, hi]
 rw [e5, e6] at h4
 exact ⟨_, e3.1, h4⟩
theorem tD (n : Int) : 0 ≤ IntKind.u64.wrap n ∧ IntKind.u64.wrap n < 18446744073709551616 := by
 unfold IntKind.wrap
 simp only [IntKind.bits, IntKind.signed]
 have h1 := Int.emod_nonneg n (b := (2 : Int) ^ 64) (by decide)
 have h2 := Int.emod_lt_of_pos n (b := (2 : Int) ^ 64) (by decide)
 simp at h1 h2 ⊢
 omega
theorem snoc_mem {α : Type} {l : List α} {x : α} : ∀ v ∈ l ++ [x], v ∈ x :: l := fun v hv => by
 rcases List.mem_append.1 hv with h | h
 ·exact List.mem_cons_of_mem _ h
 ·rw [List.mem_singleton.1 h]; exact List.mem_cons_self
section
variable {P : Program} {ρ : Operand → Value} {w : World} {K : Value → World → Prop} {d : Option Nat} {t ty e : Nat} {pos : String} {aft : Array Edge} {g : Option (Nat × Bool)} {x y : Operand} {G : Pin} {v : Value}
variable {xs : List Nd} {z : Int} {u : Value}
theorem run_setNL {base : Nat} {l : List Int} (hs : (P.info? t).map (·.size) = some 1) (hx : ρ x = eptr v z 2 0) (hy : ρ y = u) (hu : RSl eInt G u l) (hP : Pins G w) (hv : Own eNode e G w base v xs) (h0 : 0 ≤ z) (h1 : z < xs.length) :
  ∃ w', (execOp ρ ⟨d, .store t x y, ty, pos, aft, g⟩).run P w = .ok .skip w' ∧ Own eNode e G w' base v (xs.set z.toNat ⟨l, (xs.getD z.toNat default).r⟩) ∧ Pins G w' ∧ w.grownBy w' v.ownBlock ∧ w'.heap.size = w.heap.size := by
 have hz : z.toNat < xs.length := by omega
 obtain ⟨cells, hown, hr⟩ := hv.ex
 have hel := hr z.toNat _ (List.getElem?_eq_getElem hz)
 have hx1 : xs[z.toNat] = xs.getD z.toNat default := by simp [List.getD, hz]
 rw [hx1] at hel
 obtain ⟨u0, v0, hcells, hl0, hr0⟩ := hel
 have hone := hu.one
 have hone0 := hr0.one
 obtain ⟨gb, w', hb, hp, hrun, a1, a2, a3, a4⟩ := hv.setAt (P := P) h0 h1 (q := ⟨l, (xs.getD z.toNat default).r⟩) (cs := [u, v0]) ⟨u, v0, rfl, hu, hr0⟩ hP
 rcases hown.2 with ⟨rfl, hl0⟩ | ⟨g', cap, cur, rfl, hbg, hg, hnc, hcm, hcs, htake⟩
 ·omega
 ·have hgb : gb = g' := by simpa [Value.ownBlock] using hb.symm
  subst hgb
  have e2 : eNode.size = 2 := rfl
  rw [e2] at hrun hcs htake hcells hp
  have hle1 : z.toNat * 2 + 2 ≤ cur.size := by omega
  rw [← htake] at hcells
  have hc : ∀ k a, ([u0, v0] : List Value)[k]? = some a → cur.toList[z.toNat * 2 + k]? = some a := fun k a ha => by
   have hk : k < 2 := by have := (List.getElem?_eq_some_iff.1 ha).1; simpa using this
   have h3 : ((((cur.toList.take (xs.length * 2)).drop (z.toNat * 2)).take 2)[k]?) = some a := by rw [hcells]; exact ha
   rw [List.getElem?_take, if_pos hk, List.getElem?_drop, List.getElem?_take, if_pos (by omega)] at h3
   exact h3
  have c1 := hc 1 _ rfl
  have r1 := run_storeCells_at P gb (z.toNat * 2) e [u, v0] 0 cur w hg (by simpa using hle1) (by intro a ha; simp at ha; rcases ha with rfl | rfl <;> assumption)
  have r2 := run_storeCells_at P gb (z.toNat * 2) e [u] 0 cur w hg (by simp; omega) (by intro a ha; simp at ha; subst ha; assumption)
  simp only [Nat.add_zero] at r1 r2
  have hw : w' = w.setRow gb (cur.toList.take (z.toNat * 2) ++ [u] ++ cur.toList.drop (z.toNat * 2 + [u].length)).toArray := by
   rw [hrun] at r1
   have hw1 := (Result.ok.inj r1).2
   rw [hw1]
   congr 2
   have hd1 : cur.toList.drop (z.toNat * 2 + 1) = v0 :: cur.toList.drop (z.toNat * 2 + 2) := by
    obtain ⟨h7, h8⟩ := List.getElem?_eq_some_iff.1 c1
    rw [List.drop_eq_getElem_cons h7, h8]
   simp [hd1]
  have hpt : eptr (.slice (some ⟨gb, 0, none⟩) xs.length cap) z 2 0 = .pointer (some ⟨gb, z.toNat * 2, none⟩) := by
   clear hx hrun r1 r2 hw hr hc hp a1 hv hown
   simp only [eptr, Addr.add]; split <;> simp_all
  rw [hpt] at hx
  refine ⟨w', ?_, a1, a2, a3, a4⟩
  have hlv : (storeVar t ⟨gb, z.toNat * 2, none⟩ u).run P w = .ok () w' := by
   have hc2 : u.cells = #[u] := yW hone
   unfold storeVar
   simp only [Sem.run_bind, qA hs, Result.andThen_ok, hc2]
   simp only [List.size_toArray, List.length_cons, List.length_nil, Nat.zero_add, ne_eq, not_true_eq_false, if_false]
   rw [r2, hw]
  simp only [execOp, hx, hy, Instr.storeAt, Instr.sureAddr, Sem.run_bind, Sem.run_pure, Result.andThen_ok, hlv]
theorem o_setNL {base : Nat} {l : List Int} (hs : (P.info? t).map (·.size) = some 1) (hx : ρ x = eptr v z 2 0) (hy : ρ y = u) (hu : RSl eInt G u l) (hP : Pins G w) (hv : Own eNode e G w base v xs) (h0 : 0 ≤ z) (h1 : z < xs.length)
  (h : ∀ w', Own eNode e G w' base v (xs.set z.toNat ⟨l, (xs.getD z.toNat default).r⟩) → Pins G w' → w.grownBy w' v.ownBlock → w'.heap.size = w.heap.size → K undef w') : EO P ρ ⟨d, .store t x y, ty, pos, aft, g⟩ w K := by
 obtain ⟨w', h2, h3, h4, h5, h6⟩ := run_setNL (d := d) (ty := ty) (pos := pos) (aft := aft) (g := g) hs hx hy hu hP hv h0 h1
 exact EO.skip h2 (h w' h3 h4 h5 h6)
end
end Go.GL
