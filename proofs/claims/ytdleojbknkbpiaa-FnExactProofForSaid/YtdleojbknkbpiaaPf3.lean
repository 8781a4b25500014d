/- Texts of this claim in one file: Deep, Text, Table, Part, Game, Den, Map, Prf, Ord, Key, Sort, Sg, Pool, Opts, Load, Great, Uniq, Dom, PrfB, PrfD, B1. -/
import Derived.Test.YtdleojbknkbpiaaPf2
import Derived.Lib.SliceRun
import Derived.Lib.Join
import Derived.Carry
import Derived.MapKept
import Derived.Laws.BytesString
import Derived.Sort.Row
import Derived.Sort.Grow
import Derived.Lib.SlicesCompact
import Derived.Test.YtdleojbknkbpiaaChecked
namespace Go.GL
open Go Go.RowKit

def eVal2 : Elt (Value × Value) where
 size := 2
 rep := fun _ cs p => cs = [p.1, p.2] ∧ p.1.oneCell' = true ∧ p.2.oneCell' = true
 mono := fun _ h => h
 len := fun h => by rw [h.1]; rfl
 one := fun h u hu => by
  rw [h.1] at hu; simp at hu
  rcases hu with rfl | rfl
  ·exact h.2.1
  ·exact h.2.2
def Flat {α : Type} (E : Elt α) : Prop := ∀ {G G' : Pin} {cs : List Value} {x : α}, E.rep G cs x → E.rep G' cs x
theorem flat_int : Flat eInt := fun h => h
theorem flat_val2 : Flat eVal2 := fun h => h
theorem Own.anti {α : Type} {E : Elt α} {e base : Nat} {G G' : Pin} {w : World} {v : Value} {xs : List α} (hE : Flat E) (h : Own E e G' w base v xs) (hg : Pin.le G G') : Own E e G w base v xs := by
 obtain ⟨cells, h1, h2⟩ := h.ex
 exact ⟨⟨cells, h1, fun i x hx => hE (h2 i x hx)⟩, fun k hk o u hu => h.free k hk o u (hg _ _ _ hu)⟩
theorem RSl.conv {α β : Type} {E : Elt α} {F : Elt β} {G : Pin} {v : Value} {xs : List α} {ys : List β} (h : RSl E G v xs) (hl : ys.length = xs.length) (hs : F.size = E.size) (hr : ∀ (i : Nat) x y cs, xs[i]? = some x → ys[i]? = some y → E.rep G cs x → F.rep G cs y) : RSl F G v ys := by
 refine ⟨?_, fun i y hy => ?_⟩
 ·obtain ⟨a, c, h1, h2, h3⟩ := h.sl
  exact ⟨a, c, by rw [hl]; exact h1, by rw [hl]; exact h2, h3⟩
 ·have hi : i < xs.length := by have := (List.getElem?_eq_some_iff.1 hy).1; omega
  obtain ⟨a, b, o, n, c, cs, h1, h2, h3, h4⟩ := h.at_ i _ (List.getElem?_eq_getElem hi)
  exact ⟨a, b, o, n, c, cs, h1, by rw [hs]; exact h2, hr i _ y cs (List.getElem?_eq_getElem hi) hy h3, h4⟩

abbrev Leaf := Value × List Int
structure Lvs (e : Nat) (G : Pin) (w : World) (lo hi : Nat) (L : List Leaf) : Prop where
 own : ∀ p ∈ L, Own eInt e G w lo p.1 p.2
 hi : ∀ p ∈ L, ∀ k, p.1.ownBlock = some k → k < hi
 ap : L.Pairwise fun p q => Apart p.1.ownBlock q.1.ownBlock
def ApL (L : List Leaf) (x : Option Nat) : Prop := ∀ p ∈ L, Apart p.1.ownBlock x
section
variable {e lo hi : Nat} {G G' : Pin} {w w' : World} {L L' : List Leaf}
theorem Lvs.nil : Lvs e G w lo hi [] := ⟨fun _ hp => (List.not_mem_nil hp).elim, fun _ hp => (List.not_mem_nil hp).elim, List.Pairwise.nil⟩
theorem ApL.nil {x : Option Nat} : ApL [] x := fun _ hp => (List.not_mem_nil hp).elim
theorem Lvs.ge (h : Lvs e G w lo hi L) : ∀ p ∈ L, ∀ k, p.1.ownBlock = some k → lo ≤ k ∧ k < w.heap.size := fun p hp k hk => (h.own p hp).lt k hk
theorem Lvs.map (h : Lvs e G w lo hi L) (f : ∀ p ∈ L, Own eInt e G w lo p.1 p.2 → Own eInt e G' w' lo p.1 p.2) : Lvs e G' w' lo hi L := ⟨fun p hp => f p hp (h.own p hp), h.hi, h.ap⟩
theorem Lvs.below (h : Lvs e G w lo hi L) (hb : Below w.heap.size w w') : Lvs e G w' lo hi L := h.map fun _ _ ho => ho.below hb
theorem Lvs.ext (h : Lvs e G w lo hi L) (hx : Ext noS G w G' w') : Lvs e G' w' lo hi L := h.map fun _ _ ho => ho.ext hx
theorem Lvs.extS {S : Nat → Prop} (h : Lvs e G w lo hi L) (hx : Ext S G w G' w') (hS : ∀ k, lo ≤ k → k < hi → ¬ S k) : Lvs e G' w' lo hi L :=
 h.map fun p hp ho => ho.extS hx fun k hk => hS k (ho.lt k hk).1 (h.hi p hp k hk)
theorem Lvs.kept {row : Option Nat} (h : Lvs e G w lo hi L) (hg : w.grownBy w' row) (ha : ApL L row) : Lvs e G w' lo hi L := h.map fun p hp ho => ho.keptA hg (ha p hp)
theorem Lvs.more {b : Nat} (h : Lvs e G w lo hi L) (hl : Pin.le G G') (hf : ∀ k o u, G' k o u → G k o u ∨ k = b) (ha : ApL L (some b)) : Lvs e G' w lo hi L := h.map fun p hp ho => ho.moreA hl hf (ha p hp)
theorem Lvs.anti (h : Lvs e G' w lo hi L) (hg : Pin.le G G') : Lvs e G w lo hi L := h.map fun _ _ ho => ho.anti flat_int hg
theorem Lvs.weaken {lo' hi' : Nat} (h : Lvs e G w lo hi L) (hl : lo' ≤ lo) (hh : hi ≤ hi') : Lvs e G w lo' hi' L :=
 ⟨fun p hp => (h.own p hp).weaken hl, fun p hp k hk => Nat.lt_of_lt_of_le (h.hi p hp k hk) hh, h.ap⟩
theorem Lvs.top (h : Lvs e G w lo hi L) : Lvs e G w lo w.heap.size L := ⟨h.own, fun p hp k hk => ((h.own p hp).lt k hk).2, h.ap⟩
theorem Lvs.add {u : Value} {xs : List Int} (h : Lvs e G w lo w.heap.size L) (ho : Own eInt e G w lo u xs) (ha : ApL L u.ownBlock) : Lvs e G w lo w.heap.size (L ++ [(u, xs)]) := by
 refine ⟨fun p hp => ?_, fun p hp k hk => ?_, ?_⟩
 ·rcases List.mem_append.1 hp with h1 | h1
  ·exact h.own p h1
  ·simp at h1; subst h1; exact ho
 ·rcases List.mem_append.1 hp with h1 | h1
  ·exact h.hi p h1 k hk
  ·simp at h1; subst h1; exact (ho.lt k hk).2
 ·refine List.pairwise_append.2 ⟨h.ap, by simp, fun a ha' b hb => ?_⟩
  simp at hb; subst hb; exact ha a ha'
theorem ApL.add {u : Value} {xs : List Int} {x : Option Nat} (h : ApL L x) (hu : Apart u.ownBlock x) : ApL (L ++ [(u, xs)]) x := fun p hp => by
 rcases List.mem_append.1 hp with h1 | h1
 ·exact h p h1
 ·simp at h1; subst h1; exact hu
theorem ApL.fresh {x : Option Nat} (h : Lvs e G w lo hi L) (hx : ∀ k, x = some k → w.heap.size ≤ k) : ApL L x := fun p hp k hk hk' => by
 have h1 := ((h.own p hp).lt k hk).2; have h2 := hx k hk'; omega
theorem ApL.app {u v : Value} (h : Lvs e G w lo hi L) (ha : ApL L u.ownBlock) (hw : v.ownBlock = u.ownBlock ∨ ∃ k, v.ownBlock = some k ∧ w.heap.size ≤ k) : ApL L v.ownBlock := fun p hp =>
 app_ne_own (ha p hp) hw (fun k hk => (h.own p hp).lt k hk)
theorem Lvs.step {A B : List Leaf} {u : Value} {xs ys : List Int} (h : Lvs e G w lo hi (A ++ (u, xs) :: B)) (ho : Own eInt e G w' lo u ys) (hg : w.grownBy w' u.ownBlock) : Lvs e G w' lo hi (A ++ (u, ys) :: B) := by
 have hp := List.pairwise_append.1 h.ap
 have hq := List.pairwise_cons.1 hp.2.1
 refine ⟨fun p hm => ?_, fun p hm k hk => ?_, ?_⟩
 ·rcases List.mem_append.1 hm with h1 | h1
  ·exact (h.own p (List.mem_append_left _ h1)).keptA hg (hp.2.2 p h1 _ List.mem_cons_self)
  ·rcases List.mem_cons.1 h1 with rfl | h2
   ·exact ho
   ·exact (h.own p (List.mem_append_right _ (List.mem_cons_of_mem _ h2))).keptA hg (hq.1 p h2).symm
 ·rcases List.mem_append.1 hm with h1 | h1
  ·exact h.hi p (List.mem_append_left _ h1) k hk
  ·rcases List.mem_cons.1 h1 with rfl | h2
   ·exact h.hi (u, xs) (List.mem_append_right _ List.mem_cons_self) k hk
   ·exact h.hi p (List.mem_append_right _ (List.mem_cons_of_mem _ h2)) k hk
 ·refine List.pairwise_append.2 ⟨hp.1, List.pairwise_cons.2 ⟨hq.1, hq.2⟩, fun a ha b hb => ?_⟩
  rcases List.mem_cons.1 hb with rfl | h2
  ·exact hp.2.2 a ha (u, xs) List.mem_cons_self
  ·exact hp.2.2 a ha b (List.mem_cons_of_mem _ h2)
def GLv (G : Pin) (w : World) (L : List Leaf) : Pin := fun b o u => G b o u ∨ ((∃ p ∈ L, p.1.ownBlock = some b) ∧ w.cell? ⟨b, o, none⟩ = some u)
theorem GLv.le : Pin.le G (GLv G w L) := fun _ _ _ h => Or.inl h
theorem GLv.pins (h : Pins G w) : Pins (GLv G w L) w := fun b o u hu => by
 rcases hu with hu | hu
 ·exact h b o u hu
 ·exact hu.2
theorem Lvs.read (h : Lvs e G w lo hi L) {p : Leaf} (hp : p ∈ L) : RSl eInt (GLv G w L) p.1 p.2 :=
 (h.own p hp).read.mono fun b o u hu => by
  rcases hu with h1 | h1
  ·exact Or.inl h1
  ·exact Or.inr ⟨⟨p, hp, h1.1⟩, h1.2⟩
end


def lvN (ps : List (Value × Value)) (ns : List Nd) : List Leaf := (ps.zip ns).flatMap fun q => [(q.1.1, q.2.l), (q.1.2, q.2.r)]
structure DForm (en e : Nat) (G : Pin) (w : World) (lo hi : Nat) (v : Value) (ns : List Nd) : Prop where
 ex : ∃ ps, ps.length = ns.length ∧ Own eVal2 en G w lo v ps ∧ (∀ k, v.ownBlock = some k → k < hi) ∧ Lvs e G w lo hi (lvN ps ns) ∧ ApL (lvN ps ns) v.ownBlock
theorem lvN_snoc (ps : List (Value × Value)) (ns : List Nd) (p : Value × Value) (n : Nd) (h : ps.length = ns.length) : lvN (ps ++ [p]) (ns ++ [n]) = lvN ps ns ++ [(p.1, n.l)] ++ [(p.2, n.r)] := by
 unfold lvN
 rw [List.zip_append h, List.flatMap_append, List.append_assoc]; rfl
theorem lvN_mem {ps : List (Value × Value)} {ns : List Nd} {i : Nat} {p : Value × Value} {n : Nd} (hp : ps[i]? = some p) (hn : ns[i]? = some n) : (p.1, n.l) ∈ lvN ps ns ∧ (p.2, n.r) ∈ lvN ps ns := by
 have : (p, n) ∈ ps.zip ns := List.mem_of_getElem? (i := i) (by rw [List.getElem?_zip_eq_some]; exact ⟨hp, hn⟩)
 unfold lvN
 exact ⟨List.mem_flatMap.2 ⟨_, this, by simp⟩, List.mem_flatMap.2 ⟨_, this, by simp⟩⟩
section
variable {en e lo hi : Nat} {G G' : Pin} {w w' : World} {v : Value} {ns : List Nd}
theorem DForm.below (h : DForm en e G w lo hi v ns) (hb : Below w.heap.size w w') : DForm en e G w' lo hi v ns := by
 obtain ⟨ps, h1, h2, h3, h4, h5⟩ := h.ex
 exact ⟨⟨ps, h1, h2.below hb, h3, h4.below hb, h5⟩⟩
theorem DForm.ext (h : DForm en e G w lo hi v ns) (hx : Ext noS G w G' w') : DForm en e G' w' lo hi v ns := by
 obtain ⟨ps, h1, h2, h3, h4, h5⟩ := h.ex
 exact ⟨⟨ps, h1, h2.ext hx, h3, h4.ext hx, h5⟩⟩
theorem DForm.more {b : Nat} (h : DForm en e G w lo hi v ns) (hl : Pin.le G G') (hf : ∀ k o u, G' k o u → G k o u ∨ k = b) (hb : hi ≤ b ∨ b < lo) : DForm en e G' w lo hi v ns := by
 obtain ⟨ps, h1, h2, h3, h4, h5⟩ := h.ex
 exact ⟨⟨ps, h1, h2.moreA hl hf (fun k a c => by cases c; have := h3 _ a; have := (h2.lt _ a).1; omega), h3, h4.more hl hf (fun p hp k a c => by cases c; have := h4.hi p hp _ a; have := (h4.ge p hp _ a).1; omega), h5⟩⟩
theorem DForm.kept {b : Nat} (h : DForm en e G w lo hi v ns) (hg : w.grownBy w' (some b)) (hb : hi ≤ b ∨ b < lo) : DForm en e G w' lo hi v ns := by
 obtain ⟨ps, h1, h2, h3, h4, h5⟩ := h.ex
 exact ⟨⟨ps, h1, h2.keptA hg (fun k a c => by cases c; have := h3 _ a; have := (h2.lt _ a).1; omega), h3, h4.kept hg (fun p hp k a c => by cases c; have := h4.hi p hp _ a; have := (h4.ge p hp _ a).1; omega), h5⟩⟩
theorem DForm.read (h : DForm en e G w lo hi v ns) (hP : Pins G w) : ∃ G', Pin.le G G' ∧ Pins G' w ∧ RSl eNode G' v ns ∧ ∀ b o x, G' b o x → G b o x ∨ lo ≤ b := by
 obtain ⟨ps, h1, h2, h3, h4, h5⟩ := h.ex
 refine ⟨GLv (Gadd G w v) w (lvN ps ns), Pin.le_trans (Gadd.le _ _ _) GLv.le, GLv.pins (Gadd.pins hP v), (h2.read.mono GLv.le).conv h1.symm rfl fun i p n cs hp hn hr => ?_, fun b o x hx => ?_⟩
 rotate_left
 ·rcases hx with (a | a) | a
  ·exact Or.inl a
  ·exact Or.inr (h2.lt b a.1).1
  ·obtain ⟨⟨p, hp, hk⟩, _⟩ := a
   exact Or.inr ((h4.own p hp).lt b hk).1
 have hm := lvN_mem hp hn
 obtain ⟨rfl, _, _⟩ := hr
 have key : ∀ q ∈ lvN ps ns, RSl eInt (GLv (Gadd G w v) w (lvN ps ns)) q.1 q.2 := fun q hq =>
  (h4.read hq).mono fun b o u hu => by
   rcases hu with a | a
   ·exact Or.inl (Or.inl a)
   ·exact Or.inr a
 exact ⟨_, _, rfl, key _ hm.1, key _ hm.2⟩
end


section
variable {er e lo hi : Nat} {G G' : Pin} {w w' : World} {u v : Value} {ls rs : List (List Int)}
end


theorem Own.up {α : Type} {E : Elt α} {e base lo : Nat} {G : Pin} {w : World} {v : Value} {xs : List α} (h : Own E e G w base v xs) (hl : ∀ k, v.ownBlock = some k → lo ≤ k) : Own E e G w lo v xs := by
 obtain ⟨cells, ⟨hc, hown⟩, hr⟩ := h.ex
 refine ⟨⟨cells, ⟨hc, ?_⟩, hr⟩, h.free⟩
 rcases hown with hn | ⟨g, cap, cur, h1, h2, h3⟩
 ·exact .inl hn
 ·exact .inr ⟨g, cap, cur, h1, hl g (by rw [h1]; rfl), h3⟩
def inR (lo hi : Nat) (k : Nat) : Prop := lo ≤ k ∧ k < hi
def upL (k : Int) (n : Nat) : List Int := (List.range n).map fun i : Nat => k + (i : Int)
def markP (k : Int) (xs : List Int) (j : Nat) : List Int := upL k j ++ xs.drop j
theorem upL_length (k : Int) (n : Nat) : (upL k n).length = n := by simp [upL]
theorem upL_getD {k : Int} {n j : Nat} (h : j < n) : (upL k n).getD j 0 = k + (j : Int) := by simp [upL, List.getD, h]
theorem upL_succ (k : Int) (n : Nat) : upL k (n + 1) = upL k n ++ [k + (n : Int)] := by simp [upL, List.range_succ]
theorem markP_next {k q : Int} {xs : List Int} {j : Nat} (h : j < xs.length) (hq : q = k + (j : Int)) : (markP k xs j).set j q = markP k xs (j + 1) := by
 unfold markP
 rw [List.set_append_right _ _ (by rw [upL_length]; exact Nat.le_refl _), upL_length, Nat.sub_self, drop_getD xs 0 h, List.set_cons_zero, upL_succ, List.append_assoc, hq]
 rfl
theorem markP_end {k : Int} {xs : List Int} {j : Nat} (h : j = xs.length) : markP k xs j = upL k xs.length := by
 subst h; simp [markP]
def leafV (ps : List (Value × Value)) : List Value := ps.flatMap fun p => [p.1, p.2]
theorem leafV_mem {ps : List (Value × Value)} {j : Nat} (h : j < ps.length) : (ps.getD j default).1 ∈ leafV ps ∧ (ps.getD j default).2 ∈ leafV ps := by
 have : ps.getD j default ∈ ps := mem_getD_of h
 unfold leafV
 exact ⟨List.mem_flatMap.2 ⟨_, this, by simp⟩, List.mem_flatMap.2 ⟨_, this, by simp⟩⟩
theorem lvN_fst : ∀ {ps : List (Value × Value)} {ns : List Nd}, ps.length = ns.length → (lvN ps ns).map (·.1) = leafV ps
 | [], [], _ => rfl
 | p :: ps, n :: ns, h => by
  have := lvN_fst (ps := ps) (ns := ns) (by simpa using h)
  simp only [lvN, leafV, List.zip_cons_cons, List.flatMap_cons] at this ⊢
  rw [List.map_append, this]; rfl
 | [], n :: ns, h => by cases h
 | p :: ps, [], h => by cases h
section
variable {P : Program} {ρ : Operand → Value} {w : World} {d : Option Nat} {t e ty t' : Nat} {pos : String} {aft : Array Edge} {g : Option (Nat × Bool)} {x y : Operand}
end
theorem c_retct {P : Program} {n : Nat} {env : Nat → Value} {w : World} {fn : Func} {R : Ending → World → Prop} {s t b i : Nat} {cs : List Value} {v : Value} (hr : fn.results = #[.cell s t, .tmp i]) (hs : Nat.blt s n = true) (hi : Nat.blt i n = true) (hv : env s = .pointer (some ⟨b, 0, none⟩)) (hiv : env i = v) (ha : (P.underlying t).map aggD = some true) (hz : (P.info? t).map (·.size) = some cs.length)
  (hc : ∀ j u, cs[j]? = some u → w.cell? ⟨b, 0 + j, none⟩ = some u) (h : R (.returned (.tuple #[.agg cs.toArray, v])) w) : bodyPost P fn R .ret (F n env) w := by
 have h2 : s < n := by simpa [Nat.blt_eq] using hs
 have h3 : i < n := by simpa [Nat.blt_eq] using hi
 have hcell : ∀ j u, cs[j]? = some u → w.cell? ((⟨b, 0, none⟩ : Addr).add j) = some u := fun j u hj => by
  have := hc j u hj
  simp only [Addr.add]
  split
  ·simp_all
  ·exact this
 have hlv : (loadVar t ⟨b, 0, none⟩).run P w = .ok (.agg cs.toArray) w := by
  unfold loadVar
  simp only [Sem.run_bind, run_isAgg ha, Result.andThen_ok, if_true, run_sizeOf hz, run_loadCells_list (P := P) w ⟨b, 0, none⟩ cs hcell, Sem.run_pure]
 refine bodyPost_ret (v := .tuple #[.agg cs.toArray, v]) ?_ rfl h
 have he : (F n env).tmps[s]?.getD undef = .pointer (some ⟨b, 0, none⟩) := by simp [F, h2, hv]
 have he2 : (F n env).tmps[i]?.getD undef = v := by simp [F, h3, hiv]
 simp [results, hr, he, he2, asAddr, hlv]


def inV (us : List Value) (k : Nat) : Prop := ∃ u ∈ us, u.ownBlock = some k
theorem Ext.shrink {S : Nat → Prop} {G G' : Pin} {w w' : World} (h : Ext S G w G' w') : Ext S G w G w' :=
 ⟨Pin.le_refl _, fun b o u hu => h.pins b o u (h.le _ _ _ hu), fun _ _ _ hu => Or.inl hu, h.os, h.tape, h.output, h.size, h.block⟩
section
variable {e lo hi : Nat} {G G' : Pin} {w w' : World} {L L1 L2 : List Leaf}
theorem Own.extV {α : Type} {E : Elt α} {et base : Nat} {v : Value} {xs : List α} {us : List Value} (h : Own E et G w base v xs) (hx : Ext (inV us) G w G' w') (ha : ∀ a ∈ us, Apart a.ownBlock v.ownBlock) : Own E et G' w' base v xs :=
 h.extS hx fun k hk ⟨u, hu, hk'⟩ => ha u hu k hk' hk
theorem Lvs.inR (h : Lvs e G w lo hi L) {us : List Value} (hu : ∀ u ∈ us, u ∈ L.map (·.1)) : ∀ k, inV us k → Go.GL.inR lo hi k := fun k ⟨u, hu', hk⟩ => by
 obtain ⟨p, hp, rfl⟩ := List.mem_map.1 (hu u hu')
 exact ⟨((h.own p hp).lt k hk).1, h.hi p hp k hk⟩
end
theorem apl_fst {L : List Leaf} {us : List Value} {x : Option Nat} (h : ApL L x) (hl : L.map (·.1) = us) : ∀ a ∈ us, Apart a.ownBlock x := fun a ha => by
 subst hl
 obtain ⟨p, hp, rfl⟩ := List.mem_map.1 ha
 exact h p hp
theorem apl_of {L : List Leaf} {us : List Value} {x : Option Nat} (h : ∀ a ∈ us, Apart a.ownBlock x) (hl : L.map (·.1) = us) : ApL L x := fun p hp => h p.1 (by rw [← hl]; exact List.mem_map_of_mem hp)
theorem lvN_step {os : List (Value × Value)} {ns : List Nd} {j : Nat} {LV : List Leaf} {u v : Value} (h : LV = lvN (os.take j) (ns.take j)) (hj : j < ns.length) (hl : os.length = ns.length) :
  LV ++ [(u, (ns.getD j default).l)] ++ [(v, (ns.getD j default).r)] = lvN ((os.set j (u, v)).take (j + 1)) (ns.take (j + 1)) := by
 subst h
 have h1 : (os.set j (u, v)).take (j + 1) = os.take j ++ [(u, v)] := by
  rw [take_snoc (os.set j (u, v)) default (by simp; omega), List.take_set_of_le (Nat.le_refl _)]
  simp [List.getD, show j < os.length by omega]
 rw [h1, take_snoc ns default hj, lvN_snoc _ _ _ _ (by simp; omega)]


section
variable {en er e lo hi lo' hi' : Nat} {G Gx G' : Pin} {w w' : World} {u v : Value} {ns : List Nd} {ls rs : List (List Int)}
theorem mark_grown {u : Value} (h : Ext (inV [u]) G w G' w') : w.grownBy w' u.ownBlock :=
 ⟨h.os, h.tape, h.output, h.size, fun k hk hne => h.block k hk fun ⟨x, hx, hk'⟩ => by
  simp at hx; subst hx; exact hne hk'.symm⟩
theorem deep_back (hP : Pins G w) (hx : Ext noS Gx w G' w') : Ext noS G w G w' := ⟨Pin.le_refl _, hP.below hx.below, fun _ _ _ h => Or.inl h, hx.os, hx.tape, hx.output, hx.size, hx.block⟩
theorem DForm.wide (h : DForm en e G w lo hi v ns) (hl : lo' ≤ lo) (hh : hi ≤ hi') : DForm en e G w lo' hi' v ns := by
 obtain ⟨ps, h1, h2, h3, h4, h5⟩ := h.ex
 exact ⟨⟨ps, h1, h2.weaken hl, fun k hk => Nat.lt_of_lt_of_le (h3 k hk) hh, h4.weaken hl hh, h5⟩⟩
theorem DForm.one (h : DForm en e G w lo hi v ns) : v.oneCell' = true := by
 obtain ⟨ps, h1, h2, h3, h4, h5⟩ := h.ex
 exact h2.one
end
theorem Ext.promise {S : Nat → Prop} {A G G' : Pin} {w0 w : World} {lo : Nat} (h : Ext S A w0 G w) (hl : Pin.le G G') (hp : Pins G' w) (hf : ∀ b o x, G' b o x → G b o x ∨ lo ≤ b) (hlo : w0.heap.size ≤ lo) : Ext S A w0 G' w :=
 ⟨Pin.le_trans h.le hl, hp, fun b o u hu => by
  rcases hf b o u hu with a | a
  ·exact h.fresh b o u a
  ·exact Or.inr (Nat.le_trans hlo a), h.os, h.tape, h.output, h.size, h.block⟩
end Go.GL

namespace Go.GL
open Go Go.RowKit

section
variable {P : Program} {ρ : Operand → Value} {w : World} {d : Option Nat} {t e ty : Nat} {pos : String} {aft : Array Edge} {g : Option (Nat × Bool)} {x y : Operand}
theorem r_neqB_same {t' : Nat} {p : Bool} (ht : P.underlying t = some .bool) (hx : ρ x = .bool p) (hy : ρ y = .bool p) : (execOp ρ ⟨d, .binOp .neq t x y t', ty, pos, aft, g⟩).run P w = .ok (.value (.bool false)) w := by
 rw [r_neqB ht hx hy]; simp
theorem r_buildA {parts : Array (Nat × Operand)} {n m : Nat} {z : Value} (zs cs : List Value) (ps : List (Nat × Value × List Value)) (ht : P.underlying t = some (.array n e)) (hz : (P.info? t).bind (·.zero) = some z) (hzc : z.cells.toList = zs)
  (he : (P.info? e).map (·.size) = some m) (hpt : (parts.toList.map fun (i, x) => (i, ρ x)) = ps.map fun p => (p.1, p.2.1)) (hc : ∀ p ∈ ps, p.2.1.cells = p.2.2.toArray)
  (hf : fillL (fun i => some (i * m, m)) zs (ps.map fun p => (p.1, p.2.2)) = some cs) :
  (execOp ρ ⟨d, .build t parts, ty, pos, aft, g⟩).run P w = .ok (.value (.agg cs.toArray)) w := by
 obtain ⟨it, hit, hzz⟩ := Option.bind_eq_some_iff.1 hz
 obtain ⟨ie, hie, hm⟩ := Option.map_eq_some_iff.1 he
 subst hm
 have hb : P.built t (parts.map fun (i, x) => (i, ρ x)).toList = some cs.toArray := by
  unfold Program.built
  rw [hit, ht]
  simp only [hzz, hie]
  rw [Array.toList_map, hpt]
  have := fill_parts hc hf
  rw [← hzc] at this
  exact this
 have := Go.run_build (P := P) w t (parts.map fun (i, x) => (i, ρ x)) cs.toArray hb
 simp [execOp, this]
end

section
variable {P : Program} {ρ : Operand → Value} {w : World} {K : Value → World → Prop} {d : Option Nat} {t ty : Nat} {pos : String} {aft : Array Edge} {g : Option (Nat × Bool)} {x y : Operand} {G : Pin}
end




theorem GoodP.optsOk {ns : List Nd} (hg : GoodP ns) : OptsOk ns := opts_ok hg.opts
theorem goodOpts_len {l : List Int} {b : Int} (h : goodOpts l b = true) : l.length ≤ 24 := by
 unfold goodOpts at h
 split at h
 ·cases h
 ·omega
theorem GoodP.lenl {ns : List Nd} (hg : GoodP ns) {i : Nat} (hi : i < ns.length) : (ns.getD i default).l.length ≤ 24 := goodOpts_len (hg.opts i hi).1
theorem GoodP.lenr {ns : List Nd} (hg : GoodP ns) {i : Nat} (hi : i < ns.length) : (ns.getD i default).r.length ≤ 24 := goodOpts_len (hg.opts i hi).2
end Go.GL

namespace Go.GL
open Go Go.RowKit


def totN : List Nd → Int
 | [] => 0
 | n :: r => (n.l.length : Int) + (n.r.length : Int) + totN r
def markN : Int → List Nd → List Nd
 | _, [] => []
 | k, n :: r => ⟨upL k n.l.length, upL (k + (n.l.length : Int)) n.r.length⟩ :: markN (k + (n.l.length : Int) + (n.r.length : Int)) r
theorem markN_length : ∀ (k : Int) (l : List Nd), (markN k l).length = l.length
 | _, [] => rfl
 | k, x :: r => by simp [markN, markN_length]
theorem totN_nonneg : ∀ (l : List Nd), 0 ≤ totN l
 | [] => Int.le_refl _
 | x :: r => by have := totN_nonneg r; unfold totN; omega
theorem totN_next {l : List Nd} {j : Nat} (h : j < l.length) : totN (l.drop j) = ((l.getD j default).l.length : Int) + ((l.getD j default).r.length : Int) + totN (l.drop (j + 1)) := by
 rw [drop_getD l default h]; rfl
theorem totN_end {l : List Nd} {j : Nat} (h : l.length ≤ j) : totN (l.drop j) = 0 := by
 rw [List.drop_eq_nil_of_le h]; rfl
theorem lvN_next {ps : List (Value × Value)} {l : List Nd} {j : Nat} (hu : j < ps.length) (hl : j < l.length) :
  lvN (ps.drop j) (l.drop j) = ((ps.getD j default).1, (l.getD j default).l) :: ((ps.getD j default).2, (l.getD j default).r) :: lvN (ps.drop (j + 1)) (l.drop (j + 1)) := by
 rw [drop_getD ps default hu, drop_getD l default hl]; rfl
theorem lvN_markN {ps : List (Value × Value)} {k : Int} {l : List Nd} {j : Nat} (hu : j < ps.length) (hl : j < l.length) :
  lvN (ps.drop j) (markN k (l.drop j)) = ((ps.getD j default).1, upL k (l.getD j default).l.length) :: ((ps.getD j default).2, upL (k + ((l.getD j default).l.length : Int)) (l.getD j default).r.length) ::
   lvN (ps.drop (j + 1)) (markN (k + ((l.getD j default).l.length : Int) + ((l.getD j default).r.length : Int)) (l.drop (j + 1))) := by
 rw [drop_getD ps default hu, drop_getD l default hl]; rfl
theorem lvN_end {ps : List (Value × Value)} {l : List Nd} {j : Nat} (h : ps.length ≤ j) : lvN (ps.drop j) l = [] := by
 rw [List.drop_eq_nil_of_le h]; rfl
section
variable {en e lo hi : Nat} {G G' : Pin} {w w' : World} {v : Value} {ns : List Nd}
theorem DForm.mark (h : DForm en e G w lo hi v ns) : ∃ ps, Own eVal2 en G w 0 v ps ∧ ps.length = ns.length ∧ (∀ a ∈ leafV ps, Apart a.ownBlock v.ownBlock) ∧ Lvs e G w lo hi (lvN ps ns) ∧ (∀ k, inV (leafV ps) k → inR lo hi k) ∧
  ∀ {w' : World} {ns' : List Nd}, ns'.length = ns.length → Lvs e G w' lo hi (lvN ps ns') → Ext (inV (leafV ps)) G w G w' → DForm en e G w' lo hi v ns' := by
 obtain ⟨ps, h1, h2, h3, h4, h5⟩ := h.ex
 have hav : ∀ a ∈ leafV ps, Apart a.ownBlock v.ownBlock := apl_fst h5 (lvN_fst h1)
 refine ⟨ps, h2.weaken (Nat.zero_le _), h1, hav, h4, h4.inR fun u hu => by rw [lvN_fst h1]; exact hu, fun hl hL hx => ?_⟩
 have h1' := h1.trans hl.symm
 exact ⟨ps, h1', h2.extV hx hav, h3, hL, apl_of hav (lvN_fst h1')⟩
theorem DForm.extS {S : Nat → Prop} (h : DForm en e G w lo hi v ns) (hx : Ext S G w G' w') (hS : ∀ k, lo ≤ k → k < hi → ¬ S k) : DForm en e G' w' lo hi v ns := by
 obtain ⟨ps, h1, h2, h3, h4, h5⟩ := h.ex
 exact ⟨⟨ps, h1, h2.extS hx (fun k hk => hS k (h2.lt k hk).1 (h3 k hk)), h3, h4.extS hx hS, h5⟩⟩
theorem DForm.anti (h : DForm en e G' w lo hi v ns) (hg : Pin.le G G') : DForm en e G w lo hi v ns := by
 obtain ⟨ps, h1, h2, h3, h4, h5⟩ := h.ex
 exact ⟨⟨ps, h1, h2.anti flat_val2 hg, h3, h4.anti hg, h5⟩⟩
end


def DCh (en e : Nat) (G : Pin) (w : World) (R : Option Nat) : Nat → Nat → List Value → List (List Nd) → Prop
 | lo, hi, [], [] => lo ≤ hi
 | lo, hi, u :: us, f :: fs => ∃ l m, lo ≤ l ∧ l ≤ m ∧ (∀ b, R = some b → m ≤ b ∨ b < l) ∧ DForm en e G w l m u f ∧ DCh en e G w R m hi us fs
 | _, _, _, _ => False
section
variable {en e : Nat} {G G' : Pin} {w w' : World} {R R' : Option Nat}
theorem DCh.le : ∀ {lo hi : Nat} {us : List Value} {fs : List (List Nd)}, DCh en e G w R lo hi us fs → lo ≤ hi
 | _, _, [], [], h => h
 | _, _, _ :: _, _ :: _, ⟨_, _, h1, h2, _, _, h3⟩ => Nat.le_trans (Nat.le_trans h1 h2) h3.le
 | _, _, [], _ :: _, h => h.elim
 | _, _, _ :: _, [], h => h.elim
theorem DCh.map : ∀ {lo hi : Nat} {us : List Value} {fs : List (List Nd)}, DCh en e G w R lo hi us fs → (∀ l m u f, lo ≤ l → m ≤ hi → (∀ b, R = some b → m ≤ b ∨ b < l) → DForm en e G w l m u f → DForm en e G' w' l m u f) → DCh en e G' w' R lo hi us fs
 | _, _, [], [], h, _ => h
 | lo, hi, u :: us, f :: fs, ⟨l, m, h1, h0, hr, h2, h3⟩, hf => ⟨l, m, h1, h0, hr, hf _ _ _ _ h1 h3.le hr h2, h3.map fun l k u f hl hk hd => hf l k u f (by omega) hk hd⟩
 | _, _, [], _ :: _, h, _ => h.elim
 | _, _, _ :: _, [], h, _ => h.elim
end
section
variable {en ef e lo hi lo' hi' : Nat} {G G' : Pin} {w w' : World} {v : Value} {fs : List (List Nd)}
end


theorem szGo_tot {left : Int} : ∀ {ns : List Nd}, 0 ≤ szGo ns left → szGo ns left = left - totN ns
 | [], _ => by simp [szGo, totN]
 | n :: r, h => by
  unfold szGo at h ⊢
  split at h
  ·omega
  ·rename_i h1
   have ih := szGo_tot h
   rw [if_neg h1, ih]
   have e : szNd n left = left - n.l.length - n.r.length := by
    unfold szNd at h1 ⊢
    split at h1
    ·omega
    ·rename_i h2
     have a1 := szInts_le (xs := n.l) (left := left) (by omega)
     split at h1
     ·omega
     ·rename_i h3
      have a2 := szInts_le (xs := n.r) (left := szInts n.l left) (by omega)
      rw [if_neg h2, if_neg h3]; omega
   simp only [totN]
   omega
theorem szNds_tot {ns : List Nd} {left : Int} (h : ¬ szNds ns left < 0) : szNds ns left = left - ns.length - totN ns := by
 unfold szNds at h ⊢
 split at h
 ·omega
 ·rename_i h1
  rw [if_neg h1]
  have := szGo_tot (ns := ns) (left := left - ns.length) (by omega)
  omega


theorem good_form {ns : List Nd} (hg : GoodP ns) : FormOk ns := formOk_of (good_iff.2 hg).fits (good_iff.2 hg).rise


section
variable {P : Program} {ρ : Operand → Value} {w : World} {K : Value → World → Prop} {d : Option Nat} {t ty e : Nat} {pos : String} {aft : Array Edge} {g : Option (Nat × Bool)} {x y : Operand} {G : Pin} {v : Value}
end


section
variable {en ef e lo hi lo' hi' : Nat} {G G' : Pin} {w w' : World} {v : Value} {ns : List Nd} {us : List Value} {fs : List (List Nd)} {R : Option Nat}
theorem DCh.at : ∀ {lo hi j : Nat} {us : List Value} {fs : List (List Nd)}, DCh en e G w R lo hi us fs → j < fs.length → ∃ l m, lo ≤ l ∧ m ≤ hi ∧ (∀ b, R = some b → m ≤ b ∨ b < l) ∧ DForm en e G w l m (us.getD j default) (fs.getD j []) ∧
  ∀ {w' : World} {f' : List Nd}, Ext (inR l m) G w G w' → DForm en e G w' l m (us.getD j default) f' → DCh en e G w' R lo hi us (fs.set j f')
 | lo, hi, 0, u :: us, f :: fs, ⟨l, m, h1, h0, hr, h2, h3⟩, _ => ⟨l, m, h1, h3.le, hr, h2, fun hx hd => ⟨l, m, h1, h0, hr, hd, h3.map fun _ _ _ _ hl _ _ hq => hq.extS hx fun k h5 _ h7 => by have := h7.2; omega⟩⟩
 | lo, hi, j + 1, u :: us, f :: fs, ⟨l0, m0, h1, h0, hr, h2, h3⟩, hj => by
  obtain ⟨l, k, a1, a2, a3, a4, a5⟩ := h3.at (j := j) (by simpa using hj)
  exact ⟨l, k, by omega, a2, a3, by simpa using a4, fun hx hd => ⟨l0, m0, h1, h0, hr, h2.extS hx fun q _ h6 h7 => by have := h7.1; omega, a5 hx (by simpa using hd)⟩⟩
 | _, _, _, [], [], _, hj => (by simp at hj)
 | _, _, _, [], _ :: _, h, _ => h.elim
 | _, _, _, _ :: _, [], h, _ => h.elim
end
theorem cur_set {α : Type} {A B : List α} {j : Nat} {x : α} (d : α) (hl : A.length = B.length) (h : j < B.length) (hx : A.getD j d = x) : (A.take j ++ B.drop j).set j x = A.take (j + 1) ++ B.drop (j + 1) := by
 subst hx
 rw [List.set_append_right _ _ (by simp; omega), drop_getD B d h, take_snoc A d (by omega), show j - (List.take j A).length = 0 by simp; omega, List.set_cons_zero, List.append_assoc]; rfl
theorem cur_end {α : Type} {A B : List α} {j : Nat} (hl : A.length = B.length) (h : B.length ≤ j) : A.take j ++ B.drop j = A := by
 rw [List.drop_eq_nil_of_le h, List.append_nil, List.take_of_length_le (by omega)]


section
variable {α : Type} {E : Elt α} {e lo hi lo' hi' : Nat} {G G' : Pin} {w w' : World} {v : Value} {xs : List α}
end
section
variable {P : Program} {ρ : Operand → Value} {w : World} {K : Value → World → Prop} {d : Option Nat} {t ty e : Nat} {pos : String} {aft : Array Edge} {g : Option (Nat × Bool)} {x y : Operand} {G : Pin} {v : Value}
end
end Go.GL

namespace Go.GL

section
variable {ns : List Nd} (ho : OptsOk ns)
include ho
end




end Go.GL

namespace Go.GL
def loG (g i : Nat) : Prop := g.testBit (2 * i) = true
def roG (g i : Nat) : Prop := g.testBit (2 * i + 1) = true
theorem bit_lt {g k : Nat} (h : g.testBit k = true) : k < g := Nat.lt_of_lt_of_le Nat.lt_two_pow_self (Nat.ge_two_pow_of_testBit h)
theorem loG.lt {g i : Nat} (h : loG g i) : i < g := by have := bit_lt h; omega
theorem roG.lt {g i : Nat} (h : roG g i) : i < g := by have := bit_lt h; omega
theorem gext {a b : Nat} (hl : ∀ i, loG a i ↔ loG b i) (hr : ∀ i, roG a i ↔ roG b i) : a = b := by
 apply Nat.eq_of_testBit_eq
 intro k
 rcases Nat.mod_two_eq_zero_or_one k with h | h
 ·have e : k = 2 * (k / 2) := by omega
  have := hl (k / 2)
  unfold loG at this
  rw [← e] at this
  exact Bool.eq_iff_iff.2 this
 ·have e : k = 2 * (k / 2) + 1 := by omega
  have := hr (k / 2)
  unfold roG at this
  rw [← e] at this
  exact Bool.eq_iff_iff.2 this
def bitsG : List Nat → Nat
 | [] => 0
 | k :: l => 2 ^ k ||| bitsG l
theorem bits_at {k : Nat} : ∀ {l : List Nat}, (bitsG l).testBit k = true ↔ k ∈ l
 | [] => by simp [bitsG]
 | x :: l => by
  unfold bitsG
  rw [Nat.testBit_or, Bool.or_eq_true, bits_at (l := l), Nat.testBit_two_pow]
  simp only [decide_eq_true_eq, List.mem_cons]
  constructor
  ·rintro (h | h)
   ·exact Or.inl h.symm
   ·exact Or.inr h
  ·rintro (h | h)
   ·exact Or.inl h.symm
   ·exact Or.inr h
def mkG (l r : List Nat) : Nat := bitsG (l.map (2 * ·) ++ r.map (2 * · + 1))
theorem lo_mk {l r : List Nat} {i : Nat} : loG (mkG l r) i ↔ i ∈ l := by
 unfold loG mkG
 rw [bits_at, List.mem_append, List.mem_map, List.mem_map]
 constructor
 ·rintro (⟨a, ha, e⟩ | ⟨a, ha, e⟩)
  ·have : a = i := by omega
   rwa [← this]
  ·omega
 ·exact fun h => Or.inl ⟨i, h, rfl⟩
theorem ro_mk {l r : List Nat} {i : Nat} : roG (mkG l r) i ↔ i ∈ r := by
 unfold roG mkG
 rw [bits_at, List.mem_append, List.mem_map, List.mem_map]
 constructor
 ·rintro (⟨a, ha, e⟩ | ⟨a, ha, e⟩)
  ·omega
  ·have : a = i := by omega
   rwa [← this]
 ·exact fun h => Or.inr ⟨i, h, rfl⟩
theorem mk_congr {l r l' r' : List Nat} (hl : ∀ i, i ∈ l ↔ i ∈ l') (hr : ∀ i, i ∈ r ↔ i ∈ r') : mkG l r = mkG l' r' :=
 gext (fun i => by rw [lo_mk, lo_mk]; exact hl i) (fun i => by rw [ro_mk, ro_mk]; exact hr i)

def geG (a b : Nat) : Prop := (∀ r, (_h : roG a r) → ¬ geG b r) ∧ (∀ l, (_h : loG b l) → ¬ geG l a)
termination_by a + b
decreasing_by
 ·have := _h.lt; omega
 ·have := _h.lt; omega
theorem ge_iff {a b : Nat} : geG a b ↔ (∀ r, roG a r → ¬ geG b r) ∧ (∀ l, loG b l → ¬ geG l a) := by
 rw [geG]
theorem ge_not {a b : Nat} (h : ¬ geG a b) : (∃ r, roG a r ∧ geG b r) ∨ ∃ l, loG b l ∧ geG l a := by
 rw [ge_iff] at h
 by_cases h1 : ∃ r, roG a r ∧ geG b r
 ·exact Or.inl h1
 ·right
  apply Classical.byContradiction
  intro h2
  exact h ⟨fun r hr hg => h1 ⟨r, hr, hg⟩, fun l hl hg => h2 ⟨l, hl, hg⟩⟩



end Go.GL

namespace Go.GL
def stepD (acc : List Nat) (n : Nd) : List Nat := acc ++ [mkG (n.l.map fun z => acc.getD z.toNat 0) (n.r.map fun z => acc.getD z.toNat 0)]
def dens (ns : List Nd) : List Nat := ns.foldl stepD []
def den (ns : List Nd) (k : Nat) : Nat := (dens ns).getD k 0
theorem fold_len : ∀ (ns : List Nd) (acc : List Nat), (ns.foldl stepD acc).length = acc.length + ns.length
 | [], acc => by simp
 | n :: ns, acc => by rw [List.foldl_cons, fold_len ns]; simp [stepD]; omega
theorem fold_pre : ∀ (ns : List Nd) (acc : List Nat) (k : Nat), k < acc.length → (ns.foldl stepD acc).getD k 0 = acc.getD k 0
 | [], acc, k, h => rfl
 | n :: ns, acc, k, h => by
  rw [List.foldl_cons, fold_pre ns _ k (by simp [stepD]; omega)]
  exact getD_append_left h
theorem den_app {ns ms : List Nd} {k : Nat} (h : k < ns.length) : den (ns ++ ms) k = den ns k := by
 unfold den dens
 rw [List.foldl_append]
 exact fold_pre _ _ _ (by rw [fold_len]; simpa using h)
theorem den_take {ns : List Nd} {k m : Nat} (h : k < m) (hm : m ≤ ns.length) : den (ns.take m) k = den ns k := by
 have := den_app (ns := ns.take m) (ms := ns.drop m) (k := k) (by simp; omega)
 rw [List.take_append_drop] at this
 exact this.symm
theorem den_at {ns : List Nd} {k : Nat} (hk : k < ns.length) (hl : ∀ z ∈ (ns.getD k default).l, 0 ≤ z ∧ z < k) (hr : ∀ z ∈ (ns.getD k default).r, 0 ≤ z ∧ z < k) :
  den ns k = mkG ((ns.getD k default).l.map fun z => den ns z.toNat) ((ns.getD k default).r.map fun z => den ns z.toNat) := by
 rw [← den_take (m := k + 1) (by omega) (by omega), take_snoc ns default hk]
 unfold den dens
 rw [List.foldl_append]
 have hlen : ((ns.take k).foldl stepD []).length = k := by rw [fold_len]; simp; omega
 have e0 : ∀ (A : List Nat) (n : Nd), List.foldl stepD A [n] = A ++ [mkG (n.l.map fun z => A.getD z.toNat 0) (n.r.map fun z => A.getD z.toNat 0)] := fun _ _ => rfl
 rw [e0, getD_append_self hlen.symm]
 have e : ∀ z : Int, 0 ≤ z ∧ z < k → (List.foldl stepD [] (ns.take k)).getD z.toNat 0 = (List.foldl stepD [] ns).getD z.toNat 0 := fun z hz => den_take (ns := ns) (k := z.toNat) (m := k) (by omega) (by omega)
 rw [List.map_congr_left (g := fun z => (List.foldl stepD [] ns).getD z.toNat 0) fun z hz => e z (hl z hz)]
 rw [List.map_congr_left (l := (ns.getD k default).r) (g := fun z => (List.foldl stepD [] ns).getD z.toNat 0) fun z hz => e z (hr z hz)]
theorem den_opt {ns : List Nd} (ho : OptsOk ns) {k : Nat} (hk : k < ns.length) :
  den ns k = mkG ((ns.getD k default).l.map fun z => den ns z.toNat) ((ns.getD k default).r.map fun z => den ns z.toNat) := den_at hk (optsAt ho hk).1 (optsAt ho hk).2
theorem lo_den {ns : List Nd} (ho : OptsOk ns) {k x : Nat} (hk : k < ns.length) : loG (den ns k) x ↔ ∃ z ∈ (ns.getD k default).l, x = den ns z.toNat := by
 rw [den_opt ho hk, lo_mk, List.mem_map]
 exact ⟨fun ⟨z, h1, h2⟩ => ⟨z, h1, h2.symm⟩, fun ⟨z, h1, h2⟩ => ⟨z, h1, h2.symm⟩⟩
theorem ro_den {ns : List Nd} (ho : OptsOk ns) {k x : Nat} (hk : k < ns.length) : roG (den ns k) x ↔ ∃ z ∈ (ns.getD k default).r, x = den ns z.toNat := by
 rw [den_opt ho hk, ro_mk, List.mem_map]
 exact ⟨fun ⟨z, h1, h2⟩ => ⟨z, h1, h2.symm⟩, fun ⟨z, h1, h2⟩ => ⟨z, h1, h2.symm⟩⟩


structure Ar (ns : List Nd) (bs : List Int) : Prop where
 ok : BookOk ns bs
 rise : ∀ i, i < ns.length → (ns.getD i default).l.Pairwise (· < ·) ∧ (ns.getD i default).r.Pairwise (· < ·)
 diff : Diff ns
 born : BirthsOf ns bs
theorem Ar.opts {ns : List Nd} {bs : List Int} (h : Ar ns bs) : OptsOk ns := h.ok.optsOk
theorem Ar.empty : Ar [] [] := ⟨book_empty, fun i hi => absurd hi (Nat.not_lt_zero i), fun _ j _ hj => absurd hj (Nat.not_lt_zero j), rfl, fun k hk => absurd hk (Nat.not_lt_zero k)⟩
theorem putL_rise {n : Int} : ∀ {l : List Int}, l.Pairwise (· < ·) → (putL l n).Pairwise (· < ·)
 | [], _ => by simp [putL]
 | x :: r, h => by
  have h' := List.pairwise_cons.1 h
  unfold putL
  split
  ·rename_i hx
   refine List.pairwise_cons.2 ⟨fun k hk => ?_, putL_rise h'.2⟩
   rcases mem_putL.1 hk with rfl | hk
   ·exact hx
   ·exact h'.1 k hk
  ·split
   ·exact h
   ·rename_i h1 h2
    refine List.pairwise_cons.2 ⟨fun k hk => ?_, h⟩
    rcases List.mem_cons.1 hk with rfl | hk
    ·omega
    ·have := h'.1 k hk; omega
theorem sortL_rise (l : List Int) : (sortL l).Pairwise (· < ·) := by
 have key : ∀ (l a : List Int), a.Pairwise (· < ·) → (l.foldl putL a).Pairwise (· < ·) := by
  intro l
  induction l with
  | nil => intro a h; exact h
  | cons x r ih => intro a h; exact ih _ (putL_rise h)
 exact key l [] List.Pairwise.nil
theorem bornOf_le {bs : List Int} {m : Int} : ∀ {l : List Int} {b : Int}, bornOf bs l b ≤ m ↔ b ≤ m ∧ ∀ k ∈ l, bs.getD k.toNat 0 + 1 ≤ m
 | [], b => by simp [bornOf]
 | x :: r, b => by
  have e : bornOf bs (x :: r) b = bornOf bs r (max b (bs.getD x.toNat 0 + 1)) := rfl
  rw [e, bornOf_le (l := r)]
  simp only [List.mem_cons, forall_eq_or_imp]
  constructor
  ·rintro ⟨h1, h2⟩; exact ⟨by omega, by omega, h2⟩
  ·rintro ⟨h1, h2, h3⟩; exact ⟨by omega, h3⟩
theorem putBorn_le {bs l r : List Int} {m : Int} : putBorn bs l r ≤ m ↔ 0 ≤ m ∧ (∀ k ∈ l, bs.getD k.toNat 0 + 1 ≤ m) ∧ ∀ k ∈ r, bs.getD k.toNat 0 + 1 ≤ m := by
 unfold putBorn
 rw [bornOf_le, bornOf_le, and_assoc]
theorem putBorn_sort {bs l r : List Int} : putBorn bs (sortL l) (sortL r) = putBorn bs l r := by
 apply Int.le_antisymm
 ·rw [putBorn_le]
  have := putBorn_le (bs := bs) (l := l) (r := r).1 (Int.le_refl _)
  exact ⟨this.1, fun k hk => this.2.1 k (mem_sortL.1 hk), fun k hk => this.2.2 k (mem_sortL.1 hk)⟩
 ·rw [putBorn_le]
  have := putBorn_le (bs := bs) (l := sortL l) (r := sortL r).1 (Int.le_refl _)
  exact ⟨this.1, fun k hk => this.2.1 k (mem_sortL.2 hk), fun k hk => this.2.2 k (mem_sortL.2 hk)⟩
theorem Ar.put {ns : List Nd} {bs xs ys : List Int} (h : Ar ns bs) (hl : ns.length + 1 ≤ 1048576) (hls : xs.length ≤ 1048576 ∧ ys.length ≤ 1048576) (h1 : ∀ i, i < xs.length → 0 ≤ xs.getD i 0 ∧ xs.getD i 0 < ns.length) (h2 : ∀ i, i < ys.length → 0 ≤ ys.getD i 0 ∧ ys.getD i 0 < ns.length) :
  Ar (putN ns bs xs ys) (putB ns bs xs ys) ∧ den (putN ns bs xs ys) (putK ns bs xs ys).toNat = mkG (xs.map fun z => den ns z.toNat) (ys.map fun z => den ns z.toNat) ∧ ∀ k, k < ns.length → den (putN ns bs xs ys) k = den ns k := by
 have hb := h.ok.put hl hls h1 h2
 have hm1 := mem_of_getD (P := fun k => 0 ≤ k ∧ k < (ns.length : Int)) h1
 have hm2 := mem_of_getD (P := fun k => 0 ≤ k ∧ k < (ns.length : Int)) h2
 have hsort : ∀ (f : Int → Nat), mkG ((sortL xs).map f) ((sortL ys).map f) = mkG (xs.map f) (ys.map f) := fun f => mk_congr
  (fun i => by simp only [List.mem_map, mem_sortL]) (fun i => by simp only [List.mem_map, mem_sortL])
 unfold putN putB putK at hb ⊢
 cases hf : findK ns bs (putNd xs ys) (putBorn bs xs ys) with
 | some k =>
  rw [hf] at hb
  simp only at hb ⊢
  have hmem := List.mem_of_find?_eq_some hf
  have hdec := List.find?_some hf
  have hk : k < ns.length := by simpa using hmem
  have hd : bs.getD k 0 = putBorn bs xs ys ∧ (ns.getD k default).l = sortL xs ∧ (ns.getD k default).r = sortL ys := of_decide_eq_true hdec
  refine ⟨h, ?_, fun k _ => by trivial⟩
  rw [Int.toNat_natCast, den_opt h.opts hk, hd.2.1, hd.2.2]
  exact hsort _
 | none =>
  rw [hf] at hb
  simp only at hb ⊢
  have hlen := h.ok.len
  have hnew : ∀ i, i < ns.length → ns.getD i default ≠ putNd xs ys := fun i hi e => by
   have hn := List.find?_eq_none.1 hf i (List.mem_range.2 hi)
   apply hn
   refine decide_eq_true ⟨?_, by rw [e], by rw [e]⟩
   rw [h.born.2 i hi, e]
   exact putBorn_sort
  have hat : ∀ i, i < ns.length → (ns ++ [putNd xs ys]).getD i default = ns.getD i default := fun i hi => getD_append_left hi
  have hself : (ns ++ [putNd xs ys]).getD ns.length default = putNd xs ys := getD_append_self rfl
  have hlast : ∀ i, i < (ns ++ [putNd xs ys]).length → i < ns.length ∨ i = ns.length := fun i hi => by simp at hi; omega
  have hbat : ∀ i, i < ns.length → (bs ++ [putBorn bs xs ys]).getD i 0 = bs.getD i 0 := fun i hi => getD_append_left (by omega)
  refine ⟨⟨hb.1, fun i hi => ?_, fun i j hij hj => ?_, by simp [hlen], fun k hk => ?_⟩, ?_, fun k hk => den_app hk⟩
  ·rcases hlast i hi with hi' | rfl
   ·rw [hat i hi']; exact h.rise i hi'
   ·rw [hself]; exact ⟨sortL_rise _, sortL_rise _⟩
  ·rcases hlast j hj with hj' | rfl
   ·rw [hat i (by omega), hat j hj']; exact h.diff i j hij hj'
   ·rw [hat i hij, hself]; exact hnew i hij
  ·rcases hlast k hk with hk' | rfl
   ·have ho := optsAt h.opts hk'
    rw [hat k hk', hbat k hk', h.born.2 k hk']
    exact putBorn_congr (fun z hz => (hbat z.toNat (by have := ho.1 z hz; omega)).symm) (fun z hz => (hbat z.toNat (by have := ho.2 z hz; omega)).symm)
   ·rw [hself, getD_append_self hlen.symm]
    refine putBorn_sort.symm.trans (putBorn_congr (fun z hz => (hbat z.toNat ?_).symm) (fun z hz => (hbat z.toNat ?_).symm))
    ·have := hm1 z (mem_sortL.1 hz); omega
    ·have := hm2 z (mem_sortL.1 hz); omega
  ·rw [Int.toNat_natCast, den_at (by simp) (by rw [hself]; exact fun z hz => hm1 z (mem_sortL.1 hz)) (by rw [hself]; exact fun z hz => hm2 z (mem_sortL.1 hz)), hself]
   have e : ∀ l : List Int, (∀ z ∈ l, 0 ≤ z ∧ z < (ns.length : Int)) → (sortL l).map (fun z => den (ns ++ [putNd xs ys]) z.toNat) = (sortL l).map fun z => den ns z.toNat := fun l hm =>
    List.map_congr_left fun z hz => den_app (by have := hm z (mem_sortL.1 hz); omega)
   have e1 : (putNd xs ys).l = sortL xs := rfl
   have e2 : (putNd xs ys).r = sortL ys := rfl
   rw [e1, e2, e xs hm1, e ys hm2]
   exact hsort _
structure AddD (ns : List Nd) (fs : List Nd) (k : Nat) (s : List Int × List Nd × List Int) : Prop where
 ar : Ar s.2.1 s.2.2
 is : ∀ i, i < k → den s.2.1 (s.1.getD i 0).toNat = den fs i
 old : ∀ i, i < ns.length → den s.2.1 i = den ns i
theorem addM_den {ns : List Nd} {bs : List Int} {fs : List Nd} (h : Ar ns bs) (hf : FormOk fs) (hl : ns.length + fs.length ≤ 1048576) : ∀ k, k ≤ fs.length → AddD ns fs k (addM ns bs (fs.take k)) := by
 intro k
 induction k with
 | zero => intro _; exact ⟨h, fun i hi => absurd hi (Nat.not_lt_zero i), fun i _ => rfl⟩
 | succ k ih =>
  intro hk
  have ih := ih (by omega)
  have ha := addM_ok h.ok hf hl k (by omega)
  rw [addM_next (by omega)]
  generalize addM ns bs (fs.take k) = s at ih ha
  obtain ⟨asx, ns2, bs2⟩ := s
  have a1 := ha.at1 hf (show k < fs.length by omega)
  have hhi := ha.hi
  simp only at hhi
  have hp := ih.ar.put (xs := atL asx (fs.getD k default).l) (ys := atL asx (fs.getD k default).r) (by simp only; omega) (by have := hf.lens k (by omega); rw [at_length, at_length]; omega) (at_bounds ha.places a1.1) (at_bounds ha.places a1.2)
  have hlo := ha.lo
  have hal := ha.len
  simp only at hp ih hlo hal
  refine ⟨hp.1, fun i hi => ?_, fun i hi => ?_⟩
  ·show den (putN ns2 bs2 _ _) ((asx ++ [_]).getD i 0).toNat = den fs i
   by_cases he : i < k
   ·rw [getD_append_left (by omega), hp.2.2 _ (by have := ha.places i (by simp only; omega); simp only at this; omega)]
    exact ih.is i he
   ·have e : i = k := by omega
    subst e
    rw [getD_append_self hal.symm, hp.2.1, den_opt hf.opts (by omega)]
    have oo := optsAt hf.opts (show i < fs.length by omega)
    have em : ∀ l : List Int, (∀ z ∈ l, 0 ≤ z ∧ z < (i : Int)) → (atL asx l).map (fun z => den ns2 z.toNat) = l.map fun z => den fs z.toNat := fun l hm => by
     unfold atL
     rw [List.map_map]
     exact List.map_congr_left fun z hz => ih.is z.toNat (by have := hm z hz; omega)
    rw [em _ oo.1, em _ oo.2]
  ·show den (putN ns2 bs2 _ _) i = den ns i
   rw [hp.2.2 i (by omega)]
   exact ih.old i hi
theorem Ar.add {ns : List Nd} {bs : List Int} {fs : List Nd} (h : Ar ns bs) (hf : FormOk fs) (hl : ns.length + fs.length ≤ 1048576) : AddD ns fs fs.length (addM ns bs fs) := by
 have := addM_den h hf hl fs.length (Nat.le_refl _)
 rwa [List.take_length] at this
def gOf (fs : List Nd) : Nat := den fs (fs.length - 1)
theorem Ar.root {ns : List Nd} {bs : List Int} {fs : List Nd} (h : Ar ns bs) (hf : FormOk fs) (h1 : 1 ≤ fs.length) (hl : ns.length + fs.length ≤ 1048576) : den (addM ns bs fs).2.1 (rootM ns bs fs).toNat = gOf fs := by
 unfold rootM gOf
 have ha := addM_all h.ok hf hl
 rw [ha.len]
 exact (h.add hf hl).is _ (by omega)
end Go.GL

namespace Go.GL
open Go Go.RowKit


section
variable {κ ν : Type} [DecidableEq κ]
def look (l : List (κ × ν)) (k : κ) : Option ν := (l.find? fun p => decide (p.1 = k)).map (·.2)
def putE : List (κ × ν) → κ → ν → List (κ × ν)
 | [], k, v => [(k, v)]
 | p :: r, k, v => if k = p.1 then (k, v) :: r else p :: putE r k v
def findE : List (κ × ν) → κ → Nat → Option (Nat × ν)
 | [], _, _ => none
 | p :: r, k, i => if k = p.1 then some (i, p.2) else findE r k (i + 1)
theorem findE_look (k : κ) : ∀ (l : List (κ × ν)) (i : Nat), (findE l k i).map (·.2) = look l k
 | [], _ => rfl
 | p :: r, i => by
  unfold findE look
  by_cases h : k = p.1
  ·rw [if_pos h, List.find?_cons_of_pos (by simp [h])]; rfl
  ·rw [if_neg h, List.find?_cons_of_neg (by simp [Ne.symm h])]; exact findE_look k r (i + 1)
theorem look_nil (k : κ) : look ([] : List (κ × ν)) k = none := rfl
theorem look_cons (p : κ × ν) (r : List (κ × ν)) (k : κ) : look (p :: r) k = if k = p.1 then some p.2 else look r k := by
 unfold look
 by_cases h : k = p.1
 ·rw [List.find?_cons_of_pos (by simp [h]), if_pos h]; rfl
 ·rw [List.find?_cons_of_neg (by simp [Ne.symm h]), if_neg h]
theorem look_put (k k' : κ) (v : ν) : ∀ (l : List (κ × ν)), look (putE l k v) k' = if k' = k then some v else look l k'
 | [] => by
  unfold putE
  rw [look_cons]
 | p :: r => by
  unfold putE
  by_cases h : k = p.1
  ·rw [if_pos h, look_cons, look_cons]
   by_cases h2 : k' = k
   ·rw [if_pos h2, if_pos h2]
   ·rw [if_neg h2, if_neg h2, if_neg (by rw [← h]; exact h2)]
  ·rw [if_neg h, look_cons, look_cons, look_put k k' v r]
   by_cases h2 : k' = p.1
   ·rw [if_pos h2, if_pos h2, if_neg (by rw [h2]; exact Ne.symm h)]
   ·rw [if_neg h2, if_neg h2]
theorem putE_none {k : κ} {v : ν} : ∀ {l : List (κ × ν)} {i : Nat}, findE l k i = none → putE l k v = l ++ [(k, v)]
 | [], _, _ => rfl
 | p :: r, i, h => by
  unfold findE at h
  split at h
  ·cases h
  ·rename_i hk
   unfold putE
   rw [if_neg hk, putE_none h]; rfl
theorem putE_some {k : κ} {v : ν} : ∀ {l : List (κ × ν)} {i j : Nat} {u : ν}, findE l k i = some (j, u) → i ≤ j ∧ (∃ p, l[j - i]? = some p ∧ p.1 = k) ∧ putE l k v = l.set (j - i) (k, v)
 | [], _, _, _, h => by cases h
 | p :: r, i, j, u, h => by
  unfold findE at h
  split at h
  ·rename_i hk
   simp only [Option.some.injEq, Prod.mk.injEq] at h
   obtain ⟨rfl, rfl⟩ := h
   refine ⟨Nat.le_refl _, ⟨p, by simp, hk.symm⟩, ?_⟩
   unfold putE
   rw [if_pos hk, Nat.sub_self]; rfl
  ·rename_i hk
   obtain ⟨h1, ⟨q, h2, h3⟩, h4⟩ := putE_some (v := v) h
   have e : j - i = (j - (i + 1)) + 1 := by omega
   refine ⟨by omega, ⟨q, by rw [e, List.getElem?_cons_succ]; exact h2, h3⟩, ?_⟩
   unfold putE
   rw [if_neg hk, h4, e]; rfl
theorem putE_map {μ : Type} {f : ν → μ} (k : κ) (v : ν) : ∀ (l : List (κ × ν)), putE (l.map fun p => (p.1, f p.2)) k (f v) = (putE l k v).map fun p => (p.1, f p.2)
 | [] => rfl
 | p :: r => by
  rw [List.map_cons]
  unfold putE
  by_cases h : k = p.1
  ·rw [if_pos h, if_pos h]; rfl
  ·rw [if_neg h, if_neg h, putE_map k v r]; rfl
end


structure KeyK {κ : Type} [DecidableEq κ] (P : Program) (kt : TypeId) (enc : κ → Value) : Prop where
 check : ∀ (b : Bool) (k : κ) (w : World), (Instr.checkKey b 10000 kt (enc k)).run P w = .ok () w
 find : ∀ (k : κ) (es : List MapEntry) (l : List (κ × Value)) (w : World), es.map (fun e => (e.key, e.val)) = l.map (fun p => (enc p.1, p.2)) → (Instr.findKey kt (enc k) es).run P w = .ok (findE l k 0) w
 same : ∀ (k : κ), Instr.sameBits 10000 (enc k) (enc k) = true
section
variable {P : Program}
theorem check_int {kt : TypeId} (h : P.underlying kt = some (.int .i64)) (b : Bool) (n : Nat) (k : Int) (w : World) : (Instr.checkKey b (n + 1) kt (.int .i64 k)).run P w = .ok () w := by
 rw [Instr.checkKey]
 simp only [Sem.run_bind, run_underlying h, Result.andThen_ok]
 rfl
theorem getObj_at {w : World} {r : Nat} {es : Array MapEntry} {c : Nat} (h : w.heap[r]? = some (.map es c)) : (getObj r).run P w = .ok (.map es c) w := by simp [getObj, Sem.run, h]
theorem check_pair {kt e : TypeId} (h : P.underlying kt = some (.array 2 e)) (he : P.underlying e = some (.int .i64)) (hs : (P.info? e).map (·.size) = some 1) (b : Bool) (n : Nat) (k : Int × Int) (w : World) :
  (Instr.checkKey b (n + 1 + 1) kt (.agg #[.int .i64 k.1, .int .i64 k.2])).run P w = .ok () w := by
 have ha : (P.underlying e).map aggD = some false := by rw [he]; rfl
 have hpart : ∀ (u v : Int) (i : Nat) (z : Int), (#[Value.int .i64 u, .int .i64 v] : Array Value)[i]? = some (.int .i64 z) → (part e #[.int .i64 u, .int .i64 v] i).run P w = .ok (.int .i64 z) w := fun u v i z hk => by
  unfold part
  simp only [Sem.run_bind, run_isAgg ha, Result.andThen_ok]
  simp [hk]
 have hin : ∀ z : Int, (Instr.checkKey b (n + 1) e (.int .i64 z)).run P w = .ok () w := fun z => check_int he b n z w
 rw [Instr.checkKey]
 simp only [Sem.run_bind, run_underlying h, Result.andThen_ok]
 simp [Std.Legacy.Range.forIn_eq_forIn_range', Std.Legacy.Range.size, List.range', run_sizeOf hs, hpart k.1 k.2 0 k.1 rfl, hpart k.1 k.2 1 k.2 rfl, hin]
def encP2 (k : Int × Int) : Value := .agg #[.int .i64 k.1, .int .i64 k.2]
theorem key_pair {kt e : TypeId} (h : P.underlying kt = some (.array 2 e)) (he : P.underlying e = some (.int .i64)) (hs : (P.info? e).map (·.size) = some 1) : KeyK P kt encP2 where
 check := fun b k w => check_pair h he hs b 9998 k w
 find := fun k es l w hl => by
  have hask : ∀ (es : List MapEntry) (l : List ((Int × Int) × Value)) (i : Nat), es.map (fun e => (e.key, e.val)) = l.map (fun p => (encP2 p.1, p.2)) → (Instr.findAsking kt (encP2 k) es i).run P w = .ok (findE l k i) w := by
   intro es
   induction es with
   | nil => intro l i hl; cases l with | nil => rfl | cons p r => cases hl
   | cons x r ih =>
    intro l i hl
    cases l with
    | nil => cases hl
    | cons p q =>
     simp only [List.map_cons, List.cons.injEq, Prod.mk.injEq] at hl
     obtain ⟨⟨h1, h2⟩, h3⟩ := hl
     have heq : (Op.equal kt (encP2 k) (encP2 p.1)).run P w = .ok (decide (k = p.1)) w := run_equalIn_pair (w := w) 9998 h he hs
     unfold Instr.findAsking findE
     rw [h1]
     simp only [Sem.run_bind, heq, Result.andThen_ok]
     by_cases hk : k = p.1
     ·simp [hk, h2]
     ·simp only [hk, decide_false, if_false, Bool.false_eq_true]
      exact ih q (i + 1) h3
  unfold Instr.findKey
  simp only [Sem.run_bind, run_underlying h, Result.andThen_ok]
  match es, l, hl with
  | [], [], _ => rfl
  | x :: r, p :: q, hl =>
   have hx : x.key = encP2 p.1 := by simp only [List.map_cons, List.cons.injEq, Prod.mk.injEq] at hl; exact hl.1.1
   have : Instr.findNow (.array 2 e) (encP2 k) (x :: r) 0 = none := by
    unfold Instr.findNow
    rw [hx]; rfl
   rw [this]
   exact hask (x :: r) (p :: q) 0 hl
  | [], p :: q, hl => cases hl
  | x :: r, [], hl => cases hl
 same := fun k => by show Instr.sameBits (9998 + 1 + 1) _ _ = true; simp [encP2, Instr.sameBits]
end


structure Mp {κ ν : Type} (enc : κ → Value) (val : ν → Value) (w : World) (m : Nat) (l : List (κ × ν)) : Prop where
 heap : ∃ es clock, w.heap[m]? = some (.map es clock) ∧ es.toList.map (fun e => (e.key, e.val)) = l.map fun p => (enc p.1, val p.2)
section
variable {κ ν : Type} {enc : κ → Value} {val : ν → Value} {w w' : World} {m : Nat} {l : List (κ × ν)}
theorem Mp.lt (h : Mp enc val w m l) : m < w.heap.size := by
 obtain ⟨es, c, h1, _⟩ := h.heap
 exact (Array.getElem?_eq_some_iff.1 h1).1
theorem Mp.keep (h : Mp enc val w m l) (hb : w'.heap[m]? = w.heap[m]?) : Mp enc val w' m l := by
 obtain ⟨es, c, h1, h2⟩ := h.heap
 exact ⟨es, c, hb.trans h1, h2⟩
theorem Mp.below (h : Mp enc val w m l) (hb : Below w.heap.size w w') : Mp enc val w' m l := h.keep (hb.block m h.lt)
theorem Mp.kept {row : Option Nat} (h : Mp enc val w m l) (hg : w.grownBy w' row) (hne : Apart (some m) row) : Mp enc val w' m l :=
 h.keep (hg.block m h.lt fun e => hne m rfl e.symm)
theorem Mp.free {G : Pin} (h : Mp enc val w m l) (hP : Pins G w) : ∀ o u, ¬ G m o u := fun o u hg => by
 obtain ⟨es, c, h1, _⟩ := h.heap
 have := hP m o u hg
 simp [World.cell?, h1] at this
end
theorem map_ne_own {α : Type} {E : Elt α} {e : Nat} {G : Pin} {w : World} {base : Nat} {v : Value} {xs : List α} {κ ν : Type} {enc : κ → Value} {val : ν → Value} {m : Nat} {l : List (κ × ν)} (h : Mp enc val w m l) (ho : Own E e G w base v xs) : Apart (some m) v.ownBlock := fun k hk hv => by
 cases hk
 obtain ⟨es, c, h1, _⟩ := h.heap
 obtain ⟨cells, ⟨hl, hown⟩, hr⟩ := ho.ex
 rcases hown with ⟨rfl, _⟩ | ⟨g, cap, cur, rfl, _, hg, _⟩
 ·cases hv
 ·have : g = m := by simpa [Value.ownBlock] using hv
  subst this
  rw [h1] at hg; cases hg
theorem map_ne_box {G : Pin} {w : World} {b : Nat} {cs : List Value} {κ ν : Type} {enc : κ → Value} {val : ν → Value} {m : Nat} {l : List (κ × ν)} (h : Mp enc val w m l) (hb : Bx G w b cs) : Apart (some m) (some b) := fun k hk hv => by
 cases hk; cases hv
 obtain ⟨es, c, h1, _⟩ := h.heap
 obtain ⟨T, hT⟩ := hb.heap
 rw [h1] at hT; cases hT
section
variable {P : Program} {ρ : Operand → Value} {w : World} {K : Value → World → Prop} {d : Option Nat} {t kt et ty : Nat} {pos : String} {aft : Array Edge} {g : Option (Nat × Bool)} {x y z : Operand} {G : Pin}
 {κ ν : Type} [DecidableEq κ] {enc : κ → Value} {val : ν → Value} {m : Nat} {l : List (κ × ν)}
omit [DecidableEq κ] in
theorem o_makeMap (enc : κ → Value) (val : ν → Value) (hP : Pins G w) (h : ∀ m w', m = w.heap.size → Mp enc val w' m [] → Pins G w' → Below w.heap.size w w' → K (.map (some m)) w') : EO P ρ ⟨d, .makeMap t none, ty, pos, aft, g⟩ w K := by
 have hb : Below w.heap.size w (w.alloc (.map #[] 0)) := (Below.refl _ _).alloc (Nat.le_refl _) _
 refine EO.run (v := .map (some w.heap.size)) (w' := w.alloc (.map #[] 0)) ?_ (h _ _ rfl ⟨#[], 0, ?_, rfl⟩ (hP.below hb) hb)
 ·simp [execOp, run_makeMap]
 ·exact heap_alloc_new w _
theorem run_look (hk : KeyK P kt enc) (ht : P.underlying t = some (.map kt et)) {zv : Value} (hz : (P.info? et).bind (·.zero) = some zv) (hm : Mp enc val w m l) {k : κ} (hx : ρ x = .map (some m)) (hy : ρ y = enc k) :
  (execOp ρ ⟨d, .lookup t x y true, ty, pos, aft, g⟩).run P w = .ok (.value (.tuple #[((look l k).map val).getD zv, .bool (look l k).isSome])) w := by
 obtain ⟨es, c, h1, h2⟩ := hm.heap
 obtain ⟨it, hit, hzz⟩ := Option.bind_eq_some_iff.1 hz
 have hzv : (zeroValue et).run P w = .ok zv w := by simp [zeroValue, typeInfo, hit, hzz]
 have h2' : es.toList.map (fun e => (e.key, e.val)) = (l.map fun p => (p.1, val p.2)).map fun p => (enc p.1, p.2) := by rw [h2, List.map_map]; rfl
 have hf := hk.find k es.toList _ w h2'
 have hl : look (l.map fun p => (p.1, val p.2)) k = (look l k).map val := by
  unfold look
  rw [List.find?_map, Option.map_map, Option.map_map]; rfl
 have hfl := findE_look k (l.map fun p => (p.1, val p.2)) 0
 rw [hl] at hfl
 have hrun : (Instr.lookup t (.map (some m)) (enc k) true).run P w = .ok (.tuple #[((look l k).map val).getD zv, .bool (look l k).isSome]) w := by
  unfold Instr.lookup
  simp only [Sem.run_bind, run_underlying ht, Result.andThen_ok, getObj_at h1, Sem.run_pure, hk.check, hf]
  cases hq : findE (l.map fun p => (p.1, val p.2)) k 0 with
  | none =>
   rw [hq] at hfl
   have hn : look l k = none := by
    cases hh : look l k with
    | none => rfl
    | some v => rw [hh] at hfl; cases hfl
   simp [hzv, hn]
  | some r =>
   rw [hq] at hfl
   cases hh : look l k with
   | none => rw [hh] at hfl; cases hfl
   | some v =>
    rw [hh] at hfl
    simp only [Option.map_some, Option.some.injEq] at hfl
    simp [hfl]
 simp [execOp, hx, hy, hrun]
theorem run_lookv_int {l : List (κ × Int)} (hk : KeyK P kt enc) (ht : P.underlying t = some (.map kt et)) (hz : (P.info? et).bind (·.zero) = some (.int .i64 0)) (hm : Mp enc (fun v : Int => Value.int .i64 v) w m l) {k : κ} (hx : ρ x = .map (some m)) (hy : ρ y = enc k) :
  (execOp ρ ⟨d, .lookup t x y true, ty, pos, aft, g⟩).run P w = .ok (.value (.tuple #[.int .i64 ((look l k).getD 0), .bool (look l k).isSome])) w := by
 rw [run_look hk ht hz hm hx hy]
 cases look l k <;> rfl
theorem o_mapUpdate (hk : KeyK P kt enc) (ht : P.underlying t = some (.map kt et)) {k : κ} {v : ν} (hx : ρ x = .map (some m)) (hy : ρ y = enc k) (hz : ρ z = val v) (hP : Pins G w) (hm : Mp enc val w m l)
  (h : ∀ w', Mp enc val w' m (putE l k v) → Pins G w' → w.grownBy w' (some m) → w'.heap.size = w.heap.size → K undef w') : EO P ρ ⟨d, .mapUpdate t x y z, ty, pos, aft, g⟩ w K := by
 obtain ⟨es, c, h1, h2⟩ := hm.heap
 have h2' : es.toList.map (fun e => (e.key, e.val)) = (l.map fun p => (p.1, val p.2)).map fun p => (enc p.1, p.2) := by rw [h2, List.map_map]; rfl
 have hf := hk.find k es.toList _ w h2'
 have hl : look (l.map fun p => (p.1, val p.2)) k = (look l k).map val := by
  unfold look
  rw [List.find?_map, Option.map_map, Option.map_map]; rfl
 have hfl := findE_look k (l.map fun p => (p.1, val p.2)) 0
 rw [hl] at hfl
 have hset : ∀ o : Obj, (setObj m o).run P w = .ok () { w with heap := w.heap.setIfInBounds m o } := fun o => by simp [setObj, Sem.run, h1]
 have hgrow : ∀ o : Obj, w.grownBy { w with heap := w.heap.setIfInBounds m o } (some m) := fun o =>
  ⟨rfl, rfl, rfl, by simp, fun j _ hj => by
   simp only [Array.getElem?_setIfInBounds]
   rw [if_neg (fun e => hj (by rw [e]))]⟩
 have hlt := hm.lt
 have hat : ∀ o : Obj, ({ w with heap := w.heap.setIfInBounds m o } : World).heap[m]? = some o := fun o => by
  simp [hlt]
 have hpins : ∀ o : Obj, Pins G { w with heap := w.heap.setIfInBounds m o } := fun o => hP.grown (hgrow o) (fun j hj o' u' => by cases hj; exact hm.free hP o' u')
 have fin : ∀ o : Obj, (Instr.mapUpdate t (.map (some m)) (enc k) (val v)).run P w = .ok () { w with heap := w.heap.setIfInBounds m o } → Mp enc val { w with heap := w.heap.setIfInBounds m o } m (putE l k v) → EO P ρ ⟨d, .mapUpdate t x y z, ty, pos, aft, g⟩ w K := fun o hr hmp =>
  EO.skip (w' := { w with heap := w.heap.setIfInBounds m o }) (by simp [execOp, hx, hy, hz, hr]) (h _ hmp (hpins o) (hgrow o) (by simp))
 have hpm := putE_map (f := val) k v l
 cases hq : findE (l.map fun p => (p.1, val p.2)) k 0 with
 | none =>
  rw [hq] at hf
  refine fin (.map (es.push { key := enc k, val := val v, born := c }) (c + 1)) ?_ ⟨_, _, hat _, ?_⟩
  ·unfold Instr.mapUpdate
   simp only [Sem.run_bind, run_underlying ht, Result.andThen_ok, getObj_at h1, hk.check, hf, hset]
  ·rw [putE_none hq] at hpm
   have : (putE l k v).map (fun p => (enc p.1, val p.2)) = ((putE l k v).map fun p => (p.1, val p.2)).map fun p => (enc p.1, p.2) := by rw [List.map_map]; rfl
   rw [this, ← hpm, List.map_append, ← h2']
   simp
 | some r =>
  obtain ⟨i, u⟩ := r
  rw [hq] at hf
  obtain ⟨_, ⟨p, hp, hpk⟩, hset2⟩ := putE_some (v := val v) hq
  rw [Nat.sub_zero] at hp hset2
  have hei : (es.toList.map (fun e => (e.key, e.val)))[i]? = some (enc k, p.2) := by
   rw [h2', List.getElem?_map, hp]
   simp [hpk]
  obtain ⟨e, he, hek⟩ : ∃ e, es[i]? = some e ∧ e.key = enc k := by
   rw [List.getElem?_map] at hei
   cases hh : es.toList[i]? with
   | none => rw [hh] at hei; cases hei
   | some e =>
    rw [hh] at hei
    simp only [Option.map_some, Option.some.injEq, Prod.mk.injEq] at hei
    exact ⟨e, by rw [← Array.getElem?_toList]; exact hh, hei.1⟩
  have hstay : (Instr.keyThatStays (enc k) (enc k)).run P w = .ok (enc k) w := by
   unfold Instr.keyThatStays
   rw [if_pos (hk.same k)]; rfl
  refine fin (.map (es.modify i fun e => { e with key := enc k, val := val v }) c) ?_ ⟨_, _, hat _, ?_⟩
  ·unfold Instr.mapUpdate
   simp only [Sem.run_bind, run_underlying ht, Result.andThen_ok, getObj_at h1, hk.check, hf, he, Option.map_some, Option.getD_some, hek, hstay, hset]
  ·have : (putE l k v).map (fun p => (enc p.1, val p.2)) = ((putE l k v).map fun p => (p.1, val p.2)).map fun p => (enc p.1, p.2) := by rw [List.map_map]; rfl
   rw [this, ← hpm, hset2, List.map_set, ← h2']
   rw [Array.toList_modify]
   apply List.ext_getElem?
   intro n
   simp only [List.getElem?_map, List.getElem?_set, List.getElem?_modify, List.length_map]
   by_cases hn : i = n
   ·subst hn
    have hlt2 : i < es.toList.length := by
     have := (Array.getElem?_eq_some_iff.1 he).1
     simpa using this
    have hlt3 : i < es.size := by simpa using hlt2
    simp [hlt3]
   ·simp [hn]
end
end Go.GL

namespace Go.GL

def firstG {α : Type} (p : α → Bool) : Int → List α → Int
 | _, [] => -1
 | i, x :: r => if p x = true then i else firstG p (i + 1) r
section
variable {α : Type} {p q : α → Bool}
theorem firstG_lo : ∀ (l : List α) (i : Int), firstG p i l = -1 ∨ (i ≤ firstG p i l ∧ firstG p i l < i + l.length)
 | [], _ => Or.inl rfl
 | x :: r, i => by
  unfold firstG
  by_cases h : p x = true
  ·rw [if_pos h]; simp only [List.length_cons]; omega
  ·rw [if_neg h]
   rcases firstG_lo r (i + 1) with h1 | h1
   ·exact Or.inl h1
   ·simp only [List.length_cons]; omega
theorem firstG_pos : ∀ (l : List α) (i : Int), 0 ≤ i → (0 ≤ firstG p i l ↔ ∃ x ∈ l, p x = true)
 | [], _, _ => by simp [firstG]
 | x :: r, i, hi => by
  unfold firstG
  by_cases h : p x = true
  ·rw [if_pos h]; exact ⟨fun _ => ⟨x, by simp, h⟩, fun _ => hi⟩
  ·rw [if_neg h, firstG_pos r (i + 1) (by omega)]
   constructor
   ·rintro ⟨y, h1, h2⟩; exact ⟨y, by simp [h1], h2⟩
   ·rintro ⟨y, h1, h2⟩
    rcases List.mem_cons.1 h1 with rfl | h1
    ·exact absurd h2 h
    ·exact ⟨y, h1, h2⟩
theorem firstG_at (d : α) : ∀ (l : List α) (i : Int) (n : Nat), n < l.length → p (l.getD n d) = true → (∀ k, k < n → p (l.getD k d) = false) → firstG p i l = i + n
 | [], _, _, h, _, _ => absurd h (Nat.not_lt_zero _)
 | x :: r, i, 0, _, h, _ => by
  have h' : p x = true := h
  unfold firstG
  rw [if_pos h']; simp
 | x :: r, i, n + 1, hl, h, hm => by
  have h0 : p x = false := hm 0 (by omega)
  unfold firstG
  rw [if_neg (by rw [h0]; exact Bool.false_ne_true), firstG_at d r (i + 1) n (by simp at hl; omega) h fun k hk => hm (k + 1) (by omega)]
  omega
def combI (b k : Int) : Int := if 0 ≤ k ∧ (b < 0 ∨ k < b) then k else b
theorem first_or : ∀ (l : List α) (i : Int), 0 ≤ i → firstG (fun x => p x || q x) i l = combI (firstG p i l) (firstG q i l)
 | [], _, _ => by simp [firstG, combI]
 | x :: r, i, hi => by
  have h1 := firstG_lo (p := p) r (i + 1); have h2 := firstG_lo (p := q) r (i + 1)
  have ih := first_or r (i + 1) (by omega)
  unfold firstG
  cases hp : p x <;> cases hq : q x
  ·simp only [Bool.or_self, Bool.false_eq_true, if_false]; exact ih
  ·simp only [Bool.false_or, if_true, Bool.false_eq_true, if_false]; unfold combI; split <;> omega
  ·simp only [Bool.or_false, if_true, Bool.false_eq_true, if_false]; unfold combI; split <;> omega
  ·simp only [Bool.or_self, if_true]; unfold combI; split <;> omega
theorem firstG_snoc (x : α) : ∀ (l : List α) (i : Int), 0 ≤ i → firstG p i (l ++ [x]) = if 0 ≤ firstG p i l then firstG p i l else if p x = true then i + l.length else -1
 | [], i, hi => by simp [firstG]
 | y :: r, i, hi => by
  rw [List.cons_append]
  unfold firstG
  by_cases h : p y = true
  ·rw [if_pos h, if_pos h, if_pos hi]
  ·rw [if_neg h, if_neg h, firstG_snoc x r (i + 1) (by omega)]
   have e : i + 1 + (r.length : Int) = i + ((y :: r).length : Int) := by simp only [List.length_cons]; omega
   rw [e]
theorem firstG_none (l : List α) (i : Int) (h : ∀ x ∈ l, p x = false) (hi : 0 ≤ i) : firstG p i l = -1 := by
 rcases firstG_lo (p := p) l i with h1 | h1
 ·exact h1
 ·obtain ⟨x, hx, h2⟩ := (firstG_pos l i hi).1 (show 0 ≤ firstG p i l by omega)
  rw [h x hx] at h2; cases h2
end
def lowL (L : List Cl) (ks : List (Int × Int)) : Int := firstG (fun c => decide (prC c ∈ ks)) 0 L
def posI (L : List Cl) (k : Int × Int) : Int := firstG (fun c => decide (prC c = k)) 0 L
def posO (L : List Cl) (k : Int × Int) : Option Int := if 0 ≤ posI L k then some (posI L k) else none
theorem low_nil (L : List Cl) : lowL L [] = -1 := firstG_none _ _ (fun x _ => by simp) (by omega)
theorem low_snoc (L : List Cl) (ks : List (Int × Int)) (k : Int × Int) : lowL L (ks ++ [k]) = combI (lowL L ks) (posI L k) := by
 have h := first_or (p := fun c => decide (prC c ∈ ks)) (q := fun c => decide (prC c = k)) L 0 (by omega)
 unfold lowL posI
 rw [← h]
 congr 1
 funext c
 simp [List.mem_append, Bool.decide_or]
theorem low_lt (L : List Cl) (ks : List (Int × Int)) : lowL L ks < L.length := by
 rcases firstG_lo (p := fun c => decide (prC c ∈ ks)) L 0 with h | h <;> unfold lowL <;> omega
theorem low_pos {L : List Cl} {ks : List (Int × Int)} : 0 ≤ lowL L ks ↔ ∃ c ∈ L, prC c ∈ ks := by
 unfold lowL
 rw [firstG_pos L 0 (by omega)]
 simp only [decide_eq_true_eq]
theorem low_at {L : List Cl} {ks : List (Int × Int)} {n : Nat} (h : n < L.length) (hp : prC (L.getD n default) ∈ ks) (hm : ∀ q, q < n → prC (L.getD q default) ∉ ks) : (n : Int) = lowL L ks := by
 unfold lowL
 rw [firstG_at default L 0 n h (decide_eq_true hp) fun q hq => decide_eq_false (hm q hq)]; omega
theorem low_len {L : List Cl} {ks : List (Int × Int)} {n : Nat} (h : 0 ≤ lowL L ks) (hm : ∀ q, q < n → prC (L.getD q default) ∉ ks) : n < L.length ∧ (n : Int) ≤ lowL L ks := by
 obtain ⟨c, hc, hk⟩ := low_pos.1 h
 obtain ⟨j, hj⟩ := List.mem_iff_getElem?.1 hc
 have hjl := (List.getElem?_eq_some_iff.1 hj).1
 have hg : L.getD j default = c := by simp [List.getD, hj]
 have hn : n < L.length := by
  refine Classical.byContradiction fun hn => ?_
  exact hm j (by omega) (by rw [hg]; exact hk)
 refine ⟨hn, Classical.byContradiction fun hlt => ?_⟩
 obtain ⟨m, hme⟩ : ∃ m : Nat, lowL L ks = m := ⟨(lowL L ks).toNat, by omega⟩
 have hml := low_lt L ks
 have hall : ∀ q, q < n → decide (prC (L.getD q default) ∈ ks) = false := fun q hq => decide_eq_false (hm q hq)
 have key : ∀ (l : List Cl) (i : Int) (n : Nat), 0 ≤ i → n ≤ l.length → (∀ q, q < n → decide (prC (l.getD q default) ∈ ks) = false) → firstG (fun c => decide (prC c ∈ ks)) i l = -1 ∨ i + n ≤ firstG (fun c => decide (prC c ∈ ks)) i l := by
  intro l
  induction l with
  | nil => intro i n _ _ _; exact Or.inl rfl
  | cons x r ih =>
   intro i n hi hnl hq
   cases n with
   | zero =>
    rcases firstG_lo (p := fun c => decide (prC c ∈ ks)) (x :: r) i with h1 | h1
    ·exact Or.inl h1
    ·right; omega
   | succ n =>
    have h0 : decide (prC x ∈ ks) = false := hq 0 (by omega)
    unfold firstG
    rw [if_neg (by simp only [h0]; exact Bool.false_ne_true)]
    rcases ih (i + 1) n (by omega) (by simp at hnl; omega) (fun q hq' => hq (q + 1) (by omega)) with h1 | h1
    ·exact Or.inl h1
    ·right; omega
 rcases key L 0 n (by omega) (by omega) hall with h1 | h1
 ·have : lowL L ks = -1 := h1
  omega
 ·have : (0 : Int) + n ≤ lowL L ks := h1
  omega


def MapOk (L : List Cl) (M : List ((Int × Int) × Int)) : Prop := ∀ k, look M k = posO L k
theorem MapOk.nil : MapOk [] [] := fun k => by simp [look_nil, posO, posI, firstG]
theorem MapOk.snoc {L : List Cl} {M : List ((Int × Int) × Int)} {c : Cl} {k : Int × Int} {v : Int} (h : MapOk L M) (hk : prC c = k) (hv : v = L.length) (hn : ∀ x ∈ L, prC x ≠ k) : MapOk (L ++ [c]) (putE M k v) := fun k' => by
 subst hk; subst hv
 rw [look_put, h k']
 unfold posO posI
 rw [firstG_snoc c L 0 (by omega)]
 by_cases he : k' = prC c
 ·subst he
  rw [if_pos rfl]
  have : firstG (fun x => decide (prC x = prC c)) 0 L = -1 := firstG_none _ _ (fun x hx => decide_eq_false (hn x hx)) (by omega)
  rw [this]; simp
 ·rw [if_neg he]
  have hd : decide (prC c = k') = false := decide_eq_false fun e => he e.symm
  simp only [hd, Bool.false_eq_true, if_false]
  by_cases h0 : 0 ≤ firstG (fun x => decide (prC x = k')) 0 L
  ·simp [h0]
  ·simp [h0]
theorem MapOk.low {L : List Cl} {M : List ((Int × Int) × Int)} (h : MapOk L M) (ks : List (Int × Int)) (k : Int × Int) :
  lowL L (ks ++ [k]) = match look M k with | none => lowL L ks | some v => if lowL L ks < 0 ∨ v < lowL L ks then v else lowL L ks := by
 rw [low_snoc, h k]
 unfold posO combI
 by_cases h0 : 0 ≤ posI L k
 ·rw [if_pos h0]; simp [h0]
 ·rw [if_neg h0]; simp [h0]


noncomputable def trC (asx bs : List Nd) (x y : Nat) : Bool := decP (geG (den asx x) (den bs y))
def claimOf (asx bs : List Nd) (L : List Cl) (x y : Nat) : Cl :=
 ⟨x, y, (asx.getD x default).r.map fun r => lowL L (rightsP asx bs r y), (bs.getD y default).l.map fun l => lowL L (leftsP asx bs x l)⟩
structure JustP (asx bs : List Nd) (L : List Cl) (x y : Nat) : Prop where
 r : ∀ r ∈ (asx.getD x default).r, 0 ≤ lowL L (rightsP asx bs r y)
 l : ∀ l ∈ (bs.getD y default).l, 0 ≤ lowL L (leftsP asx bs x l)
noncomputable def nextL (asx bs : List Nd) (L : List Cl) (x y : Nat) : List Cl := if trC asx bs x y = true then L ++ [claimOf asx bs L x y] else L
noncomputable def colL (asx bs : List Nd) (L : List Cl) (x : Nat) : Nat → List Cl
 | 0 => L
 | k + 1 => nextL asx bs (colL asx bs L x k) x k
noncomputable def rowL (asx bs : List Nd) : Nat → List Cl
 | 0 => []
 | i + 1 => colL asx bs (rowL asx bs i) i bs.length
def WfL (L : List Cl) : Prop := ∀ j, j < L.length → ∀ z, (z ∈ (L.getD j default).r ∨ z ∈ (L.getD j default).l) → 0 ≤ z ∧ z < j
structure TrueL (asx bs : List Nd) (L : List Cl) (x k : Nat) : Prop where
 mem : ∀ i j : Nat, j < bs.length → ((∃ c ∈ L, prC c = ((i : Int), (j : Int))) ↔ (trC asx bs i j = true ∧ (i < x ∨ (i = x ∧ j < k))))
 wf : WfL L
theorem TrueL.start (asx bs : List Nd) : TrueL asx bs [] 0 0 := ⟨fun i j _ => ⟨fun ⟨c, h, _⟩ => (List.not_mem_nil h).elim, fun h => by omega⟩, fun j hj => absurd hj (Nat.not_lt_zero j)⟩
theorem TrueL.row {asx bs : List Nd} {L : List Cl} {x : Nat} (h : TrueL asx bs L x bs.length) : TrueL asx bs L (x + 1) 0 := ⟨fun i j hj => by rw [h.mem i j hj]; constructor <;> rintro ⟨h1, h2⟩ <;> exact ⟨h1, by omega⟩, h.wf⟩
theorem TrueL.key {asx bs : List Nd} {L : List Cl} {x k : Nat} (h : TrueL asx bs L x k) (ha : OptsOk asx) (hb : OptsOk bs) {r y : Int} (hr : 0 ≤ r ∧ r < asx.length) (hy : 0 ≤ y ∧ y < bs.length) (hlt : r < x ∨ (r = x ∧ y < k)) :
  0 ≤ lowL L (rightsP asx bs r y) ↔ ¬ geG (den bs y.toNat) (den asx r.toNat) := by
 have hr' : r.toNat < asx.length := by omega
 have hy' : y.toNat < bs.length := by omega
 have hor := optsAt ha hr'; have hoy := optsAt hb hy'
 rw [low_pos]
 constructor
 ·rintro ⟨c, hc, hk⟩ hg
  rcases mem_rights.1 (show (c.a, c.b) ∈ rightsP asx bs r y from hk) with ⟨h1, h2⟩ | ⟨h1, h2⟩
  ·have hz := hor.1 _ h2
   have hm := (h.mem c.a.toNat y.toNat hy').1 ⟨c, hc, by unfold prC; rw [h1]; congr 1 <;> omega⟩
   exact (ge_iff.1 hg).2 _ ((lo_den ha hr').2 ⟨_, h2, rfl⟩) (decP_true.1 hm.1)
  ·have hz := hoy.2 _ h2
   have hm := (h.mem r.toNat c.b.toNat (by omega)).1 ⟨c, hc, by unfold prC; rw [h1]; congr 1 <;> omega⟩
   exact (ge_iff.1 hg).1 _ ((ro_den hb hy').2 ⟨_, h2, rfl⟩) (decP_true.1 hm.1)
 ·intro hg
  rcases ge_not hg with ⟨q, h1, h2⟩ | ⟨q, h1, h2⟩
  ·obtain ⟨z, hz, rfl⟩ := (ro_den hb hy').1 h1
   have hzb := hoy.2 _ hz
   obtain ⟨c, hc, he⟩ := (h.mem r.toNat z.toNat (by omega)).2 ⟨decP_true.2 h2, by omega⟩
   refine ⟨c, hc, ?_⟩
   rw [he]
   exact mem_rights.2 (Or.inr ⟨by omega, by rw [Int.toNat_of_nonneg hzb.1]; exact hz⟩)
  ·obtain ⟨z, hz, rfl⟩ := (lo_den ha hr').1 h1
   have hzb := hor.1 _ hz
   obtain ⟨c, hc, he⟩ := (h.mem z.toNat y.toNat hy').2 ⟨decP_true.2 h2, by omega⟩
   refine ⟨c, hc, ?_⟩
   rw [he]
   exact mem_rights.2 (Or.inl ⟨by omega, by rw [Int.toNat_of_nonneg hzb.1]; exact hz⟩)
theorem TrueL.just {asx bs : List Nd} {L : List Cl} {x k : Nat} (h : TrueL asx bs L x k) (ha : OptsOk asx) (hb : OptsOk bs) (hx : x < asx.length) (hk : k < bs.length) : JustP asx bs L x k ↔ trC asx bs x k = true := by
 have hox := optsAt ha hx; have hok := optsAt hb hk
 unfold trC
 rw [decP_true, ge_iff]
 constructor
 ·intro g
  refine ⟨fun q hq => ?_, fun q hq => ?_⟩
  ·obtain ⟨z, hz, rfl⟩ := (ro_den ha hx).1 hq
   have hzb := hox.2 _ hz
   have := (h.key ha hb (r := z) (y := (k : Int)) ⟨hzb.1, by omega⟩ ⟨by omega, by omega⟩ (Or.inl (by omega))).1 (g.r z hz)
   exact this
  ·obtain ⟨z, hz, rfl⟩ := (lo_den hb hk).1 hq
   have hzb := hok.1 _ hz
   have := (h.key ha hb (r := (x : Int)) (y := z) ⟨by omega, by omega⟩ ⟨hzb.1, by omega⟩ (Or.inr ⟨rfl, by omega⟩)).1 (g.l z hz)
   exact this
 ·intro g
  refine ⟨fun z hz => ?_, fun z hz => ?_⟩
  ·have hzb := hox.2 _ hz
   exact (h.key ha hb (r := z) (y := (k : Int)) ⟨hzb.1, by omega⟩ ⟨by omega, by omega⟩ (Or.inl (by omega))).2 (g.1 _ ((ro_den ha hx).2 ⟨z, hz, rfl⟩))
  ·have hzb := hok.1 _ hz
   exact (h.key ha hb (r := (x : Int)) (y := z) ⟨by omega, by omega⟩ ⟨hzb.1, by omega⟩ (Or.inr ⟨rfl, by omega⟩)).2 (g.2 _ ((lo_den hb hk).2 ⟨z, hz, rfl⟩))
theorem TrueL.fresh {asx bs : List Nd} {L : List Cl} {x k : Nat} (h : TrueL asx bs L x k) (hk : k < bs.length) : ∀ c ∈ L, prC c ≠ ((x : Int), (k : Int)) := fun c hc e => by
 have := ((h.mem x k hk).1 ⟨c, hc, e⟩).2; omega
theorem TrueL.next {asx bs : List Nd} {L : List Cl} {x k : Nat} (h : TrueL asx bs L x k) (ha : OptsOk asx) (hb : OptsOk bs) (hx : x < asx.length) (hk : k < bs.length) : TrueL asx bs (nextL asx bs L x k) x (k + 1) := by
 unfold nextL
 by_cases ht : trC asx bs x k = true
 ·rw [if_pos ht]
  have hj := (h.just ha hb hx hk).2 ht
  refine ⟨fun i j hjb => ?_, fun j hjl z hz => ?_⟩
  ·constructor
   ·rintro ⟨c, hc, he⟩
    rcases List.mem_append.1 hc with h1 | h1
    ·have := (h.mem i j hjb).1 ⟨c, h1, he⟩
     exact ⟨this.1, by omega⟩
    ·simp at h1; subst h1
     have e1 : (x : Int) = i := congrArg Prod.fst he
     have e2 : (k : Int) = j := congrArg Prod.snd he
     have e1' : x = i := by omega
     have e2' : k = j := by omega
     subst e1'; subst e2'
     exact ⟨ht, Or.inr ⟨rfl, by omega⟩⟩
   ·rintro ⟨h1, h2⟩
    by_cases he : i = x ∧ j = k
    ·obtain ⟨rfl, rfl⟩ := he
     exact ⟨claimOf asx bs L i j, List.mem_append_right _ (by simp), rfl⟩
    ·obtain ⟨c, hc, e⟩ := (h.mem i j hjb).2 ⟨h1, by omega⟩
     exact ⟨c, List.mem_append_left _ hc, e⟩
  ·by_cases hjL : j < L.length
   ·have e : (L ++ [claimOf asx bs L x k]).getD j default = L.getD j default := by simp [List.getD, List.getElem?_append_left hjL]
    rw [e] at hz
    exact h.wf j hjL z hz
   ·have hje : j = L.length := by simp at hjl; omega
    subst hje
    have e : (L ++ [claimOf asx bs L x k]).getD L.length default = claimOf asx bs L x k := by simp [List.getD]
    rw [e] at hz
    rcases hz with hz | hz
    ·obtain ⟨r, hr, rfl⟩ := List.mem_map.1 hz
     exact ⟨hj.r r hr, low_lt _ _⟩
    ·obtain ⟨l, hl, rfl⟩ := List.mem_map.1 hz
     exact ⟨hj.l l hl, low_lt _ _⟩
 ·rw [if_neg ht]
  refine ⟨fun i j hjb => ?_, h.wf⟩
  rw [h.mem i j hjb]
  constructor
  ·rintro ⟨h1, h2⟩; exact ⟨h1, by omega⟩
  ·rintro ⟨h1, h2⟩
   refine ⟨h1, ?_⟩
   by_cases he : i = x ∧ j = k
   ·obtain ⟨rfl, rfl⟩ := he; exact absurd h1 ht
   ·omega
theorem trueCol {asx bs : List Nd} {L : List Cl} {x : Nat} (h : TrueL asx bs L x 0) (ha : OptsOk asx) (hb : OptsOk bs) (hx : x < asx.length) : ∀ k, k ≤ bs.length → TrueL asx bs (colL asx bs L x k) x k
 | 0, _ => h
 | k + 1, hk => (trueCol h ha hb hx k (by omega)).next ha hb hx (by omega)
theorem trueRow {asx bs : List Nd} (ha : OptsOk asx) (hb : OptsOk bs) : ∀ x, x ≤ asx.length → TrueL asx bs (rowL asx bs x) x 0
 | 0, _ => TrueL.start asx bs
 | x + 1, hx => (trueCol (trueRow ha hb x (by omega)) ha hb (by omega) bs.length (Nat.le_refl _)).row
theorem trueAt {asx bs : List Nd} (ha : OptsOk asx) (hb : OptsOk bs) {x k : Nat} (hx : x < asx.length) (hk : k ≤ bs.length) : TrueL asx bs (colL asx bs (rowL asx bs x) x k) x k := trueCol (trueRow ha hb x (by omega)) ha hb hx k hk
theorem next_len (asx bs : List Nd) (L : List Cl) (x y : Nat) : L.length ≤ (nextL asx bs L x y).length ∧ (nextL asx bs L x y).length ≤ L.length + 1 := by
 unfold nextL; split <;> simp
theorem col_len (asx bs : List Nd) (L : List Cl) (x : Nat) : ∀ k, (colL asx bs L x k).length ≤ L.length + k
 | 0 => Nat.le_refl _
 | k + 1 => by
  have h1 := col_len asx bs L x k; have h2 := (next_len asx bs (colL asx bs L x k) x k).2
  show (nextL asx bs (colL asx bs L x k) x k).length ≤ _
  omega
theorem row_len (asx bs : List Nd) : ∀ x, (rowL asx bs x).length ≤ x * bs.length
 | 0 => by simp [rowL]
 | x + 1 => by
  have h1 := row_len asx bs x; have h2 := col_len asx bs (rowL asx bs x) x bs.length
  show (colL asx bs (rowL asx bs x) x bs.length).length ≤ _
  rw [Nat.succ_mul]; omega


def needAll (nd : List Bool) (xs : List Int) : List Bool := xs.foldl (fun a i => a.set i.toNat true) nd
theorem needAll_next {nd : List Bool} {xs : List Int} {q : Nat} (h : q < xs.length) : (needAll nd (xs.take q)).set (xs.getD q 0).toNat true = needAll nd (xs.take (q + 1)) := by
 rw [take_snoc xs 0 h]; unfold needAll; rw [List.foldl_append]; rfl
theorem needAll_all {nd : List Bool} {xs : List Int} {q : Nat} (h : q = xs.length) : needAll nd (xs.take q) = needAll nd xs := by subst h; rw [List.take_length]
theorem needAll_keep {k : Nat} : ∀ (xs : List Int) (nd : List Bool), nd.getD k false = true → (needAll nd xs).getD k false = true
 | [], _, h => h
 | x :: r, nd, h => by
  show (needAll (nd.set x.toNat true) r).getD k false = true
  refine needAll_keep r _ ?_
  have hk : k < nd.length := by
   refine Classical.byContradiction fun hk => ?_
   simp [List.getD, List.getElem?_eq_none (show nd.length ≤ k by omega)] at h
  by_cases he : x.toNat = k
  ·subst he; simp [List.getD, hk]
  ·simp only [List.getD, List.getElem?_set_ne he]; exact h
noncomputable def needStep (L : List Cl) (nd : List Bool) (k : Nat) : List Bool := if nd.getD k false = true then needAll (needAll nd (L.getD k default).r) (L.getD k default).l else nd
noncomputable def needN (L : List Cl) : Nat → List Bool
 | 0 => (List.replicate L.length false).set (L.length - 1) true
 | j + 1 => needStep L (needN L j) (L.length - 1 - j)
noncomputable def cutStep (L : List Cl) (nd : List Bool) (j : Nat) (s : List Int × List Cl) : List Int × List Cl :=
 if nd.getD j false = true then (s.1.set j s.2.length, s.2 ++ [⟨(L.getD j default).a, (L.getD j default).b, atL (s.1.set j s.2.length) (L.getD j default).r, atL (s.1.set j s.2.length) (L.getD j default).l⟩]) else s
noncomputable def cutN (L : List Cl) (nd : List Bool) : Nat → List Int × List Cl
 | 0 => (List.replicate L.length 0, [])
 | j + 1 => cutStep L nd j (cutN L nd j)
theorem cut_length (L : List Cl) (nd : List Bool) : ∀ j, (cutN L nd j).1.length = L.length ∧ (cutN L nd j).2.length ≤ j
 | 0 => by simp [cutN]
 | j + 1 => by
  have h := cut_length L nd j
  show (cutStep L nd j (cutN L nd j)).1.length = _ ∧ (cutStep L nd j (cutN L nd j)).2.length ≤ _
  unfold cutStep
  split
  ·simp only [List.length_set, List.length_append, List.length_cons, List.length_nil]; omega
  ·omega
noncomputable def cutL (L : List Cl) : List Cl := (cutN L (needN L L.length) L.length).2
noncomputable def fullL (asx bs : List Nd) : List Cl := rowL asx bs asx.length
structure PrfP (asx bs : List Nd) : Prop where
 ga : GoodP asx
 gb : GoodP bs
 ge : geG (gOf asx) (gOf bs)
 le : (cutL (fullL asx bs)).length ≤ 200
noncomputable def prfB (asx bs : List Nd) : Bool := decP (PrfP asx bs)
noncomputable def prfL (asx bs : List Nd) : List Cl := if prfB asx bs = true then cutL (fullL asx bs) else []
theorem full_pos {asx bs : List Nd} (ha : GoodP asx) (hb : GoodP bs) (hg : geG (gOf asx) (gOf bs)) : 1 ≤ (fullL asx bs).length := by
 have h1 := ha.lo; have h2 := hb.lo
 obtain ⟨c, hc, _⟩ := ((trueRow ha.optsOk hb.optsOk asx.length (Nat.le_refl _)).mem (asx.length - 1) (bs.length - 1) (by omega)).2 ⟨decP_true.2 hg, Or.inl (by omega)⟩
 exact List.length_pos_of_mem hc
theorem full_len {asx bs : List Nd} (ha : GoodP asx) (hb : GoodP bs) : (fullL asx bs).length ≤ 14400 := by
 have h1 := row_len asx bs asx.length; have h2 := ha.hi; have h3 := hb.hi
 have h4 : asx.length * bs.length ≤ 120 * 120 := Nat.mul_le_mul h2 h3
 unfold fullL
 omega

theorem at_mem {α : Type} {l : List α} {x : α} (d : α) (h : x ∈ l) : ∃ q, q < l.length ∧ l.getD q d = x := by
 obtain ⟨q, hq⟩ := List.mem_iff_getElem?.1 h
 exact ⟨q, (List.getElem?_eq_some_iff.1 hq).1, by simp [List.getD, hq]⟩

theorem MapOk.no {L : List Cl} {M : List ((Int × Int) × Int)} (h : MapOk L M) {ks : List (Int × Int)} {j : Nat} (hj : j < ks.length) (hk : (look M (ks.getD j default)).isSome = false) : lowL L (ks.take (j + 1)) = lowL L (ks.take j) := by
 rw [take_snoc ks default hj, h.low]
 cases hl : look M (ks.getD j default) with
 | none => rfl
 | some v => rw [hl] at hk; cases hk
theorem MapOk.take {L : List Cl} {M : List ((Int × Int) × Int)} (h : MapOk L M) {ks : List (Int × Int)} {j : Nat} {b : Int} (hj : j < ks.length) (hk : (look M (ks.getD j default)).isSome = true) (hb : b = lowL L (ks.take j))
  (hc : b < 0 ∨ (look M (ks.getD j default)).getD 0 < b) : (look M (ks.getD j default)).getD 0 = lowL L (ks.take (j + 1)) := by
 subst hb
 rw [take_snoc ks default hj, h.low]
 cases hl : look M (ks.getD j default) with
 | none => rw [hl] at hk; cases hk
 | some v => rw [hl] at hc; exact (if_pos hc).symm
theorem MapOk.leave {L : List Cl} {M : List ((Int × Int) × Int)} (h : MapOk L M) {ks : List (Int × Int)} {j : Nat} {b : Int} (hj : j < ks.length) (hb : b = lowL L (ks.take j))
  (hc : ¬ b < 0) (hd : ¬ (look M (ks.getD j default)).getD 0 < b) : b = lowL L (ks.take (j + 1)) := by
 subst hb
 rw [take_snoc ks default hj, h.low]
 cases hl : look M (ks.getD j default) with
 | none => rfl
 | some v => rw [hl] at hd; exact (if_neg fun g => g.elim hc hd).symm
noncomputable def jstB (asx bs : List Nd) (L : List Cl) (x y : Nat) : Bool := decP (JustP asx bs L x y)
noncomputable def jstC (asx bs : List Nd) (L : List Cl) (x y : Nat) : Cl := if jstB asx bs L x y = true then claimOf asx bs L x y else ⟨0, 0, [], []⟩
theorem jst_no {asx bs : List Nd} {L : List Cl} {x y : Nat} (h : ¬ JustP asx bs L x y) : jstB asx bs L x y = false ∧ jstC asx bs L x y = ⟨0, 0, [], []⟩ := by
 have : jstB asx bs L x y = false := decP_false.2 h
 exact ⟨this, by unfold jstC; rw [this]; rfl⟩
theorem jst_yes {asx bs : List Nd} {L : List Cl} {x y : Nat} (h : JustP asx bs L x y) : jstB asx bs L x y = true ∧ jstC asx bs L x y = claimOf asx bs L x y := by
 have : jstB asx bs L x y = true := decP_true.2 h
 exact ⟨this, by unfold jstC; rw [this]; rfl⟩
theorem TrueL.stepY {asx bs : List Nd} {L : List Cl} {x k : Nat} (h : TrueL asx bs L x k) (ha : OptsOk asx) (hb : OptsOk bs) (hx : x < asx.length) (hk : k < bs.length) (hj : jstB asx bs L x k = true) :
  jstC asx bs L x k = claimOf asx bs L x k ∧ L ++ [claimOf asx bs L x k] = nextL asx bs L x k ∧ trC asx bs x k = true := by
 have h1 := decP_true.1 hj
 have ht := (h.just ha hb hx hk).1 h1
 exact ⟨(jst_yes h1).2, by unfold nextL; rw [if_pos ht], ht⟩
theorem TrueL.stepN {asx bs : List Nd} {L : List Cl} {x k : Nat} (h : TrueL asx bs L x k) (ha : OptsOk asx) (hb : OptsOk bs) (hx : x < asx.length) (hk : k < bs.length) (hj : jstB asx bs L x k = false) :
  L = nextL asx bs L x k ∧ trC asx bs x k = false := by
 have h1 := decP_false.1 hj
 have ht : ¬ trC asx bs x k = true := fun t => h1 ((h.just ha hb hx hk).2 t)
 exact ⟨by unfold nextL; rw [if_neg ht], by simpa using ht⟩
theorem col_bound {asx bs : List Nd} (ha : asx.length ≤ 120) (hb : bs.length ≤ 120) {x k : Nat} (hx : x < asx.length) (hk : k ≤ bs.length) : (colL asx bs (rowL asx bs x) x k).length ≤ 14400 := by
 have h1 := row_len asx bs x; have h2 := col_len asx bs (rowL asx bs x) x k
 have h3 : (x + 1) * bs.length ≤ 120 * 120 := Nat.mul_le_mul (by omega) hb
 rw [Nat.succ_mul] at h3
 omega
noncomputable def needZ (L : List Cl) (z : Int) : List Bool := needN L ((L.length : Int) - 1 - z).toNat
theorem needZ_start (L : List Cl) : needZ L ((L.length : Int) - 1) = (List.replicate L.length false).set ((L.length : Int) - 1).toNat true := by
 unfold needZ
 rw [show ((L.length : Int) - 1 - ((L.length : Int) - 1)).toNat = 0 by omega, show ((L.length : Int) - 1).toNat = L.length - 1 by omega]; rfl
theorem needZ_step {L : List Cl} {z : Int} (h0 : 0 ≤ z) (h1 : z < L.length) : needZ L (z - 1) = needStep L (needZ L z) z.toNat := by
 unfold needZ
 rw [show ((L.length : Int) - 1 - (z - 1)).toNat = ((L.length : Int) - 1 - z).toNat + 1 by omega]
 show needStep L _ _ = _
 rw [show L.length - 1 - ((L.length : Int) - 1 - z).toNat = z.toNat by omega]
theorem needZ_end {L : List Cl} {z : Int} (h : z = -1) : needZ L z = needN L L.length := by
 subst h; unfold needZ; rw [show ((L.length : Int) - 1 - -1).toNat = L.length by omega]
theorem need_yes {L : List Cl} {nd : List Bool} {k : Nat} (h : nd.getD k false = true) : needStep L nd k = needAll (needAll nd (L.getD k default).r) (L.getD k default).l := by unfold needStep; rw [if_pos h]
theorem need_no {L : List Cl} {nd : List Bool} {k : Nat} (h : nd.getD k false = false) : needStep L nd k = nd := by unfold needStep; rw [if_neg (by rw [h]; exact Bool.false_ne_true)]
noncomputable def halfN (nd : List Bool) (xs : List Int) (k : Nat) : List Bool := if nd.getD k false = true then needAll nd xs else nd
theorem half_start (nd : List Bool) (xs : List Int) (k : Nat) : (0 = 0 ∨ nd.getD k false = true) ∧ nd = needAll nd (xs.take 0) := ⟨Or.inl rfl, rfl⟩
theorem half_next {nd nd2 : List Bool} {xs : List Int} {k q : Nat} (h : (q = 0 ∨ nd.getD k false = true) ∧ nd2 = needAll nd (xs.take q)) (hq : q < xs.length) (hk : nd2.getD k false = true) :
  (q + 1 = 0 ∨ nd.getD k false = true) ∧ nd2.set (xs.getD q 0).toNat true = needAll nd (xs.take (q + 1)) := by
 refine ⟨Or.inr ?_, by rw [h.2]; exact needAll_next hq⟩
 rcases h.1 with h1 | h1
 ·subst h1
  have := h.2
  rw [List.take_zero] at this
  rw [this] at hk; exact hk
 ·exact h1
theorem half_stop {nd nd2 : List Bool} {xs : List Int} {k q : Nat} (h : (q = 0 ∨ nd.getD k false = true) ∧ nd2 = needAll nd (xs.take q)) (hk : nd2.getD k false = false) : nd2 = halfN nd xs k := by
 have hn : nd.getD k false = false := by
  cases hc : nd.getD k false
  ·rfl
  ·have := needAll_keep (xs.take q) nd hc
   rw [← h.2, hk] at this; cases this
 rcases h.1 with h1 | h1
 ·subst h1
  have h2 := h.2
  rw [List.take_zero] at h2
  unfold halfN
  rw [if_neg (by rw [hn]; exact Bool.false_ne_true)]; exact h2
 ·rw [hn] at h1; cases h1
theorem half_end {nd nd2 : List Bool} {xs : List Int} {k q : Nat} (h : (q = 0 ∨ nd.getD k false = true) ∧ nd2 = needAll nd (xs.take q)) (hk : nd2.getD k false = true) (hq : xs.length ≤ q) : nd2 = halfN nd xs k := by
 rw [List.take_of_length_le hq] at h
 have hn : nd.getD k false = true := by
  rcases h.1 with h1 | h1
  ·have hx : xs = [] := List.eq_nil_of_length_eq_zero (by omega)
   have h2 := h.2
   rw [hx] at h2
   rw [show nd2 = nd from h2] at hk; exact hk
  ·exact h1
 unfold halfN
 rw [if_pos hn]; exact h.2
theorem half_step {L : List Cl} {nd nd2 nd3 : List Bool} {k : Nat} (h1 : nd2 = halfN nd (L.getD k default).r k) (h2 : nd3 = halfN nd2 (L.getD k default).l k) : nd3 = needStep L nd k := by
 subst h1; subst h2
 cases hc : nd.getD k false
 ·rw [need_no hc]
  have e : ∀ xs, halfN nd xs k = nd := fun xs => by unfold halfN; rw [if_neg (by rw [hc]; exact Bool.false_ne_true)]
  rw [e, e]
 ·rw [need_yes hc]
  have e : halfN nd (L.getD k default).r k = needAll nd (L.getD k default).r := by unfold halfN; rw [if_pos hc]
  rw [e]
  unfold halfN
  rw [if_pos (needAll_keep _ _ hc)]
theorem cut_yes {L : List Cl} {nd : List Bool} {j : Nat} {at_ : List Int} {os : List Cl} (h : cutN L nd j = (at_, os)) (hn : nd.getD j false = true) :
  cutN L nd (j + 1) = (at_.set j os.length, os ++ [⟨(L.getD j default).a, (L.getD j default).b, atL (at_.set j os.length) (L.getD j default).r, atL (at_.set j os.length) (L.getD j default).l⟩]) := by
 show cutStep L nd j (cutN L nd j) = _
 rw [h]; unfold cutStep; rw [if_pos hn]
theorem cut_no {L : List Cl} {nd : List Bool} {j : Nat} {at_ : List Int} {os : List Cl} (h : cutN L nd j = (at_, os)) (hn : nd.getD j false = false) : cutN L nd (j + 1) = (at_, os) := by
 show cutStep L nd j (cutN L nd j) = _
 rw [h]; unfold cutStep; rw [if_neg (by rw [hn]; exact Bool.false_ne_true)]
noncomputable def prnB (L : List Cl) : Bool := decide ((cutL L).length ≤ 200)
noncomputable def prnL (L : List Cl) : List Cl := if prnB L = true then cutL L else []
theorem next_lens {asx bs : List Nd} (ha : GoodP asx) (hb : GoodP bs) {L : List Cl} {x y : Nat} (h : ∀ c ∈ L, c.r.length ≤ 24 ∧ c.l.length ≤ 24) : ∀ c ∈ nextL asx bs L x y, c.r.length ≤ 24 ∧ c.l.length ≤ 24 := by
 have hd : ∀ (ns : List Nd), GoodP ns → ∀ i, (ns.getD i default).l.length ≤ 24 ∧ (ns.getD i default).r.length ≤ 24 := fun ns g i => by
  by_cases hi : i < ns.length
  ·exact ⟨g.lenl hi, g.lenr hi⟩
  ·have e : ns.getD i default = default := by simp [List.getD, List.getElem?_eq_none (show ns.length ≤ i by omega)]
   rw [e]; exact ⟨Nat.zero_le _, Nat.zero_le _⟩
 unfold nextL
 split
 ·intro c hc
  rcases List.mem_append.1 hc with h1 | h1
  ·exact h c h1
  ·simp at h1; subst h1
   unfold claimOf
   simp only [List.length_map]
   exact ⟨(hd asx ha x).2, (hd bs hb y).1⟩
 ·exact h
theorem col_lens {asx bs : List Nd} (ha : GoodP asx) (hb : GoodP bs) {L : List Cl} {x : Nat} (h : ∀ c ∈ L, c.r.length ≤ 24 ∧ c.l.length ≤ 24) : ∀ k, ∀ c ∈ colL asx bs L x k, c.r.length ≤ 24 ∧ c.l.length ≤ 24
 | 0 => h
 | k + 1 => next_lens ha hb (col_lens ha hb h k)
theorem row_lens {asx bs : List Nd} (ha : GoodP asx) (hb : GoodP bs) : ∀ x, ∀ c ∈ rowL asx bs x, c.r.length ≤ 24 ∧ c.l.length ≤ 24
 | 0 => fun _ h => by cases h
 | x + 1 => col_lens ha hb (row_lens ha hb x) _
structure LOk (L : List Cl) : Prop where
 wf : WfL L
 ln : ∀ j, j < L.length → (L.getD j default).r.length ≤ 24 ∧ (L.getD j default).l.length ≤ 24
 pos : 1 ≤ L.length
 hi : L.length ≤ 14400
theorem LOk.r {L : List Cl} (h : LOk L) {j q : Nat} (hj : j < L.length) (hq : q < (L.getD j default).r.length) : 0 ≤ (L.getD j default).r.getD q 0 ∧ (L.getD j default).r.getD q 0 < j := h.wf j hj _ (Or.inl (mem_getD_of hq))
theorem LOk.l {L : List Cl} (h : LOk L) {j q : Nat} (hj : j < L.length) (hq : q < (L.getD j default).l.length) : 0 ≤ (L.getD j default).l.getD q 0 ∧ (L.getD j default).l.getD q 0 < j := h.wf j hj _ (Or.inr (mem_getD_of hq))
theorem full_ok {asx bs : List Nd} (ha : GoodP asx) (hb : GoodP bs) (hg : geG (gOf asx) (gOf bs)) : LOk (fullL asx bs) :=
 ⟨(trueRow ha.optsOk hb.optsOk asx.length (Nat.le_refl _)).wf, fun _ hj => row_lens ha hb asx.length _ (mem_getD_of hj), full_pos ha hb hg, full_len ha hb⟩
theorem prf_no {asx bs : List Nd} (h : ¬ PrfP asx bs) : prfB asx bs = false ∧ prfL asx bs = [] := by
 have : prfB asx bs = false := decP_false.2 h
 exact ⟨this, by unfold prfL; rw [this]; rfl⟩
theorem prf_yes {asx bs : List Nd} (h : PrfP asx bs) : prfB asx bs = true ∧ prfL asx bs = cutL (fullL asx bs) := by
 have : prfB asx bs = true := decP_true.2 h
 exact ⟨this, by unfold prfL; rw [this]; rfl⟩
theorem TrueL.yes {asx bs : List Nd} {L : List Cl} {M : List ((Int × Int) × Int)} {x k : Nat} (h : TrueL asx bs L x k) (ha : OptsOk asx) (hb : OptsOk bs) (hx : x < asx.length) (hk : k < bs.length) (hM : MapOk L M) (hj : jstB asx bs L x k = true) :
  MapOk (L ++ [⟨(jstC asx bs L x k).a, (jstC asx bs L x k).b, (jstC asx bs L x k).r, (jstC asx bs L x k).l⟩]) (putE M ((x : Int), (k : Int)) (L.length : Int)) ∧
   L ++ [⟨(jstC asx bs L x k).a, (jstC asx bs L x k).b, (jstC asx bs L x k).r, (jstC asx bs L x k).l⟩] = nextL asx bs L x k ∧ trC asx bs x k = true := by
 obtain ⟨h1, h2, h3⟩ := h.stepY ha hb hx hk hj
 rw [h1]
 exact ⟨hM.snoc rfl rfl (h.fresh hk), h2, h3⟩
theorem prf_prn {asx bs : List Nd} (ha : GoodP asx) (hb : GoodP bs) (hg : geG (gOf asx) (gOf bs)) : prfB asx bs = prnB (fullL asx bs) ∧ prfL asx bs = prnL (fullL asx bs) := by
 by_cases h : (cutL (fullL asx bs)).length ≤ 200
 ·obtain ⟨e1, e2⟩ := prf_yes ⟨ha, hb, hg, h⟩
  have e3 : prnB (fullL asx bs) = true := decide_eq_true h
  rw [e1, e2]; unfold prnL; rw [e3]; exact ⟨rfl, rfl⟩
 ·obtain ⟨e1, e2⟩ := @prf_no asx bs fun g => h g.le
  have e3 : prnB (fullL asx bs) = false := decide_eq_false h
  rw [e1, e2]; unfold prnL; rw [e3]; exact ⟨rfl, rfl⟩
end Go.GL

namespace Go.GL
open Go Go.RowKit
def inO (x : Option Nat) (k : Nat) : Prop := x = some k
theorem notO {x y : Option Nat} (h : Apart x y) : ∀ k, x = some k → ¬ inO y k := fun k hx hy => h k hx hy
theorem notOb {c : Nat} {y : Option Nat} (h : Apart (some c) y) : ¬ inO y c := fun hy => h c rfl hy
theorem lo_self {w : World} {x : Option Nat} : Lo w (inO x) x := fun _ hk => Or.inr hk
noncomputable def geB (ns : List Nd) (x y : Int) : Bool := decP (geG (den ns x.toNat) (den ns y.toNat))
def KOk (ns : List Nd) (ks : List Int) (m : Nat) : Prop := ∀ i j : Nat, i < ns.length → j < ns.length → i + j < m → ks.getD (i * ns.length + j) 0 = 0 ∨ ks.getD (i * ns.length + j) 0 = if geB ns i j = true then 1 else 2
def KSame (ns : List Nd) (ks ks' : List Int) (m : Nat) : Prop := ∀ i j : Nat, i < ns.length → j < ns.length → m ≤ i + j → ks'.getD (i * ns.length + j) 0 = ks.getD (i * ns.length + j) 0
structure KRes (ns : List Nd) (ks ks' : List Int) (m : Nat) : Prop where
 len : ks'.length = ks.length
 ok : KOk ns ks' m
 same : KSame ns ks ks' m
theorem KOk.mono {ns : List Nd} {ks : List Int} {m m' : Nat} (h : KOk ns ks m) (hm : m' ≤ m) : KOk ns ks m' := fun i j hi hj hs => h i j hi hj (by omega)
theorem KOk.zero {ns : List Nd} {k m : Nat} : KOk ns (List.replicate k 0) m := fun i j _ _ _ => Or.inl (by simp [List.getD, List.getElem?_replicate]; split <;> rfl)
theorem KRes.refl {ns : List Nd} {ks : List Int} {m : Nat} (h : KOk ns ks m) : KRes ns ks ks m := ⟨rfl, h, fun _ _ _ _ _ => rfl⟩
theorem KRes.wide {ns : List Nd} {ks k1 k2 : List Int} {m m' : Nat} (h : KRes ns ks k1 m) (k : KRes ns k1 k2 m') (hm : m' ≤ m) : KRes ns ks k2 m := by
 refine ⟨k.len.trans h.len, fun i j hi hj hs => ?_, fun i j hi hj hs => ?_⟩
 ·by_cases hlt : i + j < m'
  ·exact k.ok i j hi hj hlt
  ·rw [k.same i j hi hj (by omega)]; exact h.ok i j hi hj hs
 ·rw [k.same i j hi hj (by omega), h.same i j hi hj hs]
theorem idx_lt {n i j : Nat} (hi : i < n) (hj : j < n) : i * n + j < n * n := by
 have h : (i + 1) * n ≤ n * n := Nat.mul_le_mul_right n hi
 rw [Nat.add_mul] at h; omega
theorem idx_eq {n i j k l : Nat} (hj : j < n) (hl : l < n) (h : i * n + j = k * n + l) : i = k ∧ j = l := by
 have hn : 0 < n := by omega
 have h1 : (n * i + j) / n = i := by rw [Nat.mul_add_div hn, Nat.div_eq_of_lt hj]; rfl
 have h2 : (n * k + l) / n = k := by rw [Nat.mul_add_div hn, Nat.div_eq_of_lt hl]; rfl
 rw [Nat.mul_comm, Nat.mul_comm k] at h
 rw [h] at h1
 have : i = k := h1.symm.trans h2
 subst this
 exact ⟨rfl, by omega⟩
theorem idx_int {ns : List Nd} {x y : Int} (hx : 0 ≤ x ∧ x < ns.length) (hy : 0 ≤ y ∧ y < ns.length) : (x * (ns.length : Int) + y).toNat = x.toNat * ns.length + y.toNat := by
 have e : x * (ns.length : Int) + y = ((x.toNat * ns.length + y.toNat : Nat) : Int) := by
  rw [Int.natCast_add, Int.natCast_mul]
  rw [Int.toNat_of_nonneg hx.1, Int.toNat_of_nonneg hy.1]
 rw [e, Int.toNat_natCast]
theorem idx_bd {ns : List Nd} {x y : Int} (hx : 0 ≤ x ∧ x < ns.length) (hy : 0 ≤ y ∧ y < ns.length) (hn : ns.length ≤ 1048576) :
  (0 ≤ x * (ns.length : Int) ∧ x * (ns.length : Int) ≤ 1099511627776) ∧ x * (ns.length : Int) + y < (ns.length * ns.length : Nat) := by
 have h1 := idx_lt (n := ns.length) (i := x.toNat) (j := y.toNat) (by omega) (by omega)
 have e : x * (ns.length : Int) = ((x.toNat * ns.length : Nat) : Int) := by rw [Int.natCast_mul, Int.toNat_of_nonneg hx.1]
 have h2 : x.toNat * ns.length ≤ 1048576 * 1048576 := Nat.mul_le_mul (by omega) hn
 refine ⟨⟨by omega, by omega⟩, by omega⟩
theorem getD_set_ne' {l : List Int} {i j : Nat} {x : Int} (h : j ≠ i) : (l.set i x).getD j 0 = l.getD j 0 := by simp [List.getD, Ne.symm h]
theorem KRes.prov {ns : List Nd} {ks : List Int} {x y v : Int} (hx : 0 ≤ x ∧ x < ns.length) (hy : 0 ≤ y ∧ y < ns.length) (h : KOk ns ks (x.toNat + y.toNat + 1)) :
  KOk ns (ks.set (x * (ns.length : Int) + y).toNat v) (x.toNat + y.toNat) ∧ ∀ i j : Nat, i < ns.length → j < ns.length → x.toNat + y.toNat < i + j → (ks.set (x * (ns.length : Int) + y).toNat v).getD (i * ns.length + j) 0 = ks.getD (i * ns.length + j) 0 := by
 rw [idx_int hx hy]
 refine ⟨fun i j hi hj hs => ?_, fun i j hi hj hs => ?_⟩
 ·rw [getD_set_ne' fun e => by have := idx_eq hj (by omega) e; omega]
  exact h i j hi hj (by omega)
 ·rw [getD_set_ne' fun e => by have := idx_eq hj (by omega) e; omega]
theorem KRes.told {ns : List Nd} {ks k1 : List Int} {x y : Int} (hx : 0 ≤ x ∧ x < ns.length) (hy : 0 ≤ y ∧ y < ns.length) (hl : ks.length = ns.length * ns.length) (h : KOk ns ks (x.toNat + y.toNat + 1)) (k : KRes ns (ks.set (x * (ns.length : Int) + y).toNat 2) k1 (x.toNat + y.toNat)) {k2 : List Int}
  (hk : k2 = if geB ns x y = true then k1.set (x * (ns.length : Int) + y).toNat 1 else k1) :
  KRes ns ks k2 (x.toNat + y.toNat + 1) ∧ decide (k2.getD (x * (ns.length : Int) + y).toNat 0 = 1) = geB ns x y := by
 have hp := KRes.prov (v := 2) hx hy h
 rw [idx_int hx hy] at k hk hp ⊢
 have hlt := idx_lt (n := ns.length) (i := x.toNat) (j := y.toNat) (by omega) (by omega)
 have hl1 : k1.length = ns.length * ns.length := by rw [k.len, List.length_set, hl]
 have hself : k1.getD (x.toNat * ns.length + y.toNat) 0 = 2 := by
  rw [k.same x.toNat y.toNat (by omega) (by omega) (Nat.le_refl _)]
  simp [List.getD, hl, hlt]
 have hgn : geB ns (x.toNat : Int) (y.toNat : Int) = geB ns x y := by rw [Int.toNat_of_nonneg hx.1, Int.toNat_of_nonneg hy.1]
 have hother : ∀ q, q ≠ x.toNat * ns.length + y.toNat → k2.getD q 0 = k1.getD q 0 := fun q hq => by
  rw [hk]; split
  ·exact getD_set_ne' hq
  ·rfl
 have hat : k2.getD (x.toNat * ns.length + y.toNat) 0 = if geB ns x y = true then 1 else 2 := by
  rw [hk]; split
  ·simp [List.getD, hl1, hlt]
  ·exact hself
 refine ⟨⟨?_, fun i j hi hj hs => ?_, fun i j hi hj hs => ?_⟩, ?_⟩
 ·rw [hk]; split
  ·rw [List.length_set, hl1, hl]
  ·rw [hl1, hl]
 ·by_cases he : i * ns.length + j = x.toNat * ns.length + y.toNat
  ·obtain ⟨rfl, rfl⟩ := idx_eq hj (by omega) he
   right; rw [hat, hgn]
  ·rw [hother _ he]
   by_cases hlt2 : i + j < x.toNat + y.toNat
   ·exact k.ok i j hi hj hlt2
   ·rw [k.same i j hi hj (by omega), getD_set_ne' he]; exact h i j hi hj hs
 ·rw [hother _ fun e => by have := idx_eq hj (by omega) e; omega, k.same i j hi hj (by omega), hp.2 i j hi hj (by omega)]
 ·rw [hat]
  split
  ·rename_i hg; rw [hg]; rfl
  ·rename_i hg; rw [Bool.not_eq_true] at hg; rw [hg]; rfl
theorem KOk.known {ns : List Nd} {ks : List Int} {x y : Int} (hx : 0 ≤ x ∧ x < ns.length) (hy : 0 ≤ y ∧ y < ns.length) (h : KOk ns ks (x.toNat + y.toNat + 1)) (h0 : ¬ ks.getD (x * (ns.length : Int) + y).toNat 0 = 0) :
  decide (ks.getD (x * (ns.length : Int) + y).toNat 0 = 1) = geB ns x y := by
 rw [idx_int hx hy] at h0 ⊢
 have hgn : geB ns (x.toNat : Int) (y.toNat : Int) = geB ns x y := by rw [Int.toNat_of_nonneg hx.1, Int.toNat_of_nonneg hy.1]
 rcases h x.toNat y.toNat (by omega) (by omega) (by omega) with h1 | h1
 ·exact absurd h1 h0
 ·rw [h1, hgn]
  split
  ·rename_i hg; rw [hg]; rfl
  ·rename_i hg; rw [Bool.not_eq_true] at hg; rw [hg]; rfl
theorem geB_no_right {ns : List Nd} (ho : OptsOk ns) {x y : Int} {i : Nat} (hx : 0 ≤ x ∧ x < ns.length) (hi : i < (ns.getD x.toNat default).r.length) (h : geB ns y ((ns.getD x.toNat default).r.getD i 0) = true) : geB ns x y = false := by
 refine decP_false.2 fun g => (ge_iff.1 g).1 _ ((ro_den ho (by omega)).2 ⟨_, getD_mem (d := (0 : Int)) hi, rfl⟩) (decP_true.1 h)
theorem geB_no_left {ns : List Nd} (ho : OptsOk ns) {x y : Int} {i : Nat} (hy : 0 ≤ y ∧ y < ns.length) (hi : i < (ns.getD y.toNat default).l.length) (h : geB ns ((ns.getD y.toNat default).l.getD i 0) x = true) : geB ns x y = false := by
 refine decP_false.2 fun g => (ge_iff.1 g).2 _ ((lo_den ho (by omega)).2 ⟨_, getD_mem (d := (0 : Int)) hi, rfl⟩) (decP_true.1 h)
theorem geB_yes {ns : List Nd} (ho : OptsOk ns) {x y : Int} (hx : 0 ≤ x ∧ x < ns.length) (hy : 0 ≤ y ∧ y < ns.length) (h1 : ∀ i, i < (ns.getD x.toNat default).r.length → geB ns y ((ns.getD x.toNat default).r.getD i 0) = false) (h2 : ∀ i, i < (ns.getD y.toNat default).l.length → geB ns ((ns.getD y.toNat default).l.getD i 0) x = false) : geB ns x y = true := by
 refine decP_true.2 (ge_iff.2 ⟨fun r hr => ?_, fun l hl => ?_⟩)
 ·obtain ⟨z, hz, rfl⟩ := (ro_den ho (by omega)).1 hr
  obtain ⟨i, hi, rfl⟩ := List.getElem_of_mem hz
  have e : (ns.getD x.toNat default).r.getD i 0 = (ns.getD x.toNat default).r[i] := by rw [List.getD, List.getElem?_eq_getElem hi]; rfl
  have := h1 i hi
  rw [e] at this
  exact decP_false.1 this
 ·obtain ⟨z, hz, rfl⟩ := (lo_den ho (by omega)).1 hl
  obtain ⟨i, hi, rfl⟩ := List.getElem_of_mem hz
  have e : (ns.getD y.toNat default).l.getD i 0 = (ns.getD y.toNat default).l[i] := by rw [List.getD, List.getElem?_eq_getElem hi]; rfl
  have := h2 i hi
  rw [e] at this
  exact decP_false.1 this
theorem sq_bd {n : Nat} (h : n ≤ 1048576) : 0 ≤ (n : Int) * (n : Int) ∧ (n : Int) * (n : Int) ≤ 1099511627776 := by
 have h1 : n * n ≤ 1048576 * 1048576 := Nat.mul_le_mul h h
 rw [← Int.natCast_mul]; omega
theorem sq_nat (n : Nat) : ((n : Int) * (n : Int)).toNat = n * n := by rw [← Int.natCast_mul]; rfl
theorem ge_roots {asx bs : List Nd} (ha : FormOk asx ∧ 1 ≤ asx.length) (hb : FormOk bs ∧ 1 ≤ bs.length) (hl : asx.length + bs.length ≤ 1048576) (x y : Int) (hx : x = rootM [] [] asx) (hy : y = rootM (addM [] [] asx).2.1 (addM [] [] asx).2.2 bs) :
  geB (addM (addM [] [] asx).2.1 (addM [] [] asx).2.2 bs).2.1 x y = decP (geG (gOf asx) (gOf bs)) ∧ geB (addM (addM [] [] asx).2.1 (addM [] [] asx).2.2 bs).2.1 y x = decP (geG (gOf bs) (gOf asx)) := by
 have h0 := addM_all book_empty ha.1 (by simp; omega)
 have hlen := h0.hi
 simp only [List.length_nil, Nat.zero_add] at hlen
 have d0 := Ar.empty.add ha.1 (by simp; omega)
 have d1 := d0.ar.add hb.1 (by omega)
 have r0 := Ar.empty.root ha.1 ha.2 (by simp; omega)
 have r1 := d0.ar.root hb.1 hb.2 (by omega)
 have l0 := root_lt h0 ha.2
 subst hx hy
 have e0 : den (addM (addM [] [] asx).2.1 (addM [] [] asx).2.2 bs).2.1 (rootM [] [] asx).toNat = gOf asx := (d1.old _ (by omega)).trans r0
 unfold geB
 rw [e0, r1]
 exact ⟨rfl, rfl⟩

structure Od (e1 e2 : Nat) (G : Pin) (w : World) (o b : Nat) (bu bv kv : Value) (ns : List Nd) (bs ks : List Int) : Prop where
 bk : Bk e1 e2 G w b bu bv ns bs
 ox : Bx G w o [.pointer (some ⟨b, 0, none⟩), kv]
 ok : Own eInt e2 G w 0 kv ks
 aok : Apart (some o) kv.ownBlock
 abk : Apart (some b) kv.ownBlock
 auk : Apart bu.ownBlock kv.ownBlock
 avk : Apart bv.ownBlock kv.ownBlock
end Go.GL

namespace Go.GL
open Go Go.RowKit
section
variable {P : Program} {ρ : Operand → Value} {w : World} {d : Option Nat} {t ty t' : Nat} {pos : String} {aft : Array Edge} {g : Option (Nat × Bool)} {x y c : Operand}
 {v u : Value} {i j : Int} {k : IntKind} {G : Pin} {K : Value → World → Prop}




end


end Go.GL

namespace Go.GL
open Go Go.RowKit Go.Sort

end Go.GL

namespace Go.GL

end Go.GL

namespace Go.GL
open Go Go.RowKit
structure PM where
 f : Nat
 o : Nat
 c : Nat
 s : Nat
 n : Nat
structure PSt where
 ns : List Nd
 bs : List Int
 fl : List (ByteArray × Int)
 om : List ((Int × Int) × Bool)
 cm : List (Int × Int)
 sm : List ((Int × Int) × Int)
 gm : List (Int × Int)
def inP (p : Nat) (L R B : Value) (mm : PM) (k : Nat) : Prop := k = p ∨ L.ownBlock = some k ∨ R.ownBlock = some k ∨ B.ownBlock = some k ∨ k = mm.f ∨ k = mm.o ∨ k = mm.c ∨ k = mm.s ∨ k = mm.n
def NP (p : Nat) (L R B : Value) (mm : PM) (x : Option Nat) : Prop := ∀ k, x = some k → ¬ inP p L R B mm k
section
variable {er ei : Nat} {G G' : Pin} {w w' : World} {p : Nat} {L R B L' R' B' : Value} {mm : PM} {q : PSt}
theorem NP.ho {x : Option Nat} (h : NP p L R B mm x) : Apart x (some mm.o) := fun k a c => h k a (by cases c; exact Or.inr (Or.inr (Or.inr (Or.inr (Or.inr (Or.inl rfl))))))
theorem NP.hc {x : Option Nat} (h : NP p L R B mm x) : Apart x (some mm.c) := fun k a c => h k a (by cases c; exact Or.inr (Or.inr (Or.inr (Or.inr (Or.inr (Or.inr (Or.inl rfl)))))))
theorem NP.hn {x : Option Nat} (h : NP p L R B mm x) : Apart x (some mm.n) := fun k a c => h k a (by cases c; exact Or.inr (Or.inr (Or.inr (Or.inr (Or.inr (Or.inr (Or.inr (Or.inr rfl))))))))
theorem NP.hp {x : Option Nat} (h : NP p L R B mm x) : Apart x (some p) := fun k a c => h k a (by cases c; exact Or.inl rfl)
theorem NP.hl {x : Option Nat} (h : NP p L R B mm x) : Apart x L.ownBlock := fun k a c => h k a (Or.inr (Or.inl c))
theorem NP.hr {x : Option Nat} (h : NP p L R B mm x) : Apart x R.ownBlock := fun k a c => h k a (Or.inr (Or.inr (Or.inl c)))
theorem NP.hb {x : Option Nat} (h : NP p L R B mm x) : Apart x B.ownBlock := fun k a c => h k a (Or.inr (Or.inr (Or.inr (Or.inl c))))
end


def pd (q : PSt) (z : Int) : Nat := den q.ns z.toNat
def PlaceOk (q : PSt) (z : Int) : Prop := 0 ≤ z ∧ z < q.ns.length
structure PX (q q' : PSt) : Prop where
 len : q.ns.length ≤ q'.ns.length
 old : ∀ k, k < q.ns.length → q'.ns.getD k default = q.ns.getD k default
 can : ∀ a, look q'.cm a = none → look q.cm a = none
theorem PX.den {q q' : PSt} (h : PX q q') (ho : OptsOk q.ns) (ho' : OptsOk q'.ns) : ∀ k, k < q.ns.length → den q'.ns k = den q.ns k := by
 intro k
 induction k using Nat.strongRecOn with
 | _ k ih =>
  intro hk
  have oo := optsAt ho hk
  rw [den_opt ho' (by have := h.len; omega), den_opt ho hk, h.old k hk]
  rw [List.map_congr_left fun z hz => ih z.toNat (by have := oo.1 z hz; omega) (by have := oo.1 z hz; omega)]
  rw [List.map_congr_left (l := (q.ns.getD k default).r) fun z hz => ih z.toNat (by have := oo.2 z hz; omega) (by have := oo.2 z hz; omega)]

section
variable {p : Nat} {L R B : Value} {mm : PM} {w0 : World} {S : Nat → Prop}
theorem NP.hf {x : Option Nat} (h : NP p L R B mm x) : Apart x (some mm.f) := fun k a c => h k a (by cases c; exact Or.inr (Or.inr (Or.inr (Or.inr (Or.inl rfl)))))
end
end Go.GL

namespace Go.GL
open Go Go.RowKit
theorem join_pins {G G1 G2 : Pin} {w : World} {lo1 lo2 : Nat} (h1 : Pin.le G G1) (p1 : Pins G1 w) (p2 : Pins G2 w) (f1 : ∀ b o x, G1 b o x → G b o x ∨ lo1 ≤ b) (f2 : ∀ b o x, G2 b o x → G b o x ∨ lo2 ≤ b) :
  ∃ G3, Pin.le G G3 ∧ Pin.le G1 G3 ∧ Pin.le G2 G3 ∧ Pins G3 w ∧ ∀ b o x, G3 b o x → G b o x ∨ min lo1 lo2 ≤ b :=
 ⟨fun b o x => G1 b o x ∨ G2 b o x, fun b o x h => Or.inl (h1 b o x h), fun _ _ _ h => Or.inl h, fun _ _ _ h => Or.inr h, fun b o x h => h.elim (p1 b o x) (p2 b o x), fun b o x h => by
  rcases h with h | h
  ·rcases f1 b o x h with h | h
   ·exact Or.inl h
   ·exact Or.inr (by omega)
  ·rcases f2 b o x h with h | h
   ·exact Or.inl h
   ·exact Or.inr (by omega)⟩
theorem at_getD {a l : List Int} {i : Nat} (h : i < l.length) : (atL a l).getD i 0 = a.getD (l.getD i 0).toNat 0 := by simp [atL, List.getD, h]

end Go.GL

namespace Go.GL
open Go Go.RowKit
structure LdOk (fs : List Nd) (q q2 : PSt) (k : Nat) (ats : List Int) : Prop where
 len : ats.length = k
 hi : q2.ns.length ≤ q.ns.length + k
 pl : ∀ i, i < k → PlaceOk q2 (ats.getD i 0) ∧ pd q2 (ats.getD i 0) = den fs i
theorem LdOk.den {fs : List Nd} {q q2 : PSt} {k : Nat} {ats : List Int} (h : LdOk fs q q2 k ats) {l : List Int} (hl : ∀ z ∈ l, 0 ≤ z ∧ z < k) :
  (atL ats l).map (pd q2) = l.map fun z => GL.den fs z.toNat := by
 unfold atL
 rw [List.map_map]
 refine List.map_congr_left fun z hz => ?_
 have := hl z hz
 exact (h.pl z.toNat (by omega)).2
end Go.GL

namespace Go.GL
open Go Go.RowKit
end Go.GL

namespace Go.GL

end Go.GL

namespace Go.GL
open Go Go.RowKit
def KAll (ns : List Nd) (ks : List Int) : Prop := ks.length = ns.length * ns.length ∧ ∀ m, KOk ns ks m
theorem KAll.res {ns : List Nd} {ks k1 : List Int} {m : Nat} (h : KAll ns ks) (k : KRes ns ks k1 m) : KAll ns k1 := by
 refine ⟨k.len.trans h.1, fun m' i j hi hj hs => ?_⟩
 by_cases hlt : i + j < m
 ·exact k.ok i j hi hj hlt
 ·rw [k.same i j hi hj (by omega)]; exact h.2 m' i j hi hj hs
theorem KAll.zero {ns : List Nd} : KAll ns (List.replicate (ns.length * ns.length) 0) := ⟨by simp, fun _ => KOk.zero⟩

end Go.GL

namespace Go.GL
structure PairB (ns bs : List Nd) : Prop where
 ok1 : AddOk [] ns.length (addM [] [] ns).1 (addM [] [] ns).2.1 (addM [] [] ns).2.2
 ok2 : AddOk (addM [] [] ns).2.1 bs.length (addM (addM [] [] ns).2.1 (addM [] [] ns).2.2 bs).1 (addM (addM [] [] ns).2.1 (addM [] [] ns).2.2 bs).2.1 (addM (addM [] [] ns).2.1 (addM [] [] ns).2.2 bs).2.2
 p1 : ∀ i, i < ns.length → 0 ≤ (addM [] [] ns).1.getD i 0 ∧ (addM [] [] ns).1.getD i 0 < (addM (addM [] [] ns).2.1 (addM [] [] ns).2.2 bs).2.1.length
 p2 : ∀ i, i < bs.length → 0 ≤ (addM (addM [] [] ns).2.1 (addM [] [] ns).2.2 bs).1.getD i 0 ∧ (addM (addM [] [] ns).2.1 (addM [] [] ns).2.2 bs).1.getD i 0 < (addM (addM [] [] ns).2.1 (addM [] [] ns).2.2 bs).2.1.length
 ge : ∀ i k, i < ns.length → k < bs.length → geB (addM (addM [] [] ns).2.1 (addM [] [] ns).2.2 bs).2.1 ((addM [] [] ns).1.getD i 0) ((addM (addM [] [] ns).2.1 (addM [] [] ns).2.2 bs).1.getD k 0) = trC ns bs i k
theorem pair_book {ns bs : List Nd} (hf : FormOk ns) (hg : FormOk bs) (hl : ns.length + bs.length ≤ 1048576) : PairB ns bs := by
 have h1 := addM_all book_empty hf (by simp; omega)
 have hd1 := Ar.add Ar.empty hf (by simp; omega)
 have hi1 := h1.hi
 simp only [List.length_nil, Nat.zero_add] at hi1
 have h2 := addM_all h1.book hg (by omega)
 have hd2 := Ar.add hd1.ar hg (by omega)
 have hlo := h2.lo
 have e1 := h1.len; have e2 := h2.len
 refine ⟨h1, h2, fun i hi => ?_, fun i hi => h2.places i (by omega), fun i k hi hk => ?_⟩
 ·have := h1.places i (by omega); omega
 ·have q := h1.places i (by omega)
  unfold geB trC
  rw [hd2.is k hk, hd2.old _ (by omega), hd1.is i hi]
theorem next_y {ns bs : List Nd} {L : List Cl} {i j : Nat} (h : L = colL ns bs (rowL ns bs i) i j) (ht : trC ns bs i j = true) :
  L ++ [⟨(claimOf ns bs L i j).a, (claimOf ns bs L i j).b, (claimOf ns bs L i j).r, (claimOf ns bs L i j).l⟩] = colL ns bs (rowL ns bs i) i (j + 1) := by
 subst h
 show _ = nextL ns bs _ i j
 unfold nextL; rw [if_pos ht]
theorem next_n {ns bs : List Nd} {L : List Cl} {i j : Nat} (h : L = colL ns bs (rowL ns bs i) i j) (ht : trC ns bs i j = false) : L = colL ns bs (rowL ns bs i) i (j + 1) := by
 subst h
 show _ = nextL ns bs _ i j
 unfold nextL; rw [if_neg (by rw [ht]; exact Bool.false_ne_true)]
end Go.GL

namespace Go.GL
open Go Go.RowKit

abbrev C4 := Int × Int × Value × Value
def eCl4 : Elt C4 where
 size := 4
 rep := fun _ cs p => cs = [.int .i64 p.1, .int .i64 p.2.1, p.2.2.1, p.2.2.2] ∧ p.2.2.1.oneCell' = true ∧ p.2.2.2.oneCell' = true
 mono := fun _ h => h
 len := fun h => by rw [h.1]; rfl
 one := fun h u hu => by
  rw [h.1] at hu; simp at hu
  rcases hu with rfl | rfl | rfl | rfl
  ·rfl
  ·rfl
  ·exact h.2.1
  ·exact h.2.2
theorem flat_cl4 : Flat eCl4 := fun h => h
def vv4 (p : C4) : Value × Value := p.2.2
def ab4 (p : C4) : Int × Int := (p.1, p.2.1)
def lvC (ps : List C4) (cs : List Cl) : List Leaf := lvN (ps.map vv4) (cs.map ndC)
structure DPrf (cn e : Nat) (G : Pin) (w : World) (lo hi : Nat) (v : Value) (cs : List Cl) : Prop where
 ex : ∃ ps : List C4, ps.length = cs.length ∧ ps.map ab4 = cs.map prC ∧ Own eCl4 cn G w lo v ps ∧ (∀ k, v.ownBlock = some k → k < hi) ∧ Lvs e G w lo hi (lvC ps cs) ∧ ApL (lvC ps cs) v.ownBlock
theorem lvC_snoc {ps : List C4} {cs : List Cl} {LV : List Leaf} {a b : Int} {u v : Value} {c : Cl} (h : LV = lvC ps cs) (hl : ps.length = cs.length) : LV ++ [(u, c.r)] ++ [(v, c.l)] = lvC (ps ++ [(a, b, u, v)]) (cs ++ [c]) := by
 subst h
 have e : (ps.map vv4).length = (cs.map ndC).length := by simp only [List.length_map]; exact hl
 unfold lvC
 rw [List.map_append, List.map_append, List.map_singleton, List.map_singleton]
 exact (lvN_snoc (ps.map vv4) (cs.map ndC) (u, v) (ndC c) e).symm
theorem ab_snoc {ps : List C4} {cs : List Cl} {a b : Int} {u v : Value} {c : Cl} (h : ps.map ab4 = cs.map prC) (hc : prC c = (a, b)) : (ps ++ [(a, b, u, v)]).map ab4 = (cs ++ [c]).map prC := by
 rw [List.map_append, List.map_append, h, List.map_singleton, List.map_singleton, hc]; rfl
section
variable {cn e lo hi lo' hi' : Nat} {G G' : Pin} {w w' : World} {v : Value} {cs : List Cl}
theorem DPrf.nil : DPrf cn e G w lo hi (.slice none 0 0) [] := ⟨[], rfl, rfl, Own.nil _ _ _ _ _, fun k hk => (by cases hk), Lvs.nil, ApL.nil⟩
theorem DPrf.below (h : DPrf cn e G w lo hi v cs) (hb : Below w.heap.size w w') : DPrf cn e G w' lo hi v cs := by
 obtain ⟨ps, h1, h0, h2, h3, h4, h5⟩ := h.ex
 exact ⟨⟨ps, h1, h0, h2.below hb, h3, h4.below hb, h5⟩⟩
theorem DPrf.ext (h : DPrf cn e G w lo hi v cs) (hx : Ext noS G w G' w') : DPrf cn e G' w' lo hi v cs := by
 obtain ⟨ps, h1, h0, h2, h3, h4, h5⟩ := h.ex
 exact ⟨⟨ps, h1, h0, h2.ext hx, h3, h4.ext hx, h5⟩⟩
theorem DPrf.extS {S : Nat → Prop} (h : DPrf cn e G w lo hi v cs) (hx : Ext S G w G' w') (hS : ∀ k, lo ≤ k → k < hi → ¬ S k) : DPrf cn e G' w' lo hi v cs := by
 obtain ⟨ps, h1, h0, h2, h3, h4, h5⟩ := h.ex
 exact ⟨⟨ps, h1, h0, h2.extS hx (fun k hk => hS k (h2.lt k hk).1 (h3 k hk)), h3, h4.extS hx hS, h5⟩⟩
theorem DPrf.anti (h : DPrf cn e G' w lo hi v cs) (hg : Pin.le G G') : DPrf cn e G w lo hi v cs := by
 obtain ⟨ps, h1, h0, h2, h3, h4, h5⟩ := h.ex
 exact ⟨⟨ps, h1, h0, h2.anti flat_cl4 hg, h3, h4.anti hg, h5⟩⟩
theorem DPrf.wide (h : DPrf cn e G w lo hi v cs) (hl : lo' ≤ lo) (hh : hi ≤ hi') : DPrf cn e G w lo' hi' v cs := by
 obtain ⟨ps, h1, h0, h2, h3, h4, h5⟩ := h.ex
 exact ⟨⟨ps, h1, h0, h2.weaken hl, fun k hk => Nat.lt_of_lt_of_le (h3 k hk) hh, h4.weaken hl hh, h5⟩⟩
theorem DPrf.more {b : Nat} (h : DPrf cn e G w lo hi v cs) (hl : Pin.le G G') (hf : ∀ k o u, G' k o u → G k o u ∨ k = b) (hb : hi ≤ b ∨ b < lo) : DPrf cn e G' w lo hi v cs := by
 obtain ⟨ps, h1, h0, h2, h3, h4, h5⟩ := h.ex
 exact ⟨⟨ps, h1, h0, h2.moreA hl hf (fun k a c => by cases c; have := h3 _ a; have := (h2.lt _ a).1; omega), h3, h4.more hl hf (fun p hp k a c => by cases c; have := h4.hi p hp _ a; have := (h4.ge p hp _ a).1; omega), h5⟩⟩
theorem DPrf.kept {b : Nat} (h : DPrf cn e G w lo hi v cs) (hg : w.grownBy w' (some b)) (hb : hi ≤ b ∨ b < lo) : DPrf cn e G w' lo hi v cs := by
 obtain ⟨ps, h1, h0, h2, h3, h4, h5⟩ := h.ex
 exact ⟨⟨ps, h1, h0, h2.keptA hg (fun k a c => by cases c; have := h3 _ a; have := (h2.lt _ a).1; omega), h3, h4.kept hg (fun p hp k a c => by cases c; have := h4.hi p hp _ a; have := (h4.ge p hp _ a).1; omega), h5⟩⟩
theorem DPrf.one (h : DPrf cn e G w lo hi v cs) : v.oneCell' = true := by
 obtain ⟨ps, h1, h0, h2, h3, h4, h5⟩ := h.ex
 exact h2.one
theorem DPrf.read (h : DPrf cn e G w lo hi v cs) (hP : Pins G w) : ∃ G', Pin.le G G' ∧ Pins G' w ∧ RSl eClaim G' v cs ∧ ∀ b o x, G' b o x → G b o x ∨ lo ≤ b := by
 obtain ⟨ps, h1, h0, h2, h3, h4, h5⟩ := h.ex
 refine ⟨GLv (Gadd G w v) w (lvC ps cs), Pin.le_trans (Gadd.le _ _ _) GLv.le, GLv.pins (Gadd.pins hP v), (h2.read.mono GLv.le).conv h1.symm rfl fun i p c cells hp hc hr => ?_, fun b o x hx => ?_⟩
 rotate_left
 ·rcases hx with (a | a) | a
  ·exact Or.inl a
  ·exact Or.inr (h2.lt b a.1).1
  ·obtain ⟨⟨p, hp, hk⟩, _⟩ := a
   exact Or.inr ((h4.own p hp).lt b hk).1
 have hm := lvN_mem (ps := ps.map vv4) (ns := cs.map ndC) (i := i) (p := vv4 p) (n := ndC c) (by rw [List.getElem?_map, hp]; rfl) (by rw [List.getElem?_map, hc]; rfl)
 obtain ⟨rfl, _, _⟩ := hr
 have key : ∀ q ∈ lvC ps cs, RSl eInt (GLv (Gadd G w v) w (lvC ps cs)) q.1 q.2 := fun q hq =>
  (h4.read hq).mono fun b o u hu => by
   rcases hu with a | a
   ·exact Or.inl (Or.inl a)
   ·exact Or.inr a
 have he : ab4 p = prC c := by
  have := congrArg (fun l => l[i]?) h0
  simp only [List.getElem?_map, hp, hc, Option.map_some] at this
  exact Option.some.inj this
 have e1 : p.1 = c.a := congrArg Prod.fst he
 have e2 : p.2.1 = c.b := congrArg Prod.snd he
 exact ⟨_, _, (by rw [e1, e2]; rfl), key _ hm.1, key _ hm.2⟩
theorem DPrf.give (h : DPrf cn e G' w' w.heap.size w'.heap.size v cs) (hx : Ext noS G w G' w') : ∃ G'', RSl eClaim G'' v cs ∧ Ext noS G w G'' w' := by
 obtain ⟨G'', h1, h2, h3, h5⟩ := h.read hx.pins
 refine ⟨G'', h3, Pin.le_trans hx.le h1, h2, fun b o x hb => ?_, hx.os, hx.tape, hx.output, hx.size, hx.block⟩
 rcases h5 b o x hb with a | a
 ·exact hx.fresh b o x a
 ·exact Or.inr a
end
end Go.GL
namespace Go.GL
open Go Go.RowKit

def new4 (f : Nat) (q : Int) (p : C4) : C4 := if f = 0 then (q, p.2) else (p.1, q, p.2.2)
section
variable {P : Program} {ρ : Operand → Value} {w : World} {K : Value → World → Prop} {d : Option Nat} {t ty e : Nat} {pos : String} {aft : Array Edge} {g : Option (Nat × Bool)} {x y : Operand} {G : Pin} {v : Value}
theorem run_setC {base : Nat} {xs : List C4} {z q : Int} (f : Nat) (hf : f < 2) (hs : (P.info? t).map (·.size) = some 1) (hx : ρ x = eptr v z 4 f) (hy : ρ y = .int .i64 q) (hP : Pins G w) (hv : Own eCl4 e G w base v xs) (h0 : 0 ≤ z) (h1 : z < xs.length) :
  ∃ w', (execOp ρ ⟨d, .store t x y, ty, pos, aft, g⟩).run P w = .ok .skip w' ∧ Own eCl4 e G w' base v (xs.set z.toNat (new4 f q (xs.getD z.toNat default))) ∧ Pins G w' ∧ w.grownBy w' v.ownBlock ∧ w'.heap.size = w.heap.size := by
 have hz : z.toNat < xs.length := by omega
 obtain ⟨cells, hown, hr⟩ := hv.ex
 have hx1 : xs[z.toNat] = xs.getD z.toNat default := by simp [List.getD, hz]
 have hel0 := hr z.toNat _ (List.getElem?_eq_getElem hz)
 rw [hx1] at hel0
 have hn1 : (new4 f q (xs.getD z.toNat default)).2.2 = (xs.getD z.toNat default).2.2 := by unfold new4; split <;> rfl
 obtain ⟨gb, w', hb, hp, hrun, a1, a2, a3, a4⟩ := hv.setAt (P := P) h0 h1 (q := new4 f q (xs.getD z.toNat default)) (cs := [Value.int .i64 (new4 f q (xs.getD z.toNat default)).1, Value.int .i64 (new4 f q (xs.getD z.toNat default)).2.1, (new4 f q (xs.getD z.toNat default)).2.2.1, (new4 f q (xs.getD z.toNat default)).2.2.2])
  ⟨rfl, by rw [hn1]; exact hel0.2.1, by rw [hn1]; exact hel0.2.2⟩ hP
 rcases hown.2 with ⟨rfl, hl0⟩ | ⟨g', cap, cur, rfl, hbg, hg, hnc, hcm, hcs, htake⟩
 ·omega
 ·have hgb : gb = g' := by simpa [Value.ownBlock] using hb.symm
  subst hgb
  have e2 : eCl4.size = 4 := rfl
  rw [e2] at hrun hcs htake hr hp
  have hle1 : z.toNat * 4 + 4 ≤ cur.size := by omega
  have hel := hel0.1
  rw [e2, ← htake] at hel
  have ho1 := hel0.2.1; have ho2 := hel0.2.2
  have hc : ∀ k u, ([Value.int .i64 (xs.getD z.toNat default).1, .int .i64 (xs.getD z.toNat default).2.1, (xs.getD z.toNat default).2.2.1, (xs.getD z.toNat default).2.2.2] : List Value)[k]? = some u → cur.toList[z.toNat * 4 + k]? = some u := fun k u hu => by
   have hk : k < 4 := by have := (List.getElem?_eq_some_iff.1 hu).1; simpa using this
   have h3 : ((((cur.toList.take (xs.length * 4)).drop (z.toNat * 4)).take 4)[k]?) = some u := by rw [show ((cur.toList.take (xs.length * 4)).drop (z.toNat * 4)).take 4 = _ from hel]; exact hu
   rw [List.getElem?_take, if_pos hk, List.getElem?_drop, List.getElem?_take, if_pos (by omega)] at h3
   exact h3
  have c0 := hc 0 _ rfl
  have c1 := hc 1 _ rfl
  have c2 := hc 2 _ rfl
  have c3 := hc 3 _ rfl
  rw [Nat.add_zero] at c0
  have r1 := run_storeCells_at P gb (z.toNat * 4) e [.int .i64 (new4 f q (xs.getD z.toNat default)).1, .int .i64 (new4 f q (xs.getD z.toNat default)).2.1, (new4 f q (xs.getD z.toNat default)).2.2.1, (new4 f q (xs.getD z.toNat default)).2.2.2] 0 cur w hg (by simpa using hle1)
   (by
    intro u hu
    rcases List.mem_cons.1 hu with rfl | hu
    ·rfl
    rcases List.mem_cons.1 hu with rfl | hu
    ·rfl
    rcases List.mem_cons.1 hu with rfl | hu
    ·rw [hn1]; exact ho1
    rcases List.mem_cons.1 hu with rfl | hu
    ·rw [hn1]; exact ho2
    ·cases hu)
  have r2 := run_storeCells_at P gb (z.toNat * 4 + f) e [.int .i64 q] 0 cur w hg (by simp; omega) (by intro u hu; simp at hu; subst hu; rfl)
  simp only [Nat.add_zero] at r1 r2
  have hw : w' = w.setRow gb (cur.toList.take (z.toNat * 4 + f) ++ [Value.int .i64 q] ++ cur.toList.drop (z.toNat * 4 + f + [Value.int .i64 q].length)).toArray := by
   rw [hrun] at r1
   have hw1 := (Result.ok.inj r1).2
   rw [hw1]
   congr 2
   have hd0 : cur.toList.drop (z.toNat * 4) = .int .i64 (xs.getD z.toNat default).1 :: .int .i64 (xs.getD z.toNat default).2.1 :: (xs.getD z.toNat default).2.2.1 :: (xs.getD z.toNat default).2.2.2 :: cur.toList.drop (z.toNat * 4 + 4) := by
    obtain ⟨h5, h6⟩ := List.getElem?_eq_some_iff.1 c0
    obtain ⟨h7, h8⟩ := List.getElem?_eq_some_iff.1 c1
    obtain ⟨h9, h10⟩ := List.getElem?_eq_some_iff.1 c2
    obtain ⟨h11, h12⟩ := List.getElem?_eq_some_iff.1 c3
    rw [List.drop_eq_getElem_cons h5, List.drop_eq_getElem_cons h7, List.drop_eq_getElem_cons h9, List.drop_eq_getElem_cons h11, h6, h8, h10, h12]
   match f, hf with
   | 0, _ =>
    have : cur.toList.drop (z.toNat * 4 + 1) = .int .i64 (xs.getD z.toNat default).2.1 :: (xs.getD z.toNat default).2.2.1 :: (xs.getD z.toNat default).2.2.2 :: cur.toList.drop (z.toNat * 4 + 4) := by
     have := congrArg (List.drop 1) hd0
     rw [List.drop_drop] at this
     simpa using this
    simp [this, new4]
   | 1, _ =>
    have h2 : cur.toList.drop (z.toNat * 4 + 2) = (xs.getD z.toNat default).2.2.1 :: (xs.getD z.toNat default).2.2.2 :: cur.toList.drop (z.toNat * 4 + 4) := by
     have := congrArg (List.drop 2) hd0
     rw [List.drop_drop] at this
     simpa using this
    have : cur.toList.take (z.toNat * 4 + 1) = cur.toList.take (z.toNat * 4) ++ [.int .i64 (xs.getD z.toNat default).1] := by
     rw [List.take_add_one, c0]; rfl
    simp [this, h2, new4]
  have hpt : eptr (.slice (some ⟨gb, 0, none⟩) xs.length cap) z 4 f = .pointer (some ⟨gb, z.toNat * 4 + f, none⟩) := by
   clear hx hrun r1 r2 hw hr hc hel hp a1 hv hown hel0 ho1 ho2
   simp only [eptr, Addr.add]; split <;> simp_all
  rw [hpt] at hx
  refine ⟨w', ?_, a1, a2, a3, a4⟩
  have hlv : (storeVar t ⟨gb, z.toNat * 4 + f, none⟩ (.int .i64 q)).run P w = .ok () w' := by
   unfold storeVar
   simp only [Sem.run_bind, run_sizeOf hs, Result.andThen_ok]
   have : (Value.int .i64 q).cells.size = 1 := rfl
   simp only [this, ne_eq, not_true_eq_false, if_false]
   have hc2 : (Value.int .i64 q).cells.toList = [.int .i64 q] := rfl
   rw [hc2, r2, hw]
  simp only [execOp, hx, hy, Instr.storeAt, Instr.sureAddr, Sem.run_bind, Sem.run_pure, Result.andThen_ok, hlv]
theorem o_setC {base : Nat} {xs : List C4} {z q : Int} (f : Nat) (hf : f < 2) (hs : (P.info? t).map (·.size) = some 1) (hx : ρ x = eptr v z 4 f) (hy : ρ y = .int .i64 q) (hP : Pins G w) (hv : Own eCl4 e G w base v xs) (h0 : 0 ≤ z) (h1 : z < xs.length)
  (h : ∀ w', Own eCl4 e G w' base v (xs.set z.toNat (new4 f q (xs.getD z.toNat default))) → Pins G w' → w.grownBy w' v.ownBlock → w'.heap.size = w.heap.size → K undef w') :
  EO P ρ ⟨d, .store t x y, ty, pos, aft, g⟩ w K := by
 obtain ⟨w', h2, h3, h4, h5, h6⟩ := run_setC (d := d) (ty := ty) (pos := pos) (aft := aft) (g := g) f hf hs hx hy hP hv h0 h1
 exact EO.skip h2 (h w' h3 h4 h5 h6)
end
def totC : List Cl → Int
 | [] => 0
 | c :: r => 2 + (c.r.length : Int) + (c.l.length : Int) + totC r
def markC : Int → List Cl → List Cl
 | _, [] => []
 | k, c :: r => ⟨k, k + 1, upL (k + 1 + 1) c.r.length, upL (k + 1 + 1 + (c.r.length : Int)) c.l.length⟩ :: markC (k + 1 + 1 + (c.r.length : Int) + (c.l.length : Int)) r
theorem markC_length : ∀ (k : Int) (l : List Cl), (markC k l).length = l.length
 | _, [] => rfl
 | k, x :: r => by simp [markC, markC_length]
theorem totC_nonneg : ∀ (l : List Cl), 0 ≤ totC l
 | [] => Int.le_refl _
 | x :: r => by have := totC_nonneg r; unfold totC; omega
theorem totC_next {l : List Cl} {j : Nat} (h : j < l.length) : totC (l.drop j) = 2 + ((l.getD j default).r.length : Int) + ((l.getD j default).l.length : Int) + totC (l.drop (j + 1)) := by
 rw [drop_getD l default h]; rfl
theorem totC_end {l : List Cl} {j : Nat} (h : l.length ≤ j) : totC (l.drop j) = 0 := by
 rw [List.drop_eq_nil_of_le h]; rfl
theorem markC_next {k : Int} {l : List Cl} {j : Nat} (h : j < l.length) : markC k (l.drop j) = ⟨k, k + 1, upL (k + 1 + 1) (l.getD j default).r.length, upL (k + 1 + 1 + ((l.getD j default).r.length : Int)) (l.getD j default).l.length⟩ ::
  markC (k + 1 + 1 + ((l.getD j default).r.length : Int) + ((l.getD j default).l.length : Int)) (l.drop (j + 1)) := by
 rw [drop_getD l default h]; rfl
structure MkC (ps : List C4) (cs : List Cl) (kz : Int) (j : Nat) (q : Int) (ys : List C4) (A : List Leaf) : Prop where
 len : ys.length = cs.length
 vv : ys.map vv4 = ps.map vv4
 ab : (markC kz cs).map prC = (ys.map ab4).take j ++ (markC q (cs.drop j)).map prC
 lv : lvC ps (markC kz cs) = A ++ lvN ((ps.map vv4).drop j) ((markC q (cs.drop j)).map ndC)
theorem MkC.start {ps : List C4} {cs : List Cl} {kz : Int} (h : ps.length = cs.length) : MkC ps cs kz 0 kz ps [] := ⟨h, rfl, by simp, rfl⟩
theorem MkC.next {ps : List C4} {cs : List Cl} {kz q : Int} {j : Nat} {ys zs : List C4} {A : List Leaf} {u v : Value} (h : MkC ps cs kz j q ys A) (hp : ps.length = cs.length) (hj : j < cs.length)
  (hz : zs = (ys.set j (new4 0 q (ys.getD j default))).set j (new4 1 (q + 1) ((ys.set j (new4 0 q (ys.getD j default))).getD j default))) (hu : u = (ps.getD j default).2.2.1) (hv : v = (ps.getD j default).2.2.2) :
  MkC ps cs kz (j + 1) (q + 1 + 1 + ((cs.getD j default).r.length : Int) + ((cs.getD j default).l.length : Int)) zs (A ++ [(u, upL (q + 1 + 1) (cs.getD j default).r.length)] ++ [(v, upL (q + 1 + 1 + ((cs.getD j default).r.length : Int)) (cs.getD j default).l.length)]) := by
 have hyl := h.len
 have hz1 : zs = ys.set j (q, q + 1, (ys.getD j default).2.2) := by
  rw [hz]
  have e : (ys.set j (new4 0 q (ys.getD j default))).getD j default = new4 0 q (ys.getD j default) := by simp [List.getD, show j < ys.length by omega]
  rw [e, List.set_set]; rfl
 subst hz1
 have hab := h.ab; have hlv := h.lv
 rw [markC_next hj] at hab hlv
 refine ⟨by simp [hyl], ?_, ?_, ?_⟩
 ·rw [← h.vv]
  apply List.ext_getElem?
  intro i
  simp only [List.getElem?_map]
  by_cases hi : j = i
  ·subst hi
   simp [List.getD, show j < ys.length by omega, vv4]
  ·rw [List.getElem?_set_ne hi]
 ·rw [hab, List.map_cons]
  have e1 : ((ys.set j (q, q + 1, (ys.getD j default).2.2)).map ab4).take (j + 1) = (ys.map ab4).take j ++ [(q, q + 1)] := by
   rw [take_snoc _ default (by simp; omega)]
   congr 1
   ·rw [← List.map_take, ← List.map_take, List.take_set_of_le (Nat.le_refl _)]
   ·simp [List.getD, show j < ys.length by omega, ab4]
  rw [e1, List.append_assoc]; rfl
 ·rw [hlv, List.map_cons, drop_getD (ps.map vv4) default (by simp; omega)]
  have e2 : (ps.map vv4).getD j default = ((ps.getD j default).2.2.1, (ps.getD j default).2.2.2) := by simp [List.getD, show j < ps.length by omega, vv4]
  rw [e2, hu, hv, List.append_assoc, List.append_assoc]; rfl
theorem MkC.done {ps : List C4} {cs : List Cl} {kz q : Int} {j : Nat} {ys : List C4} {A : List Leaf} (h : MkC ps cs kz j q ys A) (hj : j = cs.length) : ys.map ab4 = (markC kz cs).map prC ∧ lvC ys (markC kz cs) = A := by
 have h1 := h.ab; have h2 := h.lv
 subst hj
 rw [List.drop_length] at h1 h2
 refine ⟨?_, ?_⟩
 ·rw [h1, List.take_of_length_le (by simp [h.len])]; simp [markC]
 ·have e : lvC ys (markC kz cs) = lvC ps (markC kz cs) := by unfold lvC; rw [h.vv]
  rw [e, h2]; simp [markC, lvN]
theorem apl_same {L L' : List Leaf} {x : Option Nat} (h : ApL L x) (hl : L'.map (·.1) = L.map (·.1)) : ApL L' x := fun p hp => by
 have : p.1 ∈ L.map (·.1) := by rw [← hl]; exact List.mem_map_of_mem hp
 obtain ⟨q, hq, he⟩ := List.mem_map.1 this
 rw [← he]; exact h q hq
end Go.GL
namespace Go.GL
open Go Go.RowKit
theorem vv_at {zs ps : List C4} (h : zs.map vv4 = ps.map vv4) (j : Nat) : (zs.getD j default).2.2 = (ps.getD j default).2.2 := by
 have := congrArg (fun l => l.getD j (vv4 default)) h
 simp only [List.getD, List.getElem?_map, Option.getD_map] at this
 exact this
theorem set_vv {ys : List C4} {j f : Nat} {q : Int} : (ys.set j (new4 f q (ys.getD j default))).map vv4 = ys.map vv4 := by
 apply List.ext_getElem?
 intro i
 simp only [List.getElem?_map]
 by_cases hi : j = i
 ·subst hi
  by_cases hj : j < ys.length
  ·have e : vv4 (new4 f q ys[j]) = vv4 ys[j] := by unfold new4 vv4; split <;> rfl
   simp [List.getD, hj, e]
  ·rw [List.set_eq_of_length_le (by omega)]
 ·rw [List.getElem?_set_ne hi]
theorem vv_mem {ps : List C4} {j : Nat} (h : j < ps.length) : (ps.getD j default).2.2.1 ∈ leafV (ps.map vv4) ∧ (ps.getD j default).2.2.2 ∈ leafV (ps.map vv4) := by
 have e : (ps.map vv4).getD j default = (ps.getD j default).2.2 := by simp [List.getD, h, vv4]
 have := leafV_mem (ps := ps.map vv4) (j := j) (by simpa using h)
 rwa [e] at this
theorem lvC_next {ps : List C4} {cs : List Cl} {j : Nat} (hp : j < ps.length) (hc : j < cs.length) :
  lvN ((ps.map vv4).drop j) ((cs.drop j).map ndC) = ((ps.getD j default).2.2.1, (cs.getD j default).r) :: ((ps.getD j default).2.2.2, (cs.getD j default).l) :: lvN ((ps.map vv4).drop (j + 1)) ((cs.drop (j + 1)).map ndC) := by
 rw [drop_getD (ps.map vv4) default (by simpa using hp), drop_getD cs default hc]
 have e : (ps.map vv4).getD j default = (ps.getD j default).2.2 := by simp [List.getD, hp, vv4]
 rw [e]; rfl
theorem lvC_end {ps : List C4} {cs : List Cl} {j : Nat} (h : ps.length ≤ j) : lvN ((ps.map vv4).drop j) ((cs.drop j).map ndC) = [] := by
 rw [List.drop_eq_nil_of_le (by simpa using h)]; rfl
theorem MkC.apl {ps : List C4} {cs : List Cl} {kz q : Int} {j : Nat} {ys : List C4} {A : List Leaf} {x : Option Nat} (h : MkC ps cs kz j q ys A) (hp : ps.length = cs.length) (hav : ∀ u ∈ leafV (ps.map vv4), Apart u.ownBlock x) :
  ApL (A ++ lvN ((ps.map vv4).drop j) ((cs.drop j).map ndC)) x := by
 refine apl_same (L := lvC ps (markC kz cs)) (apl_of hav (lvN_fst (by simp [hp, markC_length]))) ?_
 rw [h.lv, List.map_append, List.map_append, lvN_fst (by simp [hp]), lvN_fst (by simp [hp, markC_length])]
structure SmC (cs : List Cl) : Prop where
 len : cs.length ≤ 200
 ln : ∀ j, j < cs.length → (cs.getD j default).r.length ≤ 24 ∧ (cs.getD j default).l.length ≤ 24
theorem markC_at {cs : List Cl} {kz q : Int} {j : Nat} (hj : j < cs.length) (h : (markC kz cs).drop j = markC q (cs.drop j)) :
  ((markC kz cs).getD j default).a = q ∧ ((markC kz cs).getD j default).b = q + 1 ∧ ((markC kz cs).getD j default).r = upL (q + 1 + 1) (cs.getD j default).r.length ∧ ((markC kz cs).getD j default).l = upL (q + 1 + 1 + ((cs.getD j default).r.length : Int)) (cs.getD j default).l.length ∧
   (markC kz cs).drop (j + 1) = markC (q + 1 + 1 + ((cs.getD j default).r.length : Int) + ((cs.getD j default).l.length : Int)) (cs.drop (j + 1)) := by
 have hl := markC_length kz cs
 rw [drop_getD (markC kz cs) default (by omega), markC_next hj] at h
 obtain ⟨h1, h2⟩ := List.cons.inj h
 rw [h1]; exact ⟨rfl, rfl, rfl, rfl, h2⟩
section
variable {cn e lo hi : Nat} {G G' : Pin} {w w' : World} {v : Value} {cs : List Cl}
theorem DPrf.mark (h : DPrf cn e G w lo hi v cs) : ∃ ps : List C4, Own eCl4 cn G w 0 v ps ∧ ps.length = cs.length ∧ (∀ a ∈ leafV (ps.map vv4), Apart a.ownBlock v.ownBlock) ∧ Lvs e G w lo hi (lvC ps cs) ∧ (∀ k, inV (v :: leafV (ps.map vv4)) k → inR lo hi k) ∧
  ∀ {w' : World} {ys : List C4} {cs' : List Cl}, cs'.length = cs.length → ys.length = cs.length → ys.map vv4 = ps.map vv4 → ys.map ab4 = cs'.map prC → Own eCl4 cn G w' 0 v ys → Lvs e G w' lo hi (lvC ps cs') → DPrf cn e G w' lo hi v cs' := by
 obtain ⟨ps, h1, h0, h2, h3, h4, h5⟩ := h.ex
 have hl : (ps.map vv4).length = (cs.map ndC).length := by simp [h1]
 have hav : ∀ a ∈ leafV (ps.map vv4), Apart a.ownBlock v.ownBlock := apl_fst h5 (lvN_fst hl)
 refine ⟨ps, h2.weaken (Nat.zero_le _), h1, hav, h4, fun k hk => ?_, fun hl2 hy hvv hab ho hL => ?_⟩
 ·obtain ⟨u, hu, hk⟩ := hk
  rcases List.mem_cons.1 hu with rfl | hu
  ·exact ⟨(h2.lt k hk).1, h3 k hk⟩
  ·exact h4.inR (us := leafV (ps.map vv4)) (fun u hu => by rw [show (lvC ps cs).map (·.1) = leafV (ps.map vv4) from lvN_fst hl]; exact hu) k ⟨u, hu, hk⟩
 ·refine ⟨_, hy.trans hl2.symm, hab, ho.up fun k hk => (h2.lt k hk).1, h3, ?_, ?_⟩
  ·unfold lvC; rw [hvv]; exact hL
  ·refine apl_of hav ?_
   unfold lvC; rw [hvv]; exact lvN_fst (by simp [h1, hl2])
end
theorem cut_lens {L : List Cl} {nd : List Bool} (h : ∀ j, (L.getD j default).r.length ≤ 24 ∧ (L.getD j default).l.length ≤ 24) : ∀ j, ∀ c ∈ (cutN L nd j).2, c.r.length ≤ 24 ∧ c.l.length ≤ 24
 | 0 => fun _ hc => by cases hc
 | j + 1 => by
  have ih := cut_lens (nd := nd) h j
  show ∀ c ∈ (cutStep L nd j (cutN L nd j)).2, _
  unfold cutStep
  split
  ·intro c hc
   rcases List.mem_append.1 hc with h1 | h1
   ·exact ih c h1
   ·simp at h1; subst h1
    simp only [at_length]; exact h j
  ·exact ih
theorem prf_small (asx bs : List Nd) : SmC (prfL asx bs) := by
 by_cases hp : PrfP asx bs
 ·obtain ⟨_, e2⟩ := prf_yes hp
  rw [e2]
  have hf := (full_ok hp.ga hp.gb hp.ge).ln
  have hall : ∀ j, ((fullL asx bs).getD j default).r.length ≤ 24 ∧ ((fullL asx bs).getD j default).l.length ≤ 24 := fun j => by
   by_cases hj : j < (fullL asx bs).length
   ·exact hf j hj
   ·have e : (fullL asx bs).getD j default = default := by simp [List.getD, List.getElem?_eq_none (show (fullL asx bs).length ≤ j by omega)]
    rw [e]; exact ⟨Nat.zero_le _, Nat.zero_le _⟩
  exact ⟨hp.le, fun j hj => cut_lens hall _ _ (mem_getD_of hj)⟩
 ·obtain ⟨_, e2⟩ := prf_no hp
  rw [e2]; exact ⟨Nat.zero_le _, fun j hj => absurd hj (Nat.not_lt_zero j)⟩
end Go.GL

set_option maxRecDepth 20000
set_option maxHeartbeats 2000000
namespace Go.Proofs.Ytdleojbknkbpiaa
namespace B1
open Go.RowKit Go.GL Go.Proofs
end B1
section
open Go.RowKit Go.GL Go.Proofs
theorem ag22 : (Try.prog.underlying 22).map aggD = some false := by kernel_rfl
theorem ag24 : (Try.prog.underlying 24).map aggD = some true := by kernel_rfl
theorem ag26 : (Try.prog.underlying 26).map aggD = some false := by kernel_rfl
theorem ag28 : (Try.prog.underlying 28).map aggD = some true := by kernel_rfl
theorem ag3 : (Try.prog.underlying 3).map aggD = some false := by kernel_rfl
theorem ag31 : (Try.prog.underlying 31).map aggD = some false := by kernel_rfl
theorem ag33 : (Try.prog.underlying 33).map aggD = some true := by kernel_rfl
theorem ag4 : (Try.prog.underlying 4).map aggD = some false := by kernel_rfl
theorem ag47 : (Try.prog.underlying 47).map aggD = some false := by kernel_rfl
theorem ag49 : (Try.prog.underlying 49).map aggD = some true := by kernel_rfl
theorem ag52 : (Try.prog.underlying 52).map aggD = some true := by kernel_rfl
theorem ag60 : (Try.prog.underlying 60).map aggD = some true := by kernel_rfl
theorem ag62 : (Try.prog.underlying 62).map aggD = some true := by kernel_rfl
theorem ag63 : (Try.prog.underlying 63).map aggD = some false := by kernel_rfl
theorem ap3 : (Try.prog.info? 3).map (fun i => (i.size, i.bytes, (i.zero.map (·.cells.size)))) = some (1, 8, some 1) := by kernel_rfl
theorem ap49 : (Try.prog.info? 49).map (fun i => (i.size, i.bytes, (i.zero.map (·.cells.size)))) = some (4, 64, some 4) := by kernel_rfl
theorem ap52 : (Try.prog.info? 52).map (fun i => (i.size, i.bytes, (i.zero.map (·.cells.size)))) = some (2, 16, some 2) := by kernel_rfl
theorem ap62 : (Try.prog.info? 62).map (fun i => (i.size, i.bytes, (i.zero.map (·.cells.size)))) = some (2, 48, some 2) := by kernel_rfl
theorem nm10 : (Try.f10.name == "runtime.NumGoroutine") = false := by kernel_rfl
theorem nm11 : (Try.f11.name == "runtime.NumGoroutine") = false := by kernel_rfl
theorem nm12 : (Try.f12.name == "runtime.NumGoroutine") = false := by kernel_rfl
theorem nm13 : (Try.f13.name == "runtime.NumGoroutine") = false := by kernel_rfl
theorem nm14 : (Try.f14.name == "runtime.NumGoroutine") = false := by kernel_rfl
theorem nm15 : (Try.f15.name == "runtime.NumGoroutine") = false := by kernel_rfl
theorem nm16 : (Try.f16.name == "runtime.NumGoroutine") = false := by kernel_rfl
theorem nm17 : (Try.f17.name == "runtime.NumGoroutine") = false := by kernel_rfl
theorem nm18 : (Try.f18.name == "runtime.NumGoroutine") = false := by kernel_rfl
theorem nm19 : (Try.f19.name == "runtime.NumGoroutine") = false := by kernel_rfl
theorem nm20 : (Try.f20.name == "runtime.NumGoroutine") = false := by kernel_rfl
theorem nm21 : (Try.f21.name == "runtime.NumGoroutine") = false := by kernel_rfl
theorem nm22 : (Try.f22.name == "runtime.NumGoroutine") = false := by kernel_rfl
theorem nm23 : (Try.f23.name == "runtime.NumGoroutine") = false := by kernel_rfl
theorem nm24 : (Try.f24.name == "runtime.NumGoroutine") = false := by kernel_rfl
theorem nm25 : (Try.f25.name == "runtime.NumGoroutine") = false := by kernel_rfl
theorem nm26 : (Try.f26.name == "runtime.NumGoroutine") = false := by kernel_rfl
theorem nm27 : (Try.f27.name == "runtime.NumGoroutine") = false := by kernel_rfl
theorem nm28 : (Try.f28.name == "runtime.NumGoroutine") = false := by kernel_rfl
theorem nm29 : (Try.f29.name == "runtime.NumGoroutine") = false := by kernel_rfl
theorem nm30 : (Try.f30.name == "runtime.NumGoroutine") = false := by kernel_rfl
theorem nm31 : (Try.f31.name == "runtime.NumGoroutine") = false := by kernel_rfl
theorem nm32 : (Try.f32.name == "runtime.NumGoroutine") = false := by kernel_rfl
theorem nm33 : (Try.f33.name == "runtime.NumGoroutine") = false := by kernel_rfl
theorem nm34 : (Try.f34.name == "runtime.NumGoroutine") = false := by kernel_rfl
theorem nm35 : (Try.f35.name == "runtime.NumGoroutine") = false := by kernel_rfl
theorem nm36 : (Try.f36.name == "runtime.NumGoroutine") = false := by kernel_rfl
theorem nm37 : (Try.f37.name == "runtime.NumGoroutine") = false := by kernel_rfl
theorem nm38 : (Try.f38.name == "runtime.NumGoroutine") = false := by kernel_rfl
theorem nm39 : (Try.f39.name == "runtime.NumGoroutine") = false := by kernel_rfl
theorem nm4 : (Try.f4.name == "runtime.NumGoroutine") = false := by kernel_rfl
theorem nm40 : (Try.f40.name == "runtime.NumGoroutine") = false := by kernel_rfl
theorem nm41 : (Try.f41.name == "runtime.NumGoroutine") = false := by kernel_rfl
theorem nm42 : (Try.f42.name == "runtime.NumGoroutine") = false := by kernel_rfl
theorem nm43 : (Try.f43.name == "runtime.NumGoroutine") = false := by kernel_rfl
theorem nm44 : (Try.f44.name == "runtime.NumGoroutine") = false := by kernel_rfl
theorem nm45 : (Try.f45.name == "runtime.NumGoroutine") = false := by kernel_rfl
theorem nm46 : (Try.f46.name == "runtime.NumGoroutine") = false := by kernel_rfl
theorem nm47 : (Try.f47.name == "runtime.NumGoroutine") = false := by kernel_rfl
theorem nm48 : (Try.f48.name == "runtime.NumGoroutine") = false := by kernel_rfl
theorem nm49 : (Try.f49.name == "runtime.NumGoroutine") = false := by kernel_rfl
theorem nm5 : (Try.f5.name == "runtime.NumGoroutine") = false := by kernel_rfl
theorem nm50 : (Try.f50.name == "runtime.NumGoroutine") = false := by kernel_rfl
theorem nm51 : (Try.f51.name == "runtime.NumGoroutine") = false := by kernel_rfl
theorem nm52 : (Try.f52.name == "runtime.NumGoroutine") = false := by kernel_rfl
theorem nm53 : (Try.f53.name == "runtime.NumGoroutine") = false := by kernel_rfl
theorem nm54 : (Try.f54.name == "runtime.NumGoroutine") = false := by kernel_rfl
theorem nm55 : (Try.f55.name == "runtime.NumGoroutine") = false := by kernel_rfl
theorem nm56 : (Try.f56.name == "runtime.NumGoroutine") = false := by kernel_rfl
theorem nm57 : (Try.f57.name == "runtime.NumGoroutine") = false := by kernel_rfl
theorem nm58 : (Try.f58.name == "runtime.NumGoroutine") = false := by kernel_rfl
theorem nm59 : (Try.f59.name == "runtime.NumGoroutine") = false := by kernel_rfl
theorem nm6 : (Try.f6.name == "runtime.NumGoroutine") = false := by kernel_rfl
theorem nm60 : (Try.f60.name == "runtime.NumGoroutine") = false := by kernel_rfl
theorem nm61 : (Try.f61.name == "runtime.NumGoroutine") = false := by kernel_rfl
theorem nm62 : (Try.f62.name == "runtime.NumGoroutine") = false := by kernel_rfl
theorem nm63 : (Try.f63.name == "runtime.NumGoroutine") = false := by kernel_rfl
theorem nm64 : (Try.f64.name == "runtime.NumGoroutine") = false := by kernel_rfl
theorem nm65 : (Try.f65.name == "runtime.NumGoroutine") = false := by kernel_rfl
theorem nm66 : (Try.f66.name == "runtime.NumGoroutine") = false := by kernel_rfl
theorem nm67 : (Try.f67.name == "runtime.NumGoroutine") = false := by kernel_rfl
theorem nm68 : (Try.f68.name == "runtime.NumGoroutine") = false := by kernel_rfl
theorem nm69 : (Try.f69.name == "runtime.NumGoroutine") = false := by kernel_rfl
theorem nm7 : (Try.f7.name == "runtime.NumGoroutine") = false := by kernel_rfl
theorem nm70 : (Try.f70.name == "runtime.NumGoroutine") = false := by kernel_rfl
theorem nm71 : (Try.f71.name == "runtime.NumGoroutine") = false := by kernel_rfl
theorem nm8 : (Try.f8.name == "runtime.NumGoroutine") = false := by kernel_rfl
theorem nm9 : (Try.f9.name == "runtime.NumGoroutine") = false := by kernel_rfl
theorem nz22 : (Try.prog.info? 22).map (·.size == 0) = some false := by kernel_rfl
theorem nz26 : (Try.prog.info? 26).map (·.size == 0) = some false := by kernel_rfl
theorem nz3 : (Try.prog.info? 3).map (·.size == 0) = some false := by kernel_rfl
theorem nz31 : (Try.prog.info? 31).map (·.size == 0) = some false := by kernel_rfl
theorem nz47 : (Try.prog.info? 47).map (·.size == 0) = some false := by kernel_rfl
theorem nz63 : (Try.prog.info? 63).map (·.size == 0) = some false := by kernel_rfl
theorem sz24 : (Try.prog.info? 24).map (·.size) = some 1 := by kernel_rfl
theorem sz26 : (Try.prog.info? 26).map (·.size) = some 1 := by kernel_rfl
theorem sz28 : (Try.prog.info? 28).map (·.size) = some 1 := by kernel_rfl
theorem sz3 : (Try.prog.info? 3).map (·.size) = some 1 := by kernel_rfl
theorem sz31 : (Try.prog.info? 31).map (·.size) = some 1 := by kernel_rfl
theorem sz33 : (Try.prog.info? 33).map (·.size) = some 1 := by kernel_rfl
theorem sz4 : (Try.prog.info? 4).map (·.size) = some 1 := by kernel_rfl
theorem sz47 : (Try.prog.info? 47).map (·.size) = some 1 := by kernel_rfl
theorem sz49 : (Try.prog.info? 49).map (·.size) = some 4 := by kernel_rfl
theorem sz52 : (Try.prog.info? 52).map (·.size) = some 2 := by kernel_rfl
theorem sz60 : (Try.prog.info? 60).map (·.size) = some 2 := by kernel_rfl
theorem sz62 : (Try.prog.info? 62).map (·.size) = some 2 := by kernel_rfl
theorem zr28 : (Try.prog.info? 28).bind (·.zero) = some (.agg #[(.slice none 0 0)]) := by kernel_rfl
theorem zr3 : (Try.prog.info? 3).bind (·.zero) = some (.int .i64 0) := by kernel_rfl
theorem zr33 : (Try.prog.info? 33).bind (·.zero) = some (.agg #[(.slice none 0 0)]) := by kernel_rfl
theorem zr49 : (Try.prog.info? 49).bind (·.zero) = some (.agg #[(.int .i64 0), (.int .i64 0), (.slice none 0 0), (.slice none 0 0)]) := by kernel_rfl
theorem zr52 : (Try.prog.info? 52).bind (·.zero) = some (.agg #[(.int .i64 0), (.int .i64 0)]) := by kernel_rfl
theorem zr62 : (Try.prog.info? 62).bind (·.zero) = some (.agg #[(.slice none 0 0), (.slice none 0 0)]) := by kernel_rfl
theorem zr65 : (Try.prog.info? 65).bind (·.zero) = some (.agg #[(.slice none 0 0), (.slice none 0 0)]) := by kernel_rfl
theorem zr94 : (Try.prog.info? 94).bind (·.zero) = some (.agg #[(.pointer none), (.slice none 0 0)]) := by kernel_rfl
end
namespace B1
open Go.RowKit Go.GL Go.Proofs




theorem mk3 : (Try.prog.info? 3).map (fun i => (i.size, i.bytes, i.zero)) = some (1, 8, some (.int .i64 0)) := by kernel_rfl
theorem mk4 : (Try.prog.info? 4).map (fun i => (i.size, i.bytes, i.zero)) = some (1, 1, some (.bool false)) := by kernel_rfl
















theorem goodOptions_spec {w : World} {G : Pin} {v : Value} {xs : List Int} {b : Int} (hP : Pins G w) (hv : RSl eInt G v xs) :
  Calls Try.prog 39 [v, (.int .i64 b)].toArray w fun e w' => e = .returned (.bool (goodOpts xs b)) ∧ w' = w := by
 refine s_enter (n := 27) Try.func39 Try.ntmps39 rfl rfl ?_
 have hX0 : Ext noS G w G w := Ext.refl hP
 have hm := hv.max
 refine s_seq (c_reg ?_)
 refine qd rfl rfl rfl (r_assign (v := (.bool false)) rfl) (qe (s_then (s_seq (s_seq (c_reg ?_)))))
 refine qd rfl rfl rfl (r_move (v := v) rfl) (qd rfl rfl rfl (run_len Try.underlying47 (v := v) rfl hv) (qd rfl rfl rfl (r_gtr rfl rfl) (qe (s_then ?_))))
 refine c_ifd (p := (24 : Int) < (xs.length : Int)) rfl rfl (fun h1 => ?_) (fun h1 => ?_)
 refine s_seq (c_reg ?_)
 refine qd rfl rfl rfl (r_assign (v := (.bool false)) rfl) (qe (s_then ?_))
 exact wp_ret (s_ret (c_ret1 (v := (.bool false)) rfl rfl rfl (⟨congrArg (fun z => Ending.returned (Value.bool z)) (by unfold goodOpts; rw [if_pos h1]), rfl⟩)))
 refine wp_skip (s_then (s_seq (c_reg ?_)))
 refine qd rfl rfl rfl (r_assign (v := (.int .i64 (-1))) rfl) (qe (s_then (s_seq (s_seq (c_reg ?_)))))
 refine qd rfl rfl rfl (r_move (v := v) rfl) (qd rfl rfl rfl (run_len Try.underlying47 (v := v) rfl hv) (qd rfl rfl rfl (r_move (v := (.int .i64 0)) rfl) (qe (s_then ?_))))
 refine s_blk (s_loop (fun (k : Nat) (en : Nat → Value) (W : World) => ∃ (env1 : Nat → Value) (j : Nat) (last : Int), en = (upd (upd (upd (upd (upd env1 1 (.int .i64 b)) 5 (.int .i64 last)) 11 v) 12 (.int .i64 (xs.length : Int))) 13 (.int .i64 (j : Int))) ∧ k = xs.length - j ∧ Ext noS G w G W ∧ (j ≤ xs.length) ∧ (W = w) ∧ (goodOpts xs b = goodFrom last b (xs.drop j))) _ ⟨_, 0, (-1), (packS (x := 13) (packS (x := 12) (packS (x := 11) (packS (x := 5) (pack1 (x := 1) rfl) rfl) rfl) rfl) rfl), rfl, hX0, Nat.zero_le _, rfl, (by unfold goodOpts; rw [if_neg h1]; rfl)⟩ ?_)
 rintro k2 _ w3 ⟨env1, j, last, rfl, hk4, hX5, hj, hw, hr⟩
 subst hw
 refine s_seq (c_reg ?_)
 refine qd rfl rfl rfl (r_lss rfl rfl) (qe (s_then (s_seq ?_)))
 refine c_ifd (p := ((j : Int) : Int) < (xs.length : Int)) rfl rfl (fun h6 => ?_) (fun h6 => ?_)
 refine wp_skip (s_then (s_seq ?_))
 refine s_blk (s_seq (c_reg ?_))
 refine qd rfl rfl rfl (run_idx Try.underlying47 sz3 (v := v) rfl rfl hv (by omega) (by omega)) (qd rfl rfl rfl (run_load_int (r := xs.getD j 0) rfl ag3 (z := (j : Int)) rfl hv hX5.pins (by omega) (by omega)) (qd rfl rfl rfl (r_assign (v := (.int .i64 (xs.getD j 0))) rfl) (qe (s_then (s_seq (s_seq (c_reg ?_)))))))
 refine qd rfl rfl rfl (r_move (v := (.int .i64 (xs.getD j 0))) rfl) (qd rfl rfl rfl (r_move (v := (.int .i64 last)) rfl) (qd rfl rfl rfl (r_leq rfl rfl) (qd rfl rfl rfl (r_move (v := (.bool (decide ((xs.getD j 0 : Int) ≤ last)))) rfl) (qbd (p := (xs.getD j 0 : Int) ≤ last) (t := 20) rfl (fun h7 => ?_) (fun h7 => ?_)))))
 refine qs rfl rfl rfl rfl rfl rfl (qs rfl rfl rfl rfl rfl rfl (qs rfl rfl rfl rfl rfl rfl (qd rfl rfl rfl (r_pickT (v := (.bool true)) rfl rfl) (qe (s_then ?_)))))
 refine c_ifT rfl rfl (s_seq (c_reg ?_))
 refine qd rfl rfl rfl (r_assign (v := (.bool false)) rfl) (qe (s_then ?_))
 exact wp_ret (s_ret (c_ret1 (v := (.bool false)) rfl rfl rfl (⟨congrArg (fun z => Ending.returned (Value.bool z)) ((hr.trans (goodFrom_bad (by omega) (Or.inl h7))).symm), rfl⟩)))
 refine qdg rfl rfl rfl rfl rfl rfl (r_move (v := (.int .i64 (xs.getD j 0))) rfl) (qdg rfl rfl rfl rfl rfl rfl (r_move (v := (.int .i64 b)) rfl) (qdg rfl rfl rfl rfl rfl rfl (r_geq rfl rfl) (qd rfl rfl rfl (r_pickF (v := (.bool (decide ((b : Int) ≤ (xs.getD j 0))))) rfl rfl) (qe (s_then ?_)))))
 refine c_ifd (p := (b : Int) ≤ (xs.getD j 0)) rfl rfl (fun h8 => ?_) (fun h8 => ?_)
 refine s_seq (c_reg ?_)
 refine qd rfl rfl rfl (r_assign (v := (.bool false)) rfl) (qe (s_then ?_))
 exact wp_ret (s_ret (c_ret1 (v := (.bool false)) rfl rfl rfl (⟨congrArg (fun z => Ending.returned (Value.bool z)) ((hr.trans (goodFrom_bad (by omega) (Or.inr h8))).symm), rfl⟩)))
 refine wp_skip (s_then (c_reg ?_))
 refine qd rfl rfl rfl (r_move (v := (.int .i64 (xs.getD j 0))) rfl) (qd rfl rfl rfl (r_assign (v := (.int .i64 (xs.getD j 0))) rfl) (qe (s_blkN (s_then (c_reg ?_)))))
 refine qd rfl rfl rfl (r_add rfl rfl (by omega)) (qd rfl rfl rfl (r_move (v := (.int .i64 ((j : Int) + 1))) rfl) (qe (s_lopN (⟨_, ?_, _, rfl, _, j + 1, xs.getD j 0, (packS (x := 13) (packS (x := 12) (packS (x := 11) (packS (x := 5) (pack1 (x := 1) rfl) rfl) rfl) rfl) rfl), rfl, hX5, (by omega), rfl, (hr.trans (goodFrom_next (by omega) h7 h8))⟩))))
 omega
 refine wp_exit (s_thenE (s_lopE (s_blkE (s_then (s_seq (c_reg ?_))))))
 refine qd rfl rfl rfl (r_assign (v := (.bool true)) rfl) (qe (s_then ?_))
 exact wp_ret (s_ret (c_ret1 (v := (.bool true)) rfl rfl rfl (⟨congrArg (fun z => Ending.returned (Value.bool z)) ((hr.trans (goodFrom_end (by omega))).symm), rfl⟩)))

theorem isNaN_spec {w : World} {G : Pin} {x : Int} (hP : Pins G w) :
  Calls Try.prog 65 [(.int .i64 x)].toArray w fun e w' => e = .returned (.bool false) ∧ w' = w := by
 refine s_enter (n := 6) Try.func65 Try.ntmps65 rfl rfl ?_
 have hX0 : Ext noS G w G w := Ext.refl hP
 refine s_seq (c_reg ?_)
 refine qd rfl rfl rfl (r_assign (v := (.bool false)) rfl) (qe (s_then (s_seq (c_reg ?_))))
 refine qd rfl rfl rfl (r_move (v := (.int .i64 x)) rfl) (qd rfl rfl rfl (r_move (v := (.int .i64 x)) rfl) (qd rfl rfl rfl (r_neq rfl rfl) (qd rfl rfl rfl (r_assign (v := (.bool (decide ((x : Int) ≠ x)))) rfl) (qe (s_then ?_)))))
 exact wp_ret (s_ret (c_ret1 (v := (.bool (decide ((x : Int) ≠ x)))) rfl rfl rfl (⟨congrArg (fun z => Ending.returned (Value.bool z)) (decide_eq_false (fun h => h rfl)), rfl⟩)))

theorem cmpCompare_spec {w : World} {G : Pin} {x y : Int} (hP : Pins G w) :
  Calls Try.prog 42 [(.int .i64 x), (.int .i64 y)].toArray w fun e w' => e = .returned (.int .i64 (cmpI x y)) ∧ w' = w := by
 refine s_enter (n := 20) Try.func42 Try.ntmps42 rfl rfl ?_
 have hX0 : Ext noS G w G w := Ext.refl hP
 refine s_seq (c_reg ?_)
 refine qd rfl rfl rfl (r_assign (v := (.int .i64 0)) rfl) (qe (s_then (s_seq (c_reg ?_))))
 refine qd rfl rfl rfl (r_move (v := (.int .i64 x)) rfl) (q1 rfl rfl rfl (o_call (vs := [(.int .i64 x)]) Try.func65 nm65 rfl rfl rfl ?_))
 refine Calls.mono (isNaN_spec hX0.pins) ?_
 rintro _ _ ⟨rfl, rfl⟩
 refine ⟨_, rfl, ?_⟩
 refine qd rfl rfl rfl (r_assign (v := (.bool false)) rfl) (qe (s_then (s_seq (c_reg ?_))))
 refine qd rfl rfl rfl (r_move (v := (.int .i64 y)) rfl) (q1 rfl rfl rfl (o_call (vs := [(.int .i64 y)]) Try.func65 nm65 rfl rfl rfl ?_))
 refine Calls.mono (isNaN_spec hX0.pins) ?_
 rintro _ _ ⟨rfl, rfl⟩
 refine ⟨_, rfl, ?_⟩
 refine qd rfl rfl rfl (r_assign (v := (.bool false)) rfl) (qe (s_then (s_seq (s_seq (c_reg ?_)))))
 refine qd rfl rfl rfl (r_move (v := (.bool false)) rfl) (qe (s_then ?_))
 refine c_ifF rfl rfl (wp_skip (s_then (s_seq (s_seq (c_reg ?_)))))
 refine qd rfl rfl rfl (r_move (v := (.bool false)) rfl) (qe (s_then ?_))
 refine c_ifF rfl rfl (wp_skip (s_then (s_seq (s_seq (c_reg ?_)))))
 refine qd rfl rfl rfl (r_move (v := (.int .i64 x)) rfl) (qd rfl rfl rfl (r_move (v := (.int .i64 y)) rfl) (qd rfl rfl rfl (r_lss rfl rfl) (qe (s_then ?_))))
 refine c_ifd (p := (x : Int) < y) rfl rfl (fun h1 => ?_) (fun h1 => ?_)
 refine s_seq (c_reg ?_)
 refine qd rfl rfl rfl (r_assign (v := (.int .i64 (-1))) rfl) (qe (s_then ?_))
 exact wp_ret (s_ret (c_ret1 (v := (.int .i64 (-1))) rfl rfl rfl (⟨congrArg (fun z => Ending.returned (Value.int .i64 z)) (by unfold cmpI; (first | rw [if_pos (by omega)] | (rw [if_neg (by omega)]; first | rw [if_pos (by omega)] | rw [if_neg (by omega)]))), rfl⟩)))
 refine wp_skip (s_then (s_seq (s_seq (c_reg ?_))))
 refine qd rfl rfl rfl (r_move (v := (.int .i64 x)) rfl) (qd rfl rfl rfl (r_move (v := (.int .i64 y)) rfl) (qd rfl rfl rfl (r_gtr rfl rfl) (qe (s_then ?_))))
 refine c_ifd (p := (y : Int) < x) rfl rfl (fun h2 => ?_) (fun h2 => ?_)
 refine s_seq (c_reg ?_)
 refine qd rfl rfl rfl (r_assign (v := (.int .i64 1)) rfl) (qe (s_then ?_))
 exact wp_ret (s_ret (c_ret1 (v := (.int .i64 1)) rfl rfl rfl (⟨congrArg (fun z => Ending.returned (Value.int .i64 z)) (by unfold cmpI; (first | rw [if_pos (by omega)] | (rw [if_neg (by omega)]; first | rw [if_pos (by omega)] | rw [if_neg (by omega)]))), rfl⟩)))
 refine wp_skip (s_then (s_seq (c_reg ?_)))
 refine qd rfl rfl rfl (r_assign (v := (.int .i64 0)) rfl) (qe (s_then ?_))
 exact wp_ret (s_ret (c_ret1 (v := (.int .i64 0)) rfl rfl rfl (⟨congrArg (fun z => Ending.returned (Value.int .i64 z)) (by unfold cmpI; (first | rw [if_pos (by omega)] | (rw [if_neg (by omega)]; first | rw [if_pos (by omega)] | rw [if_neg (by omega)]))), rfl⟩)))

theorem cmpOr_spec {w : World} {G : Pin} {v : Value} {xs : List Int} (hP : Pins G w) (hv : RSl eInt G v xs) :
  Calls Try.prog 41 [v].toArray w fun e w' => e = .returned (.int .i64 (orL xs)) ∧ w' = w := by
 refine s_enter (n := 18) Try.func41 Try.ntmps41 rfl rfl ?_
 have hX0 : Ext noS G w G w := Ext.refl hP
 have hm := hv.max
 refine s_seq (c_reg ?_)
 refine qd rfl rfl rfl (r_assign (v := (.int .i64 0)) rfl) (qe (s_then (s_seq (c_reg ?_))))
 refine qd rfl rfl rfl (r_assign (v := (.int .i64 0)) rfl) (qe (s_then (s_seq (s_seq (c_reg ?_)))))
 refine qd rfl rfl rfl (r_move (v := v) rfl) (qd rfl rfl rfl (run_len Try.underlying47 (v := v) rfl hv) (qd rfl rfl rfl (r_move (v := (.int .i64 0)) rfl) (qe (s_then ?_))))
 refine s_blk (s_loop (fun (k : Nat) (en : Nat → Value) (W : World) => ∃ (env1 : Nat → Value) (j : Nat), en = (upd (upd (upd (upd env1 3 (.int .i64 0)) 6 v) 7 (.int .i64 (xs.length : Int))) 8 (.int .i64 (j : Int))) ∧ k = xs.length - j ∧ Ext noS G w G W ∧ (j ≤ xs.length) ∧ (W = w) ∧ (orL xs = orL (xs.drop j))) _ ⟨_, 0, (packS (x := 8) (packS (x := 7) (packS (x := 6) (pack1 (x := 3) rfl) rfl) rfl) rfl), rfl, hX0, Nat.zero_le _, rfl, rfl⟩ ?_)
 rintro k1 _ w2 ⟨env1, j, rfl, hk3, hX4, hj, hw, hr⟩
 subst hw
 refine s_seq (c_reg ?_)
 refine qd rfl rfl rfl (r_lss rfl rfl) (qe (s_then (s_seq ?_)))
 refine c_ifd (p := ((j : Int) : Int) < (xs.length : Int)) rfl rfl (fun h5 => ?_) (fun h5 => ?_)
 refine wp_skip (s_then (s_seq ?_))
 refine s_blk (s_seq (c_reg ?_))
 refine qd rfl rfl rfl (run_idx Try.underlying47 sz3 (v := v) rfl rfl hv (by omega) (by omega)) (qd rfl rfl rfl (run_load_int (r := xs.getD j 0) rfl ag3 (z := (j : Int)) rfl hv hX4.pins (by omega) (by omega)) (qd rfl rfl rfl (r_assign (v := (.int .i64 (xs.getD j 0))) rfl) (qe (s_then (s_seq (c_reg ?_))))))
 refine qd rfl rfl rfl (r_move (v := (.int .i64 (xs.getD j 0))) rfl) (qd rfl rfl rfl (r_move (v := (.int .i64 0)) rfl) (qd rfl rfl rfl (r_neq rfl rfl) (qe (s_then ?_))))
 refine c_ifd (p := (xs.getD j 0 : Int) ≠ 0) rfl rfl (fun h6 => ?_) (fun h6 => ?_)
 refine s_seq (c_reg ?_)
 refine qd rfl rfl rfl (r_move (v := (.int .i64 (xs.getD j 0))) rfl) (qd rfl rfl rfl (r_assign (v := (.int .i64 (xs.getD j 0))) rfl) (qe (s_then ?_)))
 exact wp_ret (s_ret (c_ret1 (v := (.int .i64 (xs.getD j 0))) rfl rfl rfl (⟨congrArg (fun z => Ending.returned (Value.int .i64 z)) ((hr.trans (orL_hit (by omega) h6)).symm), rfl⟩)))
 refine wp_skip (s_blkN (s_then (c_reg ?_)))
 refine qd rfl rfl rfl (r_add rfl rfl (by omega)) (qd rfl rfl rfl (r_move (v := (.int .i64 ((j : Int) + 1))) rfl) (qe (s_lopN (⟨_, ?_, _, rfl, _, j + 1, (packS (x := 8) (packS (x := 7) (packS (x := 6) (pack1 (x := 3) rfl) rfl) rfl) rfl), rfl, hX4, (by omega), rfl, (hr.trans (orL_next (by omega) h6))⟩))))
 omega
 refine wp_exit (s_thenE (s_lopE (s_blkE (s_then (s_seq (c_reg ?_))))))
 refine qd rfl rfl rfl (r_move (v := (.int .i64 0)) rfl) (qd rfl rfl rfl (r_assign (v := (.int .i64 0)) rfl) (qe (s_then ?_)))
 exact wp_ret (s_ret (c_ret1 (v := (.int .i64 0)) rfl rfl rfl (⟨congrArg (fun z => Ending.returned (Value.int .i64 z)) ((hr.trans (orL_end (by omega))).symm), rfl⟩)))

theorem slCompare_spec {w : World} {G : Pin} {u v : Value} {xs ys : List Int} (hP : Pins G w) (hu : RSl eInt G u xs) (hv : RSl eInt G v ys) :
  Calls Try.prog 43 [u, v].toArray w fun e w' => e = .returned (.int .i64 (cmpL xs ys)) ∧ w' = w := by
 refine s_enter (n := 36) Try.func43 Try.ntmps43 rfl rfl ?_
 have hX0 : Ext noS G w G w := Ext.refl hP
 have hm := hu.max
 refine s_seq (c_reg ?_)
 refine qd rfl rfl rfl (r_assign (v := (.int .i64 0)) rfl) (qe (s_then (s_seq (s_seq (c_reg ?_)))))
 refine qd rfl rfl rfl (r_move (v := u) rfl) (qd rfl rfl rfl (run_len Try.underlying47 (v := u) rfl hu) (qd rfl rfl rfl (r_move (v := (.int .i64 0)) rfl) (qe (s_then ?_))))
 refine s_blk (s_loop (fun (k : Nat) (en : Nat → Value) (W : World) => ∃ (env1 : Nat → Value) (j : Nat), en = (upd (upd (upd (upd (upd env1 0 u) 1 v) 9 u) 10 (.int .i64 (xs.length : Int))) 11 (.int .i64 (j : Int))) ∧ k = xs.length - j ∧ Ext noS G w G W ∧ (j ≤ xs.length ∧ j ≤ ys.length) ∧ (W = w) ∧ (cmpL xs ys = cmpL (xs.drop j) (ys.drop j))) _ ⟨_, 0, (packS (x := 11) (packS (x := 10) (packS (x := 9) (packS (x := 1) (pack1 (x := 0) rfl) rfl) rfl) rfl) rfl), rfl, hX0, ⟨Nat.zero_le _, Nat.zero_le _⟩, rfl, rfl⟩ ?_)
 rintro k1 _ w2 ⟨env1, j, rfl, hk3, hX4, hj, hw, hr⟩
 subst hw
 refine s_seq (c_reg ?_)
 refine qd rfl rfl rfl (r_lss rfl rfl) (qe (s_then (s_seq ?_)))
 refine c_ifd (p := ((j : Int) : Int) < (xs.length : Int)) rfl rfl (fun h5 => ?_) (fun h5 => ?_)
 refine wp_skip (s_then (s_seq ?_))
 refine s_blk (s_seq (c_reg ?_))
 refine qd rfl rfl rfl (r_move (v := (.int .i64 (j : Int))) rfl) (qd rfl rfl rfl (run_idx Try.underlying47 sz3 (v := u) rfl rfl hu (by omega) (by omega)) (qd rfl rfl rfl (run_load_int (r := xs.getD j 0) rfl ag3 (z := (j : Int)) rfl hu hX4.pins (by omega) (by omega)) (qd rfl rfl rfl (r_assign (v := (.int .i64 (j : Int))) rfl) (qd rfl rfl rfl (r_assign (v := (.int .i64 (xs.getD j 0))) rfl) (qe (s_then (s_seq (s_seq (c_reg ?_)))))))))
 refine qd rfl rfl rfl (r_move (v := (.int .i64 (j : Int))) rfl) (qd rfl rfl rfl (r_move (v := v) rfl) (qd rfl rfl rfl (run_len Try.underlying47 (v := v) rfl hv) (qd rfl rfl rfl (r_geq rfl rfl) (qe (s_then ?_)))))
 refine c_ifd (p := ((ys.length : Int) : Int) ≤ (j : Int)) rfl rfl (fun h6 => ?_) (fun h6 => ?_)
 refine s_seq (c_reg ?_)
 refine qd rfl rfl rfl (r_assign (v := (.int .i64 1)) rfl) (qe (s_then ?_))
 exact wp_ret (s_ret (c_ret1 (v := (.int .i64 1)) rfl rfl rfl (⟨congrArg (fun z => Ending.returned (Value.int .i64 z)) ((hr.trans (cmpL_more (by omega) (by omega))).symm), rfl⟩)))
 refine wp_skip (s_then (s_seq (c_reg ?_)))
 refine qd rfl rfl rfl (r_move (v := v) rfl) (qd rfl rfl rfl (r_move (v := (.int .i64 (j : Int))) rfl) (qd rfl rfl rfl (run_idx Try.underlying47 sz3 (v := v) rfl rfl hv (by omega) (by omega)) (qd rfl rfl rfl (run_load_int (r := ys.getD j 0) rfl ag3 (z := (j : Int)) rfl hv hX4.pins (by omega) (by omega)) (qd rfl rfl rfl (r_assign (v := (.int .i64 (ys.getD j 0))) rfl) (qe (s_then (s_seq (c_reg ?_))))))))
 refine qd rfl rfl rfl (r_move (v := (.int .i64 (xs.getD j 0))) rfl) (qd rfl rfl rfl (r_move (v := (.int .i64 (ys.getD j 0))) rfl) (q1 rfl rfl rfl (o_call (vs := [(.int .i64 (xs.getD j 0)), (.int .i64 (ys.getD j 0))]) Try.func42 nm42 rfl rfl rfl ?_)))
 refine Calls.mono (cmpCompare_spec hX4.pins) ?_
 rintro _ _ ⟨rfl, rfl⟩
 refine ⟨_, rfl, ?_⟩
 refine qd rfl rfl rfl (r_assign (v := (.int .i64 (cmpI (xs.getD j 0) (ys.getD j 0)))) rfl) (qe (s_then (s_seq (c_reg ?_))))
 refine qd rfl rfl rfl (r_move (v := (.int .i64 (cmpI (xs.getD j 0) (ys.getD j 0)))) rfl) (qd rfl rfl rfl (r_neq rfl rfl) (qe (s_then ?_)))
 refine c_ifd (p := (cmpI (xs.getD j 0) (ys.getD j 0) : Int) ≠ 0) rfl rfl (fun h7 => ?_) (fun h7 => ?_)
 refine s_seq (c_reg ?_)
 refine qd rfl rfl rfl (r_move (v := (.int .i64 (cmpI (xs.getD j 0) (ys.getD j 0)))) rfl) (qd rfl rfl rfl (r_assign (v := (.int .i64 (cmpI (xs.getD j 0) (ys.getD j 0)))) rfl) (qe (s_then ?_)))
 exact wp_ret (s_ret (c_ret1 (v := (.int .i64 (cmpI (xs.getD j 0) (ys.getD j 0)))) rfl rfl rfl (⟨congrArg (fun z => Ending.returned (Value.int .i64 z)) ((hr.trans (cmpL_ne (by omega) (by omega) h7)).symm), rfl⟩)))
 refine wp_skip (s_blkN (s_then (c_reg ?_)))
 refine qd rfl rfl rfl (r_add rfl rfl (by omega)) (qd rfl rfl rfl (r_move (v := (.int .i64 ((j : Int) + 1))) rfl) (qe (s_lopN (⟨_, ?_, _, rfl, _, j + 1, (packS (x := 11) (packS (x := 10) (packS (x := 9) (packS (x := 1) (pack1 (x := 0) rfl) rfl) rfl) rfl) rfl), rfl, hX4, (by omega), rfl, (hr.trans (cmpL_eq (by omega) (by omega) h7))⟩))))
 omega
 refine wp_exit (s_thenE (s_lopE (s_blkE (s_then (s_seq (s_seq (c_reg ?_)))))))
 refine qd rfl rfl rfl (r_move (v := u) rfl) (qd rfl rfl rfl (run_len Try.underlying47 (v := u) rfl hu) (qd rfl rfl rfl (r_move (v := v) rfl) (qd rfl rfl rfl (run_len Try.underlying47 (v := v) rfl hv) (qd rfl rfl rfl (r_lss rfl rfl) (qe (s_then ?_))))))
 refine c_ifd (p := ((xs.length : Int) : Int) < (ys.length : Int)) rfl rfl (fun h8 => ?_) (fun h8 => ?_)
 refine s_seq (c_reg ?_)
 refine qd rfl rfl rfl (r_assign (v := (.int .i64 (-1))) rfl) (qe (s_then ?_))
 exact wp_ret (s_ret (c_ret1 (v := (.int .i64 (-1))) rfl rfl rfl (⟨congrArg (fun z => Ending.returned (Value.int .i64 z)) ((hr.trans (cmpL_less (by omega) (by omega))).symm), rfl⟩)))
 refine wp_skip (s_then (s_seq (c_reg ?_)))
 refine qd rfl rfl rfl (r_assign (v := (.int .i64 0)) rfl) (qe (s_then ?_))
 exact wp_ret (s_ret (c_ret1 (v := (.int .i64 0)) rfl rfl rfl (⟨congrArg (fun z => Ending.returned (Value.int .i64 z)) ((hr.trans (cmpL_same (by omega) (by omega))).symm), rfl⟩)))

theorem slIndexB_spec {w : World} {G : Pin} {v : Value} {xs : List Bool} {p : Bool} (hP : Pins G w) (hv : RSl eBool G v xs) :
  Calls Try.prog 66 [v, (.bool p)].toArray w fun e w' => e = .returned (.int .i64 (idxB xs p)) ∧ w' = w := by
 refine s_enter (n := 19) Try.func66 Try.ntmps66 rfl rfl ?_
 have hX0 : Ext noS G w G w := Ext.refl hP
 have hm := hv.max
 refine s_seq (c_reg ?_)
 refine qd rfl rfl rfl (r_assign (v := (.int .i64 0)) rfl) (qe (s_then (s_seq (s_seq (c_reg ?_)))))
 refine qd rfl rfl rfl (r_move (v := v) rfl) (qd rfl rfl rfl (run_len Try.underlying71 (v := v) rfl hv) (qd rfl rfl rfl (r_move (v := (.int .i64 0)) rfl) (qe (s_then ?_))))
 refine s_blk (s_loop (fun (k : Nat) (en : Nat → Value) (W : World) => ∃ (env1 : Nat → Value) (j : Nat), en = (upd (upd (upd (upd env1 0 v) 1 (.bool p)) 7 (.int .i64 (xs.length : Int))) 8 (.int .i64 (j : Int))) ∧ k = xs.length - j ∧ Ext noS G w G W ∧ (j ≤ xs.length) ∧ (W = w) ∧ (idxB xs p = idxFrom p j (xs.drop j))) _ ⟨_, 0, (packS (x := 8) (packS (x := 7) (packS (x := 1) (pack1 (x := 0) rfl) rfl) rfl) rfl), rfl, hX0, Nat.zero_le _, rfl, rfl⟩ ?_)
 rintro k1 _ w2 ⟨env1, j, rfl, hk3, hX4, hj, hw, hr⟩
 subst hw
 refine s_seq (c_reg ?_)
 refine qd rfl rfl rfl (r_lss rfl rfl) (qe (s_then (s_seq ?_)))
 refine c_ifd (p := ((j : Int) : Int) < (xs.length : Int)) rfl rfl (fun h5 => ?_) (fun h5 => ?_)
 refine wp_skip (s_then (s_seq ?_))
 refine s_blk (s_seq (c_reg ?_))
 refine qd rfl rfl rfl (r_move (v := (.int .i64 (j : Int))) rfl) (qd rfl rfl rfl (r_assign (v := (.int .i64 (j : Int))) rfl) (qe (s_then (s_seq (c_reg ?_)))))
 refine qd rfl rfl rfl (r_move (v := (.bool p)) rfl) (qd rfl rfl rfl (r_move (v := v) rfl) (qd rfl rfl rfl (r_move (v := (.int .i64 (j : Int))) rfl) (qd rfl rfl rfl (run_idx Try.underlying71 sz4 (v := v) rfl rfl hv (by omega) (by omega)) (qd rfl rfl rfl (run_load_bool (r := xs.getD j false) rfl ag4 (z := (j : Int)) rfl hv hX4.pins (by omega) (by omega)) (qd rfl rfl rfl (r_eqlB Try.underlying4 rfl rfl) (qe (s_then ?_)))))))
 refine c_if rfl rfl (fun h6 => ?_) (fun h6 => ?_)
 refine s_seq (c_reg ?_)
 refine qd rfl rfl rfl (r_move (v := (.int .i64 (j : Int))) rfl) (qd rfl rfl rfl (r_assign (v := (.int .i64 (j : Int))) rfl) (qe (s_then ?_)))
 exact wp_ret (s_ret (c_ret1 (v := (.int .i64 (j : Int))) rfl rfl rfl (⟨congrArg (fun z => Ending.returned (Value.int .i64 z)) ((hr.trans (idx_hit (by omega) h6)).symm), rfl⟩)))
 refine wp_skip (s_blkN (s_then (c_reg ?_)))
 refine qd rfl rfl rfl (r_add rfl rfl (by omega)) (qd rfl rfl rfl (r_move (v := (.int .i64 ((j : Int) + 1))) rfl) (qe (s_lopN (⟨_, ?_, _, rfl, _, j + 1, (packS (x := 8) (packS (x := 7) (packS (x := 1) (pack1 (x := 0) rfl) rfl) rfl) rfl), rfl, hX4, (by omega), rfl, (hr.trans (idx_next (by omega) h6))⟩))))
 omega
 refine wp_exit (s_thenE (s_lopE (s_blkE (s_then (s_seq (c_reg ?_))))))
 refine qd rfl rfl rfl (r_assign (v := (.int .i64 (-1))) rfl) (qe (s_then ?_))
 exact wp_ret (s_ret (c_ret1 (v := (.int .i64 (-1))) rfl rfl rfl (⟨congrArg (fun z => Ending.returned (Value.int .i64 z)) ((hr.trans (idx_end (by omega))).symm), rfl⟩)))

theorem slContains_spec {w : World} {G : Pin} {v : Value} {xs : List Bool} {p : Bool} (hP : Pins G w) (hv : RSl eBool G v xs) :
  Calls Try.prog 44 [v, (.bool p)].toArray w fun e w' => e = .returned (.bool (decide ((0 : Int) ≤ idxB xs p))) ∧ w' = w := by
 refine s_enter (n := 9) Try.func44 Try.ntmps44 rfl rfl ?_
 have hX0 : Ext noS G w G w := Ext.refl hP
 refine s_seq (c_reg ?_)
 refine qd rfl rfl rfl (r_assign (v := (.bool false)) rfl) (qe (s_then (s_seq (c_reg ?_))))
 refine qd rfl rfl rfl (r_move (v := v) rfl) (qd rfl rfl rfl (r_move (v := (.bool p)) rfl) (q1 rfl rfl rfl (o_call (vs := [v, (.bool p)]) Try.func66 nm66 rfl rfl rfl ?_)))
 refine Calls.mono (slIndexB_spec hX0.pins hv) ?_
 rintro _ _ ⟨rfl, rfl⟩
 refine ⟨_, rfl, ?_⟩
 refine qd rfl rfl rfl (r_geq rfl rfl) (qd rfl rfl rfl (r_assign (v := (.bool (decide ((0 : Int) ≤ (idxB xs p))))) rfl) (qe (s_then ?_)))
 exact wp_ret (s_ret (c_ret1 (v := (.bool (decide ((0 : Int) ≤ (idxB xs p))))) rfl rfl rfl (⟨rfl, rfl⟩)))

theorem births_spec {w : World} {G : Pin} {v : Value} {ns : List Nd} (hP : Pins G w) (hv : RSl eNode G v ns) (ho : OptsOk ns) (hs : ns.length ≤ 1048576) :
  Calls Try.prog 40 [v].toArray w fun e w' => ∃ (u : Value) (G' : Pin), e = .returned u ∧ Own eInt 3 G' w' w.heap.size u (births ns) ∧ Ext noS G w G' w' := by
 refine s_enter (n := 64) Try.func40 Try.ntmps40 rfl rfl ?_
 have hX0 : Ext noS G w G w := Ext.refl hP
 refine s_seq (c_reg ?_)
 refine qd rfl rfl rfl (r_assign (v := (.slice none 0 0)) rfl) (qe (s_then (s_seq (c_reg ?_))))
 refine qd rfl rfl rfl (r_move (v := v) rfl) (qd rfl rfl rfl (run_len Try.underlying31 (v := v) rfl hv) (q1 rfl rfl rfl (o_make (E := eInt) 0 8 (.int .i64 0) Try.underlying47 mk3 (fun _ => rfl) rfl rfl hX0.pins (by omega) (by omega) (by omega) (fun u1 w2 ho3 hp4 hl5 hk6 => ?_))))
 have hX7 := hX0.step hp4 hl5
 have ho8 : Own eInt 3 G w2 w.heap.size u1 (List.replicate ns.length 0) := ho3.weaken hX0.size
 have hm9 : (List.replicate ns.length 0).length = ns.length := List.length_replicate ..
 refine qd rfl rfl rfl (r_assign (v := u1) rfl) (qe (s_then (s_seq (s_seq (c_reg ?_)))))
 refine qd rfl rfl rfl (r_move (v := v) rfl) (qd rfl rfl rfl (run_len Try.underlying31 (v := v) rfl hv) (qd rfl rfl rfl (r_move (v := (.int .i64 0)) rfl) (qe (s_then ?_))))
 refine s_blk (s_loop (fun (k : Nat) (en : Nat → Value) (W : World) => ∃ (env1 : Nat → Value) (j : Nat) (b : List Int) (GL1 : Pin), en = (upd (upd (upd (upd (upd env1 2 (.slice none 0 0)) 3 u1) 13 v) 14 (.int .i64 (ns.length : Int))) 15 (.int .i64 (j : Int))) ∧ k = ns.length - j ∧ Ext noS G w GL1 W ∧ Pin.le G GL1 ∧ (j ≤ ns.length) ∧ (b.length = ns.length) ∧ (BOk b) ∧ (births ns = bgo j (ns.drop j) b) ∧ (Own eInt 3 GL1 W w.heap.size u1 (b))) _ ⟨_, 0, List.replicate ns.length 0, G, (packS (x := 15) (packS (x := 14) (packS (x := 13) (packS (x := 3) (pack1 (x := 2) rfl) rfl) rfl) rfl) rfl), rfl, hX7, Pin.le_refl _, Nat.zero_le _, (by simp), (BOk.replicate _), rfl, ho8⟩ ?_)
 rintro k10 _ w11 ⟨env1, j, b, GL1, rfl, hk12, hX13, hlek10, hj, hnb, hkb, hr, hw14⟩
 refine s_seq (c_reg ?_)
 refine qd rfl rfl rfl (r_lss rfl rfl) (qe (s_then (s_seq ?_)))
 refine c_ifd (p := ((j : Int) : Int) < (ns.length : Int)) rfl rfl (fun h15 => ?_) (fun h15 => ?_)
 refine wp_skip (s_then (s_seq ?_))
 refine s_blk (s_seq (c_reg ?_))
 refine qd rfl rfl rfl (r_move (v := (.int .i64 (j : Int))) rfl) (qd rfl rfl rfl (run_idx Try.underlying31 sz62 (v := v) rfl rfl hv (by omega) (by omega)) ?_)
 obtain ⟨u16, u17, hr18, hr19, hl20⟩ := nm_node (hv.at (z := (j : Int)) (by omega) (by omega)) (j := j) rfl
 have hm21 := hr18.max
 have hm22 := hr19.max
 refine qd rfl rfl rfl (hl20 ag62 sz62 rfl (Pins.of_le hX13.pins hlek10)) (q1 rfl rfl rfl (o_alloc [(.slice none 0 0), (.slice none 0 0)] zr62 rfl hX13.pins (fun b23 w24 hk25 hb26 hp27 hl28 => ?_)))
 have hX29 := hX13.step hp27 hl28
 have ho30 := hw14.below hl28
 have ha31 : Apart (some b23) u1.ownBlock := new_ne_own (congrArg some hk25) hw14.lt
 have hlo32 : w.heap.size ≤ b23 := by have := hX13.size; omega
 refine qd rfl rfl rfl (r_assign (v := (.int .i64 (j : Int))) rfl) (q0 rfl rfl rfl (o_stp (cs' := [u16, u17]) (us := [u16, u17]) (v := (.agg [u16, u17].toArray)) sz62 rfl rfl rfl (ones2 hr18.one hr19.one) hX29.pins hb26 (Nat.le_of_ble_eq_true rfl) rfl (fun w33 hb34 hp35 hg36 hz37 => ?_)))
 have hX38 := hX29.write hp35 hg36 ((lo_box hlo32))
 have ho39 := ho30.keptA hg36 ha31.symm
 obtain ⟨G40, hle41, hX42, hbp43, hf44⟩ := hb34.shut hX38 hlo32
 have ho45 := ho39.moreA hle41 hf44 ha31.symm
 refine qe (s_then (s_seq (s_seq (c_reg ?_))))
 refine qd rfl rfl rfl (r_fldp (k := 0) rfl Try.underlying62 rfl nz47 rfl) (qd rfl rfl rfl (r_ldp1 (u := u16) ag47 rfl (hX42.pins _ _ _ (hbp43 0 _ rfl))) (qd rfl rfl rfl (run_len Try.underlying47 (v := u16) rfl hr18) (qd rfl rfl rfl (r_move (v := (.int .i64 0)) rfl) (qe (s_then ?_)))))
 refine s_blk (s_loop (fun (k : Nat) (en : Nat → Value) (W : World) => ∃ (env1 : Nat → Value) (i : Nat) (b2 : List Int), en = (upd (upd (upd (upd (upd (upd (upd (upd (upd (upd env1 2 (.slice none 0 0)) 3 u1) 4 (.int .i64 (j : Int))) 5 (.pointer (some ⟨b23, 0, none⟩))) 13 v) 14 (.int .i64 (ns.length : Int))) 15 (.int .i64 (j : Int))) 21 u16) 22 (.int .i64 (((ns.getD j default).l).length : Int))) 23 (.int .i64 (i : Int))) ∧ k = (ns.getD j default).l.length - i ∧ Ext noS G w G40 W ∧ (i ≤ (ns.getD j default).l.length) ∧ (b2.length = ns.length) ∧ (BOk b2) ∧ (brow j b (ns.getD j default).l = brow j b2 ((ns.getD j default).l.drop i)) ∧ (Own eInt 3 G40 W w.heap.size u1 (b2))) _ ⟨_, 0, b, (packS (x := 23) (packS (x := 22) (packS (x := 21) (packS (x := 15) (packS (x := 14) (packS (x := 13) (packS (x := 5) (packS (x := 4) (packS (x := 3) (pack1 (x := 2) rfl) rfl) rfl) rfl) rfl) rfl) rfl) rfl) rfl) rfl), rfl, hX42, Nat.zero_le _, hnb, hkb, rfl, ho45⟩ ?_)
 rintro k46 _ w47 ⟨env1, i, b2, rfl, hk48, hX49, hii, hnb2, hkb2, hrb2, hw50⟩
 refine s_seq (c_reg ?_)
 refine qd rfl rfl rfl (r_lss rfl rfl) (qe (s_then (s_seq ?_)))
 refine c_ifd (p := ((i : Int) : Int) < (((ns.getD j default).l).length : Int)) rfl rfl (fun h51 => ?_) (fun h51 => ?_)
 have hk := ho.left (j := j) (i := i) (by omega) (by omega)
 have hbj := hkb2 j
 have hbk := hkb2 ((ns.getD j default).l.getD i 0).toNat
 refine wp_skip (s_then (s_seq ?_))
 refine s_blk (s_seq (c_reg ?_))
 refine qd rfl rfl rfl (run_idx Try.underlying47 sz3 (v := u16) rfl rfl hr18 (by omega) (by omega)) (qd rfl rfl rfl (run_load_int (r := ((ns.getD j default).l).getD i 0) rfl ag3 (z := (i : Int)) rfl hr18 (Pins.of_le hX49.pins (Pin.le_trans hlek10 hle41)) (by omega) (by omega)) (qd rfl rfl rfl (r_assign (v := (.int .i64 (((ns.getD j default).l).getD i 0))) rfl) (qe (s_then ?_))))
 have hq52 := Gadd.pins hX49.pins u1
 have hr53 := hw50.read
 refine c_draw (S := fun wz => Pins (Gadd G40 w47 u1) wz) (last := 13) (by kernel_rfl) rfl ?_
 have hl54 : Below w47.heap.size w47 w47.drew := (Below.refl _ _).drew
 have hp55 := hX49.pins.below hl54
 have hX56 := hX49.step hp55 hl54
 have ho57 := hw50.below hl54
 have hq58 := hq52.below hl54
 refine dr_take (i := 0) rfl rfl rfl (want_none rfl _) (by kernel_rfl) (fun _ _ => r_move (v := u1) rfl) hq58 (dr_take (i := 1) rfl rfl rfl (want_none rfl _) (by kernel_rfl) (fun _ _ => r_move (v := (.int .i64 (j : Int))) rfl) hq58 (dr_take (i := 2) rfl rfl rfl (want_none rfl _) (by kernel_rfl) (fun _ _ => r_move (v := u1) rfl) hq58 (dr_take (i := 3) rfl rfl rfl (want_none rfl _) (by kernel_rfl) (fun _ _ => r_move (v := (.int .i64 (j : Int))) rfl) hq58 (dr_take (i := 4) rfl rfl rfl (want_none rfl _) (by kernel_rfl) (fun _ _ => run_idx Try.underlying47 sz3 (v := u1) rfl rfl hr53 (by omega) (by omega)) hq58 (dr_take (i := 5) rfl rfl rfl (want_none rfl _) (by kernel_rfl) (fun _ hS => run_load_int (r := b2.getD j 0) rfl ag3 (z := (j : Int)) rfl hr53 hS (by omega) (by omega)) hq58 (dr_take (i := 6) rfl rfl rfl (want_none rfl _) (by kernel_rfl) (fun _ _ => r_move (v := u1) rfl) hq58 (dr_take (i := 7) rfl rfl rfl (want_none rfl _) (by kernel_rfl) (fun _ _ => r_move (v := (.int .i64 (((ns.getD j default).l).getD i 0))) rfl) hq58 (dr_take (i := 8) rfl rfl rfl (want_none rfl _) (by kernel_rfl) (fun _ _ => run_idx Try.underlying47 sz3 (v := u1) rfl rfl hr53 (by omega) (by omega)) hq58 (dr_take (i := 9) rfl rfl rfl (want_none rfl _) (by kernel_rfl) (fun _ hS => run_load_int (r := b2.getD (((ns.getD j default).l).getD i 0).toNat 0) rfl ag3 (z := (((ns.getD j default).l).getD i 0)) rfl hr53 hS (by omega) (by omega)) hq58 (dr_take (i := 10) rfl rfl rfl (want_none rfl _) (by kernel_rfl) (fun _ _ => r_add rfl rfl (by omega)) hq58 (dr_take (i := 11) rfl rfl rfl (want_none rfl _) (by kernel_rfl) (fun _ _ => r_max rfl rfl) hq58 (dr_take (i := 12) rfl rfl rfl (want_none rfl _) (by kernel_rfl) (fun _ _ => run_idx Try.underlying47 sz3 (v := u1) rfl rfl hr53 (by omega) (by omega)) hq58 (dr_one (i := 13) (by kernel_rfl) (drOp0 (i := 13) rfl rfl rfl (want_none rfl _) (o_set (E := eInt) (v := u1) (u := (.int .i64 (max (b2.getD j 0) ((b2.getD (((ns.getD j default).l).getD i 0).toNat 0) + 1)))) (z := (j : Int)) (max (b2.getD j 0) ((b2.getD (((ns.getD j default).l).getD i 0).toNat 0) + 1)) sz3 rfl rfl rfl rfl hX56.pins ho57 (by omega) (by omega) (fun w59 ho60 hp61 hg62 hz63 => ?_))))))))))))))))
 have hX64 := hX56.write hp61 hg62 ((lo_own ho57))
 refine ⟨fun h => absurd rfl h, ?_⟩
 refine dr_end (by kernel_rfl) (s_blkN (s_then (c_reg ?_)))
 refine qd rfl rfl rfl (r_add rfl rfl (by omega)) (qd rfl rfl rfl (r_move (v := (.int .i64 ((i : Int) + 1))) rfl) (qe (s_lopN (⟨_, ?_, _, rfl, _, i + 1, bmax j b2 ((ns.getD j default).l.getD i 0), (packS (x := 23) (packS (x := 22) (packS (x := 21) (packS (x := 15) (packS (x := 14) (packS (x := 13) (packS (x := 5) (packS (x := 4) (packS (x := 3) (pack1 (x := 2) rfl) rfl) rfl) rfl) rfl) rfl) rfl) rfl) rfl) rfl), rfl, hX64, (by omega), ((bmax_length _ _ _).trans hnb2), (hkb2.max hk.1 hk.2), (hrb2.trans (brow_next (by omega))), ho60⟩))))
 omega
 refine wp_exit (s_thenE (s_lopE (s_blkE (s_then (s_seq (c_reg ?_))))))
 refine qd rfl rfl rfl (r_fldp (k := 1) rfl Try.underlying62 rfl nz47 rfl) (qd rfl rfl rfl (r_ldp1 (u := u17) ag47 rfl (hX49.pins _ _ _ (hbp43 1 _ rfl))) (qd rfl rfl rfl (run_len Try.underlying47 (v := u17) rfl hr19) (qd rfl rfl rfl (r_move (v := (.int .i64 0)) rfl) (qe (s_then ?_)))))
 refine s_blk (s_loop (fun (k : Nat) (en : Nat → Value) (W : World) => ∃ (env1 : Nat → Value) (i3 : Nat) (b3 : List Int), en = (upd (upd (upd (upd (upd (upd (upd (upd (upd env1 2 (.slice none 0 0)) 3 u1) 4 (.int .i64 (j : Int))) 13 v) 14 (.int .i64 (ns.length : Int))) 15 (.int .i64 (j : Int))) 42 u17) 43 (.int .i64 (((ns.getD j default).r).length : Int))) 44 (.int .i64 (i3 : Int))) ∧ k = (ns.getD j default).r.length - i3 ∧ Ext noS G w G40 W ∧ (i3 ≤ (ns.getD j default).r.length) ∧ (b3.length = ns.length) ∧ (BOk b3) ∧ (brow j b2 (ns.getD j default).r = brow j b3 ((ns.getD j default).r.drop i3)) ∧ (Own eInt 3 G40 W w.heap.size u1 (b3))) _ ⟨_, 0, b2, (packS (x := 44) (packS (x := 43) (packS (x := 42) (packS (x := 15) (packS (x := 14) (packS (x := 13) (packS (x := 4) (packS (x := 3) (pack1 (x := 2) rfl) rfl) rfl) rfl) rfl) rfl) rfl) rfl) rfl), rfl, hX49, Nat.zero_le _, hnb2, hkb2, rfl, hw50⟩ ?_)
 rintro k65 _ w66 ⟨env1, i3, b3, rfl, hk67, hX68, hii3, hnb3, hkb3, hrb3, hw69⟩
 refine s_seq (c_reg ?_)
 refine qd rfl rfl rfl (r_lss rfl rfl) (qe (s_then (s_seq ?_)))
 refine c_ifd (p := ((i3 : Int) : Int) < (((ns.getD j default).r).length : Int)) rfl rfl (fun h70 => ?_) (fun h70 => ?_)
 have hk := ho.right (j := j) (i := i3) (by omega) (by omega)
 have hbj := hkb3 j
 have hbk := hkb3 ((ns.getD j default).r.getD i3 0).toNat
 refine wp_skip (s_then (s_seq ?_))
 refine s_blk (s_seq (c_reg ?_))
 refine qd rfl rfl rfl (run_idx Try.underlying47 sz3 (v := u17) rfl rfl hr19 (by omega) (by omega)) (qd rfl rfl rfl (run_load_int (r := ((ns.getD j default).r).getD i3 0) rfl ag3 (z := (i3 : Int)) rfl hr19 (Pins.of_le hX68.pins (Pin.le_trans hlek10 hle41)) (by omega) (by omega)) (qd rfl rfl rfl (r_assign (v := (.int .i64 (((ns.getD j default).r).getD i3 0))) rfl) (qe (s_then ?_))))
 have hq71 := Gadd.pins hX68.pins u1
 have hr72 := hw69.read
 refine c_draw (S := fun wz => Pins (Gadd G40 w66 u1) wz) (last := 13) (by kernel_rfl) rfl ?_
 have hl73 : Below w66.heap.size w66 w66.drew := (Below.refl _ _).drew
 have hp74 := hX68.pins.below hl73
 have hX75 := hX68.step hp74 hl73
 have ho76 := hw69.below hl73
 have hq77 := hq71.below hl73
 refine dr_take (i := 0) rfl rfl rfl (want_none rfl _) (by kernel_rfl) (fun _ _ => r_move (v := u1) rfl) hq77 (dr_take (i := 1) rfl rfl rfl (want_none rfl _) (by kernel_rfl) (fun _ _ => r_move (v := (.int .i64 (j : Int))) rfl) hq77 (dr_take (i := 2) rfl rfl rfl (want_none rfl _) (by kernel_rfl) (fun _ _ => r_move (v := u1) rfl) hq77 (dr_take (i := 3) rfl rfl rfl (want_none rfl _) (by kernel_rfl) (fun _ _ => r_move (v := (.int .i64 (j : Int))) rfl) hq77 (dr_take (i := 4) rfl rfl rfl (want_none rfl _) (by kernel_rfl) (fun _ _ => run_idx Try.underlying47 sz3 (v := u1) rfl rfl hr72 (by omega) (by omega)) hq77 (dr_take (i := 5) rfl rfl rfl (want_none rfl _) (by kernel_rfl) (fun _ hS => run_load_int (r := b3.getD j 0) rfl ag3 (z := (j : Int)) rfl hr72 hS (by omega) (by omega)) hq77 (dr_take (i := 6) rfl rfl rfl (want_none rfl _) (by kernel_rfl) (fun _ _ => r_move (v := u1) rfl) hq77 (dr_take (i := 7) rfl rfl rfl (want_none rfl _) (by kernel_rfl) (fun _ _ => r_move (v := (.int .i64 (((ns.getD j default).r).getD i3 0))) rfl) hq77 (dr_take (i := 8) rfl rfl rfl (want_none rfl _) (by kernel_rfl) (fun _ _ => run_idx Try.underlying47 sz3 (v := u1) rfl rfl hr72 (by omega) (by omega)) hq77 (dr_take (i := 9) rfl rfl rfl (want_none rfl _) (by kernel_rfl) (fun _ hS => run_load_int (r := b3.getD (((ns.getD j default).r).getD i3 0).toNat 0) rfl ag3 (z := (((ns.getD j default).r).getD i3 0)) rfl hr72 hS (by omega) (by omega)) hq77 (dr_take (i := 10) rfl rfl rfl (want_none rfl _) (by kernel_rfl) (fun _ _ => r_add rfl rfl (by omega)) hq77 (dr_take (i := 11) rfl rfl rfl (want_none rfl _) (by kernel_rfl) (fun _ _ => r_max rfl rfl) hq77 (dr_take (i := 12) rfl rfl rfl (want_none rfl _) (by kernel_rfl) (fun _ _ => run_idx Try.underlying47 sz3 (v := u1) rfl rfl hr72 (by omega) (by omega)) hq77 (dr_one (i := 13) (by kernel_rfl) (drOp0 (i := 13) rfl rfl rfl (want_none rfl _) (o_set (E := eInt) (v := u1) (u := (.int .i64 (max (b3.getD j 0) ((b3.getD (((ns.getD j default).r).getD i3 0).toNat 0) + 1)))) (z := (j : Int)) (max (b3.getD j 0) ((b3.getD (((ns.getD j default).r).getD i3 0).toNat 0) + 1)) sz3 rfl rfl rfl rfl hX75.pins ho76 (by omega) (by omega) (fun w78 ho79 hp80 hg81 hz82 => ?_))))))))))))))))
 have hX83 := hX75.write hp80 hg81 ((lo_own ho76))
 refine ⟨fun h => absurd rfl h, ?_⟩
 refine dr_end (by kernel_rfl) (s_blkN (s_then (c_reg ?_)))
 refine qd rfl rfl rfl (r_add rfl rfl (by omega)) (qd rfl rfl rfl (r_move (v := (.int .i64 ((i3 : Int) + 1))) rfl) (qe (s_lopN (⟨_, ?_, _, rfl, _, i3 + 1, bmax j b3 ((ns.getD j default).r.getD i3 0), (packS (x := 44) (packS (x := 43) (packS (x := 42) (packS (x := 15) (packS (x := 14) (packS (x := 13) (packS (x := 4) (packS (x := 3) (pack1 (x := 2) rfl) rfl) rfl) rfl) rfl) rfl) rfl) rfl) rfl), rfl, hX83, (by omega), ((bmax_length _ _ _).trans hnb3), (hkb3.max hk.1 hk.2), (hrb3.trans (brow_next (by omega))), ho79⟩))))
 omega
 refine wp_exit (s_thenE (s_lopE (s_blkE (s_blkN (s_then (c_reg ?_))))))
 refine qd rfl rfl rfl (r_add rfl rfl (by omega)) (qd rfl rfl rfl (r_move (v := (.int .i64 ((j : Int) + 1))) rfl) (qe (s_lopN (⟨_, ?_, _, rfl, _, j + 1, b3, G40, (packS (x := 15) (packS (x := 14) (packS (x := 13) (packS (x := 3) (pack1 (x := 2) rfl) rfl) rfl) rfl) rfl), rfl, hX68, (Pin.le_trans hlek10 hle41), (by omega), hnb3, hkb3, (hr.trans ((bgo_next (by omega)).trans (by rw [hrb2, brow_end (by omega), hrb3, brow_end (by omega)]))), hw69⟩))))
 omega
 refine wp_exit (s_thenE (s_lopE (s_blkE (s_then (s_seq (c_reg ?_))))))
 refine qd rfl rfl rfl (r_move (v := u1) rfl) (qd rfl rfl rfl (r_assign (v := u1) rfl) (qe (s_then ?_)))
 exact wp_ret (s_ret (c_ret1 (v := u1) rfl rfl rfl (⟨_, _, rfl, (by rw [hr, bgo_end (by omega)]; exact hw14), hX13⟩)))

theorem used_spec {w : World} {G : Pin} {v : Value} {ns : List Nd} {m : Int} (hP : Pins G w) (hv : RSl eNode G v ns) (ho : OptsOk ns) (hs : (0 ≤ m ∧ m < ns.length) ∧ ns.length ≤ 1048576) :
  Calls Try.prog 45 [v, (.int .i64 m)].toArray w fun e w' => ∃ (u : Value) (G' : Pin), e = .returned u ∧ Own eBool 4 G' w' w.heap.size u (usedM ns m.toNat) ∧ Ext noS G w G' w' := by
 refine s_enter (n := 56) Try.func45 Try.ntmps45 rfl rfl ?_
 have hX0 : Ext noS G w G w := Ext.refl hP
 refine s_seq (c_reg ?_)
 refine qd rfl rfl rfl (r_assign (v := (.slice none 0 0)) rfl) (qe (s_then (s_seq (c_reg ?_))))
 refine qd rfl rfl rfl (r_move (v := v) rfl) (qd rfl rfl rfl (run_len Try.underlying31 (v := v) rfl hv) (q1 rfl rfl rfl (o_make (E := eBool) false 1 (.bool false) Try.underlying71 mk4 (fun _ => rfl) rfl rfl hX0.pins (by omega) (by omega) (by omega) (fun u1 w2 ho3 hp4 hl5 hk6 => ?_))))
 have hX7 := hX0.step hp4 hl5
 have ho8 : Own eBool 4 G w2 w.heap.size u1 (List.replicate ns.length false) := ho3.weaken hX0.size
 have hm9 : (List.replicate ns.length false).length = ns.length := List.length_replicate ..
 refine qd rfl rfl rfl (r_assign (v := u1) rfl) (qe (s_then (s_seq (c_reg ?_))))
 refine qd rfl rfl rfl (r_move (v := u1) rfl) (qd rfl rfl rfl (r_move (v := (.int .i64 m)) rfl) (qd rfl rfl rfl (run_idx Try.underlying71 sz4 (v := u1) rfl rfl ho8.read (by omega) (by omega)) (q0 rfl rfl rfl (o_set (E := eBool) (v := u1) (u := (.bool true)) (z := m) (true) sz4 rfl rfl rfl rfl hX7.pins ho8 (by omega) (by omega) (fun w10 ho11 hp12 hg13 hz14 => ?_)))))
 have hX15 := hX7.write hp12 hg13 ((lo_own ho8))
 refine qe (s_then (s_seq (s_seq (c_reg ?_))))
 refine qd rfl rfl rfl (r_move (v := (.int .i64 m)) rfl) (qd rfl rfl rfl (r_assign (v := (.int .i64 m)) rfl) (qe (s_then ?_)))
 refine s_blk (s_loop (fun (k : Nat) (en : Nat → Value) (W : World) => ∃ (env1 : Nat → Value) (z : Int) (b : List Bool), en = (upd (upd (upd (upd env1 0 v) 4 (.slice none 0 0)) 5 u1) 6 (.int .i64 z)) ∧ k = (z + 1).toNat ∧ Ext noS G w G W ∧ (-1 ≤ z ∧ z ≤ m) ∧ (b.length = ns.length) ∧ (usedM ns m.toNat = ugo ns (z + 1).toNat b) ∧ (Own eBool 4 G W w.heap.size u1 (b))) _ ⟨_, m, (List.replicate ns.length false).set m.toNat true, (packS (x := 6) (packS (x := 5) (packS (x := 4) (pack1 (x := 0) rfl) rfl) rfl) rfl), rfl, hX15, (by omega), (by simp), (by rw [show (m + 1).toNat = m.toNat + 1 by omega]; rfl), ho11⟩ ?_)
 rintro k16 _ w17 ⟨env1, z, b, rfl, hk18, hX19, hz, hnb, hr, hw20⟩
 refine s_seq (s_seq (c_reg ?_))
 refine qd rfl rfl rfl (r_move (v := (.int .i64 z)) rfl) (qd rfl rfl rfl (r_geq rfl rfl) (qe (s_then ?_)))
 refine c_ifd (p := (0 : Int) ≤ z) rfl rfl (fun h21 => ?_) (fun h21 => ?_)
 refine wp_skip (s_then (s_seq ?_))
 refine s_blk (s_seq (s_seq (c_reg ?_)))
 refine qd rfl rfl rfl (r_move (v := u1) rfl) (qd rfl rfl rfl (r_move (v := (.int .i64 z)) rfl) (qd rfl rfl rfl (run_idx Try.underlying71 sz4 (v := u1) rfl rfl hw20.read (by omega) (by omega)) (qd rfl rfl rfl (run_load_bool (r := b.getD (z).toNat false) rfl ag4 (z := z) rfl hw20.read (Gadd.pins hX19.pins u1) (by omega) (by omega)) (qd rfl rfl rfl (r_not rfl) (qe (s_then ?_))))))
 refine c_ifn rfl rfl (fun h22 => ?_) (fun h22 => ?_)
 refine wp_skip (s_then (s_seq (s_seq (c_reg ?_))))
 refine qd rfl rfl rfl (r_move (v := v) rfl) (qd rfl rfl rfl (r_move (v := (.int .i64 z)) rfl) (qd rfl rfl rfl (run_idx Try.underlying31 sz62 (v := v) rfl rfl hv (by omega) (by omega)) (qd rfl rfl rfl (run_fld (off := 0) Try.underlying62 rfl rfl nz47 (z := z) (k := 0) rfl hv (by omega) (by omega)) ?_)))
 obtain ⟨u23, hr24, hl25⟩ := nm_nl (hv.at (z := z) (by omega) (by omega)) (j := (z).toNat) rfl
 have hm26 := hr24.max
 refine qd rfl rfl rfl (hl25 ag47 rfl hX19.pins) (qd rfl rfl rfl (run_len Try.underlying47 (v := u23) rfl hr24) (qd rfl rfl rfl (r_move (v := (.int .i64 0)) rfl) (qe (s_then ?_))))
 refine s_blk (s_loop (fun (k : Nat) (en : Nat → Value) (W : World) => ∃ (env1 : Nat → Value) (i : Nat) (b2 : List Bool), en = (upd (upd (upd (upd (upd (upd (upd env1 0 v) 4 (.slice none 0 0)) 5 u1) 6 (.int .i64 z)) 31 u23) 32 (.int .i64 (((ns.getD (z).toNat default).l).length : Int))) 33 (.int .i64 (i : Int))) ∧ k = (ns.getD (z).toNat default).l.length - i ∧ Ext noS G w G W ∧ (i ≤ (ns.getD (z).toNat default).l.length) ∧ (b2.length = ns.length) ∧ (setAll b (ns.getD (z).toNat default).l = setAll b2 ((ns.getD (z).toNat default).l.drop i)) ∧ (Own eBool 4 G W w.heap.size u1 (b2))) _ ⟨_, 0, b, (packS (x := 33) (packS (x := 32) (packS (x := 31) (packS (x := 6) (packS (x := 5) (packS (x := 4) (pack1 (x := 0) rfl) rfl) rfl) rfl) rfl) rfl) rfl), rfl, hX19, Nat.zero_le _, hnb, rfl, hw20⟩ ?_)
 rintro k27 _ w28 ⟨env1, i, b2, rfl, hk29, hX30, hii, hnb2, hrb2, hw31⟩
 refine s_seq (c_reg ?_)
 refine qd rfl rfl rfl (r_lss rfl rfl) (qe (s_then (s_seq ?_)))
 refine c_ifd (p := ((i : Int) : Int) < (((ns.getD (z).toNat default).l).length : Int)) rfl rfl (fun h32 => ?_) (fun h32 => ?_)
 have hk := ho.left (j := (z).toNat) (i := i) (by omega) (by omega)
 refine wp_skip (s_then (s_seq ?_))
 refine s_blk (s_seq (c_reg ?_))
 refine qd rfl rfl rfl (run_idx Try.underlying47 sz3 (v := u23) rfl rfl hr24 (by omega) (by omega)) (qd rfl rfl rfl (run_load_int (r := ((ns.getD (z).toNat default).l).getD i 0) rfl ag3 (z := (i : Int)) rfl hr24 hX30.pins (by omega) (by omega)) (qd rfl rfl rfl (r_assign (v := (.int .i64 (((ns.getD (z).toNat default).l).getD i 0))) rfl) (qe (s_then (c_reg ?_)))))
 refine qd rfl rfl rfl (r_move (v := u1) rfl) (qd rfl rfl rfl (r_move (v := (.int .i64 (((ns.getD (z).toNat default).l).getD i 0))) rfl) (qd rfl rfl rfl (run_idx Try.underlying71 sz4 (v := u1) rfl rfl hw31.read (by omega) (by omega)) (q0 rfl rfl rfl (o_set (E := eBool) (v := u1) (u := (.bool true)) (z := (((ns.getD (z).toNat default).l).getD i 0)) (true) sz4 rfl rfl rfl rfl hX30.pins hw31 (by omega) (by omega) (fun w33 ho34 hp35 hg36 hz37 => ?_)))))
 have hX38 := hX30.write hp35 hg36 ((lo_own hw31))
 refine qe (s_blkN (s_then (c_reg ?_)))
 refine qd rfl rfl rfl (r_add rfl rfl (by omega)) (qd rfl rfl rfl (r_move (v := (.int .i64 ((i : Int) + 1))) rfl) (qe (s_lopN (⟨_, ?_, _, rfl, _, i + 1, b2.set ((ns.getD (z).toNat default).l.getD i 0).toNat true, (packS (x := 33) (packS (x := 32) (packS (x := 31) (packS (x := 6) (packS (x := 5) (packS (x := 4) (pack1 (x := 0) rfl) rfl) rfl) rfl) rfl) rfl) rfl), rfl, hX38, (by omega), ((List.length_set ..).trans hnb2), (hrb2.trans (setAll_next (by omega))), ho34⟩))))
 omega
 refine wp_exit (s_thenE (s_lopE (s_blkE (s_then (s_seq (c_reg ?_))))))
 refine qd rfl rfl rfl (r_move (v := v) rfl) (qd rfl rfl rfl (r_move (v := (.int .i64 z)) rfl) (qd rfl rfl rfl (run_idx Try.underlying31 sz62 (v := v) rfl rfl hv (by omega) (by omega)) (qd rfl rfl rfl (run_fld (off := 1) Try.underlying62 rfl rfl nz47 (z := z) (k := 0) rfl hv (by omega) (by omega)) ?_)))
 obtain ⟨u39, hr40, hl41⟩ := nm_nr (hv.at (z := z) (by omega) (by omega)) (j := (z).toNat) rfl
 have hm42 := hr40.max
 refine qd rfl rfl rfl (hl41 ag47 rfl hX30.pins) (qd rfl rfl rfl (run_len Try.underlying47 (v := u39) rfl hr40) (qd rfl rfl rfl (r_move (v := (.int .i64 0)) rfl) (qe (s_then ?_))))
 refine s_blk (s_loop (fun (k : Nat) (en : Nat → Value) (W : World) => ∃ (env1 : Nat → Value) (i3 : Nat) (b3 : List Bool), en = (upd (upd (upd (upd (upd (upd (upd env1 0 v) 4 (.slice none 0 0)) 5 u1) 6 (.int .i64 z)) 45 u39) 46 (.int .i64 (((ns.getD (z).toNat default).r).length : Int))) 47 (.int .i64 (i3 : Int))) ∧ k = (ns.getD (z).toNat default).r.length - i3 ∧ Ext noS G w G W ∧ (i3 ≤ (ns.getD (z).toNat default).r.length) ∧ (b3.length = ns.length) ∧ (setAll b2 (ns.getD (z).toNat default).r = setAll b3 ((ns.getD (z).toNat default).r.drop i3)) ∧ (Own eBool 4 G W w.heap.size u1 (b3))) _ ⟨_, 0, b2, (packS (x := 47) (packS (x := 46) (packS (x := 45) (packS (x := 6) (packS (x := 5) (packS (x := 4) (pack1 (x := 0) rfl) rfl) rfl) rfl) rfl) rfl) rfl), rfl, hX30, Nat.zero_le _, hnb2, rfl, hw31⟩ ?_)
 rintro k43 _ w44 ⟨env1, i3, b3, rfl, hk45, hX46, hii3, hnb3, hrb3, hw47⟩
 refine s_seq (c_reg ?_)
 refine qd rfl rfl rfl (r_lss rfl rfl) (qe (s_then (s_seq ?_)))
 refine c_ifd (p := ((i3 : Int) : Int) < (((ns.getD (z).toNat default).r).length : Int)) rfl rfl (fun h48 => ?_) (fun h48 => ?_)
 have hk := ho.right (j := (z).toNat) (i := i3) (by omega) (by omega)
 refine wp_skip (s_then (s_seq ?_))
 refine s_blk (s_seq (c_reg ?_))
 refine qd rfl rfl rfl (run_idx Try.underlying47 sz3 (v := u39) rfl rfl hr40 (by omega) (by omega)) (qd rfl rfl rfl (run_load_int (r := ((ns.getD (z).toNat default).r).getD i3 0) rfl ag3 (z := (i3 : Int)) rfl hr40 hX46.pins (by omega) (by omega)) (qd rfl rfl rfl (r_assign (v := (.int .i64 (((ns.getD (z).toNat default).r).getD i3 0))) rfl) (qe (s_then (c_reg ?_)))))
 refine qd rfl rfl rfl (r_move (v := u1) rfl) (qd rfl rfl rfl (r_move (v := (.int .i64 (((ns.getD (z).toNat default).r).getD i3 0))) rfl) (qd rfl rfl rfl (run_idx Try.underlying71 sz4 (v := u1) rfl rfl hw47.read (by omega) (by omega)) (q0 rfl rfl rfl (o_set (E := eBool) (v := u1) (u := (.bool true)) (z := (((ns.getD (z).toNat default).r).getD i3 0)) (true) sz4 rfl rfl rfl rfl hX46.pins hw47 (by omega) (by omega) (fun w49 ho50 hp51 hg52 hz53 => ?_)))))
 have hX54 := hX46.write hp51 hg52 ((lo_own hw47))
 refine qe (s_blkN (s_then (c_reg ?_)))
 refine qd rfl rfl rfl (r_add rfl rfl (by omega)) (qd rfl rfl rfl (r_move (v := (.int .i64 ((i3 : Int) + 1))) rfl) (qe (s_lopN (⟨_, ?_, _, rfl, _, i3 + 1, b3.set ((ns.getD (z).toNat default).r.getD i3 0).toNat true, (packS (x := 47) (packS (x := 46) (packS (x := 45) (packS (x := 6) (packS (x := 5) (packS (x := 4) (pack1 (x := 0) rfl) rfl) rfl) rfl) rfl) rfl) rfl), rfl, hX54, (by omega), ((List.length_set ..).trans hnb3), (hrb3.trans (setAll_next (by omega))), ho50⟩))))
 omega
 refine wp_exit (s_thenE (s_lopE (s_blkE (s_blkN (s_then (c_reg ?_))))))
 refine qd rfl rfl rfl (r_move (v := (.int .i64 z)) rfl) (qd rfl rfl rfl (r_sub rfl rfl (by omega)) (qd rfl rfl rfl (r_assign (v := (.int .i64 (z - 1))) rfl) (qe (s_lopN (⟨_, ?_, _, rfl, _, z - 1, b3, (packS (x := 6) (packS (x := 5) (packS (x := 4) (pack1 (x := 0) rfl) rfl) rfl) rfl), rfl, hX46, (by omega), hnb3, (hr.trans ((ugo_step (by omega)).trans (by rw [ustep_yes h22, hrb2, setAll_end (by omega), hrb3, setAll_end (by omega)]))), hw47⟩)))))
 omega
 refine wp_exit (s_thenE (s_blkE (s_then (c_reg ?_))))
 refine qd rfl rfl rfl (r_move (v := (.int .i64 z)) rfl) (qd rfl rfl rfl (r_sub rfl rfl (by omega)) (qd rfl rfl rfl (r_assign (v := (.int .i64 (z - 1))) rfl) (qe (s_lopN (⟨_, ?_, _, rfl, _, z - 1, b, (packS (x := 6) (packS (x := 5) (packS (x := 4) (pack1 (x := 0) rfl) rfl) rfl) rfl), rfl, hX19, (by omega), hnb, (hr.trans ((ugo_step (by omega)).trans (by rw [ustep_no h22]))), hw20⟩)))))
 omega
 refine wp_exit (s_thenE (s_lopE (s_blkE (s_then (s_seq (c_reg ?_))))))
 refine qd rfl rfl rfl (r_move (v := u1) rfl) (qd rfl rfl rfl (r_assign (v := u1) rfl) (qe (s_then ?_)))
 exact wp_ret (s_ret (c_ret1 (v := u1) rfl rfl rfl (⟨_, _, rfl, (by rw [hr, ugo_end (by omega)]; exact hw20), hX19⟩)))

theorem goodForm_spec {w : World} {G : Pin} {v : Value} {ns : List Nd} (hP : Pins G w) (hv : RSl eNode G v ns) :
  Calls Try.prog 19 [(.agg [v].toArray)].toArray w fun e w' => ∃ G', e = .returned (.bool (goodB ns)) ∧ Ext noS G w G' w' := by
 refine s_enter (n := 93) Try.func19 Try.ntmps19 rfl rfl ?_
 have hX0 : Ext noS G w G w := Ext.refl hP
 have hm := hv.max
 refine s_seq (c_reg ?_)
 refine q1 rfl rfl rfl (o_box [v] (v := (.agg [v].toArray)) rfl rfl hX0.pins (fun b1 w2 hk3 hb4 hp5 hl6 => ?_))
 have hX7 := hX0.step hp5 hl6
 have hlo8 : w.heap.size ≤ b1 := by have := hX0.size; omega
 obtain ⟨G9, hle10, hX11, hbp12, hf13⟩ := hb4.shut hX7 hlo8
 refine qd rfl rfl rfl (r_assign (v := (.bool false)) rfl) (qe (s_then (s_seq (s_seq (c_reg ?_)))))
 refine qd rfl rfl rfl (r_fldp (k := 0) rfl Try.underlying33 rfl nz31 rfl) (qd rfl rfl rfl (r_ldp1 (u := v) ag31 rfl (hX11.pins _ _ _ (hbp12 0 _ rfl))) (qd rfl rfl rfl (run_len Try.underlying31 (v := v) rfl hv) (qd rfl rfl rfl (r_lss rfl rfl) (qd rfl rfl rfl (r_move (v := (.bool (decide (((ns.length : Int) : Int) < 1)))) rfl) (qbd (p := ((ns.length : Int) : Int) < 1) (t := 13) rfl (fun h14 => ?_) (fun h14 => ?_))))))
 refine qs rfl rfl rfl rfl rfl rfl (qs rfl rfl rfl rfl rfl rfl (qs rfl rfl rfl rfl rfl rfl (qs rfl rfl rfl rfl rfl rfl (qd rfl rfl rfl (r_pickT (v := (.bool true)) rfl rfl) (qe (s_then ?_))))))
 refine c_ifT rfl rfl (s_seq (c_reg ?_))
 refine qd rfl rfl rfl (r_assign (v := (.bool false)) rfl) (qe (s_then ?_))
 exact wp_ret (s_ret (c_ret1 (v := (.bool false)) rfl rfl rfl (⟨_, congrArg (fun z => Ending.returned (Value.bool z)) (goodB_false.2 (fun g => by have := g.lo; omega)).symm, hX11⟩)))
 refine qdg rfl rfl rfl rfl rfl rfl (r_fldp (k := 0) rfl Try.underlying33 rfl nz31 rfl) (qdg rfl rfl rfl rfl rfl rfl (r_ldp1 (u := v) ag31 rfl (hX11.pins _ _ _ (hbp12 0 _ rfl))) (qdg rfl rfl rfl rfl rfl rfl (run_len Try.underlying31 (v := v) rfl hv) (qdg rfl rfl rfl rfl rfl rfl (r_gtr rfl rfl) (qd rfl rfl rfl (r_pickF (v := (.bool (decide ((120 : Int) < (ns.length : Int))))) rfl rfl) (qe (s_then ?_))))))
 refine c_ifd (p := (120 : Int) < (ns.length : Int)) rfl rfl (fun h15 => ?_) (fun h15 => ?_)
 refine s_seq (c_reg ?_)
 refine qd rfl rfl rfl (r_assign (v := (.bool false)) rfl) (qe (s_then ?_))
 exact wp_ret (s_ret (c_ret1 (v := (.bool false)) rfl rfl rfl (⟨_, congrArg (fun z => Ending.returned (Value.bool z)) (goodB_false.2 (fun g => by have := g.hi; omega)).symm, hX11⟩)))
 refine wp_skip (s_then (s_seq (s_seq (c_reg ?_))))
 refine qd rfl rfl rfl (r_fldp (k := 0) rfl Try.underlying33 rfl nz31 rfl) (qd rfl rfl rfl (r_ldp1 (u := v) ag31 rfl (hX11.pins _ _ _ (hbp12 0 _ rfl))) (qd rfl rfl rfl (run_len Try.underlying31 (v := v) rfl hv) (qd rfl rfl rfl (r_move (v := (.int .i64 0)) rfl) (qe (s_then ?_)))))
 refine s_blk (s_loop (fun (k : Nat) (en : Nat → Value) (W : World) => ∃ (env1 : Nat → Value) (j : Nat) (GL1 : Pin), en = (upd (upd (upd (upd env1 1 (.pointer (some ⟨b1, 0, none⟩))) 20 v) 21 (.int .i64 (ns.length : Int))) 22 (.int .i64 (j : Int))) ∧ k = ns.length - j ∧ Ext noS G w GL1 W ∧ Pin.le G9 GL1 ∧ (j ≤ ns.length) ∧ (∀ i, i < j → goodOpts (ns.getD i default).l i = true ∧ goodOpts (ns.getD i default).r i = true)) _ ⟨_, 0, G9, (packS (x := 22) (packS (x := 21) (packS (x := 20) (pack1 (x := 1) rfl) rfl) rfl) rfl), rfl, hX11, Pin.le_refl _, Nat.zero_le _, (fun i hi => absurd hi (Nat.not_lt_zero i))⟩ ?_)
 rintro k16 _ w17 ⟨env1, j, GL1, rfl, hk18, hX19, hlek16, hj, hg⟩
 refine s_seq (c_reg ?_)
 refine qd rfl rfl rfl (r_lss rfl rfl) (qe (s_then (s_seq ?_)))
 refine c_ifd (p := ((j : Int) : Int) < (ns.length : Int)) rfl rfl (fun h20 => ?_) (fun h20 => ?_)
 refine wp_skip (s_then (s_seq ?_))
 refine s_blk (s_seq (c_reg ?_))
 refine qd rfl rfl rfl (r_move (v := (.int .i64 (j : Int))) rfl) (qd rfl rfl rfl (run_idx Try.underlying31 sz62 (v := v) rfl rfl hv (by omega) (by omega)) ?_)
 obtain ⟨u21, u22, hr23, hr24, hl25⟩ := nm_node (hv.at (z := (j : Int)) (by omega) (by omega)) (j := j) rfl
 have hm26 := hr23.max
 have hm27 := hr24.max
 refine qd rfl rfl rfl (hl25 ag62 sz62 rfl (Pins.of_le hX19.pins (Pin.le_trans hle10 hlek16))) (q1 rfl rfl rfl (o_alloc [(.slice none 0 0), (.slice none 0 0)] zr62 rfl hX19.pins (fun b28 w29 hk30 hb31 hp32 hl33 => ?_)))
 have hX34 := hX19.step hp32 hl33
 have hlo35 : w.heap.size ≤ b28 := by have := hX19.size; omega
 refine qd rfl rfl rfl (r_assign (v := (.int .i64 (j : Int))) rfl) (q0 rfl rfl rfl (o_stp (cs' := [u21, u22]) (us := [u21, u22]) (v := (.agg [u21, u22].toArray)) sz62 rfl rfl rfl (ones2 hr23.one hr24.one) hX34.pins hb31 (Nat.le_of_ble_eq_true rfl) rfl (fun w36 hb37 hp38 hg39 hz40 => ?_)))
 have hX41 := hX34.write hp38 hg39 ((lo_box hlo35))
 obtain ⟨G42, hle43, hX44, hbp45, hf46⟩ := hb37.shut hX41 hlo35
 refine qe (s_then (s_seq (c_reg ?_)))
 refine qd rfl rfl rfl (r_fldp (k := 0) rfl Try.underlying62 rfl nz47 rfl) (qd rfl rfl rfl (r_ldp1 (u := u21) ag47 rfl (hX44.pins _ _ _ (hbp45 0 _ rfl))) (qd rfl rfl rfl (r_move (v := (.int .i64 (j : Int))) rfl) (q1 rfl rfl rfl (o_call (vs := [u21, (.int .i64 (j : Int))]) Try.func39 nm39 rfl rfl rfl ?_))))
 refine Calls.mono (goodOptions_spec hX44.pins (hr23.mono (Pin.le_trans (Pin.le_trans hle10 hlek16) hle43))) ?_
 rintro _ _ ⟨rfl, rfl⟩
 refine ⟨_, rfl, ?_⟩
 refine qd rfl rfl rfl (r_not rfl) (qd rfl rfl rfl (r_move (v := (.bool (!(goodOpts ((ns.getD j default).l) (j : Int))))) rfl) (qbn (t := 32) rfl (fun h47 => ?_) (fun h47 => ?_)))
 refine qdg rfl rfl rfl rfl rfl rfl (r_fldp (k := 1) rfl Try.underlying62 rfl nz47 rfl) (qdg rfl rfl rfl rfl rfl rfl (r_ldp1 (u := u22) ag47 rfl (hX44.pins _ _ _ (hbp45 1 _ rfl))) (qdg rfl rfl rfl rfl rfl rfl (r_move (v := (.int .i64 (j : Int))) rfl) (q1g rfl rfl rfl rfl rfl rfl (o_call (vs := [u22, (.int .i64 (j : Int))]) Try.func39 nm39 rfl rfl rfl ?_))))
 refine Calls.mono (goodOptions_spec hX44.pins (hr24.mono (Pin.le_trans (Pin.le_trans hle10 hlek16) hle43))) ?_
 rintro _ _ ⟨rfl, rfl⟩
 refine ⟨_, rfl, ?_⟩
 refine qdg rfl rfl rfl rfl rfl rfl (r_not rfl) (qd rfl rfl rfl (r_pickF (v := (.bool (!(goodOpts ((ns.getD j default).r) (j : Int))))) rfl rfl) (qe (s_then ?_)))
 refine c_ifn rfl rfl (fun h48 => ?_) (fun h48 => ?_)
 refine wp_skip (s_blkN (s_then (c_reg ?_)))
 refine qd rfl rfl rfl (r_add rfl rfl (by omega)) (qd rfl rfl rfl (r_move (v := (.int .i64 ((j : Int) + 1))) rfl) (qe (s_lopN (⟨_, ?_, _, rfl, _, j + 1, G42, (packS (x := 22) (packS (x := 21) (packS (x := 20) (pack1 (x := 1) rfl) rfl) rfl) rfl), rfl, hX44, (Pin.le_trans hlek16 hle43), (by omega), (fun k hk => if h3 : k = j then h3 ▸ ⟨h47, h48⟩ else hg k (by omega))⟩))))
 omega
 refine s_seq (c_reg ?_)
 refine qd rfl rfl rfl (r_assign (v := (.bool false)) rfl) (qe (s_then ?_))
 exact wp_ret (s_ret (c_ret1 (v := (.bool false)) rfl rfl rfl (⟨_, congrArg (fun z => Ending.returned (Value.bool z)) (goodB_false.2 (fun g => by have := (g.opts j (by omega)).2; rw [h48] at this; cases this)).symm, hX44⟩)))
 refine qs rfl rfl rfl rfl rfl rfl (qs rfl rfl rfl rfl rfl rfl (qs rfl rfl rfl rfl rfl rfl (qs rfl rfl rfl rfl rfl rfl (qs rfl rfl rfl rfl rfl rfl (qd rfl rfl rfl (r_pickT (v := (.bool true)) rfl rfl) (qe (s_then ?_)))))))
 refine c_ifT rfl rfl (s_seq (c_reg ?_))
 refine qd rfl rfl rfl (r_assign (v := (.bool false)) rfl) (qe (s_then ?_))
 exact wp_ret (s_ret (c_ret1 (v := (.bool false)) rfl rfl rfl (⟨_, congrArg (fun z => Ending.returned (Value.bool z)) (goodB_false.2 (fun g => by have := (g.opts j (by omega)).1; rw [h47] at this; cases this)).symm, hX44⟩)))
 refine wp_exit (s_thenE (s_lopE (s_blkE (s_then (s_seq (c_reg ?_))))))
 refine qd rfl rfl rfl (r_fldp (k := 0) rfl Try.underlying33 rfl nz31 rfl) (qd rfl rfl rfl (r_ldp1 (u := v) ag31 rfl ((Pins.of_le hX19.pins hlek16) _ _ _ (hbp12 0 _ rfl))) ?_)
 have hopts : ∀ i, i < ns.length → goodOpts (ns.getD i default).l i = true ∧ goodOpts (ns.getD i default).r i = true := fun i hi => hg i (by omega)
 refine q1 rfl rfl rfl (o_call (vs := [v]) Try.func40 nm40 rfl rfl rfl ?_)
 refine Calls.mono (births_spec hX19.pins (hv.mono (Pin.le_trans hle10 hlek16)) (opts_ok hopts) (by omega)) ?_
 rintro _ w51 ⟨u49, G50, rfl, ho52, hx53⟩
 refine ⟨_, rfl, ?_⟩
 have hX54 := hX19.tr hx53
 have ho55 : Own eInt 3 G50 w51 w.heap.size u49 (births ns) := ho52.weaken hX19.size
 refine qd rfl rfl rfl (r_assign (v := u49) rfl) (qe (s_then (s_seq (s_seq (c_reg ?_)))))
 have hnb := births_length ns
 obtain ⟨G56, hle59, hX58, hr57, hf60⟩ := ho55.sealed hX54
 refine qd rfl rfl rfl (r_assign (v := (.int .i64 1)) rfl) (qe (s_then ?_))
 refine s_blk (s_loop (fun (k : Nat) (en : Nat → Value) (W : World) => ∃ (env1 : Nat → Value) (i : Nat) (GL2 : Pin), en = (upd (upd (upd env1 1 (.pointer (some ⟨b1, 0, none⟩))) 5 u49) 6 (.int .i64 (i : Int))) ∧ k = ns.length - i ∧ Ext noS G w GL2 W ∧ Pin.le G56 GL2 ∧ (1 ≤ i ∧ i ≤ ns.length) ∧ (∀ k, 1 ≤ k → k < i → pairC ns (births ns) k < 0)) _ ⟨_, 1, G56, (packS (x := 6) (packS (x := 5) (pack1 (x := 1) rfl) rfl) rfl), rfl, hX58, Pin.le_refl _, (by omega), (fun k a b => absurd a (by omega))⟩ ?_)
 rintro k61 _ w62 ⟨env1, i, GL2, rfl, hk63, hX64, hlek61, hi, hsr⟩
 refine s_seq (s_seq (c_reg ?_))
 refine qd rfl rfl rfl (r_move (v := (.int .i64 (i : Int))) rfl) (qd rfl rfl rfl (r_fldp (k := 0) rfl Try.underlying33 rfl nz31 rfl) (qd rfl rfl rfl (r_ldp1 (u := v) ag31 rfl ((Pins.of_le hX64.pins (Pin.le_trans (Pin.le_trans (Pin.le_trans hlek16 hx53.le) hle59) hlek61)) _ _ _ (hbp12 0 _ rfl))) (qd rfl rfl rfl (run_len Try.underlying31 (v := v) rfl hv) (qd rfl rfl rfl (r_lss rfl rfl) (qe (s_then ?_))))))
 refine c_ifd (p := ((i : Int) : Int) < (ns.length : Int)) rfl rfl (fun h65 => ?_) (fun h65 => ?_)
 refine wp_skip (s_then (s_seq ?_))
 refine s_blk (s_seq (c_cut (fun (en : Nat → Value) (W : World) => ∃ (env1 : Nat → Value) (c66 : Nat) (c67 : Value) (c68 : Value) (c69 : Nat) (c70 : Value) (c71 : Value) (G72 : Pin), en = (upd (upd (upd (upd (upd env1 1 (.pointer (some ⟨b1, 0, none⟩))) 5 u49) 6 (.int .i64 (i : Int))) 7 (.pointer (some ⟨c66, 0, none⟩))) 8 (.pointer (some ⟨c69, 0, none⟩))) ∧ Ext noS G w G72 W ∧ Pin.le GL2 G72 ∧ (RSl eInt G72 c67 ((ns.getD ((i : Int) - 1).toNat default).l)) ∧ (RSl eInt G72 c68 ((ns.getD ((i : Int) - 1).toNat default).r)) ∧ (RSl eInt G72 c70 ((ns.getD i default).l)) ∧ (RSl eInt G72 c71 ((ns.getD i default).r)) ∧ (BxP G72 c66 [c67, c68]) ∧ (BxP G72 c69 [c70, c71])) ?_ ?_))
 ·rintro _ w73 ⟨env1, c66, c67, c68, c69, c70, c71, G72, rfl, hX80, hle81, hr74, hr75, hr76, hr77, hb78, hb79⟩
  refine s_then (s_seq ?_)
  refine c_draw (S := fun wz => Pins G72 wz) (last := 23) (by kernel_rfl) rfl ?_
  have hl82 : Below w73.heap.size w73 w73.drew := (Below.refl _ _).drew
  have hp83 := hX80.pins.below hl82
  have hX84 := hX80.step hp83 hl82
  refine dr_take (i := 0) rfl rfl rfl (want_none rfl _) (by kernel_rfl) (fun _ _ => r_move (v := u49) rfl) hX84.pins (dr_take (i := 1) rfl rfl rfl (want_none rfl _) (by kernel_rfl) (fun _ _ => r_move (v := (.int .i64 (i : Int))) rfl) hX84.pins (dr_take (i := 2) rfl rfl rfl (want_none rfl _) (by kernel_rfl) (fun _ _ => r_sub rfl rfl (by omega)) hX84.pins (dr_take (i := 3) rfl rfl rfl (want_none rfl _) (by kernel_rfl) (fun _ _ => run_idx Try.underlying47 sz3 (v := u49) rfl rfl hr57 (by omega) (by omega)) hX84.pins (dr_take (i := 4) rfl rfl rfl (want_none rfl _) (by kernel_rfl) (fun _ hS => run_load_int (r := (births ns).getD ((i : Int) - 1).toNat 0) rfl ag3 (z := ((i : Int) - 1)) rfl hr57 (Pins.of_le hS (Pin.le_trans hlek61 hle81)) (by omega) (by omega)) hX84.pins (dr_take (i := 5) rfl rfl rfl (want_none rfl _) (by kernel_rfl) (fun _ _ => r_move (v := u49) rfl) hX84.pins (dr_take (i := 6) rfl rfl rfl (want_none rfl _) (by kernel_rfl) (fun _ _ => r_move (v := (.int .i64 (i : Int))) rfl) hX84.pins (dr_take (i := 7) rfl rfl rfl (want_none rfl _) (by kernel_rfl) (fun _ _ => run_idx Try.underlying47 sz3 (v := u49) rfl rfl hr57 (by omega) (by omega)) hX84.pins (dr_take (i := 8) rfl rfl rfl (want_none rfl _) (by kernel_rfl) (fun _ hS => run_load_int (r := (births ns).getD i 0) rfl ag3 (z := (i : Int)) rfl hr57 (Pins.of_le hS (Pin.le_trans hlek61 hle81)) (by omega) (by omega)) hX84.pins (dr_take (i := 10) rfl rfl rfl (want_none rfl _) (by kernel_rfl) (fun _ _ => r_fldp (k := 0) rfl Try.underlying62 rfl nz47 rfl) hX84.pins (dr_take (i := 11) rfl rfl rfl (want_none rfl _) (by kernel_rfl) (fun _ hS => r_ldp1 (u := c67) ag47 rfl (hS _ _ _ (hb78 0 _ rfl))) hX84.pins (dr_take (i := 12) rfl rfl rfl (want_none rfl _) (by kernel_rfl) (fun _ _ => r_fldp (k := 0) rfl Try.underlying62 rfl nz47 rfl) hX84.pins (dr_take (i := 13) rfl rfl rfl (want_none rfl _) (by kernel_rfl) (fun _ hS => r_ldp1 (u := c70) ag47 rfl (hS _ _ _ (hb79 0 _ rfl))) hX84.pins (dr_take (i := 15) rfl rfl rfl (want_none rfl _) (by kernel_rfl) (fun _ _ => r_fldp (k := 1) rfl Try.underlying62 rfl nz47 rfl) hX84.pins (dr_take (i := 16) rfl rfl rfl (want_none rfl _) (by kernel_rfl) (fun _ hS => r_ldp1 (u := c68) ag47 rfl (hS _ _ _ (hb78 1 _ rfl))) hX84.pins (dr_take (i := 17) rfl rfl rfl (want_none rfl _) (by kernel_rfl) (fun _ _ => r_fldp (k := 1) rfl Try.underlying62 rfl nz47 rfl) hX84.pins (dr_take (i := 18) rfl rfl rfl (want_none rfl _) (by kernel_rfl) (fun _ hS => r_ldp1 (u := c71) ag47 rfl (hS _ _ _ (hb79 1 _ rfl))) hX84.pins (dr_one (i := 9) (by kernel_rfl) (drOp1 (i := 9) rfl rfl rfl (want_none rfl _) (o_call (vs := [(.int .i64 ((births ns).getD ((i : Int) - 1).toNat 0)), (.int .i64 ((births ns).getD i 0))]) Try.func42 nm42 rfl rfl rfl ?_)))))))))))))))))))
  refine Calls.mono (cmpCompare_spec hX84.pins) ?_
  rintro _ _ ⟨rfl, rfl⟩
  refine ⟨_, rfl, ?_⟩
  refine ⟨fun _ => hX84.pins, ?_⟩
  refine dr_one (i := 14) (by kernel_rfl) (drOp1 (i := 14) rfl rfl rfl (want_none rfl _) (o_call (vs := [c67, c70]) Try.func43 nm43 rfl rfl rfl ?_))
  refine Calls.mono (slCompare_spec hX84.pins hr74 hr76) ?_
  rintro _ _ ⟨rfl, rfl⟩
  refine ⟨_, rfl, ?_⟩
  refine ⟨fun _ => hX84.pins, ?_⟩
  refine dr_one (i := 19) (by kernel_rfl) (drOp1 (i := 19) rfl rfl rfl (want_none rfl _) (o_call (vs := [c68, c71]) Try.func43 nm43 rfl rfl rfl ?_))
  refine Calls.mono (slCompare_spec hX84.pins hr75 hr77) ?_
  rintro _ _ ⟨rfl, rfl⟩
  refine ⟨_, rfl, ?_⟩
  refine ⟨fun _ => hX84.pins, ?_⟩
  refine dr_one (i := 20) (by kernel_rfl) (drOp1 (i := 20) rfl rfl rfl (want_none rfl _) (o_buildF (E := eInt) (e := 3) [(.int .i64 (cmpI ((births ns).getD ((i : Int) - 1).toNat 0) ((births ns).getD i 0))), (.int .i64 (cmpL ((ns.getD ((i : Int) - 1).toNat default).l) ((ns.getD i default).l))), (.int .i64 (cmpL ((ns.getD ((i : Int) - 1).toNat default).r) ((ns.getD i default).r)))] [cmpI ((births ns).getD ((i : Int) - 1).toNat 0) ((births ns).getD i 0), cmpL ((ns.getD ((i : Int) - 1).toNat default).l) ((ns.getD i default).l), cmpL ((ns.getD ((i : Int) - 1).toNat default).r) ((ns.getD i default).r)] Try.underlying47 sz3 zr3 (by exact reps3 (by rfl) (by rfl) (by rfl)) (ones3 (by rfl) (by rfl) (by rfl)) rfl rfl rfl rfl (by decide) hX84.pins (fun u85 w86 ho87 hp88 hl89 hk90 => ?_)))
  have hX91 := hX84.step hp88 hl89
  have ho92 : Own eInt 3 G72 w86 w.heap.size u85 ([cmpI ((births ns).getD ((i : Int) - 1).toNat 0) ((births ns).getD i 0), cmpL ((ns.getD ((i : Int) - 1).toNat default).l) ((ns.getD i default).l), cmpL ((ns.getD ((i : Int) - 1).toNat default).r) ((ns.getD i default).r)]) := ho87.weaken hX84.size
  refine ⟨fun _ => hX91.pins, ?_⟩
  obtain ⟨G93, hle96, hX95, hr94, hf97⟩ := ho92.sealed hX91
  refine dr_one (i := 21) (by kernel_rfl) (drOp1 (i := 21) rfl rfl rfl (want_none rfl _) (o_call (vs := [u85]) Try.func41 nm41 rfl rfl rfl ?_))
  refine Calls.mono (cmpOr_spec hX95.pins hr94) ?_
  rintro _ _ ⟨rfl, rfl⟩
  refine ⟨_, rfl, ?_⟩
  refine ⟨fun _ => (Pins.of_le hX95.pins hle96), ?_⟩
  refine dr_take (i := 22) rfl rfl rfl (want_none rfl _) (by kernel_rfl) (fun _ _ => r_geq rfl rfl) (Pins.of_le hX95.pins hle96) (dr_end (by kernel_rfl) (s_then (c_ifd (p := (0 : Int) ≤ (orL ([cmpI ((births ns).getD ((i : Int) - 1).toNat 0) ((births ns).getD i 0), cmpL ((ns.getD ((i : Int) - 1).toNat default).l) ((ns.getD i default).l), cmpL ((ns.getD ((i : Int) - 1).toNat default).r) ((ns.getD i default).r)]))) rfl rfl (fun h98 => ?_) (fun h98 => ?_))))
  refine s_seq (c_reg ?_)
  refine qd rfl rfl rfl (r_assign (v := (.bool false)) rfl) (qe (s_then ?_))
  exact wp_ret (s_ret (c_ret1 (v := (.bool false)) rfl rfl rfl (⟨_, congrArg (fun z => Ending.returned (Value.bool z)) (goodB_false.2 (fun g => by have := g.sorted i (by omega) (by omega); unfold pairC at this; rw [show i - 1 = ((i : Int) - 1).toNat by omega] at this; omega)).symm, hX95⟩)))
  refine wp_skip (s_blkN (s_then (c_reg ?_)))
  refine qd rfl rfl rfl (r_move (v := (.int .i64 (i : Int))) rfl) (qd rfl rfl rfl (r_add rfl rfl (by omega)) (qd rfl rfl rfl (r_assign (v := (.int .i64 ((i : Int) + 1))) rfl) (qe (s_lopN ?_))))
  have hstep : pairC ns (births ns) i < 0 := by
   unfold pairC; rw [show i - 1 = ((i : Int) - 1).toNat by omega]; omega
  refine ⟨_, ?_, _, rfl, _, i + 1, G93, (packS (x := 6) (packS (x := 5) (pack1 (x := 1) rfl) rfl) rfl), rfl, hX95, (Pin.le_trans (Pin.le_trans hlek61 hle81) hle96), (by omega), (fun k h1 h2 => if h3 : k = i then h3 ▸ hstep else hsr k h1 (by omega))⟩
  omega
 refine c_draw (S := fun wz => Pins GL2 wz) (last := 14) (by kernel_rfl) rfl ?_
 have hl99 : Below w62.heap.size w62 w62.drew := (Below.refl _ _).drew
 have hp100 := hX64.pins.below hl99
 have hX101 := hX64.step hp100 hl99
 refine dr_take (i := 0) rfl rfl rfl (want_none rfl _) (by kernel_rfl) (fun _ _ => r_fldp (k := 0) rfl Try.underlying33 rfl nz31 rfl) hX101.pins (dr_take (i := 1) rfl rfl rfl (want_none rfl _) (by kernel_rfl) (fun _ hS => r_ldp1 (u := v) ag31 rfl ((Pins.of_le hS (Pin.le_trans (Pin.le_trans (Pin.le_trans hlek16 hx53.le) hle59) hlek61)) _ _ _ (hbp12 0 _ rfl))) hX101.pins (dr_take (i := 2) rfl rfl rfl (want_none rfl _) (by kernel_rfl) (fun _ _ => r_move (v := (.int .i64 (i : Int))) rfl) hX101.pins (dr_take (i := 3) rfl rfl rfl (want_none rfl _) (by kernel_rfl) (fun _ _ => r_sub rfl rfl (by omega)) hX101.pins (dr_take (i := 4) rfl rfl rfl (want_none rfl _) (by kernel_rfl) (fun _ _ => run_idx Try.underlying31 sz62 (v := v) rfl rfl hv (by omega) (by omega)) hX101.pins ?_))))
 obtain ⟨u102, u103, hr104, hr105, hl106⟩ := nm_node (hv.at (z := ((i : Int) - 1)) (by omega) (by omega)) (j := ((i : Int) - 1).toNat) rfl
 have hm107 := hr104.max
 have hm108 := hr105.max
 refine dr_take (i := 5) rfl rfl rfl (want_none rfl _) (by kernel_rfl) (fun _ hS => hl106 ag62 sz62 rfl (Pins.of_le hS (Pin.le_trans (Pin.le_trans (Pin.le_trans (Pin.le_trans hle10 hlek16) hx53.le) hle59) hlek61))) hX101.pins (dr_take (i := 6) rfl rfl rfl (want_none rfl _) (by kernel_rfl) (fun _ _ => r_fldp (k := 0) rfl Try.underlying33 rfl nz31 rfl) hX101.pins (dr_take (i := 7) rfl rfl rfl (want_none rfl _) (by kernel_rfl) (fun _ hS => r_ldp1 (u := v) ag31 rfl ((Pins.of_le hS (Pin.le_trans (Pin.le_trans (Pin.le_trans hlek16 hx53.le) hle59) hlek61)) _ _ _ (hbp12 0 _ rfl))) hX101.pins (dr_take (i := 8) rfl rfl rfl (want_none rfl _) (by kernel_rfl) (fun _ _ => r_move (v := (.int .i64 (i : Int))) rfl) hX101.pins (dr_take (i := 9) rfl rfl rfl (want_none rfl _) (by kernel_rfl) (fun _ _ => run_idx Try.underlying31 sz62 (v := v) rfl rfl hv (by omega) (by omega)) hX101.pins ?_))))
 obtain ⟨u109, u110, hr111, hr112, hl113⟩ := nm_node (hv.at (z := (i : Int)) (by omega) (by omega)) (j := i) rfl
 have hm114 := hr111.max
 have hm115 := hr112.max
 refine dr_take (i := 10) rfl rfl rfl (want_none rfl _) (by kernel_rfl) (fun _ hS => hl113 ag62 sz62 rfl (Pins.of_le hS (Pin.le_trans (Pin.le_trans (Pin.le_trans (Pin.le_trans hle10 hlek16) hx53.le) hle59) hlek61))) hX101.pins (dr_two (i := 11) (j := 12) (by kernel_rfl) ?_ ?_)
 refine (drOp1 (i := 11) rfl rfl rfl (want_none rfl _) (o_alloc [(.slice none 0 0), (.slice none 0 0)] zr62 rfl hX101.pins (fun b116 w117 hk118 hb119 hp120 hl121 => ?_)))
 have hX122 := hX101.step hp120 hl121
 have hlo123 : w.heap.size ≤ b116 := by have := hX101.size; omega
 refine ⟨fun _ => hX122.pins, ?_⟩
 refine dr_one (i := 12) (by kernel_rfl) (drOp1 (i := 12) rfl rfl rfl (want_none rfl _) (o_alloc [(.slice none 0 0), (.slice none 0 0)] zr62 rfl hX122.pins (fun b124 w125 hk126 hb127 hp128 hl129 => ?_)))
 have hX130 := hX122.step hp128 hl129
 have hb131 := hb119.below hl129
 have ha132 : Apart (some b124) (some b116) := new_ne_box (congrArg some hk126) hb119.lt
 have hlo133 : w.heap.size ≤ b124 := by have := hX122.size; omega
 refine ⟨fun _ => hX130.pins, ?_⟩
 refine dr_one (i := 13) (by kernel_rfl) (drOp0 (i := 13) rfl rfl rfl (want_none rfl _) (o_stp (cs' := [u102, u103]) (us := [u102, u103]) (v := (.agg [u102, u103].toArray)) sz62 rfl rfl rfl (ones2 hr104.one hr105.one) hX130.pins hb131 (Nat.le_of_ble_eq_true rfl) rfl (fun w134 hb135 hp136 hg137 hz138 => ?_)))
 have hX139 := hX130.write hp136 hg137 ((lo_box hlo123))
 have hb140 := hb127.keptA hg137 ha132
 obtain ⟨G141, hle142, hX143, hbp144, hf145⟩ := hb135.shut hX139 hlo123
 have hb146 := hb140.moreA hf145 ha132
 refine ⟨fun _ => (Pins.of_le hX143.pins hle142), ?_⟩
 refine dr_one (i := 14) (by kernel_rfl) (drOp0 (i := 14) rfl rfl rfl (want_none rfl _) (o_stp (cs' := [u109, u110]) (us := [u109, u110]) (v := (.agg [u109, u110].toArray)) sz62 rfl rfl rfl (ones2 hr111.one hr112.one) hX143.pins hb146 (Nat.le_of_ble_eq_true rfl) rfl (fun w147 hb148 hp149 hg150 hz151 => ?_)))
 have hX152 := hX143.write hp149 hg150 ((lo_box hlo133))
 obtain ⟨G153, hle154, hX155, hbp156, hf157⟩ := hb148.shut hX152 hlo133
 refine ⟨fun h => absurd rfl h, ?_⟩
 exact dr_end (by kernel_rfl) (cut_in ⟨_, b116, u102, u103, b124, u109, u110, G153, (packS (x := 8) (packS (x := 7) (packS (x := 6) (packS (x := 5) (pack1 (x := 1) rfl) rfl) rfl) rfl) rfl), hX155, (Pin.le_trans hle142 hle154), (hr104.mono (Pin.le_trans (Pin.le_trans (Pin.le_trans (Pin.le_trans (Pin.le_trans (Pin.le_trans hle10 hlek16) hx53.le) hle59) hlek61) hle142) hle154)), (hr105.mono (Pin.le_trans (Pin.le_trans (Pin.le_trans (Pin.le_trans (Pin.le_trans (Pin.le_trans hle10 hlek16) hx53.le) hle59) hlek61) hle142) hle154)), (hr111.mono (Pin.le_trans (Pin.le_trans (Pin.le_trans (Pin.le_trans (Pin.le_trans (Pin.le_trans hle10 hlek16) hx53.le) hle59) hlek61) hle142) hle154)), (hr112.mono (Pin.le_trans (Pin.le_trans (Pin.le_trans (Pin.le_trans (Pin.le_trans (Pin.le_trans hle10 hlek16) hx53.le) hle59) hlek61) hle142) hle154)), (hbp144.mono hle154), (hbp156.mono (Pin.le_refl _))⟩)
 refine (drOp1 (i := 12) rfl rfl rfl (want_none rfl _) (o_alloc [(.slice none 0 0), (.slice none 0 0)] zr62 rfl hX101.pins (fun b158 w159 hk160 hb161 hp162 hl163 => ?_)))
 have hX164 := hX101.step hp162 hl163
 have hlo165 : w.heap.size ≤ b158 := by have := hX101.size; omega
 refine ⟨fun _ => hX164.pins, ?_⟩
 refine dr_one (i := 11) (by kernel_rfl) (drOp1 (i := 11) rfl rfl rfl (want_none rfl _) (o_alloc [(.slice none 0 0), (.slice none 0 0)] zr62 rfl hX164.pins (fun b166 w167 hk168 hb169 hp170 hl171 => ?_)))
 have hX172 := hX164.step hp170 hl171
 have hb173 := hb161.below hl171
 have ha174 : Apart (some b166) (some b158) := new_ne_box (congrArg some hk168) hb161.lt
 have hlo175 : w.heap.size ≤ b166 := by have := hX164.size; omega
 refine ⟨fun _ => hX172.pins, ?_⟩
 refine dr_one (i := 13) (by kernel_rfl) (drOp0 (i := 13) rfl rfl rfl (want_none rfl _) (o_stp (cs' := [u102, u103]) (us := [u102, u103]) (v := (.agg [u102, u103].toArray)) sz62 rfl rfl rfl (ones2 hr104.one hr105.one) hX172.pins hb169 (Nat.le_of_ble_eq_true rfl) rfl (fun w176 hb177 hp178 hg179 hz180 => ?_)))
 have hX181 := hX172.write hp178 hg179 ((lo_box hlo175))
 have hb182 := hb173.keptA hg179 ha174.symm
 obtain ⟨G183, hle184, hX185, hbp186, hf187⟩ := hb177.shut hX181 hlo175
 have hb188 := hb182.moreA hf187 ha174.symm
 refine ⟨fun _ => (Pins.of_le hX185.pins hle184), ?_⟩
 refine dr_one (i := 14) (by kernel_rfl) (drOp0 (i := 14) rfl rfl rfl (want_none rfl _) (o_stp (cs' := [u109, u110]) (us := [u109, u110]) (v := (.agg [u109, u110].toArray)) sz62 rfl rfl rfl (ones2 hr111.one hr112.one) hX185.pins hb188 (Nat.le_of_ble_eq_true rfl) rfl (fun w189 hb190 hp191 hg192 hz193 => ?_)))
 have hX194 := hX185.write hp191 hg192 ((lo_box hlo165))
 obtain ⟨G195, hle196, hX197, hbp198, hf199⟩ := hb190.shut hX194 hlo165
 refine ⟨fun h => absurd rfl h, ?_⟩
 exact dr_end (by kernel_rfl) (cut_in ⟨_, b166, u102, u103, b158, u109, u110, G195, (packS (x := 8) (packS (x := 7) (packS (x := 6) (packS (x := 5) (pack1 (x := 1) rfl) rfl) rfl) rfl) rfl), hX197, (Pin.le_trans hle184 hle196), (hr104.mono (Pin.le_trans (Pin.le_trans (Pin.le_trans (Pin.le_trans (Pin.le_trans (Pin.le_trans hle10 hlek16) hx53.le) hle59) hlek61) hle184) hle196)), (hr105.mono (Pin.le_trans (Pin.le_trans (Pin.le_trans (Pin.le_trans (Pin.le_trans (Pin.le_trans hle10 hlek16) hx53.le) hle59) hlek61) hle184) hle196)), (hr111.mono (Pin.le_trans (Pin.le_trans (Pin.le_trans (Pin.le_trans (Pin.le_trans (Pin.le_trans hle10 hlek16) hx53.le) hle59) hlek61) hle184) hle196)), (hr112.mono (Pin.le_trans (Pin.le_trans (Pin.le_trans (Pin.le_trans (Pin.le_trans (Pin.le_trans hle10 hlek16) hx53.le) hle59) hlek61) hle184) hle196)), (hbp186.mono hle196), (hbp198.mono (Pin.le_refl _))⟩)
 refine wp_exit (s_thenE (s_lopE (s_blkE (s_then (s_seq (c_reg ?_))))))
 refine qd rfl rfl rfl (r_fldp (k := 0) rfl Try.underlying33 rfl nz31 rfl) (qd rfl rfl rfl (r_ldp1 (u := v) ag31 rfl ((Pins.of_le hX64.pins (Pin.le_trans (Pin.le_trans (Pin.le_trans hlek16 hx53.le) hle59) hlek61)) _ _ _ (hbp12 0 _ rfl))) (qd rfl rfl rfl (r_fldp (k := 0) rfl Try.underlying33 rfl nz31 rfl) (qd rfl rfl rfl (r_ldp1 (u := v) ag31 rfl ((Pins.of_le hX64.pins (Pin.le_trans (Pin.le_trans (Pin.le_trans hlek16 hx53.le) hle59) hlek61)) _ _ _ (hbp12 0 _ rfl))) (qd rfl rfl rfl (run_len Try.underlying31 (v := v) rfl hv) (qd rfl rfl rfl (r_sub rfl rfl (by omega)) (q1 rfl rfl rfl (o_call (vs := [v, (.int .i64 ((ns.length : Int) - 1))]) Try.func45 nm45 rfl rfl rfl ?_)))))))
 refine Calls.mono (used_spec hX64.pins (hv.mono (Pin.le_trans (Pin.le_trans (Pin.le_trans (Pin.le_trans hle10 hlek16) hx53.le) hle59) hlek61)) (opts_ok hopts) (by omega)) ?_
 rintro _ w202 ⟨u200, G201, rfl, ho203, hx204⟩
 refine ⟨_, rfl, ?_⟩
 have hX205 := hX64.tr hx204
 have ho206 : Own eBool 4 G201 w202 w.heap.size u200 (usedM ns ((ns.length : Int) - 1).toNat) := ho203.weaken hX64.size
 obtain ⟨G207, hle210, hX209, hr208, hf211⟩ := ho206.sealed hX205
 refine q1 rfl rfl rfl (o_call (vs := [u200, (.bool false)]) Try.func44 nm44 rfl rfl rfl ?_)
 refine Calls.mono (slContains_spec hX209.pins hr208) ?_
 rintro _ _ ⟨rfl, rfl⟩
 refine ⟨_, rfl, ?_⟩
 refine qd rfl rfl rfl (r_not rfl) (qd rfl rfl rfl (r_assign (v := (.bool (!(decide ((0 : Int) ≤ idxB (usedM ns ((ns.length : Int) - 1).toNat) false))))) rfl) (qe (s_then ?_)))
 exact wp_ret (s_ret (c_ret1 (v := (.bool (!(decide ((0 : Int) ≤ idxB (usedM ns ((ns.length : Int) - 1).toNat) false))))) rfl rfl rfl (⟨_, congrArg (fun z => Ending.returned (Value.bool z)) (goodB_used (by omega) (by omega) (by omega) hopts (fun k h1 h2 => hsr k h1 (by omega))).symm, hX209⟩)))

end B1
end Go.Proofs.Ytdleojbknkbpiaa
