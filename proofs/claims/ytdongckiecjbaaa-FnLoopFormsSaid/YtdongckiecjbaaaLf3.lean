/- Texts of this claim in one file: Deep, Text, Table, Part, Game, Den, Ord, Map, Key, Sort, Sg, Pool, Opts, Load, Great, Uniq, Dom, Rev, Canon, Red, Parts, Rank, SortF, Frm, Bud, Bkq, Sum, Make, Tiny, Num, Int2, Numb, OrdS, Fit, Win, Arena, Loopw, LitA, Draw, B1. -/
import Derived.Test.YtdongckiecjbaaaLf2
import Derived.Lib.SliceRun
import Derived.Lib.Join
import Derived.Carry
import Derived.MapKept
import Derived.Laws.BytesString
import Derived.Sort.Row
import Derived.Sort.Grow
import Derived.Lib.SlicesCompact
import Derived.Shelf.SlSortCmp.NoneTotal
import Derived.Lib.QuietBelow
import Derived.Test.YtdongckiecjbaaaChecked
namespace Go.GL
open Go Go.RowKit

def eVal : Elt Value where
 size := 1
 rep := fun _ cs v => cs = [v] ∧ v.oneCell' = true
 mono := fun _ h => h
 len := fun h => by rw [h.1]; rfl
 one := fun h u hu => by rw [h.1] at hu; simp at hu; subst hu; exact h.2
def eVal2 : Elt (Value × Value) where
 size := 2
 rep := fun _ cs p => cs = [p.1, p.2] ∧ p.1.oneCell' = true ∧ p.2.oneCell' = true
 mono := fun _ h => h
 len := fun h => by rw [h.1]; rfl
 one := fun h u hu => by
  rw [h.1] at hu; simp at hu
  rcases hu with rfl | rfl
  ·exact h.2.1
  ·exact h.2.2
theorem RSl.conv {α β : Type} {E : Elt α} {F : Elt β} {G : Pin} {v : Value} {xs : List α} {ys : List β} (h : RSl E G v xs) (hl : ys.length = xs.length) (hs : F.size = E.size) (hr : ∀ (i : Nat) x y cs, xs[i]? = some x → ys[i]? = some y → E.rep G cs x → F.rep G cs y) : RSl F G v ys := by
 refine ⟨?_, fun i y hy => ?_⟩
 ·obtain ⟨a, c, h1, h2, h3⟩ := h.sl
  exact ⟨a, c, by rw [hl]; exact h1, by rw [hl]; exact h2, h3⟩
 ·have hi : i < xs.length := by have := (List.getElem?_eq_some_iff.1 hy).1; omega
  obtain ⟨a, b, o, n, c, cs, h1, h2, h3, h4⟩ := h.at_ i _ (List.getElem?_eq_getElem hi)
  exact ⟨a, b, o, n, c, cs, h1, by rw [hs]; exact h2, hr i _ y cs (List.getElem?_eq_getElem hi) hy h3, h4⟩

abbrev Leaf := Value × List Int
structure Lvs (e : Nat) (G : Pin) (w : World) (lo hi : Nat) (L : List Leaf) : Prop where
 own : ∀ p ∈ L, Own eInt e G w lo p.1 p.2
 hi : ∀ p ∈ L, ∀ k, p.1.ownBlock = some k → k < hi
 ap : L.Pairwise fun p q => Apart p.1.ownBlock q.1.ownBlock
def ApL (L : List Leaf) (x : Option Nat) : Prop := ∀ p ∈ L, Apart p.1.ownBlock x
section
variable {e lo hi : Nat} {G G' : Pin} {w w' : World} {L L' : List Leaf}
theorem Lvs.nil : Lvs e G w lo hi [] := ⟨fun _ hp => (List.not_mem_nil hp).elim, fun _ hp => (List.not_mem_nil hp).elim, List.Pairwise.nil⟩
theorem ApL.nil {x : Option Nat} : ApL [] x := fun _ hp => (List.not_mem_nil hp).elim
theorem Lvs.map (h : Lvs e G w lo hi L) (f : ∀ p ∈ L, Own eInt e G w lo p.1 p.2 → Own eInt e G' w' lo p.1 p.2) : Lvs e G' w' lo hi L := ⟨fun p hp => f p hp (h.own p hp), h.hi, h.ap⟩
theorem Lvs.below (h : Lvs e G w lo hi L) (hb : Below w.heap.size w w') : Lvs e G w' lo hi L := h.map fun _ _ ho => ho.below hb
theorem Lvs.ext (h : Lvs e G w lo hi L) (hx : Ext noS G w G' w') : Lvs e G' w' lo hi L := h.map fun _ _ ho => ho.ext hx
theorem Lvs.extS {S : Nat → Prop} (h : Lvs e G w lo hi L) (hx : Ext S G w G' w') (hS : ∀ k, lo ≤ k → k < hi → ¬ S k) : Lvs e G' w' lo hi L :=
 h.map fun p hp ho => ho.extS hx fun k hk => hS k (ho.lt k hk).1 (h.hi p hp k hk)
theorem Lvs.kept {row : Option Nat} (h : Lvs e G w lo hi L) (hg : w.grownBy w' row) (ha : ApL L row) : Lvs e G w' lo hi L := h.map fun p hp ho => ho.keptA hg (ha p hp)
theorem Lvs.more {b : Nat} (h : Lvs e G w lo hi L) (hl : Pin.le G G') (hf : ∀ k o u, G' k o u → G k o u ∨ k = b) (ha : ApL L (some b)) : Lvs e G' w lo hi L := h.map fun p hp ho => ho.moreA hl hf (ha p hp)
theorem Lvs.top (h : Lvs e G w lo hi L) : Lvs e G w lo w.heap.size L := ⟨h.own, fun p hp k hk => ((h.own p hp).lt k hk).2, h.ap⟩
theorem Lvs.perm (h : Lvs e G w lo hi L) (hp : L.Perm L') : Lvs e G w lo hi L' :=
 ⟨fun p hq => h.own p (hp.mem_iff.2 hq), fun p hq => h.hi p (hp.mem_iff.2 hq), (hp.pairwise_iff (fun {a b} (x : Apart a.1.ownBlock b.1.ownBlock) => x.symm)).1 h.ap⟩
theorem ApL.perm {x : Option Nat} (h : ApL L x) (hp : L.Perm L') : ApL L' x := fun p hq => h p (hp.mem_iff.2 hq)
theorem Lvs.add {u : Value} {xs : List Int} (h : Lvs e G w lo w.heap.size L) (ho : Own eInt e G w lo u xs) (ha : ApL L u.ownBlock) : Lvs e G w lo w.heap.size (L ++ [(u, xs)]) := by
 refine ⟨fun p hp => ?_, fun p hp k hk => ?_, ?_⟩
 ·rcases List.mem_append.1 hp with h1 | h1
  ·exact h.own p h1
  ·simp at h1; subst h1; exact ho
 ·rcases List.mem_append.1 hp with h1 | h1
  ·exact h.hi p h1 k hk
  ·simp at h1; subst h1; exact (ho.lt k hk).2
 ·refine List.pairwise_append.2 ⟨h.ap, by simp, fun a ha' b hb => ?_⟩
  simp at hb; subst hb; exact ha a ha'
theorem ApL.add {u : Value} {xs : List Int} {x : Option Nat} (h : ApL L x) (hu : Apart u.ownBlock x) : ApL (L ++ [(u, xs)]) x := fun p hp => by
 rcases List.mem_append.1 hp with h1 | h1
 ·exact h p h1
 ·simp at h1; subst h1; exact hu
theorem ApL.fresh {x : Option Nat} (h : Lvs e G w lo hi L) (hx : ∀ k, x = some k → w.heap.size ≤ k) : ApL L x := fun p hp k hk hk' => by
 have h1 := ((h.own p hp).lt k hk).2; have h2 := hx k hk'; omega
theorem ApL.app {u v : Value} (h : Lvs e G w lo hi L) (ha : ApL L u.ownBlock) (hw : v.ownBlock = u.ownBlock ∨ ∃ k, v.ownBlock = some k ∧ w.heap.size ≤ k) : ApL L v.ownBlock := fun p hp =>
 app_ne_own (ha p hp) hw (fun k hk => (h.own p hp).lt k hk)
def GLv (G : Pin) (w : World) (L : List Leaf) : Pin := fun b o u => G b o u ∨ ((∃ p ∈ L, p.1.ownBlock = some b) ∧ w.cell? ⟨b, o, none⟩ = some u)
theorem GLv.le : Pin.le G (GLv G w L) := fun _ _ _ h => Or.inl h
theorem GLv.pins (h : Pins G w) : Pins (GLv G w L) w := fun b o u hu => by
 rcases hu with hu | hu
 ·exact h b o u hu
 ·exact hu.2
theorem Lvs.read (h : Lvs e G w lo hi L) {p : Leaf} (hp : p ∈ L) : RSl eInt (GLv G w L) p.1 p.2 :=
 (h.own p hp).read.mono fun b o u hu => by
  rcases hu with h1 | h1
  ·exact Or.inl h1
  ·exact Or.inr ⟨⟨p, hp, h1.1⟩, h1.2⟩
end


def lvN (ps : List (Value × Value)) (ns : List Nd) : List Leaf := (ps.zip ns).flatMap fun q => [(q.1.1, q.2.l), (q.1.2, q.2.r)]
structure DForm (en e : Nat) (G : Pin) (w : World) (lo hi : Nat) (v : Value) (ns : List Nd) : Prop where
 ex : ∃ ps, ps.length = ns.length ∧ Own eVal2 en G w lo v ps ∧ (∀ k, v.ownBlock = some k → k < hi) ∧ Lvs e G w lo hi (lvN ps ns) ∧ ApL (lvN ps ns) v.ownBlock
theorem lvN_snoc (ps : List (Value × Value)) (ns : List Nd) (p : Value × Value) (n : Nd) (h : ps.length = ns.length) : lvN (ps ++ [p]) (ns ++ [n]) = lvN ps ns ++ [(p.1, n.l)] ++ [(p.2, n.r)] := by
 unfold lvN
 rw [List.zip_append h, List.flatMap_append, List.append_assoc]; rfl
section
variable {en e lo hi : Nat} {G G' : Pin} {w w' : World} {v : Value} {ns : List Nd}
end


def lvL (us : List Value) (xss : List (List Int)) : List Leaf := us.zip xss
structure DLoop (er e : Nat) (G : Pin) (w : World) (lo hi : Nat) (u v : Value) (ls rs : List (List Int)) : Prop where
 ex : ∃ us vs, us.length = ls.length ∧ vs.length = rs.length ∧ Own eVal er G w lo u us ∧ Own eVal er G w lo v vs ∧ (∀ k, u.ownBlock = some k → k < hi) ∧ (∀ k, v.ownBlock = some k → k < hi) ∧ Lvs e G w lo hi (lvL us ls ++ lvL vs rs) ∧
  ApL (lvL us ls ++ lvL vs rs) u.ownBlock ∧ ApL (lvL us ls ++ lvL vs rs) v.ownBlock ∧ Apart u.ownBlock v.ownBlock
section
variable {er e lo hi : Nat} {G G' : Pin} {w w' : World} {u v : Value} {ls rs : List (List Int)}
theorem rows_read {us : List Value} {xss : List (List Int)} {G : Pin} (hr : RSl eVal G v us) (hl : us.length = xss.length) (hk : ∀ p ∈ lvL us xss, RSl eInt G p.1 p.2) : RSl (eSl eInt) G v xss :=
 hr.conv hl.symm rfl fun i u xs cs hu hx hrep => by
  obtain ⟨rfl, _⟩ := hrep
  exact ⟨u, rfl, hk (u, xs) (List.mem_of_getElem? (i := i) (by unfold lvL; rw [List.getElem?_zip_eq_some]; exact ⟨hu, hx⟩))⟩
theorem DLoop.read (h : DLoop er e G w lo hi u v ls rs) (hP : Pins G w) : ∃ G', Pin.le G G' ∧ Pins G' w ∧ RSl (eSl eInt) G' u ls ∧ RSl (eSl eInt) G' v rs ∧ ∀ b o x, G' b o x → G b o x ∨ lo ≤ b := by
 obtain ⟨us, vs, h1, h2, h3, h4, h5, h6, h7, h8, h9, h10⟩ := h.ex
 have hl1 : Pin.le (Gadd G w u) (Gadd (Gadd G w u) w v) := Gadd.le _ _ _
 have key : ∀ q ∈ lvL us ls ++ lvL vs rs, RSl eInt (GLv (Gadd (Gadd G w u) w v) w (lvL us ls ++ lvL vs rs)) q.1 q.2 := fun q hq =>
  (h7.read hq).mono fun b o u hu => by
   rcases hu with a | a
   ·exact Or.inl (Or.inl (Or.inl a))
   ·exact Or.inr a
 refine ⟨GLv (Gadd (Gadd G w u) w v) w (lvL us ls ++ lvL vs rs), Pin.le_trans (Pin.le_trans (Gadd.le _ _ _) hl1) GLv.le, GLv.pins (Gadd.pins (Gadd.pins hP u) v), ?_, ?_, fun b o x hx => ?_⟩
 rotate_left
 rotate_left
 ·rcases hx with ((a | a) | a) | a
  ·exact Or.inl a
  ·exact Or.inr (h3.lt b a.1).1
  ·exact Or.inr (h4.lt b a.1).1
  ·obtain ⟨⟨p, hp, hk⟩, _⟩ := a
   exact Or.inr ((h7.own p hp).lt b hk).1
 ·exact rows_read ((h3.read.mono hl1).mono GLv.le) h1 fun p hp => key p (List.mem_append_left _ hp)
 ·refine rows_read ((h4.read.mono fun b o u hu => ?_).mono GLv.le) h2 fun p hp => key p (List.mem_append_right _ hp)
  rcases hu with a | a
  ·exact Or.inl (Or.inl a)
  ·exact Or.inr a
end


theorem Own.up {α : Type} {E : Elt α} {e base lo : Nat} {G : Pin} {w : World} {v : Value} {xs : List α} (h : Own E e G w base v xs) (hl : ∀ k, v.ownBlock = some k → lo ≤ k) : Own E e G w lo v xs := by
 obtain ⟨cells, ⟨hc, hown⟩, hr⟩ := h.ex
 refine ⟨⟨cells, ⟨hc, ?_⟩, hr⟩, h.free⟩
 rcases hown with hn | ⟨g, cap, cur, h1, h2, h3⟩
 ·exact .inl hn
 ·exact .inr ⟨g, cap, cur, h1, hl g (by rw [h1]; rfl), h3⟩
def inR (lo hi : Nat) (k : Nat) : Prop := lo ≤ k ∧ k < hi
section
variable {P : Program} {ρ : Operand → Value} {w : World} {d : Option Nat} {t e ty t' : Nat} {pos : String} {aft : Array Edge} {g : Option (Nat × Bool)} {x y : Operand}
def nilSl : Value → Bool
 | .slice none _ _ => true
 | _ => false
theorem r_eqlNil {α : Type} {E : Elt α} {G : Pin} {v : Value} {xs : List α} (ht : P.underlying t = some (.slice e)) (hv : RSl E G v xs) (hx : ρ x = v) (hy : ρ y = .slice none 0 0) :
  (execOp ρ ⟨d, .binOp .eql t x y t', ty, pos, aft, g⟩).run P w = .ok (.value (.bool (nilSl v))) w := by
 obtain ⟨a, c, rfl, _⟩ := hv.sl
 have h := Go.Lib.run_eql_slice_nil (P := P) w t e a xs.length c 0 0 ht
 simp only [execOp, hx, hy]
 cases a <;> simp [eqGuard, nilSl, h]
theorem nil_of {α : Type} {E : Elt α} {G : Pin} {v : Value} {xs : List α} (hv : RSl E G v xs) (h : nilSl v = true) : xs = [] := by
 match xs, hv with
 | [], _ => rfl
 | x :: r, hv =>
  obtain ⟨a, b, o, n, c, cs, h1, _⟩ := hv.at_ 0 x rfl
  rw [h1] at h; cases h
end
theorem c_retct {P : Program} {n : Nat} {env : Nat → Value} {w : World} {fn : Func} {R : Ending → World → Prop} {s t b i : Nat} {cs : List Value} {v : Value} (hr : fn.results = #[.cell s t, .tmp i]) (hs : Nat.blt s n = true) (hi : Nat.blt i n = true) (hv : env s = .pointer (some ⟨b, 0, none⟩)) (hiv : env i = v) (ha : (P.underlying t).map aggD = some true) (hz : (P.info? t).map (·.size) = some cs.length)
  (hc : ∀ j u, cs[j]? = some u → w.cell? ⟨b, 0 + j, none⟩ = some u) (h : R (.returned (.tuple #[.agg cs.toArray, v])) w) : bodyPost P fn R .ret (F n env) w := by
 have h2 : s < n := by simpa [Nat.blt_eq] using hs
 have h3 : i < n := by simpa [Nat.blt_eq] using hi
 have hcell : ∀ j u, cs[j]? = some u → w.cell? ((⟨b, 0, none⟩ : Addr).add j) = some u := fun j u hj => by
  have := hc j u hj
  simp only [Addr.add]
  split
  ·simp_all
  ·exact this
 have hlv : (loadVar t ⟨b, 0, none⟩).run P w = .ok (.agg cs.toArray) w := by
  unfold loadVar
  simp only [Sem.run_bind, run_isAgg ha, Result.andThen_ok, if_true, run_sizeOf hz, run_loadCells_list (P := P) w ⟨b, 0, none⟩ cs hcell, Sem.run_pure]
 refine bodyPost_ret (v := .tuple #[.agg cs.toArray, v]) ?_ rfl h
 have he : (F n env).tmps[s]?.getD undef = .pointer (some ⟨b, 0, none⟩) := by simp [F, h2, hv]
 have he2 : (F n env).tmps[i]?.getD undef = v := by simp [F, h3, hiv]
 simp [results, hr, he, he2, asAddr, hlv]


def inV (us : List Value) (k : Nat) : Prop := ∃ u ∈ us, u.ownBlock = some k
section
variable {e lo hi : Nat} {G G' : Pin} {w w' : World} {L L1 L2 : List Leaf}
end
theorem lvN_perm : ∀ {us vs : List Value} {ns : List Nd}, us.length = ns.length → vs.length = ns.length → (lvN (us.zip vs) ns).Perm (lvL us (ns.map Nd.l) ++ lvL vs (ns.map Nd.r))
 | [], [], [], _, _ => List.Perm.refl _
 | u :: us, v :: vs, n :: ns, h1, h2 => by
  have ih := lvN_perm (us := us) (vs := vs) (ns := ns) (by simpa using h1) (by simpa using h2)
  have e1 : lvN ((u :: us).zip (v :: vs)) (n :: ns) = (u, n.l) :: (v, n.r) :: lvN (us.zip vs) ns := rfl
  have e2 : lvL (u :: us) ((n :: ns).map Nd.l) ++ lvL (v :: vs) ((n :: ns).map Nd.r) = (u, n.l) :: (lvL us (ns.map Nd.l) ++ (v, n.r) :: lvL vs (ns.map Nd.r)) := rfl
  rw [e1, e2]
  exact List.Perm.cons _ ((List.Perm.cons _ ih).trans List.perm_middle.symm)
 | [], v :: vs, [], _, h2 => by cases h2
 | u :: us, _, [], h1, _ => by cases h1
 | [], _, n :: ns, h1, _ => by cases h1
 | u :: us, [], n :: ns, _, h2 => by cases h2
theorem lvN_zip {us vs : List Value} {ns : List Nd} {j : Nat} {LV : List Leaf} {u v : Value} (h : LV = lvN (us.zip vs) (ns.take j)) (hj : j < ns.length) (h1 : us.length = j) (h2 : vs.length = j) :
  LV ++ [(u, (ns.getD j default).l)] ++ [(v, (ns.getD j default).r)] = lvN ((us ++ [u]).zip (vs ++ [v])) (ns.take (j + 1)) := by
 subst h
 rw [take_snoc ns default hj, List.zip_append (by omega), List.zip_cons_cons, List.zip_nil_right, lvN_snoc _ _ _ _ (by simp; omega)]


noncomputable def lpOk (ns : List Nd) : Bool := goodB ns && decide (ns.length ≤ 36)
noncomputable def lpL (ns : List Nd) : List (List Int) := if lpOk ns = true then ns.map Nd.l else []
noncomputable def lpR (ns : List Nd) : List (List Int) := if lpOk ns = true then ns.map Nd.r else []
theorem lp_no {ns : List Nd} (h : goodB ns = false ∨ (36 : Int) < (ns.length : Int)) : lpOk ns = false ∧ lpL ns = [] ∧ lpR ns = [] := by
 have : lpOk ns = false := by
  unfold lpOk
  rcases h with h | h
  ·rw [h]; rfl
  ·rw [decide_eq_false (by omega)]; simp
 exact ⟨this, by unfold lpL; rw [this]; rfl, by unfold lpR; rw [this]; rfl⟩
theorem lp_yes {ns : List Nd} (h1 : goodB ns = true) (h2 : ¬ (36 : Int) < (ns.length : Int)) : lpOk ns = true ∧ lpL ns = ns.map Nd.l ∧ lpR ns = ns.map Nd.r := by
 have : lpOk ns = true := by unfold lpOk; rw [h1, decide_eq_true (by omega)]; rfl
 exact ⟨this, by unfold lpL; rw [this]; rfl, by unfold lpR; rw [this]; rfl⟩

section
variable {en er e lo hi lo' hi' : Nat} {G Gx G' : Pin} {w w' : World} {u v : Value} {ns : List Nd} {ls rs : List (List Int)}
theorem deep_back (hP : Pins G w) (hx : Ext noS Gx w G' w') : Ext noS G w G w' := ⟨Pin.le_refl _, hP.below hx.below, fun _ _ _ h => Or.inl h, hx.os, hx.tape, hx.output, hx.size, hx.block⟩
theorem DLoop.give (h : DLoop er e G' w' w.heap.size w'.heap.size u v ls rs) (hx : Ext noS G w G' w') : ∃ G'', RSl (eSl eInt) G'' u ls ∧ RSl (eSl eInt) G'' v rs ∧ Ext noS G w G'' w' := by
 obtain ⟨G'', h1, h2, h3, h4, h5⟩ := h.read hx.pins
 refine ⟨G'', h3, h4, Pin.le_trans hx.le h1, h2, fun b o x hb => ?_, hx.os, hx.tape, hx.output, hx.size, hx.block⟩
 rcases h5 b o x hb with a | a
 ·exact hx.fresh b o x a
 ·exact Or.inr a
end
end Go.GL

namespace Go.GL
open Go Go.RowKit

section
variable {P : Program} {ρ : Operand → Value} {w : World} {d : Option Nat} {t e ty : Nat} {pos : String} {aft : Array Edge} {g : Option (Nat × Bool)} {x y : Operand}
theorem r_neqB_same {t' : Nat} {p : Bool} (ht : P.underlying t = some .bool) (hx : ρ x = .bool p) (hy : ρ y = .bool p) : (execOp ρ ⟨d, .binOp .neq t x y t', ty, pos, aft, g⟩).run P w = .ok (.value (.bool false)) w := by
 rw [r_neqB ht hx hy]; simp
end

section
variable {P : Program} {ρ : Operand → Value} {w : World} {K : Value → World → Prop} {d : Option Nat} {t ty : Nat} {pos : String} {aft : Array Edge} {g : Option (Nat × Bool)} {x y : Operand} {G : Pin}
end




theorem GoodP.optsOk {ns : List Nd} (hg : GoodP ns) : OptsOk ns := opts_ok hg.opts
theorem goodOpts_len {l : List Int} {b : Int} (h : goodOpts l b = true) : l.length ≤ 24 := by
 unfold goodOpts at h
 split at h
 ·cases h
 ·omega
theorem GoodP.lenl {ns : List Nd} (hg : GoodP ns) {i : Nat} (hi : i < ns.length) : (ns.getD i default).l.length ≤ 24 := goodOpts_len (hg.opts i hi).1
theorem GoodP.lenr {ns : List Nd} (hg : GoodP ns) {i : Nat} (hi : i < ns.length) : (ns.getD i default).r.length ≤ 24 := goodOpts_len (hg.opts i hi).2
end Go.GL

namespace Go.GL
open Go Go.RowKit


section
variable {en e lo hi : Nat} {G G' : Pin} {w w' : World} {v : Value} {ns : List Nd}
theorem DForm.extS {S : Nat → Prop} (h : DForm en e G w lo hi v ns) (hx : Ext S G w G' w') (hS : ∀ k, lo ≤ k → k < hi → ¬ S k) : DForm en e G' w' lo hi v ns := by
 obtain ⟨ps, h1, h2, h3, h4, h5⟩ := h.ex
 exact ⟨⟨ps, h1, h2.extS hx (fun k hk => hS k (h2.lt k hk).1 (h3 k hk)), h3, h4.extS hx hS, h5⟩⟩
end


def DCh (en e : Nat) (G : Pin) (w : World) (R : Option Nat) : Nat → Nat → List Value → List (List Nd) → Prop
 | lo, hi, [], [] => lo ≤ hi
 | lo, hi, u :: us, f :: fs => ∃ l m, lo ≤ l ∧ l ≤ m ∧ (∀ b, R = some b → m ≤ b ∨ b < l) ∧ DForm en e G w l m u f ∧ DCh en e G w R m hi us fs
 | _, _, _, _ => False
section
variable {en e : Nat} {G G' : Pin} {w w' : World} {R R' : Option Nat}
theorem DCh.le : ∀ {lo hi : Nat} {us : List Value} {fs : List (List Nd)}, DCh en e G w R lo hi us fs → lo ≤ hi
 | _, _, [], [], h => h
 | _, _, _ :: _, _ :: _, ⟨_, _, h1, h2, _, _, h3⟩ => Nat.le_trans (Nat.le_trans h1 h2) h3.le
 | _, _, [], _ :: _, h => h.elim
 | _, _, _ :: _, [], h => h.elim
theorem DCh.map : ∀ {lo hi : Nat} {us : List Value} {fs : List (List Nd)}, DCh en e G w R lo hi us fs → (∀ l m u f, lo ≤ l → m ≤ hi → (∀ b, R = some b → m ≤ b ∨ b < l) → DForm en e G w l m u f → DForm en e G' w' l m u f) → DCh en e G' w' R lo hi us fs
 | _, _, [], [], h, _ => h
 | lo, hi, u :: us, f :: fs, ⟨l, m, h1, h0, hr, h2, h3⟩, hf => ⟨l, m, h1, h0, hr, hf _ _ _ _ h1 h3.le hr h2, h3.map fun l k u f hl hk hd => hf l k u f (by omega) hk hd⟩
 | _, _, [], _ :: _, h, _ => h.elim
 | _, _, _ :: _, [], h, _ => h.elim
end
section
variable {en ef e lo hi lo' hi' : Nat} {G G' : Pin} {w w' : World} {v : Value} {fs : List (List Nd)}
end



theorem good_form {ns : List Nd} (hg : GoodP ns) : FormOk ns := formOk_of (good_iff.2 hg).fits (good_iff.2 hg).rise


section
variable {P : Program} {ρ : Operand → Value} {w : World} {K : Value → World → Prop} {d : Option Nat} {t ty e : Nat} {pos : String} {aft : Array Edge} {g : Option (Nat × Bool)} {x y : Operand} {G : Pin} {v : Value}
end


section
variable {en ef e lo hi lo' hi' : Nat} {G G' : Pin} {w w' : World} {v : Value} {ns : List Nd} {us : List Value} {fs : List (List Nd)} {R : Option Nat}
theorem DCh.at : ∀ {lo hi j : Nat} {us : List Value} {fs : List (List Nd)}, DCh en e G w R lo hi us fs → j < fs.length → ∃ l m, lo ≤ l ∧ m ≤ hi ∧ (∀ b, R = some b → m ≤ b ∨ b < l) ∧ DForm en e G w l m (us.getD j default) (fs.getD j []) ∧
  ∀ {w' : World} {f' : List Nd}, Ext (inR l m) G w G w' → DForm en e G w' l m (us.getD j default) f' → DCh en e G w' R lo hi us (fs.set j f')
 | lo, hi, 0, u :: us, f :: fs, ⟨l, m, h1, h0, hr, h2, h3⟩, _ => ⟨l, m, h1, h3.le, hr, h2, fun hx hd => ⟨l, m, h1, h0, hr, hd, h3.map fun _ _ _ _ hl _ _ hq => hq.extS hx fun k h5 _ h7 => by have := h7.2; omega⟩⟩
 | lo, hi, j + 1, u :: us, f :: fs, ⟨l0, m0, h1, h0, hr, h2, h3⟩, hj => by
  obtain ⟨l, k, a1, a2, a3, a4, a5⟩ := h3.at (j := j) (by simpa using hj)
  exact ⟨l, k, by omega, a2, a3, by simpa using a4, fun hx hd => ⟨l0, m0, h1, h0, hr, h2.extS hx fun q _ h6 h7 => by have := h7.1; omega, a5 hx (by simpa using hd)⟩⟩
 | _, _, _, [], [], _, hj => (by simp at hj)
 | _, _, _, [], _ :: _, h, _ => h.elim
 | _, _, _, _ :: _, [], h, _ => h.elim
end

section
variable {α : Type} {E : Elt α} {e lo hi lo' hi' : Nat} {G G' : Pin} {w w' : World} {v : Value} {xs : List α}
end
section
variable {P : Program} {ρ : Operand → Value} {w : World} {K : Value → World → Prop} {d : Option Nat} {t ty e : Nat} {pos : String} {aft : Array Edge} {g : Option (Nat × Bool)} {x y : Operand} {G : Pin} {v : Value}
end
end Go.GL

namespace Go.GL

theorem setAll_mono {l : List Int} {k : Nat} : ∀ {is : List Bool}, is.getD k false = true → (setAll is l).getD k false = true := by
 induction l with
 | nil => intro is h; exact h
 | cons x r ih =>
  intro is h
  refine ih (is := is.set x.toNat true) ?_
  rw [List.getD, List.getElem?_set]
  split
  ·split
   ·rfl
   ·rename_i h1 h2; subst h1; simp [List.getD, Nat.le_of_not_lt h2] at h
  ·exact h
theorem setAll_mem {l : List Int} {k : Int} : ∀ {is : List Bool}, k ∈ l → k.toNat < is.length → (setAll is l).getD k.toNat false = true := by
 induction l with
 | nil => intro is h; cases h
 | cons x r ih =>
  intro is h hk
  cases h with
  | head => exact setAll_mono (is := is.set k.toNat true) (by simp [List.getD, hk])
  | tail _ h => exact ih (is := is.set x.toNat true) h (by simpa using hk)
theorem setAll_other {l : List Int} {z : Nat} : ∀ {is : List Bool}, (∀ k ∈ l, k.toNat ≠ z) → (setAll is l).getD z false = is.getD z false := by
 induction l with
 | nil => intro is _; rfl
 | cons x r ih =>
  intro is h
  have h1 := ih (is := is.set x.toNat true) fun k hk => h k (List.mem_cons_of_mem _ hk)
  have h2 := h x List.mem_cons_self
  refine h1.trans ?_
  simp [List.getD, List.getElem?_set_ne h2]
theorem ustep_mono {ns : List Nd} {is : List Bool} {i k : Nat} (h : is.getD k false = true) : (ustep ns is i).getD k false = true := by
 unfold ustep; split
 ·exact setAll_mono (setAll_mono h)
 ·exact h
theorem ugo_mono {ns : List Nd} : ∀ {q : Nat} {is : List Bool} {k : Nat}, is.getD k false = true → (ugo ns q is).getD k false = true
 | 0, _, _, h => h
 | q + 1, is, _, h => ugo_mono (q := q) (is := ustep ns is q) (ustep_mono h)
section
variable {ns : List Nd} (ho : OptsOk ns)
include ho
theorem ustep_keep {is : List Bool} {i z : Nat} (hi : i < ns.length) (hz : i ≤ z) : (ustep ns is i).getD z false = is.getD z false := by
 have o := optsAt ho hi
 unfold ustep; split
 ·rw [setAll_other fun k hk => by have := o.2 k hk; omega, setAll_other fun k hk => by have := o.1 k hk; omega]
 ·rfl
theorem ugo_keep : ∀ {q : Nat} {is : List Bool} {z : Nat}, q ≤ ns.length → q ≤ z + 1 → (ugo ns q is).getD z false = is.getD z false
 | 0, _, _, _, _ => rfl
 | q + 1, is, z, h, hz => (ugo_keep (q := q) (is := ustep ns is q) (by omega) (by omega)).trans (ustep_keep ho (by omega) (by omega))
theorem ugo_closed : ∀ {q : Nat} {is : List Bool}, q ≤ ns.length → q ≤ is.length → ∀ z, z < q → (ugo ns q is).getD z false = true →
  (∀ o ∈ (ns.getD z default).l, (ugo ns q is).getD o.toNat false = true) ∧ (∀ o ∈ (ns.getD z default).r, (ugo ns q is).getD o.toNat false = true)
 | 0, _, _, _, z, hz, _ => absurd hz (Nat.not_lt_zero z)
 | q + 1, is, h, hl, z, hz, hu => by
  have hul : (ustep ns is q).length = is.length := by
   unfold ustep; split
   ·rw [setAll_length, setAll_length]
   ·rfl
  by_cases he : z = q
  ·subst he
   have hu2 : is.getD z false = true := by
    rw [← ustep_keep ho (i := z) (z := z) (is := is) (by omega) (Nat.le_refl _), ← ugo_keep ho (q := z) (is := ustep ns is z) (by omega) (by omega)]
    exact hu
   have o := optsAt ho (k := z) (by omega)
   have e : ustep ns is z = setAll (setAll is (ns.getD z default).l) (ns.getD z default).r := ustep_yes hu2
   refine ⟨fun x hx => ugo_mono (q := z) (is := ustep ns is z) ?_, fun x hx => ugo_mono (q := z) (is := ustep ns is z) ?_⟩
   ·rw [e]; exact setAll_mono (setAll_mem hx (by have := o.1 x hx; omega))
   ·rw [e]; exact setAll_mem hx (by rw [setAll_length]; have := o.2 x hx; omega)
  ·exact ugo_closed (q := q) (is := ustep ns is q) (by omega) (by omega) z (by omega) hu
end



theorem asc_ext : ∀ {a b : List Int}, a.Pairwise (· < ·) → b.Pairwise (· < ·) → (∀ z, z ∈ a ↔ z ∈ b) → a = b
 | [], [], _, _, _ => rfl
 | [], y :: b, _, _, h => by have := (h y).2 List.mem_cons_self; cases this
 | x :: a, [], _, _, h => by have := (h x).1 List.mem_cons_self; cases this
 | x :: a, y :: b, ha, hb, h => by
  have ha' := List.pairwise_cons.1 ha; have hb' := List.pairwise_cons.1 hb
  have e : x = y := by
   have h1 := (h x).1 List.mem_cons_self; have h2 := (h y).2 List.mem_cons_self
   cases h1 with
   | head => rfl
   | tail _ h1 =>
    cases h2 with
    | head => rfl
    | tail _ h2 => have := ha'.1 y h2; have := hb'.1 x h1; omega
  subst e
  congr 1
  refine asc_ext ha'.2 hb'.2 fun z => ⟨fun hz => ?_, fun hz => ?_⟩
  ·have := (h z).1 (List.mem_cons_of_mem _ hz)
   cases this with
   | head => have := ha'.1 _ hz; omega
   | tail _ h1 => exact h1
  ·have := (h z).2 (List.mem_cons_of_mem _ hz)
   cases this with
   | head => have := hb'.1 _ hz; omega
   | tail _ h1 => exact h1

end Go.GL

namespace Go.GL
def loG (g i : Nat) : Prop := g.testBit (2 * i) = true
def roG (g i : Nat) : Prop := g.testBit (2 * i + 1) = true
theorem bit_lt {g k : Nat} (h : g.testBit k = true) : k < g := Nat.lt_of_lt_of_le Nat.lt_two_pow_self (Nat.ge_two_pow_of_testBit h)
theorem loG.lt {g i : Nat} (h : loG g i) : i < g := by have := bit_lt h; omega
theorem roG.lt {g i : Nat} (h : roG g i) : i < g := by have := bit_lt h; omega
theorem gext {a b : Nat} (hl : ∀ i, loG a i ↔ loG b i) (hr : ∀ i, roG a i ↔ roG b i) : a = b := by
 apply Nat.eq_of_testBit_eq
 intro k
 rcases Nat.mod_two_eq_zero_or_one k with h | h
 ·have e : k = 2 * (k / 2) := by omega
  have := hl (k / 2)
  unfold loG at this
  rw [← e] at this
  exact Bool.eq_iff_iff.2 this
 ·have e : k = 2 * (k / 2) + 1 := by omega
  have := hr (k / 2)
  unfold roG at this
  rw [← e] at this
  exact Bool.eq_iff_iff.2 this
def lefts (g : Nat) : List Nat := (List.range g).filter fun i => g.testBit (2 * i)
def rights (g : Nat) : List Nat := (List.range g).filter fun i => g.testBit (2 * i + 1)
theorem memG_l {g i : Nat} : i ∈ lefts g ↔ loG g i := by
 unfold lefts
 rw [List.mem_filter, List.mem_range]
 exact ⟨fun h => h.2, fun h => ⟨loG.lt h, h⟩⟩
theorem memG_r {g i : Nat} : i ∈ rights g ↔ roG g i := by
 unfold rights
 rw [List.mem_filter, List.mem_range]
 exact ⟨fun h => h.2, fun h => ⟨roG.lt h, h⟩⟩
def bitsG : List Nat → Nat
 | [] => 0
 | k :: l => 2 ^ k ||| bitsG l
theorem bits_at {k : Nat} : ∀ {l : List Nat}, (bitsG l).testBit k = true ↔ k ∈ l
 | [] => by simp [bitsG]
 | x :: l => by
  unfold bitsG
  rw [Nat.testBit_or, Bool.or_eq_true, bits_at (l := l), Nat.testBit_two_pow]
  simp only [decide_eq_true_eq, List.mem_cons]
  constructor
  ·rintro (h | h)
   ·exact Or.inl h.symm
   ·exact Or.inr h
  ·rintro (h | h)
   ·exact Or.inl h.symm
   ·exact Or.inr h
def mkG (l r : List Nat) : Nat := bitsG (l.map (2 * ·) ++ r.map (2 * · + 1))
theorem lo_mk {l r : List Nat} {i : Nat} : loG (mkG l r) i ↔ i ∈ l := by
 unfold loG mkG
 rw [bits_at, List.mem_append, List.mem_map, List.mem_map]
 constructor
 ·rintro (⟨a, ha, e⟩ | ⟨a, ha, e⟩)
  ·have : a = i := by omega
   rwa [← this]
  ·omega
 ·exact fun h => Or.inl ⟨i, h, rfl⟩
theorem ro_mk {l r : List Nat} {i : Nat} : roG (mkG l r) i ↔ i ∈ r := by
 unfold roG mkG
 rw [bits_at, List.mem_append, List.mem_map, List.mem_map]
 constructor
 ·rintro (⟨a, ha, e⟩ | ⟨a, ha, e⟩)
  ·omega
  ·have : a = i := by omega
   rwa [← this]
 ·exact fun h => Or.inr ⟨i, h, rfl⟩
theorem mk_congr {l r l' r' : List Nat} (hl : ∀ i, i ∈ l ↔ i ∈ l') (hr : ∀ i, i ∈ r ↔ i ∈ r') : mkG l r = mkG l' r' :=
 gext (fun i => by rw [lo_mk, lo_mk]; exact hl i) (fun i => by rw [ro_mk, ro_mk]; exact hr i)

def geG (a b : Nat) : Prop := (∀ r, (_h : roG a r) → ¬ geG b r) ∧ (∀ l, (_h : loG b l) → ¬ geG l a)
termination_by a + b
decreasing_by
 ·have := _h.lt; omega
 ·have := _h.lt; omega
theorem ge_iff {a b : Nat} : geG a b ↔ (∀ r, roG a r → ¬ geG b r) ∧ (∀ l, loG b l → ¬ geG l a) := by
 rw [geG]
theorem ge_not {a b : Nat} (h : ¬ geG a b) : (∃ r, roG a r ∧ geG b r) ∨ ∃ l, loG b l ∧ geG l a := by
 rw [ge_iff] at h
 by_cases h1 : ∃ r, roG a r ∧ geG b r
 ·exact Or.inl h1
 ·right
  apply Classical.byContradiction
  intro h2
  exact h ⟨fun r hr hg => h1 ⟨r, hr, hg⟩, fun l hl hg => h2 ⟨l, hl, hg⟩⟩
def eqG (a b : Nat) : Prop := geG a b ∧ geG b a

def negG (g : Nat) : Nat := mkG ((rights g).attach.map fun ⟨i, _h⟩ => negG i) ((lefts g).attach.map fun ⟨i, _h⟩ => negG i)
termination_by g
decreasing_by
 ·exact (memG_r.1 _h).lt
 ·exact (memG_l.1 _h).lt
def addG (a b : Nat) : Nat :=
 mkG (((lefts a).attach.map fun ⟨i, _h⟩ => addG i b) ++ (lefts b).attach.map fun ⟨i, _h⟩ => addG a i)
  (((rights a).attach.map fun ⟨i, _h⟩ => addG i b) ++ (rights b).attach.map fun ⟨i, _h⟩ => addG a i)
termination_by a + b
decreasing_by
 ·have := (memG_l.1 _h).lt; omega
 ·have := (memG_l.1 _h).lt; omega
 ·have := (memG_r.1 _h).lt; omega
 ·have := (memG_r.1 _h).lt; omega
theorem lo_zero {i : Nat} : ¬ loG 0 i := fun h => absurd h.lt (by omega)
theorem ro_zero {i : Nat} : ¬ roG 0 i := fun h => absurd h.lt (by omega)


def NoDom (g : Nat) : Prop := (∀ a b, loG g a → loG g b → geG a b → a = b) ∧ (∀ a b, roG g a → roG g b → geG a b → a = b)
def NoRev (g : Nat) : Prop := (∀ l r, loG g l → roG l r → ¬ geG g r) ∧ (∀ r l, roG g r → loG r l → ¬ geG l g)
def CanonG (g : Nat) : Prop := NoDom g ∧ NoRev g ∧ (∀ l, (_h : loG g l) → CanonG l) ∧ (∀ r, (_h : roG g r) → CanonG r)
termination_by g
decreasing_by
 ·exact _h.lt
 ·exact _h.lt
end Go.GL

namespace Go.GL
def stepD (acc : List Nat) (n : Nd) : List Nat := acc ++ [mkG (n.l.map fun z => acc.getD z.toNat 0) (n.r.map fun z => acc.getD z.toNat 0)]
def dens (ns : List Nd) : List Nat := ns.foldl stepD []
def den (ns : List Nd) (k : Nat) : Nat := (dens ns).getD k 0
theorem fold_len : ∀ (ns : List Nd) (acc : List Nat), (ns.foldl stepD acc).length = acc.length + ns.length
 | [], acc => by simp
 | n :: ns, acc => by rw [List.foldl_cons, fold_len ns]; simp [stepD]; omega
theorem fold_pre : ∀ (ns : List Nd) (acc : List Nat) (k : Nat), k < acc.length → (ns.foldl stepD acc).getD k 0 = acc.getD k 0
 | [], acc, k, h => rfl
 | n :: ns, acc, k, h => by
  rw [List.foldl_cons, fold_pre ns _ k (by simp [stepD]; omega)]
  exact getD_append_left h
theorem den_app {ns ms : List Nd} {k : Nat} (h : k < ns.length) : den (ns ++ ms) k = den ns k := by
 unfold den dens
 rw [List.foldl_append]
 exact fold_pre _ _ _ (by rw [fold_len]; simpa using h)
theorem den_take {ns : List Nd} {k m : Nat} (h : k < m) (hm : m ≤ ns.length) : den (ns.take m) k = den ns k := by
 have := den_app (ns := ns.take m) (ms := ns.drop m) (k := k) (by simp; omega)
 rw [List.take_append_drop] at this
 exact this.symm
theorem den_at {ns : List Nd} {k : Nat} (hk : k < ns.length) (hl : ∀ z ∈ (ns.getD k default).l, 0 ≤ z ∧ z < k) (hr : ∀ z ∈ (ns.getD k default).r, 0 ≤ z ∧ z < k) :
  den ns k = mkG ((ns.getD k default).l.map fun z => den ns z.toNat) ((ns.getD k default).r.map fun z => den ns z.toNat) := by
 rw [← den_take (m := k + 1) (by omega) (by omega), take_snoc ns default hk]
 unfold den dens
 rw [List.foldl_append]
 have hlen : ((ns.take k).foldl stepD []).length = k := by rw [fold_len]; simp; omega
 have e0 : ∀ (A : List Nat) (n : Nd), List.foldl stepD A [n] = A ++ [mkG (n.l.map fun z => A.getD z.toNat 0) (n.r.map fun z => A.getD z.toNat 0)] := fun _ _ => rfl
 rw [e0, getD_append_self hlen.symm]
 have e : ∀ z : Int, 0 ≤ z ∧ z < k → (List.foldl stepD [] (ns.take k)).getD z.toNat 0 = (List.foldl stepD [] ns).getD z.toNat 0 := fun z hz => den_take (ns := ns) (k := z.toNat) (m := k) (by omega) (by omega)
 rw [List.map_congr_left (g := fun z => (List.foldl stepD [] ns).getD z.toNat 0) fun z hz => e z (hl z hz)]
 rw [List.map_congr_left (l := (ns.getD k default).r) (g := fun z => (List.foldl stepD [] ns).getD z.toNat 0) fun z hz => e z (hr z hz)]
theorem den_opt {ns : List Nd} (ho : OptsOk ns) {k : Nat} (hk : k < ns.length) :
  den ns k = mkG ((ns.getD k default).l.map fun z => den ns z.toNat) ((ns.getD k default).r.map fun z => den ns z.toNat) := den_at hk (optsAt ho hk).1 (optsAt ho hk).2
theorem lo_den {ns : List Nd} (ho : OptsOk ns) {k x : Nat} (hk : k < ns.length) : loG (den ns k) x ↔ ∃ z ∈ (ns.getD k default).l, x = den ns z.toNat := by
 rw [den_opt ho hk, lo_mk, List.mem_map]
 exact ⟨fun ⟨z, h1, h2⟩ => ⟨z, h1, h2.symm⟩, fun ⟨z, h1, h2⟩ => ⟨z, h1, h2.symm⟩⟩
theorem ro_den {ns : List Nd} (ho : OptsOk ns) {k x : Nat} (hk : k < ns.length) : roG (den ns k) x ↔ ∃ z ∈ (ns.getD k default).r, x = den ns z.toNat := by
 rw [den_opt ho hk, ro_mk, List.mem_map]
 exact ⟨fun ⟨z, h1, h2⟩ => ⟨z, h1, h2.symm⟩, fun ⟨z, h1, h2⟩ => ⟨z, h1, h2.symm⟩⟩


structure Ar (ns : List Nd) (bs : List Int) : Prop where
 ok : BookOk ns bs
 rise : ∀ i, i < ns.length → (ns.getD i default).l.Pairwise (· < ·) ∧ (ns.getD i default).r.Pairwise (· < ·)
 diff : Diff ns
 born : BirthsOf ns bs
theorem Ar.opts {ns : List Nd} {bs : List Int} (h : Ar ns bs) : OptsOk ns := h.ok.optsOk
theorem Ar.empty : Ar [] [] := ⟨book_empty, fun i hi => absurd hi (Nat.not_lt_zero i), fun _ j _ hj => absurd hj (Nat.not_lt_zero j), rfl, fun k hk => absurd hk (Nat.not_lt_zero k)⟩
theorem den_inj_n {ns : List Nd} (ho : OptsOk ns) (hr : ∀ i, i < ns.length → (ns.getD i default).l.Pairwise (· < ·) ∧ (ns.getD i default).r.Pairwise (· < ·)) (hd : Diff ns) :
  ∀ (n i j : Nat), i + j ≤ n → i < ns.length → j < ns.length → den ns i = den ns j → i = j
 | 0, i, j, hn, _, _, _ => by omega
 | n + 1, i, j, hn, hi, hj, he => by
  have key : ∀ a b, a + b ≤ n + 1 → a < ns.length → b < ns.length → den ns a = den ns b → (∀ z ∈ (ns.getD a default).l, z ∈ (ns.getD b default).l) ∧ (∀ z ∈ (ns.getD a default).r, z ∈ (ns.getD b default).r) := by
   intro a b hab ha hb e
   have oa := optsAt ho ha
   have ob := optsAt ho hb
   constructor
   ·intro z hz
    have h1 : loG (den ns a) (den ns z.toNat) := (lo_den ho ha).2 ⟨z, hz, rfl⟩
    rw [e] at h1
    obtain ⟨y, hy, e2⟩ := (lo_den ho hb).1 h1
    have z1 := oa.1 z hz
    have y1 := ob.1 y hy
    have := den_inj_n ho hr hd n z.toNat y.toNat (by omega) (by omega) (by omega) e2
    have : z = y := by omega
    rwa [this]
   ·intro z hz
    have h1 : roG (den ns a) (den ns z.toNat) := (ro_den ho ha).2 ⟨z, hz, rfl⟩
    rw [e] at h1
    obtain ⟨y, hy, e2⟩ := (ro_den ho hb).1 h1
    have z1 := oa.2 z hz
    have y1 := ob.2 y hy
    have := den_inj_n ho hr hd n z.toNat y.toNat (by omega) (by omega) (by omega) e2
    have : z = y := by omega
    rwa [this]
  have k1 := key i j hn hi hj he
  have k2 := key j i (by omega) hj hi he.symm
  have el := asc_ext (hr i hi).1 (hr j hj).1 fun z => ⟨k1.1 z, k2.1 z⟩
  have er := asc_ext (hr i hi).2 (hr j hj).2 fun z => ⟨k1.2 z, k2.2 z⟩
  have e := nd_ext el er
  rcases Nat.lt_trichotomy i j with h | h | h
  ·exact absurd e (hd i j h hj)
  ·exact h
  ·exact absurd e.symm (hd j i h hi)
theorem Ar.inj {ns : List Nd} {bs : List Int} (h : Ar ns bs) {i j : Nat} (hi : i < ns.length) (hj : j < ns.length) (he : den ns i = den ns j) : i = j := den_inj_n h.opts h.rise h.diff _ i j (Nat.le_refl _) hi hj he
theorem putL_rise {n : Int} : ∀ {l : List Int}, l.Pairwise (· < ·) → (putL l n).Pairwise (· < ·)
 | [], _ => by simp [putL]
 | x :: r, h => by
  have h' := List.pairwise_cons.1 h
  unfold putL
  split
  ·rename_i hx
   refine List.pairwise_cons.2 ⟨fun k hk => ?_, putL_rise h'.2⟩
   rcases mem_putL.1 hk with rfl | hk
   ·exact hx
   ·exact h'.1 k hk
  ·split
   ·exact h
   ·rename_i h1 h2
    refine List.pairwise_cons.2 ⟨fun k hk => ?_, h⟩
    rcases List.mem_cons.1 hk with rfl | hk
    ·omega
    ·have := h'.1 k hk; omega
theorem sortL_rise (l : List Int) : (sortL l).Pairwise (· < ·) := by
 have key : ∀ (l a : List Int), a.Pairwise (· < ·) → (l.foldl putL a).Pairwise (· < ·) := by
  intro l
  induction l with
  | nil => intro a h; exact h
  | cons x r ih => intro a h; exact ih _ (putL_rise h)
 exact key l [] List.Pairwise.nil
theorem bornOf_le {bs : List Int} {m : Int} : ∀ {l : List Int} {b : Int}, bornOf bs l b ≤ m ↔ b ≤ m ∧ ∀ k ∈ l, bs.getD k.toNat 0 + 1 ≤ m
 | [], b => by simp [bornOf]
 | x :: r, b => by
  have e : bornOf bs (x :: r) b = bornOf bs r (max b (bs.getD x.toNat 0 + 1)) := rfl
  rw [e, bornOf_le (l := r)]
  simp only [List.mem_cons, forall_eq_or_imp]
  constructor
  ·rintro ⟨h1, h2⟩; exact ⟨by omega, by omega, h2⟩
  ·rintro ⟨h1, h2, h3⟩; exact ⟨by omega, h3⟩
theorem putBorn_le {bs l r : List Int} {m : Int} : putBorn bs l r ≤ m ↔ 0 ≤ m ∧ (∀ k ∈ l, bs.getD k.toNat 0 + 1 ≤ m) ∧ ∀ k ∈ r, bs.getD k.toNat 0 + 1 ≤ m := by
 unfold putBorn
 rw [bornOf_le, bornOf_le, and_assoc]
theorem putBorn_sort {bs l r : List Int} : putBorn bs (sortL l) (sortL r) = putBorn bs l r := by
 apply Int.le_antisymm
 ·rw [putBorn_le]
  have := putBorn_le (bs := bs) (l := l) (r := r).1 (Int.le_refl _)
  exact ⟨this.1, fun k hk => this.2.1 k (mem_sortL.1 hk), fun k hk => this.2.2 k (mem_sortL.1 hk)⟩
 ·rw [putBorn_le]
  have := putBorn_le (bs := bs) (l := sortL l) (r := sortL r).1 (Int.le_refl _)
  exact ⟨this.1, fun k hk => this.2.1 k (mem_sortL.2 hk), fun k hk => this.2.2 k (mem_sortL.2 hk)⟩
theorem Ar.put {ns : List Nd} {bs xs ys : List Int} (h : Ar ns bs) (hl : ns.length + 1 ≤ 1048576) (hls : xs.length ≤ 1048576 ∧ ys.length ≤ 1048576) (h1 : ∀ i, i < xs.length → 0 ≤ xs.getD i 0 ∧ xs.getD i 0 < ns.length) (h2 : ∀ i, i < ys.length → 0 ≤ ys.getD i 0 ∧ ys.getD i 0 < ns.length) :
  Ar (putN ns bs xs ys) (putB ns bs xs ys) ∧ den (putN ns bs xs ys) (putK ns bs xs ys).toNat = mkG (xs.map fun z => den ns z.toNat) (ys.map fun z => den ns z.toNat) ∧ ∀ k, k < ns.length → den (putN ns bs xs ys) k = den ns k := by
 have hb := h.ok.put hl hls h1 h2
 have hm1 := mem_of_getD (P := fun k => 0 ≤ k ∧ k < (ns.length : Int)) h1
 have hm2 := mem_of_getD (P := fun k => 0 ≤ k ∧ k < (ns.length : Int)) h2
 have hsort : ∀ (f : Int → Nat), mkG ((sortL xs).map f) ((sortL ys).map f) = mkG (xs.map f) (ys.map f) := fun f => mk_congr
  (fun i => by simp only [List.mem_map, mem_sortL]) (fun i => by simp only [List.mem_map, mem_sortL])
 unfold putN putB putK at hb ⊢
 cases hf : findK ns bs (putNd xs ys) (putBorn bs xs ys) with
 | some k =>
  rw [hf] at hb
  simp only at hb ⊢
  have hmem := List.mem_of_find?_eq_some hf
  have hdec := List.find?_some hf
  have hk : k < ns.length := by simpa using hmem
  have hd : bs.getD k 0 = putBorn bs xs ys ∧ (ns.getD k default).l = sortL xs ∧ (ns.getD k default).r = sortL ys := of_decide_eq_true hdec
  refine ⟨h, ?_, fun k _ => by trivial⟩
  rw [Int.toNat_natCast, den_opt h.opts hk, hd.2.1, hd.2.2]
  exact hsort _
 | none =>
  rw [hf] at hb
  simp only at hb ⊢
  have hlen := h.ok.len
  have hnew : ∀ i, i < ns.length → ns.getD i default ≠ putNd xs ys := fun i hi e => by
   have hn := List.find?_eq_none.1 hf i (List.mem_range.2 hi)
   apply hn
   refine decide_eq_true ⟨?_, by rw [e], by rw [e]⟩
   rw [h.born.2 i hi, e]
   exact putBorn_sort
  have hat : ∀ i, i < ns.length → (ns ++ [putNd xs ys]).getD i default = ns.getD i default := fun i hi => getD_append_left hi
  have hself : (ns ++ [putNd xs ys]).getD ns.length default = putNd xs ys := getD_append_self rfl
  have hlast : ∀ i, i < (ns ++ [putNd xs ys]).length → i < ns.length ∨ i = ns.length := fun i hi => by simp at hi; omega
  have hbat : ∀ i, i < ns.length → (bs ++ [putBorn bs xs ys]).getD i 0 = bs.getD i 0 := fun i hi => getD_append_left (by omega)
  refine ⟨⟨hb.1, fun i hi => ?_, fun i j hij hj => ?_, by simp [hlen], fun k hk => ?_⟩, ?_, fun k hk => den_app hk⟩
  ·rcases hlast i hi with hi' | rfl
   ·rw [hat i hi']; exact h.rise i hi'
   ·rw [hself]; exact ⟨sortL_rise _, sortL_rise _⟩
  ·rcases hlast j hj with hj' | rfl
   ·rw [hat i (by omega), hat j hj']; exact h.diff i j hij hj'
   ·rw [hat i hij, hself]; exact hnew i hij
  ·rcases hlast k hk with hk' | rfl
   ·have ho := optsAt h.opts hk'
    rw [hat k hk', hbat k hk', h.born.2 k hk']
    exact putBorn_congr (fun z hz => (hbat z.toNat (by have := ho.1 z hz; omega)).symm) (fun z hz => (hbat z.toNat (by have := ho.2 z hz; omega)).symm)
   ·rw [hself, getD_append_self hlen.symm]
    refine putBorn_sort.symm.trans (putBorn_congr (fun z hz => (hbat z.toNat ?_).symm) (fun z hz => (hbat z.toNat ?_).symm))
    ·have := hm1 z (mem_sortL.1 hz); omega
    ·have := hm2 z (mem_sortL.1 hz); omega
  ·rw [Int.toNat_natCast, den_at (by simp) (by rw [hself]; exact fun z hz => hm1 z (mem_sortL.1 hz)) (by rw [hself]; exact fun z hz => hm2 z (mem_sortL.1 hz)), hself]
   have e : ∀ l : List Int, (∀ z ∈ l, 0 ≤ z ∧ z < (ns.length : Int)) → (sortL l).map (fun z => den (ns ++ [putNd xs ys]) z.toNat) = (sortL l).map fun z => den ns z.toNat := fun l hm =>
    List.map_congr_left fun z hz => den_app (by have := hm z (mem_sortL.1 hz); omega)
   have e1 : (putNd xs ys).l = sortL xs := rfl
   have e2 : (putNd xs ys).r = sortL ys := rfl
   rw [e1, e2, e xs hm1, e ys hm2]
   exact hsort _
structure AddD (ns : List Nd) (fs : List Nd) (k : Nat) (s : List Int × List Nd × List Int) : Prop where
 ar : Ar s.2.1 s.2.2
 is : ∀ i, i < k → den s.2.1 (s.1.getD i 0).toNat = den fs i
 old : ∀ i, i < ns.length → den s.2.1 i = den ns i
theorem addM_den {ns : List Nd} {bs : List Int} {fs : List Nd} (h : Ar ns bs) (hf : FormOk fs) (hl : ns.length + fs.length ≤ 1048576) : ∀ k, k ≤ fs.length → AddD ns fs k (addM ns bs (fs.take k)) := by
 intro k
 induction k with
 | zero => intro _; exact ⟨h, fun i hi => absurd hi (Nat.not_lt_zero i), fun i _ => rfl⟩
 | succ k ih =>
  intro hk
  have ih := ih (by omega)
  have ha := addM_ok h.ok hf hl k (by omega)
  rw [addM_next (by omega)]
  generalize addM ns bs (fs.take k) = s at ih ha
  obtain ⟨asx, ns2, bs2⟩ := s
  have a1 := ha.at1 hf (show k < fs.length by omega)
  have hhi := ha.hi
  simp only at hhi
  have hp := ih.ar.put (xs := atL asx (fs.getD k default).l) (ys := atL asx (fs.getD k default).r) (by simp only; omega) (by have := hf.lens k (by omega); rw [at_length, at_length]; omega) (at_bounds ha.places a1.1) (at_bounds ha.places a1.2)
  have hlo := ha.lo
  have hal := ha.len
  simp only at hp ih hlo hal
  refine ⟨hp.1, fun i hi => ?_, fun i hi => ?_⟩
  ·show den (putN ns2 bs2 _ _) ((asx ++ [_]).getD i 0).toNat = den fs i
   by_cases he : i < k
   ·rw [getD_append_left (by omega), hp.2.2 _ (by have := ha.places i (by simp only; omega); simp only at this; omega)]
    exact ih.is i he
   ·have e : i = k := by omega
    subst e
    rw [getD_append_self hal.symm, hp.2.1, den_opt hf.opts (by omega)]
    have oo := optsAt hf.opts (show i < fs.length by omega)
    have em : ∀ l : List Int, (∀ z ∈ l, 0 ≤ z ∧ z < (i : Int)) → (atL asx l).map (fun z => den ns2 z.toNat) = l.map fun z => den fs z.toNat := fun l hm => by
     unfold atL
     rw [List.map_map]
     exact List.map_congr_left fun z hz => ih.is z.toNat (by have := hm z hz; omega)
    rw [em _ oo.1, em _ oo.2]
  ·show den (putN ns2 bs2 _ _) i = den ns i
   rw [hp.2.2 i (by omega)]
   exact ih.old i hi
theorem Ar.add {ns : List Nd} {bs : List Int} {fs : List Nd} (h : Ar ns bs) (hf : FormOk fs) (hl : ns.length + fs.length ≤ 1048576) : AddD ns fs fs.length (addM ns bs fs) := by
 have := addM_den h hf hl fs.length (Nat.le_refl _)
 rwa [List.take_length] at this
def gOf (fs : List Nd) : Nat := den fs (fs.length - 1)
theorem Ar.root {ns : List Nd} {bs : List Int} {fs : List Nd} (h : Ar ns bs) (hf : FormOk fs) (h1 : 1 ≤ fs.length) (hl : ns.length + fs.length ≤ 1048576) : den (addM ns bs fs).2.1 (rootM ns bs fs).toNat = gOf fs := by
 unfold rootM gOf
 have ha := addM_all h.ok hf hl
 rw [ha.len]
 exact (h.add hf hl).is _ (by omega)
end Go.GL

namespace Go.GL
open Go Go.RowKit
def inO (x : Option Nat) (k : Nat) : Prop := x = some k
theorem notO {x y : Option Nat} (h : Apart x y) : ∀ k, x = some k → ¬ inO y k := fun k hx hy => h k hx hy
theorem notOb {c : Nat} {y : Option Nat} (h : Apart (some c) y) : ¬ inO y c := fun hy => h c rfl hy
theorem lo_self {w : World} {x : Option Nat} : Lo w (inO x) x := fun _ hk => Or.inr hk

end Go.GL

namespace Go.GL
open Go Go.RowKit


section
variable {κ ν : Type} [DecidableEq κ]
def look (l : List (κ × ν)) (k : κ) : Option ν := (l.find? fun p => decide (p.1 = k)).map (·.2)
end


section
variable {P : Program}
end


section
variable {κ ν : Type} {enc : κ → Value} {val : ν → Value} {w w' : World} {m : Nat} {l : List (κ × ν)}
end
section
variable {P : Program} {ρ : Operand → Value} {w : World} {K : Value → World → Prop} {d : Option Nat} {t kt et ty : Nat} {pos : String} {aft : Array Edge} {g : Option (Nat × Bool)} {x y z : Operand} {G : Pin}
 {κ ν : Type} [DecidableEq κ] {enc : κ → Value} {val : ν → Value} {m : Nat} {l : List (κ × ν)}
end
end Go.GL

namespace Go.GL
open Go Go.RowKit
section
variable {P : Program} {ρ : Operand → Value} {w : World} {d : Option Nat} {t ty t' : Nat} {pos : String} {aft : Array Edge} {g : Option (Nat × Bool)} {x y c : Operand}
 {v u : Value} {i j : Int} {k : IntKind} {G : Pin} {K : Value → World → Prop}
theorem wrapU {n : Int} (h : 0 ≤ n ∧ n ≤ 18446744073709551615) : IntKind.u64.wrap n = n := by
 unfold IntKind.wrap
 simp only [IntKind.bits, IntKind.signed]
 have : n % (2 : Int) ^ 64 = n := Int.emod_eq_of_lt h.1 (by omega)
 simp only [this, Bool.false_and]
 rfl
theorem wrapI {n : Int} (h : -9223372036854775808 ≤ n ∧ n ≤ 9223372036854775807) : IntKind.i64.wrap n = n := by
 simp [IntWalk.i64_in n h]
theorem r_addU (hx : ρ x = .int .u64 i) (hy : ρ y = .int .u64 j) : (execOp ρ ⟨d, .binOp .add t x y t', ty, pos, aft, g⟩).run P w = .ok (.value (.int .u64 (IntKind.u64.wrap (i + j)))) w := by
 simp [execOp, hx, hy, binOp, eqGuard, Op.intArith]
theorem r_mulU (hx : ρ x = .int .u64 i) (hy : ρ y = .int .u64 j) : (execOp ρ ⟨d, .binOp .mul t x y t', ty, pos, aft, g⟩).run P w = .ok (.value (.int .u64 (IntKind.u64.wrap (i * j)))) w := by
 simp [execOp, hx, hy, binOp, eqGuard, Op.intArith]
theorem r_shrU (hx : ρ x = .int .u64 i) (hy : ρ y = .int .u64 j) (h0 : 0 ≤ j) : (execOp ρ ⟨d, .binOp .shr t x y t', ty, pos, aft, g⟩).run P w = .ok (.value (.int .u64 (i.fdiv (2 ^ (min j.toNat 64))))) w := by
 simp [execOp, hx, hy, binOp, eqGuard, Op.shift, show ¬ j < 0 by omega, IntKind.bits]
def andW (k : IntKind) (i j : Int) : Int := k.wrap (BitVec.ofInt k.bits i &&& BitVec.ofInt k.bits j).toNat
theorem r_and (hx : ρ x = .int k i) (hy : ρ y = .int k j) : (execOp ρ ⟨d, .binOp .and t x y t', ty, pos, aft, g⟩).run P w = .ok (.value (.int k (andW k i j))) w := by
 simp [execOp, hx, hy, binOp, eqGuard, Op.intBits, andW]
theorem low8_lt (i : Int) : 0 ≤ andW .u64 i 255 ∧ andW .u64 i 255 ≤ 255 := by
 have h : (BitVec.ofInt 64 i &&& BitVec.ofInt 64 255).toNat ≤ 255 := by
  rw [BitVec.toNat_and]
  exact Nat.le_trans Nat.and_le_right (by decide)
 have e : andW .u64 i 255 = ((BitVec.ofInt 64 i &&& BitVec.ofInt 64 255).toNat : Int) := wrapU ⟨by omega, by show ((BitVec.ofInt 64 i &&& BitVec.ofInt 64 255).toNat : Int) ≤ _; omega⟩
 rw [e]; omega
theorem r_conv {t2 : Nat} {k2 : IntKind} {td : TypeDesc} (hs : P.underlying t = some td) (hd : P.underlying t2 = some (.int k2)) (hx : ρ x = .int k i) (hw : k2.wrap i = j) : (execOp ρ ⟨d, .convert t t2 x, ty, pos, aft, g⟩).run P w = .ok (.value (.int k2 j)) w := by
 subst hw
 simp [execOp, hx, convert, run_underlying hs, run_underlying hd, Conv.intToInt]



def b2s (l : List UInt8) : ByteArray := ⟨l.toArray⟩
theorem b2s_inj {a b : List UInt8} (h : b2s a = b2s b) : a = b := by
 have := congrArg (fun x => x.data.toList) h
 simpa [b2s] using this

def digC (n : Nat) : UInt8 := if n < 10 then UInt8.ofNat (48 + n) else UInt8.ofNat (87 + n)
end
theorem digC_inj : ∀ a b : Fin 36, digC a.val = digC b.val → a = b := by decide
theorem digC_sep : ∀ a : Fin 36, digC a.val ≠ 44 ∧ digC a.val ≠ 124 := by decide
def dig36 (n : Nat) : List UInt8 := if _h : n < 36 then [digC n] else dig36 (n / 36) ++ [digC (n % 36)]
termination_by n
decreasing_by omega
theorem dig_lo {n : Nat} (h : n < 36) : dig36 n = [digC n] := by rw [dig36, dif_pos h]
theorem dig_hi {n : Nat} (h : ¬ n < 36) : dig36 n = dig36 (n / 36) ++ [digC (n % 36)] := by rw [dig36, dif_neg h]
theorem dig_pos (n : Nat) : 0 < (dig36 n).length := by
 by_cases h : n < 36
 ·rw [dig_lo h]; simp
 ·rw [dig_hi h]; simp
theorem dig_sep (n : Nat) : ∀ x ∈ dig36 n, x ≠ 44 ∧ x ≠ 124 := by
 induction n using Nat.strongRecOn with
 | _ n ih =>
  intro x hx
  by_cases h : n < 36
  ·rw [dig_lo h] at hx; simp at hx; subst hx; exact digC_sep ⟨n, h⟩
  ·rw [dig_hi h] at hx
   rcases List.mem_append.1 hx with hx | hx
   ·exact ih _ (by omega) x hx
   ·simp at hx; subst hx; exact digC_sep ⟨n % 36, by omega⟩
theorem dig_inj : ∀ (a b : Nat), dig36 a = dig36 b → a = b := by
 intro a
 induction a using Nat.strongRecOn with
 | _ a ih =>
  intro b h
  by_cases ha : a < 36 <;> by_cases hb : b < 36
  ·rw [dig_lo ha, dig_lo hb] at h
   have := digC_inj ⟨a, ha⟩ ⟨b, hb⟩ (by simpa using h)
   simpa using this
  ·rw [dig_lo ha, dig_hi hb] at h
   have h1 := congrArg List.length h
   have := dig_pos (b / 36)
   rw [List.length_append] at h1
   simp only [List.length_cons, List.length_nil] at h1; omega
  ·rw [dig_hi ha, dig_lo hb] at h
   have h1 := congrArg List.length h
   have := dig_pos (a / 36)
   rw [List.length_append] at h1
   simp only [List.length_cons, List.length_nil] at h1; omega
  ·rw [dig_hi ha, dig_hi hb] at h
   obtain ⟨h1, h2⟩ := List.append_inj' h rfl
   have e1 := ih (a / 36) (by omega) _ h1
   have e2 := digC_inj ⟨a % 36, by omega⟩ ⟨b % 36, by omega⟩ (by simpa using h2)
   simp at e2; omega

def keyL (l : List Int) : List UInt8 := l.flatMap fun z => dig36 z.toNat ++ [44]
def keyN (l r : List Int) : List UInt8 := keyL l ++ [124] ++ keyL r
theorem cut_at {s : UInt8} : ∀ {a b x y : List UInt8}, (∀ z ∈ a, z ≠ s) → (∀ z ∈ b, z ≠ s) → a ++ s :: x = b ++ s :: y → a = b ∧ x = y
 | [], [], _, _, _, _, h => by simpa using h
 | [], q :: b, _, _, _, hb, h => by simp at h; exact absurd h.1.symm (hb q List.mem_cons_self)
 | p :: a, [], _, _, ha, _, h => by simp at h; exact absurd h.1 (ha p List.mem_cons_self)
 | p :: a, q :: b, x, y, ha, hb, h => by
  simp only [List.cons_append, List.cons.injEq] at h
  obtain ⟨h1, h2⟩ := cut_at (a := a) (b := b) (fun z hz => ha z (List.mem_cons_of_mem _ hz)) (fun z hz => hb z (List.mem_cons_of_mem _ hz)) h.2
  exact ⟨by rw [h.1, h1], h2⟩
theorem keyL_cons (z : Int) (l : List Int) (x : List UInt8) : keyL (z :: l) ++ x = dig36 z.toNat ++ 44 :: (keyL l ++ x) := by simp [keyL]
theorem keyL_sep (l : List Int) : ∀ x ∈ keyL l, x ≠ 124 := fun x hx => by
 obtain ⟨z, _, hz⟩ := List.mem_flatMap.1 hx
 rcases List.mem_append.1 hz with hz | hz
 ·exact (dig_sep _ x hz).2
 ·simp at hz; subst hz; decide
theorem keyL_inj : ∀ {a b : List Int}, (∀ z ∈ a, 0 ≤ z) → (∀ z ∈ b, 0 ≤ z) → keyL a = keyL b → a = b
 | [], [], _, _, _ => rfl
 | [], z :: b, _, _, h => by
  have := congrArg List.length h
  simp [keyL] at this
 | z :: a, [], _, _, h => by
  have := congrArg List.length h
  simp [keyL] at this
 | z :: a, y :: b, ha, hb, h => by
  have e1 := keyL_cons z a []
  have e2 := keyL_cons y b []
  rw [List.append_nil, List.append_nil] at e1 e2
  rw [e1, e2] at h
  obtain ⟨h1, h2⟩ := cut_at (fun q hq => (dig_sep _ q hq).1) (fun q hq => (dig_sep _ q hq).1) h
  have := dig_inj _ _ h1
  have z0 := ha z List.mem_cons_self; have y0 := hb y List.mem_cons_self
  rw [keyL_inj (fun q hq => ha q (List.mem_cons_of_mem _ hq)) (fun q hq => hb q (List.mem_cons_of_mem _ hq)) h2, show z = y by omega]
theorem keyN_inj {a b c e : List Int} (ha : ∀ z ∈ a, 0 ≤ z) (hb : ∀ z ∈ b, 0 ≤ z) (hc : ∀ z ∈ c, 0 ≤ z) (he : ∀ z ∈ e, 0 ≤ z) (h : keyN a b = keyN c e) : a = c ∧ b = e := by
 unfold keyN at h
 rw [List.append_assoc, List.append_assoc] at h
 obtain ⟨h1, h2⟩ := cut_at (keyL_sep a) (keyL_sep c) h
 exact ⟨keyL_inj ha hc h1, keyL_inj hb he h2⟩

end Go.GL

namespace Go.GL
open Go Go.RowKit Go.Sort
theorem Ext.one {G : Pin} {w w' : World} {x : Option Nat} (hP : Pins G w') (hg : w.grownBy w' x) : Ext (inO x) G w G w' :=
 ⟨Pin.le_refl _, hP, fun _ _ _ h => Or.inl h, hg.os, hg.tape, hg.output, hg.size, fun k hk hs => hg.block k hk fun e => hs e.symm⟩


end Go.GL

namespace Go.GL
structure SG (ns : List Nd) : Prop where
 lo : 1 ≤ ns.length
 wf : Wf ns
 srt : SortedB ns (births ns)
 last : ∀ k : Nat, k + 1 < ns.length → ∃ j, k < j ∧ j < ns.length ∧ ((k : Int) ∈ (ns.getD j default).l ∨ (k : Int) ∈ (ns.getD j default).r)
theorem rise_pw {l : List Int} {hi : Int} (h : l.Pairwise (· < ·)) (hb : ∀ z ∈ l, 0 ≤ z ∧ z ≤ hi) : Rise l 0 hi := fun i hi' => by
 refine ⟨hb _ (getD_mem hi'), fun h0 => ?_⟩
 have := List.pairwise_iff_getElem.1 h (i - 1) i (by omega) hi' (by omega)
 simpa [List.getD, hi', show i - 1 < l.length by omega] using this
theorem pw_rise {l : List Int} {lo hi : Int} (h : Rise l lo hi) : l.Pairwise (· < ·) := by
 rw [List.pairwise_iff_getElem]
 intro i j hi hj hij
 have key : ∀ j, i < j → j < l.length → l.getD i 0 < l.getD j 0 := by
  intro j
  induction j with
  | zero => intro h0; omega
  | succ j ih =>
   intro h1 h2
   have a := (h (j + 1) h2).2 (by omega)
   simp only [Nat.add_sub_cancel] at a
   by_cases he : i = j
   ·subst he; exact a
   ·have := ih (by omega) (by omega); omega
 have := key j hij hj
 simpa [List.getD, hi, hj] using this
theorem SG.opts {ns : List Nd} (h : SG ns) : OptsOk ns := h.wf.ok.opts
theorem SG.pw {ns : List Nd} (h : SG ns) : ∀ i, i < ns.length → (ns.getD i default).l.Pairwise (· < ·) ∧ (ns.getD i default).r.Pairwise (· < ·) := fun i hi => ⟨pw_rise (h.wf.rise i hi).1, pw_rise (h.wf.rise i hi).2⟩
theorem SG.diff {ns : List Nd} (h : SG ns) : Diff ns := fun i j hij hj he => by
 have hb := births_of h.opts
 rcases h.srt i j hij hj with h1 | ⟨_, h1⟩
 ·rw [hb.2 i (by omega), hb.2 j hj, he] at h1; omega
 ·rw [ahead_zero.2 he] at h1; omega
theorem SG.inj {ns : List Nd} (h : SG ns) {i j : Nat} (hi : i < ns.length) (hj : j < ns.length) (he : den ns i = den ns j) : i = j := den_inj_n h.opts h.pw h.diff _ i j (Nat.le_refl _) hi hj he


theorem setAll_from {k : Nat} : ∀ {l : List Int} {is : List Bool}, (setAll is l).getD k false = true → is.getD k false = true ∨ ∃ z ∈ l, z.toNat = k
 | [], _, h => Or.inl h
 | x :: l, is, h => by
  rcases setAll_from (l := l) (is := is.set x.toNat true) h with h1 | ⟨z, hz, e⟩
  ·by_cases he : x.toNat = k
   ·exact Or.inr ⟨x, List.mem_cons_self, he⟩
   ·rw [set_getD_ne he] at h1; exact Or.inl h1
  ·exact Or.inr ⟨z, List.mem_cons_of_mem _ hz, e⟩
theorem ugo_from {ns : List Nd} {k : Nat} : ∀ {q : Nat} {is : List Bool}, (ugo ns q is).getD k false = true → is.getD k false = true ∨ ∃ j, j < q ∧ (ugo ns q is).getD j false = true ∧ ∃ z, (z ∈ (ns.getD j default).l ∨ z ∈ (ns.getD j default).r) ∧ z.toNat = k
 | 0, _, h => Or.inl h
 | q + 1, is, h => by
  rcases ugo_from (q := q) (is := ustep ns is q) h with h1 | ⟨j, hj, h2, h3⟩
  ·by_cases hq : is.getD q false = true
   ·rw [ustep_yes hq] at h1
    have hm : (ugo ns (q + 1) is).getD q false = true := ugo_mono hq
    rcases setAll_from h1 with h1 | ⟨z, hz, e⟩
    ·rcases setAll_from h1 with h1 | ⟨z, hz, e⟩
     ·exact Or.inl h1
     ·exact Or.inr ⟨q, by omega, hm, z, Or.inl hz, e⟩
    ·exact Or.inr ⟨q, by omega, hm, z, Or.inr hz, e⟩
   ·rw [ustep_no (by simpa using hq)] at h1; exact Or.inl h1
  ·exact Or.inr ⟨j, by omega, h2, h3⟩
theorem reach_from {ns : List Nd} {m k : Nat} (h : (reachM ns m).getD k false = true) : k = m ∨ ∃ j, j ≤ m ∧ (reachM ns m).getD j false = true ∧ ∃ z, (z ∈ (ns.getD j default).l ∨ z ∈ (ns.getD j default).r) ∧ z.toNat = k := by
 unfold reachM at h ⊢
 rcases ugo_from h with h1 | ⟨j, hj, h2⟩
 ·left
  by_cases he : m = k
  ·exact he.symm
  ·rw [set_getD_ne he] at h1
   simp [List.getD, List.getElem?_replicate] at h1
   split at h1 <;> simp at h1
 ·exact Or.inr ⟨j, by omega, h2⟩
theorem reach_self {ns : List Nd} {m : Nat} : (reachM ns m).getD m false = true := by
 unfold reachM
 exact ugo_mono (by simp [List.getD])
theorem reach_closed {ns : List Nd} (ho : OptsOk ns) {m : Nat} (hm : m < ns.length) {z : Nat} (hz : z ≤ m) (hu : (reachM ns m).getD z false = true) :
  (∀ o ∈ (ns.getD z default).l, (reachM ns m).getD o.toNat false = true) ∧ (∀ o ∈ (ns.getD z default).r, (reachM ns m).getD o.toNat false = true) :=
 ugo_closed ho (by omega) (by simp) z (by omega) hu
theorem lower_of {ns : List Nd} {bs : List Int} (ho : OptsOk ns) (hb : BirthsOf ns bs) : Lower ns bs := fun z hz => by
 have hb := hb.2 z hz
 have o := optsAt ho hz
 have h1 := born_ge (bs := bs) (l := (ns.getD z default).r) (b := bornOf bs (ns.getD z default).l 0)
 have h2 := born_ge (bs := bs) (l := (ns.getD z default).l) (b := 0)
 unfold putBorn at hb
 exact ⟨fun x hx => by have := o.1 x hx; have := h2.2 x hx; omega, fun x hx => by have := o.2 x hx; have := h1.2 x hx; omega⟩
theorem born_nn {ns : List Nd} {bs : List Int} (hb : BirthsOf ns bs) {z : Nat} (hz : z < ns.length) : 0 ≤ bs.getD z 0 := by
 rw [hb.2 z hz]
 exact (putBorn_le.1 (Int.le_refl _)).1
theorem bornOf_at {bs bs' A : List Int} : ∀ {l : List Int} {b : Int}, (∀ o ∈ l, bs'.getD (A.getD o.toNat 0).toNat 0 = bs.getD o.toNat 0) → bornOf bs' (atL A l) b = bornOf bs l b
 | [], _, _ => rfl
 | x :: l, b, h => by
  show bornOf bs' (atL A l) (max b (bs'.getD (A.getD x.toNat 0).toNat 0 + 1)) = bornOf bs l (max b (bs.getD x.toNat 0 + 1))
  rw [h x List.mem_cons_self]
  exact bornOf_at fun o ho => h o (List.mem_cons_of_mem _ ho)
theorem mem_atL {A l : List Int} {x : Int} : x ∈ atL A l ↔ ∃ o ∈ l, A.getD o.toNat 0 = x := by simp [atL]
theorem form_sg {ns : List Nd} {bs : List Int} (h : Ar ns bs) {m : Nat} (hm : m < ns.length) : SG (formM ns bs m) ∧ gOf (formM ns bs m) = den ns m ∧ (formM ns bs m).length ≤ m + 1 := by
  have ho := h.opts
  have hlw := lower_of ho h.born
  have hlen : (formM ns bs m).length ≤ m + 1 := by
    unfold formM
    rw [go_count]
    exact Nat.le_trans List.countP_le_length (by simp)
  have hlim := h.ok.lim
  obtain ⟨fa, go⟩ := go_ok (need := reachM ns m) hlw (show m + 1 ≤ ns.length by omega) ((bs.getD m 0).toNat + 1)
  have hbm := born_nn h.born hm
  unfold formM at hlen ⊢
  generalize formGo ns bs (reachM ns m) (m + 1) ((bs.getD m 0).toNat + 1) = s at go hlen
  obtain ⟨A, out⟩ := s
  have hmap : out = fa.map (ndz ns A) := go.map
  have hpos : ∀ p, p < fa.length → A.getD (fa.getD p 0).toNat 0 = p := go.pos
  have hN : out.length = fa.length := by rw [hmap]; simp
  simp only at hlen ⊢
  have hget : ∀ p, p < fa.length → out.getD p default = ndz ns A (fa.getD p 0) := fun p hp => by rw [hmap]; simp [List.getD, hp]
  have hmem : ∀ p, p < fa.length → 0 ≤ fa.getD p 0 ∧ fa.getD p 0 ≤ m ∧ (reachM ns m).getD (fa.getD p 0).toNat false = true ∧ bs.getD (fa.getD p 0).toNat 0 ≤ bs.getD m 0 := fun p hp => by
    have h1 := go.mem _ (getD_mem (d := (0 : Int)) hp)
    exact ⟨h1.1, by omega, go.nd _ (getD_mem hp), by omega⟩
  have hfind : ∀ z : Nat, z ≤ m → (reachM ns m).getD z false = true → bs.getD z 0 ≤ bs.getD m 0 → ∃ p, p < fa.length ∧ fa.getD p 0 = z ∧ A.getD z 0 = p := fun z hz h1 h2 => by
    obtain ⟨p, hp, e⟩ := List.getElem_of_mem (go.all z (by omega) h1 (born_nn h.born (by omega)) (by omega))
    have e2 : fa.getD p 0 = z := by simp [List.getD, hp, e]
    have := hpos p hp
    rw [e2] at this
    exact ⟨p, hp, e2, by simpa using this⟩
  have hord : ∀ p p', p < p' → p' < fa.length → bs.getD (fa.getD p 0).toNat 0 < bs.getD (fa.getD p' 0).toNat 0 ∨ (bs.getD (fa.getD p 0).toNat 0 = bs.getD (fa.getD p' 0).toNat 0 ∧ aheadI (ndz ns A (fa.getD p 0)) (ndz ns A (fa.getD p' 0)) ≤ 0) := fun p p' hpp hp' => by
    have := List.pairwise_iff_getElem.1 go.order p p' (by omega) hp' hpp
    simpa [List.getD, hp', show p < fa.length by omega] using this
  have hopt : ∀ p, p < fa.length → (∀ o ∈ (ns.getD (fa.getD p 0).toNat default).l, 0 ≤ o ∧ ∃ p', p' < p ∧ fa.getD p' 0 = o ∧ A.getD o.toNat 0 = p') ∧ (∀ o ∈ (ns.getD (fa.getD p 0).toNat default).r, 0 ≤ o ∧ ∃ p', p' < p ∧ fa.getD p' 0 = o ∧ A.getD o.toNat 0 = p') := fun p hp => by
    have hm1 := hmem p hp
    have hl1 := hlw (fa.getD p 0).toNat (by omega)
    have hc := reach_closed ho hm (z := (fa.getD p 0).toNat) (by omega) hm1.2.2.1
    have key : ∀ o : Int, 0 ≤ o → o < (fa.getD p 0).toNat → bs.getD o.toNat 0 < bs.getD (fa.getD p 0).toNat 0 → (reachM ns m).getD o.toNat false = true → ∃ p', p' < p ∧ fa.getD p' 0 = o ∧ A.getD o.toNat 0 = p' := fun o h0 h1 h2 h3 => by
      obtain ⟨p', hp', e1, e2⟩ := hfind o.toNat (by omega) h3 (by omega)
      have e1' : fa.getD p' 0 = o := by omega
      refine ⟨p', ?_, e1', e2⟩
      by_cases hlt : p' < p
      · exact hlt
      · by_cases he : p' = p
        · subst he; omega
        · rcases hord p p' (by omega) hp' with h4 | ⟨h4, _⟩ <;> rw [e1'] at h4 <;> omega
    exact ⟨fun o hox => by have := hl1.1 o hox; exact ⟨this.1, key o this.1 this.2.1 this.2.2 (hc.1 o hox)⟩, fun o hox => by have := hl1.2 o hox; exact ⟨this.1, key o this.1 this.2.1 this.2.2 (hc.2 o hox)⟩⟩
  have hlists : ∀ p, p < fa.length → (out.getD p default).l = sortL (atL A (ns.getD (fa.getD p 0).toNat default).l) ∧ (out.getD p default).r = sortL (atL A (ns.getD (fa.getD p 0).toNat default).r) := fun p hp => by
    rw [hget p hp]; exact ⟨rfl, rfl⟩
  have hbnd : ∀ p, p < fa.length → (∀ z ∈ (out.getD p default).l, 0 ≤ z ∧ z < (p : Int)) ∧ (∀ z ∈ (out.getD p default).r, 0 ≤ z ∧ z < (p : Int)) := fun p hp => by
    have h1 := hopt p hp
    rw [(hlists p hp).1, (hlists p hp).2]
    constructor
    · intro z hz
      obtain ⟨o, hox, e⟩ := mem_atL.1 (mem_sortL.1 hz)
      obtain ⟨_, p', h2, _, e2⟩ := h1.1 o hox
      omega
    · intro z hz
      obtain ⟨o, hox, e⟩ := mem_atL.1 (mem_sortL.1 hz)
      obtain ⟨_, p', h2, _, e2⟩ := h1.2 o hox
      omega
  have hoo : OptsOk out := fun i n hn => by
    obtain ⟨hi, rfl⟩ := List.getElem?_eq_some_iff.1 hn
    have := hbnd i (by omega)
    have e : out.getD i default = out[i] := by simp [List.getD, hi]
    rw [e] at this; exact this
  have hlens : ∀ i, i < out.length → (out.getD i default).l.length ≤ 1048576 ∧ (out.getD i default).r.length ≤ 1048576 := fun i hi => by
    have hm1 := hmem i (by omega)
    have hl1 := h.ok.lens (fa.getD i 0).toNat (by omega)
    rw [(hlists i (by omega)).1, (hlists i (by omega)).2]
    exact ⟨Nat.le_trans sort_length (by rw [at_length]; exact hl1.1), Nat.le_trans sort_length (by rw [at_length]; exact hl1.2)⟩
  have wf : Wf out := ⟨⟨by omega, hoo, hlens⟩, fun i hi => by
    have h1 := hbnd i (by omega)
    refine ⟨rise_pw ?_ fun z hz => by have := h1.1 z hz; omega, rise_pw ?_ fun z hz => by have := h1.2 z hz; omega⟩
    · rw [(hlists i (by omega)).1]; exact sortL_rise _
    · rw [(hlists i (by omega)).2]; exact sortL_rise _⟩
  have hden : ∀ p, p < fa.length → den out p = den ns (fa.getD p 0).toNat := by
    intro p
    induction p using Nat.strongRecOn with
    | _ p ih =>
      intro hp
      have h1 := hopt p hp
      have hm1 := hmem p hp
      rw [den_at (by omega) (hbnd p hp).1 (hbnd p hp).2, den_opt ho (show (fa.getD p 0).toNat < ns.length by omega), (hlists p hp).1, (hlists p hp).2]
      have key : ∀ l : List Int, (∀ o ∈ l, 0 ≤ o ∧ ∃ p', p' < p ∧ fa.getD p' 0 = o ∧ A.getD o.toNat 0 = p') → ∀ i, i ∈ (sortL (atL A l)).map (fun z => den out z.toNat) ↔ i ∈ l.map fun z => den ns z.toNat := fun l hl i => by
        rw [List.mem_map, List.mem_map]
        constructor
        · rintro ⟨z, hz, rfl⟩
          obtain ⟨o, hox, e⟩ := mem_atL.1 (mem_sortL.1 hz)
          obtain ⟨_, p', h2, e1, e2⟩ := hl o hox
          refine ⟨o, hox, ?_⟩
          have : z.toNat = p' := by omega
          rw [this, ih p' h2 (by omega), e1]
        · rintro ⟨o, hox, rfl⟩
          obtain ⟨_, p', h2, e1, e2⟩ := hl o hox
          refine ⟨(p' : Int), mem_sortL.2 (mem_atL.2 ⟨o, hox, e2⟩), ?_⟩
          rw [Int.toNat_natCast, ih p' h2 (by omega), e1]
      exact mk_congr (key _ h1.1) (key _ h1.2)
  have hborn : ∀ p, p < fa.length → (births out).getD p 0 = bs.getD (fa.getD p 0).toNat 0 := by
    intro p
    induction p using Nat.strongRecOn with
    | _ p ih =>
      intro hp
      have h1 := hopt p hp
      have hm1 := hmem p hp
      rw [(births_of hoo).2 p (by omega), (hlists p hp).1, (hlists p hp).2, putBorn_sort, h.born.2 _ (show (fa.getD p 0).toNat < ns.length by omega)]
      have key : ∀ o : Int, (∃ p', p' < p ∧ fa.getD p' 0 = o ∧ A.getD o.toNat 0 = p') → (births out).getD (A.getD o.toNat 0).toNat 0 = bs.getD o.toNat 0 := fun o ⟨p', h2, e1, e2⟩ => by
        rw [e2, Int.toNat_natCast, ih p' h2 (by omega), e1]
      unfold putBorn
      rw [bornOf_at fun o hox => key o (h1.2 o hox).2, bornOf_at fun o hox => key o (h1.1 o hox).2]
  have srt : SortedB out (births out) := fun i j hij hj => by
    rw [hborn i (by omega), hborn j (by omega), hget i (by omega), hget j (by omega)]
    rcases hord i j hij (by omega) with h1 | ⟨h1, h2⟩
    · exact Or.inl h1
    · refine Or.inr ⟨h1, ?_⟩
      have hne : aheadI (ndz ns A (fa.getD i 0)) (ndz ns A (fa.getD j 0)) ≠ 0 := fun e => by
        have e1 := ahead_zero.1 e
        rw [← hget i (by omega), ← hget j (by omega)] at e1
        have d1 : den out i = den out j := by
          rw [den_opt hoo (show i < out.length by omega), den_opt hoo (show j < out.length by omega), e1]
        rw [hden i (by omega), hden j (by omega)] at d1
        have m1 := hmem i (by omega); have m2 := hmem j (by omega)
        have e3 := h.inj (by omega) (by omega) d1
        have p1 := hpos i (by omega); have p2 := hpos j (by omega)
        rw [e3] at p1; omega
      omega
  obtain ⟨pm, hpm, em, _⟩ := hfind m (Nat.le_refl _) reach_self (Int.le_refl _)
  have hroot : ∀ p, p < fa.length → fa.getD p 0 ≠ m → ∃ p', p < p' ∧ p' < fa.length ∧ ((p : Int) ∈ (out.getD p' default).l ∨ (p : Int) ∈ (out.getD p' default).r) := fun p hp hne => by
    have m1 := hmem p hp
    rcases reach_from m1.2.2.1 with h1 | ⟨j, hj, hr, z, hz, ez⟩
    · omega
    · have hz0 : 0 ≤ z := by
        have := optsAt ho (show j < ns.length by omega)
        rcases hz with hz | hz
        · exact (this.1 z hz).1
        · exact (this.2 z hz).1
      have ez' : z = fa.getD p 0 := by omega
      subst ez'
      have hle : bs.getD j 0 ≤ bs.getD m 0 := by
        have : ∀ n j : Nat, m - j ≤ n → j ≤ m → (reachM ns m).getD j false = true → bs.getD j 0 ≤ bs.getD m 0 := by
          intro n
          induction n with
          | zero => intro j h1 h2 _; have : j = m := by omega
                    rw [this]; exact Int.le_refl _
          | succ n ih =>
            intro j h1 h2 h3
            rcases reach_from h3 with h4 | ⟨i, hi, hri, y, hy, ey⟩
            · rw [h4]; exact Int.le_refl _
            · have hl := hlw i (by omega)
              have hyb : 0 ≤ y ∧ y < i ∧ bs.getD y.toNat 0 < bs.getD i 0 := by rcases hy with hy | hy; exact hl.1 y hy; exact hl.2 y hy
              have := ih i (by omega) hi hri
              rw [ey] at hyb; omega
        exact this m j (by omega) hj hr
      obtain ⟨p', hp', e1, e2⟩ := hfind j hj hr hle
      have h1 := hopt p' hp'
      rw [e1] at h1
      simp only [Int.toNat_natCast] at h1
      have hp1 := hpos p hp
      refine ⟨p', ?_, hp', ?_⟩
      · rcases hz with hz | hz
        · obtain ⟨_, q, h2, e3, e4⟩ := h1.1 _ hz; omega
        · obtain ⟨_, q, h2, e3, e4⟩ := h1.2 _ hz; omega
      · rw [(hlists p' hp').1, (hlists p' hp').2, e1]
        simp only [Int.toNat_natCast]
        rcases hz with hz | hz
        · exact Or.inl (mem_sortL.2 (mem_atL.2 ⟨_, hz, hp1⟩))
        · exact Or.inr (mem_sortL.2 (mem_atL.2 ⟨_, hz, hp1⟩))
  have hlast : fa.getD (fa.length - 1) 0 = m := by
    apply Classical.byContradiction
    intro hne
    obtain ⟨p', h1, h2, _⟩ := hroot (fa.length - 1) (by omega) hne
    omega
  refine ⟨⟨by omega, wf, srt, fun k hk => ?_⟩, ?_, hlen⟩
  · have hne : fa.getD k 0 ≠ m := fun e => by
      have p1 := hpos k (by omega); have p2 := hpos (fa.length - 1) (by omega)
      rw [e] at p1; rw [hlast] at p2; omega
    obtain ⟨p', h1, h2, h3⟩ := hroot k (by omega) hne
    exact ⟨p', h1, by omega, h3⟩
  · unfold gOf
    rw [hN, hden _ (by omega), hlast, Int.toNat_natCast]
end Go.GL

namespace Go.GL
open Go Go.RowKit
structure PM where
 f : Nat
 o : Nat
 c : Nat
 s : Nat
 n : Nat
structure PSt where
 ns : List Nd
 bs : List Int
 fl : List (ByteArray × Int)
 om : List ((Int × Int) × Bool)
 cm : List (Int × Int)
 sm : List ((Int × Int) × Int)
 gm : List (Int × Int)
def inP (p : Nat) (L R B : Value) (mm : PM) (k : Nat) : Prop := k = p ∨ L.ownBlock = some k ∨ R.ownBlock = some k ∨ B.ownBlock = some k ∨ k = mm.f ∨ k = mm.o ∨ k = mm.c ∨ k = mm.s ∨ k = mm.n
def NP (p : Nat) (L R B : Value) (mm : PM) (x : Option Nat) : Prop := ∀ k, x = some k → ¬ inP p L R B mm k
section
variable {er ei : Nat} {G G' : Pin} {w w' : World} {p : Nat} {L R B L' R' B' : Value} {mm : PM} {q : PSt}
theorem NP.ho {x : Option Nat} (h : NP p L R B mm x) : Apart x (some mm.o) := fun k a c => h k a (by cases c; exact Or.inr (Or.inr (Or.inr (Or.inr (Or.inr (Or.inl rfl))))))
theorem NP.hc {x : Option Nat} (h : NP p L R B mm x) : Apart x (some mm.c) := fun k a c => h k a (by cases c; exact Or.inr (Or.inr (Or.inr (Or.inr (Or.inr (Or.inr (Or.inl rfl)))))))
theorem NP.hs {x : Option Nat} (h : NP p L R B mm x) : Apart x (some mm.s) := fun k a c => h k a (by cases c; exact Or.inr (Or.inr (Or.inr (Or.inr (Or.inr (Or.inr (Or.inr (Or.inl rfl))))))))
theorem NP.hn {x : Option Nat} (h : NP p L R B mm x) : Apart x (some mm.n) := fun k a c => h k a (by cases c; exact Or.inr (Or.inr (Or.inr (Or.inr (Or.inr (Or.inr (Or.inr (Or.inr rfl))))))))
theorem NP.hp {x : Option Nat} (h : NP p L R B mm x) : Apart x (some p) := fun k a c => h k a (by cases c; exact Or.inl rfl)
theorem NP.hl {x : Option Nat} (h : NP p L R B mm x) : Apart x L.ownBlock := fun k a c => h k a (Or.inr (Or.inl c))
theorem NP.hr {x : Option Nat} (h : NP p L R B mm x) : Apart x R.ownBlock := fun k a c => h k a (Or.inr (Or.inr (Or.inl c)))
theorem NP.hb {x : Option Nat} (h : NP p L R B mm x) : Apart x B.ownBlock := fun k a c => h k a (Or.inr (Or.inr (Or.inr (Or.inl c))))
end


def pd (q : PSt) (z : Int) : Nat := den q.ns z.toNat
def PlaceOk (q : PSt) (z : Int) : Prop := 0 ≤ z ∧ z < q.ns.length
structure FindOk (ns : List Nd) (fl : List (ByteArray × Int)) : Prop where
 has : ∀ i : Nat, i < ns.length → look fl (b2s (keyN (ns.getD i default).l (ns.getD i default).r)) = some (i : Int)
 is : ∀ (l r : List Int) (z : Int), (∀ x ∈ l, 0 ≤ x) → (∀ x ∈ r, 0 ≤ x) → look fl (b2s (keyN l r)) = some z → ∃ i : Nat, i < ns.length ∧ z = i ∧ ns.getD i default = ⟨l, r⟩
structure PoolOk (q : PSt) : Prop where
 ar : Ar q.ns q.bs
 find : FindOk q.ns q.fl
 ord : ∀ a b v, look q.om (a, b) = some v → PlaceOk q a ∧ PlaceOk q b ∧ v = decP (geG (pd q a) (pd q b))
 can : ∀ a z, look q.cm a = some z → PlaceOk q a ∧ PlaceOk q z ∧ CanonG (pd q z) ∧ eqG (pd q z) (pd q a)
 sum : ∀ a b z, look q.sm (a, b) = some z → PlaceOk q a ∧ PlaceOk q b ∧ PlaceOk q z ∧ pd q z = addG (pd q a) (pd q b)
 neg : ∀ a z, look q.gm a = some z → PlaceOk q a ∧ PlaceOk q z ∧ pd q z = negG (pd q a)
structure PX (q q' : PSt) : Prop where
 len : q.ns.length ≤ q'.ns.length
 old : ∀ k, k < q.ns.length → q'.ns.getD k default = q.ns.getD k default
 can : ∀ a, look q'.cm a = none → look q.cm a = none
theorem PX.refl (q : PSt) : PX q q := ⟨Nat.le_refl _, fun _ _ => rfl, fun _ h => h⟩
theorem PX.trans {a b c : PSt} (h : PX a b) (k : PX b c) : PX a c := ⟨Nat.le_trans h.len k.len, fun i hi => (k.old i (by have := h.len; omega)).trans (h.old i hi), fun a ha => h.can a (k.can a ha)⟩
theorem PX.den {q q' : PSt} (h : PX q q') (ho : OptsOk q.ns) (ho' : OptsOk q'.ns) : ∀ k, k < q.ns.length → den q'.ns k = den q.ns k := by
 intro k
 induction k using Nat.strongRecOn with
 | _ k ih =>
  intro hk
  have oo := optsAt ho hk
  rw [den_opt ho' (by have := h.len; omega), den_opt ho hk, h.old k hk]
  rw [List.map_congr_left fun z hz => ih z.toNat (by have := oo.1 z hz; omega) (by have := oo.1 z hz; omega)]
  rw [List.map_congr_left (l := (q.ns.getD k default).r) fun z hz => ih z.toNat (by have := oo.2 z hz; omega) (by have := oo.2 z hz; omega)]
theorem PX.pd {q q' : PSt} (h : PX q q') (hq : PoolOk q) (hq' : PoolOk q') {z : Int} (hz : PlaceOk q z) : pd q' z = pd q z := h.den hq.ar.opts hq'.ar.opts _ (by have := hz.1; have := hz.2; omega)
theorem PX.place {q q' : PSt} (h : PX q q') {z : Int} (hz : PlaceOk q z) : PlaceOk q' z := ⟨hz.1, by have := hz.2; have := h.len; omega⟩

section
variable {p : Nat} {L R B : Value} {mm : PM} {w0 : World} {S : Nat → Prop}
theorem NP.hf {x : Option Nat} (h : NP p L R B mm x) : Apart x (some mm.f) := fun k a c => h k a (by cases c; exact Or.inr (Or.inr (Or.inr (Or.inr (Or.inl rfl)))))
end
theorem px_map {q q' : PSt} (h : PX q q') (hq : PoolOk q) (hq' : PoolOk q') {ls : List Int} (hl : ∀ z ∈ ls, PlaceOk q z) : ls.map (pd q') = ls.map (pd q) := List.map_congr_left fun z hz => h.pd hq hq' (hl z hz)
theorem places_of {q : PSt} {ls : List Int} (h : ∀ z ∈ ls, PlaceOk q z) : ∀ i, i < ls.length → 0 ≤ ls.getD i 0 ∧ ls.getD i 0 < q.ns.length := fun _ hi => h _ (getD_mem hi)
end Go.GL

namespace Go.GL
open Go Go.RowKit

end Go.GL

namespace Go.GL
open Go Go.RowKit
structure LdOk (fs : List Nd) (q q2 : PSt) (k : Nat) (ats : List Int) : Prop where
 len : ats.length = k
 hi : q2.ns.length ≤ q.ns.length + k
 pl : ∀ i, i < k → PlaceOk q2 (ats.getD i 0) ∧ pd q2 (ats.getD i 0) = den fs i
theorem LdOk.den {fs : List Nd} {q q2 : PSt} {k : Nat} {ats : List Int} (h : LdOk fs q q2 k ats) {l : List Int} (hl : ∀ z ∈ l, 0 ≤ z ∧ z < k) :
  (atL ats l).map (pd q2) = l.map fun z => GL.den fs z.toNat := by
 unfold atL
 rw [List.map_map]
 refine List.map_congr_left fun z hz => ?_
 have := hl z hz
 exact (h.pl z.toNat (by omega)).2
end Go.GL

namespace Go.GL
open Go Go.RowKit
end Go.GL

namespace Go.GL
theorem opts_same {a b : List Nd} (ha : SG a) (hb : SG b) {n i j : Nat} (hi : i < a.length) (hj : j < b.length) (hpre : ∀ k, k < n → k < a.length ∧ k < b.length ∧ den a k = den b k)
  (hai : (∀ z ∈ (a.getD i default).l, z < (n : Int)) ∧ (∀ z ∈ (a.getD i default).r, z < (n : Int))) (hbj : (∀ z ∈ (b.getD j default).l, z < (n : Int)) ∧ (∀ z ∈ (b.getD j default).r, z < (n : Int)))
  (he : den a i = den b j) : a.getD i default = b.getD j default := by
 have oa := optsAt ha.opts hi
 have ob := optsAt hb.opts hj
 refine nd_ext (asc_ext (ha.pw i hi).1 (hb.pw j hj).1 fun z => ⟨fun hz => ?_, fun hz => ?_⟩) (asc_ext (ha.pw i hi).2 (hb.pw j hj).2 fun z => ⟨fun hz => ?_, fun hz => ?_⟩)
 ·have h1 : loG (den a i) (den a z.toNat) := (lo_den ha.opts hi).2 ⟨z, hz, rfl⟩
  rw [he] at h1
  obtain ⟨y, hy, e⟩ := (lo_den hb.opts hj).1 h1
  have z1 := oa.1 z hz; have z2 := hai.1 z hz; have y1 := ob.1 y hy; have y2 := hbj.1 y hy
  have p1 := hpre z.toNat (by omega); have p2 := hpre y.toNat (by omega)
  have := ha.inj (i := z.toNat) (j := y.toNat) (by omega) (by omega) (by rw [e, p2.2.2])
  have : z = y := by omega
  rwa [this]
 ·have h1 : loG (den b j) (den b z.toNat) := (lo_den hb.opts hj).2 ⟨z, hz, rfl⟩
  rw [← he] at h1
  obtain ⟨y, hy, e⟩ := (lo_den ha.opts hi).1 h1
  have z1 := ob.1 z hz; have z2 := hbj.1 z hz; have y1 := oa.1 y hy; have y2 := hai.1 y hy
  have p1 := hpre z.toNat (by omega); have p2 := hpre y.toNat (by omega)
  have := ha.inj (i := z.toNat) (j := y.toNat) (by omega) (by omega) (by rw [← e, p1.2.2])
  have : z = y := by omega
  rwa [this]
 ·have h1 : roG (den a i) (den a z.toNat) := (ro_den ha.opts hi).2 ⟨z, hz, rfl⟩
  rw [he] at h1
  obtain ⟨y, hy, e⟩ := (ro_den hb.opts hj).1 h1
  have z1 := oa.2 z hz; have z2 := hai.2 z hz; have y1 := ob.2 y hy; have y2 := hbj.2 y hy
  have p1 := hpre z.toNat (by omega); have p2 := hpre y.toNat (by omega)
  have := ha.inj (i := z.toNat) (j := y.toNat) (by omega) (by omega) (by rw [e, p2.2.2])
  have : z = y := by omega
  rwa [this]
 ·have h1 : roG (den b j) (den b z.toNat) := (ro_den hb.opts hj).2 ⟨z, hz, rfl⟩
  rw [← he] at h1
  obtain ⟨y, hy, e⟩ := (ro_den ha.opts hi).1 h1
  have z1 := ob.2 z hz; have z2 := hbj.2 z hz; have y1 := oa.2 y hy; have y2 := hai.2 y hy
  have p1 := hpre z.toNat (by omega); have p2 := hpre y.toNat (by omega)
  have := ha.inj (i := z.toNat) (j := y.toNat) (by omega) (by omega) (by rw [← e, p1.2.2])
  have : z = y := by omega
  rwa [this]
theorem births_den {a b : List Nd} (ha : OptsOk a) (hb : OptsOk b) : ∀ (n i j : Nat), i + j ≤ n → i < a.length → j < b.length → den a i = den b j → (births a).getD i 0 ≤ (births b).getD j 0
 | _, i, j, _, hi, hj, he => by
  have oa := optsAt ha hi
  have ob := optsAt hb hj
  rw [(births_of ha).2 i hi, putBorn_le]
  have hbj := (births_of hb).2 j hj
  have hb2 := putBorn_le.1 (Int.le_of_eq hbj.symm)
  refine ⟨born_nn (births_of hb) hj, fun z hz => ?_, fun z hz => ?_⟩
  ·have h1 : loG (den a i) (den a z.toNat) := (lo_den ha hi).2 ⟨z, hz, rfl⟩
   rw [he] at h1
   obtain ⟨y, hy, e⟩ := (lo_den hb hj).1 h1
   have z1 := oa.1 z hz; have y1 := ob.1 y hy
   have := births_den ha hb (z.toNat + y.toNat) z.toNat y.toNat (Nat.le_refl _) (by omega) (by omega) e
   have := hb2.2.1 y hy
   omega
  ·have h1 : roG (den a i) (den a z.toNat) := (ro_den ha hi).2 ⟨z, hz, rfl⟩
   rw [he] at h1
   obtain ⟨y, hy, e⟩ := (ro_den hb hj).1 h1
   have z1 := oa.2 z hz; have y1 := ob.2 y hy
   have := births_den ha hb (z.toNat + y.toNat) z.toNat y.toNat (Nat.le_refl _) (by omega) (by omega) e
   have := hb2.2.2 y hy
   omega
termination_by _ i j => i + j
decreasing_by all_goals omega
theorem births_eq {a b : List Nd} (ha : OptsOk a) (hb : OptsOk b) {i j : Nat} (hi : i < a.length) (hj : j < b.length) (he : den a i = den b j) : (births a).getD i 0 = (births b).getD j 0 :=
 Int.le_antisymm (births_den ha hb _ i j (Nat.le_refl _) hi hj he) (births_den hb ha _ j i (Nat.le_refl _) hj hi he.symm)
theorem SG.sub {a b : List Nd} (ha : SG a) (hb : SG b) (he : gOf a = gOf b) : ∀ k, k < a.length → ∃ j, j < b.length ∧ den b j = den a k := by
 have key : ∀ n k, a.length - k ≤ n → k < a.length → ∃ j, j < b.length ∧ den b j = den a k := by
  intro n
  induction n with
  | zero => intro k h1 h2; omega
  | succ n ih =>
   intro k h1 h2
   by_cases hk : k + 1 < a.length
   ·obtain ⟨i, hki, hi, hz⟩ := ha.last k hk
    obtain ⟨j, hj, e⟩ := ih i (by omega) hi
    rcases hz with hz | hz
    ·have h3 : loG (den a i) (den a (k : Int).toNat) := (lo_den ha.opts hi).2 ⟨_, hz, rfl⟩
     rw [← e] at h3
     obtain ⟨y, hy, e2⟩ := (lo_den hb.opts hj).1 h3
     have := (optsAt hb.opts hj).1 y hy
     exact ⟨y.toNat, by omega, by rw [← e2]; rfl⟩
    ·have h3 : roG (den a i) (den a (k : Int).toNat) := (ro_den ha.opts hi).2 ⟨_, hz, rfl⟩
     rw [← e] at h3
     obtain ⟨y, hy, e2⟩ := (ro_den hb.opts hj).1 h3
     have := (optsAt hb.opts hj).2 y hy
     exact ⟨y.toNat, by omega, by rw [← e2]; rfl⟩
   ·have hb1 := hb.lo
    refine ⟨b.length - 1, by omega, ?_⟩
    have : k = a.length - 1 := by omega
    rw [this]; exact he.symm
 exact fun k hk => key _ k (Nat.le_refl _) hk
theorem SG.low {a : List Nd} (ha : SG a) {n i : Nat} (hi : i < a.length) (hb : (births a).getD i 0 ≤ (births a).getD n 0) (hn : n < a.length) : (∀ z ∈ (a.getD i default).l, z < (n : Int)) ∧ (∀ z ∈ (a.getD i default).r, z < (n : Int)) := by
 have hl := lower_births ha.opts i hi
 have key : ∀ z : Int, 0 ≤ z → z < i → (births a).getD z.toNat 0 < (births a).getD i 0 → z < (n : Int) := fun z h0 h1 h2 => by
  by_cases hlt : z < (n : Int)
  ·exact hlt
  ·by_cases he : n = z.toNat
   ·subst he; omega
   ·rcases ha.srt n z.toNat (by omega) (by omega) with h3 | ⟨h3, _⟩ <;> omega
 exact ⟨fun z hz => by have := hl.1 z hz; exact key z this.1 this.2.1 this.2.2, fun z hz => by have := hl.2 z hz; exact key z this.1 this.2.1 this.2.2⟩
theorem sg_prefix {a b : List Nd} (ha : SG a) (hb : SG b) (he : gOf a = gOf b) : ∀ n, n ≤ a.length → n ≤ b.length ∧ ∀ k, k < n → a.getD k default = b.getD k default ∧ den a k = den b k := by
 intro n
 induction n with
 | zero => intro _; exact ⟨Nat.zero_le _, fun k hk => absurd hk (Nat.not_lt_zero k)⟩
 | succ n ih =>
  intro hn
  obtain ⟨hnb, hpre⟩ := ih (by omega)
  obtain ⟨j, hj, ej⟩ := ha.sub hb he n (by omega)
  have hjn : n ≤ j := by
   apply Classical.byContradiction
   intro hlt
   have := (hpre j (by omega)).2
   have := ha.inj (i := j) (j := n) (by omega) (by omega) (by rw [this, ej])
   omega
  have hbn : n < b.length := by omega
  obtain ⟨i, hi, ei⟩ := hb.sub ha he.symm n hbn
  have hin : n ≤ i := by
   apply Classical.byContradiction
   intro hlt
   have := (hpre i (by omega)).2
   have := hb.inj (i := i) (j := n) (by omega) (by omega) (by rw [← this, ei])
   omega
  have hp : ∀ k, k < n → k < a.length ∧ k < b.length ∧ den a k = den b k := fun k hk => ⟨by omega, by omega, (hpre k hk).2⟩
  have hgh : den a n = den b n := by
   by_cases hjn' : j = n
   ·rw [hjn'] at ej; exact ej.symm
   ·have hin' : i ≠ n := fun e => by
     rw [e] at ei
     exact hjn' (hb.inj hj hbn (by rw [ej, ei]))
    exfalso
    have s1 := hb.srt n j (by omega) hj
    have s2 := ha.srt n i (by omega) hi
    have b1 := births_eq ha.opts hb.opts (show n < a.length by omega) hj ej.symm
    have b2 := births_eq ha.opts hb.opts hi hbn ei
    have a1 := ha.low (n := n) (i := n) (by omega) (Int.le_refl _) (by omega)
    have hle : (births a).getD i 0 ≤ (births a).getD n 0 := by rcases s1 with s1 | ⟨s1, _⟩ <;> omega
    have a2 := ha.low (n := n) (i := i) hi hle (by omega)
    have c1 := hb.low (n := n) (i := n) hbn (Int.le_refl _) hbn
    have hle2 : (births b).getD j 0 ≤ (births b).getD n 0 := by rcases s2 with s2 | ⟨s2, _⟩ <;> omega
    have c2 := hb.low (n := n) (i := j) hj hle2 hbn
    have e1 := opts_same ha hb (n := n) hi hbn hp a2 c1 ei
    have e2 := opts_same ha hb (n := n) (show n < a.length by omega) hj hp a1 c2 ej.symm
    have x1 : aheadI (b.getD n default) (b.getD j default) < 0 := by rcases s1 with s1 | ⟨_, s1⟩; omega; exact s1
    have x2 : aheadI (a.getD n default) (a.getD i default) < 0 := by rcases s2 with s2 | ⟨_, s2⟩; omega; exact s2
    rw [e1, e2, ahead_neg] at x2
    omega
  refine ⟨hbn, fun k hk => ?_⟩
  by_cases hk' : k < n
  ·exact hpre k hk'
  ·have : k = n := by omega
   subst this
   exact ⟨opts_same ha hb (n := k) (by omega) hbn hp (ha.low (by omega) (Int.le_refl _) (by omega)) (hb.low hbn (Int.le_refl _) hbn) hgh, hgh⟩
theorem sg_unique {a b : List Nd} (ha : SG a) (hb : SG b) (he : gOf a = gOf b) : a = b := by
 have h1 := sg_prefix ha hb he a.length (Nat.le_refl _)
 have h2 := sg_prefix hb ha he.symm b.length (Nat.le_refl _)
 exact eqdoneN (by omega) (Nat.le_refl _) fun i hi => (h1.2 i hi).1


def IsForm (g : Nat) (ns : List Nd) : Prop := SG ns ∧ gOf ns = g
theorem IsForm.unique {g : Nat} {a b : List Nd} (ha : IsForm g a) (hb : IsForm g b) : a = b := sg_unique ha.1 hb.1 (ha.2.trans hb.2.symm)
end Go.GL

namespace Go.GL
open Go Go.RowKit
theorem Gadd.turn {S : Nat → Prop} {G0 G G' : Pin} {w0 w w' : World} {v : Value} (h : Pins (Gadd G0 w0 v) w) (hP : Pins G0 w') (hx : Ext S G w G' w') (hS : ∀ k, v.ownBlock = some k → ¬ S k) : Pins (Gadd G0 w0 v) w' := fun b o u hu => by
 rcases hu with hu | hu
 ·exact hP b o u hu
 ·have h1 := h b o u (Or.inr hu)
  have h2 := hx.block b (block_lt h1) (hS b hu.1)
  unfold World.cell? at h1 ⊢
  simp only [h2]; exact h1

end Go.GL

namespace Go.GL
open Go Go.RowKit
end Go.GL

namespace Go.GL
open Go Go.RowKit


theorem nodup_len : ∀ (n : Nat) (l : List Int), l.Nodup → (∀ x ∈ l, 0 ≤ x ∧ x < (n : Int)) → l.length ≤ n
 | 0, l, _, h => by
  cases l with
  | nil => exact Nat.le_refl 0
  | cons x r => have := h x List.mem_cons_self; omega
 | n + 1, l, hn, h => by
  by_cases hm : (n : Int) ∈ l
  ·have h1 := List.length_erase_of_mem hm
   have h2 := nodup_len n (l.erase (n : Int)) (hn.erase _) fun x hx => by
    have h3 := (hn.mem_erase_iff).1 hx
    have := h x h3.2
    have := h3.1
    omega
   omega
  ·have := nodup_len n l hn fun x hx => by
    have h1 := h x hx
    by_cases e : x = (n : Int)
    ·exact absurd (e ▸ hx) hm
    ·omega
   omega

theorem own_cut {α : Type} {E : Elt α} {e base : Nat} {G : Pin} {w : World} {v : Value} {xs : List α} (h : Own E e G w base v xs) (m : Nat) (zz : Int) (hz : 0 ≤ zz) (hzm : zz.toNat = m) (hm : m ≤ xs.length) (hp : 0 < xs.length) :
  ∃ u, Own E e G w base u (xs.take m) ∧ u.ownBlock = v.ownBlock ∧ RunsSlice v u E.size none (some zz) := by
 subst hzm
 obtain ⟨cells, ⟨hl, hown⟩, hr⟩ := h.ex
 rcases hown with ⟨_, h0⟩ | ⟨g, cap, cur, rfl, hb, hg, hn, hc, hs, ht⟩
 ·omega
 ·refine ⟨.slice (some ⟨g, 0, none⟩) zz.toNat cap, ⟨⟨cells.take (zz.toNat * E.size), ⟨?_, Or.inr ⟨g, cap, cur, ?_, hb, hg, ?_, hc, hs, ?_⟩⟩, fun i x hx => ?_⟩, h.free⟩, rfl, ?_⟩
  ·rw [List.length_take, List.length_take, hl, Nat.min_eq_left hm]
   exact Nat.min_eq_left (Nat.mul_le_mul_right _ hm)
  ·rw [List.length_take, Nat.min_eq_left hm]
  ·rw [List.length_take, Nat.min_eq_left hm]; omega
  ·rw [List.length_take, Nat.min_eq_left hm, ← ht, List.take_take, Nat.min_eq_left (Nat.mul_le_mul_right _ hm)]
  ·rw [List.getElem?_take] at hx
   split at hx
   ·rename_i hi
    have h1 := hr i x hx
    have h2 : (i + 1) * E.size ≤ zz.toNat * E.size := Nat.mul_le_mul_right _ hi
    rw [Nat.add_mul, Nat.one_mul] at h2
    rw [List.drop_take, List.take_take, Nat.min_eq_left (by omega)]
    exact h1
   ·cases hx
  ·intro P w' d t e' ty pos aft gg x lx hx ρ htt hsz hρ hlx hhx
   have he := elem_of htt
   have ht' : P.underlying t = some (.slice (P.elem t)) := by rw [he]; exact htt
   have hsz' : ∀ w : World, (sizeOf (P.elem t)).run P w = .ok E.size w := fun w => by rw [he]; exact run_sizeOf hsz w
   have key : (Instr.slice t (.slice (some ⟨g, 0, none⟩) xs.length cap) none (some (.int .i64 zz)) none).run P w' = .ok (.slice (some ⟨g, 0, none⟩) zz.toNat cap) w' := by
    refine (run_slice_h w' t (some ⟨g, 0, none⟩) xs.length cap ht' .i64 zz (by omega) (by omega)).trans ?_
    rw [hsz']
    simp [sliced, Addr.add]
   simp only [Option.map_none, Option.map_some] at hlx hhx
   simp [execOp, hρ, hlx, hhx, run_sliceAt_slice w' t _ _ _ _ ht', key]

end Go.GL

namespace Go.GL
open Go Go.RowKit
section
variable {q : PSt} {lf : Bool} {g : Nat} {wl ss kept : List Int} {m : Nat}
end
end Go.GL

namespace Go.GL
open Go Go.RowKit
inductive SubG (g : Nat) : Nat → Prop
 | self : SubG g g
 | left {x i : Nat} (h : SubG g x) (hl : loG x i) : SubG g i
 | right {x i : Nat} (h : SubG g x) (hr : roG x i) : SubG g i
section
variable {q : PSt} {rs list : List Int} {k i : Nat}
variable {x o : Int} {ds : List Int}
end

theorem sg_sub {ns : List Nd} (h : SG ns) {x : Nat} : (∃ k, k < ns.length ∧ den ns k = x) ↔ SubG (gOf ns) x := by
 have hlo := h.lo
 constructor
 ·have key : ∀ n k, ns.length - k ≤ n → k < ns.length → SubG (gOf ns) (den ns k) := by
   intro n
   induction n with
   | zero => intro k h1 h2; omega
   | succ n ih =>
    intro k h1 h2
    by_cases hk : k + 1 < ns.length
    ·obtain ⟨i, hki, hi, hz⟩ := h.last k hk
     have := ih i (by omega) hi
     rcases hz with hz | hz
     ·exact this.left ((lo_den h.opts hi).2 ⟨_, hz, rfl⟩)
     ·exact this.right ((ro_den h.opts hi).2 ⟨_, hz, rfl⟩)
    ·have : k = ns.length - 1 := by omega
     subst this; exact .self
  rintro ⟨k, hk, rfl⟩
  exact key _ k (Nat.le_refl _) hk
 ·intro hs
  induction hs with
  | self => exact ⟨ns.length - 1, by omega, rfl⟩
  | left _ hl ih =>
   obtain ⟨k, hk, rfl⟩ := ih
   obtain ⟨o, ho, e⟩ := (lo_den h.opts hk).1 hl
   have := (optsAt h.opts hk).1 o ho
   exact ⟨o.toNat, by omega, e.symm⟩
  | right _ hl ih =>
   obtain ⟨k, hk, rfl⟩ := ih
   obtain ⟨o, ho, e⟩ := (ro_den h.opts hk).1 hl
   have := (optsAt h.opts hk).2 o ho
   exact ⟨o.toNat, by omega, e.symm⟩
end Go.GL

namespace Go.GL
open Go Go.RowKit
theorem nodup_lt {l : List Int} (h : l.Pairwise (· < ·)) : l.Nodup := h.imp fun {a b} h e => by omega
section
variable {q : PSt} {rs P list : List Int} {n : Nat} {nodes : List Nd} {rk : List (Int × Int)}

end
noncomputable def formG (g : Nat) : List Nd := @dite _ (∃ ns, IsForm g ns) (Classical.propDecidable _) (fun h => Classical.choose h) (fun _ => [])
theorem IsForm.eq {g : Nat} {ns : List Nd} (h : IsForm g ns) : formG g = ns := by
 have hx : ∃ ns, IsForm g ns := ⟨ns, h⟩
 unfold formG
 rw [dif_pos hx]
 exact (Classical.choose_spec hx).unique h
theorem form_eq {ns : List Nd} {bs : List Int} (h : Ar ns bs) {m : Nat} (hm : m < ns.length) : formM ns bs m = formG (den ns m) :=
 (IsForm.eq (g := den ns m) ⟨(form_sg h hm).1, (form_sg h hm).2.1⟩).symm
end Go.GL

namespace Go.GL
open Go Go.RowKit Go.Sort Go.Lib
section
variable {P : Program} {ρ : Operand → Value} {w : World} {K : Value → World → Prop} {d : Option Nat} {t ty e : Nat} {pos : String} {aft : Array Edge} {g : Option (Nat × Bool)} {x : Operand} {G : Pin}
theorem r_makeFunc {fn : Fn} {caps : Array Operand} (vs : List Value) (hc : caps.toList.map ρ = vs) : (execOp ρ ⟨d, .makeFunc fn #[] caps, ty, pos, aft, g⟩).run P w = .ok (.value (.func fn #[] vs.toArray)) w := by
 have h2 : caps.map ρ = vs.toArray := by rw [← hc, ← Array.toList_map]
 simp [execOp, Instr.makeFunc, h2]
variable {α : Type} {E : Elt α}
end



end Go.GL

namespace Go.GL
open Go Go.RowKit
theorem form_is {q : PSt} (hok : PoolOk q) {r : Int} (hr : PlaceOk q r) : IsForm (pd q r) (formG (pd q r)) := by
 have h := form_sg hok.ar (m := r.toNat) (by have := hr.1; have := hr.2; omega)
 have e := IsForm.eq (g := pd q r) ⟨h.1, h.2.1⟩
 rw [e]; exact ⟨h.1, h.2.1⟩
end Go.GL

namespace Go.GL
open Go Go.RowKit
structure GsOk (q : PSt) (ls : List Int) (gs : List Nat) : Prop where
 pl : ∀ z ∈ ls, PlaceOk q z
 eq : ls.map (pd q) = gs
theorem GsOk.nil {q : PSt} : GsOk q [] [] := ⟨fun _ h => (List.not_mem_nil h).elim, rfl⟩
theorem GsOk.px {q q' : PSt} {ls : List Int} {gs : List Nat} (h : GsOk q ls gs) (hx : PX q q') (hok : PoolOk q) (hok' : PoolOk q') : GsOk q' ls gs := ⟨fun z hz => hx.place (h.pl z hz), (px_map hx hok hok' h.pl).trans h.eq⟩
theorem GsOk.snoc {q : PSt} {ls : List Int} {gs : List Nat} {z : Int} {g : Nat} (h : GsOk q ls gs) (hz : PlaceOk q z) (hg : pd q z = g) : GsOk q (ls ++ [z]) (gs ++ [g]) := by
 refine ⟨fun y hy => ?_, by rw [List.map_append, h.eq]; simp [hg]⟩
 rcases List.mem_append.1 hy with h1 | h1
 ·exact h.pl y h1
 ·rw [List.mem_singleton.1 h1]; exact hz
theorem GsOk.len {q : PSt} {ls : List Int} {gs : List Nat} (h : GsOk q ls gs) : ls.length = gs.length := by rw [← h.eq, List.length_map]
section
variable {q : PSt} {f b : Int}
end
end Go.GL

namespace Go.GL
open Go Go.RowKit
def flOf (ns : List Nd) : List (ByteArray × Int) := (List.range ns.length).map fun i => (b2s (keyN (ns.getD i default).l (ns.getD i default).r), (i : Int))
def bkq (ns : List Nd) (bs : List Int) : PSt := ⟨ns, bs, flOf ns, [], [], [], []⟩
theorem find_fl {ns : List Nd} {bs : List Int} (h : Ar ns bs) : FindOk ns (flOf ns) := by
 have hk : ∀ i, i < ns.length → ∀ l r : List Int, (∀ x ∈ l, 0 ≤ x) → (∀ x ∈ r, 0 ≤ x) → b2s (keyN (ns.getD i default).l (ns.getD i default).r) = b2s (keyN l r) → ns.getD i default = ⟨l, r⟩ := fun i hi l r hl hr e => by
  have oo := optsAt h.opts hi
  obtain ⟨e1, e2⟩ := keyN_inj (fun z hz => (oo.1 z hz).1) (fun z hz => (oo.2 z hz).1) hl hr (b2s_inj e)
  cases hn : ns.getD i default with
  | mk a b => rw [hn] at e1 e2; simp only at e1 e2; rw [e1, e2]
 constructor
 ·intro i hi
  have oo := optsAt h.opts hi
  have key : ∀ n, (look ((List.range n).map fun i => (b2s (keyN (ns.getD i default).l (ns.getD i default).r), (i : Int))) (b2s (keyN (ns.getD i default).l (ns.getD i default).r))) = (if i < n then some (i : Int) else none) ∨ ns.length < n := by
   intro n
   induction n with
   | zero => left; rfl
   | succ n ih =>
    by_cases hn : ns.length < n + 1
    ·exact Or.inr hn
    left
    have ih := ih.resolve_right (by omega)
    rw [List.range_succ, List.map_append]
    unfold look at ih ⊢
    rw [List.find?_append]
    by_cases h1 : i < n
    ·rw [if_pos h1] at ih
     obtain ⟨p, hp, e⟩ := Option.map_eq_some_iff.1 ih
     rw [hp, if_pos (by omega)]
     simp [e]
    ·rw [if_neg h1] at ih
     have h2 := Option.map_eq_none_iff.1 ih
     rw [h2]
     by_cases h3 : i = n
     ·subst h3; rw [if_pos (by omega)]; simp
     ·rw [if_neg (by omega)]
      have hne : ¬ (b2s (keyN (ns.getD n default).l (ns.getD n default).r) = b2s (keyN (ns.getD i default).l (ns.getD i default).r)) := fun e => by
       have := hk n (by omega) _ _ (fun z hz => (oo.1 z hz).1) (fun z hz => (oo.2 z hz).1) e
       exact h.diff n i (by omega) hi this
      have hd := decide_eq_false hne
      simp only [List.map_cons, List.map_nil, List.find?_cons, hd, List.find?_nil]
      rfl
  have := (key ns.length).resolve_right (by omega)
  rw [if_pos hi] at this
  exact this
 ·intro l r z hl hr hz
  unfold look flOf at hz
  obtain ⟨p, hp, e⟩ := Option.map_eq_some_iff.1 hz
  have h1 := List.mem_of_find?_eq_some hp
  obtain ⟨i, hi, rfl⟩ := List.mem_map.1 h1
  have h3 := List.find?_some hp
  simp only [decide_eq_true_eq] at h3
  have h2 := h3
  have hi' := List.mem_range.1 hi
  exact ⟨i, hi', e.symm, hk i hi' l r hl hr h2⟩
theorem bkq_ok {ns : List Nd} {bs : List Int} (h : Ar ns bs) : PoolOk (bkq ns bs) :=
 ⟨h, find_fl h, (fun _ _ _ h => by cases h), (fun _ _ h => by cases h), (fun _ _ _ h => by cases h), (fun _ _ h => by cases h)⟩
theorem putN_app {ns : List Nd} {bs xs ys : List Int} : putN ns bs xs ys = ns ∨ putN ns bs xs ys = ns ++ [putNd xs ys] := by
 unfold putN
 split
 ·exact Or.inl rfl
 ·exact Or.inr rfl
structure PutOk (ns : List Nd) (bs xs ys : List Int) : Prop where
 ok : PoolOk (bkq (putN ns bs xs ys) (putB ns bs xs ys))
 px : PX (bkq ns bs) (bkq (putN ns bs xs ys) (putB ns bs xs ys))
 pl : PlaceOk (bkq (putN ns bs xs ys) (putB ns bs xs ys)) (putK ns bs xs ys)
 pd : pd (bkq (putN ns bs xs ys) (putB ns bs xs ys)) (putK ns bs xs ys) = mkG (xs.map (Go.GL.pd (bkq ns bs))) (ys.map (Go.GL.pd (bkq ns bs)))
 len : (putN ns bs xs ys).length ≤ ns.length + 1
theorem bk_put {ns : List Nd} {bs xs ys : List Int} (h : PoolOk (bkq ns bs)) (hl : ns.length + 1 ≤ 1048576) (hls : xs.length ≤ 1048576 ∧ ys.length ≤ 1048576) (h1 : ∀ z ∈ xs, PlaceOk (bkq ns bs) z) (h2 : ∀ z ∈ ys, PlaceOk (bkq ns bs) z) : PutOk ns bs xs ys := by
 have ha : Ar ns bs := h.ar
 have b1 := places_of h1
 have b2 := places_of h2
 have hp := ha.put hl hls b1 b2
 have hb := ha.ok.put hl hls b1 b2
 have hn := putN_app (ns := ns) (bs := bs) (xs := xs) (ys := ys)
 refine ⟨bkq_ok hp.1, ⟨?_, fun k hk => ?_, fun _ h => h⟩, hb.2.1, hp.2.1, ?_⟩
 ·show ns.length ≤ (putN ns bs xs ys).length
  rcases hn with e | e <;> rw [e]
  ·exact Nat.le_refl _
  ·simp
 ·show (putN ns bs xs ys).getD k default = ns.getD k default
  rcases hn with e | e <;> rw [e]
  exact getD_append_left hk
 ·rcases hn with e | e <;> rw [e] <;> simp
section
variable {q q' : PSt} {ats : List Int} {k : Nat} {φ : Nat → Nat}
end
theorem book_form {ns : List Nd} {bs : List Int} (h : PoolOk (bkq ns bs)) {z : Int} (hz : PlaceOk (bkq ns bs) z) : formM ns bs z.toNat = formG (pd (bkq ns bs) z) := form_eq h.ar (m := z.toNat) (show z.toNat < ns.length by have := hz.1; have h2 : z < (ns.length : Int) := hz.2; omega)

end Go.GL

namespace Go.GL
open Go Go.RowKit

end Go.GL

namespace Go.GL
open Go Go.RowKit
structure AllW (fs : List (List Nd)) : Prop where
 len : fs.length ≤ 100
 ok : ∀ i, i < fs.length → FormOk (fs.getD i []) ∧ 1 ≤ (fs.getD i []).length ∧ (fs.getD i []).length ≤ 1000
noncomputable def mkGm (fs gs : List (List Nd)) : Nat := mkG (fs.map gOf) (gs.map gOf)
structure RootOk (ns : List Nd) (bs : List Int) (fs : List Nd) : Prop where
 ok : PoolOk (bkq (addM ns bs fs).2.1 (addM ns bs fs).2.2)
 px : PX (bkq ns bs) (bkq (addM ns bs fs).2.1 (addM ns bs fs).2.2)
 pl : PlaceOk (bkq (addM ns bs fs).2.1 (addM ns bs fs).2.2) (rootM ns bs fs)
 pd : pd (bkq (addM ns bs fs).2.1 (addM ns bs fs).2.2) (rootM ns bs fs) = gOf fs
 len : (addM ns bs fs).2.1.length ≤ ns.length + fs.length
theorem addM_old {ns : List Nd} {bs : List Int} {fs : List Nd} : ∀ k, k ≤ fs.length → ns.length ≤ (addM ns bs (fs.take k)).2.1.length ∧ ∀ j, j < ns.length → (addM ns bs (fs.take k)).2.1.getD j default = ns.getD j default := by
 intro k
 induction k with
 | zero => intro _; exact ⟨Nat.le_refl _, fun j _ => rfl⟩
 | succ k ih =>
  intro hk
  obtain ⟨h1, h2⟩ := ih (by omega)
  rw [addM_next (by omega)]
  generalize addM ns bs (fs.take k) = s at h1 h2
  obtain ⟨az, ns2, bs2⟩ := s
  show ns.length ≤ (putN ns2 bs2 _ _).length ∧ ∀ j, j < ns.length → (putN ns2 bs2 _ _).getD j default = ns.getD j default
  simp only at h1 h2
  rcases putN_app (ns := ns2) (bs := bs2) (xs := atL az (fs.getD k default).l) (ys := atL az (fs.getD k default).r) with e | e <;> rw [e]
  ·exact ⟨h1, h2⟩
  ·refine ⟨by simp; omega, fun j hj => ?_⟩
   rw [getD_append_left (by omega)]; exact h2 j hj
theorem bk_root {ns : List Nd} {bs : List Int} {fs : List Nd} (h : PoolOk (bkq ns bs)) (hf : FormOk fs) (h1 : 1 ≤ fs.length) (hl : ns.length + fs.length ≤ 1048576) : RootOk ns bs fs := by
 have ha : Ar ns bs := h.ar
 have hd := ha.add hf hl
 have hr := ha.root hf h1 hl
 have hao := addM_all ha.ok hf hl
 have ho := addM_old (ns := ns) (bs := bs) (fs := fs) fs.length (Nat.le_refl _)
 rw [List.take_length] at ho
 have hp := hao.places (fs.length - 1) (by have := hao.len; omega)
 have hal := hao.len
 have e : rootM ns bs fs = (addM ns bs fs).1.getD (fs.length - 1) 0 := by unfold rootM; rw [hal]
 refine ⟨bkq_ok hd.ar, ⟨ho.1, ho.2, fun _ h => h⟩, ?_, hr, hao.hi⟩
 rw [e]; exact hp
theorem take_map {fs : List (List Nd)} {j : Nat} (h : j < fs.length) : (fs.take (j + 1)).map gOf = (fs.take j).map gOf ++ [gOf (fs.getD j [])] := by
 rw [take_snoc fs [] h, List.map_append]; rfl

theorem sub_mk {ls rs : List Nat} {x : Nat} (h : SubG (mkG ls rs) x) : x = mkG ls rs ∨ ∃ y, y ∈ ls ++ rs ∧ SubG y x := by
 induction h with
 | self => exact Or.inl rfl
 | left _ hl ih =>
  rcases ih with rfl | ⟨y, hy, hs⟩
  ·exact Or.inr ⟨_, List.mem_append_left _ (lo_mk.1 hl), .self⟩
  ·exact Or.inr ⟨y, hy, hs.left hl⟩
 | right _ hl ih =>
  rcases ih with rfl | ⟨y, hy, hs⟩
  ·exact Or.inr ⟨_, List.mem_append_right _ (ro_mk.1 hl), .self⟩
  ·exact Or.inr ⟨y, hy, hs.right hl⟩
theorem form_le {g : Nat} {ns : List Nd} (h : IsForm g ns) {L : List Nat} (hL : ∀ x, SubG g x → x ∈ L) : ns.length ≤ L.length := by
 have h1 : ((List.range ns.length).map (den ns)).Nodup := by
  unfold List.Nodup
  rw [List.pairwise_map]
  exact (List.nodup_range (n := ns.length)).imp_of_mem fun {a b} ha hb hne e => hne (h.1.inj (List.mem_range.1 ha) (List.mem_range.1 hb) e)
 have h2 : ((List.range ns.length).map (den ns)) ⊆ L := fun x hx => by
  obtain ⟨j, hj, rfl⟩ := List.mem_map.1 hx
  exact hL _ (h.2 ▸ (sg_sub h.1).1 ⟨j, List.mem_range.1 hj, rfl⟩)
 have := h1.length_le_of_subset h2
 simpa using this
theorem isform_ok {g : Nat} {ns : List Nd} (h : IsForm g ns) (hl : ns.length ≤ 1048576) : FormOk ns :=
 ⟨hl, h.1.opts, fun i hi => by
  have oo := optsAt h.1.opts hi
  have a := nodup_len i _ (nodup_lt (h.1.pw i hi).1) oo.1
  have b := nodup_len i _ (nodup_lt (h.1.pw i hi).2) oo.2
  omega⟩
theorem mk_books : ∀ (l : List (List Nd)) (ns : List Nd) (bs : List Int), PoolOk (bkq ns bs) → (∀ f ∈ l, FormOk f ∧ 1 ≤ f.length ∧ f.length ≤ 1000) → ns.length + 1000 * l.length ≤ 1048575 →
  ∃ ns2 bs2 ats, PoolOk (bkq ns2 bs2) ∧ PX (bkq ns bs) (bkq ns2 bs2) ∧ GsOk (bkq ns2 bs2) ats (l.map gOf) ∧ ns2.length ≤ ns.length + 1000 * l.length
 | [], ns, bs, h, _, _ => ⟨ns, bs, [], h, PX.refl _, GsOk.nil, Nat.le_refl _⟩
 | f :: l, ns, bs, h, hl, hb => by
  rw [List.length_cons] at hb
  obtain ⟨f1, f2, f3⟩ := hl f List.mem_cons_self
  have hr := bk_root (fs := f) h f1 f2 (by omega)
  have hlen := hr.len
  obtain ⟨ns2, bs2, ats, h1, h2, h3, h4⟩ := mk_books l _ _ hr.ok (fun g hg => hl g (List.mem_cons_of_mem _ hg)) (by omega)
  refine ⟨ns2, bs2, rootM ns bs f :: ats, h1, hr.px.trans h2, ⟨fun z hz => ?_, ?_⟩, by rw [List.length_cons]; omega⟩
  ·rcases List.mem_cons.1 hz with rfl | hz
   ·exact h2.place hr.pl
   ·exact h3.pl z hz
  ·rw [List.map_cons, List.map_cons, h3.eq, h2.pd hr.ok h1 hr.pl, hr.pd]
theorem allW_mem {fs : List (List Nd)} (h : AllW fs) : ∀ f ∈ fs, FormOk f ∧ 1 ≤ f.length ∧ f.length ≤ 1000 := fun f hf => by
 obtain ⟨i, hi, e⟩ := List.mem_iff_getElem.1 hf
 have := h.ok i hi
 have e2 : fs.getD i [] = f := by simp [List.getD, hi, e]
 rw [e2] at this; exact this
theorem mk_isform {fs gs : List (List Nd)} (hf : AllW fs) (hg : AllW gs) : IsForm (mkGm fs gs) (formG (mkGm fs gs)) := by
 have h1 := hf.len
 have h2 := hg.len
 obtain ⟨ns, bs, ats, a1, a2, a3, a4⟩ := mk_books fs [] [] (bkq_ok Ar.empty) (allW_mem hf) (by rw [List.length_nil]; omega)
 rw [List.length_nil] at a4
 obtain ⟨ns2, bs2, ats2, b1, b2, b3, b4⟩ := mk_books gs ns bs a1 (allW_mem hg) (by omega)
 have c := a3.px b2 a1 b1
 have l1 := c.len
 have l2 := b3.len
 rw [List.length_map] at l1 l2
 have hp := bk_put (xs := ats) (ys := ats2) b1 (by omega) ⟨by omega, by omega⟩ c.pl b3.pl
 have := form_is hp.ok hp.pl
 rw [hp.pd, c.eq, b3.eq] at this
 exact this
end Go.GL

namespace Go.GL
open Go Go.RowKit
end Go.GL

namespace Go.GL
open Go Go.RowKit

end Go.GL

namespace Go.GL
open Go Go.RowKit
section
variable {P : Program} {w : World} {ρ : Operand → Value} {d : Option Nat} {t t' ty : Nat} {pos : String} {aft : Array Edge} {g : Option (Nat × Bool)} {x y : Operand} {i j : Int}
end
end Go.GL

namespace Go.GL
open Go Go.RowKit




end Go.GL

namespace Go.GL
open Go Go.RowKit
section
variable {q q' : PSt} {ats : List Int} {k : Nat} {φ : Nat → Nat}
end
section
variable {q q' : PSt} {sm : List (Int × Int)} {ats : List Int} {k a n : Nat} {gs : List Nd}
end
end Go.GL

namespace Go.GL
open Go Go.RowKit
end Go.GL

namespace Go.GL
open Go Go.RowKit
noncomputable def winL (g : Nat) : Bool := !decP (geG 0 g)
noncomputable def winR (g : Nat) : Bool := !decP (geG g 0)
theorem winL_iff {g : Nat} : winL g = true ↔ ∃ l, loG g l ∧ winR l = false := by
 unfold winL winR
 constructor
 ·intro h
  have h1 : ¬ geG 0 g := fun k => by rw [decP_true.2 k] at h; cases h
  rcases ge_not h1 with ⟨r, hr, _⟩ | ⟨l, hl, hg⟩
  ·exact absurd hr ro_zero
  ·exact ⟨l, hl, by rw [decP_true.2 hg]; rfl⟩
 ·rintro ⟨l, hl, h⟩
  have hg : geG l 0 := decP_true.1 (by cases e : decP (geG l 0) with
   | true => rfl
   | false => rw [e] at h; cases h)
  have : ¬ geG 0 g := fun k => (ge_iff.1 k).2 l hl hg
  rw [decP_false.2 this]; rfl
theorem winR_iff {g : Nat} : winR g = true ↔ ∃ r, roG g r ∧ winL r = false := by
 unfold winL winR
 constructor
 ·intro h
  have h1 : ¬ geG g 0 := fun k => by rw [decP_true.2 k] at h; cases h
  rcases ge_not h1 with ⟨r, hr, hg⟩ | ⟨l, hl, _⟩
  ·exact ⟨r, hr, by rw [decP_true.2 hg]; rfl⟩
  ·exact absurd hl lo_zero
 ·rintro ⟨r, hr, h⟩
  have hg : geG 0 r := decP_true.1 (by cases e : decP (geG 0 r) with
   | true => rfl
   | false => rw [e] at h; cases h)
  have : ¬ geG g 0 := fun k => (ge_iff.1 k).1 r hr hg
  rw [decP_false.2 this]; rfl
noncomputable def wnL (ns : List Nd) (k : Nat) : List Bool := (List.range k).map fun i => winL (den ns i)
noncomputable def wnR (ns : List Nd) (k : Nat) : List Bool := (List.range k).map fun i => winR (den ns i)
theorem wnL_at {ns : List Nd} {k i : Nat} (h : i < k) : (wnL ns k).getD i false = winL (den ns i) := by simp [wnL, List.getD, h]
theorem wnR_at {ns : List Nd} {k i : Nat} (h : i < k) : (wnR ns k).getD i false = winR (den ns i) := by simp [wnR, List.getD, h]
def anyN (t : List Bool) (l : List Int) : Bool := l.any fun o => !t.getD o.toNat false
theorem anyN_next {t : List Bool} {l : List Int} {j : Nat} (h : j < l.length) : anyN t (l.take (j + 1)) = (anyN t (l.take j) || !t.getD (l.getD j 0).toNat false) := by
 unfold anyN
 rw [take_snoc l 0 h, List.any_append]; simp
theorem anyN_L {ns : List Nd} (ho : OptsOk ns) {k : Nat} (hk : k < ns.length) {t : List Bool} (ht : ∀ i, i < k → t.getD i false = winR (den ns i)) : anyN t (ns.getD k default).l = winL (den ns k) := by
 have oo := (optsAt ho hk).1
 have key : anyN t (ns.getD k default).l = true ↔ winL (den ns k) = true := by
  rw [winL_iff]
  unfold anyN
  rw [List.any_eq_true]
  constructor
  ·rintro ⟨o, h1, h2⟩
   have := oo o h1
   rw [ht _ (by omega)] at h2
   exact ⟨_, (lo_den ho hk).2 ⟨o, h1, rfl⟩, by simpa using h2⟩
  ·rintro ⟨l, hl, h2⟩
   obtain ⟨o, h1, rfl⟩ := (lo_den ho hk).1 hl
   have := oo o h1
   exact ⟨o, h1, by rw [ht _ (by omega), h2]; rfl⟩
 exact Bool.eq_iff_iff.2 key
theorem anyN_R {ns : List Nd} (ho : OptsOk ns) {k : Nat} (hk : k < ns.length) {t : List Bool} (ht : ∀ i, i < k → t.getD i false = winL (den ns i)) : anyN t (ns.getD k default).r = winR (den ns k) := by
 have oo := (optsAt ho hk).2
 have key : anyN t (ns.getD k default).r = true ↔ winR (den ns k) = true := by
  rw [winR_iff]
  unfold anyN
  rw [List.any_eq_true]
  constructor
  ·rintro ⟨o, h1, h2⟩
   have := oo o h1
   rw [ht _ (by omega)] at h2
   exact ⟨_, (ro_den ho hk).2 ⟨o, h1, rfl⟩, by simpa using h2⟩
  ·rintro ⟨l, hl, h2⟩
   obtain ⟨o, h1, rfl⟩ := (ro_den ho hk).1 hl
   have := oo o h1
   exact ⟨o, h1, by rw [ht _ (by omega), h2]; rfl⟩
 exact Bool.eq_iff_iff.2 key
noncomputable def wmB (fs : List Nd) (left : Bool) : Bool := goodB fs && (if left = true then winL (gOf fs) else winR (gOf fs))
theorem wm_no {fs : List Nd} {left : Bool} (h : goodB fs = false) : wmB fs left = false := by unfold wmB; rw [h]; rfl
theorem wm_l {fs : List Nd} (h : goodB fs = true) : wmB fs true = winL (gOf fs) := by unfold wmB; rw [h]; rfl
theorem wm_r {fs : List Nd} (h : goodB fs = true) : wmB fs false = winR (gOf fs) := by unfold wmB; rw [h]; rfl
structure FwOk (f : Nat → Bool) (ns : List Nd) (i : Nat) (ls : List Bool) : Prop where
 len : ls.length = ns.length
 old : ∀ k, k < i → ls.getD k false = f (den ns k)
 new : ∀ k, i ≤ k → ls.getD k false = false
theorem FwOk.start {f : Nat → Bool} {ns : List Nd} {n : Nat} (h : n = ns.length) : FwOk f ns 0 (List.replicate n false) :=
 ⟨by simp [h], fun k hk => absurd hk (Nat.not_lt_zero k), fun k _ => by simp only [List.getD, List.getElem?_replicate]; split <;> rfl⟩
theorem fw_set {f : Nat → Bool} {ns : List Nd} {i : Nat} {ls t : List Bool} {l : List Int} (h : FwOk f ns i ls) (hi : i < ns.length) : ls = ls.set i (anyN t (l.take 0)) := by
 have hl := h.len
 have e : anyN t (l.take 0) = ls[i]'(by omega) := by
  have := h.new i (Nat.le_refl _)
  have q : ls.getD i false = ls[i]'(by omega) := by simp [List.getD, show i < ls.length by omega]
  rw [← q, this]; rfl
 rw [e]; simp
theorem fw_next {ls ls2 t : List Bool} {l : List Int} {i j : Nat} {b : Bool} (h : ls2 = ls.set i (anyN t (l.take j))) (hi : i < ls.length) (hj : j < l.length) (hb : b = (ls2.getD i false || !t.getD (l.getD j 0).toNat false)) :
  ls2.set i b = ls.set i (anyN t (l.take (j + 1))) := by
 have e : ls2.getD i false = anyN t (l.take j) := by rw [h]; simp [List.getD, hi]
 rw [anyN_next hj, hb, e, h, List.set_set]
theorem FwOk.put {f : Nat → Bool} {ns : List Nd} {i : Nat} {ls : List Bool} {b : Bool} (h : FwOk f ns i ls) (hi : i < ns.length) (hb : b = f (den ns i)) : FwOk f ns (i + 1) (ls.set i b) := by
 have hl := h.len
 refine ⟨by simp [hl], fun k hk => ?_, fun k hk => ?_⟩
 ·by_cases e : k = i
  ·subst e; rw [hb]; simp [List.getD, show k < ls.length by omega]
  ·have := h.old k (by omega)
   simpa [List.getD, List.getElem?_set, show ¬ i = k by omega] using this
 ·have := h.new k (by omega)
  simpa [List.getD, List.getElem?_set, show ¬ i = k by omega] using this
theorem FwOk.keep {f : Nat → Bool} {ns : List Nd} {i k : Nat} {ls : List Bool} {b : Bool} (h : FwOk f ns i ls) (hk : k < i) : (ls.set i b).getD k false = f (den ns k) := by
 have := h.old k hk
 simpa [List.getD, List.getElem?_set, show ¬ i = k by omega] using this
theorem FwOk.last {f : Nat → Bool} {ns : List Nd} {ls : List Bool} (h : FwOk f ns ns.length ls) (h1 : 1 ≤ ns.length) {z : Int} (hz : z = (ns.length : Int) - 1) : ls.getD z.toNat false = f (gOf ns) := by
 have := h.old (ns.length - 1) (by omega)
 rw [show z.toNat = ns.length - 1 by omega]; exact this
end Go.GL

namespace Go.GL
open Go
theorem gapp_at {α : Type} {l r : List α} {i : Nat} {d : α} (h : i < l.length) : (l ++ r).getD i d = l.getD i d := by
 simp only [List.getD, List.getElem?_append_left h]
theorem gset_at {α : Type} {l : List α} {i s : Nat} {x d : α} (h : i < l.length) : (l.set i x).getD s d = if s = i then x else l.getD s d := by
 by_cases e : s = i
 ·subst e; simp [List.getD, h]
 ·rw [if_neg e]; simp only [List.getD, List.getElem?_set_ne (fun a => e a.symm)]
def ArOk (N : List (List Int)) : Prop := ∀ s, s < N.length → ∀ k ∈ N.getD s [], 0 ≤ k ∧ k.toNat / 2 < s / 2 ∧ k.toNat % 2 ≠ s % 2 ∧ k.toNat < N.length
def winF (N : List (List Int)) : Nat → Nat → Bool
 | 0, _ => false
 | f + 1, s => (N.getD s []).any fun k => !winF N f k.toNat
def winA (N : List (List Int)) (s : Nat) : Bool := winF N (s / 2 + 1) s
theorem winF_stable {N : List (List Int)} (h : ArOk N) : ∀ (n f g s : Nat), s / 2 ≤ n → s < N.length → s / 2 < f → s / 2 < g → winF N f s = winF N g s
 | n, 0, g, s, hn, hs, hf, hg => by omega
 | n, f + 1, 0, s, hn, hs, hf, hg => by omega
 | 0, f + 1, g + 1, s, hn, hs, hf, hg => by
  have e : N.getD s [] = [] := by
   cases hc : N.getD s [] with
   | nil => rfl
   | cons k r =>
    have := h s hs k (by rw [hc]; exact List.mem_cons_self)
    omega
  simp only [winF, e, List.any_nil]
 | n + 1, f + 1, g + 1, s, hn, hs, hf, hg => by
  have key : ∀ k ∈ N.getD s [], winF N f k.toNat = winF N g k.toNat := fun k hk => by
   have hk2 := h s hs k hk
   exact winF_stable h n f g k.toNat (by omega) hk2.2.2.2 (by omega) (by omega)
  simp only [winF]
  rw [Bool.eq_iff_iff, List.any_eq_true, List.any_eq_true]
  constructor
  ·rintro ⟨k, hk, hw⟩; exact ⟨k, hk, by rw [← key k hk]; exact hw⟩
  ·rintro ⟨k, hk, hw⟩; exact ⟨k, hk, by rw [key k hk]; exact hw⟩
theorem winA_step {N : List (List Int)} (h : ArOk N) {s : Nat} (hs : s < N.length) : winA N s = (N.getD s []).any fun k => !winA N k.toNat := by
 unfold winA
 show ((N.getD s []).any fun k => !winF N (s / 2) k.toNat) = _
 rw [Bool.eq_iff_iff, List.any_eq_true, List.any_eq_true]
 have key : ∀ k ∈ N.getD s [], winF N (s / 2) k.toNat = winF N (k.toNat / 2 + 1) k.toNat := fun k hk => by
  have hk2 := h s hs k hk
  exact winF_stable h (k.toNat / 2) _ _ _ (Nat.le_refl _) hk2.2.2.2 hk2.2.1 (Nat.lt_succ_self _)
 constructor
 ·rintro ⟨k, hk, hw⟩; exact ⟨k, hk, by rw [← key k hk]; exact hw⟩
 ·rintro ⟨k, hk, hw⟩; exact ⟨k, hk, by rw [key k hk]; exact hw⟩
def mvA (s : Nat) : Int := 1 + ((s % 2 : Nat) : Int)
def wnA (N : List (List Int)) (s : Nat) : Int := if winA N s = true then mvA s else 3 - mvA s
theorem mvA_pos (s : Nat) : mvA s = 1 ∨ mvA s = 2 := by unfold mvA; omega
theorem wnA_pos (N : List (List Int)) (s : Nat) : wnA N s = 1 ∨ wnA N s = 2 := by
 have := mvA_pos s
 unfold wnA; split <;> omega
structure ArI (N : List (List Int)) (t : Int) (rs : List (Int × Int)) : Prop where
 len : rs.length = N.length
 ok : ∀ s, s < N.length → (rs.getD s default).1 = 0 ∨ ((rs.getD s default).1 = wnA N s ∧ (rs.getD s default).2 < t)
def hitP (rs : List (Int × Int)) (t : Int) (p : Int) (k : Int) : Prop := (rs.getD k.toNat default).1 = p ∧ (rs.getD k.toNat default).2 < t
instance {rs : List (Int × Int)} {t p k : Int} : Decidable (hitP rs t p k) := by unfold hitP; infer_instance
def decW (N : List (List Int)) (rs : List (Int × Int)) (t : Int) (s : Nat) : Int := if (N.getD s []).any (fun k => decide (hitP rs t (mvA s) k)) = true then mvA s else 3 - mvA s
def decB (N : List (List Int)) (rs : List (Int × Int)) (t : Int) (s : Nat) : Bool := (N.getD s []).any (fun k => decide (hitP rs t (mvA s) k)) || (N.getD s []).all (fun k => decide (hitP rs t (3 - mvA s) k))
theorem mvA_next {s k : Nat} (h : k % 2 ≠ s % 2) : mvA k = 3 - mvA s := by unfold mvA; omega
theorem wn_next {N : List (List Int)} {s k : Nat} (h : k % 2 ≠ s % 2) : (wnA N k = mvA s ↔ winA N k = false) ∧ (wnA N k = 3 - mvA s ↔ winA N k = true) := by
 have e := mvA_next h
 have p := mvA_pos s
 unfold wnA
 cases winA N k <;> simp <;> omega
theorem dec_ok {N : List (List Int)} (h : ArOk N) {t : Int} {rs : List (Int × Int)} (hi : ArI N t rs) {s : Nat} (hs : s < N.length) (hd : decB N rs t s = true) : decW N rs t s = wnA N s := by
 have key : ∀ k ∈ N.getD s [], ∀ p, p = mvA s ∨ p = 3 - mvA s → hitP rs t p k → wnA N k.toNat = p := fun k hk p hp hh => by
  have hk2 := h s hs k hk
  have p1 := mvA_pos s
  rcases hi.ok k.toNat hk2.2.2.2 with e | e
  ·have := hh.1; omega
  ·rw [← e.1]; exact hh.1
 unfold decW
 by_cases ha : (N.getD s []).any (fun k => decide (hitP rs t (mvA s) k)) = true
 ·rw [if_pos ha]
  obtain ⟨k, hk, hh⟩ := List.any_eq_true.1 ha
  have hk2 := h s hs k hk
  have e := ((wn_next hk2.2.2.1).1.1 (key k hk _ (Or.inl rfl) (of_decide_eq_true hh)))
  unfold wnA
  rw [winA_step h hs, if_pos (List.any_eq_true.2 ⟨k, hk, by rw [e]; rfl⟩)]
 ·rw [if_neg ha]
  have hb : (N.getD s []).all (fun k => decide (hitP rs t (3 - mvA s) k)) = true := by
   unfold decB at hd
   rw [Bool.or_eq_true] at hd
   exact hd.resolve_left ha
  unfold wnA
  rw [winA_step h hs, if_neg]
  intro hc
  obtain ⟨k, hk, hw⟩ := List.any_eq_true.1 hc
  have hk2 := h s hs k hk
  have e := ((wn_next hk2.2.2.1).2.1 (key k hk _ (Or.inr rfl) (of_decide_eq_true (List.all_eq_true.1 hb k hk))))
  rw [e] at hw; cases hw
theorem dec_all {N : List (List Int)} (h : ArOk N) {t : Int} {rs : List (Int × Int)} (hi : ArI N t rs) (hn : ∀ s, s < N.length → (rs.getD s default).1 = 0 → decB N rs t s = false) :
  ∀ n s, s / 2 ≤ n → s < N.length → (rs.getD s default).1 = wnA N s := by
 intro n
 induction n using Nat.strongRecOn with
 | ind n ih =>
  intro s hsn hs
  rcases hi.ok s hs with e | e
  ·exfalso
   have hd := hn s hs e
   have key : ∀ k ∈ N.getD s [], hitP rs t (wnA N k.toNat) k := fun k hk => by
    have hk2 := h s hs k hk
    have a : (rs.getD k.toNat default).1 = wnA N k.toNat := ih (k.toNat / 2) (by omega) k.toNat (Nat.le_refl _) hk2.2.2.2
    refine ⟨a, ?_⟩
    rcases hi.ok k.toNat hk2.2.2.2 with b | b
    ·have := wnA_pos N k.toNat; omega
    ·exact b.2
   unfold decB at hd
   rw [Bool.or_eq_false_iff] at hd
   have hall : (N.getD s []).all (fun k => decide (hitP rs t (3 - mvA s) k)) = true := List.all_eq_true.2 fun k hk => by
    have hk2 := h s hs k hk
    have a := key k hk
    have p1 := mvA_pos s
    have p2 := wnA_pos N k.toNat
    by_cases hw : wnA N k.toNat = mvA s
    ·rw [hw] at a
     have := List.any_eq_false.1 hd.1 k hk
     exact absurd (decide_eq_true a) this
    ·rw [show 3 - mvA s = wnA N k.toNat by omega]; exact decide_eq_true a
   rw [hall] at hd
   cases hd.2
  ·exact e.1
def zc (rs : List (Int × Int)) : Nat := rs.countP fun p => p.1 = 0
theorem zc_set {x : Int × Int} (hx : x.1 ≠ 0) : ∀ {rs : List (Int × Int)} {i : Nat}, i < rs.length → zc (rs.set i x) ≤ zc rs ∧ ((rs.getD i default).1 = 0 → zc (rs.set i x) < zc rs)
 | [], i, h => by cases h
 | p :: r, 0, _ => by
  have e1 : zc ((p :: r).set 0 x) = zc r := by
   show List.countP _ (x :: r) = _
   rw [List.countP_cons_of_neg (by simpa using hx)]; rfl
  have e2 : zc (p :: r) = zc r + if p.1 = 0 then 1 else 0 := by
   unfold zc
   rw [List.countP_cons]
   by_cases hp : p.1 = 0 <;> simp [hp]
  rw [e1, e2]
  refine ⟨Nat.le_add_right _ _, fun h => ?_⟩
  have h' : p.1 = 0 := h
  rw [if_pos h']; omega
 | p :: r, i + 1, h => by
  have ih := zc_set hx (rs := r) (i := i) (by simpa using h)
  have e1 : zc ((p :: r).set (i + 1) x) = zc (r.set i x) + if p.1 = 0 then 1 else 0 := by
   unfold zc
   rw [List.set_cons_succ, List.countP_cons]
   by_cases hp : p.1 = 0 <;> simp [hp]
  have e2 : zc (p :: r) = zc r + if p.1 = 0 then 1 else 0 := by
   unfold zc
   rw [List.countP_cons]
   by_cases hp : p.1 = 0 <;> simp [hp]
  rw [e1, e2]
  exact ⟨by omega, fun hq => by have := ih.2 (by simpa [List.getD] using hq); omega⟩
structure FdI (N : List (List Int)) (rs : List (Int × Int)) (t : Int) (j : Nat) (fs : List Int) (ts : List (Int × Int)) : Prop where
 len : ts.length = fs.length
 le : fs.length ≤ j
 ok : ∀ i, i < fs.length → 0 ≤ fs.getD i 0 ∧ (fs.getD i 0).toNat < j ∧ (rs.getD (fs.getD i 0).toNat default).1 = 0 ∧ decB N rs t (fs.getD i 0).toNat = true ∧ ts.getD i default = (decW N rs t (fs.getD i 0).toNat, t)
 all : fs = [] → ∀ s, s < j → (rs.getD s default).1 = 0 → decB N rs t s = false
theorem FdI.start {N : List (List Int)} {rs : List (Int × Int)} {t : Int} : FdI N rs t 0 [] [] := ⟨rfl, Nat.le_refl _, fun i hi => absurd hi (Nat.not_lt_zero i), fun _ s hs => absurd hs (Nat.not_lt_zero s)⟩
theorem FdI.no {N : List (List Int)} {rs : List (Int × Int)} {t : Int} {j : Nat} {fs : List Int} {ts : List (Int × Int)} (h : FdI N rs t j fs ts) (hn : (rs.getD j default).1 ≠ 0 ∨ decB N rs t j = false) : FdI N rs t (j + 1) fs ts :=
 ⟨h.len, by have := h.le; omega, fun i hi => by have a := h.ok i hi; exact ⟨a.1, by omega, a.2.2⟩, fun he s hs hz => by
  by_cases e : s = j
  ·subst e
   rcases hn with a | a
   ·exact absurd hz a
   ·exact a
  ·exact h.all he s (by omega) hz⟩
theorem FdI.yes {N : List (List Int)} {rs : List (Int × Int)} {t : Int} {j : Nat} {fs : List Int} {ts : List (Int × Int)} (h : FdI N rs t j fs ts) (hz : (rs.getD j default).1 = 0) (hd : decB N rs t j = true) : FdI N rs t (j + 1) (fs ++ [(j : Int)]) (ts ++ [(decW N rs t j, t)]) := by
 refine ⟨by simp [h.len], by have := h.le; simp; omega, fun i hi => ?_, fun he => by simp at he⟩
 by_cases e : i < fs.length
 ·have a := h.ok i e
  rw [gapp_at e, gapp_at (by rw [h.len]; exact e)]
  exact ⟨a.1, by omega, a.2.2⟩
 ·have e2 : i = fs.length := by simp at hi; omega
  subst e2
  rw [show (fs ++ [(j : Int)]).getD fs.length 0 = (j : Int) by simp [List.getD], show (ts ++ [(decW N rs t j, t)]).getD fs.length default = (decW N rs t j, t) by simp [List.getD, ← h.len]]
  exact ⟨by omega, by simp, by simpa using hz, by simpa using hd, by simp⟩
structure TdI (N : List (List Int)) (rs : List (Int × Int)) (t : Int) (q : Nat) (rs2 : List (Int × Int)) : Prop where
 len : rs2.length = rs.length
 ok : ∀ s, s < rs.length → rs2.getD s default = rs.getD s default ∨ ((rs.getD s default).1 = 0 ∧ decB N rs t s = true ∧ rs2.getD s default = (decW N rs t s, t))
 zle : zc rs2 ≤ zc rs
 zlt : 1 ≤ q → zc rs2 < zc rs
 z0 : q = 0 → rs2 = rs
theorem TdI.start {N : List (List Int)} {rs : List (Int × Int)} {t : Int} : TdI N rs t 0 rs := ⟨rfl, fun s _ => Or.inl rfl, Nat.le_refl _, fun h => absurd h (by omega), fun _ => rfl⟩
theorem decW_ne {N : List (List Int)} {rs : List (Int × Int)} {t : Int} {s : Nat} : decW N rs t s ≠ 0 := by
 have := mvA_pos s
 unfold decW; split <;> omega
theorem TdI.next {N : List (List Int)} {rs rs2 : List (Int × Int)} {t : Int} {j q : Nat} {fs : List Int} {ts : List (Int × Int)} (h : TdI N rs t q rs2) (hf : FdI N rs t j fs ts) (hq : q < fs.length) (hj : j ≤ rs.length) : TdI N rs t (q + 1) (rs2.set (fs.getD q 0).toNat (ts.getD q default)) := by
 obtain ⟨h0, h1, h2, h3, h4⟩ := hf.ok q hq
 have hl : (fs.getD q 0).toNat < rs2.length := by rw [h.len]; omega
 rw [h4]
 have hz := zc_set (x := (decW N rs t (fs.getD q 0).toNat, t)) decW_ne hl
 refine ⟨by rw [List.length_set]; exact h.len, fun s hs => ?_, Nat.le_trans hz.1 h.zle, fun _ => ?_, fun e => by omega⟩
 ·by_cases e : (fs.getD q 0).toNat = s
  ·subst e
   right
   exact ⟨h2, h3, by rw [gset_at hl, if_pos rfl]⟩
  ·rw [gset_at hl, if_neg (fun a => e a.symm)]
   exact h.ok s hs
 ·by_cases e : 1 ≤ q
  ·have := h.zlt e; omega
  ·have e2 := h.z0 (by omega)
   have := hz.2 (by rw [e2]; exact h2)
   have := h.zle
   omega
theorem TdI.done {N : List (List Int)} (h : ArOk N) {rs rs2 : List (Int × Int)} {t : Int} {q : Nat} (hi : ArI N t rs) (hd : TdI N rs t q rs2) : ArI N (t + 1) rs2 :=
 ⟨hd.len.trans hi.len, fun s hs => by
  rcases hd.ok s (by rw [hi.len]; exact hs) with a | ⟨a, b, c⟩
  ·rw [a]
   rcases hi.ok s hs with d | d
   ·exact Or.inl d
   ·exact Or.inr ⟨d.1, by omega⟩
  ·rw [c]
   exact Or.inr ⟨dec_ok h hi hs b, by show t < t + 1; omega⟩⟩
theorem FdI.done {N : List (List Int)} (h : ArOk N) {rs : List (Int × Int)} {t : Int} {fs : List Int} {ts : List (Int × Int)} (hi : ArI N t rs) (hf : FdI N rs t N.length fs ts) (he : fs = []) : ∀ s, s < N.length → (rs.getD s default).1 = wnA N s :=
 fun s hs => dec_all h hi (fun s hs hz => hf.all he s hs hz) (s / 2) s (Nat.le_refl _) hs
theorem ArI.start (N : List (List Int)) : ArI N 0 (List.replicate N.length (0, 0)) := ⟨by simp, fun s hs => Or.inl (by simp [List.getD, hs])⟩
theorem zc_start (n : Nat) : zc (List.replicate n ((0, 0) : Int × Int)) ≤ n := by
 unfold zc
 exact Nat.le_trans List.countP_le_length (by simp)

def arS (s : Int) (l : List Int) : List Int := l.map fun k => 2 * k + s
def arN : List (List Int) → List (List Int) → List (List Int)
 | l :: L, r :: R => arS 1 l :: arS 0 r :: arN L R
 | _, _ => []
theorem arN_length : ∀ {L R : List (List Int)}, L.length = R.length → (arN L R).length = 2 * L.length
 | [], [], _ => rfl
 | l :: L, r :: R, h => by
  have := arN_length (L := L) (R := R) (by simpa using h)
  simp only [arN, List.length_cons, this]; omega
theorem arN_at : ∀ {L R : List (List Int)}, L.length = R.length → ∀ {i : Nat}, i < L.length → (arN L R).getD (2 * i) [] = arS 1 (L.getD i []) ∧ (arN L R).getD (2 * i + 1) [] = arS 0 (R.getD i [])
 | l :: L, r :: R, h, 0, _ => ⟨rfl, rfl⟩
 | l :: L, r :: R, h, i + 1, hi => by
  have ih := arN_at (L := L) (R := R) (by simpa using h) (i := i) (by simpa using hi)
  rw [show 2 * (i + 1) = 2 * i + 1 + 1 by omega]
  exact ih
theorem arN_snoc : ∀ {L R : List (List Int)} {l r : List Int}, L.length = R.length → arN (L ++ [l]) (R ++ [r]) = arN L R ++ [arS 1 l, arS 0 r]
 | [], [], _, _, _ => rfl
 | a :: L, b :: R, l, r, h => by
  have := arN_snoc (L := L) (R := R) (l := l) (r := r) (by simpa using h)
  simp only [List.cons_append, arN, this]
def AcL (L : List (List Int)) : Prop := ∀ i, i < L.length → ∀ k ∈ L.getD i [], 0 ≤ k ∧ k < i
theorem arN_ok {L R : List (List Int)} (h : L.length = R.length) (hL : AcL L) (hR : AcL R) : ArOk (arN L R) := fun s hs k hk => by
 rw [arN_length h] at hs ⊢
 have hi : s / 2 < L.length := by omega
 have ha := arN_at h hi
 rcases (show s = 2 * (s / 2) ∨ s = 2 * (s / 2) + 1 by omega) with e | e
 ·rw [e, ha.1] at hk
  obtain ⟨x, hx, rfl⟩ := List.mem_map.1 hk
  have := hL _ hi x hx
  omega
 ·rw [e, ha.2] at hk
  obtain ⟨x, hx, rfl⟩ := List.mem_map.1 hk
  have := hR _ (by omega) x hx
  omega
end Go.GL

namespace Go.GL
open Go Go.RowKit
theorem good_small {ns : List Nd} (h : GoodP ns) : Small ns := ⟨Nat.le_trans h.hi (by decide), fun i hi => ⟨Nat.le_trans (h.lenl hi) (by decide), Nat.le_trans (h.lenr hi) (by decide)⟩⟩
theorem goodFrom_mono {b b' : Int} (hb : b ≤ b') : ∀ {l : List Int} {last : Int}, goodFrom last b l = true → goodFrom last b' l = true
 | [], _, _ => rfl
 | x :: r, last, h => by
  rw [goodFrom] at h ⊢
  split at h
  ·cases h
  ·rename_i hc
   rw [if_neg (by omega)]
   exact goodFrom_mono hb h
theorem goodOpts_mono {l : List Int} {b b' : Int} (hb : b ≤ b') (h : goodOpts l b = true) : goodOpts l b' = true := by
 unfold goodOpts at h ⊢
 split at h
 ·cases h
 ·rw [if_neg (by assumption)]; exact goodFrom_mono hb h
structure LgP (L R : List (List Int)) : Prop where
 lo : 1 ≤ L.length
 hi : L.length ≤ 36
 len : R.length = L.length
 ok : ∀ i, i < L.length → goodOpts (L.getD i []) (L.length : Int) = true ∧ goodOpts (R.getD i []) (L.length : Int) = true
theorem mapD_nd {ns : List Nd} {f : Nd → List Int} (hf : f default = []) (i : Nat) : (ns.map f).getD i [] = f (ns.getD i default) := by
 simp only [List.getD, List.getElem?_map]
 cases ns[i]? with
 | none => simpa using hf.symm
 | some n => rfl
theorem loop_lg {ns : List Nd} (h : GoodP ns) (hl : ns.length ≤ 36) : LgP (ns.map Nd.l) (ns.map Nd.r) :=
 ⟨by rw [List.length_map]; exact h.lo, by rw [List.length_map]; exact hl, by simp, fun i hi => by
  rw [List.length_map] at hi ⊢
  rw [mapD_nd rfl, mapD_nd rfl]
  have := h.opts i hi
  exact ⟨goodOpts_mono (by omega) this.1, goodOpts_mono (by omega) this.2⟩⟩
theorem loop_ac {ns : List Nd} (h : OptsOk ns) : AcL (ns.map Nd.l) ∧ AcL (ns.map Nd.r) :=
 ⟨fun i hi k hk => by
  rw [List.length_map] at hi
  rw [mapD_nd rfl] at hk
  exact (optsAt h hi).1 k hk, fun i hi k hk => by
  rw [List.length_map] at hi
  rw [mapD_nd rfl] at hk
  exact (optsAt h hi).2 k hk⟩
theorem anyS {N : List (List Int)} {t : List Bool} {s : Int} {l : List Int} (h : ∀ k ∈ l, winA N (2 * k + s).toNat = t.getD k.toNat false) : ((arS s l).any fun k => !winA N k.toNat) = anyN t l := by
 unfold arS anyN
 rw [List.any_map, Bool.eq_iff_iff, List.any_eq_true, List.any_eq_true]
 constructor
 ·rintro ⟨k, hk, hw⟩; exact ⟨k, hk, by rw [← h k hk]; exact hw⟩
 ·rintro ⟨k, hk, hw⟩; exact ⟨k, hk, by show (!winA N (2 * k + s).toNat) = true; rw [h k hk]; exact hw⟩
theorem arena_win {ns : List Nd} (h : OptsOk ns) : ∀ i, i < ns.length → winA (arN (ns.map Nd.l) (ns.map Nd.r)) (2 * i) = winL (den ns i) ∧ winA (arN (ns.map Nd.l) (ns.map Nd.r)) (2 * i + 1) = winR (den ns i) := by
 have hlen : (ns.map Nd.l).length = (ns.map Nd.r).length := by simp
 have hok := arN_ok hlen (loop_ac h).1 (loop_ac h).2
 have hL := arN_length hlen
 rw [List.length_map] at hL
 intro i
 induction i using Nat.strongRecOn with
 | ind i ih =>
  intro hi
  have ha := arN_at hlen (i := i) (by rw [List.length_map]; exact hi)
  have oo := optsAt h hi
  rw [winA_step hok (by omega), winA_step hok (by omega), ha.1, ha.2, mapD_nd rfl, mapD_nd rfl]
  constructor
  ·rw [anyS (t := wnR ns i) fun k hk => ?_]
   ·exact anyN_L h hi fun j hj => wnR_at hj
   ·have hk2 := oo.1 k hk
    have := (ih k.toNat (by omega) (by omega)).2
    rw [show (2 * k + 1).toNat = 2 * k.toNat + 1 by omega, this, wnR_at (by omega)]
  ·rw [anyS (t := wnL ns i) fun k hk => ?_]
   ·exact anyN_R h hi fun j hj => wnL_at hj
   ·have hk2 := oo.2 k hk
    have := (ih k.toNat (by omega) (by omega)).1
    rw [show (2 * k + 0).toNat = 2 * k.toNat by omega, this, wnL_at (by omega)]
theorem arena_last {ns : List Nd} (h : GoodP ns) : winA (arN (ns.map Nd.l) (ns.map Nd.r)) (2 * (ns.length - 1)) = winL (gOf ns) ∧ winA (arN (ns.map Nd.l) (ns.map Nd.r)) (2 * (ns.length - 1) + 1) = winR (gOf ns) := by
 have := h.lo
 exact arena_win h.optsOk (ns.length - 1) (by omega)

def PhV (ps : List Int) : Prop := ∀ x, x < ps.length → ps.getD x 0 = 0 ∨ ps.getD x 0 = 1 ∨ ps.getD x 0 = 2
def TuV (ts : List Int) : Prop := ∀ x, x < ts.length → 0 ≤ ts.getD x 0 ∧ ts.getD x 0 ≤ ((x / 2 : Nat) : Int)
def PhB (ps : List Int) (m : Nat) : Prop := ∀ x, x < ps.length → ps.getD x 0 = 1 → m < x / 2
def PhX (ps : List Int) (s : Nat) : Prop := ∀ x, x < ps.length → ps.getD x 0 = 1 → s / 2 < x / 2 ∨ x = s
def PhLe (ps ps' : List Int) : Prop := ps'.length = ps.length ∧ ∀ x, x < ps.length → ps'.getD x 0 = 1 → ps.getD x 0 = 1
theorem PhV.set {ps : List Int} (h : PhV ps) {s : Nat} {v : Int} (hv : v = 1 ∨ v = 2) (hs : s < ps.length) : PhV (ps.set s v) := fun x hx => by
 rw [List.length_set] at hx
 rw [gset_at hs]
 split
 ·omega
 ·exact h x hx
theorem PhB.mark {ps : List Int} {s : Nat} (h : PhB ps (s / 2)) (hs : s < ps.length) : PhX (ps.set s 1) s := fun x hx h1 => by
 rw [List.length_set] at hx
 rw [gset_at hs] at h1
 split at h1
 ·exact Or.inr (by assumption)
 ·exact Or.inl (h x hx h1)
theorem PhX.next {ps : List Int} {s k : Nat} (h : PhX ps s) (hk : k / 2 < s / 2) : PhB ps (k / 2) := fun x hx h1 => by
 rcases h x hx h1 with a | a
 ·omega
 ·subst a; exact hk
theorem PhX.le {ps ps' : List Int} {s : Nat} (h : PhX ps s) (hl : PhLe ps ps') : PhX ps' s := fun x hx h1 => h x (by rw [← hl.1]; exact hx) (hl.2 x (by rw [← hl.1]; exact hx) h1)
theorem PhLe.refl (ps : List Int) : PhLe ps ps := ⟨rfl, fun _ _ h => h⟩
theorem PhLe.trans {a b c : List Int} (h : PhLe a b) (k : PhLe b c) : PhLe a c := ⟨k.1.trans h.1, fun x hx h1 => h.2 x hx (k.2 x (by rw [h.1]; exact hx) h1)⟩
theorem PhLe.done {ps ps' : List Int} {s : Nat} (hs : s < ps.length) (h : PhLe (ps.set s 1) ps') : PhLe ps (ps'.set s 2) := by
 have hl : ps'.length = ps.length := by rw [h.1, List.length_set]
 refine ⟨by rw [List.length_set]; exact hl, fun x hx h1 => ?_⟩
 rw [gset_at (by omega)] at h1
 split at h1
 ·omega
 ·rename_i hne
  have h2 := h.2 x (by rw [List.length_set]; exact hx) h1
  rw [gset_at hs, if_neg hne] at h2
  exact h2
theorem TuV.set {ts : List Int} (h : TuV ts) {s k : Nat} (hs : s < ts.length) (hk : k < ts.length) (hlt : k / 2 < s / 2) : TuV (ts.set s (max (ts.getD s 0) (ts.getD k 0 + 1))) := fun x hx => by
 rw [List.length_set] at hx
 rw [gset_at hs]
 have a := h s hs
 have b := h k hk
 split
 ·subst_vars; omega
 ·exact h x hx
theorem PhV.zero (n : Nat) : PhV (List.replicate n 0) := fun x hx => Or.inl (by simp at hx; simp [List.getD, hx])
theorem TuV.zero (n : Nat) : TuV (List.replicate n 0) := fun x hx => by
 simp at hx
 have : (List.replicate n (0 : Int)).getD x 0 = 0 := by simp [List.getD, hx]
 omega
theorem PhLe.all {ps : List Int} {n : Nat} (h : PhLe (List.replicate n 0) ps) (m : Nat) : PhB ps m := fun x hx h1 => by
 have hx2 : x < n := by have := h.1; simp at this; omega
 have := h.2 x (by simpa using hx2) h1
 have e : (List.replicate n (0 : Int)).getD x 0 = 0 := by simp [List.getD, hx2]
 omega

theorem any_no {p : Int → Prop} [DecidablePred p] {l : List Int} {j : Nat} (h : j < l.length) (hn : (l.take j).any (fun k => decide (p k)) = false) (hp : ¬ p (l.getD j 0)) : (l.take (j + 1)).any (fun k => decide (p k)) = false := by
 rw [take_snoc l 0 h, List.any_append, hn]; simpa using hp
theorem all_f {p : Int → Prop} [DecidablePred p] {l : List Int} {j : Nat} {ls : Bool} (h : j < l.length) (hl : ls = (l.take j).all (fun k => decide (p k))) (hx : ls = false) : false = (l.take (j + 1)).all (fun k => decide (p k)) := by
 rw [take_snoc l 0 h, List.all_append, ← hl, hx]; rfl
theorem all_n {p : Int → Prop} [DecidablePred p] {l : List Int} {j : Nat} (h : j < l.length) (hp : ¬ p (l.getD j 0)) : false = (l.take (j + 1)).all (fun k => decide (p k)) := by
 rw [take_snoc l 0 h, List.all_append]
 have : decide (p (l.getD j 0)) = false := decide_eq_false hp
 simp only [List.all_cons, List.all_nil, this, Bool.false_and, Bool.and_false]
theorem all_d {p : Int → Prop} [DecidablePred p] {q : Prop} [Decidable q] {l : List Int} {j : Nat} {ls : Bool} (h : j < l.length) (hl : ls = (l.take j).all (fun k => decide (p k))) (hx : ls = true) (hq : q ↔ p (l.getD j 0)) : decide q = (l.take (j + 1)).all (fun k => decide (p k)) := by
 rw [take_snoc l 0 h, List.all_append, ← hl, hx]
 simp only [List.all_cons, List.all_nil, Bool.true_and, Bool.and_true]
 exact decide_eq_decide.2 hq
theorem dec_hit {N : List (List Int)} {rs : List (Int × Int)} {t : Int} {s j : Nat} (h : j < (N.getD s []).length) (hp : hitP rs t (mvA s) ((N.getD s []).getD j 0)) : decW N rs t s = mvA s ∧ decB N rs t s = true := by
 have : (N.getD s []).any (fun k => decide (hitP rs t (mvA s) k)) = true := List.any_eq_true.2 ⟨_, getD_mem h, decide_eq_true hp⟩
 unfold decW decB
 rw [this]
 exact ⟨if_pos rfl, rfl⟩
theorem dec_miss {N : List (List Int)} {rs : List (Int × Int)} {t : Int} {s j : Nat} {ls : Bool} (hj : (N.getD s []).length ≤ j) (hn : ((N.getD s []).take j).any (fun k => decide (hitP rs t (mvA s) k)) = false) (hl : ls = ((N.getD s []).take j).all (fun k => decide (hitP rs t (3 - mvA s) k))) :
  decW N rs t s = 3 - mvA s ∧ decB N rs t s = ls := by
 rw [List.take_of_length_le hj] at hn hl
 unfold decW decB
 rw [hn, ← hl]
 exact ⟨if_neg (by decide), rfl⟩
theorem arS_next {l : List Int} {q : Nat} (h : q < l.length) : arS 1 (l.take q) ++ [2 * l.getD q 0 + 1] = arS 1 (l.take (q + 1)) := map_next (f := fun k => 2 * k + 1) 0 h
theorem arS_next0 {l : List Int} {q : Nat} (h : q < l.length) : arS 0 (l.take q) ++ [2 * l.getD q 0] = arS 0 (l.take (q + 1)) := by
 have := map_next (f := fun k : Int => 2 * k + 0) 0 h
 unfold arS
 rw [← this]; simp
theorem arN_next {L R : List (List Int)} {j : Nat} (hl : L.length = R.length) (h : j < L.length) : arN (L.take j) (R.take j) ++ [arS 1 (L.getD j []), arS 0 (R.getD j [])] = arN (L.take (j + 1)) (R.take (j + 1)) := by
 rw [take_snoc L [] h, take_snoc R [] (by omega), arN_snoc (by simp only [List.length_take]; omega)]
def stZ (a : Int) (lf : Bool) : Int := if lf = true then 2 * a else 2 * a + 1
theorem stZ_bd {a : Int} {lf : Bool} {n : Nat} (h : 0 ≤ a ∧ a < n) : 0 ≤ stZ a lf ∧ stZ a lf < 2 * (n : Int) := by unfold stZ; split <;> omega
theorem LgP.lens {L R : List (List Int)} (h : LgP L R) : ∀ i, i < L.length → (L.getD i []).length ≤ 500000 ∧ (R.getD i []).length ≤ 500000 := fun i hi =>
 ⟨Nat.le_trans (goodOpts_len (h.ok i hi).1) (by decide), Nat.le_trans (goodOpts_len (h.ok i hi).2) (by decide)⟩
theorem c_retctt {P : Program} {n : Nat} {env : Nat → Value} {w : World} {fn : Func} {R : Ending → World → Prop} {s t b i i2 : Nat} {cs : List Value} {v v2 : Value} (hr : fn.results = #[.cell s t, .tmp i, .tmp i2]) (hs : Nat.blt s n = true) (hi : Nat.blt i n = true) (hi2 : Nat.blt i2 n = true) (hv : env s = .pointer (some ⟨b, 0, none⟩)) (hiv : env i = v) (hiv2 : env i2 = v2) (ha : (P.underlying t).map aggD = some true) (hz : (P.info? t).map (·.size) = some cs.length)
  (hc : ∀ j u, cs[j]? = some u → w.cell? ⟨b, 0 + j, none⟩ = some u) (h : R (.returned (.tuple #[.agg cs.toArray, v, v2])) w) : bodyPost P fn R .ret (F n env) w := by
 have h2 : s < n := by simpa [Nat.blt_eq] using hs
 have h3 : i < n := by simpa [Nat.blt_eq] using hi
 have h4 : i2 < n := by simpa [Nat.blt_eq] using hi2
 have hcell : ∀ j u, cs[j]? = some u → w.cell? ((⟨b, 0, none⟩ : Addr).add j) = some u := fun j u hj => by
  have := hc j u hj
  simp only [Addr.add]
  split
  ·simp_all
  ·exact this
 have hlv : (loadVar t ⟨b, 0, none⟩).run P w = .ok (.agg cs.toArray) w := by
  unfold loadVar
  simp only [Sem.run_bind, run_isAgg ha, Result.andThen_ok, if_true, run_sizeOf hz, run_loadCells_list (P := P) w ⟨b, 0, none⟩ cs hcell, Sem.run_pure]
 refine bodyPost_ret (v := .tuple #[.agg cs.toArray, v, v2]) ?_ rfl h
 have he : (F n env).tmps[s]?.getD undef = .pointer (some ⟨b, 0, none⟩) := by simp [F, h2, hv]
 have he2 : (F n env).tmps[i]?.getD undef = v := by simp [F, h3, hiv]
 have he3 : (F n env).tmps[i2]?.getD undef = v2 := by simp [F, h4, hiv2]
 simp [results, hr, he, he2, he3, asAddr, hlv]
section
variable {P : Program} {ρ : Operand → Value} {w : World} {K : Value → World → Prop} {d : Option Nat} {ty : Nat} {pos : String} {aft : Array Edge} {g : Option (Nat × Bool)}
theorem o_callc {f : FuncId} {fn : Func} {x : Operand} {xs : Array Operand} {ats : Array TypeId} {vs cs : List Value} (hf : P.funcs[f]? = some fn) (hn : (fn.name == "runtime.NumGoroutine") = false) (hb : fn.body.isNone = false) (hargs : xs.toList.map ρ = vs) (hρ : ρ x = .func (.func f) #[] cs.toArray)
  (h : Calls P f (vs ++ cs).toArray w fun e w' => ∃ v, e = .returned v ∧ K v w') : EO P ρ ⟨d, .call { callee := .value x, args := xs, argTypes := ats }, ty, pos, aft, g⟩ w K := by
 refine EO.call (f := f) (args := (vs ++ cs).toArray) (w1 := w) ?_ h
 have h1 : execOp ρ ⟨d, .call { callee := .value x, args := xs, argTypes := ats }, ty, pos, aft, g⟩ = callFunc f (#[] ++ xs.map ρ ++ cs.toArray) := by
  simp only [execOp, resolve, hρ]
  rfl
 have h2 : (#[] ++ xs.map ρ ++ cs.toArray : Array Value) = (vs ++ cs).toArray := by
  rw [Array.empty_append, ← hargs, ← Array.toList_map]
  simp
 have h3 : ¬ fn.name = "runtime.NumGoroutine" := by simpa using hn
 have h4 : ¬ fn.body = none := fun h => by rw [h] at hb; cases hb
 rw [h1, h2]
 simp [callFunc, hf, h3, h4]
end
def PinB (G : Pin) (b : Nat) (cs : List Value) : Prop := ∀ o u, cs[o]? = some u → G b o u
theorem PinB.mono {G G' : Pin} {b : Nat} {cs : List Value} (h : PinB G b cs) (hl : Pin.le G G') : PinB G' b cs := fun o u hu => hl _ _ _ (h o u hu)
theorem lp_good {ns : List Nd} (h : lpOk ns = true) : GoodP ns ∧ ns.length ≤ 36 := by
 unfold lpOk at h
 rw [Bool.and_eq_true] at h
 exact ⟨goodB_true.1 h.1, of_decide_eq_true h.2⟩
theorem lp_out {ns : List Nd} (h : GoodP ns) {z : Int} (hz : z = (ns.length : Int) - 1) :
  (wnA (arN (ns.map Nd.l) (ns.map Nd.r)) (stZ z true).toNat ≠ 0 ∧ wnA (arN (ns.map Nd.l) (ns.map Nd.r)) (stZ z false).toNat ≠ 0) ∧ decide (wnA (arN (ns.map Nd.l) (ns.map Nd.r)) (stZ z true).toNat = 1) = wmB ns true ∧ decide (wnA (arN (ns.map Nd.l) (ns.map Nd.r)) (stZ z false).toNat = 2) = wmB ns false := by
 have hlo := h.lo
 have hb := goodB_true.2 h
 have e := arena_last h
 have e1 : (stZ z true).toNat = 2 * (ns.length - 1) := by unfold stZ; rw [if_pos rfl]; omega
 have e2 : (stZ z false).toNat = 2 * (ns.length - 1) + 1 := by unfold stZ; rw [if_neg (by decide)]; omega
 rw [e1, e2, wm_l hb, wm_r hb, ← e.1, ← e.2]
 have m1 : mvA (2 * (ns.length - 1)) = 1 := by unfold mvA; omega
 have m2 : mvA (2 * (ns.length - 1) + 1) = 2 := by unfold mvA; omega
 unfold wnA
 rw [m1, m2]
 cases winA (arN (ns.map Nd.l) (ns.map Nd.r)) (2 * (ns.length - 1)) <;> cases winA (arN (ns.map Nd.l) (ns.map Nd.r)) (2 * (ns.length - 1) + 1) <;> decide
theorem lo_two {e lo : Nat} {G : Pin} {w : World} {pv tv : Value} {ps ts : List Int} {S : Nat → Prop} (h1 : Own eInt e G w lo pv ps) (h2 : Own eInt e G w lo tv ts) : ∀ k, inV [pv, tv] k → lo ≤ k ∨ S k := fun k ⟨u, hm, hk⟩ => by
 rcases List.mem_cons.1 hm with rfl | hm
 ·exact Or.inl (h1.lt k hk).1
 ·rw [List.mem_singleton] at hm
  subst hm
  exact Or.inl (h2.lt k hk).1
theorem beq_no {a b : Bool} (h : a = b) (k : (a == b) = false) : False := by subst h; simp at k
end Go.GL

namespace Go.GL
open Go Go.RowKit

theorem agg_cells (v : Value) : (Value.agg [v].toArray).cells.toList = [v] := by simp [Value.cells]
theorem flat_one : ∀ (vs : List Value), ((vs.map fun v => Value.agg [v].toArray).flatMap fun v => v.cells.toList) = vs
 | [] => rfl
 | v :: vs => by
  rw [List.map_cons, List.flatMap_cons, agg_cells v, flat_one vs]
  rfl
theorem o_buildA {α : Type} {E : Elt α} {P : Program} {ρ : Operand → Value} {w : World} {G : Pin} {K : Value → World → Prop} {d : Option Nat} {t ty e : Nat} {pos : String} {aft : Array Edge} {g : Option (Nat × Bool)}
  {n : Nat} {parts : Array (Nat × Operand)} (vs : List Value) (ys : List α) {z : Value} (ht : P.underlying t = some (.slice e)) (hs : (P.info? e).map (·.size) = some 1) (hz : (P.info? e).bind (·.zero) = some z)
  (hr : RepsF E G vs ys) (_ : ∀ u ∈ vs, u.oneCell' = true) (hn : n = vs.length) (hn2 : n = ys.length) (hE : E.size = 1)
  (hpt' : (parts.toList.map fun (i, x) => (i, ρ x)) = ((vs.map fun v => Value.agg [v].toArray).zipIdx 0).map fun x => (x.2, x.1)) (hpos : 0 < n ∧ n ≤ 1000000) (hP : Pins G w)
  (h : ∀ v w', Own E e G w' w.heap.size v ys → Pins G w' → Below w.heap.size w w' → v.ownBlock = some w.heap.size → K v w') : EO P ρ ⟨d, .buildSlice t n parts, ty, pos, aft, g⟩ w K := by
 have hpt := (Array.toList_map ..).trans hpt'
 obtain ⟨inf, hinf, hsz⟩ := Option.map_eq_some_iff.1 hs
 have hzz : inf.zero = some z := by simpa [hinf] using hz
 have hrun := run_buildSlice (P := P) w t e n (parts.map fun (i, x) => (i, ρ x)) vs.toArray inf z ht hinf hzz (by rw [hsz]; omega) (by rw [hsz]; omega)
  (by
   rw [hpt, hsz]
   have hf := Great.fill_whole (s := 1) (by decide) (vs.map fun v => Value.agg [v].toArray) ((Array.range (n * 1)).map (z.cells[· % z.cells.size]!)) (fun v hv => by
    obtain ⟨u, _, rfl⟩ := List.mem_map.1 hv
    have := congrArg List.length (agg_cells u)
    simpa using this) (by simp [hn])
   rw [hf, flat_one vs])
 obtain ⟨v, w', h1, h2, h3, h4, h5⟩ := run_build (E := E) (d := d) (ty := ty) (pos := pos) (aft := aft) (g := g) n parts vs ys hrun hP hn2 (by omega) (by rw [hE]; omega) (fun i y hy => by
  obtain ⟨v, hv, hrep⟩ := hr i y hy
  have : (vs.drop (i * E.size)).take E.size = [v] := by
   rw [hE, Nat.mul_one]
   apply List.ext_getElem?
   intro j
   rw [List.getElem?_take, List.getElem?_drop]
   match j with
   | 0 => simpa using hv
   | j + 1 => simp
  rw [this]; exact hrep)
 exact EO.run h1 (h v w' h2 h3 h4 h5)
theorem repsN {α : Type} {E : Elt α} {G : Pin} : RepsF E G [] [] := fun i y hy => by simp at hy
theorem repsC {α : Type} {E : Elt α} {G : Pin} {v : Value} {y : α} {vs : List Value} {ys : List α} (h : E.rep G [v] y) (k : RepsF E G vs ys) : RepsF E G (v :: vs) (y :: ys) := fun i z hz => by
 cases i with
 | zero => simp at hz; subst hz; exact ⟨v, rfl, h⟩
 | succ i => simp at hz; obtain ⟨u, hu, hr⟩ := k i z hz; exact ⟨u, by simpa using hu, hr⟩
theorem onesN : ∀ u ∈ ([] : List Value), u.oneCell' = true := fun _ h => (List.not_mem_nil h).elim
theorem onesC {v : Value} {vs : List Value} (h : v.oneCell' = true) (k : ∀ u ∈ vs, u.oneCell' = true) : ∀ u ∈ v :: vs, u.oneCell' = true := fun u hu => by
 rcases List.mem_cons.1 hu with rfl | hu
 ·exact h
 ·exact k u hu
end Go.GL

namespace Go.GL
open Go Go.RowKit
structure KQ (Q : List Nat) : Prop where
 is : ∀ g ∈ Q, IsForm g (formG g)
 sub : ∀ g ∈ Q, ∀ x, SubG g x → x ∈ Q
theorem KQ.nil : KQ [] := ⟨fun _ h => (List.not_mem_nil h).elim, fun _ h => (List.not_mem_nil h).elim⟩
theorem KQ.w {Q : List Nat} (h : KQ Q) (hl : Q.length ≤ 1000) {g : Nat} (hg : g ∈ Q) : FormOk (formG g) ∧ 1 ≤ (formG g).length ∧ (formG g).length ≤ Q.length := by
 have h1 := form_le (h.is g hg) (h.sub g hg)
 exact ⟨isform_ok (h.is g hg) (by omega), (h.is g hg).1.lo, h1⟩
theorem KQ.allW {Q : List Nat} (h : KQ Q) (hl : Q.length ≤ 1000) {gs : List Nat} (hg : ∀ g ∈ gs, g ∈ Q) (hn : gs.length ≤ 100) : AllW (gs.map formG) := by
 refine ⟨by simpa using hn, fun i hi => ?_⟩
 have hi' : i < gs.length := by simpa using hi
 have e : (gs.map formG).getD i [] = formG gs[i] := by simp [List.getD, hi']
 rw [e]
 obtain ⟨a, b, c⟩ := h.w hl (hg _ (List.getElem_mem hi'))
 exact ⟨a, b, by omega⟩
theorem KQ.gof {Q : List Nat} (h : KQ Q) {gs : List Nat} (hg : ∀ g ∈ gs, g ∈ Q) : (gs.map formG).map gOf = gs := by
 rw [List.map_map]
 refine (List.map_congr_left (g := id) fun g hm => ?_).trans (List.map_id _)
 exact (h.is g (hg g hm)).2
theorem KQ.add {Q : List Nat} (h : KQ Q) (hl : Q.length ≤ 1000) {gs hs : List Nat} (hg : ∀ g ∈ gs, g ∈ Q) (hh : ∀ g ∈ hs, g ∈ Q) (h1 : gs.length ≤ 100) (h2 : hs.length ≤ 100) : KQ (mkGm (gs.map formG) (hs.map formG) :: Q) := by
 have hi := mk_isform (h.allW hl hg h1) (h.allW hl hh h2)
 have e : mkGm (gs.map formG) (hs.map formG) = mkG gs hs := by unfold mkGm; rw [h.gof hg, h.gof hh]
 rw [e] at hi ⊢
 refine ⟨fun g hm => ?_, fun g hm x hx => ?_⟩
 ·rcases List.mem_cons.1 hm with rfl | hm
  ·exact hi
  ·exact h.is g hm
 ·rcases List.mem_cons.1 hm with rfl | hm
  ·rcases sub_mk hx with rfl | ⟨y, hy, hs⟩
   ·exact List.mem_cons_self
   ·rcases List.mem_append.1 hy with hy | hy
    ·exact List.mem_cons_of_mem _ (h.sub y (hg y hy) x hs)
    ·exact List.mem_cons_of_mem _ (h.sub y (hh y hy) x hs)
  ·exact List.mem_cons_of_mem _ (h.sub g hm x hx)

theorem Bx.anti {G G' : Pin} {w : World} {b : Nat} {cs : List Value} (h : Bx G' w b cs) (hl : Pin.le G G') : Bx G w b cs := ⟨h.heap, fun o u hu => h.free o u (hl _ _ _ hu)⟩
theorem ownV_anti {e base : Nat} {G G' : Pin} {w : World} {v : Value} {xs : List Value} (h : Own eVal e G' w base v xs) (hl : Pin.le G G') : Own eVal e G w base v xs := by
 obtain ⟨cells, h1, h2⟩ := h.ex
 exact ⟨⟨cells, h1, h2⟩, fun k hk o u hu => h.free k hk o u (hl _ _ _ hu)⟩
theorem ext_grown {x : Option Nat} {G G' : Pin} {w w' : World} (h : Ext (inO x) G w G' w') : w.grownBy w' x :=
 ⟨h.os, h.tape, h.output, h.size, fun k hk hne => h.block k hk fun hx => hne hx.symm⟩
theorem ext_back {S : Nat → Prop} {G Gx G' : Pin} {w w' : World} (hl : Pin.le G Gx) (hx : Ext S Gx w G' w') : Ext S G w G w' :=
 ⟨Pin.le_refl _, fun b o u hu => hx.pins b o u (hx.le _ _ _ (hl _ _ _ hu)), fun _ _ _ h => Or.inl h, hx.os, hx.tape, hx.output, hx.size, hx.block⟩

structure Tk (e base : Nat) (G : Pin) (w : World) (v : Value) (ns : List Nd) : Prop where
 own : ∃ Gi, Own eNode e Gi w base v ns ∧ Pin.le Gi G
 rd : RSl eNode G v ns
 lo : 1 ≤ ns.length
section
variable {e base : Nat} {G G' : Pin} {w w' : World} {v : Value} {ns : List Nd} {x row : Option Nat}
theorem Tk.blk (h : Tk e base G w v ns) : ∀ k, v.ownBlock = some k → ∃ o u, G k o u := fun k hk => by
 obtain ⟨a, b, o, n, c, cs, hv, hk2, hr, hg⟩ := h.rd.at_ 0 _ (List.getElem?_eq_getElem h.lo)
 have hb : a.block = b := by
  have h := congrArg Addr.block (hk2 0)
  refine Eq.trans ?_ h
  simp only [Addr.add]; split <;> rfl
 have hl := eNode.len hr
 have hc : 0 < cs.length := by rw [hl]; decide
 refine ⟨o + 0, cs[0], ?_⟩
 have h1 := hg 0 _ (List.getElem?_eq_getElem hc)
 rw [hv] at hk
 have : k = b := by rw [← hb]; exact (Option.some.inj hk).symm
 rw [this]; exact h1
theorem Tk.le (h : Tk e base G w v ns) (hl : Pin.le G G') : Tk e base G' w v ns := by
 obtain ⟨Gi, h1, h2⟩ := h.own
 exact ⟨⟨Gi, h1, Pin.le_trans h2 hl⟩, h.rd.mono hl, h.lo⟩
theorem Tk.kept (h : Tk e base G w v ns) (hg : w.grownBy w' row) (hf : ∀ k, row = some k → ∀ o u, ¬ G k o u) : Tk e base G w' v ns := by
 obtain ⟨Gi, h1, h2⟩ := h.own
 refine ⟨⟨Gi, h1.keptA hg (fun k a b => ?_), h2⟩, h.rd, h.lo⟩
 obtain ⟨o, u, hu⟩ := h.blk k a
 exact hf k b o u hu
theorem Tk.below (h : Tk e base G w v ns) (hb : Below w.heap.size w w') : Tk e base G w' v ns := h.kept (Below.grownBy hb none) fun _ hk => by cases hk
theorem Tk.ext (h : Tk e base G w v ns) (hx : Ext noS G w G' w') : Tk e base G' w' v ns := (h.below hx.below).le hx.le
theorem Tk.turned (h : Tk e base G w v ns) (hx : Ext (inO x) G w G' w') (hf : ∀ k, x = some k → ∀ o u, ¬ G k o u) : Tk e base G' w' v ns := (h.kept (ext_grown hx) hf).le hx.le
theorem Tk.one (h : Tk e base G w v ns) : v.oneCell' = true := h.rd.one
theorem Tk.give {S : Nat → Prop} {G0 : Pin} {w0 : World} (h : Tk e w0.heap.size G w v ns) (hP : Pins G0 w0) (hx : Ext S G0 w0 G w) : ∃ G2, Own eNode e G2 w w0.heap.size v ns ∧ Ext S G0 w0 G2 w ∧ Pin.le G2 G := by
 obtain ⟨Gi, h1, h2⟩ := h.own
 have h2' : Pin.le (fun b o u => Gi b o u ∨ G0 b o u) G := fun b o u hu => hu.elim (h2 b o u) (hx.le b o u)
 refine ⟨fun b o u => Gi b o u ∨ G0 b o u, h1.mono (fun b o u hu => Or.inl hu) (fun k hk o u hu => ?_), ⟨fun b o u hu => Or.inr hu, fun b o u hu => hx.pins b o u (h2' b o u hu), fun b o u hu => hx.fresh b o u (h2' b o u hu), hx.os, hx.tape, hx.output, hx.size, hx.block⟩, h2'⟩
 rcases hu with hu | hu
 ·exact h1.free k hk o u hu
 ·have a := (h1.lt k hk).1
  have b := block_lt (hP k o u hu)
  omega
end
def Fr (e base : Nat) (G : Pin) (w : World) (Q : List Nat) (vs : List Value) : Prop := ∀ v ∈ vs, ∃ g, g ∈ Q ∧ Tk e base G w v (formG g)
section
variable {e base : Nat} {G G' : Pin} {w w' : World} {Q : List Nat} {vs : List Value} {x row : Option Nat}
theorem Fr.nil : Fr e base G w Q [] := fun _ h => (List.not_mem_nil h).elim
theorem Fr.le (h : Fr e base G w Q vs) (hl : Pin.le G G') : Fr e base G' w Q vs := fun v hv => let ⟨g, a, b⟩ := h v hv; ⟨g, a, b.le hl⟩
theorem Fr.below (h : Fr e base G w Q vs) (hb : Below w.heap.size w w') : Fr e base G w' Q vs := fun v hv => let ⟨g, a, b⟩ := h v hv; ⟨g, a, b.below hb⟩
theorem Fr.ext (h : Fr e base G w Q vs) (hx : Ext noS G w G' w') : Fr e base G' w' Q vs := fun v hv => let ⟨g, a, b⟩ := h v hv; ⟨g, a, b.ext hx⟩
theorem Fr.kept (h : Fr e base G w Q vs) (hg : w.grownBy w' row) (hf : ∀ k, row = some k → ∀ o u, ¬ G k o u) : Fr e base G w' Q vs := fun v hv => let ⟨g, a, b⟩ := h v hv; ⟨g, a, b.kept hg hf⟩
theorem Fr.turned (h : Fr e base G w Q vs) (hx : Ext (inO x) G w G' w') (hf : ∀ k, x = some k → ∀ o u, ¬ G k o u) : Fr e base G' w' Q vs := fun v hv => let ⟨g, a, b⟩ := h v hv; ⟨g, a, b.turned hx hf⟩
theorem Fr.mem (h : Fr e base G w Q vs) {us : List Value} (hu : ∀ u ∈ us, u ∈ vs) : Fr e base G w Q us := fun v hv => h v (hu v hv)
theorem Fr.wide (h : Fr e base G w Q vs) {base' : Nat} (hb : base' ≤ base) : Fr e base' G w Q vs := fun v hv => by
 obtain ⟨g, a, b⟩ := h v hv
 obtain ⟨Gi, h1, h2⟩ := b.own
 exact ⟨g, a, ⟨Gi, h1.weaken hb, h2⟩, b.rd, b.lo⟩
theorem Fr.cons (h : Fr e base G w Q vs) {v : Value} {g : Nat} (hv : Tk e base G w v (formG g)) : Fr e base G w (g :: Q) (v :: vs) := fun u hu => by
 rcases List.mem_cons.1 hu with rfl | hu
 ·exact ⟨g, List.mem_cons_self, hv⟩
 ·obtain ⟨k, a, b⟩ := h u hu; exact ⟨k, List.mem_cons_of_mem _ a, b⟩
theorem Fr.one (h : Fr e base G w Q vs) {v : Value} (hv : v ∈ vs) : v.oneCell' = true := let ⟨_, _, b⟩ := h v hv; b.one
theorem Fr.games (h : Fr e base G w Q vs) : ∃ gs : List Nat, gs.length = vs.length ∧ (∀ g ∈ gs, g ∈ Q) ∧ ∀ i, i < vs.length → RSl eNode G (vs.getD i default) ((gs.map formG).getD i []) := by
 induction vs with
 | nil => exact ⟨[], rfl, fun _ h => (List.not_mem_nil h).elim, fun i hi => absurd hi (Nat.not_lt_zero i)⟩
 | cons v vs ih =>
  obtain ⟨gs, h1, h2, h3⟩ := ih fun u hu => h u (List.mem_cons_of_mem _ hu)
  obtain ⟨g, a, b⟩ := h v List.mem_cons_self
  refine ⟨g :: gs, by simp [h1], fun k hk => ?_, fun i hi => ?_⟩
  ·rcases List.mem_cons.1 hk with rfl | hk
   ·exact a
   ·exact h2 k hk
  ·cases i with
   | zero => simpa using b.rd
   | succ i => simpa using h3 i (by simpa using hi)
end
theorem vals_read {G : Pin} {v : Value} {us : List Value} {fs : List (List Nd)} (hr : RSl eVal G v us) (hl : fs.length = us.length) (hk : ∀ i, i < us.length → RSl eNode G (us.getD i default) (fs.getD i [])) : RSl (eSl eNode) G v fs := by
 obtain ⟨a, c, h1, h2, h3⟩ := hr.sl
 refine ⟨⟨a, c, by rw [h1, hl], by omega, h3⟩, fun i f hi => ?_⟩
 have hi' : i < fs.length := (List.getElem?_eq_some_iff.1 hi).1
 obtain ⟨a, b, o, n, c, cs, e1, e2, e3, e4⟩ := hr.at_ i _ (List.getElem?_eq_getElem (show i < us.length by omega))
 refine ⟨a, b, o, n, c, cs, e1, e2, ?_, e4⟩
 have h4 := hk i (by omega)
 have e5 : us.getD i default = us[i]'(by omega) := by simp [List.getD, show i < us.length by omega]
 have e6 : fs.getD i [] = f := by simp [List.getD, hi]
 rw [e5, e6] at h4
 exact ⟨_, e3.1, h4⟩
theorem wrapU_lt (n : Int) : 0 ≤ IntKind.u64.wrap n ∧ IntKind.u64.wrap n < 18446744073709551616 := by
 unfold IntKind.wrap
 simp only [IntKind.bits, IntKind.signed]
 have h1 := Int.emod_nonneg n (b := (2 : Int) ^ 64) (by decide)
 have h2 := Int.emod_lt_of_pos n (b := (2 : Int) ^ 64) (by decide)
 simp at h1 h2 ⊢
 omega
theorem snoc_mem {α : Type} {l : List α} {x : α} : ∀ v ∈ l ++ [x], v ∈ x :: l := fun v hv => by
 rcases List.mem_append.1 hv with h | h
 ·exact List.mem_cons_of_mem _ h
 ·rw [List.mem_singleton.1 h]; exact List.mem_cons_self
section
variable {P : Program} {ρ : Operand → Value} {w : World} {K : Value → World → Prop} {d : Option Nat} {t ty e : Nat} {pos : String} {aft : Array Edge} {g : Option (Nat × Bool)} {x y : Operand} {G : Pin} {v : Value}
theorem run_setNL {base : Nat} {xs : List Nd} {z : Int} {u : Value} {l : List Int} (hs : (P.info? t).map (·.size) = some 1) (hx : ρ x = eptr v z 2 0) (hy : ρ y = u) (hu : RSl eInt G u l) (hP : Pins G w) (hv : Own eNode e G w base v xs) (h0 : 0 ≤ z) (h1 : z < xs.length) :
  ∃ w', (execOp ρ ⟨d, .store t x y, ty, pos, aft, g⟩).run P w = .ok .skip w' ∧ Own eNode e G w' base v (xs.set z.toNat ⟨l, (xs.getD z.toNat default).r⟩) ∧ Pins G w' ∧ w.grownBy w' v.ownBlock ∧ w'.heap.size = w.heap.size := by
 have hz : z.toNat < xs.length := by omega
 obtain ⟨cells, hown, hr⟩ := hv.ex
 have hel := hr z.toNat _ (List.getElem?_eq_getElem hz)
 have hx1 : xs[z.toNat] = xs.getD z.toNat default := by simp [List.getD, hz]
 rw [hx1] at hel
 obtain ⟨u0, v0, hcells, hl0, hr0⟩ := hel
 have hone := hu.one
 have hone0 := hr0.one
 obtain ⟨gb, w', hb, hp, hrun, a1, a2, a3, a4⟩ := hv.setAt (P := P) h0 h1 (q := ⟨l, (xs.getD z.toNat default).r⟩) (cs := [u, v0]) ⟨u, v0, rfl, hu, hr0⟩ hP
 rcases hown.2 with ⟨rfl, hl0⟩ | ⟨g', cap, cur, rfl, hbg, hg, hnc, hcm, hcs, htake⟩
 ·omega
 ·have hgb : gb = g' := by simpa [Value.ownBlock] using hb.symm
  subst hgb
  have e2 : eNode.size = 2 := rfl
  rw [e2] at hrun hcs htake hcells hp
  have hle1 : z.toNat * 2 + 2 ≤ cur.size := by omega
  rw [← htake] at hcells
  have hc : ∀ k a, ([u0, v0] : List Value)[k]? = some a → cur.toList[z.toNat * 2 + k]? = some a := fun k a ha => by
   have hk : k < 2 := by have := (List.getElem?_eq_some_iff.1 ha).1; simpa using this
   have h3 : ((((cur.toList.take (xs.length * 2)).drop (z.toNat * 2)).take 2)[k]?) = some a := by rw [hcells]; exact ha
   rw [List.getElem?_take, if_pos hk, List.getElem?_drop, List.getElem?_take, if_pos (by omega)] at h3
   exact h3
  have c1 := hc 1 _ rfl
  have r1 := run_storeCells_at P gb (z.toNat * 2) e [u, v0] 0 cur w hg (by simpa using hle1) (by intro a ha; simp at ha; rcases ha with rfl | rfl <;> assumption)
  have r2 := run_storeCells_at P gb (z.toNat * 2) e [u] 0 cur w hg (by simp; omega) (by intro a ha; simp at ha; subst ha; assumption)
  simp only [Nat.add_zero] at r1 r2
  have hw : w' = w.setRow gb (cur.toList.take (z.toNat * 2) ++ [u] ++ cur.toList.drop (z.toNat * 2 + [u].length)).toArray := by
   rw [hrun] at r1
   have hw1 := (Result.ok.inj r1).2
   rw [hw1]
   congr 2
   have hd1 : cur.toList.drop (z.toNat * 2 + 1) = v0 :: cur.toList.drop (z.toNat * 2 + 2) := by
    obtain ⟨h7, h8⟩ := List.getElem?_eq_some_iff.1 c1
    rw [List.drop_eq_getElem_cons h7, h8]
   simp [hd1]
  have hpt : eptr (.slice (some ⟨gb, 0, none⟩) xs.length cap) z 2 0 = .pointer (some ⟨gb, z.toNat * 2, none⟩) := by
   clear hx hrun r1 r2 hw hr hc hp a1 hv hown
   simp only [eptr, Addr.add]; split <;> simp_all
  rw [hpt] at hx
  refine ⟨w', ?_, a1, a2, a3, a4⟩
  have hlv : (storeVar t ⟨gb, z.toNat * 2, none⟩ u).run P w = .ok () w' := by
   have hc2 : u.cells = #[u] := cells_one hone
   unfold storeVar
   simp only [Sem.run_bind, run_sizeOf hs, Result.andThen_ok, hc2]
   simp only [List.size_toArray, List.length_cons, List.length_nil, Nat.zero_add, ne_eq, not_true_eq_false, if_false]
   rw [r2, hw]
  simp only [execOp, hx, hy, Instr.storeAt, Instr.sureAddr, Sem.run_bind, Sem.run_pure, Result.andThen_ok, hlv]
theorem o_setNL {base : Nat} {xs : List Nd} {z : Int} {u : Value} {l : List Int} (hs : (P.info? t).map (·.size) = some 1) (hx : ρ x = eptr v z 2 0) (hy : ρ y = u) (hu : RSl eInt G u l) (hP : Pins G w) (hv : Own eNode e G w base v xs) (h0 : 0 ≤ z) (h1 : z < xs.length)
  (h : ∀ w', Own eNode e G w' base v (xs.set z.toNat ⟨l, (xs.getD z.toNat default).r⟩) → Pins G w' → w.grownBy w' v.ownBlock → w'.heap.size = w.heap.size → K undef w') : EO P ρ ⟨d, .store t x y, ty, pos, aft, g⟩ w K := by
 obtain ⟨w', h2, h3, h4, h5, h6⟩ := run_setNL (d := d) (ty := ty) (pos := pos) (aft := aft) (g := g) hs hx hy hu hP hv h0 h1
 exact EO.skip h2 (h w' h3 h4 h5 h6)
end
end Go.GL

set_option maxRecDepth 20000
set_option maxHeartbeats 2000000
namespace Go.Proofs.Ytdongckiecjbaaa
namespace B1
open Go.RowKit Go.GL Go.Proofs
end B1
section
open Go.RowKit Go.GL Go.Proofs
theorem ag22 : (Try.prog.underlying 22).map aggD = some false := by kernel_rfl
theorem ag24 : (Try.prog.underlying 24).map aggD = some false := by kernel_rfl
theorem ag26 : (Try.prog.underlying 26).map aggD = some true := by kernel_rfl
theorem ag28 : (Try.prog.underlying 28).map aggD = some false := by kernel_rfl
theorem ag3 : (Try.prog.underlying 3).map aggD = some false := by kernel_rfl
theorem ag30 : (Try.prog.underlying 30).map aggD = some true := by kernel_rfl
theorem ag4 : (Try.prog.underlying 4).map aggD = some false := by kernel_rfl
theorem ag40 : (Try.prog.underlying 40).map aggD = some false := by kernel_rfl
theorem ag43 : (Try.prog.underlying 43).map aggD = some false := by kernel_rfl
theorem ag46 : (Try.prog.underlying 46).map aggD = some false := by kernel_rfl
theorem ag48 : (Try.prog.underlying 48).map aggD = some true := by kernel_rfl
theorem ag5 : (Try.prog.underlying 5).map aggD = some false := by kernel_rfl
theorem ag51 : (Try.prog.underlying 51).map aggD = some false := by kernel_rfl
theorem ag53 : (Try.prog.underlying 53).map aggD = some true := by kernel_rfl
theorem ag57 : (Try.prog.underlying 57).map aggD = some true := by kernel_rfl
theorem ap26 : (Try.prog.info? 26).map (fun i => (i.size, i.bytes, (i.zero.map (·.cells.size)))) = some (1, 24, some 1) := by kernel_rfl
theorem ap3 : (Try.prog.info? 3).map (fun i => (i.size, i.bytes, (i.zero.map (·.cells.size)))) = some (1, 8, some 1) := by kernel_rfl
theorem ap46 : (Try.prog.info? 46).map (fun i => (i.size, i.bytes, (i.zero.map (·.cells.size)))) = some (1, 24, some 1) := by kernel_rfl
theorem ap48 : (Try.prog.info? 48).map (fun i => (i.size, i.bytes, (i.zero.map (·.cells.size)))) = some (2, 48, some 2) := by kernel_rfl
theorem ap57 : (Try.prog.info? 57).map (fun i => (i.size, i.bytes, (i.zero.map (·.cells.size)))) = some (2, 16, some 2) := by kernel_rfl
theorem nm10 : (Try.f10.name == "runtime.NumGoroutine") = false := by kernel_rfl
theorem nm11 : (Try.f11.name == "runtime.NumGoroutine") = false := by kernel_rfl
theorem nm12 : (Try.f12.name == "runtime.NumGoroutine") = false := by kernel_rfl
theorem nm13 : (Try.f13.name == "runtime.NumGoroutine") = false := by kernel_rfl
theorem nm14 : (Try.f14.name == "runtime.NumGoroutine") = false := by kernel_rfl
theorem nm15 : (Try.f15.name == "runtime.NumGoroutine") = false := by kernel_rfl
theorem nm16 : (Try.f16.name == "runtime.NumGoroutine") = false := by kernel_rfl
theorem nm17 : (Try.f17.name == "runtime.NumGoroutine") = false := by kernel_rfl
theorem nm18 : (Try.f18.name == "runtime.NumGoroutine") = false := by kernel_rfl
theorem nm19 : (Try.f19.name == "runtime.NumGoroutine") = false := by kernel_rfl
theorem nm20 : (Try.f20.name == "runtime.NumGoroutine") = false := by kernel_rfl
theorem nm21 : (Try.f21.name == "runtime.NumGoroutine") = false := by kernel_rfl
theorem nm22 : (Try.f22.name == "runtime.NumGoroutine") = false := by kernel_rfl
theorem nm23 : (Try.f23.name == "runtime.NumGoroutine") = false := by kernel_rfl
theorem nm24 : (Try.f24.name == "runtime.NumGoroutine") = false := by kernel_rfl
theorem nm25 : (Try.f25.name == "runtime.NumGoroutine") = false := by kernel_rfl
theorem nm26 : (Try.f26.name == "runtime.NumGoroutine") = false := by kernel_rfl
theorem nm27 : (Try.f27.name == "runtime.NumGoroutine") = false := by kernel_rfl
theorem nm28 : (Try.f28.name == "runtime.NumGoroutine") = false := by kernel_rfl
theorem nm29 : (Try.f29.name == "runtime.NumGoroutine") = false := by kernel_rfl
theorem nm30 : (Try.f30.name == "runtime.NumGoroutine") = false := by kernel_rfl
theorem nm31 : (Try.f31.name == "runtime.NumGoroutine") = false := by kernel_rfl
theorem nm32 : (Try.f32.name == "runtime.NumGoroutine") = false := by kernel_rfl
theorem nm33 : (Try.f33.name == "runtime.NumGoroutine") = false := by kernel_rfl
theorem nm34 : (Try.f34.name == "runtime.NumGoroutine") = false := by kernel_rfl
theorem nm35 : (Try.f35.name == "runtime.NumGoroutine") = false := by kernel_rfl
theorem nm36 : (Try.f36.name == "runtime.NumGoroutine") = false := by kernel_rfl
theorem nm37 : (Try.f37.name == "runtime.NumGoroutine") = false := by kernel_rfl
theorem nm38 : (Try.f38.name == "runtime.NumGoroutine") = false := by kernel_rfl
theorem nm39 : (Try.f39.name == "runtime.NumGoroutine") = false := by kernel_rfl
theorem nm4 : (Try.f4.name == "runtime.NumGoroutine") = false := by kernel_rfl
theorem nm40 : (Try.f40.name == "runtime.NumGoroutine") = false := by kernel_rfl
theorem nm41 : (Try.f41.name == "runtime.NumGoroutine") = false := by kernel_rfl
theorem nm42 : (Try.f42.name == "runtime.NumGoroutine") = false := by kernel_rfl
theorem nm43 : (Try.f43.name == "runtime.NumGoroutine") = false := by kernel_rfl
theorem nm44 : (Try.f44.name == "runtime.NumGoroutine") = false := by kernel_rfl
theorem nm45 : (Try.f45.name == "runtime.NumGoroutine") = false := by kernel_rfl
theorem nm46 : (Try.f46.name == "runtime.NumGoroutine") = false := by kernel_rfl
theorem nm47 : (Try.f47.name == "runtime.NumGoroutine") = false := by kernel_rfl
theorem nm48 : (Try.f48.name == "runtime.NumGoroutine") = false := by kernel_rfl
theorem nm49 : (Try.f49.name == "runtime.NumGoroutine") = false := by kernel_rfl
theorem nm5 : (Try.f5.name == "runtime.NumGoroutine") = false := by kernel_rfl
theorem nm50 : (Try.f50.name == "runtime.NumGoroutine") = false := by kernel_rfl
theorem nm51 : (Try.f51.name == "runtime.NumGoroutine") = false := by kernel_rfl
theorem nm52 : (Try.f52.name == "runtime.NumGoroutine") = false := by kernel_rfl
theorem nm53 : (Try.f53.name == "runtime.NumGoroutine") = false := by kernel_rfl
theorem nm54 : (Try.f54.name == "runtime.NumGoroutine") = false := by kernel_rfl
theorem nm55 : (Try.f55.name == "runtime.NumGoroutine") = false := by kernel_rfl
theorem nm56 : (Try.f56.name == "runtime.NumGoroutine") = false := by kernel_rfl
theorem nm57 : (Try.f57.name == "runtime.NumGoroutine") = false := by kernel_rfl
theorem nm58 : (Try.f58.name == "runtime.NumGoroutine") = false := by kernel_rfl
theorem nm59 : (Try.f59.name == "runtime.NumGoroutine") = false := by kernel_rfl
theorem nm6 : (Try.f6.name == "runtime.NumGoroutine") = false := by kernel_rfl
theorem nm60 : (Try.f60.name == "runtime.NumGoroutine") = false := by kernel_rfl
theorem nm61 : (Try.f61.name == "runtime.NumGoroutine") = false := by kernel_rfl
theorem nm7 : (Try.f7.name == "runtime.NumGoroutine") = false := by kernel_rfl
theorem nm8 : (Try.f8.name == "runtime.NumGoroutine") = false := by kernel_rfl
theorem nm9 : (Try.f9.name == "runtime.NumGoroutine") = false := by kernel_rfl
theorem nz22 : (Try.prog.info? 22).map (·.size == 0) = some false := by kernel_rfl
theorem nz24 : (Try.prog.info? 24).map (·.size == 0) = some false := by kernel_rfl
theorem nz28 : (Try.prog.info? 28).map (·.size == 0) = some false := by kernel_rfl
theorem nz3 : (Try.prog.info? 3).map (·.size == 0) = some false := by kernel_rfl
theorem nz40 : (Try.prog.info? 40).map (·.size == 0) = some false := by kernel_rfl
theorem nz46 : (Try.prog.info? 46).map (·.size == 0) = some false := by kernel_rfl
theorem nz51 : (Try.prog.info? 51).map (·.size == 0) = some false := by kernel_rfl
theorem sz24 : (Try.prog.info? 24).map (·.size) = some 1 := by kernel_rfl
theorem sz26 : (Try.prog.info? 26).map (·.size) = some 1 := by kernel_rfl
theorem sz28 : (Try.prog.info? 28).map (·.size) = some 1 := by kernel_rfl
theorem sz3 : (Try.prog.info? 3).map (·.size) = some 1 := by kernel_rfl
theorem sz30 : (Try.prog.info? 30).map (·.size) = some 2 := by kernel_rfl
theorem sz4 : (Try.prog.info? 4).map (·.size) = some 1 := by kernel_rfl
theorem sz40 : (Try.prog.info? 40).map (·.size) = some 1 := by kernel_rfl
theorem sz43 : (Try.prog.info? 43).map (·.size) = some 1 := by kernel_rfl
theorem sz46 : (Try.prog.info? 46).map (·.size) = some 1 := by kernel_rfl
theorem sz48 : (Try.prog.info? 48).map (·.size) = some 2 := by kernel_rfl
theorem sz5 : (Try.prog.info? 5).map (·.size) = some 1 := by kernel_rfl
theorem sz53 : (Try.prog.info? 53).map (·.size) = some 2 := by kernel_rfl
theorem sz57 : (Try.prog.info? 57).map (·.size) = some 2 := by kernel_rfl
theorem zr26 : (Try.prog.info? 26).bind (·.zero) = some (.agg #[(.slice none 0 0)]) := by kernel_rfl
theorem zr28 : (Try.prog.info? 28).bind (·.zero) = some (.slice none 0 0) := by kernel_rfl
theorem zr3 : (Try.prog.info? 3).bind (·.zero) = some (.int .i64 0) := by kernel_rfl
theorem zr30 : (Try.prog.info? 30).bind (·.zero) = some (.agg #[(.slice none 0 0), (.slice none 0 0)]) := by kernel_rfl
theorem zr42 : (Try.prog.info? 42).bind (·.zero) = some (.agg #[(.slice none 0 0), (.int .i64 0), (.int .u64 0)]) := by kernel_rfl
theorem zr43 : (Try.prog.info? 43).bind (·.zero) = some (.nilFunc) := by kernel_rfl
theorem zr46 : (Try.prog.info? 46).bind (·.zero) = some (.slice none 0 0) := by kernel_rfl
theorem zr48 : (Try.prog.info? 48).bind (·.zero) = some (.agg #[(.slice none 0 0), (.slice none 0 0)]) := by kernel_rfl
theorem zr53 : (Try.prog.info? 53).bind (·.zero) = some (.agg #[(.slice none 0 0), (.slice none 0 0)]) := by kernel_rfl
theorem zr57 : (Try.prog.info? 57).bind (·.zero) = some (.agg #[(.int .i64 0), (.int .i64 0)]) := by kernel_rfl
theorem zr81 : (Try.prog.info? 81).bind (·.zero) = some (.agg #[(.slice none 0 0), (.slice none 0 0)]) := by kernel_rfl
end
namespace B1
open Go.RowKit Go.GL Go.Proofs




theorem mk3 : (Try.prog.info? 3).map (fun i => (i.size, i.bytes, i.zero)) = some (1, 8, some (.int .i64 0)) := by kernel_rfl
theorem mk4 : (Try.prog.info? 4).map (fun i => (i.size, i.bytes, i.zero)) = some (1, 1, some (.bool false)) := by kernel_rfl
















theorem goodOptions_spec {w : World} {G : Pin} {v : Value} {xs : List Int} {b : Int} (hP : Pins G w) (hv : RSl eInt G v xs) :
  Calls Try.prog 29 [v, (.int .i64 b)].toArray w fun e w' => e = .returned (.bool (goodOpts xs b)) ∧ w' = w := by
 refine s_enter (n := 27) Try.func29 Try.ntmps29 rfl rfl ?_
 have hX0 : Ext noS G w G w := Ext.refl hP
 have hm := hv.max
 refine s_seq (c_reg ?_)
 refine qd rfl rfl rfl (r_assign (v := (.bool false)) rfl) (qe (s_then (s_seq (s_seq (c_reg ?_)))))
 refine qd rfl rfl rfl (r_move (v := v) rfl) (qd rfl rfl rfl (run_len Try.underlying46 (v := v) rfl hv) (qd rfl rfl rfl (r_gtr rfl rfl) (qe (s_then ?_))))
 refine c_ifd (p := (24 : Int) < (xs.length : Int)) rfl rfl (fun h1 => ?_) (fun h1 => ?_)
 refine s_seq (c_reg ?_)
 refine qd rfl rfl rfl (r_assign (v := (.bool false)) rfl) (qe (s_then ?_))
 exact wp_ret (s_ret (c_ret1 (v := (.bool false)) rfl rfl rfl (⟨congrArg (fun z => Ending.returned (Value.bool z)) (by unfold goodOpts; rw [if_pos h1]), rfl⟩)))
 refine wp_skip (s_then (s_seq (c_reg ?_)))
 refine qd rfl rfl rfl (r_assign (v := (.int .i64 (-1))) rfl) (qe (s_then (s_seq (s_seq (c_reg ?_)))))
 refine qd rfl rfl rfl (r_move (v := v) rfl) (qd rfl rfl rfl (run_len Try.underlying46 (v := v) rfl hv) (qd rfl rfl rfl (r_move (v := (.int .i64 0)) rfl) (qe (s_then ?_))))
 refine s_blk (s_loop (fun (k : Nat) (en : Nat → Value) (W : World) => ∃ (env1 : Nat → Value) (j : Nat) (last : Int), en = (upd (upd (upd (upd (upd env1 1 (.int .i64 b)) 5 (.int .i64 last)) 11 v) 12 (.int .i64 (xs.length : Int))) 13 (.int .i64 (j : Int))) ∧ k = xs.length - j ∧ Ext noS G w G W ∧ (j ≤ xs.length) ∧ (W = w) ∧ (goodOpts xs b = goodFrom last b (xs.drop j))) _ ⟨_, 0, (-1), (packS (x := 13) (packS (x := 12) (packS (x := 11) (packS (x := 5) (pack1 (x := 1) rfl) rfl) rfl) rfl) rfl), rfl, hX0, Nat.zero_le _, rfl, (by unfold goodOpts; rw [if_neg h1]; rfl)⟩ ?_)
 rintro k2 _ w3 ⟨env1, j, last, rfl, hk4, hX5, hj, hw, hr⟩
 subst hw
 refine s_seq (c_reg ?_)
 refine qd rfl rfl rfl (r_lss rfl rfl) (qe (s_then (s_seq ?_)))
 refine c_ifd (p := ((j : Int) : Int) < (xs.length : Int)) rfl rfl (fun h6 => ?_) (fun h6 => ?_)
 refine wp_skip (s_then (s_seq ?_))
 refine s_blk (s_seq (c_reg ?_))
 refine qd rfl rfl rfl (run_idx Try.underlying46 sz3 (v := v) rfl rfl hv (by omega) (by omega)) (qd rfl rfl rfl (run_load_int (r := xs.getD j 0) rfl ag3 (z := (j : Int)) rfl hv hX5.pins (by omega) (by omega)) (qd rfl rfl rfl (r_assign (v := (.int .i64 (xs.getD j 0))) rfl) (qe (s_then (s_seq (s_seq (c_reg ?_)))))))
 refine qd rfl rfl rfl (r_move (v := (.int .i64 (xs.getD j 0))) rfl) (qd rfl rfl rfl (r_move (v := (.int .i64 last)) rfl) (qd rfl rfl rfl (r_leq rfl rfl) (qd rfl rfl rfl (r_move (v := (.bool (decide ((xs.getD j 0 : Int) ≤ last)))) rfl) (qbd (p := (xs.getD j 0 : Int) ≤ last) (t := 20) rfl (fun h7 => ?_) (fun h7 => ?_)))))
 refine qs rfl rfl rfl rfl rfl rfl (qs rfl rfl rfl rfl rfl rfl (qs rfl rfl rfl rfl rfl rfl (qd rfl rfl rfl (r_pickT (v := (.bool true)) rfl rfl) (qe (s_then ?_)))))
 refine c_ifT rfl rfl (s_seq (c_reg ?_))
 refine qd rfl rfl rfl (r_assign (v := (.bool false)) rfl) (qe (s_then ?_))
 exact wp_ret (s_ret (c_ret1 (v := (.bool false)) rfl rfl rfl (⟨congrArg (fun z => Ending.returned (Value.bool z)) ((hr.trans (goodFrom_bad (by omega) (Or.inl h7))).symm), rfl⟩)))
 refine qdg rfl rfl rfl rfl rfl rfl (r_move (v := (.int .i64 (xs.getD j 0))) rfl) (qdg rfl rfl rfl rfl rfl rfl (r_move (v := (.int .i64 b)) rfl) (qdg rfl rfl rfl rfl rfl rfl (r_geq rfl rfl) (qd rfl rfl rfl (r_pickF (v := (.bool (decide ((b : Int) ≤ (xs.getD j 0))))) rfl rfl) (qe (s_then ?_)))))
 refine c_ifd (p := (b : Int) ≤ (xs.getD j 0)) rfl rfl (fun h8 => ?_) (fun h8 => ?_)
 refine s_seq (c_reg ?_)
 refine qd rfl rfl rfl (r_assign (v := (.bool false)) rfl) (qe (s_then ?_))
 exact wp_ret (s_ret (c_ret1 (v := (.bool false)) rfl rfl rfl (⟨congrArg (fun z => Ending.returned (Value.bool z)) ((hr.trans (goodFrom_bad (by omega) (Or.inr h8))).symm), rfl⟩)))
 refine wp_skip (s_then (c_reg ?_))
 refine qd rfl rfl rfl (r_move (v := (.int .i64 (xs.getD j 0))) rfl) (qd rfl rfl rfl (r_assign (v := (.int .i64 (xs.getD j 0))) rfl) (qe (s_blkN (s_then (c_reg ?_)))))
 refine qd rfl rfl rfl (r_add rfl rfl (by omega)) (qd rfl rfl rfl (r_move (v := (.int .i64 ((j : Int) + 1))) rfl) (qe (s_lopN (⟨_, ?_, _, rfl, _, j + 1, xs.getD j 0, (packS (x := 13) (packS (x := 12) (packS (x := 11) (packS (x := 5) (pack1 (x := 1) rfl) rfl) rfl) rfl) rfl), rfl, hX5, (by omega), rfl, (hr.trans (goodFrom_next (by omega) h7 h8))⟩))))
 omega
 refine wp_exit (s_thenE (s_lopE (s_blkE (s_then (s_seq (c_reg ?_))))))
 refine qd rfl rfl rfl (r_assign (v := (.bool true)) rfl) (qe (s_then ?_))
 exact wp_ret (s_ret (c_ret1 (v := (.bool true)) rfl rfl rfl (⟨congrArg (fun z => Ending.returned (Value.bool z)) ((hr.trans (goodFrom_end (by omega))).symm), rfl⟩)))

theorem isNaN_spec {w : World} {G : Pin} {x : Int} (hP : Pins G w) :
  Calls Try.prog 45 [(.int .i64 x)].toArray w fun e w' => e = .returned (.bool false) ∧ w' = w := by
 refine s_enter (n := 6) Try.func45 Try.ntmps45 rfl rfl ?_
 have hX0 : Ext noS G w G w := Ext.refl hP
 refine s_seq (c_reg ?_)
 refine qd rfl rfl rfl (r_assign (v := (.bool false)) rfl) (qe (s_then (s_seq (c_reg ?_))))
 refine qd rfl rfl rfl (r_move (v := (.int .i64 x)) rfl) (qd rfl rfl rfl (r_move (v := (.int .i64 x)) rfl) (qd rfl rfl rfl (r_neq rfl rfl) (qd rfl rfl rfl (r_assign (v := (.bool (decide ((x : Int) ≠ x)))) rfl) (qe (s_then ?_)))))
 exact wp_ret (s_ret (c_ret1 (v := (.bool (decide ((x : Int) ≠ x)))) rfl rfl rfl (⟨congrArg (fun z => Ending.returned (Value.bool z)) (decide_eq_false (fun h => h rfl)), rfl⟩)))

theorem cmpCompare_spec {w : World} {G : Pin} {x y : Int} (hP : Pins G w) :
  Calls Try.prog 32 [(.int .i64 x), (.int .i64 y)].toArray w fun e w' => e = .returned (.int .i64 (cmpI x y)) ∧ w' = w := by
 refine s_enter (n := 20) Try.func32 Try.ntmps32 rfl rfl ?_
 have hX0 : Ext noS G w G w := Ext.refl hP
 refine s_seq (c_reg ?_)
 refine qd rfl rfl rfl (r_assign (v := (.int .i64 0)) rfl) (qe (s_then (s_seq (c_reg ?_))))
 refine qd rfl rfl rfl (r_move (v := (.int .i64 x)) rfl) (q1 rfl rfl rfl (o_call (vs := [(.int .i64 x)]) Try.func45 nm45 rfl rfl rfl ?_))
 refine Calls.mono (isNaN_spec hX0.pins) ?_
 rintro _ _ ⟨rfl, rfl⟩
 refine ⟨_, rfl, ?_⟩
 refine qd rfl rfl rfl (r_assign (v := (.bool false)) rfl) (qe (s_then (s_seq (c_reg ?_))))
 refine qd rfl rfl rfl (r_move (v := (.int .i64 y)) rfl) (q1 rfl rfl rfl (o_call (vs := [(.int .i64 y)]) Try.func45 nm45 rfl rfl rfl ?_))
 refine Calls.mono (isNaN_spec hX0.pins) ?_
 rintro _ _ ⟨rfl, rfl⟩
 refine ⟨_, rfl, ?_⟩
 refine qd rfl rfl rfl (r_assign (v := (.bool false)) rfl) (qe (s_then (s_seq (s_seq (c_reg ?_)))))
 refine qd rfl rfl rfl (r_move (v := (.bool false)) rfl) (qe (s_then ?_))
 refine c_ifF rfl rfl (wp_skip (s_then (s_seq (s_seq (c_reg ?_)))))
 refine qd rfl rfl rfl (r_move (v := (.bool false)) rfl) (qe (s_then ?_))
 refine c_ifF rfl rfl (wp_skip (s_then (s_seq (s_seq (c_reg ?_)))))
 refine qd rfl rfl rfl (r_move (v := (.int .i64 x)) rfl) (qd rfl rfl rfl (r_move (v := (.int .i64 y)) rfl) (qd rfl rfl rfl (r_lss rfl rfl) (qe (s_then ?_))))
 refine c_ifd (p := (x : Int) < y) rfl rfl (fun h1 => ?_) (fun h1 => ?_)
 refine s_seq (c_reg ?_)
 refine qd rfl rfl rfl (r_assign (v := (.int .i64 (-1))) rfl) (qe (s_then ?_))
 exact wp_ret (s_ret (c_ret1 (v := (.int .i64 (-1))) rfl rfl rfl (⟨congrArg (fun z => Ending.returned (Value.int .i64 z)) (by unfold cmpI; (first | rw [if_pos (by omega)] | (rw [if_neg (by omega)]; first | rw [if_pos (by omega)] | rw [if_neg (by omega)]))), rfl⟩)))
 refine wp_skip (s_then (s_seq (s_seq (c_reg ?_))))
 refine qd rfl rfl rfl (r_move (v := (.int .i64 x)) rfl) (qd rfl rfl rfl (r_move (v := (.int .i64 y)) rfl) (qd rfl rfl rfl (r_gtr rfl rfl) (qe (s_then ?_))))
 refine c_ifd (p := (y : Int) < x) rfl rfl (fun h2 => ?_) (fun h2 => ?_)
 refine s_seq (c_reg ?_)
 refine qd rfl rfl rfl (r_assign (v := (.int .i64 1)) rfl) (qe (s_then ?_))
 exact wp_ret (s_ret (c_ret1 (v := (.int .i64 1)) rfl rfl rfl (⟨congrArg (fun z => Ending.returned (Value.int .i64 z)) (by unfold cmpI; (first | rw [if_pos (by omega)] | (rw [if_neg (by omega)]; first | rw [if_pos (by omega)] | rw [if_neg (by omega)]))), rfl⟩)))
 refine wp_skip (s_then (s_seq (c_reg ?_)))
 refine qd rfl rfl rfl (r_assign (v := (.int .i64 0)) rfl) (qe (s_then ?_))
 exact wp_ret (s_ret (c_ret1 (v := (.int .i64 0)) rfl rfl rfl (⟨congrArg (fun z => Ending.returned (Value.int .i64 z)) (by unfold cmpI; (first | rw [if_pos (by omega)] | (rw [if_neg (by omega)]; first | rw [if_pos (by omega)] | rw [if_neg (by omega)]))), rfl⟩)))

theorem cmpOr_spec {w : World} {G : Pin} {v : Value} {xs : List Int} (hP : Pins G w) (hv : RSl eInt G v xs) :
  Calls Try.prog 31 [v].toArray w fun e w' => e = .returned (.int .i64 (orL xs)) ∧ w' = w := by
 refine s_enter (n := 18) Try.func31 Try.ntmps31 rfl rfl ?_
 have hX0 : Ext noS G w G w := Ext.refl hP
 have hm := hv.max
 refine s_seq (c_reg ?_)
 refine qd rfl rfl rfl (r_assign (v := (.int .i64 0)) rfl) (qe (s_then (s_seq (c_reg ?_))))
 refine qd rfl rfl rfl (r_assign (v := (.int .i64 0)) rfl) (qe (s_then (s_seq (s_seq (c_reg ?_)))))
 refine qd rfl rfl rfl (r_move (v := v) rfl) (qd rfl rfl rfl (run_len Try.underlying46 (v := v) rfl hv) (qd rfl rfl rfl (r_move (v := (.int .i64 0)) rfl) (qe (s_then ?_))))
 refine s_blk (s_loop (fun (k : Nat) (en : Nat → Value) (W : World) => ∃ (env1 : Nat → Value) (j : Nat), en = (upd (upd (upd (upd env1 3 (.int .i64 0)) 6 v) 7 (.int .i64 (xs.length : Int))) 8 (.int .i64 (j : Int))) ∧ k = xs.length - j ∧ Ext noS G w G W ∧ (j ≤ xs.length) ∧ (W = w) ∧ (orL xs = orL (xs.drop j))) _ ⟨_, 0, (packS (x := 8) (packS (x := 7) (packS (x := 6) (pack1 (x := 3) rfl) rfl) rfl) rfl), rfl, hX0, Nat.zero_le _, rfl, rfl⟩ ?_)
 rintro k1 _ w2 ⟨env1, j, rfl, hk3, hX4, hj, hw, hr⟩
 subst hw
 refine s_seq (c_reg ?_)
 refine qd rfl rfl rfl (r_lss rfl rfl) (qe (s_then (s_seq ?_)))
 refine c_ifd (p := ((j : Int) : Int) < (xs.length : Int)) rfl rfl (fun h5 => ?_) (fun h5 => ?_)
 refine wp_skip (s_then (s_seq ?_))
 refine s_blk (s_seq (c_reg ?_))
 refine qd rfl rfl rfl (run_idx Try.underlying46 sz3 (v := v) rfl rfl hv (by omega) (by omega)) (qd rfl rfl rfl (run_load_int (r := xs.getD j 0) rfl ag3 (z := (j : Int)) rfl hv hX4.pins (by omega) (by omega)) (qd rfl rfl rfl (r_assign (v := (.int .i64 (xs.getD j 0))) rfl) (qe (s_then (s_seq (c_reg ?_))))))
 refine qd rfl rfl rfl (r_move (v := (.int .i64 (xs.getD j 0))) rfl) (qd rfl rfl rfl (r_move (v := (.int .i64 0)) rfl) (qd rfl rfl rfl (r_neq rfl rfl) (qe (s_then ?_))))
 refine c_ifd (p := (xs.getD j 0 : Int) ≠ 0) rfl rfl (fun h6 => ?_) (fun h6 => ?_)
 refine s_seq (c_reg ?_)
 refine qd rfl rfl rfl (r_move (v := (.int .i64 (xs.getD j 0))) rfl) (qd rfl rfl rfl (r_assign (v := (.int .i64 (xs.getD j 0))) rfl) (qe (s_then ?_)))
 exact wp_ret (s_ret (c_ret1 (v := (.int .i64 (xs.getD j 0))) rfl rfl rfl (⟨congrArg (fun z => Ending.returned (Value.int .i64 z)) ((hr.trans (orL_hit (by omega) h6)).symm), rfl⟩)))
 refine wp_skip (s_blkN (s_then (c_reg ?_)))
 refine qd rfl rfl rfl (r_add rfl rfl (by omega)) (qd rfl rfl rfl (r_move (v := (.int .i64 ((j : Int) + 1))) rfl) (qe (s_lopN (⟨_, ?_, _, rfl, _, j + 1, (packS (x := 8) (packS (x := 7) (packS (x := 6) (pack1 (x := 3) rfl) rfl) rfl) rfl), rfl, hX4, (by omega), rfl, (hr.trans (orL_next (by omega) h6))⟩))))
 omega
 refine wp_exit (s_thenE (s_lopE (s_blkE (s_then (s_seq (c_reg ?_))))))
 refine qd rfl rfl rfl (r_move (v := (.int .i64 0)) rfl) (qd rfl rfl rfl (r_assign (v := (.int .i64 0)) rfl) (qe (s_then ?_)))
 exact wp_ret (s_ret (c_ret1 (v := (.int .i64 0)) rfl rfl rfl (⟨congrArg (fun z => Ending.returned (Value.int .i64 z)) ((hr.trans (orL_end (by omega))).symm), rfl⟩)))

theorem slCompare_spec {w : World} {G : Pin} {u v : Value} {xs ys : List Int} (hP : Pins G w) (hu : RSl eInt G u xs) (hv : RSl eInt G v ys) :
  Calls Try.prog 33 [u, v].toArray w fun e w' => e = .returned (.int .i64 (cmpL xs ys)) ∧ w' = w := by
 refine s_enter (n := 36) Try.func33 Try.ntmps33 rfl rfl ?_
 have hX0 : Ext noS G w G w := Ext.refl hP
 have hm := hu.max
 refine s_seq (c_reg ?_)
 refine qd rfl rfl rfl (r_assign (v := (.int .i64 0)) rfl) (qe (s_then (s_seq (s_seq (c_reg ?_)))))
 refine qd rfl rfl rfl (r_move (v := u) rfl) (qd rfl rfl rfl (run_len Try.underlying46 (v := u) rfl hu) (qd rfl rfl rfl (r_move (v := (.int .i64 0)) rfl) (qe (s_then ?_))))
 refine s_blk (s_loop (fun (k : Nat) (en : Nat → Value) (W : World) => ∃ (env1 : Nat → Value) (j : Nat), en = (upd (upd (upd (upd (upd env1 0 u) 1 v) 9 u) 10 (.int .i64 (xs.length : Int))) 11 (.int .i64 (j : Int))) ∧ k = xs.length - j ∧ Ext noS G w G W ∧ (j ≤ xs.length ∧ j ≤ ys.length) ∧ (W = w) ∧ (cmpL xs ys = cmpL (xs.drop j) (ys.drop j))) _ ⟨_, 0, (packS (x := 11) (packS (x := 10) (packS (x := 9) (packS (x := 1) (pack1 (x := 0) rfl) rfl) rfl) rfl) rfl), rfl, hX0, ⟨Nat.zero_le _, Nat.zero_le _⟩, rfl, rfl⟩ ?_)
 rintro k1 _ w2 ⟨env1, j, rfl, hk3, hX4, hj, hw, hr⟩
 subst hw
 refine s_seq (c_reg ?_)
 refine qd rfl rfl rfl (r_lss rfl rfl) (qe (s_then (s_seq ?_)))
 refine c_ifd (p := ((j : Int) : Int) < (xs.length : Int)) rfl rfl (fun h5 => ?_) (fun h5 => ?_)
 refine wp_skip (s_then (s_seq ?_))
 refine s_blk (s_seq (c_reg ?_))
 refine qd rfl rfl rfl (r_move (v := (.int .i64 (j : Int))) rfl) (qd rfl rfl rfl (run_idx Try.underlying46 sz3 (v := u) rfl rfl hu (by omega) (by omega)) (qd rfl rfl rfl (run_load_int (r := xs.getD j 0) rfl ag3 (z := (j : Int)) rfl hu hX4.pins (by omega) (by omega)) (qd rfl rfl rfl (r_assign (v := (.int .i64 (j : Int))) rfl) (qd rfl rfl rfl (r_assign (v := (.int .i64 (xs.getD j 0))) rfl) (qe (s_then (s_seq (s_seq (c_reg ?_)))))))))
 refine qd rfl rfl rfl (r_move (v := (.int .i64 (j : Int))) rfl) (qd rfl rfl rfl (r_move (v := v) rfl) (qd rfl rfl rfl (run_len Try.underlying46 (v := v) rfl hv) (qd rfl rfl rfl (r_geq rfl rfl) (qe (s_then ?_)))))
 refine c_ifd (p := ((ys.length : Int) : Int) ≤ (j : Int)) rfl rfl (fun h6 => ?_) (fun h6 => ?_)
 refine s_seq (c_reg ?_)
 refine qd rfl rfl rfl (r_assign (v := (.int .i64 1)) rfl) (qe (s_then ?_))
 exact wp_ret (s_ret (c_ret1 (v := (.int .i64 1)) rfl rfl rfl (⟨congrArg (fun z => Ending.returned (Value.int .i64 z)) ((hr.trans (cmpL_more (by omega) (by omega))).symm), rfl⟩)))
 refine wp_skip (s_then (s_seq (c_reg ?_)))
 refine qd rfl rfl rfl (r_move (v := v) rfl) (qd rfl rfl rfl (r_move (v := (.int .i64 (j : Int))) rfl) (qd rfl rfl rfl (run_idx Try.underlying46 sz3 (v := v) rfl rfl hv (by omega) (by omega)) (qd rfl rfl rfl (run_load_int (r := ys.getD j 0) rfl ag3 (z := (j : Int)) rfl hv hX4.pins (by omega) (by omega)) (qd rfl rfl rfl (r_assign (v := (.int .i64 (ys.getD j 0))) rfl) (qe (s_then (s_seq (c_reg ?_))))))))
 refine qd rfl rfl rfl (r_move (v := (.int .i64 (xs.getD j 0))) rfl) (qd rfl rfl rfl (r_move (v := (.int .i64 (ys.getD j 0))) rfl) (q1 rfl rfl rfl (o_call (vs := [(.int .i64 (xs.getD j 0)), (.int .i64 (ys.getD j 0))]) Try.func32 nm32 rfl rfl rfl ?_)))
 refine Calls.mono (cmpCompare_spec hX4.pins) ?_
 rintro _ _ ⟨rfl, rfl⟩
 refine ⟨_, rfl, ?_⟩
 refine qd rfl rfl rfl (r_assign (v := (.int .i64 (cmpI (xs.getD j 0) (ys.getD j 0)))) rfl) (qe (s_then (s_seq (c_reg ?_))))
 refine qd rfl rfl rfl (r_move (v := (.int .i64 (cmpI (xs.getD j 0) (ys.getD j 0)))) rfl) (qd rfl rfl rfl (r_neq rfl rfl) (qe (s_then ?_)))
 refine c_ifd (p := (cmpI (xs.getD j 0) (ys.getD j 0) : Int) ≠ 0) rfl rfl (fun h7 => ?_) (fun h7 => ?_)
 refine s_seq (c_reg ?_)
 refine qd rfl rfl rfl (r_move (v := (.int .i64 (cmpI (xs.getD j 0) (ys.getD j 0)))) rfl) (qd rfl rfl rfl (r_assign (v := (.int .i64 (cmpI (xs.getD j 0) (ys.getD j 0)))) rfl) (qe (s_then ?_)))
 exact wp_ret (s_ret (c_ret1 (v := (.int .i64 (cmpI (xs.getD j 0) (ys.getD j 0)))) rfl rfl rfl (⟨congrArg (fun z => Ending.returned (Value.int .i64 z)) ((hr.trans (cmpL_ne (by omega) (by omega) h7)).symm), rfl⟩)))
 refine wp_skip (s_blkN (s_then (c_reg ?_)))
 refine qd rfl rfl rfl (r_add rfl rfl (by omega)) (qd rfl rfl rfl (r_move (v := (.int .i64 ((j : Int) + 1))) rfl) (qe (s_lopN (⟨_, ?_, _, rfl, _, j + 1, (packS (x := 11) (packS (x := 10) (packS (x := 9) (packS (x := 1) (pack1 (x := 0) rfl) rfl) rfl) rfl) rfl), rfl, hX4, (by omega), rfl, (hr.trans (cmpL_eq (by omega) (by omega) h7))⟩))))
 omega
 refine wp_exit (s_thenE (s_lopE (s_blkE (s_then (s_seq (s_seq (c_reg ?_)))))))
 refine qd rfl rfl rfl (r_move (v := u) rfl) (qd rfl rfl rfl (run_len Try.underlying46 (v := u) rfl hu) (qd rfl rfl rfl (r_move (v := v) rfl) (qd rfl rfl rfl (run_len Try.underlying46 (v := v) rfl hv) (qd rfl rfl rfl (r_lss rfl rfl) (qe (s_then ?_))))))
 refine c_ifd (p := ((xs.length : Int) : Int) < (ys.length : Int)) rfl rfl (fun h8 => ?_) (fun h8 => ?_)
 refine s_seq (c_reg ?_)
 refine qd rfl rfl rfl (r_assign (v := (.int .i64 (-1))) rfl) (qe (s_then ?_))
 exact wp_ret (s_ret (c_ret1 (v := (.int .i64 (-1))) rfl rfl rfl (⟨congrArg (fun z => Ending.returned (Value.int .i64 z)) ((hr.trans (cmpL_less (by omega) (by omega))).symm), rfl⟩)))
 refine wp_skip (s_then (s_seq (c_reg ?_)))
 refine qd rfl rfl rfl (r_assign (v := (.int .i64 0)) rfl) (qe (s_then ?_))
 exact wp_ret (s_ret (c_ret1 (v := (.int .i64 0)) rfl rfl rfl (⟨congrArg (fun z => Ending.returned (Value.int .i64 z)) ((hr.trans (cmpL_same (by omega) (by omega))).symm), rfl⟩)))

theorem slIndexB_spec {w : World} {G : Pin} {v : Value} {xs : List Bool} {p : Bool} (hP : Pins G w) (hv : RSl eBool G v xs) :
  Calls Try.prog 46 [v, (.bool p)].toArray w fun e w' => e = .returned (.int .i64 (idxB xs p)) ∧ w' = w := by
 refine s_enter (n := 19) Try.func46 Try.ntmps46 rfl rfl ?_
 have hX0 : Ext noS G w G w := Ext.refl hP
 have hm := hv.max
 refine s_seq (c_reg ?_)
 refine qd rfl rfl rfl (r_assign (v := (.int .i64 0)) rfl) (qe (s_then (s_seq (s_seq (c_reg ?_)))))
 refine qd rfl rfl rfl (r_move (v := v) rfl) (qd rfl rfl rfl (run_len Try.underlying58 (v := v) rfl hv) (qd rfl rfl rfl (r_move (v := (.int .i64 0)) rfl) (qe (s_then ?_))))
 refine s_blk (s_loop (fun (k : Nat) (en : Nat → Value) (W : World) => ∃ (env1 : Nat → Value) (j : Nat), en = (upd (upd (upd (upd env1 0 v) 1 (.bool p)) 7 (.int .i64 (xs.length : Int))) 8 (.int .i64 (j : Int))) ∧ k = xs.length - j ∧ Ext noS G w G W ∧ (j ≤ xs.length) ∧ (W = w) ∧ (idxB xs p = idxFrom p j (xs.drop j))) _ ⟨_, 0, (packS (x := 8) (packS (x := 7) (packS (x := 1) (pack1 (x := 0) rfl) rfl) rfl) rfl), rfl, hX0, Nat.zero_le _, rfl, rfl⟩ ?_)
 rintro k1 _ w2 ⟨env1, j, rfl, hk3, hX4, hj, hw, hr⟩
 subst hw
 refine s_seq (c_reg ?_)
 refine qd rfl rfl rfl (r_lss rfl rfl) (qe (s_then (s_seq ?_)))
 refine c_ifd (p := ((j : Int) : Int) < (xs.length : Int)) rfl rfl (fun h5 => ?_) (fun h5 => ?_)
 refine wp_skip (s_then (s_seq ?_))
 refine s_blk (s_seq (c_reg ?_))
 refine qd rfl rfl rfl (r_move (v := (.int .i64 (j : Int))) rfl) (qd rfl rfl rfl (r_assign (v := (.int .i64 (j : Int))) rfl) (qe (s_then (s_seq (c_reg ?_)))))
 refine qd rfl rfl rfl (r_move (v := (.bool p)) rfl) (qd rfl rfl rfl (r_move (v := v) rfl) (qd rfl rfl rfl (r_move (v := (.int .i64 (j : Int))) rfl) (qd rfl rfl rfl (run_idx Try.underlying58 sz4 (v := v) rfl rfl hv (by omega) (by omega)) (qd rfl rfl rfl (run_load_bool (r := xs.getD j false) rfl ag4 (z := (j : Int)) rfl hv hX4.pins (by omega) (by omega)) (qd rfl rfl rfl (r_eqlB Try.underlying4 rfl rfl) (qe (s_then ?_)))))))
 refine c_if rfl rfl (fun h6 => ?_) (fun h6 => ?_)
 refine s_seq (c_reg ?_)
 refine qd rfl rfl rfl (r_move (v := (.int .i64 (j : Int))) rfl) (qd rfl rfl rfl (r_assign (v := (.int .i64 (j : Int))) rfl) (qe (s_then ?_)))
 exact wp_ret (s_ret (c_ret1 (v := (.int .i64 (j : Int))) rfl rfl rfl (⟨congrArg (fun z => Ending.returned (Value.int .i64 z)) ((hr.trans (idx_hit (by omega) h6)).symm), rfl⟩)))
 refine wp_skip (s_blkN (s_then (c_reg ?_)))
 refine qd rfl rfl rfl (r_add rfl rfl (by omega)) (qd rfl rfl rfl (r_move (v := (.int .i64 ((j : Int) + 1))) rfl) (qe (s_lopN (⟨_, ?_, _, rfl, _, j + 1, (packS (x := 8) (packS (x := 7) (packS (x := 1) (pack1 (x := 0) rfl) rfl) rfl) rfl), rfl, hX4, (by omega), rfl, (hr.trans (idx_next (by omega) h6))⟩))))
 omega
 refine wp_exit (s_thenE (s_lopE (s_blkE (s_then (s_seq (c_reg ?_))))))
 refine qd rfl rfl rfl (r_assign (v := (.int .i64 (-1))) rfl) (qe (s_then ?_))
 exact wp_ret (s_ret (c_ret1 (v := (.int .i64 (-1))) rfl rfl rfl (⟨congrArg (fun z => Ending.returned (Value.int .i64 z)) ((hr.trans (idx_end (by omega))).symm), rfl⟩)))

theorem slContains_spec {w : World} {G : Pin} {v : Value} {xs : List Bool} {p : Bool} (hP : Pins G w) (hv : RSl eBool G v xs) :
  Calls Try.prog 34 [v, (.bool p)].toArray w fun e w' => e = .returned (.bool (decide ((0 : Int) ≤ idxB xs p))) ∧ w' = w := by
 refine s_enter (n := 9) Try.func34 Try.ntmps34 rfl rfl ?_
 have hX0 : Ext noS G w G w := Ext.refl hP
 refine s_seq (c_reg ?_)
 refine qd rfl rfl rfl (r_assign (v := (.bool false)) rfl) (qe (s_then (s_seq (c_reg ?_))))
 refine qd rfl rfl rfl (r_move (v := v) rfl) (qd rfl rfl rfl (r_move (v := (.bool p)) rfl) (q1 rfl rfl rfl (o_call (vs := [v, (.bool p)]) Try.func46 nm46 rfl rfl rfl ?_)))
 refine Calls.mono (slIndexB_spec hX0.pins hv) ?_
 rintro _ _ ⟨rfl, rfl⟩
 refine ⟨_, rfl, ?_⟩
 refine qd rfl rfl rfl (r_geq rfl rfl) (qd rfl rfl rfl (r_assign (v := (.bool (decide ((0 : Int) ≤ (idxB xs p))))) rfl) (qe (s_then ?_)))
 exact wp_ret (s_ret (c_ret1 (v := (.bool (decide ((0 : Int) ≤ (idxB xs p))))) rfl rfl rfl (⟨rfl, rfl⟩)))

theorem births_spec {w : World} {G : Pin} {v : Value} {ns : List Nd} (hP : Pins G w) (hv : RSl eNode G v ns) (ho : OptsOk ns) (hs : ns.length ≤ 1048576) :
  Calls Try.prog 30 [v].toArray w fun e w' => ∃ (u : Value) (G' : Pin), e = .returned u ∧ Own eInt 3 G' w' w.heap.size u (births ns) ∧ Ext noS G w G' w' := by
 refine s_enter (n := 64) Try.func30 Try.ntmps30 rfl rfl ?_
 have hX0 : Ext noS G w G w := Ext.refl hP
 refine s_seq (c_reg ?_)
 refine qd rfl rfl rfl (r_assign (v := (.slice none 0 0)) rfl) (qe (s_then (s_seq (c_reg ?_))))
 refine qd rfl rfl rfl (r_move (v := v) rfl) (qd rfl rfl rfl (run_len Try.underlying24 (v := v) rfl hv) (q1 rfl rfl rfl (o_make (E := eInt) 0 8 (.int .i64 0) Try.underlying46 mk3 (fun _ => rfl) rfl rfl hX0.pins (by omega) (by omega) (by omega) (fun u1 w2 ho3 hp4 hl5 hk6 => ?_))))
 have hX7 := hX0.step hp4 hl5
 have ho8 : Own eInt 3 G w2 w.heap.size u1 (List.replicate ns.length 0) := ho3.weaken hX0.size
 have hm9 : (List.replicate ns.length 0).length = ns.length := List.length_replicate ..
 refine qd rfl rfl rfl (r_assign (v := u1) rfl) (qe (s_then (s_seq (s_seq (c_reg ?_)))))
 refine qd rfl rfl rfl (r_move (v := v) rfl) (qd rfl rfl rfl (run_len Try.underlying24 (v := v) rfl hv) (qd rfl rfl rfl (r_move (v := (.int .i64 0)) rfl) (qe (s_then ?_))))
 refine s_blk (s_loop (fun (k : Nat) (en : Nat → Value) (W : World) => ∃ (env1 : Nat → Value) (j : Nat) (b : List Int) (GL1 : Pin), en = (upd (upd (upd (upd (upd env1 2 (.slice none 0 0)) 3 u1) 13 v) 14 (.int .i64 (ns.length : Int))) 15 (.int .i64 (j : Int))) ∧ k = ns.length - j ∧ Ext noS G w GL1 W ∧ Pin.le G GL1 ∧ (j ≤ ns.length) ∧ (b.length = ns.length) ∧ (BOk b) ∧ (births ns = bgo j (ns.drop j) b) ∧ (Own eInt 3 GL1 W w.heap.size u1 (b))) _ ⟨_, 0, List.replicate ns.length 0, G, (packS (x := 15) (packS (x := 14) (packS (x := 13) (packS (x := 3) (pack1 (x := 2) rfl) rfl) rfl) rfl) rfl), rfl, hX7, Pin.le_refl _, Nat.zero_le _, (by simp), (BOk.replicate _), rfl, ho8⟩ ?_)
 rintro k10 _ w11 ⟨env1, j, b, GL1, rfl, hk12, hX13, hlek10, hj, hnb, hkb, hr, hw14⟩
 refine s_seq (c_reg ?_)
 refine qd rfl rfl rfl (r_lss rfl rfl) (qe (s_then (s_seq ?_)))
 refine c_ifd (p := ((j : Int) : Int) < (ns.length : Int)) rfl rfl (fun h15 => ?_) (fun h15 => ?_)
 refine wp_skip (s_then (s_seq ?_))
 refine s_blk (s_seq (c_reg ?_))
 refine qd rfl rfl rfl (r_move (v := (.int .i64 (j : Int))) rfl) (qd rfl rfl rfl (run_idx Try.underlying24 sz48 (v := v) rfl rfl hv (by omega) (by omega)) ?_)
 obtain ⟨u16, u17, hr18, hr19, hl20⟩ := nm_node (hv.at (z := (j : Int)) (by omega) (by omega)) (j := j) rfl
 have hm21 := hr18.max
 have hm22 := hr19.max
 refine qd rfl rfl rfl (hl20 ag48 sz48 rfl (Pins.of_le hX13.pins hlek10)) (q1 rfl rfl rfl (o_alloc [(.slice none 0 0), (.slice none 0 0)] zr48 rfl hX13.pins (fun b23 w24 hk25 hb26 hp27 hl28 => ?_)))
 have hX29 := hX13.step hp27 hl28
 have ho30 := hw14.below hl28
 have ha31 : Apart (some b23) u1.ownBlock := new_ne_own (congrArg some hk25) hw14.lt
 have hlo32 : w.heap.size ≤ b23 := by have := hX13.size; omega
 refine qd rfl rfl rfl (r_assign (v := (.int .i64 (j : Int))) rfl) (q0 rfl rfl rfl (o_stp (cs' := [u16, u17]) (us := [u16, u17]) (v := (.agg [u16, u17].toArray)) sz48 rfl rfl rfl (ones2 hr18.one hr19.one) hX29.pins hb26 (Nat.le_of_ble_eq_true rfl) rfl (fun w33 hb34 hp35 hg36 hz37 => ?_)))
 have hX38 := hX29.write hp35 hg36 ((lo_box hlo32))
 have ho39 := ho30.keptA hg36 ha31.symm
 obtain ⟨G40, hle41, hX42, hbp43, hf44⟩ := hb34.shut hX38 hlo32
 have ho45 := ho39.moreA hle41 hf44 ha31.symm
 refine qe (s_then (s_seq (s_seq (c_reg ?_))))
 refine qd rfl rfl rfl (r_fldp (k := 0) rfl Try.underlying48 rfl nz46 rfl) (qd rfl rfl rfl (r_ldp1 (u := u16) ag46 rfl (hX42.pins _ _ _ (hbp43 0 _ rfl))) (qd rfl rfl rfl (run_len Try.underlying46 (v := u16) rfl hr18) (qd rfl rfl rfl (r_move (v := (.int .i64 0)) rfl) (qe (s_then ?_)))))
 refine s_blk (s_loop (fun (k : Nat) (en : Nat → Value) (W : World) => ∃ (env1 : Nat → Value) (i : Nat) (b2 : List Int), en = (upd (upd (upd (upd (upd (upd (upd (upd (upd (upd env1 2 (.slice none 0 0)) 3 u1) 4 (.int .i64 (j : Int))) 5 (.pointer (some ⟨b23, 0, none⟩))) 13 v) 14 (.int .i64 (ns.length : Int))) 15 (.int .i64 (j : Int))) 21 u16) 22 (.int .i64 (((ns.getD j default).l).length : Int))) 23 (.int .i64 (i : Int))) ∧ k = (ns.getD j default).l.length - i ∧ Ext noS G w G40 W ∧ (i ≤ (ns.getD j default).l.length) ∧ (b2.length = ns.length) ∧ (BOk b2) ∧ (brow j b (ns.getD j default).l = brow j b2 ((ns.getD j default).l.drop i)) ∧ (Own eInt 3 G40 W w.heap.size u1 (b2))) _ ⟨_, 0, b, (packS (x := 23) (packS (x := 22) (packS (x := 21) (packS (x := 15) (packS (x := 14) (packS (x := 13) (packS (x := 5) (packS (x := 4) (packS (x := 3) (pack1 (x := 2) rfl) rfl) rfl) rfl) rfl) rfl) rfl) rfl) rfl) rfl), rfl, hX42, Nat.zero_le _, hnb, hkb, rfl, ho45⟩ ?_)
 rintro k46 _ w47 ⟨env1, i, b2, rfl, hk48, hX49, hii, hnb2, hkb2, hrb2, hw50⟩
 refine s_seq (c_reg ?_)
 refine qd rfl rfl rfl (r_lss rfl rfl) (qe (s_then (s_seq ?_)))
 refine c_ifd (p := ((i : Int) : Int) < (((ns.getD j default).l).length : Int)) rfl rfl (fun h51 => ?_) (fun h51 => ?_)
 have hk := ho.left (j := j) (i := i) (by omega) (by omega)
 have hbj := hkb2 j
 have hbk := hkb2 ((ns.getD j default).l.getD i 0).toNat
 refine wp_skip (s_then (s_seq ?_))
 refine s_blk (s_seq (c_reg ?_))
 refine qd rfl rfl rfl (run_idx Try.underlying46 sz3 (v := u16) rfl rfl hr18 (by omega) (by omega)) (qd rfl rfl rfl (run_load_int (r := ((ns.getD j default).l).getD i 0) rfl ag3 (z := (i : Int)) rfl hr18 (Pins.of_le hX49.pins (Pin.le_trans hlek10 hle41)) (by omega) (by omega)) (qd rfl rfl rfl (r_assign (v := (.int .i64 (((ns.getD j default).l).getD i 0))) rfl) (qe (s_then ?_))))
 have hq52 := Gadd.pins hX49.pins u1
 have hr53 := hw50.read
 refine c_draw (S := fun wz => Pins (Gadd G40 w47 u1) wz) (last := 13) (by kernel_rfl) rfl ?_
 have hl54 : Below w47.heap.size w47 w47.drew := (Below.refl _ _).drew
 have hp55 := hX49.pins.below hl54
 have hX56 := hX49.step hp55 hl54
 have ho57 := hw50.below hl54
 have hq58 := hq52.below hl54
 refine dr_take (i := 0) rfl rfl rfl (want_none rfl _) (by kernel_rfl) (fun _ _ => r_move (v := u1) rfl) hq58 (dr_take (i := 1) rfl rfl rfl (want_none rfl _) (by kernel_rfl) (fun _ _ => r_move (v := (.int .i64 (j : Int))) rfl) hq58 (dr_take (i := 2) rfl rfl rfl (want_none rfl _) (by kernel_rfl) (fun _ _ => r_move (v := u1) rfl) hq58 (dr_take (i := 3) rfl rfl rfl (want_none rfl _) (by kernel_rfl) (fun _ _ => r_move (v := (.int .i64 (j : Int))) rfl) hq58 (dr_take (i := 4) rfl rfl rfl (want_none rfl _) (by kernel_rfl) (fun _ _ => run_idx Try.underlying46 sz3 (v := u1) rfl rfl hr53 (by omega) (by omega)) hq58 (dr_take (i := 5) rfl rfl rfl (want_none rfl _) (by kernel_rfl) (fun _ hS => run_load_int (r := b2.getD j 0) rfl ag3 (z := (j : Int)) rfl hr53 hS (by omega) (by omega)) hq58 (dr_take (i := 6) rfl rfl rfl (want_none rfl _) (by kernel_rfl) (fun _ _ => r_move (v := u1) rfl) hq58 (dr_take (i := 7) rfl rfl rfl (want_none rfl _) (by kernel_rfl) (fun _ _ => r_move (v := (.int .i64 (((ns.getD j default).l).getD i 0))) rfl) hq58 (dr_take (i := 8) rfl rfl rfl (want_none rfl _) (by kernel_rfl) (fun _ _ => run_idx Try.underlying46 sz3 (v := u1) rfl rfl hr53 (by omega) (by omega)) hq58 (dr_take (i := 9) rfl rfl rfl (want_none rfl _) (by kernel_rfl) (fun _ hS => run_load_int (r := b2.getD (((ns.getD j default).l).getD i 0).toNat 0) rfl ag3 (z := (((ns.getD j default).l).getD i 0)) rfl hr53 hS (by omega) (by omega)) hq58 (dr_take (i := 10) rfl rfl rfl (want_none rfl _) (by kernel_rfl) (fun _ _ => r_add rfl rfl (by omega)) hq58 (dr_take (i := 11) rfl rfl rfl (want_none rfl _) (by kernel_rfl) (fun _ _ => r_max rfl rfl) hq58 (dr_take (i := 12) rfl rfl rfl (want_none rfl _) (by kernel_rfl) (fun _ _ => run_idx Try.underlying46 sz3 (v := u1) rfl rfl hr53 (by omega) (by omega)) hq58 (dr_one (i := 13) (by kernel_rfl) (drOp0 (i := 13) rfl rfl rfl (want_none rfl _) (o_set (E := eInt) (v := u1) (u := (.int .i64 (max (b2.getD j 0) ((b2.getD (((ns.getD j default).l).getD i 0).toNat 0) + 1)))) (z := (j : Int)) (max (b2.getD j 0) ((b2.getD (((ns.getD j default).l).getD i 0).toNat 0) + 1)) sz3 rfl rfl rfl rfl hX56.pins ho57 (by omega) (by omega) (fun w59 ho60 hp61 hg62 hz63 => ?_))))))))))))))))
 have hX64 := hX56.write hp61 hg62 ((lo_own ho57))
 refine ⟨fun h => absurd rfl h, ?_⟩
 refine dr_end (by kernel_rfl) (s_blkN (s_then (c_reg ?_)))
 refine qd rfl rfl rfl (r_add rfl rfl (by omega)) (qd rfl rfl rfl (r_move (v := (.int .i64 ((i : Int) + 1))) rfl) (qe (s_lopN (⟨_, ?_, _, rfl, _, i + 1, bmax j b2 ((ns.getD j default).l.getD i 0), (packS (x := 23) (packS (x := 22) (packS (x := 21) (packS (x := 15) (packS (x := 14) (packS (x := 13) (packS (x := 5) (packS (x := 4) (packS (x := 3) (pack1 (x := 2) rfl) rfl) rfl) rfl) rfl) rfl) rfl) rfl) rfl) rfl), rfl, hX64, (by omega), ((bmax_length _ _ _).trans hnb2), (hkb2.max hk.1 hk.2), (hrb2.trans (brow_next (by omega))), ho60⟩))))
 omega
 refine wp_exit (s_thenE (s_lopE (s_blkE (s_then (s_seq (c_reg ?_))))))
 refine qd rfl rfl rfl (r_fldp (k := 1) rfl Try.underlying48 rfl nz46 rfl) (qd rfl rfl rfl (r_ldp1 (u := u17) ag46 rfl (hX49.pins _ _ _ (hbp43 1 _ rfl))) (qd rfl rfl rfl (run_len Try.underlying46 (v := u17) rfl hr19) (qd rfl rfl rfl (r_move (v := (.int .i64 0)) rfl) (qe (s_then ?_)))))
 refine s_blk (s_loop (fun (k : Nat) (en : Nat → Value) (W : World) => ∃ (env1 : Nat → Value) (i3 : Nat) (b3 : List Int), en = (upd (upd (upd (upd (upd (upd (upd (upd (upd env1 2 (.slice none 0 0)) 3 u1) 4 (.int .i64 (j : Int))) 13 v) 14 (.int .i64 (ns.length : Int))) 15 (.int .i64 (j : Int))) 42 u17) 43 (.int .i64 (((ns.getD j default).r).length : Int))) 44 (.int .i64 (i3 : Int))) ∧ k = (ns.getD j default).r.length - i3 ∧ Ext noS G w G40 W ∧ (i3 ≤ (ns.getD j default).r.length) ∧ (b3.length = ns.length) ∧ (BOk b3) ∧ (brow j b2 (ns.getD j default).r = brow j b3 ((ns.getD j default).r.drop i3)) ∧ (Own eInt 3 G40 W w.heap.size u1 (b3))) _ ⟨_, 0, b2, (packS (x := 44) (packS (x := 43) (packS (x := 42) (packS (x := 15) (packS (x := 14) (packS (x := 13) (packS (x := 4) (packS (x := 3) (pack1 (x := 2) rfl) rfl) rfl) rfl) rfl) rfl) rfl) rfl) rfl), rfl, hX49, Nat.zero_le _, hnb2, hkb2, rfl, hw50⟩ ?_)
 rintro k65 _ w66 ⟨env1, i3, b3, rfl, hk67, hX68, hii3, hnb3, hkb3, hrb3, hw69⟩
 refine s_seq (c_reg ?_)
 refine qd rfl rfl rfl (r_lss rfl rfl) (qe (s_then (s_seq ?_)))
 refine c_ifd (p := ((i3 : Int) : Int) < (((ns.getD j default).r).length : Int)) rfl rfl (fun h70 => ?_) (fun h70 => ?_)
 have hk := ho.right (j := j) (i := i3) (by omega) (by omega)
 have hbj := hkb3 j
 have hbk := hkb3 ((ns.getD j default).r.getD i3 0).toNat
 refine wp_skip (s_then (s_seq ?_))
 refine s_blk (s_seq (c_reg ?_))
 refine qd rfl rfl rfl (run_idx Try.underlying46 sz3 (v := u17) rfl rfl hr19 (by omega) (by omega)) (qd rfl rfl rfl (run_load_int (r := ((ns.getD j default).r).getD i3 0) rfl ag3 (z := (i3 : Int)) rfl hr19 (Pins.of_le hX68.pins (Pin.le_trans hlek10 hle41)) (by omega) (by omega)) (qd rfl rfl rfl (r_assign (v := (.int .i64 (((ns.getD j default).r).getD i3 0))) rfl) (qe (s_then ?_))))
 have hq71 := Gadd.pins hX68.pins u1
 have hr72 := hw69.read
 refine c_draw (S := fun wz => Pins (Gadd G40 w66 u1) wz) (last := 13) (by kernel_rfl) rfl ?_
 have hl73 : Below w66.heap.size w66 w66.drew := (Below.refl _ _).drew
 have hp74 := hX68.pins.below hl73
 have hX75 := hX68.step hp74 hl73
 have ho76 := hw69.below hl73
 have hq77 := hq71.below hl73
 refine dr_take (i := 0) rfl rfl rfl (want_none rfl _) (by kernel_rfl) (fun _ _ => r_move (v := u1) rfl) hq77 (dr_take (i := 1) rfl rfl rfl (want_none rfl _) (by kernel_rfl) (fun _ _ => r_move (v := (.int .i64 (j : Int))) rfl) hq77 (dr_take (i := 2) rfl rfl rfl (want_none rfl _) (by kernel_rfl) (fun _ _ => r_move (v := u1) rfl) hq77 (dr_take (i := 3) rfl rfl rfl (want_none rfl _) (by kernel_rfl) (fun _ _ => r_move (v := (.int .i64 (j : Int))) rfl) hq77 (dr_take (i := 4) rfl rfl rfl (want_none rfl _) (by kernel_rfl) (fun _ _ => run_idx Try.underlying46 sz3 (v := u1) rfl rfl hr72 (by omega) (by omega)) hq77 (dr_take (i := 5) rfl rfl rfl (want_none rfl _) (by kernel_rfl) (fun _ hS => run_load_int (r := b3.getD j 0) rfl ag3 (z := (j : Int)) rfl hr72 hS (by omega) (by omega)) hq77 (dr_take (i := 6) rfl rfl rfl (want_none rfl _) (by kernel_rfl) (fun _ _ => r_move (v := u1) rfl) hq77 (dr_take (i := 7) rfl rfl rfl (want_none rfl _) (by kernel_rfl) (fun _ _ => r_move (v := (.int .i64 (((ns.getD j default).r).getD i3 0))) rfl) hq77 (dr_take (i := 8) rfl rfl rfl (want_none rfl _) (by kernel_rfl) (fun _ _ => run_idx Try.underlying46 sz3 (v := u1) rfl rfl hr72 (by omega) (by omega)) hq77 (dr_take (i := 9) rfl rfl rfl (want_none rfl _) (by kernel_rfl) (fun _ hS => run_load_int (r := b3.getD (((ns.getD j default).r).getD i3 0).toNat 0) rfl ag3 (z := (((ns.getD j default).r).getD i3 0)) rfl hr72 hS (by omega) (by omega)) hq77 (dr_take (i := 10) rfl rfl rfl (want_none rfl _) (by kernel_rfl) (fun _ _ => r_add rfl rfl (by omega)) hq77 (dr_take (i := 11) rfl rfl rfl (want_none rfl _) (by kernel_rfl) (fun _ _ => r_max rfl rfl) hq77 (dr_take (i := 12) rfl rfl rfl (want_none rfl _) (by kernel_rfl) (fun _ _ => run_idx Try.underlying46 sz3 (v := u1) rfl rfl hr72 (by omega) (by omega)) hq77 (dr_one (i := 13) (by kernel_rfl) (drOp0 (i := 13) rfl rfl rfl (want_none rfl _) (o_set (E := eInt) (v := u1) (u := (.int .i64 (max (b3.getD j 0) ((b3.getD (((ns.getD j default).r).getD i3 0).toNat 0) + 1)))) (z := (j : Int)) (max (b3.getD j 0) ((b3.getD (((ns.getD j default).r).getD i3 0).toNat 0) + 1)) sz3 rfl rfl rfl rfl hX75.pins ho76 (by omega) (by omega) (fun w78 ho79 hp80 hg81 hz82 => ?_))))))))))))))))
 have hX83 := hX75.write hp80 hg81 ((lo_own ho76))
 refine ⟨fun h => absurd rfl h, ?_⟩
 refine dr_end (by kernel_rfl) (s_blkN (s_then (c_reg ?_)))
 refine qd rfl rfl rfl (r_add rfl rfl (by omega)) (qd rfl rfl rfl (r_move (v := (.int .i64 ((i3 : Int) + 1))) rfl) (qe (s_lopN (⟨_, ?_, _, rfl, _, i3 + 1, bmax j b3 ((ns.getD j default).r.getD i3 0), (packS (x := 44) (packS (x := 43) (packS (x := 42) (packS (x := 15) (packS (x := 14) (packS (x := 13) (packS (x := 4) (packS (x := 3) (pack1 (x := 2) rfl) rfl) rfl) rfl) rfl) rfl) rfl) rfl) rfl), rfl, hX83, (by omega), ((bmax_length _ _ _).trans hnb3), (hkb3.max hk.1 hk.2), (hrb3.trans (brow_next (by omega))), ho79⟩))))
 omega
 refine wp_exit (s_thenE (s_lopE (s_blkE (s_blkN (s_then (c_reg ?_))))))
 refine qd rfl rfl rfl (r_add rfl rfl (by omega)) (qd rfl rfl rfl (r_move (v := (.int .i64 ((j : Int) + 1))) rfl) (qe (s_lopN (⟨_, ?_, _, rfl, _, j + 1, b3, G40, (packS (x := 15) (packS (x := 14) (packS (x := 13) (packS (x := 3) (pack1 (x := 2) rfl) rfl) rfl) rfl) rfl), rfl, hX68, (Pin.le_trans hlek10 hle41), (by omega), hnb3, hkb3, (hr.trans ((bgo_next (by omega)).trans (by rw [hrb2, brow_end (by omega), hrb3, brow_end (by omega)]))), hw69⟩))))
 omega
 refine wp_exit (s_thenE (s_lopE (s_blkE (s_then (s_seq (c_reg ?_))))))
 refine qd rfl rfl rfl (r_move (v := u1) rfl) (qd rfl rfl rfl (r_assign (v := u1) rfl) (qe (s_then ?_)))
 exact wp_ret (s_ret (c_ret1 (v := u1) rfl rfl rfl (⟨_, _, rfl, (by rw [hr, bgo_end (by omega)]; exact hw14), hX13⟩)))

theorem used_spec {w : World} {G : Pin} {v : Value} {ns : List Nd} {m : Int} (hP : Pins G w) (hv : RSl eNode G v ns) (ho : OptsOk ns) (hs : (0 ≤ m ∧ m < ns.length) ∧ ns.length ≤ 1048576) :
  Calls Try.prog 35 [v, (.int .i64 m)].toArray w fun e w' => ∃ (u : Value) (G' : Pin), e = .returned u ∧ Own eBool 4 G' w' w.heap.size u (usedM ns m.toNat) ∧ Ext noS G w G' w' := by
 refine s_enter (n := 56) Try.func35 Try.ntmps35 rfl rfl ?_
 have hX0 : Ext noS G w G w := Ext.refl hP
 refine s_seq (c_reg ?_)
 refine qd rfl rfl rfl (r_assign (v := (.slice none 0 0)) rfl) (qe (s_then (s_seq (c_reg ?_))))
 refine qd rfl rfl rfl (r_move (v := v) rfl) (qd rfl rfl rfl (run_len Try.underlying24 (v := v) rfl hv) (q1 rfl rfl rfl (o_make (E := eBool) false 1 (.bool false) Try.underlying58 mk4 (fun _ => rfl) rfl rfl hX0.pins (by omega) (by omega) (by omega) (fun u1 w2 ho3 hp4 hl5 hk6 => ?_))))
 have hX7 := hX0.step hp4 hl5
 have ho8 : Own eBool 4 G w2 w.heap.size u1 (List.replicate ns.length false) := ho3.weaken hX0.size
 have hm9 : (List.replicate ns.length false).length = ns.length := List.length_replicate ..
 refine qd rfl rfl rfl (r_assign (v := u1) rfl) (qe (s_then (s_seq (c_reg ?_))))
 refine qd rfl rfl rfl (r_move (v := u1) rfl) (qd rfl rfl rfl (r_move (v := (.int .i64 m)) rfl) (qd rfl rfl rfl (run_idx Try.underlying58 sz4 (v := u1) rfl rfl ho8.read (by omega) (by omega)) (q0 rfl rfl rfl (o_set (E := eBool) (v := u1) (u := (.bool true)) (z := m) (true) sz4 rfl rfl rfl rfl hX7.pins ho8 (by omega) (by omega) (fun w10 ho11 hp12 hg13 hz14 => ?_)))))
 have hX15 := hX7.write hp12 hg13 ((lo_own ho8))
 refine qe (s_then (s_seq (s_seq (c_reg ?_))))
 refine qd rfl rfl rfl (r_move (v := (.int .i64 m)) rfl) (qd rfl rfl rfl (r_assign (v := (.int .i64 m)) rfl) (qe (s_then ?_)))
 refine s_blk (s_loop (fun (k : Nat) (en : Nat → Value) (W : World) => ∃ (env1 : Nat → Value) (z : Int) (b : List Bool), en = (upd (upd (upd (upd env1 0 v) 4 (.slice none 0 0)) 5 u1) 6 (.int .i64 z)) ∧ k = (z + 1).toNat ∧ Ext noS G w G W ∧ (-1 ≤ z ∧ z ≤ m) ∧ (b.length = ns.length) ∧ (usedM ns m.toNat = ugo ns (z + 1).toNat b) ∧ (Own eBool 4 G W w.heap.size u1 (b))) _ ⟨_, m, (List.replicate ns.length false).set m.toNat true, (packS (x := 6) (packS (x := 5) (packS (x := 4) (pack1 (x := 0) rfl) rfl) rfl) rfl), rfl, hX15, (by omega), (by simp), (by rw [show (m + 1).toNat = m.toNat + 1 by omega]; rfl), ho11⟩ ?_)
 rintro k16 _ w17 ⟨env1, z, b, rfl, hk18, hX19, hz, hnb, hr, hw20⟩
 refine s_seq (s_seq (c_reg ?_))
 refine qd rfl rfl rfl (r_move (v := (.int .i64 z)) rfl) (qd rfl rfl rfl (r_geq rfl rfl) (qe (s_then ?_)))
 refine c_ifd (p := (0 : Int) ≤ z) rfl rfl (fun h21 => ?_) (fun h21 => ?_)
 refine wp_skip (s_then (s_seq ?_))
 refine s_blk (s_seq (s_seq (c_reg ?_)))
 refine qd rfl rfl rfl (r_move (v := u1) rfl) (qd rfl rfl rfl (r_move (v := (.int .i64 z)) rfl) (qd rfl rfl rfl (run_idx Try.underlying58 sz4 (v := u1) rfl rfl hw20.read (by omega) (by omega)) (qd rfl rfl rfl (run_load_bool (r := b.getD (z).toNat false) rfl ag4 (z := z) rfl hw20.read (Gadd.pins hX19.pins u1) (by omega) (by omega)) (qd rfl rfl rfl (r_not rfl) (qe (s_then ?_))))))
 refine c_ifn rfl rfl (fun h22 => ?_) (fun h22 => ?_)
 refine wp_skip (s_then (s_seq (s_seq (c_reg ?_))))
 refine qd rfl rfl rfl (r_move (v := v) rfl) (qd rfl rfl rfl (r_move (v := (.int .i64 z)) rfl) (qd rfl rfl rfl (run_idx Try.underlying24 sz48 (v := v) rfl rfl hv (by omega) (by omega)) (qd rfl rfl rfl (run_fld (off := 0) Try.underlying48 rfl rfl nz46 (z := z) (k := 0) rfl hv (by omega) (by omega)) ?_)))
 obtain ⟨u23, hr24, hl25⟩ := nm_nl (hv.at (z := z) (by omega) (by omega)) (j := (z).toNat) rfl
 have hm26 := hr24.max
 refine qd rfl rfl rfl (hl25 ag46 rfl hX19.pins) (qd rfl rfl rfl (run_len Try.underlying46 (v := u23) rfl hr24) (qd rfl rfl rfl (r_move (v := (.int .i64 0)) rfl) (qe (s_then ?_))))
 refine s_blk (s_loop (fun (k : Nat) (en : Nat → Value) (W : World) => ∃ (env1 : Nat → Value) (i : Nat) (b2 : List Bool), en = (upd (upd (upd (upd (upd (upd (upd env1 0 v) 4 (.slice none 0 0)) 5 u1) 6 (.int .i64 z)) 31 u23) 32 (.int .i64 (((ns.getD (z).toNat default).l).length : Int))) 33 (.int .i64 (i : Int))) ∧ k = (ns.getD (z).toNat default).l.length - i ∧ Ext noS G w G W ∧ (i ≤ (ns.getD (z).toNat default).l.length) ∧ (b2.length = ns.length) ∧ (setAll b (ns.getD (z).toNat default).l = setAll b2 ((ns.getD (z).toNat default).l.drop i)) ∧ (Own eBool 4 G W w.heap.size u1 (b2))) _ ⟨_, 0, b, (packS (x := 33) (packS (x := 32) (packS (x := 31) (packS (x := 6) (packS (x := 5) (packS (x := 4) (pack1 (x := 0) rfl) rfl) rfl) rfl) rfl) rfl) rfl), rfl, hX19, Nat.zero_le _, hnb, rfl, hw20⟩ ?_)
 rintro k27 _ w28 ⟨env1, i, b2, rfl, hk29, hX30, hii, hnb2, hrb2, hw31⟩
 refine s_seq (c_reg ?_)
 refine qd rfl rfl rfl (r_lss rfl rfl) (qe (s_then (s_seq ?_)))
 refine c_ifd (p := ((i : Int) : Int) < (((ns.getD (z).toNat default).l).length : Int)) rfl rfl (fun h32 => ?_) (fun h32 => ?_)
 have hk := ho.left (j := (z).toNat) (i := i) (by omega) (by omega)
 refine wp_skip (s_then (s_seq ?_))
 refine s_blk (s_seq (c_reg ?_))
 refine qd rfl rfl rfl (run_idx Try.underlying46 sz3 (v := u23) rfl rfl hr24 (by omega) (by omega)) (qd rfl rfl rfl (run_load_int (r := ((ns.getD (z).toNat default).l).getD i 0) rfl ag3 (z := (i : Int)) rfl hr24 hX30.pins (by omega) (by omega)) (qd rfl rfl rfl (r_assign (v := (.int .i64 (((ns.getD (z).toNat default).l).getD i 0))) rfl) (qe (s_then (c_reg ?_)))))
 refine qd rfl rfl rfl (r_move (v := u1) rfl) (qd rfl rfl rfl (r_move (v := (.int .i64 (((ns.getD (z).toNat default).l).getD i 0))) rfl) (qd rfl rfl rfl (run_idx Try.underlying58 sz4 (v := u1) rfl rfl hw31.read (by omega) (by omega)) (q0 rfl rfl rfl (o_set (E := eBool) (v := u1) (u := (.bool true)) (z := (((ns.getD (z).toNat default).l).getD i 0)) (true) sz4 rfl rfl rfl rfl hX30.pins hw31 (by omega) (by omega) (fun w33 ho34 hp35 hg36 hz37 => ?_)))))
 have hX38 := hX30.write hp35 hg36 ((lo_own hw31))
 refine qe (s_blkN (s_then (c_reg ?_)))
 refine qd rfl rfl rfl (r_add rfl rfl (by omega)) (qd rfl rfl rfl (r_move (v := (.int .i64 ((i : Int) + 1))) rfl) (qe (s_lopN (⟨_, ?_, _, rfl, _, i + 1, b2.set ((ns.getD (z).toNat default).l.getD i 0).toNat true, (packS (x := 33) (packS (x := 32) (packS (x := 31) (packS (x := 6) (packS (x := 5) (packS (x := 4) (pack1 (x := 0) rfl) rfl) rfl) rfl) rfl) rfl) rfl), rfl, hX38, (by omega), ((List.length_set ..).trans hnb2), (hrb2.trans (setAll_next (by omega))), ho34⟩))))
 omega
 refine wp_exit (s_thenE (s_lopE (s_blkE (s_then (s_seq (c_reg ?_))))))
 refine qd rfl rfl rfl (r_move (v := v) rfl) (qd rfl rfl rfl (r_move (v := (.int .i64 z)) rfl) (qd rfl rfl rfl (run_idx Try.underlying24 sz48 (v := v) rfl rfl hv (by omega) (by omega)) (qd rfl rfl rfl (run_fld (off := 1) Try.underlying48 rfl rfl nz46 (z := z) (k := 0) rfl hv (by omega) (by omega)) ?_)))
 obtain ⟨u39, hr40, hl41⟩ := nm_nr (hv.at (z := z) (by omega) (by omega)) (j := (z).toNat) rfl
 have hm42 := hr40.max
 refine qd rfl rfl rfl (hl41 ag46 rfl hX30.pins) (qd rfl rfl rfl (run_len Try.underlying46 (v := u39) rfl hr40) (qd rfl rfl rfl (r_move (v := (.int .i64 0)) rfl) (qe (s_then ?_))))
 refine s_blk (s_loop (fun (k : Nat) (en : Nat → Value) (W : World) => ∃ (env1 : Nat → Value) (i3 : Nat) (b3 : List Bool), en = (upd (upd (upd (upd (upd (upd (upd env1 0 v) 4 (.slice none 0 0)) 5 u1) 6 (.int .i64 z)) 45 u39) 46 (.int .i64 (((ns.getD (z).toNat default).r).length : Int))) 47 (.int .i64 (i3 : Int))) ∧ k = (ns.getD (z).toNat default).r.length - i3 ∧ Ext noS G w G W ∧ (i3 ≤ (ns.getD (z).toNat default).r.length) ∧ (b3.length = ns.length) ∧ (setAll b2 (ns.getD (z).toNat default).r = setAll b3 ((ns.getD (z).toNat default).r.drop i3)) ∧ (Own eBool 4 G W w.heap.size u1 (b3))) _ ⟨_, 0, b2, (packS (x := 47) (packS (x := 46) (packS (x := 45) (packS (x := 6) (packS (x := 5) (packS (x := 4) (pack1 (x := 0) rfl) rfl) rfl) rfl) rfl) rfl) rfl), rfl, hX30, Nat.zero_le _, hnb2, rfl, hw31⟩ ?_)
 rintro k43 _ w44 ⟨env1, i3, b3, rfl, hk45, hX46, hii3, hnb3, hrb3, hw47⟩
 refine s_seq (c_reg ?_)
 refine qd rfl rfl rfl (r_lss rfl rfl) (qe (s_then (s_seq ?_)))
 refine c_ifd (p := ((i3 : Int) : Int) < (((ns.getD (z).toNat default).r).length : Int)) rfl rfl (fun h48 => ?_) (fun h48 => ?_)
 have hk := ho.right (j := (z).toNat) (i := i3) (by omega) (by omega)
 refine wp_skip (s_then (s_seq ?_))
 refine s_blk (s_seq (c_reg ?_))
 refine qd rfl rfl rfl (run_idx Try.underlying46 sz3 (v := u39) rfl rfl hr40 (by omega) (by omega)) (qd rfl rfl rfl (run_load_int (r := ((ns.getD (z).toNat default).r).getD i3 0) rfl ag3 (z := (i3 : Int)) rfl hr40 hX46.pins (by omega) (by omega)) (qd rfl rfl rfl (r_assign (v := (.int .i64 (((ns.getD (z).toNat default).r).getD i3 0))) rfl) (qe (s_then (c_reg ?_)))))
 refine qd rfl rfl rfl (r_move (v := u1) rfl) (qd rfl rfl rfl (r_move (v := (.int .i64 (((ns.getD (z).toNat default).r).getD i3 0))) rfl) (qd rfl rfl rfl (run_idx Try.underlying58 sz4 (v := u1) rfl rfl hw47.read (by omega) (by omega)) (q0 rfl rfl rfl (o_set (E := eBool) (v := u1) (u := (.bool true)) (z := (((ns.getD (z).toNat default).r).getD i3 0)) (true) sz4 rfl rfl rfl rfl hX46.pins hw47 (by omega) (by omega) (fun w49 ho50 hp51 hg52 hz53 => ?_)))))
 have hX54 := hX46.write hp51 hg52 ((lo_own hw47))
 refine qe (s_blkN (s_then (c_reg ?_)))
 refine qd rfl rfl rfl (r_add rfl rfl (by omega)) (qd rfl rfl rfl (r_move (v := (.int .i64 ((i3 : Int) + 1))) rfl) (qe (s_lopN (⟨_, ?_, _, rfl, _, i3 + 1, b3.set ((ns.getD (z).toNat default).r.getD i3 0).toNat true, (packS (x := 47) (packS (x := 46) (packS (x := 45) (packS (x := 6) (packS (x := 5) (packS (x := 4) (pack1 (x := 0) rfl) rfl) rfl) rfl) rfl) rfl) rfl), rfl, hX54, (by omega), ((List.length_set ..).trans hnb3), (hrb3.trans (setAll_next (by omega))), ho50⟩))))
 omega
 refine wp_exit (s_thenE (s_lopE (s_blkE (s_blkN (s_then (c_reg ?_))))))
 refine qd rfl rfl rfl (r_move (v := (.int .i64 z)) rfl) (qd rfl rfl rfl (r_sub rfl rfl (by omega)) (qd rfl rfl rfl (r_assign (v := (.int .i64 (z - 1))) rfl) (qe (s_lopN (⟨_, ?_, _, rfl, _, z - 1, b3, (packS (x := 6) (packS (x := 5) (packS (x := 4) (pack1 (x := 0) rfl) rfl) rfl) rfl), rfl, hX46, (by omega), hnb3, (hr.trans ((ugo_step (by omega)).trans (by rw [ustep_yes h22, hrb2, setAll_end (by omega), hrb3, setAll_end (by omega)]))), hw47⟩)))))
 omega
 refine wp_exit (s_thenE (s_blkE (s_then (c_reg ?_))))
 refine qd rfl rfl rfl (r_move (v := (.int .i64 z)) rfl) (qd rfl rfl rfl (r_sub rfl rfl (by omega)) (qd rfl rfl rfl (r_assign (v := (.int .i64 (z - 1))) rfl) (qe (s_lopN (⟨_, ?_, _, rfl, _, z - 1, b, (packS (x := 6) (packS (x := 5) (packS (x := 4) (pack1 (x := 0) rfl) rfl) rfl) rfl), rfl, hX19, (by omega), hnb, (hr.trans ((ugo_step (by omega)).trans (by rw [ustep_no h22]))), hw20⟩)))))
 omega
 refine wp_exit (s_thenE (s_lopE (s_blkE (s_then (s_seq (c_reg ?_))))))
 refine qd rfl rfl rfl (r_move (v := u1) rfl) (qd rfl rfl rfl (r_assign (v := u1) rfl) (qe (s_then ?_)))
 exact wp_ret (s_ret (c_ret1 (v := u1) rfl rfl rfl (⟨_, _, rfl, (by rw [hr, ugo_end (by omega)]; exact hw20), hX19⟩)))

theorem goodForm_spec {w : World} {G : Pin} {v : Value} {ns : List Nd} (hP : Pins G w) (hv : RSl eNode G v ns) :
  Calls Try.prog 15 [(.agg [v].toArray)].toArray w fun e w' => ∃ G', e = .returned (.bool (goodB ns)) ∧ Ext noS G w G' w' := by
 refine s_enter (n := 93) Try.func15 Try.ntmps15 rfl rfl ?_
 have hX0 : Ext noS G w G w := Ext.refl hP
 have hm := hv.max
 refine s_seq (c_reg ?_)
 refine q1 rfl rfl rfl (o_box [v] (v := (.agg [v].toArray)) rfl rfl hX0.pins (fun b1 w2 hk3 hb4 hp5 hl6 => ?_))
 have hX7 := hX0.step hp5 hl6
 have hlo8 : w.heap.size ≤ b1 := by have := hX0.size; omega
 obtain ⟨G9, hle10, hX11, hbp12, hf13⟩ := hb4.shut hX7 hlo8
 refine qd rfl rfl rfl (r_assign (v := (.bool false)) rfl) (qe (s_then (s_seq (s_seq (c_reg ?_)))))
 refine qd rfl rfl rfl (r_fldp (k := 0) rfl Try.underlying26 rfl nz24 rfl) (qd rfl rfl rfl (r_ldp1 (u := v) ag24 rfl (hX11.pins _ _ _ (hbp12 0 _ rfl))) (qd rfl rfl rfl (run_len Try.underlying24 (v := v) rfl hv) (qd rfl rfl rfl (r_lss rfl rfl) (qd rfl rfl rfl (r_move (v := (.bool (decide (((ns.length : Int) : Int) < 1)))) rfl) (qbd (p := ((ns.length : Int) : Int) < 1) (t := 13) rfl (fun h14 => ?_) (fun h14 => ?_))))))
 refine qs rfl rfl rfl rfl rfl rfl (qs rfl rfl rfl rfl rfl rfl (qs rfl rfl rfl rfl rfl rfl (qs rfl rfl rfl rfl rfl rfl (qd rfl rfl rfl (r_pickT (v := (.bool true)) rfl rfl) (qe (s_then ?_))))))
 refine c_ifT rfl rfl (s_seq (c_reg ?_))
 refine qd rfl rfl rfl (r_assign (v := (.bool false)) rfl) (qe (s_then ?_))
 exact wp_ret (s_ret (c_ret1 (v := (.bool false)) rfl rfl rfl (⟨_, congrArg (fun z => Ending.returned (Value.bool z)) (goodB_false.2 (fun g => by have := g.lo; omega)).symm, hX11⟩)))
 refine qdg rfl rfl rfl rfl rfl rfl (r_fldp (k := 0) rfl Try.underlying26 rfl nz24 rfl) (qdg rfl rfl rfl rfl rfl rfl (r_ldp1 (u := v) ag24 rfl (hX11.pins _ _ _ (hbp12 0 _ rfl))) (qdg rfl rfl rfl rfl rfl rfl (run_len Try.underlying24 (v := v) rfl hv) (qdg rfl rfl rfl rfl rfl rfl (r_gtr rfl rfl) (qd rfl rfl rfl (r_pickF (v := (.bool (decide ((120 : Int) < (ns.length : Int))))) rfl rfl) (qe (s_then ?_))))))
 refine c_ifd (p := (120 : Int) < (ns.length : Int)) rfl rfl (fun h15 => ?_) (fun h15 => ?_)
 refine s_seq (c_reg ?_)
 refine qd rfl rfl rfl (r_assign (v := (.bool false)) rfl) (qe (s_then ?_))
 exact wp_ret (s_ret (c_ret1 (v := (.bool false)) rfl rfl rfl (⟨_, congrArg (fun z => Ending.returned (Value.bool z)) (goodB_false.2 (fun g => by have := g.hi; omega)).symm, hX11⟩)))
 refine wp_skip (s_then (s_seq (s_seq (c_reg ?_))))
 refine qd rfl rfl rfl (r_fldp (k := 0) rfl Try.underlying26 rfl nz24 rfl) (qd rfl rfl rfl (r_ldp1 (u := v) ag24 rfl (hX11.pins _ _ _ (hbp12 0 _ rfl))) (qd rfl rfl rfl (run_len Try.underlying24 (v := v) rfl hv) (qd rfl rfl rfl (r_move (v := (.int .i64 0)) rfl) (qe (s_then ?_)))))
 refine s_blk (s_loop (fun (k : Nat) (en : Nat → Value) (W : World) => ∃ (env1 : Nat → Value) (j : Nat) (GL1 : Pin), en = (upd (upd (upd (upd env1 1 (.pointer (some ⟨b1, 0, none⟩))) 20 v) 21 (.int .i64 (ns.length : Int))) 22 (.int .i64 (j : Int))) ∧ k = ns.length - j ∧ Ext noS G w GL1 W ∧ Pin.le G9 GL1 ∧ (j ≤ ns.length) ∧ (∀ i, i < j → goodOpts (ns.getD i default).l i = true ∧ goodOpts (ns.getD i default).r i = true)) _ ⟨_, 0, G9, (packS (x := 22) (packS (x := 21) (packS (x := 20) (pack1 (x := 1) rfl) rfl) rfl) rfl), rfl, hX11, Pin.le_refl _, Nat.zero_le _, (fun i hi => absurd hi (Nat.not_lt_zero i))⟩ ?_)
 rintro k16 _ w17 ⟨env1, j, GL1, rfl, hk18, hX19, hlek16, hj, hg⟩
 refine s_seq (c_reg ?_)
 refine qd rfl rfl rfl (r_lss rfl rfl) (qe (s_then (s_seq ?_)))
 refine c_ifd (p := ((j : Int) : Int) < (ns.length : Int)) rfl rfl (fun h20 => ?_) (fun h20 => ?_)
 refine wp_skip (s_then (s_seq ?_))
 refine s_blk (s_seq (c_reg ?_))
 refine qd rfl rfl rfl (r_move (v := (.int .i64 (j : Int))) rfl) (qd rfl rfl rfl (run_idx Try.underlying24 sz48 (v := v) rfl rfl hv (by omega) (by omega)) ?_)
 obtain ⟨u21, u22, hr23, hr24, hl25⟩ := nm_node (hv.at (z := (j : Int)) (by omega) (by omega)) (j := j) rfl
 have hm26 := hr23.max
 have hm27 := hr24.max
 refine qd rfl rfl rfl (hl25 ag48 sz48 rfl (Pins.of_le hX19.pins (Pin.le_trans hle10 hlek16))) (q1 rfl rfl rfl (o_alloc [(.slice none 0 0), (.slice none 0 0)] zr48 rfl hX19.pins (fun b28 w29 hk30 hb31 hp32 hl33 => ?_)))
 have hX34 := hX19.step hp32 hl33
 have hlo35 : w.heap.size ≤ b28 := by have := hX19.size; omega
 refine qd rfl rfl rfl (r_assign (v := (.int .i64 (j : Int))) rfl) (q0 rfl rfl rfl (o_stp (cs' := [u21, u22]) (us := [u21, u22]) (v := (.agg [u21, u22].toArray)) sz48 rfl rfl rfl (ones2 hr23.one hr24.one) hX34.pins hb31 (Nat.le_of_ble_eq_true rfl) rfl (fun w36 hb37 hp38 hg39 hz40 => ?_)))
 have hX41 := hX34.write hp38 hg39 ((lo_box hlo35))
 obtain ⟨G42, hle43, hX44, hbp45, hf46⟩ := hb37.shut hX41 hlo35
 refine qe (s_then (s_seq (c_reg ?_)))
 refine qd rfl rfl rfl (r_fldp (k := 0) rfl Try.underlying48 rfl nz46 rfl) (qd rfl rfl rfl (r_ldp1 (u := u21) ag46 rfl (hX44.pins _ _ _ (hbp45 0 _ rfl))) (qd rfl rfl rfl (r_move (v := (.int .i64 (j : Int))) rfl) (q1 rfl rfl rfl (o_call (vs := [u21, (.int .i64 (j : Int))]) Try.func29 nm29 rfl rfl rfl ?_))))
 refine Calls.mono (goodOptions_spec hX44.pins (hr23.mono (Pin.le_trans (Pin.le_trans hle10 hlek16) hle43))) ?_
 rintro _ _ ⟨rfl, rfl⟩
 refine ⟨_, rfl, ?_⟩
 refine qd rfl rfl rfl (r_not rfl) (qd rfl rfl rfl (r_move (v := (.bool (!(goodOpts ((ns.getD j default).l) (j : Int))))) rfl) (qbn (t := 32) rfl (fun h47 => ?_) (fun h47 => ?_)))
 refine qdg rfl rfl rfl rfl rfl rfl (r_fldp (k := 1) rfl Try.underlying48 rfl nz46 rfl) (qdg rfl rfl rfl rfl rfl rfl (r_ldp1 (u := u22) ag46 rfl (hX44.pins _ _ _ (hbp45 1 _ rfl))) (qdg rfl rfl rfl rfl rfl rfl (r_move (v := (.int .i64 (j : Int))) rfl) (q1g rfl rfl rfl rfl rfl rfl (o_call (vs := [u22, (.int .i64 (j : Int))]) Try.func29 nm29 rfl rfl rfl ?_))))
 refine Calls.mono (goodOptions_spec hX44.pins (hr24.mono (Pin.le_trans (Pin.le_trans hle10 hlek16) hle43))) ?_
 rintro _ _ ⟨rfl, rfl⟩
 refine ⟨_, rfl, ?_⟩
 refine qdg rfl rfl rfl rfl rfl rfl (r_not rfl) (qd rfl rfl rfl (r_pickF (v := (.bool (!(goodOpts ((ns.getD j default).r) (j : Int))))) rfl rfl) (qe (s_then ?_)))
 refine c_ifn rfl rfl (fun h48 => ?_) (fun h48 => ?_)
 refine wp_skip (s_blkN (s_then (c_reg ?_)))
 refine qd rfl rfl rfl (r_add rfl rfl (by omega)) (qd rfl rfl rfl (r_move (v := (.int .i64 ((j : Int) + 1))) rfl) (qe (s_lopN (⟨_, ?_, _, rfl, _, j + 1, G42, (packS (x := 22) (packS (x := 21) (packS (x := 20) (pack1 (x := 1) rfl) rfl) rfl) rfl), rfl, hX44, (Pin.le_trans hlek16 hle43), (by omega), (fun k hk => if h3 : k = j then h3 ▸ ⟨h47, h48⟩ else hg k (by omega))⟩))))
 omega
 refine s_seq (c_reg ?_)
 refine qd rfl rfl rfl (r_assign (v := (.bool false)) rfl) (qe (s_then ?_))
 exact wp_ret (s_ret (c_ret1 (v := (.bool false)) rfl rfl rfl (⟨_, congrArg (fun z => Ending.returned (Value.bool z)) (goodB_false.2 (fun g => by have := (g.opts j (by omega)).2; rw [h48] at this; cases this)).symm, hX44⟩)))
 refine qs rfl rfl rfl rfl rfl rfl (qs rfl rfl rfl rfl rfl rfl (qs rfl rfl rfl rfl rfl rfl (qs rfl rfl rfl rfl rfl rfl (qs rfl rfl rfl rfl rfl rfl (qd rfl rfl rfl (r_pickT (v := (.bool true)) rfl rfl) (qe (s_then ?_)))))))
 refine c_ifT rfl rfl (s_seq (c_reg ?_))
 refine qd rfl rfl rfl (r_assign (v := (.bool false)) rfl) (qe (s_then ?_))
 exact wp_ret (s_ret (c_ret1 (v := (.bool false)) rfl rfl rfl (⟨_, congrArg (fun z => Ending.returned (Value.bool z)) (goodB_false.2 (fun g => by have := (g.opts j (by omega)).1; rw [h47] at this; cases this)).symm, hX44⟩)))
 refine wp_exit (s_thenE (s_lopE (s_blkE (s_then (s_seq (c_reg ?_))))))
 refine qd rfl rfl rfl (r_fldp (k := 0) rfl Try.underlying26 rfl nz24 rfl) (qd rfl rfl rfl (r_ldp1 (u := v) ag24 rfl ((Pins.of_le hX19.pins hlek16) _ _ _ (hbp12 0 _ rfl))) ?_)
 have hopts : ∀ i, i < ns.length → goodOpts (ns.getD i default).l i = true ∧ goodOpts (ns.getD i default).r i = true := fun i hi => hg i (by omega)
 refine q1 rfl rfl rfl (o_call (vs := [v]) Try.func30 nm30 rfl rfl rfl ?_)
 refine Calls.mono (births_spec hX19.pins (hv.mono (Pin.le_trans hle10 hlek16)) (opts_ok hopts) (by omega)) ?_
 rintro _ w51 ⟨u49, G50, rfl, ho52, hx53⟩
 refine ⟨_, rfl, ?_⟩
 have hX54 := hX19.tr hx53
 have ho55 : Own eInt 3 G50 w51 w.heap.size u49 (births ns) := ho52.weaken hX19.size
 refine qd rfl rfl rfl (r_assign (v := u49) rfl) (qe (s_then (s_seq (s_seq (c_reg ?_)))))
 have hnb := births_length ns
 obtain ⟨G56, hle59, hX58, hr57, hf60⟩ := ho55.sealed hX54
 refine qd rfl rfl rfl (r_assign (v := (.int .i64 1)) rfl) (qe (s_then ?_))
 refine s_blk (s_loop (fun (k : Nat) (en : Nat → Value) (W : World) => ∃ (env1 : Nat → Value) (i : Nat) (GL2 : Pin), en = (upd (upd (upd env1 1 (.pointer (some ⟨b1, 0, none⟩))) 5 u49) 6 (.int .i64 (i : Int))) ∧ k = ns.length - i ∧ Ext noS G w GL2 W ∧ Pin.le G56 GL2 ∧ (1 ≤ i ∧ i ≤ ns.length) ∧ (∀ k, 1 ≤ k → k < i → pairC ns (births ns) k < 0)) _ ⟨_, 1, G56, (packS (x := 6) (packS (x := 5) (pack1 (x := 1) rfl) rfl) rfl), rfl, hX58, Pin.le_refl _, (by omega), (fun k a b => absurd a (by omega))⟩ ?_)
 rintro k61 _ w62 ⟨env1, i, GL2, rfl, hk63, hX64, hlek61, hi, hsr⟩
 refine s_seq (s_seq (c_reg ?_))
 refine qd rfl rfl rfl (r_move (v := (.int .i64 (i : Int))) rfl) (qd rfl rfl rfl (r_fldp (k := 0) rfl Try.underlying26 rfl nz24 rfl) (qd rfl rfl rfl (r_ldp1 (u := v) ag24 rfl ((Pins.of_le hX64.pins (Pin.le_trans (Pin.le_trans (Pin.le_trans hlek16 hx53.le) hle59) hlek61)) _ _ _ (hbp12 0 _ rfl))) (qd rfl rfl rfl (run_len Try.underlying24 (v := v) rfl hv) (qd rfl rfl rfl (r_lss rfl rfl) (qe (s_then ?_))))))
 refine c_ifd (p := ((i : Int) : Int) < (ns.length : Int)) rfl rfl (fun h65 => ?_) (fun h65 => ?_)
 refine wp_skip (s_then (s_seq ?_))
 refine s_blk (s_seq (c_cut (fun (en : Nat → Value) (W : World) => ∃ (env1 : Nat → Value) (c66 : Nat) (c67 : Value) (c68 : Value) (c69 : Nat) (c70 : Value) (c71 : Value) (G72 : Pin), en = (upd (upd (upd (upd (upd env1 1 (.pointer (some ⟨b1, 0, none⟩))) 5 u49) 6 (.int .i64 (i : Int))) 7 (.pointer (some ⟨c66, 0, none⟩))) 8 (.pointer (some ⟨c69, 0, none⟩))) ∧ Ext noS G w G72 W ∧ Pin.le GL2 G72 ∧ (RSl eInt G72 c67 ((ns.getD ((i : Int) - 1).toNat default).l)) ∧ (RSl eInt G72 c68 ((ns.getD ((i : Int) - 1).toNat default).r)) ∧ (RSl eInt G72 c70 ((ns.getD i default).l)) ∧ (RSl eInt G72 c71 ((ns.getD i default).r)) ∧ (BxP G72 c66 [c67, c68]) ∧ (BxP G72 c69 [c70, c71])) ?_ ?_))
 ·rintro _ w73 ⟨env1, c66, c67, c68, c69, c70, c71, G72, rfl, hX80, hle81, hr74, hr75, hr76, hr77, hb78, hb79⟩
  refine s_then (s_seq ?_)
  refine c_draw (S := fun wz => Pins G72 wz) (last := 23) (by kernel_rfl) rfl ?_
  have hl82 : Below w73.heap.size w73 w73.drew := (Below.refl _ _).drew
  have hp83 := hX80.pins.below hl82
  have hX84 := hX80.step hp83 hl82
  refine dr_take (i := 0) rfl rfl rfl (want_none rfl _) (by kernel_rfl) (fun _ _ => r_move (v := u49) rfl) hX84.pins (dr_take (i := 1) rfl rfl rfl (want_none rfl _) (by kernel_rfl) (fun _ _ => r_move (v := (.int .i64 (i : Int))) rfl) hX84.pins (dr_take (i := 2) rfl rfl rfl (want_none rfl _) (by kernel_rfl) (fun _ _ => r_sub rfl rfl (by omega)) hX84.pins (dr_take (i := 3) rfl rfl rfl (want_none rfl _) (by kernel_rfl) (fun _ _ => run_idx Try.underlying46 sz3 (v := u49) rfl rfl hr57 (by omega) (by omega)) hX84.pins (dr_take (i := 4) rfl rfl rfl (want_none rfl _) (by kernel_rfl) (fun _ hS => run_load_int (r := (births ns).getD ((i : Int) - 1).toNat 0) rfl ag3 (z := ((i : Int) - 1)) rfl hr57 (Pins.of_le hS (Pin.le_trans hlek61 hle81)) (by omega) (by omega)) hX84.pins (dr_take (i := 5) rfl rfl rfl (want_none rfl _) (by kernel_rfl) (fun _ _ => r_move (v := u49) rfl) hX84.pins (dr_take (i := 6) rfl rfl rfl (want_none rfl _) (by kernel_rfl) (fun _ _ => r_move (v := (.int .i64 (i : Int))) rfl) hX84.pins (dr_take (i := 7) rfl rfl rfl (want_none rfl _) (by kernel_rfl) (fun _ _ => run_idx Try.underlying46 sz3 (v := u49) rfl rfl hr57 (by omega) (by omega)) hX84.pins (dr_take (i := 8) rfl rfl rfl (want_none rfl _) (by kernel_rfl) (fun _ hS => run_load_int (r := (births ns).getD i 0) rfl ag3 (z := (i : Int)) rfl hr57 (Pins.of_le hS (Pin.le_trans hlek61 hle81)) (by omega) (by omega)) hX84.pins (dr_take (i := 10) rfl rfl rfl (want_none rfl _) (by kernel_rfl) (fun _ _ => r_fldp (k := 0) rfl Try.underlying48 rfl nz46 rfl) hX84.pins (dr_take (i := 11) rfl rfl rfl (want_none rfl _) (by kernel_rfl) (fun _ hS => r_ldp1 (u := c67) ag46 rfl (hS _ _ _ (hb78 0 _ rfl))) hX84.pins (dr_take (i := 12) rfl rfl rfl (want_none rfl _) (by kernel_rfl) (fun _ _ => r_fldp (k := 0) rfl Try.underlying48 rfl nz46 rfl) hX84.pins (dr_take (i := 13) rfl rfl rfl (want_none rfl _) (by kernel_rfl) (fun _ hS => r_ldp1 (u := c70) ag46 rfl (hS _ _ _ (hb79 0 _ rfl))) hX84.pins (dr_take (i := 15) rfl rfl rfl (want_none rfl _) (by kernel_rfl) (fun _ _ => r_fldp (k := 1) rfl Try.underlying48 rfl nz46 rfl) hX84.pins (dr_take (i := 16) rfl rfl rfl (want_none rfl _) (by kernel_rfl) (fun _ hS => r_ldp1 (u := c68) ag46 rfl (hS _ _ _ (hb78 1 _ rfl))) hX84.pins (dr_take (i := 17) rfl rfl rfl (want_none rfl _) (by kernel_rfl) (fun _ _ => r_fldp (k := 1) rfl Try.underlying48 rfl nz46 rfl) hX84.pins (dr_take (i := 18) rfl rfl rfl (want_none rfl _) (by kernel_rfl) (fun _ hS => r_ldp1 (u := c71) ag46 rfl (hS _ _ _ (hb79 1 _ rfl))) hX84.pins (dr_one (i := 9) (by kernel_rfl) (drOp1 (i := 9) rfl rfl rfl (want_none rfl _) (o_call (vs := [(.int .i64 ((births ns).getD ((i : Int) - 1).toNat 0)), (.int .i64 ((births ns).getD i 0))]) Try.func32 nm32 rfl rfl rfl ?_)))))))))))))))))))
  refine Calls.mono (cmpCompare_spec hX84.pins) ?_
  rintro _ _ ⟨rfl, rfl⟩
  refine ⟨_, rfl, ?_⟩
  refine ⟨fun _ => hX84.pins, ?_⟩
  refine dr_one (i := 14) (by kernel_rfl) (drOp1 (i := 14) rfl rfl rfl (want_none rfl _) (o_call (vs := [c67, c70]) Try.func33 nm33 rfl rfl rfl ?_))
  refine Calls.mono (slCompare_spec hX84.pins hr74 hr76) ?_
  rintro _ _ ⟨rfl, rfl⟩
  refine ⟨_, rfl, ?_⟩
  refine ⟨fun _ => hX84.pins, ?_⟩
  refine dr_one (i := 19) (by kernel_rfl) (drOp1 (i := 19) rfl rfl rfl (want_none rfl _) (o_call (vs := [c68, c71]) Try.func33 nm33 rfl rfl rfl ?_))
  refine Calls.mono (slCompare_spec hX84.pins hr75 hr77) ?_
  rintro _ _ ⟨rfl, rfl⟩
  refine ⟨_, rfl, ?_⟩
  refine ⟨fun _ => hX84.pins, ?_⟩
  refine dr_one (i := 20) (by kernel_rfl) (drOp1 (i := 20) rfl rfl rfl (want_none rfl _) (o_buildF (E := eInt) (e := 3) [(.int .i64 (cmpI ((births ns).getD ((i : Int) - 1).toNat 0) ((births ns).getD i 0))), (.int .i64 (cmpL ((ns.getD ((i : Int) - 1).toNat default).l) ((ns.getD i default).l))), (.int .i64 (cmpL ((ns.getD ((i : Int) - 1).toNat default).r) ((ns.getD i default).r)))] [cmpI ((births ns).getD ((i : Int) - 1).toNat 0) ((births ns).getD i 0), cmpL ((ns.getD ((i : Int) - 1).toNat default).l) ((ns.getD i default).l), cmpL ((ns.getD ((i : Int) - 1).toNat default).r) ((ns.getD i default).r)] Try.underlying46 sz3 zr3 (by exact reps3 (by rfl) (by rfl) (by rfl)) (ones3 (by rfl) (by rfl) (by rfl)) rfl rfl rfl rfl (by decide) hX84.pins (fun u85 w86 ho87 hp88 hl89 hk90 => ?_)))
  have hX91 := hX84.step hp88 hl89
  have ho92 : Own eInt 3 G72 w86 w.heap.size u85 ([cmpI ((births ns).getD ((i : Int) - 1).toNat 0) ((births ns).getD i 0), cmpL ((ns.getD ((i : Int) - 1).toNat default).l) ((ns.getD i default).l), cmpL ((ns.getD ((i : Int) - 1).toNat default).r) ((ns.getD i default).r)]) := ho87.weaken hX84.size
  refine ⟨fun _ => hX91.pins, ?_⟩
  obtain ⟨G93, hle96, hX95, hr94, hf97⟩ := ho92.sealed hX91
  refine dr_one (i := 21) (by kernel_rfl) (drOp1 (i := 21) rfl rfl rfl (want_none rfl _) (o_call (vs := [u85]) Try.func31 nm31 rfl rfl rfl ?_))
  refine Calls.mono (cmpOr_spec hX95.pins hr94) ?_
  rintro _ _ ⟨rfl, rfl⟩
  refine ⟨_, rfl, ?_⟩
  refine ⟨fun _ => (Pins.of_le hX95.pins hle96), ?_⟩
  refine dr_take (i := 22) rfl rfl rfl (want_none rfl _) (by kernel_rfl) (fun _ _ => r_geq rfl rfl) (Pins.of_le hX95.pins hle96) (dr_end (by kernel_rfl) (s_then (c_ifd (p := (0 : Int) ≤ (orL ([cmpI ((births ns).getD ((i : Int) - 1).toNat 0) ((births ns).getD i 0), cmpL ((ns.getD ((i : Int) - 1).toNat default).l) ((ns.getD i default).l), cmpL ((ns.getD ((i : Int) - 1).toNat default).r) ((ns.getD i default).r)]))) rfl rfl (fun h98 => ?_) (fun h98 => ?_))))
  refine s_seq (c_reg ?_)
  refine qd rfl rfl rfl (r_assign (v := (.bool false)) rfl) (qe (s_then ?_))
  exact wp_ret (s_ret (c_ret1 (v := (.bool false)) rfl rfl rfl (⟨_, congrArg (fun z => Ending.returned (Value.bool z)) (goodB_false.2 (fun g => by have := g.sorted i (by omega) (by omega); unfold pairC at this; rw [show i - 1 = ((i : Int) - 1).toNat by omega] at this; omega)).symm, hX95⟩)))
  refine wp_skip (s_blkN (s_then (c_reg ?_)))
  refine qd rfl rfl rfl (r_move (v := (.int .i64 (i : Int))) rfl) (qd rfl rfl rfl (r_add rfl rfl (by omega)) (qd rfl rfl rfl (r_assign (v := (.int .i64 ((i : Int) + 1))) rfl) (qe (s_lopN ?_))))
  have hstep : pairC ns (births ns) i < 0 := by
   unfold pairC; rw [show i - 1 = ((i : Int) - 1).toNat by omega]; omega
  refine ⟨_, ?_, _, rfl, _, i + 1, G93, (packS (x := 6) (packS (x := 5) (pack1 (x := 1) rfl) rfl) rfl), rfl, hX95, (Pin.le_trans (Pin.le_trans hlek61 hle81) hle96), (by omega), (fun k h1 h2 => if h3 : k = i then h3 ▸ hstep else hsr k h1 (by omega))⟩
  omega
 refine c_draw (S := fun wz => Pins GL2 wz) (last := 14) (by kernel_rfl) rfl ?_
 have hl99 : Below w62.heap.size w62 w62.drew := (Below.refl _ _).drew
 have hp100 := hX64.pins.below hl99
 have hX101 := hX64.step hp100 hl99
 refine dr_take (i := 0) rfl rfl rfl (want_none rfl _) (by kernel_rfl) (fun _ _ => r_fldp (k := 0) rfl Try.underlying26 rfl nz24 rfl) hX101.pins (dr_take (i := 1) rfl rfl rfl (want_none rfl _) (by kernel_rfl) (fun _ hS => r_ldp1 (u := v) ag24 rfl ((Pins.of_le hS (Pin.le_trans (Pin.le_trans (Pin.le_trans hlek16 hx53.le) hle59) hlek61)) _ _ _ (hbp12 0 _ rfl))) hX101.pins (dr_take (i := 2) rfl rfl rfl (want_none rfl _) (by kernel_rfl) (fun _ _ => r_move (v := (.int .i64 (i : Int))) rfl) hX101.pins (dr_take (i := 3) rfl rfl rfl (want_none rfl _) (by kernel_rfl) (fun _ _ => r_sub rfl rfl (by omega)) hX101.pins (dr_take (i := 4) rfl rfl rfl (want_none rfl _) (by kernel_rfl) (fun _ _ => run_idx Try.underlying24 sz48 (v := v) rfl rfl hv (by omega) (by omega)) hX101.pins ?_))))
 obtain ⟨u102, u103, hr104, hr105, hl106⟩ := nm_node (hv.at (z := ((i : Int) - 1)) (by omega) (by omega)) (j := ((i : Int) - 1).toNat) rfl
 have hm107 := hr104.max
 have hm108 := hr105.max
 refine dr_take (i := 5) rfl rfl rfl (want_none rfl _) (by kernel_rfl) (fun _ hS => hl106 ag48 sz48 rfl (Pins.of_le hS (Pin.le_trans (Pin.le_trans (Pin.le_trans (Pin.le_trans hle10 hlek16) hx53.le) hle59) hlek61))) hX101.pins (dr_take (i := 6) rfl rfl rfl (want_none rfl _) (by kernel_rfl) (fun _ _ => r_fldp (k := 0) rfl Try.underlying26 rfl nz24 rfl) hX101.pins (dr_take (i := 7) rfl rfl rfl (want_none rfl _) (by kernel_rfl) (fun _ hS => r_ldp1 (u := v) ag24 rfl ((Pins.of_le hS (Pin.le_trans (Pin.le_trans (Pin.le_trans hlek16 hx53.le) hle59) hlek61)) _ _ _ (hbp12 0 _ rfl))) hX101.pins (dr_take (i := 8) rfl rfl rfl (want_none rfl _) (by kernel_rfl) (fun _ _ => r_move (v := (.int .i64 (i : Int))) rfl) hX101.pins (dr_take (i := 9) rfl rfl rfl (want_none rfl _) (by kernel_rfl) (fun _ _ => run_idx Try.underlying24 sz48 (v := v) rfl rfl hv (by omega) (by omega)) hX101.pins ?_))))
 obtain ⟨u109, u110, hr111, hr112, hl113⟩ := nm_node (hv.at (z := (i : Int)) (by omega) (by omega)) (j := i) rfl
 have hm114 := hr111.max
 have hm115 := hr112.max
 refine dr_take (i := 10) rfl rfl rfl (want_none rfl _) (by kernel_rfl) (fun _ hS => hl113 ag48 sz48 rfl (Pins.of_le hS (Pin.le_trans (Pin.le_trans (Pin.le_trans (Pin.le_trans hle10 hlek16) hx53.le) hle59) hlek61))) hX101.pins (dr_two (i := 11) (j := 12) (by kernel_rfl) ?_ ?_)
 refine (drOp1 (i := 11) rfl rfl rfl (want_none rfl _) (o_alloc [(.slice none 0 0), (.slice none 0 0)] zr48 rfl hX101.pins (fun b116 w117 hk118 hb119 hp120 hl121 => ?_)))
 have hX122 := hX101.step hp120 hl121
 have hlo123 : w.heap.size ≤ b116 := by have := hX101.size; omega
 refine ⟨fun _ => hX122.pins, ?_⟩
 refine dr_one (i := 12) (by kernel_rfl) (drOp1 (i := 12) rfl rfl rfl (want_none rfl _) (o_alloc [(.slice none 0 0), (.slice none 0 0)] zr48 rfl hX122.pins (fun b124 w125 hk126 hb127 hp128 hl129 => ?_)))
 have hX130 := hX122.step hp128 hl129
 have hb131 := hb119.below hl129
 have ha132 : Apart (some b124) (some b116) := new_ne_box (congrArg some hk126) hb119.lt
 have hlo133 : w.heap.size ≤ b124 := by have := hX122.size; omega
 refine ⟨fun _ => hX130.pins, ?_⟩
 refine dr_one (i := 13) (by kernel_rfl) (drOp0 (i := 13) rfl rfl rfl (want_none rfl _) (o_stp (cs' := [u102, u103]) (us := [u102, u103]) (v := (.agg [u102, u103].toArray)) sz48 rfl rfl rfl (ones2 hr104.one hr105.one) hX130.pins hb131 (Nat.le_of_ble_eq_true rfl) rfl (fun w134 hb135 hp136 hg137 hz138 => ?_)))
 have hX139 := hX130.write hp136 hg137 ((lo_box hlo123))
 have hb140 := hb127.keptA hg137 ha132
 obtain ⟨G141, hle142, hX143, hbp144, hf145⟩ := hb135.shut hX139 hlo123
 have hb146 := hb140.moreA hf145 ha132
 refine ⟨fun _ => (Pins.of_le hX143.pins hle142), ?_⟩
 refine dr_one (i := 14) (by kernel_rfl) (drOp0 (i := 14) rfl rfl rfl (want_none rfl _) (o_stp (cs' := [u109, u110]) (us := [u109, u110]) (v := (.agg [u109, u110].toArray)) sz48 rfl rfl rfl (ones2 hr111.one hr112.one) hX143.pins hb146 (Nat.le_of_ble_eq_true rfl) rfl (fun w147 hb148 hp149 hg150 hz151 => ?_)))
 have hX152 := hX143.write hp149 hg150 ((lo_box hlo133))
 obtain ⟨G153, hle154, hX155, hbp156, hf157⟩ := hb148.shut hX152 hlo133
 refine ⟨fun h => absurd rfl h, ?_⟩
 exact dr_end (by kernel_rfl) (cut_in ⟨_, b116, u102, u103, b124, u109, u110, G153, (packS (x := 8) (packS (x := 7) (packS (x := 6) (packS (x := 5) (pack1 (x := 1) rfl) rfl) rfl) rfl) rfl), hX155, (Pin.le_trans hle142 hle154), (hr104.mono (Pin.le_trans (Pin.le_trans (Pin.le_trans (Pin.le_trans (Pin.le_trans (Pin.le_trans hle10 hlek16) hx53.le) hle59) hlek61) hle142) hle154)), (hr105.mono (Pin.le_trans (Pin.le_trans (Pin.le_trans (Pin.le_trans (Pin.le_trans (Pin.le_trans hle10 hlek16) hx53.le) hle59) hlek61) hle142) hle154)), (hr111.mono (Pin.le_trans (Pin.le_trans (Pin.le_trans (Pin.le_trans (Pin.le_trans (Pin.le_trans hle10 hlek16) hx53.le) hle59) hlek61) hle142) hle154)), (hr112.mono (Pin.le_trans (Pin.le_trans (Pin.le_trans (Pin.le_trans (Pin.le_trans (Pin.le_trans hle10 hlek16) hx53.le) hle59) hlek61) hle142) hle154)), (hbp144.mono hle154), (hbp156.mono (Pin.le_refl _))⟩)
 refine (drOp1 (i := 12) rfl rfl rfl (want_none rfl _) (o_alloc [(.slice none 0 0), (.slice none 0 0)] zr48 rfl hX101.pins (fun b158 w159 hk160 hb161 hp162 hl163 => ?_)))
 have hX164 := hX101.step hp162 hl163
 have hlo165 : w.heap.size ≤ b158 := by have := hX101.size; omega
 refine ⟨fun _ => hX164.pins, ?_⟩
 refine dr_one (i := 11) (by kernel_rfl) (drOp1 (i := 11) rfl rfl rfl (want_none rfl _) (o_alloc [(.slice none 0 0), (.slice none 0 0)] zr48 rfl hX164.pins (fun b166 w167 hk168 hb169 hp170 hl171 => ?_)))
 have hX172 := hX164.step hp170 hl171
 have hb173 := hb161.below hl171
 have ha174 : Apart (some b166) (some b158) := new_ne_box (congrArg some hk168) hb161.lt
 have hlo175 : w.heap.size ≤ b166 := by have := hX164.size; omega
 refine ⟨fun _ => hX172.pins, ?_⟩
 refine dr_one (i := 13) (by kernel_rfl) (drOp0 (i := 13) rfl rfl rfl (want_none rfl _) (o_stp (cs' := [u102, u103]) (us := [u102, u103]) (v := (.agg [u102, u103].toArray)) sz48 rfl rfl rfl (ones2 hr104.one hr105.one) hX172.pins hb169 (Nat.le_of_ble_eq_true rfl) rfl (fun w176 hb177 hp178 hg179 hz180 => ?_)))
 have hX181 := hX172.write hp178 hg179 ((lo_box hlo175))
 have hb182 := hb173.keptA hg179 ha174.symm
 obtain ⟨G183, hle184, hX185, hbp186, hf187⟩ := hb177.shut hX181 hlo175
 have hb188 := hb182.moreA hf187 ha174.symm
 refine ⟨fun _ => (Pins.of_le hX185.pins hle184), ?_⟩
 refine dr_one (i := 14) (by kernel_rfl) (drOp0 (i := 14) rfl rfl rfl (want_none rfl _) (o_stp (cs' := [u109, u110]) (us := [u109, u110]) (v := (.agg [u109, u110].toArray)) sz48 rfl rfl rfl (ones2 hr111.one hr112.one) hX185.pins hb188 (Nat.le_of_ble_eq_true rfl) rfl (fun w189 hb190 hp191 hg192 hz193 => ?_)))
 have hX194 := hX185.write hp191 hg192 ((lo_box hlo165))
 obtain ⟨G195, hle196, hX197, hbp198, hf199⟩ := hb190.shut hX194 hlo165
 refine ⟨fun h => absurd rfl h, ?_⟩
 exact dr_end (by kernel_rfl) (cut_in ⟨_, b166, u102, u103, b158, u109, u110, G195, (packS (x := 8) (packS (x := 7) (packS (x := 6) (packS (x := 5) (pack1 (x := 1) rfl) rfl) rfl) rfl) rfl), hX197, (Pin.le_trans hle184 hle196), (hr104.mono (Pin.le_trans (Pin.le_trans (Pin.le_trans (Pin.le_trans (Pin.le_trans (Pin.le_trans hle10 hlek16) hx53.le) hle59) hlek61) hle184) hle196)), (hr105.mono (Pin.le_trans (Pin.le_trans (Pin.le_trans (Pin.le_trans (Pin.le_trans (Pin.le_trans hle10 hlek16) hx53.le) hle59) hlek61) hle184) hle196)), (hr111.mono (Pin.le_trans (Pin.le_trans (Pin.le_trans (Pin.le_trans (Pin.le_trans (Pin.le_trans hle10 hlek16) hx53.le) hle59) hlek61) hle184) hle196)), (hr112.mono (Pin.le_trans (Pin.le_trans (Pin.le_trans (Pin.le_trans (Pin.le_trans (Pin.le_trans hle10 hlek16) hx53.le) hle59) hlek61) hle184) hle196)), (hbp186.mono hle196), (hbp198.mono (Pin.le_refl _))⟩)
 refine wp_exit (s_thenE (s_lopE (s_blkE (s_then (s_seq (c_reg ?_))))))
 refine qd rfl rfl rfl (r_fldp (k := 0) rfl Try.underlying26 rfl nz24 rfl) (qd rfl rfl rfl (r_ldp1 (u := v) ag24 rfl ((Pins.of_le hX64.pins (Pin.le_trans (Pin.le_trans (Pin.le_trans hlek16 hx53.le) hle59) hlek61)) _ _ _ (hbp12 0 _ rfl))) (qd rfl rfl rfl (r_fldp (k := 0) rfl Try.underlying26 rfl nz24 rfl) (qd rfl rfl rfl (r_ldp1 (u := v) ag24 rfl ((Pins.of_le hX64.pins (Pin.le_trans (Pin.le_trans (Pin.le_trans hlek16 hx53.le) hle59) hlek61)) _ _ _ (hbp12 0 _ rfl))) (qd rfl rfl rfl (run_len Try.underlying24 (v := v) rfl hv) (qd rfl rfl rfl (r_sub rfl rfl (by omega)) (q1 rfl rfl rfl (o_call (vs := [v, (.int .i64 ((ns.length : Int) - 1))]) Try.func35 nm35 rfl rfl rfl ?_)))))))
 refine Calls.mono (used_spec hX64.pins (hv.mono (Pin.le_trans (Pin.le_trans (Pin.le_trans (Pin.le_trans hle10 hlek16) hx53.le) hle59) hlek61)) (opts_ok hopts) (by omega)) ?_
 rintro _ w202 ⟨u200, G201, rfl, ho203, hx204⟩
 refine ⟨_, rfl, ?_⟩
 have hX205 := hX64.tr hx204
 have ho206 : Own eBool 4 G201 w202 w.heap.size u200 (usedM ns ((ns.length : Int) - 1).toNat) := ho203.weaken hX64.size
 obtain ⟨G207, hle210, hX209, hr208, hf211⟩ := ho206.sealed hX205
 refine q1 rfl rfl rfl (o_call (vs := [u200, (.bool false)]) Try.func34 nm34 rfl rfl rfl ?_)
 refine Calls.mono (slContains_spec hX209.pins hr208) ?_
 rintro _ _ ⟨rfl, rfl⟩
 refine ⟨_, rfl, ?_⟩
 refine qd rfl rfl rfl (r_not rfl) (qd rfl rfl rfl (r_assign (v := (.bool (!(decide ((0 : Int) ≤ idxB (usedM ns ((ns.length : Int) - 1).toNat) false))))) rfl) (qe (s_then ?_)))
 exact wp_ret (s_ret (c_ret1 (v := (.bool (!(decide ((0 : Int) ≤ idxB (usedM ns ((ns.length : Int) - 1).toNat) false))))) rfl rfl rfl (⟨_, congrArg (fun z => Ending.returned (Value.bool z)) (goodB_used (by omega) (by omega) (by omega) hopts (fun k h1 h2 => hsr k h1 (by omega))).symm, hX209⟩)))

end B1
end Go.Proofs.Ytdongckiecjbaaa
