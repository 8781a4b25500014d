/- Texts of this claim in one file: Deep, Text, Table, Part, Game, Den, Ord, Map, Key, Sort, Sg, Pool, Opts, Load, Great, Uniq, Dom, Rev, Canon, Red, Parts, Rank, SortF, Frm, Bud, Bkq, Sum, Make, Tiny, Num, Int2, Numb, OrdS, Fit, Win, Arena, Loopw, LitA, Draw, Stopf, Shelf, Laws. -/
import Derived.Test.YtdongckiecjbaaaGreatDoorSg2
import Derived.Lib.SliceRun
import Derived.Lib.Join
import Derived.Carry
import Derived.MapKept
import Derived.Laws.BytesString
import Derived.Sort.Row
import Derived.Sort.Grow
import Derived.Lib.SlicesCompact
import Derived.Shelf.SlSortCmp.NoneTotal
import Derived.Lib.QuietBelow
import Derived.Shelf.Sort.Plain
import Derived.Ground.Names2Prog
import Derived.Shelf.Slices.CompactI
import Derived.Shelf.Slices.In.SortNone
import Derived.Test.YtdongckiecjbaaaGreatDoorProg
namespace Go.GL
open Go Go.RowKit
def eVal : Elt Value where
 size := 1
 rep := fun _ cs v => cs = [v] ∧ v.oneCell' = true
 mono := fun _ h => h
 len := fun h => by rw [h.1]; rfl
 one := fun h u hu => by rw [h.1] at hu; simp at hu; subst hu; exact h.2
def eVal2 : Elt (Value × Value) where
 size := 2
 rep := fun _ cs p => cs = [p.1, p.2] ∧ p.1.oneCell' = true ∧ p.2.oneCell' = true
 mono := fun _ h => h
 len := fun h => by rw [h.1]; rfl
 one := fun h u hu => by
  rw [h.1] at hu; simp at hu
  rcases hu with rfl | rfl
  ·exact h.2.1
  ·exact h.2.2
def Flat {α : Type} (E : Elt α) : Prop := ∀ {G G' : Pin} {cs : List Value} {x : α}, E.rep G cs x → E.rep G' cs x
theorem eH : Flat eInt := fun h => h
theorem Own.anti {α : Type} {E : Elt α} {e base : Nat} {G G' : Pin} {w : World} {v : Value} {xs : List α} (hE : Flat E) (h : Own E e G' w base v xs) (hg : Pin.le G G') : Own E e G w base v xs := by
 obtain ⟨cells, h1, h2⟩ := h.ex
 exact ⟨⟨cells, h1, fun i x hx => hE (h2 i x hx)⟩, fun k hk o u hu => h.free k hk o u (hg _ _ _ hu)⟩
theorem RSl.conv {α β : Type} {E : Elt α} {F : Elt β} {G : Pin} {v : Value} {xs : List α} {ys : List β} (h : RSl E G v xs) (hl : ys.length = xs.length) (hs : F.size = E.size) (hr : ∀ (i : Nat) x y cs, xs[i]? = some x → ys[i]? = some y → E.rep G cs x → F.rep G cs y) : RSl F G v ys := by
 refine ⟨?_, fun i y hy => ?_⟩
 ·obtain ⟨a, c, h1, h2, h3⟩ := h.sl
  exact ⟨a, c, by rw [hl]; exact h1, by rw [hl]; exact h2, h3⟩
 ·have hi : i < xs.length := by have := (List.getElem?_eq_some_iff.1 hy).1; omega
  obtain ⟨a, b, o, n, c, cs, h1, h2, h3, h4⟩ := h.at_ i _ (List.getElem?_eq_getElem hi)
  exact ⟨a, b, o, n, c, cs, h1, by rw [hs]; exact h2, hr i _ y cs (List.getElem?_eq_getElem hi) hy h3, h4⟩
abbrev Leaf := Value × List Int
structure Lvs (e : Nat) (G : Pin) (w : World) (lo hi : Nat) (L : List Leaf) : Prop where
 own : ∀ p ∈ L, Own eInt e G w lo p.1 p.2
 hi : ∀ p ∈ L, ∀ k, p.1.ownBlock = some k → k < hi
 ap : L.Pairwise fun p q => Apart p.1.ownBlock q.1.ownBlock
def ApL (L : List Leaf) (x : Option Nat) : Prop := ∀ p ∈ L, Apart p.1.ownBlock x
section
variable {e lo hi : Nat} {G G' : Pin} {w w' : World} {L L' : List Leaf}
theorem Lvs.nil : Lvs e G w lo hi [] := ⟨fun _ hp => (List.not_mem_nil hp).elim, fun _ hp => (List.not_mem_nil hp).elim, List.Pairwise.nil⟩
theorem ApL.nil {x : Option Nat} : ApL [] x := fun _ hp => (List.not_mem_nil hp).elim
theorem Lvs.map (h : Lvs e G w lo hi L) (f : ∀ p ∈ L, Own eInt e G w lo p.1 p.2 → Own eInt e G' w' lo p.1 p.2) : Lvs e G' w' lo hi L := ⟨fun p hp => f p hp (h.own p hp), h.hi, h.ap⟩
theorem Lvs.below (h : Lvs e G w lo hi L) (hb : Below w.heap.size w w') : Lvs e G w' lo hi L := h.map fun _ _ ho => ho.below hb
theorem Lvs.ext (h : Lvs e G w lo hi L) (hx : Ext noS G w G' w') : Lvs e G' w' lo hi L := h.map fun _ _ ho => ho.ext hx
variable {xs : List Int}
theorem Lvs.extS {S : Nat → Prop} (h : Lvs e G w lo hi L) (hx : Ext S G w G' w') (hS : ∀ k, lo ≤ k → k < hi → ¬ S k) : Lvs e G' w' lo hi L :=
 h.map fun p hp ho => ho.extS hx fun k hk => hS k (ho.lt k hk).1 (h.hi p hp k hk)
theorem Lvs.kept {row : Option Nat} (h : Lvs e G w lo hi L) (hg : w.grownBy w' row) (ha : ApL L row) : Lvs e G w' lo hi L := h.map fun p hp ho => ho.keptA hg (ha p hp)
theorem Lvs.more {b : Nat} (h : Lvs e G w lo hi L) (hl : Pin.le G G') (hf : ∀ k o u, G' k o u → G k o u ∨ k = b) (ha : ApL L (some b)) : Lvs e G' w lo hi L := h.map fun p hp ho => ho.moreA hl hf (ha p hp)
theorem Lvs.top (h : Lvs e G w lo hi L) : Lvs e G w lo w.heap.size L := ⟨h.own, fun p hp k hk => ((h.own p hp).lt k hk).2, h.ap⟩
theorem Lvs.perm (h : Lvs e G w lo hi L) (hp : L.Perm L') : Lvs e G w lo hi L' :=
 ⟨fun p hq => h.own p (hp.mem_iff.2 hq), fun p hq => h.hi p (hp.mem_iff.2 hq), (hp.pairwise_iff (fun {a b} (x : Apart a.1.ownBlock b.1.ownBlock) => x.symm)).1 h.ap⟩
theorem ApL.perm {x : Option Nat} (h : ApL L x) (hp : L.Perm L') : ApL L' x := fun p hq => h p (hp.mem_iff.2 hq)
theorem Lvs.add {u : Value} (h : Lvs e G w lo w.heap.size L) (ho : Own eInt e G w lo u xs) (ha : ApL L u.ownBlock) : Lvs e G w lo w.heap.size (L ++ [(u, xs)]) := by
 refine ⟨fun p hp => ?_, fun p hp k hk => ?_, ?_⟩
 ·rcases List.mem_append.1 hp with h1 | h1
  ·exact h.own p h1
  ·simp at h1; subst h1; exact ho
 ·rcases List.mem_append.1 hp with h1 | h1
  ·exact h.hi p h1 k hk
  ·simp at h1; subst h1; exact (ho.lt k hk).2
 ·refine List.pairwise_append.2 ⟨h.ap, by simp, fun a ha' b hb => ?_⟩
  simp at hb; subst hb; exact ha a ha'
theorem ApL.add {u : Value} {x : Option Nat} (h : ApL L x) (hu : Apart u.ownBlock x) : ApL (L ++ [(u, xs)]) x := fun p hp => by
 rcases List.mem_append.1 hp with h1 | h1
 ·exact h p h1
 ·simp at h1; subst h1; exact hu
theorem ApL.fresh {x : Option Nat} (h : Lvs e G w lo hi L) (hx : ∀ k, x = some k → w.heap.size ≤ k) : ApL L x := fun p hp k hk hk' => by
 have h1 := ((h.own p hp).lt k hk).2; have h2 := hx k hk'; omega
theorem ApL.app {u v : Value} (h : Lvs e G w lo hi L) (ha : ApL L u.ownBlock) (hw : v.ownBlock = u.ownBlock ∨ ∃ k, v.ownBlock = some k ∧ w.heap.size ≤ k) : ApL L v.ownBlock := fun p hp =>
 zH (ha p hp) hw (fun k hk => (h.own p hp).lt k hk)
def GLv (G : Pin) (w : World) (L : List Leaf) : Pin := fun b o u => G b o u ∨ ((∃ p ∈ L, p.1.ownBlock = some b) ∧ w.cell? ⟨b, o, none⟩ = some u)
theorem GLv.le : Pin.le G (GLv G w L) := fun _ _ _ h => Or.inl h
theorem GLv.pins (h : Pins G w) : Pins (GLv G w L) w := fun b o u hu => by
 rcases hu with hu | hu
 ·exact h b o u hu
 ·exact hu.2
theorem Lvs.read (h : Lvs e G w lo hi L) {p : Leaf} (hp : p ∈ L) : RSl eInt (GLv G w L) p.1 p.2 :=
 (h.own p hp).read.mono fun b o u hu => by
  rcases hu with h1 | h1
  ·exact Or.inl h1
  ·exact Or.inr ⟨⟨p, hp, h1.1⟩, h1.2⟩
end
def lvN (ps : List (Value × Value)) (ns : List Nd) : List Leaf := (ps.zip ns).flatMap fun q => [(q.1.1, q.2.l), (q.1.2, q.2.r)]
structure DForm (en e : Nat) (G : Pin) (w : World) (lo hi : Nat) (v : Value) (ns : List Nd) : Prop where
 ex : ∃ ps, ps.length = ns.length ∧ Own eVal2 en G w lo v ps ∧ (∀ k, v.ownBlock = some k → k < hi) ∧ Lvs e G w lo hi (lvN ps ns) ∧ ApL (lvN ps ns) v.ownBlock
theorem lvN_snoc (ps : List (Value × Value)) (ns : List Nd) (p : Value × Value) (n : Nd) (h : ps.length = ns.length) : lvN (ps ++ [p]) (ns ++ [n]) = lvN ps ns ++ [(p.1, n.l)] ++ [(p.2, n.r)] := by
 unfold lvN
 rw [List.zip_append h, List.flatMap_append, List.append_assoc]; rfl
section
variable {en e lo hi : Nat} {G G' : Pin} {w w' : World} {v : Value} {ns : List Nd}
end
def lvL (us : List Value) (xss : List (List Int)) : List Leaf := us.zip xss
structure DLoop (er e : Nat) (G : Pin) (w : World) (lo hi : Nat) (u v : Value) (ls rs : List (List Int)) : Prop where
 ex : ∃ us vs, us.length = ls.length ∧ vs.length = rs.length ∧ Own eVal er G w lo u us ∧ Own eVal er G w lo v vs ∧ (∀ k, u.ownBlock = some k → k < hi) ∧ (∀ k, v.ownBlock = some k → k < hi) ∧ Lvs e G w lo hi (lvL us ls ++ lvL vs rs) ∧
  ApL (lvL us ls ++ lvL vs rs) u.ownBlock ∧ ApL (lvL us ls ++ lvL vs rs) v.ownBlock ∧ Apart u.ownBlock v.ownBlock
section
variable {er e lo hi : Nat} {G G' : Pin} {w w' : World} {u v : Value} {ls rs : List (List Int)}
theorem mZ {us : List Value} {xss : List (List Int)} {G : Pin} (hr : RSl eVal G v us) (hl : us.length = xss.length) (hk : ∀ p ∈ lvL us xss, RSl eInt G p.1 p.2) : RSl (eSl eInt) G v xss :=
 hr.conv hl.symm rfl fun i u xs cs hu hx hrep => by
  obtain ⟨rfl, _⟩ := hrep
  exact ⟨u, rfl, hk (u, xs) (List.mem_of_getElem? (i := i) (by unfold lvL; rw [List.getElem?_zip_eq_some]; exact ⟨hu, hx⟩))⟩
theorem DLoop.read (h : DLoop er e G w lo hi u v ls rs) (hP : Pins G w) : ∃ G', Pin.le G G' ∧ Pins G' w ∧ RSl (eSl eInt) G' u ls ∧ RSl (eSl eInt) G' v rs ∧ ∀ b o x, G' b o x → G b o x ∨ lo ≤ b := by
 obtain ⟨us, vs, h1, h2, h3, h4, h5, h6, h7, h8, h9, h10⟩ := h.ex
 have hl1 : Pin.le (Gadd G w u) (Gadd (Gadd G w u) w v) := Gadd.le _ _ _
 have key : ∀ q ∈ lvL us ls ++ lvL vs rs, RSl eInt (GLv (Gadd (Gadd G w u) w v) w (lvL us ls ++ lvL vs rs)) q.1 q.2 := fun q hq =>
  (h7.read hq).mono fun b o u hu => by
   rcases hu with a | a
   ·exact Or.inl (Or.inl (Or.inl a))
   ·exact Or.inr a
 refine ⟨GLv (Gadd (Gadd G w u) w v) w (lvL us ls ++ lvL vs rs), dM (dM (Gadd.le _ _ _) hl1) GLv.le, GLv.pins (Gadd.pins (Gadd.pins hP u) v), ?_, ?_, fun b o x hx => ?_⟩
 rotate_left
 rotate_left
 ·rcases hx with ((a | a) | a) | a
  ·exact Or.inl a
  ·exact Or.inr (h3.lt b a.1).1
  ·exact Or.inr (h4.lt b a.1).1
  ·obtain ⟨⟨p, hp, hk⟩, _⟩ := a
   exact Or.inr ((h7.own p hp).lt b hk).1
 ·exact mZ ((h3.read.mono hl1).mono GLv.le) h1 fun p hp => key p (List.mem_append_left _ hp)
 ·refine mZ ((h4.read.mono fun b o u hu => ?_).mono GLv.le) h2 fun p hp => key p (List.mem_append_right _ hp)
  rcases hu with a | a
  ·exact Or.inl (Or.inl a)
  ·exact Or.inr a
end
theorem Own.up {α : Type} {E : Elt α} {e base lo : Nat} {G : Pin} {w : World} {v : Value} {xs : List α} (h : Own E e G w base v xs) (hl : ∀ k, v.ownBlock = some k → lo ≤ k) : Own E e G w lo v xs := by
 obtain ⟨cells, ⟨hc, hown⟩, hr⟩ := h.ex
 refine ⟨⟨cells, ⟨hc, ?_⟩, hr⟩, h.free⟩
 rcases hown with hn | ⟨g, cap, cur, h1, h2, h3⟩
 ·exact .inl hn
 ·exact .inr ⟨g, cap, cur, h1, hl g (by rw [h1]; rfl), h3⟩
def inR (lo hi : Nat) (k : Nat) : Prop := lo ≤ k ∧ k < hi
section
variable {P : Program} {ρ : Operand → Value} {w : World} {d : Option Nat} {t e ty t' : Nat} {pos : String} {aft : Array Edge} {g : Option (Nat × Bool)} {x y : Operand}
def nilSl : Value → Bool
 | .slice none _ _ => true
 | _ => false
theorem sP {α : Type} {E : Elt α} {G : Pin} {v : Value} {xs : List α} (ht : P.underlying t = some (.slice e)) (hv : RSl E G v xs) (hx : ρ x = v) (hy : ρ y = .slice none 0 0) :
  (execOp ρ ⟨d, .binOp .eql t x y t', ty, pos, aft, g⟩).run P w = .ok (.value (.bool (nilSl v))) w := by
 obtain ⟨a, c, rfl, _⟩ := hv.sl
 have h := Go.Lib.run_eql_slice_nil (P := P) w t e a xs.length c 0 0 ht
 simp only [execOp, hx, hy]
 cases a <;> simp [eqGuard, nilSl, h]
theorem nil_of {α : Type} {E : Elt α} {G : Pin} {v : Value} {xs : List α} (hv : RSl E G v xs) (h : nilSl v = true) : xs = [] := by
 match xs, hv with
 | [], _ => rfl
 | x :: r, hv =>
  obtain ⟨a, b, o, n, c, cs, h1, _⟩ := hv.at_ 0 x rfl
  rw [h1] at h; cases h
end
theorem vL {P : Program} {n : Nat} {env : Nat → Value} {w : World} {fn : Func} {R : Ending → World → Prop} {s t b i : Nat} {cs : List Value} {v : Value} (hr : fn.results = #[.cell s t, .tmp i]) (hs : Nat.blt s n = true) (hi : Nat.blt i n = true) (hv : env s = .pointer (some ⟨b, 0, none⟩)) (hiv : env i = v) (ha : (P.underlying t).map aggD = some true) (hz : (P.info? t).map (·.size) = some cs.length)
  (hc : ∀ j u, cs[j]? = some u → w.cell? ⟨b, 0 + j, none⟩ = some u) (h : R (.returned (.tuple #[.agg cs.toArray, v])) w) : bodyPost P fn R .ret (F n env) w := by
 have h2 : s < n := by simpa [Nat.blt_eq] using hs
 have h3 : i < n := by simpa [Nat.blt_eq] using hi
 have hcell : ∀ j u, cs[j]? = some u → w.cell? ((⟨b, 0, none⟩ : Addr).add j) = some u := fun j u hj => by
  have := hc j u hj
  simp only [Addr.add]
  split
  ·simp_all
  ·exact this
 have hlv : (loadVar t ⟨b, 0, none⟩).run P w = .ok (.agg cs.toArray) w := by
  unfold loadVar
  simp only [Sem.run_bind, jF ha, Result.andThen_ok, if_true, xW hz, run_loadCells_list (P := P) w ⟨b, 0, none⟩ cs hcell, Sem.run_pure]
 refine bodyPost_ret (v := .tuple #[.agg cs.toArray, v]) ?_ rfl h
 have he : (F n env).tmps[s]?.getD undef = .pointer (some ⟨b, 0, none⟩) := by simp [F, h2, hv]
 have he2 : (F n env).tmps[i]?.getD undef = v := by simp [F, h3, hiv]
 simp [results, hr, he, he2, asAddr, hlv]
def inV (us : List Value) (k : Nat) : Prop := ∃ u ∈ us, u.ownBlock = some k
section
variable {e lo hi : Nat} {G G' : Pin} {w w' : World} {L L1 L2 : List Leaf}
end
theorem sV : ∀ {us vs : List Value} {ns : List Nd}, us.length = ns.length → vs.length = ns.length → (lvN (us.zip vs) ns).Perm (lvL us (ns.map Nd.l) ++ lvL vs (ns.map Nd.r))
 | [], [], [], _, _ => List.Perm.refl _
 | u :: us, v :: vs, n :: ns, h1, h2 => by
  have ih := sV (us := us) (vs := vs) (ns := ns) (by simpa using h1) (by simpa using h2)
  have e1 : lvN ((u :: us).zip (v :: vs)) (n :: ns) = (u, n.l) :: (v, n.r) :: lvN (us.zip vs) ns := rfl
  have e2 : lvL (u :: us) ((n :: ns).map Nd.l) ++ lvL (v :: vs) ((n :: ns).map Nd.r) = (u, n.l) :: (lvL us (ns.map Nd.l) ++ (v, n.r) :: lvL vs (ns.map Nd.r)) := rfl
  rw [e1, e2]
  exact List.Perm.cons _ ((List.Perm.cons _ ih).trans List.perm_middle.symm)
 | [], v :: vs, [], _, h2 => by cases h2
 | u :: us, _, [], h1, _ => by cases h1
 | [], _, n :: ns, h1, _ => by cases h1
 | u :: us, [], n :: ns, _, h2 => by cases h2
theorem lvN_zip {us vs : List Value} {ns : List Nd} {j : Nat} {LV : List Leaf} {u v : Value} (h : LV = lvN (us.zip vs) (ns.take j)) (hj : j < ns.length) (h1 : us.length = j) (h2 : vs.length = j) :
  LV ++ [(u, (ns.getD j default).l)] ++ [(v, (ns.getD j default).r)] = lvN ((us ++ [u]).zip (vs ++ [v])) (ns.take (j + 1)) := by
 subst h
 rw [xT ns default hj, List.zip_append (by omega), List.zip_cons_cons, List.zip_nil_right, lvN_snoc _ _ _ _ (by simp; omega)]
noncomputable def lpOk (ns : List Nd) : Bool := goodB ns && decide (ns.length ≤ 36)
noncomputable def lpL (ns : List Nd) : List (List Int) := if lpOk ns = true then ns.map Nd.l else []
noncomputable def lpR (ns : List Nd) : List (List Int) := if lpOk ns = true then ns.map Nd.r else []
theorem lp_no {ns : List Nd} (h : goodB ns = false ∨ (36 : Int) < (ns.length : Int)) : lpOk ns = false ∧ lpL ns = [] ∧ lpR ns = [] := by
 have : lpOk ns = false := by
  unfold lpOk
  rcases h with h | h
  ·rw [h]; rfl
  ·rw [decide_eq_false (by omega)]; simp
 exact ⟨this, by unfold lpL; rw [this]; rfl, by unfold lpR; rw [this]; rfl⟩
theorem pK {ns : List Nd} (h1 : goodB ns = true) (h2 : ¬ (36 : Int) < (ns.length : Int)) : lpOk ns = true ∧ lpL ns = ns.map Nd.l ∧ lpR ns = ns.map Nd.r := by
 have : lpOk ns = true := by unfold lpOk; rw [h1, decide_eq_true (by omega)]; rfl
 exact ⟨this, by unfold lpL; rw [this]; rfl, by unfold lpR; rw [this]; rfl⟩
section
variable {en er e lo hi lo' hi' : Nat} {G Gx G' : Pin} {w w' : World} {u v : Value} {ns : List Nd} {ls rs : List (List Int)}
theorem tC (hP : Pins G w) (hx : Ext noS Gx w G' w') : Ext noS G w G w' := ⟨Pin.le_refl _, hP.below hx.below, fun _ _ _ h => Or.inl h, hx.os, hx.tape, hx.output, hx.size, hx.block⟩
theorem DLoop.give (h : DLoop er e G' w' w.heap.size w'.heap.size u v ls rs) (hx : Ext noS G w G' w') : ∃ G'', RSl (eSl eInt) G'' u ls ∧ RSl (eSl eInt) G'' v rs ∧ Ext noS G w G'' w' := by
 obtain ⟨G'', h1, h2, h3, h4, h5⟩ := h.read hx.pins
 refine ⟨G'', h3, h4, dM hx.le h1, h2, fun b o x hb => ?_, hx.os, hx.tape, hx.output, hx.size, hx.block⟩
 rcases h5 b o x hb with a | a
 ·exact hx.fresh b o x a
 ·exact Or.inr a
end
end Go.GL
namespace Go.GL
open Go Go.RowKit
section
variable {P : Program} {ρ : Operand → Value} {w : World} {d : Option Nat} {t e ty : Nat} {pos : String} {aft : Array Edge} {g : Option (Nat × Bool)} {x y : Operand}
variable {m : Nat}
theorem vH {t' : Nat} {p : Bool} (ht : P.underlying t = some .bool) (hx : ρ x = .bool p) (hy : ρ y = .bool p) : (execOp ρ ⟨d, .binOp .eql t x y t', ty, pos, aft, g⟩).run P w = .ok (.value (.bool true)) w := by
 rw [r_eqlB ht hx hy]; simp
theorem r_buildA {parts : Array (Nat × Operand)} {n : Nat} {z : Value} (zs cs : List Value) (ps : List (Nat × Value × List Value)) (ht : P.underlying t = some (.array n e)) (hz : (P.info? t).bind (·.zero) = some z) (hzc : z.cells.toList = zs)
  (he : (P.info? e).map (·.size) = some m) (hpt : (parts.toList.map fun (i, x) => (i, ρ x)) = ps.map fun p => (p.1, p.2.1)) (hc : ∀ p ∈ ps, p.2.1.cells = p.2.2.toArray)
  (hf : fillL (fun i => some (i * m, m)) zs (ps.map fun p => (p.1, p.2.2)) = some cs) :
  (execOp ρ ⟨d, .build t parts, ty, pos, aft, g⟩).run P w = .ok (.value (.agg cs.toArray)) w := by
 obtain ⟨it, hit, hzz⟩ := Option.bind_eq_some_iff.1 hz
 obtain ⟨ie, hie, hm⟩ := Option.map_eq_some_iff.1 he
 subst hm
 have hb : P.built t (parts.map fun (i, x) => (i, ρ x)).toList = some cs.toArray := by
  unfold Program.built
  rw [hit, ht]
  simp only [hzz, hie]
  rw [Array.toList_map, hpt]
  have := fT hc hf
  rw [← hzc] at this
  exact this
 have := Go.run_build (P := P) w t (parts.map fun (i, x) => (i, ρ x)) cs.toArray hb
 simp [execOp, this]
theorem r_idxb {b o n k : Nat} {z : Int} (ht : P.underlying t = some (.array n e)) (hs : (P.info? e).map (·.size) = some m) (hx : ρ x = .pointer (some ⟨b, o, none⟩)) (hy : ρ y = .int .i64 z) (h0 : 0 ≤ z) (h1 : z < n) (hk : o + z.toNat * m = k) :
  (execOp ρ ⟨d, .indexAddr t x y, ty, pos, aft, g⟩).run P w = .ok (.value (.pointer (some ⟨b, k, none⟩))) w := by
 subst hk
 have hadd : (⟨b, o, none⟩ : Addr).add (z.toNat * m) = ⟨b, o + z.toNat * m, none⟩ := by
  simp only [Addr.add]
  split <;> simp_all
 simp [execOp, hx, hy, Instr.indexAt, asIntOf, Instr.sureAddr, run_underlying ht, h0, h1, xW hs, hadd]
end
section
variable {P : Program} {ρ : Operand → Value} {w : World} {K : Value → World → Prop} {d : Option Nat} {t ty : Nat} {pos : String} {aft : Array Edge} {g : Option (Nat × Bool)} {x y : Operand} {G : Pin}
end
variable {ns : List Nd} {i : Nat}
theorem GoodP.optsOk (hg : GoodP ns) : OptsOk ns := pE hg.opts
theorem qC {l : List Int} {b : Int} (h : goodOpts l b = true) : l.length ≤ 24 := by
 unfold goodOpts at h
 split at h
 ·cases h
 ·omega
theorem GoodP.lenl (hg : GoodP ns) (hi : i < ns.length) : (ns.getD i default).l.length ≤ 24 := qC (hg.opts i hi).1
theorem GoodP.lenr (hg : GoodP ns) (hi : i < ns.length) : (ns.getD i default).r.length ≤ 24 := qC (hg.opts i hi).2
end Go.GL
namespace Go.GL
open Go Go.RowKit
section
variable {en e lo hi : Nat} {G G' : Pin} {w w' : World} {v : Value} {ns : List Nd}
theorem DForm.extS {S : Nat → Prop} (h : DForm en e G w lo hi v ns) (hx : Ext S G w G' w') (hS : ∀ k, lo ≤ k → k < hi → ¬ S k) : DForm en e G' w' lo hi v ns := by
 obtain ⟨ps, h1, h2, h3, h4, h5⟩ := h.ex
 exact ⟨⟨ps, h1, h2.extS hx (fun k hk => hS k (h2.lt k hk).1 (h3 k hk)), h3, h4.extS hx hS, h5⟩⟩
end
def DCh (en e : Nat) (G : Pin) (w : World) (R : Option Nat) : Nat → Nat → List Value → List (List Nd) → Prop
 | lo, hi, [], [] => lo ≤ hi
 | lo, hi, u :: us, f :: fs => ∃ l m, lo ≤ l ∧ l ≤ m ∧ (∀ b, R = some b → m ≤ b ∨ b < l) ∧ DForm en e G w l m u f ∧ DCh en e G w R m hi us fs
 | _, _, _, _ => False
section
variable {en e : Nat} {G G' : Pin} {w w' : World} {R R' : Option Nat}
theorem DCh.le : ∀ {lo hi : Nat} {us : List Value} {fs : List (List Nd)}, DCh en e G w R lo hi us fs → lo ≤ hi
 | _, _, [], [], h => h
 | _, _, _ :: _, _ :: _, ⟨_, _, h1, h2, _, _, h3⟩ => Nat.le_trans (Nat.le_trans h1 h2) h3.le
 | _, _, [], _ :: _, h => h.elim
 | _, _, _ :: _, [], h => h.elim
theorem DCh.map : ∀ {lo hi : Nat} {us : List Value} {fs : List (List Nd)}, DCh en e G w R lo hi us fs → (∀ l m u f, lo ≤ l → m ≤ hi → (∀ b, R = some b → m ≤ b ∨ b < l) → DForm en e G w l m u f → DForm en e G' w' l m u f) → DCh en e G' w' R lo hi us fs
 | _, _, [], [], h, _ => h
 | lo, hi, u :: us, f :: fs, ⟨l, m, h1, h0, hr, h2, h3⟩, hf => ⟨l, m, h1, h0, hr, hf _ _ _ _ h1 h3.le hr h2, h3.map fun l k u f hl hk hd => hf l k u f (by omega) hk hd⟩
 | _, _, [], _ :: _, h, _ => h.elim
 | _, _, _ :: _, [], h, _ => h.elim
end
section
variable {en ef e lo hi lo' hi' : Nat} {G G' : Pin} {w w' : World} {v : Value} {fs : List (List Nd)}
end
theorem nM {ns : List Nd} (hg : GoodP ns) : FormOk ns := fD (good_iff.2 hg).fits (good_iff.2 hg).rise
section
variable {P : Program} {ρ : Operand → Value} {w : World} {K : Value → World → Prop} {d : Option Nat} {t ty e : Nat} {pos : String} {aft : Array Edge} {g : Option (Nat × Bool)} {x y : Operand} {G : Pin} {v : Value}
end
section
variable {en ef e lo hi lo' hi' : Nat} {G G' : Pin} {w w' : World} {v : Value} {ns : List Nd} {us : List Value} {fs : List (List Nd)} {R : Option Nat}
theorem DCh.at : ∀ {lo hi j : Nat} {us : List Value} {fs : List (List Nd)}, DCh en e G w R lo hi us fs → j < fs.length → ∃ l m, lo ≤ l ∧ m ≤ hi ∧ (∀ b, R = some b → m ≤ b ∨ b < l) ∧ DForm en e G w l m (us.getD j default) (fs.getD j []) ∧
  ∀ {w' : World} {f' : List Nd}, Ext (inR l m) G w G w' → DForm en e G w' l m (us.getD j default) f' → DCh en e G w' R lo hi us (fs.set j f')
 | lo, hi, 0, u :: us, f :: fs, ⟨l, m, h1, h0, hr, h2, h3⟩, _ => ⟨l, m, h1, h3.le, hr, h2, fun hx hd => ⟨l, m, h1, h0, hr, hd, h3.map fun _ _ _ _ hl _ _ hq => hq.extS hx fun k h5 _ h7 => by have := h7.2; omega⟩⟩
 | lo, hi, j + 1, u :: us, f :: fs, ⟨l0, m0, h1, h0, hr, h2, h3⟩, hj => by
  obtain ⟨l, k, a1, a2, a3, a4, a5⟩ := h3.at (j := j) (by simpa using hj)
  exact ⟨l, k, by omega, a2, a3, by simpa using a4, fun hx hd => ⟨l0, m0, h1, h0, hr, h2.extS hx fun q _ h6 h7 => by have := h7.1; omega, a5 hx (by simpa using hd)⟩⟩
 | _, _, _, [], [], _, hj => (by simp at hj)
 | _, _, _, [], _ :: _, h, _ => h.elim
 | _, _, _, _ :: _, [], h, _ => h.elim
end
variable {j : Nat}
theorem cur_set {α : Type} {A B : List α} {x : α} (d : α) (hl : A.length = B.length) (h : j < B.length) (hx : A.getD j d = x) : (A.take j ++ B.drop j).set j x = A.take (j + 1) ++ B.drop (j + 1) := by
 subst hx
 rw [List.set_append_right _ _ (by simp; omega), xB B d h, xT A d (by omega), show j - (List.take j A).length = 0 by simp; omega, List.set_cons_zero, List.append_assoc]; rfl
theorem cur_end {α : Type} {A B : List α} (hl : A.length = B.length) (h : B.length ≤ j) : A.take j ++ B.drop j = A := by
 rw [List.drop_eq_nil_of_le h, List.append_nil, List.take_of_length_le (by omega)]
section
variable {α : Type} {E : Elt α} {e lo hi lo' hi' : Nat} {G G' : Pin} {w w' : World} {v : Value} {xs : List α}
end
section
variable {P : Program} {ρ : Operand → Value} {w : World} {K : Value → World → Prop} {d : Option Nat} {t ty e : Nat} {pos : String} {aft : Array Edge} {g : Option (Nat × Bool)} {x y : Operand} {G : Pin} {v : Value}
end
end Go.GL
namespace Go.GL
variable {l : List Int} {k : Nat}
theorem vG : ∀ {is : List Bool}, is.getD k false = true → (setAll is l).getD k false = true := by
 induction l with
 | nil => intro is h; exact h
 | cons x r ih =>
  intro is h
  refine ih (is := is.set x.toNat true) ?_
  rw [List.getD, List.getElem?_set]
  split
  ·split
   ·rfl
   ·rename_i h1 h2; subst h1; simp [List.getD, Nat.le_of_not_lt h2] at h
  ·exact h
theorem rM {k : Int} : ∀ {is : List Bool}, k ∈ l → k.toNat < is.length → (setAll is l).getD k.toNat false = true := by
 induction l with
 | nil => intro is h; cases h
 | cons x r ih =>
  intro is h hk
  cases h with
  | head => exact vG (is := is.set k.toNat true) (by simp [List.getD, hk])
  | tail _ h => exact ih (is := is.set x.toNat true) h (by simpa using hk)
theorem fX {z : Nat} : ∀ {is : List Bool}, (∀ k ∈ l, k.toNat ≠ z) → (setAll is l).getD z false = is.getD z false := by
 induction l with
 | nil => intro is _; rfl
 | cons x r ih =>
  intro is h
  have h1 := ih (is := is.set x.toNat true) fun k hk => h k (List.mem_cons_of_mem _ hk)
  have h2 := h x List.mem_cons_self
  refine h1.trans ?_
  simp [List.getD, List.getElem?_set_ne h2]
theorem ustep_mono {ns : List Nd} {is : List Bool} {i : Nat} (h : is.getD k false = true) : (ustep ns is i).getD k false = true := by
 unfold ustep; split
 ·exact vG (vG h)
 ·exact h
theorem kM {ns : List Nd} : ∀ {q : Nat} {is : List Bool} {k : Nat}, is.getD k false = true → (ugo ns q is).getD k false = true
 | 0, _, _, h => h
 | q + 1, is, _, h => kM (q := q) (is := ustep ns is q) (ustep_mono h)
section
variable {ns : List Nd} (ho : OptsOk ns)
include ho
theorem rH {is : List Bool} {i z : Nat} (hi : i < ns.length) (hz : i ≤ z) : (ustep ns is i).getD z false = is.getD z false := by
 have o := xJ ho hi
 unfold ustep; split
 ·rw [fX fun k hk => by have := o.2 k hk; omega, fX fun k hk => by have := o.1 k hk; omega]
 ·rfl
theorem sJ : ∀ {q : Nat} {is : List Bool} {z : Nat}, q ≤ ns.length → q ≤ z + 1 → (ugo ns q is).getD z false = is.getD z false
 | 0, _, _, _, _ => rfl
 | q + 1, is, z, h, hz => (sJ (q := q) (is := ustep ns is q) (by omega) (by omega)).trans (rH ho (by omega) (by omega))
theorem rI : ∀ {q : Nat} {is : List Bool}, q ≤ ns.length → q ≤ is.length → ∀ z, z < q → (ugo ns q is).getD z false = true →
  (∀ o ∈ (ns.getD z default).l, (ugo ns q is).getD o.toNat false = true) ∧ (∀ o ∈ (ns.getD z default).r, (ugo ns q is).getD o.toNat false = true)
 | 0, _, _, _, z, hz, _ => absurd hz (Nat.not_lt_zero z)
 | q + 1, is, h, hl, z, hz, hu => by
  have hul : (ustep ns is q).length = is.length := by
   unfold ustep; split
   ·rw [qT, qT]
   ·rfl
  by_cases he : z = q
  ·subst he
   have hu2 : is.getD z false = true := by
    rw [← rH ho (i := z) (z := z) (is := is) (by omega) (Nat.le_refl _), ← sJ ho (q := z) (is := ustep ns is z) (by omega) (by omega)]
    exact hu
   have o := xJ ho (k := z) (by omega)
   have e : ustep ns is z = setAll (setAll is (ns.getD z default).l) (ns.getD z default).r := kY hu2
   refine ⟨fun x hx => kM (q := z) (is := ustep ns is z) ?_, fun x hx => kM (q := z) (is := ustep ns is z) ?_⟩
   ·rw [e]; exact vG (rM hx (by have := o.1 x hx; omega))
   ·rw [e]; exact rM hx (by rw [qT]; have := o.2 x hx; omega)
  ·exact rI (q := q) (is := ustep ns is q) (by omega) (by omega) z (by omega) hu
end
theorem fG : ∀ {a b : List Int}, a.Pairwise (· < ·) → b.Pairwise (· < ·) → (∀ z, z ∈ a ↔ z ∈ b) → a = b
 | [], [], _, _, _ => rfl
 | [], y :: b, _, _, h => by have := (h y).2 List.mem_cons_self; cases this
 | x :: a, [], _, _, h => by have := (h x).1 List.mem_cons_self; cases this
 | x :: a, y :: b, ha, hb, h => by
  have ha' := List.pairwise_cons.1 ha; have hb' := List.pairwise_cons.1 hb
  have e : x = y := by
   have h1 := (h x).1 List.mem_cons_self; have h2 := (h y).2 List.mem_cons_self
   cases h1 with
   | head => rfl
   | tail _ h1 =>
    cases h2 with
    | head => rfl
    | tail _ h2 => have := ha'.1 y h2; have := hb'.1 x h1; omega
  subst e
  congr 1
  refine fG ha'.2 hb'.2 fun z => ⟨fun hz => ?_, fun hz => ?_⟩
  ·have := (h z).1 (List.mem_cons_of_mem _ hz)
   cases this with
   | head => have := ha'.1 _ hz; omega
   | tail _ h1 => exact h1
  ·have := (h z).2 (List.mem_cons_of_mem _ hz)
   cases this with
   | head => have := hb'.1 _ hz; omega
   | tail _ h1 => exact h1
end Go.GL
namespace Go.GL
def loG (g i : Nat) : Prop := g.testBit (2 * i) = true
def roG (g i : Nat) : Prop := g.testBit (2 * i + 1) = true
variable {g i a b : Nat} {l r : List Nat}
theorem bit_lt {k : Nat} (h : g.testBit k = true) : k < g := Nat.lt_of_lt_of_le Nat.lt_two_pow_self (Nat.ge_two_pow_of_testBit h)
theorem loG.lt (h : loG g i) : i < g := by have := bit_lt h; omega
theorem roG.lt (h : roG g i) : i < g := by have := bit_lt h; omega
theorem gext (hl : ∀ i, loG a i ↔ loG b i) (hr : ∀ i, roG a i ↔ roG b i) : a = b := by
 apply Nat.eq_of_testBit_eq
 intro k
 rcases Nat.mod_two_eq_zero_or_one k with h | h
 ·have e : k = 2 * (k / 2) := by omega
  have := hl (k / 2)
  unfold loG at this
  rw [← e] at this
  exact Bool.eq_iff_iff.2 this
 ·have e : k = 2 * (k / 2) + 1 := by omega
  have := hr (k / 2)
  unfold roG at this
  rw [← e] at this
  exact Bool.eq_iff_iff.2 this
def lefts (g : Nat) : List Nat := (List.range g).filter fun i => g.testBit (2 * i)
def rights (g : Nat) : List Nat := (List.range g).filter fun i => g.testBit (2 * i + 1)
theorem memG_l : i ∈ lefts g ↔ loG g i := by
 unfold lefts
 rw [List.mem_filter, List.mem_range]
 exact ⟨fun h => h.2, fun h => ⟨loG.lt h, h⟩⟩
theorem memG_r : i ∈ rights g ↔ roG g i := by
 unfold rights
 rw [List.mem_filter, List.mem_range]
 exact ⟨fun h => h.2, fun h => ⟨roG.lt h, h⟩⟩
def bitsG : List Nat → Nat
 | [] => 0
 | k :: l => 2 ^ k ||| bitsG l
theorem sF {k : Nat} : ∀ {l : List Nat}, (bitsG l).testBit k = true ↔ k ∈ l
 | [] => by simp [bitsG]
 | x :: l => by
  unfold bitsG
  rw [Nat.testBit_or, Bool.or_eq_true, sF (l := l), Nat.testBit_two_pow]
  simp only [decide_eq_true_eq, List.mem_cons]
  constructor
  ·rintro (h | h)
   ·exact Or.inl h.symm
   ·exact Or.inr h
  ·rintro (h | h)
   ·exact Or.inl h.symm
   ·exact Or.inr h
def mkG (l r : List Nat) : Nat := bitsG (l.map (2 * ·) ++ r.map (2 * · + 1))
theorem lo_mk : loG (mkG l r) i ↔ i ∈ l := by
 unfold loG mkG
 rw [sF, List.mem_append, List.mem_map, List.mem_map]
 constructor
 ·rintro (⟨a, ha, e⟩ | ⟨a, ha, e⟩)
  ·have : a = i := by omega
   rwa [← this]
  ·omega
 ·exact fun h => Or.inl ⟨i, h, rfl⟩
theorem ro_mk : roG (mkG l r) i ↔ i ∈ r := by
 unfold roG mkG
 rw [sF, List.mem_append, List.mem_map, List.mem_map]
 constructor
 ·rintro (⟨a, ha, e⟩ | ⟨a, ha, e⟩)
  ·omega
  ·have : a = i := by omega
   rwa [← this]
 ·exact fun h => Or.inr ⟨i, h, rfl⟩
theorem rW {l' r' : List Nat} (hl : ∀ i, i ∈ l ↔ i ∈ l') (hr : ∀ i, i ∈ r ↔ i ∈ r') : mkG l r = mkG l' r' :=
 gext (fun i => by rw [lo_mk, lo_mk]; exact hl i) (fun i => by rw [ro_mk, ro_mk]; exact hr i)
def geG (a b : Nat) : Prop := (∀ r, (_h : roG a r) → ¬ geG b r) ∧ (∀ l, (_h : loG b l) → ¬ geG l a)
termination_by a + b
decreasing_by
 ·have := _h.lt; omega
 ·have := _h.lt; omega
theorem ge_iff : geG a b ↔ (∀ r, roG a r → ¬ geG b r) ∧ (∀ l, loG b l → ¬ geG l a) := by
 rw [geG]
theorem ge_refl (a : Nat) : geG a a := by
 induction a using Nat.strongRecOn with
 | _ a ih =>
  rw [ge_iff]
  refine ⟨fun r hr hg => ?_, fun l hl hg => ?_⟩
  ·exact (ge_iff.1 hg).1 r hr (ih r hr.lt)
  ·exact (ge_iff.1 hg).2 l hl (ih l hl.lt)
def eqG (a b : Nat) : Prop := geG a b ∧ geG b a
def negG (g : Nat) : Nat := mkG ((rights g).attach.map fun ⟨i, _h⟩ => negG i) ((lefts g).attach.map fun ⟨i, _h⟩ => negG i)
termination_by g
decreasing_by
 ·exact (memG_r.1 _h).lt
 ·exact (memG_l.1 _h).lt
def addG (a b : Nat) : Nat :=
 mkG (((lefts a).attach.map fun ⟨i, _h⟩ => addG i b) ++ (lefts b).attach.map fun ⟨i, _h⟩ => addG a i)
  (((rights a).attach.map fun ⟨i, _h⟩ => addG i b) ++ (rights b).attach.map fun ⟨i, _h⟩ => addG a i)
termination_by a + b
decreasing_by
 ·have := (memG_l.1 _h).lt; omega
 ·have := (memG_l.1 _h).lt; omega
 ·have := (memG_r.1 _h).lt; omega
 ·have := (memG_r.1 _h).lt; omega
def NoDom (g : Nat) : Prop := (∀ a b, loG g a → loG g b → geG a b → a = b) ∧ (∀ a b, roG g a → roG g b → geG a b → a = b)
def NoRev (g : Nat) : Prop := (∀ l r, loG g l → roG l r → ¬ geG g r) ∧ (∀ r l, roG g r → loG r l → ¬ geG l g)
def CanonG (g : Nat) : Prop := NoDom g ∧ NoRev g ∧ (∀ l, (_h : loG g l) → CanonG l) ∧ (∀ r, (_h : roG g r) → CanonG r)
termination_by g
decreasing_by
 ·exact _h.lt
 ·exact _h.lt
end Go.GL
namespace Go.GL
def stepD (acc : List Nat) (n : Nd) : List Nat := acc ++ [mkG (n.l.map fun z => acc.getD z.toNat 0) (n.r.map fun z => acc.getD z.toNat 0)]
def dens (ns : List Nd) : List Nat := ns.foldl stepD []
def den (ns : List Nd) (k : Nat) : Nat := (dens ns).getD k 0
theorem mI : ∀ (ns : List Nd) (acc : List Nat), (ns.foldl stepD acc).length = acc.length + ns.length
 | [], acc => by simp
 | n :: ns, acc => by rw [List.foldl_cons, mI ns]; simp [stepD]; omega
theorem eF : ∀ (ns : List Nd) (acc : List Nat) (k : Nat), k < acc.length → (ns.foldl stepD acc).getD k 0 = acc.getD k 0
 | [], acc, k, h => rfl
 | n :: ns, acc, k, h => by
  rw [List.foldl_cons, eF ns _ k (by simp [stepD]; omega)]
  exact yV h
variable {ns fs : List Nd} {k x : Nat} {bs l r : List Int}
theorem pX {ms : List Nd} (h : k < ns.length) : den (ns ++ ms) k = den ns k := by
 unfold den dens
 rw [List.foldl_append]
 exact eF _ _ _ (by rw [mI]; simpa using h)
theorem eO {m : Nat} (h : k < m) (hm : m ≤ ns.length) : den (ns.take m) k = den ns k := by
 have := pX (ns := ns.take m) (ms := ns.drop m) (k := k) (by simp; omega)
 rw [List.take_append_drop] at this
 exact this.symm
theorem den_at (hk : k < ns.length) (hl : ∀ z ∈ (ns.getD k default).l, 0 ≤ z ∧ z < k) (hr : ∀ z ∈ (ns.getD k default).r, 0 ≤ z ∧ z < k) :
  den ns k = mkG ((ns.getD k default).l.map fun z => den ns z.toNat) ((ns.getD k default).r.map fun z => den ns z.toNat) := by
 rw [← eO (m := k + 1) (by omega) (by omega), xT ns default hk]
 unfold den dens
 rw [List.foldl_append]
 have hlen : ((ns.take k).foldl stepD []).length = k := by rw [mI]; simp; omega
 have e0 : ∀ (A : List Nat) (n : Nd), List.foldl stepD A [n] = A ++ [mkG (n.l.map fun z => A.getD z.toNat 0) (n.r.map fun z => A.getD z.toNat 0)] := fun _ _ => rfl
 rw [e0, xI hlen.symm]
 have e : ∀ z : Int, 0 ≤ z ∧ z < k → (List.foldl stepD [] (ns.take k)).getD z.toNat 0 = (List.foldl stepD [] ns).getD z.toNat 0 := fun z hz => eO (ns := ns) (k := z.toNat) (m := k) (by omega) (by omega)
 rw [List.map_congr_left (g := fun z => (List.foldl stepD [] ns).getD z.toNat 0) fun z hz => e z (hl z hz)]
 rw [List.map_congr_left (l := (ns.getD k default).r) (g := fun z => (List.foldl stepD [] ns).getD z.toNat 0) fun z hz => e z (hr z hz)]
theorem jE (ho : OptsOk ns) (hk : k < ns.length) :
  den ns k = mkG ((ns.getD k default).l.map fun z => den ns z.toNat) ((ns.getD k default).r.map fun z => den ns z.toNat) := den_at hk (xJ ho hk).1 (xJ ho hk).2
theorem qK (ho : OptsOk ns) (hk : k < ns.length) : loG (den ns k) x ↔ ∃ z ∈ (ns.getD k default).l, x = den ns z.toNat := by
 rw [jE ho hk, lo_mk, List.mem_map]
 exact ⟨fun ⟨z, h1, h2⟩ => ⟨z, h1, h2.symm⟩, fun ⟨z, h1, h2⟩ => ⟨z, h1, h2.symm⟩⟩
theorem qJ (ho : OptsOk ns) (hk : k < ns.length) : roG (den ns k) x ↔ ∃ z ∈ (ns.getD k default).r, x = den ns z.toNat := by
 rw [jE ho hk, ro_mk, List.mem_map]
 exact ⟨fun ⟨z, h1, h2⟩ => ⟨z, h1, h2.symm⟩, fun ⟨z, h1, h2⟩ => ⟨z, h1, h2.symm⟩⟩
structure Ar (ns : List Nd) (bs : List Int) : Prop where
 ok : BookOk ns bs
 rise : ∀ i, i < ns.length → (ns.getD i default).l.Pairwise (· < ·) ∧ (ns.getD i default).r.Pairwise (· < ·)
 diff : Diff ns
 born : BirthsOf ns bs
theorem Ar.opts (h : Ar ns bs) : OptsOk ns := h.ok.optsOk
theorem Ar.empty : Ar [] [] := ⟨kH, fun i hi => absurd hi (Nat.not_lt_zero i), fun _ j _ hj => absurd hj (Nat.not_lt_zero j), rfl, fun k hk => absurd hk (Nat.not_lt_zero k)⟩
theorem fE {ns : List Nd} (ho : OptsOk ns) (hr : ∀ i, i < ns.length → (ns.getD i default).l.Pairwise (· < ·) ∧ (ns.getD i default).r.Pairwise (· < ·)) (hd : Diff ns) :
  ∀ (n i j : Nat), i + j ≤ n → i < ns.length → j < ns.length → den ns i = den ns j → i = j
 | 0, i, j, hn, _, _, _ => by omega
 | n + 1, i, j, hn, hi, hj, he => by
  have key : ∀ a b, a + b ≤ n + 1 → a < ns.length → b < ns.length → den ns a = den ns b → (∀ z ∈ (ns.getD a default).l, z ∈ (ns.getD b default).l) ∧ (∀ z ∈ (ns.getD a default).r, z ∈ (ns.getD b default).r) := by
   intro a b hab ha hb e
   have oa := xJ ho ha
   have ob := xJ ho hb
   constructor
   ·intro z hz
    have h1 : loG (den ns a) (den ns z.toNat) := (qK ho ha).2 ⟨z, hz, rfl⟩
    rw [e] at h1
    obtain ⟨y, hy, e2⟩ := (qK ho hb).1 h1
    have z1 := oa.1 z hz
    have y1 := ob.1 y hy
    have := fE ho hr hd n z.toNat y.toNat (by omega) (by omega) (by omega) e2
    have : z = y := by omega
    rwa [this]
   ·intro z hz
    have h1 : roG (den ns a) (den ns z.toNat) := (qJ ho ha).2 ⟨z, hz, rfl⟩
    rw [e] at h1
    obtain ⟨y, hy, e2⟩ := (qJ ho hb).1 h1
    have z1 := oa.2 z hz
    have y1 := ob.2 y hy
    have := fE ho hr hd n z.toNat y.toNat (by omega) (by omega) (by omega) e2
    have : z = y := by omega
    rwa [this]
  have k1 := key i j hn hi hj he
  have k2 := key j i (by omega) hj hi he.symm
  have el := fG (hr i hi).1 (hr j hj).1 fun z => ⟨k1.1 z, k2.1 z⟩
  have er := fG (hr i hi).2 (hr j hj).2 fun z => ⟨k1.2 z, k2.2 z⟩
  have e := rU el er
  rcases Nat.lt_trichotomy i j with h | h | h
  ·exact absurd e (hd i j h hj)
  ·exact h
  ·exact absurd e.symm (hd j i h hi)
theorem Ar.inj (h : Ar ns bs) {i j : Nat} (hi : i < ns.length) (hj : j < ns.length) (he : den ns i = den ns j) : i = j := fE h.opts h.rise h.diff _ i j (Nat.le_refl _) hi hj he
theorem nD {n : Int} : ∀ {l : List Int}, l.Pairwise (· < ·) → (putL l n).Pairwise (· < ·)
 | [], _ => by simp [putL]
 | x :: r, h => by
  have h' := List.pairwise_cons.1 h
  unfold putL
  split
  ·rename_i hx
   refine List.pairwise_cons.2 ⟨fun k hk => ?_, nD h'.2⟩
   rcases mem_putL.1 hk with rfl | hk
   ·exact hx
   ·exact h'.1 k hk
  ·split
   ·exact h
   ·rename_i h1 h2
    refine List.pairwise_cons.2 ⟨fun k hk => ?_, h⟩
    rcases List.mem_cons.1 hk with rfl | hk
    ·omega
    ·have := h'.1 k hk; omega
theorem jX (l : List Int) : (sortL l).Pairwise (· < ·) := by
 have key : ∀ (l a : List Int), a.Pairwise (· < ·) → (l.foldl putL a).Pairwise (· < ·) := by
  intro l
  induction l with
  | nil => intro a h; exact h
  | cons x r ih => intro a h; exact ih _ (nD h)
 exact key l [] List.Pairwise.nil
theorem tH {bs : List Int} {m : Int} : ∀ {l : List Int} {b : Int}, bornOf bs l b ≤ m ↔ b ≤ m ∧ ∀ k ∈ l, bs.getD k.toNat 0 + 1 ≤ m
 | [], b => by simp [bornOf]
 | x :: r, b => by
  have e : bornOf bs (x :: r) b = bornOf bs r (max b (bs.getD x.toNat 0 + 1)) := rfl
  rw [e, tH (l := r)]
  simp only [List.mem_cons, forall_eq_or_imp]
  constructor
  ·rintro ⟨h1, h2⟩; exact ⟨by omega, by omega, h2⟩
  ·rintro ⟨h1, h2, h3⟩; exact ⟨by omega, h3⟩
theorem putBorn_le {m : Int} : putBorn bs l r ≤ m ↔ 0 ≤ m ∧ (∀ k ∈ l, bs.getD k.toNat 0 + 1 ≤ m) ∧ ∀ k ∈ r, bs.getD k.toNat 0 + 1 ≤ m := by
 unfold putBorn
 rw [tH, tH, and_assoc]
theorem putBorn_sort : putBorn bs (sortL l) (sortL r) = putBorn bs l r := by
 apply Int.le_antisymm
 ·rw [putBorn_le]
  have := putBorn_le (bs := bs) (l := l) (r := r).1 (Int.le_refl _)
  exact ⟨this.1, fun k hk => this.2.1 k (mem_sortL.1 hk), fun k hk => this.2.2 k (mem_sortL.1 hk)⟩
 ·rw [putBorn_le]
  have := putBorn_le (bs := bs) (l := sortL l) (r := sortL r).1 (Int.le_refl _)
  exact ⟨this.1, fun k hk => this.2.1 k (mem_sortL.2 hk), fun k hk => this.2.2 k (mem_sortL.2 hk)⟩
theorem Ar.put {xs ys : List Int} (h : Ar ns bs) (hl : ns.length + 1 ≤ 1048576) (hls : xs.length ≤ 1048576 ∧ ys.length ≤ 1048576) (h1 : ∀ i, i < xs.length → 0 ≤ xs.getD i 0 ∧ xs.getD i 0 < ns.length) (h2 : ∀ i, i < ys.length → 0 ≤ ys.getD i 0 ∧ ys.getD i 0 < ns.length) :
  Ar (putN ns bs xs ys) (putB ns bs xs ys) ∧ den (putN ns bs xs ys) (putK ns bs xs ys).toNat = mkG (xs.map fun z => den ns z.toNat) (ys.map fun z => den ns z.toNat) ∧ ∀ k, k < ns.length → den (putN ns bs xs ys) k = den ns k := by
 have hb := h.ok.put hl hls h1 h2
 have hm1 := xQ (P := fun k => 0 ≤ k ∧ k < (ns.length : Int)) h1
 have hm2 := xQ (P := fun k => 0 ≤ k ∧ k < (ns.length : Int)) h2
 have hsort : ∀ (f : Int → Nat), mkG ((sortL xs).map f) ((sortL ys).map f) = mkG (xs.map f) (ys.map f) := fun f => rW
  (fun i => by simp only [List.mem_map, mem_sortL]) (fun i => by simp only [List.mem_map, mem_sortL])
 unfold putN putB putK at hb ⊢
 cases hf : findK ns bs (putNd xs ys) (putBorn bs xs ys) with
 | some k =>
  rw [hf] at hb
  simp only at hb ⊢
  have hmem := List.mem_of_find?_eq_some hf
  have hdec := List.find?_some hf
  have hk : k < ns.length := by simpa using hmem
  have hd : bs.getD k 0 = putBorn bs xs ys ∧ (ns.getD k default).l = sortL xs ∧ (ns.getD k default).r = sortL ys := of_decide_eq_true hdec
  refine ⟨h, ?_, fun k _ => by trivial⟩
  rw [Int.toNat_natCast, jE h.opts hk, hd.2.1, hd.2.2]
  exact hsort _
 | none =>
  rw [hf] at hb
  simp only at hb ⊢
  have hlen := h.ok.len
  have hnew : ∀ i, i < ns.length → ns.getD i default ≠ putNd xs ys := fun i hi e => by
   have hn := List.find?_eq_none.1 hf i (List.mem_range.2 hi)
   apply hn
   refine decide_eq_true ⟨?_, by rw [e], by rw [e]⟩
   rw [h.born.2 i hi, e]
   exact putBorn_sort
  have hat : ∀ i, i < ns.length → (ns ++ [putNd xs ys]).getD i default = ns.getD i default := fun i hi => yV hi
  have hself : (ns ++ [putNd xs ys]).getD ns.length default = putNd xs ys := xI rfl
  have hlast : ∀ i, i < (ns ++ [putNd xs ys]).length → i < ns.length ∨ i = ns.length := fun i hi => by simp at hi; omega
  have hbat : ∀ i, i < ns.length → (bs ++ [putBorn bs xs ys]).getD i 0 = bs.getD i 0 := fun i hi => yV (by omega)
  refine ⟨⟨hb.1, fun i hi => ?_, fun i j hij hj => ?_, by simp [hlen], fun k hk => ?_⟩, ?_, fun k hk => pX hk⟩
  ·rcases hlast i hi with hi' | rfl
   ·rw [hat i hi']; exact h.rise i hi'
   ·rw [hself]; exact ⟨jX _, jX _⟩
  ·rcases hlast j hj with hj' | rfl
   ·rw [hat i (by omega), hat j hj']; exact h.diff i j hij hj'
   ·rw [hat i hij, hself]; exact hnew i hij
  ·rcases hlast k hk with hk' | rfl
   ·have ho := xJ h.opts hk'
    rw [hat k hk', hbat k hk', h.born.2 k hk']
    exact jK (fun z hz => (hbat z.toNat (by have := ho.1 z hz; omega)).symm) (fun z hz => (hbat z.toNat (by have := ho.2 z hz; omega)).symm)
   ·rw [hself, xI hlen.symm]
    refine putBorn_sort.symm.trans (jK (fun z hz => (hbat z.toNat ?_).symm) (fun z hz => (hbat z.toNat ?_).symm))
    ·have := hm1 z (mem_sortL.1 hz); omega
    ·have := hm2 z (mem_sortL.1 hz); omega
  ·rw [Int.toNat_natCast, den_at (by simp) (by rw [hself]; exact fun z hz => hm1 z (mem_sortL.1 hz)) (by rw [hself]; exact fun z hz => hm2 z (mem_sortL.1 hz)), hself]
   have e : ∀ l : List Int, (∀ z ∈ l, 0 ≤ z ∧ z < (ns.length : Int)) → (sortL l).map (fun z => den (ns ++ [putNd xs ys]) z.toNat) = (sortL l).map fun z => den ns z.toNat := fun l hm =>
    List.map_congr_left fun z hz => pX (by have := hm z (mem_sortL.1 hz); omega)
   have e1 : (putNd xs ys).l = sortL xs := rfl
   have e2 : (putNd xs ys).r = sortL ys := rfl
   rw [e1, e2, e xs hm1, e ys hm2]
   exact hsort _
structure AddD (ns : List Nd) (fs : List Nd) (k : Nat) (s : List Int × List Nd × List Int) : Prop where
 ar : Ar s.2.1 s.2.2
 is : ∀ i, i < k → den s.2.1 (s.1.getD i 0).toNat = den fs i
 old : ∀ i, i < ns.length → den s.2.1 i = den ns i
theorem addM_den (h : Ar ns bs) (hf : FormOk fs) (hl : ns.length + fs.length ≤ 1048576) : ∀ k, k ≤ fs.length → AddD ns fs k (addM ns bs (fs.take k)) := by
 intro k
 induction k with
 | zero => intro _; exact ⟨h, fun i hi => absurd hi (Nat.not_lt_zero i), fun i _ => rfl⟩
 | succ k ih =>
  intro hk
  have ih := ih (by omega)
  have ha := addM_ok h.ok hf hl k (by omega)
  rw [jA (by omega)]
  generalize addM ns bs (fs.take k) = s at ih ha
  obtain ⟨asx, ns2, bs2⟩ := s
  have a1 := ha.at1 hf (show k < fs.length by omega)
  have hhi := ha.hi
  simp only at hhi
  have hp := ih.ar.put (xs := atL asx (fs.getD k default).l) (ys := atL asx (fs.getD k default).r) (by simp only; omega) (by have := hf.lens k (by omega); rw [xE, xE]; omega) (jW ha.places a1.1) (jW ha.places a1.2)
  have hlo := ha.lo
  have hal := ha.len
  simp only at hp ih hlo hal
  refine ⟨hp.1, fun i hi => ?_, fun i hi => ?_⟩
  ·show den (putN ns2 bs2 _ _) ((asx ++ [_]).getD i 0).toNat = den fs i
   by_cases he : i < k
   ·rw [yV (by omega), hp.2.2 _ (by have := ha.places i (by simp only; omega); simp only at this; omega)]
    exact ih.is i he
   ·have e : i = k := by omega
    subst e
    rw [xI hal.symm, hp.2.1, jE hf.opts (by omega)]
    have oo := xJ hf.opts (show i < fs.length by omega)
    have em : ∀ l : List Int, (∀ z ∈ l, 0 ≤ z ∧ z < (i : Int)) → (atL asx l).map (fun z => den ns2 z.toNat) = l.map fun z => den fs z.toNat := fun l hm => by
     unfold atL
     rw [List.map_map]
     exact List.map_congr_left fun z hz => ih.is z.toNat (by have := hm z hz; omega)
    rw [em _ oo.1, em _ oo.2]
  ·show den (putN ns2 bs2 _ _) i = den ns i
   rw [hp.2.2 i (by omega)]
   exact ih.old i hi
theorem Ar.add (h : Ar ns bs) (hf : FormOk fs) (hl : ns.length + fs.length ≤ 1048576) : AddD ns fs fs.length (addM ns bs fs) := by
 have := addM_den h hf hl fs.length (Nat.le_refl _)
 rwa [List.take_length] at this
def gOf (fs : List Nd) : Nat := den fs (fs.length - 1)
theorem Ar.root (h : Ar ns bs) (hf : FormOk fs) (h1 : 1 ≤ fs.length) (hl : ns.length + fs.length ≤ 1048576) : den (addM ns bs fs).2.1 (rootM ns bs fs).toNat = gOf fs := by
 unfold rootM gOf
 have ha := kV h.ok hf hl
 rw [ha.len]
 exact (h.add hf hl).is _ (by omega)
end Go.GL
namespace Go.GL
open Go Go.RowKit
def inO (x : Option Nat) (k : Nat) : Prop := x = some k
variable {x y : Int} {ns asx bs : List Nd} {i : Nat}
theorem notO {x y : Option Nat} (h : Apart x y) : ∀ k, x = some k → ¬ inO y k := fun k hx hy => h k hx hy
theorem jD {c : Nat} {y : Option Nat} (h : Apart (some c) y) : ¬ inO y c := fun hy => h c rfl hy
theorem xH {w : World} {x : Option Nat} : Lo w (inO x) x := fun _ hk => Or.inr hk
noncomputable def geB (ns : List Nd) (x y : Int) : Bool := decP (geG (den ns x.toNat) (den ns y.toNat))
theorem pR (ho : OptsOk ns) (hx : 0 ≤ x ∧ x < ns.length) (hi : i < (ns.getD x.toNat default).r.length) (h : geB ns y ((ns.getD x.toNat default).r.getD i 0) = true) : geB ns x y = false := by
 refine decP_false.2 fun g => (ge_iff.1 g).1 _ ((qJ ho (by omega)).2 ⟨_, yX (d := (0 : Int)) hi, rfl⟩) (decP_true.1 h)
theorem eD (ho : OptsOk ns) (hy : 0 ≤ y ∧ y < ns.length) (hi : i < (ns.getD y.toNat default).l.length) (h : geB ns ((ns.getD y.toNat default).l.getD i 0) x = true) : geB ns x y = false := by
 refine decP_false.2 fun g => (ge_iff.1 g).2 _ ((qK ho (by omega)).2 ⟨_, yX (d := (0 : Int)) hi, rfl⟩) (decP_true.1 h)
theorem geB_yes (ho : OptsOk ns) (hx : 0 ≤ x ∧ x < ns.length) (hy : 0 ≤ y ∧ y < ns.length) (h1 : ∀ i, i < (ns.getD x.toNat default).r.length → geB ns y ((ns.getD x.toNat default).r.getD i 0) = false) (h2 : ∀ i, i < (ns.getD y.toNat default).l.length → geB ns ((ns.getD y.toNat default).l.getD i 0) x = false) : geB ns x y = true := by
 refine decP_true.2 (ge_iff.2 ⟨fun r hr => ?_, fun l hl => ?_⟩)
 ·obtain ⟨z, hz, rfl⟩ := (qJ ho (by omega)).1 hr
  obtain ⟨i, hi, rfl⟩ := List.getElem_of_mem hz
  have e : (ns.getD x.toNat default).r.getD i 0 = (ns.getD x.toNat default).r[i] := by rw [List.getD, List.getElem?_eq_getElem hi]; rfl
  have := h1 i hi
  rw [e] at this
  exact decP_false.1 this
 ·obtain ⟨z, hz, rfl⟩ := (qK ho (by omega)).1 hl
  obtain ⟨i, hi, rfl⟩ := List.getElem_of_mem hz
  have e : (ns.getD y.toNat default).l.getD i 0 = (ns.getD y.toNat default).l[i] := by rw [List.getD, List.getElem?_eq_getElem hi]; rfl
  have := h2 i hi
  rw [e] at this
  exact decP_false.1 this
noncomputable def alB (asx bs : List Nd) : Bool := goodB asx && goodB bs && decP (geG (gOf asx) (gOf bs))
theorem pair_bad (h : goodB asx = false ∨ goodB bs = false) : (goodB asx && goodB bs) = false := by rcases h with h | h <;> simp [h]
theorem pair_good (ha : GoodP asx) (hb : GoodP bs) : (goodB asx && goodB bs) = true := by rw [goodB_true.2 ha, goodB_true.2 hb]; rfl
theorem alB_bad (h : goodB asx = false ∨ goodB bs = false) : alB asx bs = false ∧ (goodB asx && goodB bs) = false := by
 have e := pair_bad h; unfold alB; rw [e]; exact ⟨rfl, rfl⟩
theorem alB_good (ha : GoodP asx) (hb : GoodP bs) : alB asx bs = decP (geG (gOf asx) (gOf bs)) ∧ (goodB asx && goodB bs) = true := by
 have e := pair_good ha hb; unfold alB; rw [e]; exact ⟨rfl, rfl⟩
end Go.GL
namespace Go.GL
open Go Go.RowKit
section
variable {κ ν : Type} [DecidableEq κ]
def look (l : List (κ × ν)) (k : κ) : Option ν := (l.find? fun p => decide (p.1 = k)).map (·.2)
def putE : List (κ × ν) → κ → ν → List (κ × ν)
 | [], k, v => [(k, v)]
 | p :: r, k, v => if k = p.1 then (k, v) :: r else p :: putE r k v
def findE : List (κ × ν) → κ → Nat → Option (Nat × ν)
 | [], _, _ => none
 | p :: r, k, i => if k = p.1 then some (i, p.2) else findE r k (i + 1)
theorem fS (k : κ) : ∀ (l : List (κ × ν)) (i : Nat), (findE l k i).map (·.2) = look l k
 | [], _ => rfl
 | p :: r, i => by
  unfold findE look
  by_cases h : k = p.1
  ·rw [if_pos h, List.find?_cons_of_pos (by simp [h])]; rfl
  ·rw [if_neg h, List.find?_cons_of_neg (by simp [Ne.symm h])]; exact fS k r (i + 1)
theorem vT (p : κ × ν) (r : List (κ × ν)) (k : κ) : look (p :: r) k = if k = p.1 then some p.2 else look r k := by
 unfold look
 by_cases h : k = p.1
 ·rw [List.find?_cons_of_pos (by simp [h]), if_pos h]; rfl
 ·rw [List.find?_cons_of_neg (by simp [Ne.symm h]), if_neg h]
theorem kS (k k' : κ) (v : ν) : ∀ (l : List (κ × ν)), look (putE l k v) k' = if k' = k then some v else look l k'
 | [] => by
  unfold putE
  rw [vT]
 | p :: r => by
  unfold putE
  by_cases h : k = p.1
  ·rw [if_pos h, vT, vT]
   by_cases h2 : k' = k
   ·rw [if_pos h2, if_pos h2]
   ·rw [if_neg h2, if_neg h2, if_neg (by rw [← h]; exact h2)]
  ·rw [if_neg h, vT, vT, kS k k' v r]
   by_cases h2 : k' = p.1
   ·rw [if_pos h2, if_pos h2, if_neg (by rw [h2]; exact Ne.symm h)]
   ·rw [if_neg h2, if_neg h2]
theorem nF {k : κ} {v : ν} : ∀ {l : List (κ × ν)} {i : Nat}, findE l k i = none → putE l k v = l ++ [(k, v)]
 | [], _, _ => rfl
 | p :: r, i, h => by
  unfold findE at h
  split at h
  ·cases h
  ·rename_i hk
   unfold putE
   rw [if_neg hk, nF h]; rfl
theorem nE {k : κ} {v : ν} : ∀ {l : List (κ × ν)} {i j : Nat} {u : ν}, findE l k i = some (j, u) → i ≤ j ∧ (∃ p, l[j - i]? = some p ∧ p.1 = k) ∧ putE l k v = l.set (j - i) (k, v)
 | [], _, _, _, h => by cases h
 | p :: r, i, j, u, h => by
  unfold findE at h
  split at h
  ·rename_i hk
   simp only [Option.some.injEq, Prod.mk.injEq] at h
   obtain ⟨rfl, rfl⟩ := h
   refine ⟨Nat.le_refl _, ⟨p, by simp, hk.symm⟩, ?_⟩
   unfold putE
   rw [if_pos hk, Nat.sub_self]; rfl
  ·rename_i hk
   obtain ⟨h1, ⟨q, h2, h3⟩, h4⟩ := nE (v := v) h
   have e : j - i = (j - (i + 1)) + 1 := by omega
   refine ⟨by omega, ⟨q, by rw [e, List.getElem?_cons_succ]; exact h2, h3⟩, ?_⟩
   unfold putE
   rw [if_neg hk, h4, e]; rfl
theorem sS {μ : Type} {f : ν → μ} (k : κ) (v : ν) : ∀ (l : List (κ × ν)), putE (l.map fun p => (p.1, f p.2)) k (f v) = (putE l k v).map fun p => (p.1, f p.2)
 | [] => rfl
 | p :: r => by
  rw [List.map_cons]
  unfold putE
  by_cases h : k = p.1
  ·rw [if_pos h, if_pos h]; rfl
  ·rw [if_neg h, if_neg h, sS k v r]; rfl
end
structure KeyK {κ : Type} [DecidableEq κ] (P : Program) (kt : TypeId) (enc : κ → Value) : Prop where
 check : ∀ (b : Bool) (k : κ) (w : World), (Instr.checkKey b 10000 kt (enc k)).run P w = .ok () w
 find : ∀ (k : κ) (es : List MapEntry) (l : List (κ × Value)) (w : World), es.map (fun e => (e.key, e.val)) = l.map (fun p => (enc p.1, p.2)) → (Instr.findKey kt (enc k) es).run P w = .ok (findE l k 0) w
 same : ∀ (k : κ), Instr.sameBits 10000 (enc k) (enc k) = true
theorem ba_beq (a b : ByteArray) : (a == b) = decide (a = b) := by
 cases a with
 | mk x =>
  cases b with
  | mk y =>
   have e : ((⟨x⟩ : ByteArray) == ⟨y⟩) = (x == y) := rfl
   rw [e]
   by_cases h : x = y
   ·subst h; simp
   ·rw [decide_eq_false (by simpa using h)]
    simpa using h
section
variable {P : Program}
theorem check_int {kt : TypeId} (h : P.underlying kt = some (.int .i64)) (b : Bool) (n : Nat) (k : Int) (w : World) : (Instr.checkKey b (n + 1) kt (.int .i64 k)).run P w = .ok () w := by
 rw [Instr.checkKey]
 simp only [Sem.run_bind, run_underlying h, Result.andThen_ok]
 rfl
theorem check_str {kt : TypeId} (h : P.underlying kt = some .string) (b : Bool) (n : Nat) (k : ByteArray) (w : World) : (Instr.checkKey b (n + 1) kt (.string k)).run P w = .ok () w := by
 rw [Instr.checkKey]
 simp only [Sem.run_bind, run_underlying h, Result.andThen_ok]
 rfl
variable {e : TypeId}
theorem tA {w : World} {r : Nat} {es : Array MapEntry} {c : Nat} (h : w.heap[r]? = some (.map es c)) : (getObj r).run P w = .ok (.map es c) w := by simp [getObj, Sem.run, h]
theorem key_str {kt : TypeId} (h : P.underlying kt = some .string) : KeyK P kt (fun k : ByteArray => Value.string k) where
 check := fun b k w => check_str h b 9999 k w
 find := fun k es l w hl => by
  have key : ∀ (es : List MapEntry) (l : List (ByteArray × Value)) (i : Nat), es.map (fun e => (e.key, e.val)) = l.map (fun p => (Value.string p.1, p.2)) → Instr.findNow .string (.string k) es i = some (findE l k i) := by
   intro es
   induction es with
   | nil => intro l i hl; cases l with | nil => rfl | cons p r => cases hl
   | cons e r ih =>
    intro l i hl
    cases l with
    | nil => cases hl
    | cons p q =>
     simp only [List.map_cons, List.cons.injEq, Prod.mk.injEq] at hl
     obtain ⟨⟨h1, h2⟩, h3⟩ := hl
     unfold Instr.findNow findE
     rw [h1]
     simp only [Instr.sameNow, ba_beq]
     by_cases hk : k = p.1
     ·subst hk; simp [h2]
     ·rw [decide_eq_false hk, if_neg hk]
      exact ih q (i + 1) h3
  simp [Instr.findKey, run_underlying h, key es l 0 hl]
 same := fun k => by show Instr.sameBits (9999 + 1) _ _ = true; simp [Instr.sameBits, ba_beq]
theorem check_pair {kt : TypeId} (h : P.underlying kt = some (.array 2 e)) (he : P.underlying e = some (.int .i64)) (hs : (P.info? e).map (·.size) = some 1) (b : Bool) (n : Nat) (k : Int × Int) (w : World) :
  (Instr.checkKey b (n + 1 + 1) kt (.agg #[.int .i64 k.1, .int .i64 k.2])).run P w = .ok () w := by
 have ha : (P.underlying e).map aggD = some false := by rw [he]; rfl
 have hpart : ∀ (u v : Int) (i : Nat) (z : Int), (#[Value.int .i64 u, .int .i64 v] : Array Value)[i]? = some (.int .i64 z) → (part e #[.int .i64 u, .int .i64 v] i).run P w = .ok (.int .i64 z) w := fun u v i z hk => by
  unfold part
  simp only [Sem.run_bind, jF ha, Result.andThen_ok]
  simp [hk]
 have hin : ∀ z : Int, (Instr.checkKey b (n + 1) e (.int .i64 z)).run P w = .ok () w := fun z => check_int he b n z w
 rw [Instr.checkKey]
 simp only [Sem.run_bind, run_underlying h, Result.andThen_ok]
 simp [Std.Legacy.Range.forIn_eq_forIn_range', Std.Legacy.Range.size, List.range', xW hs, hpart k.1 k.2 0 k.1 rfl, hpart k.1 k.2 1 k.2 rfl, hin]
def encP2 (k : Int × Int) : Value := .agg #[.int .i64 k.1, .int .i64 k.2]
theorem gE {kt : TypeId} (h : P.underlying kt = some (.array 2 e)) (he : P.underlying e = some (.int .i64)) (hs : (P.info? e).map (·.size) = some 1) : KeyK P kt encP2 where
 check := fun b k w => check_pair h he hs b 9998 k w
 find := fun k es l w hl => by
  have hask : ∀ (es : List MapEntry) (l : List ((Int × Int) × Value)) (i : Nat), es.map (fun e => (e.key, e.val)) = l.map (fun p => (encP2 p.1, p.2)) → (Instr.findAsking kt (encP2 k) es i).run P w = .ok (findE l k i) w := by
   intro es
   induction es with
   | nil => intro l i hl; cases l with | nil => rfl | cons p r => cases hl
   | cons x r ih =>
    intro l i hl
    cases l with
    | nil => cases hl
    | cons p q =>
     simp only [List.map_cons, List.cons.injEq, Prod.mk.injEq] at hl
     obtain ⟨⟨h1, h2⟩, h3⟩ := hl
     have heq : (Op.equal kt (encP2 k) (encP2 p.1)).run P w = .ok (decide (k = p.1)) w := gS (w := w) 9998 h he hs
     unfold Instr.findAsking findE
     rw [h1]
     simp only [Sem.run_bind, heq, Result.andThen_ok]
     by_cases hk : k = p.1
     ·simp [hk, h2]
     ·simp only [hk, decide_false, if_false, Bool.false_eq_true]
      exact ih q (i + 1) h3
  unfold Instr.findKey
  simp only [Sem.run_bind, run_underlying h, Result.andThen_ok]
  match es, l, hl with
  | [], [], _ => rfl
  | x :: r, p :: q, hl =>
   have hx : x.key = encP2 p.1 := by simp only [List.map_cons, List.cons.injEq, Prod.mk.injEq] at hl; exact hl.1.1
   have : Instr.findNow (.array 2 e) (encP2 k) (x :: r) 0 = none := by
    unfold Instr.findNow
    rw [hx]; rfl
   rw [this]
   exact hask (x :: r) (p :: q) 0 hl
  | [], p :: q, hl => cases hl
  | x :: r, [], hl => cases hl
 same := fun k => by show Instr.sameBits (9998 + 1 + 1) _ _ = true; simp [encP2, Instr.sameBits]
end
structure Mp {κ ν : Type} (enc : κ → Value) (val : ν → Value) (w : World) (m : Nat) (l : List (κ × ν)) : Prop where
 heap : ∃ es clock, w.heap[m]? = some (.map es clock) ∧ es.toList.map (fun e => (e.key, e.val)) = l.map fun p => (enc p.1, val p.2)
section
variable {κ ν : Type} {enc : κ → Value} {val : ν → Value} {w w' : World} {m : Nat} {l : List (κ × ν)}
theorem Mp.lt (h : Mp enc val w m l) : m < w.heap.size := by
 obtain ⟨es, c, h1, _⟩ := h.heap
 exact (Array.getElem?_eq_some_iff.1 h1).1
theorem Mp.keep (h : Mp enc val w m l) (hb : w'.heap[m]? = w.heap[m]?) : Mp enc val w' m l := by
 obtain ⟨es, c, h1, h2⟩ := h.heap
 exact ⟨es, c, hb.trans h1, h2⟩
theorem Mp.below (h : Mp enc val w m l) (hb : Below w.heap.size w w') : Mp enc val w' m l := h.keep (hb.block m h.lt)
theorem Mp.kept {row : Option Nat} (h : Mp enc val w m l) (hg : w.grownBy w' row) (hne : Apart (some m) row) : Mp enc val w' m l :=
 h.keep (hg.block m h.lt fun e => hne m rfl e.symm)
theorem Mp.free {G : Pin} (h : Mp enc val w m l) (hP : Pins G w) : ∀ o u, ¬ G m o u := fun o u hg => by
 obtain ⟨es, c, h1, _⟩ := h.heap
 have := hP m o u hg
 simp [World.cell?, h1] at this
end
theorem yY {α : Type} {E : Elt α} {e : Nat} {G : Pin} {w : World} {base : Nat} {v : Value} {xs : List α} {κ ν : Type} {enc : κ → Value} {val : ν → Value} {m : Nat} {l : List (κ × ν)} (h : Mp enc val w m l) (ho : Own E e G w base v xs) : Apart (some m) v.ownBlock := fun k hk hv => by
 cases hk
 obtain ⟨es, c, h1, _⟩ := h.heap
 obtain ⟨cells, ⟨hl, hown⟩, hr⟩ := ho.ex
 rcases hown with ⟨rfl, _⟩ | ⟨g, cap, cur, rfl, _, hg, _⟩
 ·cases hv
 ·have : g = m := by simpa [Value.ownBlock] using hv
  subst this
  rw [h1] at hg; cases hg
theorem xL {G : Pin} {w : World} {b : Nat} {cs : List Value} {κ ν : Type} {enc : κ → Value} {val : ν → Value} {m : Nat} {l : List (κ × ν)} (h : Mp enc val w m l) (hb : Bx G w b cs) : Apart (some m) (some b) := fun k hk hv => by
 cases hk; cases hv
 obtain ⟨es, c, h1, _⟩ := h.heap
 obtain ⟨T, hT⟩ := hb.heap
 rw [h1] at hT; cases hT
section
variable {P : Program} {ρ : Operand → Value} {w : World} {K : Value → World → Prop} {d : Option Nat} {t kt et ty : Nat} {pos : String} {aft : Array Edge} {g : Option (Nat × Bool)} {x y z : Operand} {G : Pin}
 {κ ν : Type} [DecidableEq κ] {enc : κ → Value} {val : ν → Value} {m : Nat} {l : List (κ × ν)}
omit [DecidableEq κ] in
theorem vQ (enc : κ → Value) (val : ν → Value) (hP : Pins G w) (h : ∀ m w', m = w.heap.size → Mp enc val w' m [] → Pins G w' → Below w.heap.size w w' → K (.map (some m)) w') : EO P ρ ⟨d, .makeMap t none, ty, pos, aft, g⟩ w K := by
 have hb : Below w.heap.size w (w.alloc (.map #[] 0)) := (Below.refl _ _).alloc (Nat.le_refl _) _
 refine EO.run (v := .map (some w.heap.size)) (w' := w.alloc (.map #[] 0)) ?_ (h _ _ rfl ⟨#[], 0, ?_, rfl⟩ (hP.below hb) hb)
 ·simp [execOp, run_makeMap]
 ·exact heap_alloc_new w _
theorem sN (hk : KeyK P kt enc) (ht : P.underlying t = some (.map kt et)) {zv : Value} (hz : (P.info? et).bind (·.zero) = some zv) (hm : Mp enc val w m l) {k : κ} (hx : ρ x = .map (some m)) (hy : ρ y = enc k) :
  (execOp ρ ⟨d, .lookup t x y true, ty, pos, aft, g⟩).run P w = .ok (.value (.tuple #[((look l k).map val).getD zv, .bool (look l k).isSome])) w := by
 obtain ⟨es, c, h1, h2⟩ := hm.heap
 obtain ⟨it, hit, hzz⟩ := Option.bind_eq_some_iff.1 hz
 have hzv : (zeroValue et).run P w = .ok zv w := by simp [zeroValue, typeInfo, hit, hzz]
 have h2' : es.toList.map (fun e => (e.key, e.val)) = (l.map fun p => (p.1, val p.2)).map fun p => (enc p.1, p.2) := by rw [h2, List.map_map]; rfl
 have hf := hk.find k es.toList _ w h2'
 have hl : look (l.map fun p => (p.1, val p.2)) k = (look l k).map val := by
  unfold look
  rw [List.find?_map, Option.map_map, Option.map_map]; rfl
 have hfl := fS k (l.map fun p => (p.1, val p.2)) 0
 rw [hl] at hfl
 have hrun : (Instr.lookup t (.map (some m)) (enc k) true).run P w = .ok (.tuple #[((look l k).map val).getD zv, .bool (look l k).isSome]) w := by
  unfold Instr.lookup
  simp only [Sem.run_bind, run_underlying ht, Result.andThen_ok, tA h1, Sem.run_pure, hk.check, hf]
  cases hq : findE (l.map fun p => (p.1, val p.2)) k 0 with
  | none =>
   rw [hq] at hfl
   have hn : look l k = none := by
    cases hh : look l k with
    | none => rfl
    | some v => rw [hh] at hfl; cases hfl
   simp [hzv, hn]
  | some r =>
   rw [hq] at hfl
   cases hh : look l k with
   | none => rw [hh] at hfl; cases hfl
   | some v =>
    rw [hh] at hfl
    simp only [Option.map_some, Option.some.injEq] at hfl
    simp [hfl]
 simp [execOp, hx, hy, hrun]
theorem mP {l : List (κ × Int)} (hk : KeyK P kt enc) (ht : P.underlying t = some (.map kt et)) (hz : (P.info? et).bind (·.zero) = some (.int .i64 0)) (hm : Mp enc (fun v : Int => Value.int .i64 v) w m l) {k : κ} (hx : ρ x = .map (some m)) (hy : ρ y = enc k) :
  (execOp ρ ⟨d, .lookup t x y true, ty, pos, aft, g⟩).run P w = .ok (.value (.tuple #[.int .i64 ((look l k).getD 0), .bool (look l k).isSome])) w := by
 rw [sN hk ht hz hm hx hy]
 cases look l k <;> rfl
theorem rO {l : List (κ × Bool)} (hk : KeyK P kt enc) (ht : P.underlying t = some (.map kt et)) (hz : (P.info? et).bind (·.zero) = some (.bool false)) (hm : Mp enc (fun v : Bool => Value.bool v) w m l) {k : κ} (hx : ρ x = .map (some m)) (hy : ρ y = enc k) :
  (execOp ρ ⟨d, .lookup t x y true, ty, pos, aft, g⟩).run P w = .ok (.value (.tuple #[.bool ((look l k).getD false), .bool (look l k).isSome])) w := by
 rw [sN hk ht hz hm hx hy]
 cases look l k <;> rfl
theorem vJ (hk : KeyK P kt enc) (ht : P.underlying t = some (.map kt et)) {k : κ} {v : ν} (hx : ρ x = .map (some m)) (hy : ρ y = enc k) (hz : ρ z = val v) (hP : Pins G w) (hm : Mp enc val w m l)
  (h : ∀ w', Mp enc val w' m (putE l k v) → Pins G w' → w.grownBy w' (some m) → w'.heap.size = w.heap.size → K undef w') : EO P ρ ⟨d, .mapUpdate t x y z, ty, pos, aft, g⟩ w K := by
 obtain ⟨es, c, h1, h2⟩ := hm.heap
 have h2' : es.toList.map (fun e => (e.key, e.val)) = (l.map fun p => (p.1, val p.2)).map fun p => (enc p.1, p.2) := by rw [h2, List.map_map]; rfl
 have hf := hk.find k es.toList _ w h2'
 have hl : look (l.map fun p => (p.1, val p.2)) k = (look l k).map val := by
  unfold look
  rw [List.find?_map, Option.map_map, Option.map_map]; rfl
 have hfl := fS k (l.map fun p => (p.1, val p.2)) 0
 rw [hl] at hfl
 have hset : ∀ o : Obj, (setObj m o).run P w = .ok () { w with heap := w.heap.setIfInBounds m o } := fun o => by simp [setObj, Sem.run, h1]
 have hgrow : ∀ o : Obj, w.grownBy { w with heap := w.heap.setIfInBounds m o } (some m) := fun o =>
  ⟨rfl, rfl, rfl, by simp, fun j _ hj => by
   simp only [Array.getElem?_setIfInBounds]
   rw [if_neg (fun e => hj (by rw [e]))]⟩
 have hlt := hm.lt
 have hat : ∀ o : Obj, ({ w with heap := w.heap.setIfInBounds m o } : World).heap[m]? = some o := fun o => by
  simp [hlt]
 have hpins : ∀ o : Obj, Pins G { w with heap := w.heap.setIfInBounds m o } := fun o => hP.grown (hgrow o) (fun j hj o' u' => by cases hj; exact hm.free hP o' u')
 have fin : ∀ o : Obj, (Instr.mapUpdate t (.map (some m)) (enc k) (val v)).run P w = .ok () { w with heap := w.heap.setIfInBounds m o } → Mp enc val { w with heap := w.heap.setIfInBounds m o } m (putE l k v) → EO P ρ ⟨d, .mapUpdate t x y z, ty, pos, aft, g⟩ w K := fun o hr hmp =>
  EO.skip (w' := { w with heap := w.heap.setIfInBounds m o }) (by simp [execOp, hx, hy, hz, hr]) (h _ hmp (hpins o) (hgrow o) (by simp))
 have hpm := sS (f := val) k v l
 cases hq : findE (l.map fun p => (p.1, val p.2)) k 0 with
 | none =>
  rw [hq] at hf
  refine fin (.map (es.push { key := enc k, val := val v, born := c }) (c + 1)) ?_ ⟨_, _, hat _, ?_⟩
  ·unfold Instr.mapUpdate
   simp only [Sem.run_bind, run_underlying ht, Result.andThen_ok, tA h1, hk.check, hf, hset]
  ·rw [nF hq] at hpm
   have : (putE l k v).map (fun p => (enc p.1, val p.2)) = ((putE l k v).map fun p => (p.1, val p.2)).map fun p => (enc p.1, p.2) := by rw [List.map_map]; rfl
   rw [this, ← hpm, List.map_append, ← h2']
   simp
 | some r =>
  obtain ⟨i, u⟩ := r
  rw [hq] at hf
  obtain ⟨_, ⟨p, hp, hpk⟩, hset2⟩ := nE (v := val v) hq
  rw [Nat.sub_zero] at hp hset2
  have hei : (es.toList.map (fun e => (e.key, e.val)))[i]? = some (enc k, p.2) := by
   rw [h2', List.getElem?_map, hp]
   simp [hpk]
  obtain ⟨e, he, hek⟩ : ∃ e, es[i]? = some e ∧ e.key = enc k := by
   rw [List.getElem?_map] at hei
   cases hh : es.toList[i]? with
   | none => rw [hh] at hei; cases hei
   | some e =>
    rw [hh] at hei
    simp only [Option.map_some, Option.some.injEq, Prod.mk.injEq] at hei
    exact ⟨e, by rw [← Array.getElem?_toList]; exact hh, hei.1⟩
  have hstay : (Instr.keyThatStays (enc k) (enc k)).run P w = .ok (enc k) w := by
   unfold Instr.keyThatStays
   rw [if_pos (hk.same k)]; rfl
  refine fin (.map (es.modify i fun e => { e with key := enc k, val := val v }) c) ?_ ⟨_, _, hat _, ?_⟩
  ·unfold Instr.mapUpdate
   simp only [Sem.run_bind, run_underlying ht, Result.andThen_ok, tA h1, hk.check, hf, he, Option.map_some, Option.getD_some, hek, hstay, hset]
  ·have : (putE l k v).map (fun p => (enc p.1, val p.2)) = ((putE l k v).map fun p => (p.1, val p.2)).map fun p => (enc p.1, p.2) := by rw [List.map_map]; rfl
   rw [this, ← hpm, hset2, List.map_set, ← h2']
   rw [Array.toList_modify]
   apply List.ext_getElem?
   intro n
   simp only [List.getElem?_map, List.getElem?_set, List.getElem?_modify, List.length_map]
   by_cases hn : i = n
   ·subst hn
    have hlt2 : i < es.toList.length := by
     have := (Array.getElem?_eq_some_iff.1 he).1
     simpa using this
    have hlt3 : i < es.size := by simpa using hlt2
    simp [hlt3]
   ·simp [hn]
end
end Go.GL
namespace Go.GL
open Go Go.RowKit
section
variable {P : Program} {ρ : Operand → Value} {w : World} {d : Option Nat} {t ty t' : Nat} {pos : String} {aft : Array Edge} {g : Option (Nat × Bool)} {x y c : Operand}
 {v u : Value} {i j : Int} {k : IntKind} {G : Pin} {K : Value → World → Prop}
theorem tN {n : Int} (h : 0 ≤ n ∧ n ≤ 18446744073709551615) : IntKind.u64.wrap n = n := by
 unfold IntKind.wrap
 simp only [IntKind.bits, IntKind.signed]
 have : n % (2 : Int) ^ 64 = n := Int.emod_eq_of_lt h.1 (by omega)
 simp only [this, Bool.false_and]
 rfl
theorem wrapI {n : Int} (h : -9223372036854775808 ≤ n ∧ n ≤ 9223372036854775807) : IntKind.i64.wrap n = n := by
 simp [IntWalk.i64_in n h]
theorem r_subX (hx : ρ x = .int .u64 i) (hy : ρ y = .int .u64 j) (h : 0 ≤ i - j ∧ i - j ≤ 18446744073709551615) : (execOp ρ ⟨d, .binOp .sub t x y t', ty, pos, aft, g⟩).run P w = .ok (.value (.int .u64 (i - j))) w := by
 simp [execOp, hx, hy, binOp, eqGuard, Op.intArith, tN h]
theorem r_mulX (hx : ρ x = .int .u64 i) (hy : ρ y = .int .u64 j) (h : 0 ≤ i * j ∧ i * j ≤ 18446744073709551615) : (execOp ρ ⟨d, .binOp .mul t x y t', ty, pos, aft, g⟩).run P w = .ok (.value (.int .u64 (i * j))) w := by
 simp [execOp, hx, hy, binOp, eqGuard, Op.intArith, tN h]
theorem r_quoX (hx : ρ x = .int .u64 i) (hy : ρ y = .int .u64 j) (h0 : 0 ≤ i) (h1 : 0 < j) (h2 : i ≤ 18446744073709551615) : (execOp ρ ⟨d, .binOp .quo t x y t', ty, pos, aft, g⟩).run P w = .ok (.value (.int .u64 (i / j))) w := by
 have hj : j ≠ 0 := by omega
 have he : i.tdiv j = i / j := Int.tdiv_eq_ediv_of_nonneg h0
 have hle : i / j ≤ i := Int.ediv_le_self j h0
 have hge : 0 ≤ i / j := Int.ediv_nonneg h0 (by omega)
 simp [execOp, hx, hy, binOp, eqGuard, Op.intDiv, hj, he, tN (n := i / j) ⟨by omega, by omega⟩]
theorem pD (hx : ρ x = .int .u64 i) (hy : ρ y = .int .u64 j) : (execOp ρ ⟨d, .binOp .add t x y t', ty, pos, aft, g⟩).run P w = .ok (.value (.int .u64 (IntKind.u64.wrap (i + j)))) w := by
 simp [execOp, hx, hy, binOp, eqGuard, Op.intArith]
theorem r_mulU (hx : ρ x = .int .u64 i) (hy : ρ y = .int .u64 j) : (execOp ρ ⟨d, .binOp .mul t x y t', ty, pos, aft, g⟩).run P w = .ok (.value (.int .u64 (IntKind.u64.wrap (i * j)))) w := by
 simp [execOp, hx, hy, binOp, eqGuard, Op.intArith]
theorem r_shrU (hx : ρ x = .int .u64 i) (hy : ρ y = .int .u64 j) (h0 : 0 ≤ j) : (execOp ρ ⟨d, .binOp .shr t x y t', ty, pos, aft, g⟩).run P w = .ok (.value (.int .u64 (i.fdiv (2 ^ (min j.toNat 64))))) w := by
 simp [execOp, hx, hy, binOp, eqGuard, Op.shift, show ¬ j < 0 by omega, IntKind.bits]
def andW (k : IntKind) (i j : Int) : Int := k.wrap (BitVec.ofInt k.bits i &&& BitVec.ofInt k.bits j).toNat
theorem r_and (hx : ρ x = .int k i) (hy : ρ y = .int k j) : (execOp ρ ⟨d, .binOp .and t x y t', ty, pos, aft, g⟩).run P w = .ok (.value (.int k (andW k i j))) w := by
 simp [execOp, hx, hy, binOp, eqGuard, Op.intBits, andW]
theorem low8_lt (i : Int) : 0 ≤ andW .u64 i 255 ∧ andW .u64 i 255 ≤ 255 := by
 have h : (BitVec.ofInt 64 i &&& BitVec.ofInt 64 255).toNat ≤ 255 := by
  rw [BitVec.toNat_and]
  exact Nat.le_trans Nat.and_le_right (by decide)
 have e : andW .u64 i 255 = ((BitVec.ofInt 64 i &&& BitVec.ofInt 64 255).toNat : Int) := tN ⟨by omega, by show ((BitVec.ofInt 64 i &&& BitVec.ofInt 64 255).toNat : Int) ≤ _; omega⟩
 rw [e]; omega
variable {b e : Nat} {l : List UInt8}
theorem kB {t2 : Nat} {k2 : IntKind} {td : TypeDesc} (hs : P.underlying t = some td) (hd : P.underlying t2 = some (.int k2)) (hx : ρ x = .int k i) (hw : k2.wrap i = j) : (execOp ρ ⟨d, .convert t t2 x, ty, pos, aft, g⟩).run P w = .ok (.value (.int k2 j)) w := by
 subst hw
 simp [execOp, hx, convert, run_underlying hs, run_underlying hd, Conv.intToInt]
def arrV (l : List UInt8) : List Value := l.map fun x => .int .u8 x.toNat
theorem arrV_len (l : List UInt8) : (arrV l).length = l.length := by simp [arrV]
theorem o_stpk {k : Nat} {x0 : UInt8} (hs : (P.info? t).map (·.size) = some 1) (hx : ρ x = .pointer (some ⟨b, k, none⟩)) (hy : ρ y = .int .u8 (x0.toNat : Int)) (hk : k < l.length)
  (hP : Pins G w) (hb : Bx G w b (arrV l)) (h : ∀ w', Bx G w' b (arrV (l.set k x0)) → Pins G w' → w.grownBy w' (some b) → w'.heap.size = w.heap.size → K undef w') : EO P ρ ⟨d, .store t x y, ty, pos, aft, g⟩ w K :=
 o_stp (us := [.int .u8 (x0.toNat : Int)]) (cs := arrV l) (cs' := arrV (l.set k x0)) hs hx hy rfl (fun v hv => by simp at hv; subst hv; rfl) hP hb (by rw [arrV_len]; exact hk) (by
  unfold arrV
  rw [List.map_set, List.set_eq_take_append_cons_drop, if_pos (by simpa using hk), List.append_assoc]
  rfl) h
theorem name_arr {n : Nat} {z : Int} (hb : BxP G b (arrV l)) (hn : l.length = n) (hz : 0 ≤ z ∧ z < n) (hm : n ≤ 1000000) : ∃ v, RSl eByte G v (l.drop z.toNat) ∧
  ∀ {P : Program} {w : World} {d : Option Nat} {t ty e : Nat} {pos : String} {aft : Array Edge} {g : Option (Nat × Bool)} {x y : Operand} {ρ : Operand → Value} (_ : P.underlying t = some (.array n e)) (_ : (P.info? e).map (·.size) = some 1) (_ : ρ x = .pointer (some ⟨b, 0, none⟩)) (_ : ρ y = .int .i64 z),
   (execOp ρ ⟨d, .slice t x (some y) none none, ty, pos, aft, g⟩).run P w = .ok (.value v) w := by
 have hne : ¬ n = z.toNat := by omega
 refine ⟨.slice (some ⟨b, z.toNat, none⟩) (n - z.toNat) (n - z.toNat), ⟨⟨_, _, by rw [List.length_drop, hn], by rw [List.length_drop, hn]; exact Nat.le_refl _, by unfold maxLen; omega⟩, fun i q hi => ?_⟩, ?_⟩
 ·rw [List.getElem?_drop] at hi
  refine ⟨⟨b, z.toNat, none⟩, b, z.toNat + i, _, _, [.int .u8 (q.toNat : Int)], rfl, fun k => ?_, rfl, fun j u hj => ?_⟩
  ·show Addr.add ⟨b, z.toNat, none⟩ (i * 1 + k) = _
   by_cases h0 : i * 1 + k = 0
   ·have h1 : i = 0 := by omega
    have h2 : k = 0 := by omega
    subst h1 h2; rfl
   ·simp only [Addr.add, if_neg h0, Addr.mk.injEq, true_and, and_true]; omega
  ·have hj0 : j = 0 := by
    have := (List.getElem?_eq_some_iff.1 hj).1
    simpa using this
   subst hj0
   simp at hj
   subst hj
   exact hb _ _ (by unfold arrV; rw [Nat.add_zero, List.getElem?_map, hi]; rfl)
 ·intro P w d t ty e pos aft g x y ρ ht hs hx hy
  obtain ⟨inf, hinf, hsz⟩ := Option.map_eq_some_iff.1 hs
  have hzn : (z.toNat : Int) ≤ n := by omega
  simp only [execOp, hx, hy, Option.map, Instr.sliceAt, Sem.run_bind, run_underlying ht, Result.andThen_ok, Instr.sureAddr, Sem.run_pure]
  simp [Instr.sliceBounds, run_sliceBound, hz.1, show z ≤ (n : Int) by omega, sizeOf, typeInfo, hinf, hsz, hne, Addr.add]
  omega
theorem o_make0 {α : Type} {E : Elt α} {bytes : Nat} {z : Value} {n : Int} (ht : P.underlying t = some (.slice e)) (hi : (P.info? e).map (fun i => (i.size, i.bytes, i.zero)) = some (E.size, bytes, some z))
  (hx : ρ x = .int .i64 0) (hy : ρ y = .int .i64 n) (hP : Pins G w) (h0 : 0 ≤ n) (hb : (bytes : Int) * n ≤ 281474976710656) (hm : n ≤ 9223372036854775807)
  (h : ∀ v w', Own E e G w' w.heap.size v ([] : List α) → Pins G w' → Below w.heap.size w w' → v.ownBlock = some w.heap.size → K v w') : EO P ρ ⟨d, .makeSlice t x y, ty, pos, aft, g⟩ w K := by
 obtain ⟨inf, hinf, hsz⟩ := Option.map_eq_some_iff.1 hi
 simp only [Prod.mk.injEq] at hsz
 obtain ⟨hsz, hby, hz1⟩ := hsz
 have hr := _root_.Go.run_make (P := P) w t e inf z ht hinf hz1 .i64 .i64 0 n (Int.le_refl _) h0 (by rw [hby]; exact hb) hm
 have hbl : Below w.heap.size w (w.alloc (.cells (madeCells z.cells (n.toNat * inf.size)) e)) := (Below.refl _ _).alloc (Nat.le_refl _) _
 have hfree : ∀ k, Value.ownBlock (.slice (some ⟨w.heap.size, 0, none⟩) 0 n.toNat) = some k → ∀ o u, ¬ G k o u := by
  intro k hk o u hG
  simp [Value.ownBlock] at hk
  have := vC (hP _ _ _ hG); omega
 refine EO.run (v := .slice (some ⟨w.heap.size, 0, none⟩) 0 n.toNat) ?_ (h _ _ ⟨⟨[], ⟨by simp, Or.inr ⟨w.heap.size, n.toNat, madeCells z.cells (n.toNat * inf.size), rfl, Nat.le_refl _, heap_alloc_new w _, Nat.zero_le _, by unfold maxLen; omega, by rw [size_madeCells, hsz], by simp⟩⟩, fun i q hq => by simp at hq⟩, hfree⟩ (hP.below hbl) hbl rfl)
 simp only [execOp, hx, hy, Sem.run_bind, hr, Result.andThen_ok]
 rfl
def b2s (l : List UInt8) : ByteArray := ⟨l.toArray⟩
theorem sG {a b : List UInt8} (h : b2s a = b2s b) : a = b := by
 have := congrArg (fun x => x.data.toList) h
 simpa [b2s] using this
theorem nN : ∀ (l : List UInt8) (s : ByteArray), (l.map fun x => (x.toNat : Int)).foldl (fun r n => r.push (UInt8.ofNat n.toNat)) s = ⟨(s.data.toList ++ l).toArray⟩
 | [], s => by cases s; simp
 | x :: l, s => by
  rw [List.map_cons, List.foldl_cons, nN l]
  simp [ByteArray.push]
theorem r_b2s {xs : List UInt8} (ht : P.underlying t = some (.slice e)) (he : P.underlying e = some (.int .u8)) (hs : P.underlying t' = some .string) (hx : ρ x = v) (hv : RSl eByte G v xs) (hP : Pins G w) :
  (execOp ρ ⟨d, .convert t t' x, ty, pos, aft, g⟩).run P w = .ok (.value (.string (b2s xs))) w := by
 obtain ⟨a, cp, rfl, _, _⟩ := hv.sl
 have key : (Conv.bytesToString (.slice a xs.length cp)).run P w = .ok (.string (b2s xs)) w := by
  cases a with
  | none =>
   have h0 : xs = [] := by
    cases xs with
    | nil => rfl
    | cons q r =>
     obtain ⟨a', _, _, _, _, _, h1, _⟩ := hv.at_ 0 q rfl
     cases h1
   subst h0; rfl
  | some a =>
   have hcell : ∀ j q, (xs.map fun x => Value.int .u8 (x.toNat : Int))[j]? = some q → w.cell? (a.add j) = some q := fun j q hj => by
    rw [List.getElem?_map] at hj
    obtain ⟨y, hy, rfl⟩ := Option.map_eq_some_iff.1 hj
    obtain ⟨a', b, o, n, c', cs, h1, h2, h3, h4⟩ := hv.at_ j y hy
    simp only [Value.slice.injEq, Option.some.injEq] at h1
    obtain ⟨rfl, _, _⟩ := h1
    have h5 := h2 0
    simp only [eByte, Nat.mul_one, Nat.add_zero] at h5 h3
    rw [h5]
    exact hP _ _ _ (by have := h4 0 _ (by rw [h3]; rfl); simpa using this)
   have hl := run_loadCells_list (P := P) w a (xs.map fun x => Value.int .u8 (x.toNat : Int)) hcell
   rw [List.length_map] at hl
   have e0 : (xs.map fun x => Value.int .u8 (x.toNat : Int)) = (xs.map fun x => (x.toNat : Int)).map (Value.int .u8) := by rw [List.map_map]; rfl
   rw [e0] at hl
   rw [run_bytesToString w a xs.length cp _ hl, nN]
   simp [b2s]
 simp only [execOp, hx, convert, Sem.run_bind, run_underlying ht, run_underlying hs, Result.andThen_ok, run_underlying he, key]
 rfl
def digC (n : Nat) : UInt8 := if n < 10 then UInt8.ofNat (48 + n) else UInt8.ofNat (87 + n)
def digs36 : ByteArray := ⟨#[48, 49, 50, 51, 52, 53, 54, 55, 56, 57, 97, 98, 99, 100, 101, 102, 103, 104, 105, 106, 107, 108, 109, 110, 111, 112, 113, 114, 115, 116, 117, 118, 119, 120, 121, 122]⟩
theorem digs_at : ∀ n : Fin 36, digs36[n.val]? = some (digC n.val) := by decide
theorem r_digit (ht : P.underlying t = some .string) (hx : ρ x = .string digs36) (hy : ρ y = .int k i) (h : 0 ≤ i ∧ i < 36) : (execOp ρ ⟨d, .index t x y, ty, pos, aft, g⟩).run P w = .ok (.value (.int .u8 ((digC i.toNat).toNat : Int))) w := by
 have e := digs_at ⟨i.toNat, by omega⟩
 simp only at e
 simp [execOp, hx, hy, Instr.index, asIntOf, run_underlying ht, h.1, e]
end
theorem eM : ∀ a b : Fin 36, digC a.val = digC b.val → a = b := by decide
theorem eL : ∀ a : Fin 36, digC a.val ≠ 44 ∧ digC a.val ≠ 124 := by decide
def dig36 (n : Nat) : List UInt8 := if _h : n < 36 then [digC n] else dig36 (n / 36) ++ [digC (n % 36)]
termination_by n
decreasing_by omega
theorem kE {n : Nat} (h : n < 36) : dig36 n = [digC n] := by rw [dig36, dif_pos h]
theorem kT {n : Nat} (h : ¬ n < 36) : dig36 n = dig36 (n / 36) ++ [digC (n % 36)] := by rw [dig36, dif_neg h]
theorem pW (n : Nat) : 0 < (dig36 n).length := by
 by_cases h : n < 36
 ·rw [kE h]; simp
 ·rw [kT h]; simp
theorem dig_len : ∀ (k n : Nat), n < 36 ^ (k + 1) → (dig36 n).length ≤ k + 1
 | 0, n, h => by rw [kE (by simpa using h)]; simp
 | k + 1, n, h => by
  by_cases hn : n < 36
  ·rw [kE hn]; simp
  ·rw [kT hn]
   have := dig_len k (n / 36) (by rw [Nat.pow_succ] at h; omega)
   simp; omega
theorem dig13 {n : Nat} (h : n < 9223372036854775808) : (dig36 n).length ≤ 13 := by
 have h36 : (36 : Nat) ^ 13 = 170581728179578208256 := by decide
 exact dig_len 12 n (by omega)
theorem pV (n : Nat) : ∀ x ∈ dig36 n, x ≠ 44 ∧ x ≠ 124 := by
 induction n using Nat.strongRecOn with
 | _ n ih =>
  intro x hx
  by_cases h : n < 36
  ·rw [kE h] at hx; simp at hx; subst hx; exact eL ⟨n, h⟩
  ·rw [kT h] at hx
   rcases List.mem_append.1 hx with hx | hx
   ·exact ih _ (by omega) x hx
   ·simp at hx; subst hx; exact eL ⟨n % 36, by omega⟩
theorem dig_inj : ∀ (a b : Nat), dig36 a = dig36 b → a = b := by
 intro a
 induction a using Nat.strongRecOn with
 | _ a ih =>
  intro b h
  by_cases ha : a < 36 <;> by_cases hb : b < 36
  ·rw [kE ha, kE hb] at h
   have := eM ⟨a, ha⟩ ⟨b, hb⟩ (by simpa using h)
   simpa using this
  ·rw [kE ha, kT hb] at h
   have h1 := congrArg List.length h
   have := pW (b / 36)
   rw [List.length_append] at h1
   simp only [List.length_cons, List.length_nil] at h1; omega
  ·rw [kT ha, kE hb] at h
   have h1 := congrArg List.length h
   have := pW (a / 36)
   rw [List.length_append] at h1
   simp only [List.length_cons, List.length_nil] at h1; omega
  ·rw [kT ha, kT hb] at h
   obtain ⟨h1, h2⟩ := List.append_inj' h rfl
   have e1 := ih (a / 36) (by omega) _ h1
   have e2 := eM ⟨a % 36, by omega⟩ ⟨b % 36, by omega⟩ (by simpa using h2)
   simp at e2; omega
variable {u0 : Nat} {uz iz : Int} {L : List UInt8} {l : List Int}
theorem dig_step (hd : dig36 u0 = dig36 uz.toNat ++ L.drop iz.toNat) (hL : L.length = 65) (hu : 36 ≤ uz) (hi : 1 ≤ iz ∧ iz ≤ 65) :
  dig36 u0 = dig36 (uz / 36).toNat ++ (L.set (iz - 1).toNat (digC (uz - (uz / 36 * 36)).toNat)).drop (iz - 1).toNat := by
 have e1 : (uz / 36).toNat = uz.toNat / 36 := by omega
 have e2 : (uz - (uz / 36 * 36)).toNat = uz.toNat % 36 := by omega
 have e3 : iz.toNat = (iz - 1).toNat + 1 := by omega
 rw [hd, kT (by omega), e1, e2, e3, List.append_assoc]
 congr 1
 rw [List.drop_set, if_neg (by omega), Nat.sub_self, List.drop_eq_getElem_cons (by omega : (iz - 1).toNat < L.length)]
 rfl
theorem dig_last (hd : dig36 u0 = dig36 uz.toNat ++ L.drop iz.toNat) (hL : L.length = 65) (hu : ¬ 36 ≤ uz) (hi : 1 ≤ iz ∧ iz ≤ 65) :
  (L.set (iz - 1).toNat (digC uz.toNat)).drop (iz - 1).toNat = dig36 u0 := by
 have e3 : iz.toNat = (iz - 1).toNat + 1 := by omega
 rw [hd, kE (by omega), e3]
 rw [List.drop_set, if_neg (by omega), Nat.sub_self, List.drop_eq_getElem_cons (by omega : (iz - 1).toNat < L.length)]
 rfl
theorem dig_place (hd : dig36 u0 = dig36 uz.toNat ++ L.drop iz.toNat) (hL : L.length = 65) (h0 : u0 < 9223372036854775808) : 53 ≤ iz := by
  have h1 := congrArg List.length hd
  have h2 := pW uz.toNat
  have h3 := dig_len 12 u0 (by have : (36 : Nat) ^ 13 = 170581728179578208256 := by decide
                               omega)
  rw [List.length_append, List.length_drop] at h1
  omega
theorem not_pow36 : decide (andW .i64 36 (36 - 1) = (0 : Int)) = false := by decide
def keyL (l : List Int) : List UInt8 := l.flatMap fun z => dig36 z.toNat ++ [44]
def keyN (l r : List Int) : List UInt8 := keyL l ++ [124] ++ keyL r
theorem sZ {j : Nat} (h : j < l.length) : keyL (l.take (j + 1)) = keyL (l.take j) ++ dig36 (l.getD j 0).toNat ++ [44] := by
 rw [xT l 0 h]; simp [keyL]
theorem cut_at {s : UInt8} : ∀ {a b x y : List UInt8}, (∀ z ∈ a, z ≠ s) → (∀ z ∈ b, z ≠ s) → a ++ s :: x = b ++ s :: y → a = b ∧ x = y
 | [], [], _, _, _, _, h => by simpa using h
 | [], q :: b, _, _, _, hb, h => by simp at h; exact absurd h.1.symm (hb q List.mem_cons_self)
 | p :: a, [], _, _, ha, _, h => by simp at h; exact absurd h.1 (ha p List.mem_cons_self)
 | p :: a, q :: b, x, y, ha, hb, h => by
  simp only [List.cons_append, List.cons.injEq] at h
  obtain ⟨h1, h2⟩ := cut_at (a := a) (b := b) (fun z hz => ha z (List.mem_cons_of_mem _ hz)) (fun z hz => hb z (List.mem_cons_of_mem _ hz)) h.2
  exact ⟨by rw [h.1, h1], h2⟩
theorem gY (z : Int) (l : List Int) (x : List UInt8) : keyL (z :: l) ++ x = dig36 z.toNat ++ 44 :: (keyL l ++ x) := by simp [keyL]
theorem eA (l : List Int) : ∀ x ∈ keyL l, x ≠ 124 := fun x hx => by
 obtain ⟨z, _, hz⟩ := List.mem_flatMap.1 hx
 rcases List.mem_append.1 hz with hz | hz
 ·exact (pV _ x hz).2
 ·simp at hz; subst hz; decide
theorem mA : ∀ {a b : List Int}, (∀ z ∈ a, 0 ≤ z) → (∀ z ∈ b, 0 ≤ z) → keyL a = keyL b → a = b
 | [], [], _, _, _ => rfl
 | [], z :: b, _, _, h => by
  have := congrArg List.length h
  simp [keyL] at this
 | z :: a, [], _, _, h => by
  have := congrArg List.length h
  simp [keyL] at this
 | z :: a, y :: b, ha, hb, h => by
  have e1 := gY z a []
  have e2 := gY y b []
  rw [List.append_nil, List.append_nil] at e1 e2
  rw [e1, e2] at h
  obtain ⟨h1, h2⟩ := cut_at (fun q hq => (pV _ q hq).1) (fun q hq => (pV _ q hq).1) h
  have := dig_inj _ _ h1
  have z0 := ha z List.mem_cons_self; have y0 := hb y List.mem_cons_self
  rw [mA (fun q hq => ha q (List.mem_cons_of_mem _ hq)) (fun q hq => hb q (List.mem_cons_of_mem _ hq)) h2, show z = y by omega]
theorem rZ {a b c e : List Int} (ha : ∀ z ∈ a, 0 ≤ z) (hb : ∀ z ∈ b, 0 ≤ z) (hc : ∀ z ∈ c, 0 ≤ z) (he : ∀ z ∈ e, 0 ≤ z) (h : keyN a b = keyN c e) : a = c ∧ b = e := by
 unfold keyN at h
 rw [List.append_assoc, List.append_assoc] at h
 obtain ⟨h1, h2⟩ := cut_at (eA a) (eA c) h
 exact ⟨mA ha hc h1, mA hb he h2⟩
theorem key_len (h : ∀ z ∈ l, 0 ≤ z ∧ z < 9223372036854775808) : (keyL l).length ≤ 14 * l.length := by
  induction l with
  | nil => simp [keyL]
  | cons z l ih =>
    have e := gY z l []
    rw [List.append_nil] at e
    have h1 := h z List.mem_cons_self
    have := dig_len 12 z.toNat (by have : (36 : Nat) ^ 13 = 170581728179578208256 := by decide
                                   omega)
    have := ih fun y hy => h y (List.mem_cons_of_mem _ hy)
    rw [e]; simp; omega
theorem gP {w : World} {x y z : Option Nat} (h : Lo w (inO y) x) (ha : Apart z y) (hl : ∀ k, z = some k → k < w.heap.size) : Apart z x := fun k hz hx => by
 rcases h k hx with h1 | h1
 ·have := hl k hz; omega
 ·exact ha k hz h1
theorem pL {w0 w : World} {S : Nat → Prop} {x y : Option Nat} (h : Lo w (inO y) x) (hy : Lo w0 S y) (hs : w0.heap.size ≤ w.heap.size) : Lo w0 S x := fun k hk => by
 rcases h k hk with h1 | h1
 ·exact Or.inl (by omega)
 ·exact hy k h1
end Go.GL
namespace Go.GL
open Go Go.RowKit Go.Sort
variable {e base g cap : Nat} {G : Pin} {zs : List Int} {w' : World} {x : Int}
theorem nH {n : Nat} {w : World} (h : Own eInt e G w base (.slice (some ⟨g, 0, none⟩) n cap) zs) : n = zs.length ∧ g < w.heap.size ∧ zs.length ≤ cap ∧ Holds (Value.int .i64) w g 0 zs.toArray := by
 obtain ⟨cells, ⟨hl, hown⟩, hr⟩ := h.ex
 rcases hown with ⟨he, _⟩ | ⟨g', cap', cur, he, hb, hg, hnc, hcm, hcs, htake⟩
 ·cases he
 ·simp only [Value.slice.injEq, Option.some.injEq, Addr.mk.injEq] at he
  obtain ⟨⟨rfl, _⟩, rfl, rfl⟩ := he
  refine ⟨rfl, (Array.getElem?_eq_some_iff.1 hg).1, hnc, fun j hj => ?_⟩
  have hj' : j < zs.length := by simpa using hj
  have hz : zs[j]? = some zs[j] := List.getElem?_eq_getElem hj'
  have h1 := hr j _ hz
  have h2 : (List.drop (j * eInt.size) cells).take eInt.size = [.int .i64 zs[j]] := h1
  have h3 : cells[j]? = some (.int .i64 zs[j]) := by
   have := congrArg (fun l => l[0]?) h2
   simp only [List.getElem?_take, List.getElem?_drop] at this
   simpa [eInt] using this
  rw [← htake, List.getElem?_take] at h3
  split at h3
  ·have h4 : cur[j]? = some (.int .i64 zs[j]) := by simpa using h3
   refine ⟨?_, ?_⟩
   ·rw [cell_of_row w g _ cur e (0, 0) hg, Nat.zero_add, h4]
    simp [hj']
   ·simp [World.frozen?, hg]
  ·cases h3
theorem own_put {n : Nat} {w : World} {ys : List Int} {d : Array Int} {os : Array Obj} {m : Nat} (h : Own eInt e G w base (.slice (some ⟨g, 0, none⟩) n cap) zs) (hP : Pins G w)
  (hw : w' = grow (putRow (Value.int .i64) (Go.Sort.ahead w m) g 0 d) os) (hd : d.size = zs.length) (hy : d.toList.take ys.length = ys) : Own eInt e G w' base (.slice (some ⟨g, 0, none⟩) ys.length cap) ys ∧ Pins G w' ∧ w.grownBy w' (some g) := by
 obtain ⟨cells, ⟨hl, hown⟩, hr⟩ := h.ex
 have hfree := h.free
 rcases hown with ⟨he, _⟩ | ⟨g', cap', cur, he, hb, hg, hnc, hcm, hcs, htake⟩
 ·cases he
 ·simp only [Value.slice.injEq, Option.some.injEq, Addr.mk.injEq] at he
  obtain ⟨⟨rfl, _⟩, rfl, rfl⟩ := he
  have hlt : g < w.heap.size := (Array.getElem?_eq_some_iff.1 hg).1
  have hle : ys.length ≤ d.size := by
   have := congrArg List.length hy
   simp only [List.length_take, Array.length_toList] at this; omega
  have hh : w'.heap = w.heap.modify g (onCells (putCells (Value.int .i64) 0 d)) ++ os := by subst hw; rfl
  have hat : w'.heap[g]? = some (.cells (putCells (Value.int .i64) 0 d cur) e (0, 0)) := by
   rw [hh, Array.getElem?_append_left (by simpa using hlt), Array.getElem?_modify, if_pos rfl, hg]; rfl
  have hgr : w.grownBy w' (some g) := ⟨by subst hw; rfl, by subst hw; rfl, by subst hw; rfl, by rw [hh]; simp, fun k hk hne => by
   rw [hh, Array.getElem?_append_left (by simpa using hk), Array.getElem?_modify, if_neg (fun e => hne (by rw [e]))]⟩
  refine ⟨⟨⟨ys.map (Value.int .i64), ⟨by simp [eInt], Or.inr ⟨g, cap, _, rfl, hb, hat, by omega, hcm, by rw [putCells, Array.size_mapIdx, hcs], ?_⟩⟩, fun i x hx => ?_⟩, hfree⟩, hP.grown hgr (fun k hk => by cases hk; exact hfree g rfl), hgr⟩
  ·apply List.ext_getElem?
   intro j
   simp only [eInt, Nat.mul_one, List.getElem?_take, Array.getElem?_toList, putCells, Array.getElem?_mapIdx, List.getElem?_map]
   by_cases hj : j < ys.length
   ·have hjc : j < cur.size := by rw [hcs]; simp only [eInt]; omega
    rw [if_pos hj, Array.getElem?_eq_getElem hjc, Option.map_some, if_pos (by omega), List.getElem?_eq_getElem hj]
    simp only [Option.map_some, Nat.sub_zero, Option.some.injEq, Value.int.injEq, true_and]
    have h5 : ys[j]? = d[j]? := by
     have := congrArg (fun l => l[j]?) hy
     simp only [List.getElem?_take, if_pos hj, Array.getElem?_toList] at this
     exact this.symm
    rw [List.getElem?_eq_getElem hj, Array.getElem?_eq_getElem (show j < d.size by omega)] at h5
    rw [getElem!_pos d j (by omega)]
    simpa using h5.symm
   ·rw [if_neg hj, List.getElem?_eq_none (by omega)]; rfl
  ·show (List.drop (i * 1) (ys.map (Value.int .i64))).take 1 = [.int .i64 x]
   have hi := (List.getElem?_eq_some_iff.1 hx).1
   rw [Nat.mul_one, List.drop_eq_getElem_cons (by simpa using hi)]
   simp only [List.getElem_map, List.take_succ_cons, List.take_zero, List.cons.injEq, and_true, Value.int.injEq, true_and]
   rw [List.getElem?_eq_getElem hi] at hx
   simpa using hx
theorem Ext.one {w : World} {x : Option Nat} (hP : Pins G w') (hg : w.grownBy w' x) : Ext (inO x) G w G w' :=
 ⟨Pin.le_refl _, hP, fun _ _ _ h => Or.inl h, hg.os, hg.tape, hg.output, hg.size, fun k hk hs => hg.block k hk fun e => hs e.symm⟩
def sortM (zs : List Int) : List Int := zs.mergeSort fun x y => decide (x ≤ y)
theorem sortM_pw (zs : List Int) : (sortM zs).Pairwise (· ≤ ·) := by
 have := List.pairwise_mergeSort (le := fun x y : Int => decide (x ≤ y)) (fun a b c h1 h2 => by simp at *; omega) (fun a b => by simp; omega) zs
 exact this.imp fun h => by simpa using h
theorem mem_sortM : x ∈ sortM zs ↔ x ∈ zs := List.mem_mergeSort
theorem jB (zs : List Int) : (sortM zs).length = zs.length := List.length_mergeSort _
theorem eQ : x ∈ Lib.compact zs ↔ x ∈ zs := by
 unfold Lib.compact Lib.compactUpTo
 rw [List.mem_map]
 constructor
 ·rintro ⟨j, hj, rfl⟩
  have := List.mem_range.1 (List.mem_filter.1 hj).1
  simp [this]
 ·intro hx
  have key : ∀ j, j < zs.length → zs.getD j 0 = x → ∃ i, i ∈ (List.range zs.length).filter (Lib.keeps zs.toArray) ∧ zs.toArray[i]! = x := by
   intro j
   induction j with
   | zero => intro h1 h2; exact ⟨0, List.mem_filter.2 ⟨List.mem_range.2 h1, by simp [Lib.keeps]⟩, by simpa [List.getD, h1] using h2⟩
   | succ j ih =>
    intro h1 h2
    by_cases he : zs.getD j 0 = x
    ·exact ih (by omega) he
    ·refine ⟨j + 1, List.mem_filter.2 ⟨List.mem_range.2 h1, ?_⟩, by simpa [List.getD, h1] using h2⟩
     unfold Lib.keeps
     refine decide_eq_true (Or.inr ?_)
     have e1 : zs.toArray[j + 1]! = x := by simpa [List.getD, h1] using h2
     have e2 : zs.toArray[j + 1 - 1]! = zs.getD j 0 := by simp [List.getD, show j < zs.length by omega]
     rw [e1, e2]; exact fun e => he e.symm
  obtain ⟨j, hj, e⟩ := List.getElem_of_mem hx
  exact key j hj (by simp [List.getD, hj, e])
theorem compact_pw (h : zs.Pairwise (· ≤ ·)) : (Lib.compact zs).Pairwise (· < ·) := by
 unfold Lib.compact Lib.compactUpTo
 rw [List.pairwise_map]
 have hs : ∀ i j, i ≤ j → j < zs.length → zs.toArray[i]! ≤ zs.toArray[j]! := fun i j hij hj => by
  have e1 : zs.toArray[i]! = zs[i]'(by omega) := by simp [show i < zs.length by omega]
  have e2 : zs.toArray[j]! = zs[j] := by simp [hj]
  rw [e1, e2]
  by_cases he : i = j
  ·subst he; exact Int.le_refl _
  ·exact List.pairwise_iff_getElem.1 h i j (by omega) hj (by omega)
 refine (List.Pairwise.filter _ List.pairwise_lt_range).imp_of_mem ?_
 intro a b ha hb hab
 have hb1 := List.mem_filter.1 hb
 have hbl := List.mem_range.1 hb1.1
 have hk := of_decide_eq_true hb1.2
 rcases hk with hk | hk
 ·omega
 ·have h1 := hs a (b - 1) (by omega) (by omega)
  have h2 := hs (b - 1) b (by omega) hbl
  omega
theorem tT (zs : List Int) : Lib.compact (sortM zs) = sortL zs :=
 fG (compact_pw (sortM_pw zs)) (jX zs) fun z => by rw [eQ, mem_sortM, mem_sortL]
theorem tV (zs : List Int) : (Lib.compact zs).length ≤ zs.length := by
 unfold Lib.compact Lib.compactUpTo
 rw [List.length_map]
 exact Nat.le_trans (List.length_filter_le _ _) (by simp)
theorem nI {w : World} {v : Value} (h : Own eInt e G w base v zs) : (v = .slice none 0 0 ∧ zs = []) ∨ ∃ g cap, v = .slice (some ⟨g, 0, none⟩) zs.length cap := by
 obtain ⟨cells, ⟨hl, hown⟩, hr⟩ := h.ex
 rcases hown with ⟨rfl, h0⟩ | ⟨g, cap, cur, rfl, _⟩
 ·exact Or.inl ⟨rfl, List.eq_nil_of_length_eq_zero h0⟩
 ·exact Or.inr ⟨g, cap, rfl⟩
end Go.GL
namespace Go.GL
structure SG (ns : List Nd) : Prop where
 lo : 1 ≤ ns.length
 wf : Wf ns
 srt : SortedB ns (births ns)
 last : ∀ k : Nat, k + 1 < ns.length → ∃ j, k < j ∧ j < ns.length ∧ ((k : Int) ∈ (ns.getD j default).l ∨ (k : Int) ∈ (ns.getD j default).r)
variable {l bs : List Int} {hi : Int} {ns : List Nd} {m z : Nat}
theorem rise_pw (h : l.Pairwise (· < ·)) (hb : ∀ z ∈ l, 0 ≤ z ∧ z ≤ hi) : Rise l 0 hi := fun i hi' => by
 refine ⟨hb _ (yX hi'), fun h0 => ?_⟩
 have := List.pairwise_iff_getElem.1 h (i - 1) i (by omega) hi' (by omega)
 simpa [List.getD, hi', show i - 1 < l.length by omega] using this
theorem pw_rise {lo : Int} (h : Rise l lo hi) : l.Pairwise (· < ·) := by
 rw [List.pairwise_iff_getElem]
 intro i j hi hj hij
 have key : ∀ j, i < j → j < l.length → l.getD i 0 < l.getD j 0 := by
  intro j
  induction j with
  | zero => intro h0; omega
  | succ j ih =>
   intro h1 h2
   have a := (h (j + 1) h2).2 (by omega)
   simp only [Nat.add_sub_cancel] at a
   by_cases he : i = j
   ·subst he; exact a
   ·have := ih (by omega) (by omega); omega
 have := key j hij hj
 simpa [List.getD, hi, hj] using this
theorem SG.opts (h : SG ns) : OptsOk ns := h.wf.ok.opts
theorem SG.pw (h : SG ns) : ∀ i, i < ns.length → (ns.getD i default).l.Pairwise (· < ·) ∧ (ns.getD i default).r.Pairwise (· < ·) := fun i hi => ⟨pw_rise (h.wf.rise i hi).1, pw_rise (h.wf.rise i hi).2⟩
theorem SG.diff (h : SG ns) : Diff ns := fun i j hij hj he => by
 have hb := qG h.opts
 rcases h.srt i j hij hj with h1 | ⟨_, h1⟩
 ·rw [hb.2 i (by omega), hb.2 j hj, he] at h1; omega
 ·rw [ahead_zero.2 he] at h1; omega
theorem SG.inj (h : SG ns) {i j : Nat} (hi : i < ns.length) (hj : j < ns.length) (he : den ns i = den ns j) : i = j := fE h.opts h.pw h.diff _ i j (Nat.le_refl _) hi hj he
theorem kO {k : Nat} : ∀ {l : List Int} {is : List Bool}, (setAll is l).getD k false = true → is.getD k false = true ∨ ∃ z ∈ l, z.toNat = k
 | [], _, h => Or.inl h
 | x :: l, is, h => by
  rcases kO (l := l) (is := is.set x.toNat true) h with h1 | ⟨z, hz, e⟩
  ·by_cases he : x.toNat = k
   ·exact Or.inr ⟨x, List.mem_cons_self, he⟩
   ·rw [qB he] at h1; exact Or.inl h1
  ·exact Or.inr ⟨z, List.mem_cons_of_mem _ hz, e⟩
theorem sK {ns : List Nd} {k : Nat} : ∀ {q : Nat} {is : List Bool}, (ugo ns q is).getD k false = true → is.getD k false = true ∨ ∃ j, j < q ∧ (ugo ns q is).getD j false = true ∧ ∃ z, (z ∈ (ns.getD j default).l ∨ z ∈ (ns.getD j default).r) ∧ z.toNat = k
 | 0, _, h => Or.inl h
 | q + 1, is, h => by
  rcases sK (q := q) (is := ustep ns is q) h with h1 | ⟨j, hj, h2, h3⟩
  ·by_cases hq : is.getD q false = true
   ·rw [kY hq] at h1
    have hm : (ugo ns (q + 1) is).getD q false = true := kM hq
    rcases kO h1 with h1 | ⟨z, hz, e⟩
    ·rcases kO h1 with h1 | ⟨z, hz, e⟩
     ·exact Or.inl h1
     ·exact Or.inr ⟨q, by omega, hm, z, Or.inl hz, e⟩
    ·exact Or.inr ⟨q, by omega, hm, z, Or.inr hz, e⟩
   ·rw [rG (by simpa using hq)] at h1; exact Or.inl h1
  ·exact Or.inr ⟨j, by omega, h2, h3⟩
theorem rQ {k : Nat} (h : (reachM ns m).getD k false = true) : k = m ∨ ∃ j, j ≤ m ∧ (reachM ns m).getD j false = true ∧ ∃ z, (z ∈ (ns.getD j default).l ∨ z ∈ (ns.getD j default).r) ∧ z.toNat = k := by
 unfold reachM at h ⊢
 rcases sK h with h1 | ⟨j, hj, h2⟩
 ·left
  by_cases he : m = k
  ·exact he.symm
  ·rw [qB he] at h1
   simp [List.getD, List.getElem?_replicate] at h1
   split at h1 <;> simp at h1
 ·exact Or.inr ⟨j, by omega, h2⟩
theorem reach_self : (reachM ns m).getD m false = true := by
 unfold reachM
 exact kM (by simp [List.getD])
theorem pC (ho : OptsOk ns) (hm : m < ns.length) (hz : z ≤ m) (hu : (reachM ns m).getD z false = true) :
  (∀ o ∈ (ns.getD z default).l, (reachM ns m).getD o.toNat false = true) ∧ (∀ o ∈ (ns.getD z default).r, (reachM ns m).getD o.toNat false = true) :=
 rI ho (by omega) (by simp) z (by omega) hu
theorem lower_of (ho : OptsOk ns) (hb : BirthsOf ns bs) : Lower ns bs := fun z hz => by
 have hb := hb.2 z hz
 have o := xJ ho hz
 have h1 := kG (bs := bs) (l := (ns.getD z default).r) (b := bornOf bs (ns.getD z default).l 0)
 have h2 := kG (bs := bs) (l := (ns.getD z default).l) (b := 0)
 unfold putBorn at hb
 exact ⟨fun x hx => by have := o.1 x hx; have := h2.2 x hx; omega, fun x hx => by have := o.2 x hx; have := h1.2 x hx; omega⟩
theorem sC (hb : BirthsOf ns bs) (hz : z < ns.length) : 0 ≤ bs.getD z 0 := by
 rw [hb.2 z hz]
 exact (putBorn_le.1 (Int.le_refl _)).1
theorem tI {bs bs' A : List Int} : ∀ {l : List Int} {b : Int}, (∀ o ∈ l, bs'.getD (A.getD o.toNat 0).toNat 0 = bs.getD o.toNat 0) → bornOf bs' (atL A l) b = bornOf bs l b
 | [], _, _ => rfl
 | x :: l, b, h => by
  show bornOf bs' (atL A l) (max b (bs'.getD (A.getD x.toNat 0).toNat 0 + 1)) = bornOf bs l (max b (bs.getD x.toNat 0 + 1))
  rw [h x List.mem_cons_self]
  exact tI fun o ho => h o (List.mem_cons_of_mem _ ho)
theorem mem_atL {A : List Int} {x : Int} : x ∈ atL A l ↔ ∃ o ∈ l, A.getD o.toNat 0 = x := by simp [atL]
theorem pT (h : Ar ns bs) (hm : m < ns.length) : SG (formM ns bs m) ∧ gOf (formM ns bs m) = den ns m ∧ (formM ns bs m).length ≤ m + 1 := by
  have ho := h.opts
  have hlw := lower_of ho h.born
  have hlen : (formM ns bs m).length ≤ m + 1 := by
    unfold formM
    rw [mG]
    exact Nat.le_trans List.countP_le_length (by simp)
  have hlim := h.ok.lim
  obtain ⟨fa, go⟩ := go_ok (need := reachM ns m) hlw (show m + 1 ≤ ns.length by omega) ((bs.getD m 0).toNat + 1)
  have hbm := sC h.born hm
  unfold formM at hlen ⊢
  generalize formGo ns bs (reachM ns m) (m + 1) ((bs.getD m 0).toNat + 1) = s at go hlen
  obtain ⟨A, out⟩ := s
  have hmap : out = fa.map (ndz ns A) := go.map
  have hpos : ∀ p, p < fa.length → A.getD (fa.getD p 0).toNat 0 = p := go.pos
  have hN : out.length = fa.length := by rw [hmap]; simp
  simp only at hlen ⊢
  have hget : ∀ p, p < fa.length → out.getD p default = ndz ns A (fa.getD p 0) := fun p hp => by rw [hmap]; simp [List.getD, hp]
  have hmem : ∀ p, p < fa.length → 0 ≤ fa.getD p 0 ∧ fa.getD p 0 ≤ m ∧ (reachM ns m).getD (fa.getD p 0).toNat false = true ∧ bs.getD (fa.getD p 0).toNat 0 ≤ bs.getD m 0 := fun p hp => by
    have h1 := go.mem _ (yX (d := (0 : Int)) hp)
    exact ⟨h1.1, by omega, go.nd _ (yX hp), by omega⟩
  have hfind : ∀ z : Nat, z ≤ m → (reachM ns m).getD z false = true → bs.getD z 0 ≤ bs.getD m 0 → ∃ p, p < fa.length ∧ fa.getD p 0 = z ∧ A.getD z 0 = p := fun z hz h1 h2 => by
    obtain ⟨p, hp, e⟩ := List.getElem_of_mem (go.all z (by omega) h1 (sC h.born (by omega)) (by omega))
    have e2 : fa.getD p 0 = z := by simp [List.getD, hp, e]
    have := hpos p hp
    rw [e2] at this
    exact ⟨p, hp, e2, by simpa using this⟩
  have hord : ∀ p p', p < p' → p' < fa.length → bs.getD (fa.getD p 0).toNat 0 < bs.getD (fa.getD p' 0).toNat 0 ∨ (bs.getD (fa.getD p 0).toNat 0 = bs.getD (fa.getD p' 0).toNat 0 ∧ aheadI (ndz ns A (fa.getD p 0)) (ndz ns A (fa.getD p' 0)) ≤ 0) := fun p p' hpp hp' => by
    have := List.pairwise_iff_getElem.1 go.order p p' (by omega) hp' hpp
    simpa [List.getD, hp', show p < fa.length by omega] using this
  have hopt : ∀ p, p < fa.length → (∀ o ∈ (ns.getD (fa.getD p 0).toNat default).l, 0 ≤ o ∧ ∃ p', p' < p ∧ fa.getD p' 0 = o ∧ A.getD o.toNat 0 = p') ∧ (∀ o ∈ (ns.getD (fa.getD p 0).toNat default).r, 0 ≤ o ∧ ∃ p', p' < p ∧ fa.getD p' 0 = o ∧ A.getD o.toNat 0 = p') := fun p hp => by
    have hm1 := hmem p hp
    have hl1 := hlw (fa.getD p 0).toNat (by omega)
    have hc := pC ho hm (z := (fa.getD p 0).toNat) (by omega) hm1.2.2.1
    have key : ∀ o : Int, 0 ≤ o → o < (fa.getD p 0).toNat → bs.getD o.toNat 0 < bs.getD (fa.getD p 0).toNat 0 → (reachM ns m).getD o.toNat false = true → ∃ p', p' < p ∧ fa.getD p' 0 = o ∧ A.getD o.toNat 0 = p' := fun o h0 h1 h2 h3 => by
      obtain ⟨p', hp', e1, e2⟩ := hfind o.toNat (by omega) h3 (by omega)
      have e1' : fa.getD p' 0 = o := by omega
      refine ⟨p', ?_, e1', e2⟩
      by_cases hlt : p' < p
      · exact hlt
      · by_cases he : p' = p
        · subst he; omega
        · rcases hord p p' (by omega) hp' with h4 | ⟨h4, _⟩ <;> rw [e1'] at h4 <;> omega
    exact ⟨fun o hox => by have := hl1.1 o hox; exact ⟨this.1, key o this.1 this.2.1 this.2.2 (hc.1 o hox)⟩, fun o hox => by have := hl1.2 o hox; exact ⟨this.1, key o this.1 this.2.1 this.2.2 (hc.2 o hox)⟩⟩
  have hlists : ∀ p, p < fa.length → (out.getD p default).l = sortL (atL A (ns.getD (fa.getD p 0).toNat default).l) ∧ (out.getD p default).r = sortL (atL A (ns.getD (fa.getD p 0).toNat default).r) := fun p hp => by
    rw [hget p hp]; exact ⟨rfl, rfl⟩
  have hbnd : ∀ p, p < fa.length → (∀ z ∈ (out.getD p default).l, 0 ≤ z ∧ z < (p : Int)) ∧ (∀ z ∈ (out.getD p default).r, 0 ≤ z ∧ z < (p : Int)) := fun p hp => by
    have h1 := hopt p hp
    rw [(hlists p hp).1, (hlists p hp).2]
    constructor
    · intro z hz
      obtain ⟨o, hox, e⟩ := mem_atL.1 (mem_sortL.1 hz)
      obtain ⟨_, p', h2, _, e2⟩ := h1.1 o hox
      omega
    · intro z hz
      obtain ⟨o, hox, e⟩ := mem_atL.1 (mem_sortL.1 hz)
      obtain ⟨_, p', h2, _, e2⟩ := h1.2 o hox
      omega
  have hoo : OptsOk out := fun i n hn => by
    obtain ⟨hi, rfl⟩ := List.getElem?_eq_some_iff.1 hn
    have := hbnd i (by omega)
    have e : out.getD i default = out[i] := by simp [List.getD, hi]
    rw [e] at this; exact this
  have hlens : ∀ i, i < out.length → (out.getD i default).l.length ≤ 1048576 ∧ (out.getD i default).r.length ≤ 1048576 := fun i hi => by
    have hm1 := hmem i (by omega)
    have hl1 := h.ok.lens (fa.getD i 0).toNat (by omega)
    rw [(hlists i (by omega)).1, (hlists i (by omega)).2]
    exact ⟨Nat.le_trans qX (by rw [xE]; exact hl1.1), Nat.le_trans qX (by rw [xE]; exact hl1.2)⟩
  have wf : Wf out := ⟨⟨by omega, hoo, hlens⟩, fun i hi => by
    have h1 := hbnd i (by omega)
    refine ⟨rise_pw ?_ fun z hz => by have := h1.1 z hz; omega, rise_pw ?_ fun z hz => by have := h1.2 z hz; omega⟩
    · rw [(hlists i (by omega)).1]; exact jX _
    · rw [(hlists i (by omega)).2]; exact jX _⟩
  have hden : ∀ p, p < fa.length → den out p = den ns (fa.getD p 0).toNat := by
    intro p
    induction p using Nat.strongRecOn with
    | _ p ih =>
      intro hp
      have h1 := hopt p hp
      have hm1 := hmem p hp
      rw [den_at (by omega) (hbnd p hp).1 (hbnd p hp).2, jE ho (show (fa.getD p 0).toNat < ns.length by omega), (hlists p hp).1, (hlists p hp).2]
      have key : ∀ l : List Int, (∀ o ∈ l, 0 ≤ o ∧ ∃ p', p' < p ∧ fa.getD p' 0 = o ∧ A.getD o.toNat 0 = p') → ∀ i, i ∈ (sortL (atL A l)).map (fun z => den out z.toNat) ↔ i ∈ l.map fun z => den ns z.toNat := fun l hl i => by
        rw [List.mem_map, List.mem_map]
        constructor
        · rintro ⟨z, hz, rfl⟩
          obtain ⟨o, hox, e⟩ := mem_atL.1 (mem_sortL.1 hz)
          obtain ⟨_, p', h2, e1, e2⟩ := hl o hox
          refine ⟨o, hox, ?_⟩
          have : z.toNat = p' := by omega
          rw [this, ih p' h2 (by omega), e1]
        · rintro ⟨o, hox, rfl⟩
          obtain ⟨_, p', h2, e1, e2⟩ := hl o hox
          refine ⟨(p' : Int), mem_sortL.2 (mem_atL.2 ⟨o, hox, e2⟩), ?_⟩
          rw [Int.toNat_natCast, ih p' h2 (by omega), e1]
      exact rW (key _ h1.1) (key _ h1.2)
  have hborn : ∀ p, p < fa.length → (births out).getD p 0 = bs.getD (fa.getD p 0).toNat 0 := by
    intro p
    induction p using Nat.strongRecOn with
    | _ p ih =>
      intro hp
      have h1 := hopt p hp
      have hm1 := hmem p hp
      rw [(qG hoo).2 p (by omega), (hlists p hp).1, (hlists p hp).2, putBorn_sort, h.born.2 _ (show (fa.getD p 0).toNat < ns.length by omega)]
      have key : ∀ o : Int, (∃ p', p' < p ∧ fa.getD p' 0 = o ∧ A.getD o.toNat 0 = p') → (births out).getD (A.getD o.toNat 0).toNat 0 = bs.getD o.toNat 0 := fun o ⟨p', h2, e1, e2⟩ => by
        rw [e2, Int.toNat_natCast, ih p' h2 (by omega), e1]
      unfold putBorn
      rw [tI fun o hox => key o (h1.2 o hox).2, tI fun o hox => key o (h1.1 o hox).2]
  have srt : SortedB out (births out) := fun i j hij hj => by
    rw [hborn i (by omega), hborn j (by omega), hget i (by omega), hget j (by omega)]
    rcases hord i j hij (by omega) with h1 | ⟨h1, h2⟩
    · exact Or.inl h1
    · refine Or.inr ⟨h1, ?_⟩
      have hne : aheadI (ndz ns A (fa.getD i 0)) (ndz ns A (fa.getD j 0)) ≠ 0 := fun e => by
        have e1 := ahead_zero.1 e
        rw [← hget i (by omega), ← hget j (by omega)] at e1
        have d1 : den out i = den out j := by
          rw [jE hoo (show i < out.length by omega), jE hoo (show j < out.length by omega), e1]
        rw [hden i (by omega), hden j (by omega)] at d1
        have m1 := hmem i (by omega); have m2 := hmem j (by omega)
        have e3 := h.inj (by omega) (by omega) d1
        have p1 := hpos i (by omega); have p2 := hpos j (by omega)
        rw [e3] at p1; omega
      omega
  obtain ⟨pm, hpm, em, _⟩ := hfind m (Nat.le_refl _) reach_self (Int.le_refl _)
  have hroot : ∀ p, p < fa.length → fa.getD p 0 ≠ m → ∃ p', p < p' ∧ p' < fa.length ∧ ((p : Int) ∈ (out.getD p' default).l ∨ (p : Int) ∈ (out.getD p' default).r) := fun p hp hne => by
    have m1 := hmem p hp
    rcases rQ m1.2.2.1 with h1 | ⟨j, hj, hr, z, hz, ez⟩
    · omega
    · have hz0 : 0 ≤ z := by
        have := xJ ho (show j < ns.length by omega)
        rcases hz with hz | hz
        · exact (this.1 z hz).1
        · exact (this.2 z hz).1
      have ez' : z = fa.getD p 0 := by omega
      subst ez'
      have hle : bs.getD j 0 ≤ bs.getD m 0 := by
        have : ∀ n j : Nat, m - j ≤ n → j ≤ m → (reachM ns m).getD j false = true → bs.getD j 0 ≤ bs.getD m 0 := by
          intro n
          induction n with
          | zero => intro j h1 h2 _; have : j = m := by omega
                    rw [this]; exact Int.le_refl _
          | succ n ih =>
            intro j h1 h2 h3
            rcases rQ h3 with h4 | ⟨i, hi, hri, y, hy, ey⟩
            · rw [h4]; exact Int.le_refl _
            · have hl := hlw i (by omega)
              have hyb : 0 ≤ y ∧ y < i ∧ bs.getD y.toNat 0 < bs.getD i 0 := by rcases hy with hy | hy; exact hl.1 y hy; exact hl.2 y hy
              have := ih i (by omega) hi hri
              rw [ey] at hyb; omega
        exact this m j (by omega) hj hr
      obtain ⟨p', hp', e1, e2⟩ := hfind j hj hr hle
      have h1 := hopt p' hp'
      rw [e1] at h1
      simp only [Int.toNat_natCast] at h1
      have hp1 := hpos p hp
      refine ⟨p', ?_, hp', ?_⟩
      · rcases hz with hz | hz
        · obtain ⟨_, q, h2, e3, e4⟩ := h1.1 _ hz; omega
        · obtain ⟨_, q, h2, e3, e4⟩ := h1.2 _ hz; omega
      · rw [(hlists p' hp').1, (hlists p' hp').2, e1]
        simp only [Int.toNat_natCast]
        rcases hz with hz | hz
        · exact Or.inl (mem_sortL.2 (mem_atL.2 ⟨_, hz, hp1⟩))
        · exact Or.inr (mem_sortL.2 (mem_atL.2 ⟨_, hz, hp1⟩))
  have hlast : fa.getD (fa.length - 1) 0 = m := by
    apply Classical.byContradiction
    intro hne
    obtain ⟨p', h1, h2, _⟩ := hroot (fa.length - 1) (by omega) hne
    omega
  refine ⟨⟨by omega, wf, srt, fun k hk => ?_⟩, ?_, hlen⟩
  · have hne : fa.getD k 0 ≠ m := fun e => by
      have p1 := hpos k (by omega); have p2 := hpos (fa.length - 1) (by omega)
      rw [e] at p1; rw [hlast] at p2; omega
    obtain ⟨p', h1, h2, h3⟩ := hroot k (by omega) hne
    exact ⟨p', h1, by omega, h3⟩
  · unfold gOf
    rw [hN, hden _ (by omega), hlast, Int.toNat_natCast]
end Go.GL
namespace Go.GL
open Go Go.RowKit
structure PM where
 f : Nat
 o : Nat
 c : Nat
 s : Nat
 n : Nat
structure PSt where
 ns : List Nd
 bs : List Int
 fl : List (ByteArray × Int)
 om : List ((Int × Int) × Bool)
 cm : List (Int × Int)
 sm : List ((Int × Int) × Int)
 gm : List (Int × Int)
def inP (p : Nat) (L R B : Value) (mm : PM) (k : Nat) : Prop := k = p ∨ L.ownBlock = some k ∨ R.ownBlock = some k ∨ B.ownBlock = some k ∨ k = mm.f ∨ k = mm.o ∨ k = mm.c ∨ k = mm.s ∨ k = mm.n
def NP (p : Nat) (L R B : Value) (mm : PM) (x : Option Nat) : Prop := ∀ k, x = some k → ¬ inP p L R B mm k
structure PDiff (mm : PM) : Prop where
 fo : mm.f ≠ mm.o
 fc : mm.f ≠ mm.c
 fs : mm.f ≠ mm.s
 fn : mm.f ≠ mm.n
 oc : mm.o ≠ mm.c
 os : mm.o ≠ mm.s
 on : mm.o ≠ mm.n
 cs : mm.c ≠ mm.s
 cn : mm.c ≠ mm.n
 sn : mm.s ≠ mm.n
structure Pk (er ei : Nat) (G : Pin) (w : World) (p : Nat) (L R B : Value) (mm : PM) (q : PSt) : Prop where
 bx : Bx G w p [L, R, B, .map (some mm.f), .map (some mm.o), .map (some mm.c), .map (some mm.s), .map (some mm.n)]
 ol : Own (eSl eInt) er G w 0 L (q.ns.map Nd.l)
 rr : Own (eSl eInt) er G w 0 R (q.ns.map Nd.r)
 ob : Own eInt ei G w 0 B q.bs
 ff : Mp (fun k : ByteArray => Value.string k) (fun v : Int => Value.int .i64 v) w mm.f q.fl
 fo : Mp encP2 (fun v : Bool => Value.bool v) w mm.o q.om
 fc : Mp (fun k : Int => Value.int .i64 k) (fun v : Int => Value.int .i64 v) w mm.c q.cm
 fs : Mp encP2 (fun v : Int => Value.int .i64 v) w mm.s q.sm
 fn : Mp (fun k : Int => Value.int .i64 k) (fun v : Int => Value.int .i64 v) w mm.n q.gm
 apl : Apart (some p) L.ownBlock
 apr : Apart (some p) R.ownBlock
 apb : Apart (some p) B.ownBlock
 alr : Apart L.ownBlock R.ownBlock
 alb : Apart L.ownBlock B.ownBlock
 arb : Apart R.ownBlock B.ownBlock
 df : PDiff mm
section
variable {er ei : Nat} {G G' : Pin} {w w' : World} {p : Nat} {L R B L' R' B' : Value} {mm : PM} {q : PSt}
variable {x y : Option Nat}
theorem Mp.extS {κ ν : Type} {enc : κ → Value} {val : ν → Value} {m : Nat} {l : List (κ × ν)} {S : Nat → Prop} (h : Mp enc val w m l) (hx : Ext S G w G' w') (hS : ¬ S m) : Mp enc val w' m l := h.keep (hx.block m h.lt hS)
theorem Pk.lt (h : Pk er ei G w p L R B mm q) : ∀ k, inP p L R B mm k → k < w.heap.size := fun k hk => by
 rcases hk with rfl | hk | hk | hk | rfl | rfl | rfl | rfl | rfl
 ·exact h.bx.lt
 ·exact (h.ol.lt k hk).2
 ·exact (h.rr.lt k hk).2
 ·exact (h.ob.lt k hk).2
 ·exact h.ff.lt
 ·exact h.fo.lt
 ·exact h.fc.lt
 ·exact h.fs.lt
 ·exact h.fn.lt
theorem Pk.extS {S : Nat → Prop} (h : Pk er ei G w p L R B mm q) (hx : Ext S G w G' w') (hS : ∀ k, inP p L R B mm k → ¬ S k) : Pk er ei G' w' p L R B mm q where
 bx := h.bx.extS hx (hS _ (Or.inl rfl))
 ol := h.ol.extS hx fun k hk => hS k (Or.inr (Or.inl hk))
 rr := h.rr.extS hx fun k hk => hS k (Or.inr (Or.inr (Or.inl hk)))
 ob := h.ob.extS hx fun k hk => hS k (Or.inr (Or.inr (Or.inr (Or.inl hk))))
 ff := h.ff.extS hx (hS _ (Or.inr (Or.inr (Or.inr (Or.inr (Or.inl rfl))))))
 fo := h.fo.extS hx (hS _ (Or.inr (Or.inr (Or.inr (Or.inr (Or.inr (Or.inl rfl)))))))
 fc := h.fc.extS hx (hS _ (Or.inr (Or.inr (Or.inr (Or.inr (Or.inr (Or.inr (Or.inl rfl))))))))
 fs := h.fs.extS hx (hS _ (Or.inr (Or.inr (Or.inr (Or.inr (Or.inr (Or.inr (Or.inr (Or.inl rfl)))))))))
 fn := h.fn.extS hx (hS _ (Or.inr (Or.inr (Or.inr (Or.inr (Or.inr (Or.inr (Or.inr (Or.inr rfl)))))))))
 apl := h.apl
 apr := h.apr
 apb := h.apb
 alr := h.alr
 alb := h.alb
 arb := h.arb
 df := h.df
theorem Pk.ext (h : Pk er ei G w p L R B mm q) (hx : Ext noS G w G' w') : Pk er ei G' w' p L R B mm q := h.extS hx fun _ _ => id
theorem Pk.below (h : Pk er ei G w p L R B mm q) (hb : Below w.heap.size w w') (hP : Pins G w') : Pk er ei G w' p L R B mm q :=
 h.ext ⟨Pin.le_refl _, hP, fun _ _ _ h => Or.inl h, hb.os, hb.tape, hb.output, hb.size, fun k hk _ => hb.block k hk⟩
theorem Pk.kept (h : Pk er ei G w p L R B mm q) (hg : w.grownBy w' x) (hP : Pins G w') (hn : NP p L R B mm x) : Pk er ei G w' p L R B mm q :=
 h.extS (Ext.one hP hg) fun k hk hx => hn k hx hk
theorem Pk.more {b : Nat} (h : Pk er ei G w p L R B mm q) (hl : Pin.le G G') (hf : ∀ k o u, G' k o u → G k o u ∨ k = b) (hn : NP p L R B mm (some b)) : Pk er ei G' w p L R B mm q where
 bx := h.bx.moreA hf fun k a c => hn k c (by cases a; exact Or.inl rfl)
 ol := h.ol.moreA hl hf fun k a c => hn k c (Or.inr (Or.inl a))
 rr := h.rr.moreA hl hf fun k a c => hn k c (Or.inr (Or.inr (Or.inl a)))
 ob := h.ob.moreA hl hf fun k a c => hn k c (Or.inr (Or.inr (Or.inr (Or.inl a))))
 ff := h.ff
 fo := h.fo
 fc := h.fc
 fs := h.fs
 fn := h.fn
 apl := h.apl
 apr := h.apr
 apb := h.apb
 alr := h.alr
 alb := h.alb
 arb := h.arb
 df := h.df
theorem Pk.moreO {v : Value} (h : Pk er ei G w p L R B mm q) (hl : Pin.le G G') (hf : ∀ k o u, G' k o u → G k o u ∨ v.ownBlock = some k) (hn : NP p L R B mm v.ownBlock) : Pk er ei G' w p L R B mm q where
 bx := h.bx.moreO hf fun k a c => hn k c (by cases a; exact Or.inl rfl)
 ol := h.ol.moreO hl hf fun k a c => hn k c (Or.inr (Or.inl a))
 rr := h.rr.moreO hl hf fun k a c => hn k c (Or.inr (Or.inr (Or.inl a)))
 ob := h.ob.moreO hl hf fun k a c => hn k c (Or.inr (Or.inr (Or.inr (Or.inl a))))
 ff := h.ff
 fo := h.fo
 fc := h.fc
 fs := h.fs
 fn := h.fn
 apl := h.apl
 apr := h.apr
 apb := h.apb
 alr := h.alr
 alb := h.alb
 arb := h.arb
 df := h.df
theorem Pk.new (h : Pk er ei G w p L R B mm q) (hx : ∀ k, x = some k → w.heap.size ≤ k) : NP p L R B mm x := fun k hk hi => by
 have h1 := h.lt k hi; have h2 := hx k hk; omega
theorem pF (hn : NP p L R B mm x) (h : Pk er ei G w p L R B mm q) (hw : y = x ∨ ∃ k, y = some k ∧ w.heap.size ≤ k) : NP p L R B mm y := by
 rcases hw with rfl | ⟨k, rfl, hk⟩
 ·exact hn
 ·exact h.new fun j hj => by cases hj; exact hk
theorem np_turn (hn : NP p L R B mm x) (h : Pk er ei G w p L R B mm q) (hl : Lo w (inO x) y) : NP p L R B mm y := fun k hk hi => by
 rcases hl k hk with h1 | h1
 ·have := h.lt k hi; omega
 ·exact hn k h1 hi
structure PLo (w : World) (p : Nat) (L R B : Value) (mm : PM) (L' R' B' : Value) : Prop where
 l : Lo w (inP p L R B mm) L'.ownBlock
 r : Lo w (inP p L R B mm) R'.ownBlock
 b : Lo w (inP p L R B mm) B'.ownBlock
theorem PLo.in (h : PLo w p L R B mm L' R' B') : ∀ k, inP p L' R' B' mm k → w.heap.size ≤ k ∨ inP p L R B mm k := fun k hk => by
 rcases hk with rfl | hk | hk | hk | hk
 ·exact Or.inr (Or.inl rfl)
 ·exact h.l k hk
 ·exact h.r k hk
 ·exact h.b k hk
 ·exact Or.inr (Or.inr (Or.inr (Or.inr (Or.inr hk))))
theorem NP.call (h : NP p L R B mm x) (hlo : PLo w p L R B mm L' R' B') (hl : ∀ k, x = some k → k < w.heap.size) : NP p L' R' B' mm x := fun k hk hi => by
 rcases hlo.in k hi with h1 | h1
 ·have := hl k hk; omega
 ·exact h k hk h1
def PIn (w0 : World) (S : Nat → Prop) (p : Nat) (L R B : Value) (mm : PM) : Prop := ∀ k, inP p L R B mm k → w0.heap.size ≤ k ∨ S k
theorem PIn.self {w0 : World} : PIn w0 (inP p L R B mm) p L R B mm := fun _ h => Or.inr h
theorem PIn.call {w0 : World} {S : Nat → Prop} (h : PIn w0 S p L R B mm) (hlo : PLo w p L R B mm L' R' B') (hs : w0.heap.size ≤ w.heap.size) : PIn w0 S p L' R' B' mm := fun k hk => by
 rcases hlo.in k hk with h1 | h1
 ·exact Or.inl (by omega)
 ·exact h k h1
theorem PIn.lo {w0 : World} {p0 : Nat} {L0 R0 B0 : Value} (h : PIn w0 (inP p0 L0 R0 B0 mm) p L R B mm) (hp : p = p0) : PLo w0 p0 L0 R0 B0 mm L R B := by
 subst hp
 exact ⟨fun k hk => h k (Or.inr (Or.inl hk)), fun k hk => h k (Or.inr (Or.inr (Or.inl hk))), fun k hk => h k (Or.inr (Or.inr (Or.inr (Or.inl hk))))⟩
theorem PIn.o {w0 : World} {S : Nat → Prop} (h : PIn w0 S p L R B mm) : Lo w0 S (some mm.o) := fun k hk => by
 cases hk; exact h _ (Or.inr (Or.inr (Or.inr (Or.inr (Or.inr (Or.inl rfl))))))
theorem NP.ho (h : NP p L R B mm x) : Apart x (some mm.o) := fun k a c => h k a (by cases c; exact Or.inr (Or.inr (Or.inr (Or.inr (Or.inr (Or.inl rfl))))))
theorem NP.hc (h : NP p L R B mm x) : Apart x (some mm.c) := fun k a c => h k a (by cases c; exact Or.inr (Or.inr (Or.inr (Or.inr (Or.inr (Or.inr (Or.inl rfl)))))))
theorem NP.hs (h : NP p L R B mm x) : Apart x (some mm.s) := fun k a c => h k a (by cases c; exact Or.inr (Or.inr (Or.inr (Or.inr (Or.inr (Or.inr (Or.inr (Or.inl rfl))))))))
theorem NP.hn (h : NP p L R B mm x) : Apart x (some mm.n) := fun k a c => h k a (by cases c; exact Or.inr (Or.inr (Or.inr (Or.inr (Or.inr (Or.inr (Or.inr (Or.inr rfl))))))))
theorem NP.hp (h : NP p L R B mm x) : Apart x (some p) := fun k a c => h k a (by cases c; exact Or.inl rfl)
theorem NP.hl (h : NP p L R B mm x) : Apart x L.ownBlock := fun k a c => h k a (Or.inr (Or.inl c))
theorem NP.hr (h : NP p L R B mm x) : Apart x R.ownBlock := fun k a c => h k a (Or.inr (Or.inr (Or.inl c)))
theorem NP.hb (h : NP p L R B mm x) : Apart x B.ownBlock := fun k a c => h k a (Or.inr (Or.inr (Or.inr (Or.inl c))))
theorem Pk.setO (h : Pk er ei G w p L R B mm q) (hx : Ext (inO (some mm.o)) G w G' w') {om : List ((Int × Int) × Bool)} (hm : Mp encP2 (fun v : Bool => Value.bool v) w' mm.o om) : Pk er ei G' w' p L R B mm { q with om := om } where
 bx := h.bx.extS hx (jD fun k a c => (xL h.fo h.bx) k c a)
 ol := h.ol.extS hx (notO (yY h.fo h.ol).symm)
 rr := h.rr.extS hx (notO (yY h.fo h.rr).symm)
 ob := h.ob.extS hx (notO (yY h.fo h.ob).symm)
 ff := h.ff.extS hx (fun e => h.df.fo (Option.some.inj e).symm)
 fo := hm
 fc := h.fc.extS hx (fun e => h.df.oc (Option.some.inj e))
 fs := h.fs.extS hx (fun e => h.df.os (Option.some.inj e))
 fn := h.fn.extS hx (fun e => h.df.on (Option.some.inj e))
 apl := h.apl
 apr := h.apr
 apb := h.apb
 alr := h.alr
 alb := h.alb
 arb := h.arb
 df := h.df
end
def pd (q : PSt) (z : Int) : Nat := den q.ns z.toNat
def PlaceOk (q : PSt) (z : Int) : Prop := 0 ≤ z ∧ z < q.ns.length
structure FindOk (ns : List Nd) (fl : List (ByteArray × Int)) : Prop where
 has : ∀ i : Nat, i < ns.length → look fl (b2s (keyN (ns.getD i default).l (ns.getD i default).r)) = some (i : Int)
 is : ∀ (l r : List Int) (z : Int), (∀ x ∈ l, 0 ≤ x) → (∀ x ∈ r, 0 ≤ x) → look fl (b2s (keyN l r)) = some z → ∃ i : Nat, i < ns.length ∧ z = i ∧ ns.getD i default = ⟨l, r⟩
structure PoolOk (q : PSt) : Prop where
 ar : Ar q.ns q.bs
 find : FindOk q.ns q.fl
 ord : ∀ a b v, look q.om (a, b) = some v → PlaceOk q a ∧ PlaceOk q b ∧ v = decP (geG (pd q a) (pd q b))
 can : ∀ a z, look q.cm a = some z → PlaceOk q a ∧ PlaceOk q z ∧ CanonG (pd q z) ∧ eqG (pd q z) (pd q a)
 sum : ∀ a b z, look q.sm (a, b) = some z → PlaceOk q a ∧ PlaceOk q b ∧ PlaceOk q z ∧ pd q z = addG (pd q a) (pd q b)
 neg : ∀ a z, look q.gm a = some z → PlaceOk q a ∧ PlaceOk q z ∧ pd q z = negG (pd q a)
theorem pkl (q : PSt) : (q.ns.map Nd.l).length = q.ns.length ∧ (q.ns.map Nd.r).length = q.ns.length := ⟨List.length_map .., List.length_map ..⟩
theorem pkb {q : PSt} (h : PoolOk q) : q.bs.length = q.ns.length ∧ q.ns.length ≤ 1048576 := ⟨h.ar.ok.len, h.ar.ok.lim⟩
structure PX (q q' : PSt) : Prop where
 len : q.ns.length ≤ q'.ns.length
 old : ∀ k, k < q.ns.length → q'.ns.getD k default = q.ns.getD k default
 can : ∀ a, look q'.cm a = none → look q.cm a = none
theorem PX.refl (q : PSt) : PX q q := ⟨Nat.le_refl _, fun _ _ => rfl, fun _ h => h⟩
theorem PX.trans {a b c : PSt} (h : PX a b) (k : PX b c) : PX a c := ⟨Nat.le_trans h.len k.len, fun i hi => (k.old i (by have := h.len; omega)).trans (h.old i hi), fun a ha => h.can a (k.can a ha)⟩
theorem PX.den {q q' : PSt} (h : PX q q') (ho : OptsOk q.ns) (ho' : OptsOk q'.ns) : ∀ k, k < q.ns.length → den q'.ns k = den q.ns k := by
 intro k
 induction k using Nat.strongRecOn with
 | _ k ih =>
  intro hk
  have oo := xJ ho hk
  rw [jE ho' (by have := h.len; omega), jE ho hk, h.old k hk]
  rw [List.map_congr_left fun z hz => ih z.toNat (by have := oo.1 z hz; omega) (by have := oo.1 z hz; omega)]
  rw [List.map_congr_left (l := (q.ns.getD k default).r) fun z hz => ih z.toNat (by have := oo.2 z hz; omega) (by have := oo.2 z hz; omega)]
theorem PX.pd {q q' : PSt} (h : PX q q') (hq : PoolOk q) (hq' : PoolOk q') {z : Int} (hz : PlaceOk q z) : pd q' z = pd q z := h.den hq.ar.opts hq'.ar.opts _ (by have := hz.1; have := hz.2; omega)
theorem PX.place {q q' : PSt} (h : PX q q') {z : Int} (hz : PlaceOk q z) : PlaceOk q' z := ⟨hz.1, by have := hz.2; have := h.len; omega⟩
theorem mapl_getD (ns : List Nd) (i : Nat) : (ns.map Nd.l).getD i [] = (ns.getD i default).l := by
 simp only [List.getD, List.getElem?_map]
 cases ns[i]? <;> rfl
theorem mapr_getD (ns : List Nd) (i : Nat) : (ns.map Nd.r).getD i [] = (ns.getD i default).r := by
 simp only [List.getD, List.getElem?_map]
 cases ns[i]? <;> rfl
theorem PoolOk.empty : PoolOk ⟨[], [], [], [], [], [], []⟩ where
 ar := Ar.empty
 find := ⟨fun i hi => absurd hi (Nat.not_lt_zero i), fun l r z _ _ h => by cases h⟩
 ord := fun a b v h => by cases h
 can := fun a z h => by cases h
 sum := fun a b z h => by cases h
 neg := fun a z h => by cases h
theorem PoolOk.setO {q : PSt} (h : PoolOk q) {a b : Int} {v : Bool} (ha : PlaceOk q a) (hb : PlaceOk q b) (hv : v = decP (geG (pd q a) (pd q b))) : PoolOk { q with om := putE q.om (a, b) v } :=
 by
 refine ⟨h.ar, h.find, ?_, h.can, h.sum, h.neg⟩
 intro c d u hu
 simp only at hu
 rw [kS] at hu
 split at hu
 ·rename_i he
  cases he; cases hu
  exact ⟨ha, hb, hv⟩
 ·exact h.ord c d u hu
section
variable {p : Nat} {L R B : Value} {mm : PM} {w0 : World} {S : Nat → Prop}
theorem PIn.lp (h : PIn w0 S p L R B mm) : Lo w0 S (some p) := fun k hk => by cases hk; exact h _ (Or.inl rfl)
theorem PIn.ll (h : PIn w0 S p L R B mm) : Lo w0 S L.ownBlock := fun k hk => h k (Or.inr (Or.inl hk))
theorem PIn.lr (h : PIn w0 S p L R B mm) : Lo w0 S R.ownBlock := fun k hk => h k (Or.inr (Or.inr (Or.inl hk)))
theorem PIn.lb (h : PIn w0 S p L R B mm) : Lo w0 S B.ownBlock := fun k hk => h k (Or.inr (Or.inr (Or.inr (Or.inl hk))))
theorem PIn.f (h : PIn w0 S p L R B mm) : Lo w0 S (some mm.f) := fun k hk => by cases hk; exact h _ (Or.inr (Or.inr (Or.inr (Or.inr (Or.inl rfl)))))
theorem NP.hf {x : Option Nat} (h : NP p L R B mm x) : Apart x (some mm.f) := fun k a c => h k a (by cases c; exact Or.inr (Or.inr (Or.inr (Or.inr (Or.inl rfl)))))
theorem PIn.fresh {w : World} (h : ∀ k, inP p L R B mm k → w.heap.size ≤ k) (hs : w0.heap.size ≤ w.heap.size) : PIn w0 S p L R B mm := fun k hk => Or.inl (by have := h k hk; omega)
theorem kJ {a b : Nat} (h : a ≠ b) : Apart (some a) (some b) := fun k hk hb => by cases hk; cases hb; exact h rfl
end
variable {xs ys ls : List Int}
theorem lookF {q : PSt} (h : PoolOk q) (h1 : ∀ i, i < xs.length → 0 ≤ xs.getD i 0 ∧ xs.getD i 0 < q.ns.length) (h2 : ∀ i, i < ys.length → 0 ≤ ys.getD i 0 ∧ ys.getD i 0 < q.ns.length)
  {z : Int} (hz : look q.fl (b2s (keyN (sortL xs) (sortL ys))) = some z) : PlaceOk q z ∧ pd q z = mkG (xs.map (pd q)) (ys.map (pd q)) := by
 have m1 := xQ (P := fun k => 0 ≤ k ∧ k < (q.ns.length : Int)) h1
 have m2 := xQ (P := fun k => 0 ≤ k ∧ k < (q.ns.length : Int)) h2
 obtain ⟨i, hi, rfl, e⟩ := h.find.is _ _ _ (fun x hx => (m1 x (mem_sortL.1 hx)).1) (fun x hx => (m2 x (mem_sortL.1 hx)).1) hz
 refine ⟨⟨by omega, by omega⟩, ?_⟩
 unfold pd
 rw [Int.toNat_natCast, jE h.ar.opts hi, e]
 exact rW (fun x => by simp only [List.mem_map, mem_sortL]) (fun x => by simp only [List.mem_map, mem_sortL])
def addQ (q : PSt) (xs ys : List Int) (b : Int) : PSt := { q with ns := q.ns ++ [⟨sortL xs, sortL ys⟩], bs := q.bs ++ [b], fl := putE q.fl (b2s (keyN (sortL xs) (sortL ys))) (q.ns.length : Int) }
theorem PoolOk.add {q : PSt} (h : PoolOk q) {b : Int} (hl : q.ns.length + 1 ≤ 1048576) (hls : xs.length ≤ 1048576 ∧ ys.length ≤ 1048576)
  (h1 : ∀ i, i < xs.length → 0 ≤ xs.getD i 0 ∧ xs.getD i 0 < q.ns.length) (h2 : ∀ i, i < ys.length → 0 ≤ ys.getD i 0 ∧ ys.getD i 0 < q.ns.length)
  (hn : look q.fl (b2s (keyN (sortL xs) (sortL ys))) = none) (hb : b = bornOf q.bs (sortL ys) (bornOf q.bs (sortL xs) 0)) :
  PoolOk (addQ q xs ys b) ∧ PX q (addQ q xs ys b) ∧ PlaceOk (addQ q xs ys b) (q.ns.length : Int) ∧ pd (addQ q xs ys b) (q.ns.length : Int) = mkG (xs.map (pd q)) (ys.map (pd q)) ∧ (addQ q xs ys b).ns.length ≤ q.ns.length + 1 := by
 have m1 := xQ (P := fun k => 0 ≤ k ∧ k < (q.ns.length : Int)) h1
 have m2 := xQ (P := fun k => 0 ≤ k ∧ k < (q.ns.length : Int)) h2
 have hb2 : b = putBorn q.bs xs ys := hb.trans putBorn_sort
 have hf : findK q.ns q.bs (putNd xs ys) (putBorn q.bs xs ys) = none := by
  cases hf : findK q.ns q.bs (putNd xs ys) (putBorn q.bs xs ys) with
  | none => rfl
  | some k =>
   exfalso
   have hk : k < q.ns.length := by simpa using List.mem_of_find?_eq_some hf
   have hd : q.bs.getD k 0 = putBorn q.bs xs ys ∧ (q.ns.getD k default).l = sortL xs ∧ (q.ns.getD k default).r = sortL ys := by
    have hdec := List.find?_some hf
    exact of_decide_eq_true hdec
   have := h.find.has k hk
   rw [hd.2.1, hd.2.2, hn] at this
   cases this
 have hp := h.ar.put hl hls h1 h2
 have eN : putN q.ns q.bs xs ys = q.ns ++ [⟨sortL xs, sortL ys⟩] := by unfold putN; rw [hf]; rfl
 have eB : putB q.ns q.bs xs ys = q.bs ++ [b] := by unfold putB; rw [hf, hb2]
 have eK : putK q.ns q.bs xs ys = q.ns.length := by unfold putK; rw [hf]
 rw [eN, eB, eK] at hp
 have hpx : PX q (addQ q xs ys b) := ⟨by simp [addQ], fun k hk => yV hk, fun _ h => h⟩
 have hpd : ∀ z : Int, PlaceOk q z → pd (addQ q xs ys b) z = pd q z := fun z hz => hp.2.2 z.toNat (by have := hz.1; have := hz.2; omega)
 have hpl : ∀ z : Int, PlaceOk q z → PlaceOk (addQ q xs ys b) z := fun z hz => hpx.place hz
 have hlen : (q.ns ++ [(⟨sortL xs, sortL ys⟩ : Nd)]).length = q.ns.length + 1 := by simp
 refine ⟨⟨hp.1, ⟨fun i hi => ?_, fun l r z hl0 hr0 hz => ?_⟩, fun a c v hv => ?_, fun a z hz => ?_, fun a c z hz => ?_, fun a z hz => ?_⟩, hpx, ⟨by omega, by show (q.ns.length : Int) < ((q.ns ++ [(⟨sortL xs, sortL ys⟩ : Nd)]).length : Int); rw [hlen]; omega⟩, ?_, by show (q.ns ++ [(⟨sortL xs, sortL ys⟩ : Nd)]).length ≤ _; rw [hlen]; exact Nat.le_refl _⟩
 ·show look (putE q.fl _ _) _ = _
  have hi' : i < q.ns.length + 1 := by rw [← hlen]; exact hi
  by_cases he : i < q.ns.length
  ·have e : (addQ q xs ys b).ns.getD i default = q.ns.getD i default := yV he
   rw [e, kS, if_neg]
   ·exact h.find.has i he
   ·intro hk
    have oo := xJ h.ar.opts he
    obtain ⟨e1, e2⟩ := rZ (fun z hz => (oo.1 z hz).1) (fun z hz => (oo.2 z hz).1) (fun z hz => (m1 z (mem_sortL.1 hz)).1) (fun z hz => (m2 z (mem_sortL.1 hz)).1) (sG hk)
    have := h.find.has i he
    rw [e1, e2, hn] at this
    cases this
  ·have e0 : i = q.ns.length := by omega
   subst e0
   have e : (addQ q xs ys b).ns.getD q.ns.length default = ⟨sortL xs, sortL ys⟩ := xI rfl
   rw [e, kS, if_pos rfl]
 ·have hz' : look (putE q.fl (b2s (keyN (sortL xs) (sortL ys))) (q.ns.length : Int)) (b2s (keyN l r)) = some z := hz
  rw [kS] at hz'
  split at hz'
  ·rename_i hk
   obtain ⟨e1, e2⟩ := rZ hl0 hr0 (fun z hz => (m1 z (mem_sortL.1 hz)).1) (fun z hz => (m2 z (mem_sortL.1 hz)).1) (sG hk)
   cases hz'
   exact ⟨q.ns.length, by show _ < (q.ns ++ [_]).length; rw [hlen]; omega, rfl, by rw [e1, e2]; exact xI rfl⟩
  ·obtain ⟨i, h3, h4, h5⟩ := h.find.is l r z hl0 hr0 hz'
   exact ⟨i, by show _ < (q.ns ++ [_]).length; rw [hlen]; omega, h4, (yV h3).trans h5⟩
 ·obtain ⟨h3, h4, h5⟩ := h.ord a c v hv
  exact ⟨hpl a h3, hpl c h4, by rw [hpd a h3, hpd c h4]; exact h5⟩
 ·obtain ⟨h3, h4, h5, h6⟩ := h.can a z hz
  exact ⟨hpl a h3, hpl z h4, by rw [hpd z h4]; exact h5, by rw [hpd z h4, hpd a h3]; exact h6⟩
 ·obtain ⟨h3, h4, h5, h6⟩ := h.sum a c z hz
  exact ⟨hpl a h3, hpl c h4, hpl z h5, by rw [hpd z h5, hpd a h3, hpd c h4]; exact h6⟩
 ·obtain ⟨h3, h4, h5⟩ := h.neg a z hz
  exact ⟨hpl a h3, hpl z h4, by rw [hpd z h4, hpd a h3]; exact h5⟩
 ·exact hp.2.1
theorem px_map {q q' : PSt} (h : PX q q') (hq : PoolOk q) (hq' : PoolOk q') (hl : ∀ z ∈ ls, PlaceOk q z) : ls.map (pd q') = ls.map (pd q) := List.map_congr_left fun z hz => h.pd hq hq' (hl z hz)
theorem kZ {q : PSt} (h : ∀ z ∈ ls, PlaceOk q z) : ∀ i, i < ls.length → 0 ≤ ls.getD i 0 ∧ ls.getD i 0 < q.ns.length := fun _ hi => h _ (yX hi)
theorem tQ {n : Nat} (h1 : ∀ i, i < xs.length → 0 ≤ xs.getD i 0 ∧ xs.getD i 0 < n) : ∀ i, i < (sortL xs).length → 0 ≤ (sortL xs).getD i 0 ∧ (sortL xs).getD i 0 < n := fun _ hi =>
 xQ (P := fun k => 0 ≤ k ∧ k < (n : Int)) h1 _ (mem_sortL.1 (yX hi))
theorem gX {n j : Nat} (h1 : ∀ i, i < xs.length → 0 ≤ xs.getD i 0 ∧ xs.getD i 0 < n) (hn : n ≤ 1048576) : (keyL (xs.take j)).length ≤ 14 * xs.length := by
 have := key_len (l := xs.take j) fun z hz => by
  have := xQ (P := fun k => 0 ≤ k ∧ k < (n : Int)) h1 z (List.mem_of_mem_take hz); omega
 have h2 : (xs.take j).length ≤ xs.length := by simp; omega
 omega
end Go.GL
namespace Go.GL
open Go Go.RowKit
theorem at_getD {a l : List Int} {i : Nat} (h : i < l.length) : (atL a l).getD i 0 = a.getD (l.getD i 0).toNat 0 := by simp [atL, List.getD, h]
end Go.GL
namespace Go.GL
open Go Go.RowKit
variable {q q2 : PSt} {a b : Int} {fs : List Nd} {k : Nat} {ats l : List Int}
theorem xK {a b c : PSt} (h : b.ns = a.ns ∧ b.bs = a.bs) (k : c.ns = b.ns ∧ c.bs = b.bs) : c.ns = a.ns ∧ c.bs = a.bs := ⟨k.1.trans h.1, k.2.trans h.2⟩
theorem PlaceOk.same (hn : q2.ns = q.ns ∧ q2.bs = q.bs) (h : PlaceOk q a) : PlaceOk q2 a := by unfold PlaceOk; rw [hn.1]; exact h
theorem pd_same (hn : q2.ns = q.ns ∧ q2.bs = q.bs) : pd q2 a = pd q a := by unfold pd; rw [hn.1]
theorem gM (hn : q2.ns = q.ns ∧ q2.bs = q.bs) : geB q2.ns a b = geB q.ns a b := by rw [hn.1]
theorem nY {v : Bool} (hn : q2.ns = q.ns ∧ q2.bs = q.bs) (hv : geB q.ns a b = v) : v = decP (geG (pd q2 a) (pd q2 b)) := by
 rw [pd_same hn, pd_same hn, ← hv]; rfl
theorem geB_refl {ns : List Nd} : geB ns a a = true := decP_true.2 (ge_refl _)
structure LdOk (fs : List Nd) (q q2 : PSt) (k : Nat) (ats : List Int) : Prop where
 len : ats.length = k
 hi : q2.ns.length ≤ q.ns.length + k
 pl : ∀ i, i < k → PlaceOk q2 (ats.getD i 0) ∧ pd q2 (ats.getD i 0) = den fs i
theorem LdOk.start : LdOk fs q q 0 [] := ⟨rfl, Nat.le_refl _, fun i hi => absurd hi (Nat.not_lt_zero i)⟩
theorem LdOk.opt (h : LdOk fs q q2 k ats) (hl : ∀ z ∈ l, 0 ≤ z ∧ z < k) :
  ∀ i, i < (atL ats l).length → 0 ≤ (atL ats l).getD i 0 ∧ (atL ats l).getD i 0 < q2.ns.length := by
 intro i hi
 rw [xE] at hi
 rw [at_getD hi]
 have := hl _ (yX (d := (0 : Int)) hi)
 exact (h.pl _ (by omega)).1
theorem LdOk.den (h : LdOk fs q q2 k ats) (hl : ∀ z ∈ l, 0 ≤ z ∧ z < k) :
  (atL ats l).map (pd q2) = l.map fun z => GL.den fs z.toNat := by
 unfold atL
 rw [List.map_map]
 refine List.map_congr_left fun z hz => ?_
 have := hl z hz
 exact (h.pl z.toNat (by omega)).2
theorem LdOk.step {q3 : PSt} {z : Int} (h : LdOk fs q q2 k ats) (hf : FormOk fs) (hk : k < fs.length) (hq : PoolOk q2) (hq' : PoolOk q3) (hx : PX q2 q3) (hz : PlaceOk q3 z)
  (hd : pd q3 z = mkG ((atL ats (fs.getD k default).l).map (pd q2)) ((atL ats (fs.getD k default).r).map (pd q2))) (hn : q3.ns.length ≤ q2.ns.length + 1) : LdOk fs q q3 (k + 1) (ats ++ [z]) := by
 have oo := xJ hf.opts hk
 refine ⟨by rw [List.length_append, h.len]; rfl, by have := h.hi; omega, fun i hi => ?_⟩
 by_cases he : i = k
 ·subst he
  have e : (ats ++ [z]).getD i 0 = z := by rw [← h.len]; simp [List.getD]
  rw [e]
  refine ⟨hz, ?_⟩
  rw [hd, h.den oo.1, h.den oo.2, jE hf.opts hk]
 ·have hi' : i < k := by omega
  have e : (ats ++ [z]).getD i 0 = ats.getD i 0 := by simp [List.getD, List.getElem?_append_left (show i < ats.length by rw [h.len]; exact hi')]
  rw [e]
  have := h.pl i hi'
  exact ⟨hx.place this.1, (hx.pd hq hq' this.1).trans this.2⟩
theorem LdOk.root (h : LdOk fs q q2 fs.length ats) (h1 : 1 ≤ fs.length) : PlaceOk q2 (ats.getD (fs.length - 1) 0) ∧ pd q2 (ats.getD (fs.length - 1) 0) = gOf fs := h.pl _ (by omega)
theorem geB_roots {g h : Nat} (ha : pd q a = g) (hb : pd q b = h) : geB q.ns a b = decP (geG g h) := by rw [← ha, ← hb]; rfl
end Go.GL
namespace Go.GL
open Go Go.RowKit
end Go.GL
namespace Go.GL
variable {a b : List Nd} {i j : Nat}
theorem gT (ha : SG a) (hb : SG b) {n : Nat} (hi : i < a.length) (hj : j < b.length) (hpre : ∀ k, k < n → k < a.length ∧ k < b.length ∧ den a k = den b k)
  (hai : (∀ z ∈ (a.getD i default).l, z < (n : Int)) ∧ (∀ z ∈ (a.getD i default).r, z < (n : Int))) (hbj : (∀ z ∈ (b.getD j default).l, z < (n : Int)) ∧ (∀ z ∈ (b.getD j default).r, z < (n : Int)))
  (he : den a i = den b j) : a.getD i default = b.getD j default := by
 have oa := xJ ha.opts hi
 have ob := xJ hb.opts hj
 refine rU (fG (ha.pw i hi).1 (hb.pw j hj).1 fun z => ⟨fun hz => ?_, fun hz => ?_⟩) (fG (ha.pw i hi).2 (hb.pw j hj).2 fun z => ⟨fun hz => ?_, fun hz => ?_⟩)
 ·have h1 : loG (den a i) (den a z.toNat) := (qK ha.opts hi).2 ⟨z, hz, rfl⟩
  rw [he] at h1
  obtain ⟨y, hy, e⟩ := (qK hb.opts hj).1 h1
  have z1 := oa.1 z hz; have z2 := hai.1 z hz; have y1 := ob.1 y hy; have y2 := hbj.1 y hy
  have p1 := hpre z.toNat (by omega); have p2 := hpre y.toNat (by omega)
  have := ha.inj (i := z.toNat) (j := y.toNat) (by omega) (by omega) (by rw [e, p2.2.2])
  have : z = y := by omega
  rwa [this]
 ·have h1 : loG (den b j) (den b z.toNat) := (qK hb.opts hj).2 ⟨z, hz, rfl⟩
  rw [← he] at h1
  obtain ⟨y, hy, e⟩ := (qK ha.opts hi).1 h1
  have z1 := ob.1 z hz; have z2 := hbj.1 z hz; have y1 := oa.1 y hy; have y2 := hai.1 y hy
  have p1 := hpre z.toNat (by omega); have p2 := hpre y.toNat (by omega)
  have := ha.inj (i := z.toNat) (j := y.toNat) (by omega) (by omega) (by rw [← e, p1.2.2])
  have : z = y := by omega
  rwa [this]
 ·have h1 : roG (den a i) (den a z.toNat) := (qJ ha.opts hi).2 ⟨z, hz, rfl⟩
  rw [he] at h1
  obtain ⟨y, hy, e⟩ := (qJ hb.opts hj).1 h1
  have z1 := oa.2 z hz; have z2 := hai.2 z hz; have y1 := ob.2 y hy; have y2 := hbj.2 y hy
  have p1 := hpre z.toNat (by omega); have p2 := hpre y.toNat (by omega)
  have := ha.inj (i := z.toNat) (j := y.toNat) (by omega) (by omega) (by rw [e, p2.2.2])
  have : z = y := by omega
  rwa [this]
 ·have h1 : roG (den b j) (den b z.toNat) := (qJ hb.opts hj).2 ⟨z, hz, rfl⟩
  rw [← he] at h1
  obtain ⟨y, hy, e⟩ := (qJ ha.opts hi).1 h1
  have z1 := ob.2 z hz; have z2 := hbj.2 z hz; have y1 := oa.2 y hy; have y2 := hai.2 y hy
  have p1 := hpre z.toNat (by omega); have p2 := hpre y.toNat (by omega)
  have := ha.inj (i := z.toNat) (j := y.toNat) (by omega) (by omega) (by rw [← e, p1.2.2])
  have : z = y := by omega
  rwa [this]
theorem kI {a b : List Nd} (ha : OptsOk a) (hb : OptsOk b) : ∀ (n i j : Nat), i + j ≤ n → i < a.length → j < b.length → den a i = den b j → (births a).getD i 0 ≤ (births b).getD j 0
 | _, i, j, _, hi, hj, he => by
  have oa := xJ ha hi
  have ob := xJ hb hj
  rw [(qG ha).2 i hi, putBorn_le]
  have hbj := (qG hb).2 j hj
  have hb2 := putBorn_le.1 (Int.le_of_eq hbj.symm)
  refine ⟨sC (qG hb) hj, fun z hz => ?_, fun z hz => ?_⟩
  ·have h1 : loG (den a i) (den a z.toNat) := (qK ha hi).2 ⟨z, hz, rfl⟩
   rw [he] at h1
   obtain ⟨y, hy, e⟩ := (qK hb hj).1 h1
   have z1 := oa.1 z hz; have y1 := ob.1 y hy
   have := kI ha hb (z.toNat + y.toNat) z.toNat y.toNat (Nat.le_refl _) (by omega) (by omega) e
   have := hb2.2.1 y hy
   omega
  ·have h1 : roG (den a i) (den a z.toNat) := (qJ ha hi).2 ⟨z, hz, rfl⟩
   rw [he] at h1
   obtain ⟨y, hy, e⟩ := (qJ hb hj).1 h1
   have z1 := oa.2 z hz; have y1 := ob.2 y hy
   have := kI ha hb (z.toNat + y.toNat) z.toNat y.toNat (Nat.le_refl _) (by omega) (by omega) e
   have := hb2.2.2 y hy
   omega
termination_by _ i j => i + j
decreasing_by all_goals omega
theorem nS (ha : OptsOk a) (hb : OptsOk b) (hi : i < a.length) (hj : j < b.length) (he : den a i = den b j) : (births a).getD i 0 = (births b).getD j 0 :=
 Int.le_antisymm (kI ha hb _ i j (Nat.le_refl _) hi hj he) (kI hb ha _ j i (Nat.le_refl _) hj hi he.symm)
theorem SG.sub (ha : SG a) (hb : SG b) (he : gOf a = gOf b) : ∀ k, k < a.length → ∃ j, j < b.length ∧ den b j = den a k := by
 have key : ∀ n k, a.length - k ≤ n → k < a.length → ∃ j, j < b.length ∧ den b j = den a k := by
  intro n
  induction n with
  | zero => intro k h1 h2; omega
  | succ n ih =>
   intro k h1 h2
   by_cases hk : k + 1 < a.length
   ·obtain ⟨i, hki, hi, hz⟩ := ha.last k hk
    obtain ⟨j, hj, e⟩ := ih i (by omega) hi
    rcases hz with hz | hz
    ·have h3 : loG (den a i) (den a (k : Int).toNat) := (qK ha.opts hi).2 ⟨_, hz, rfl⟩
     rw [← e] at h3
     obtain ⟨y, hy, e2⟩ := (qK hb.opts hj).1 h3
     have := (xJ hb.opts hj).1 y hy
     exact ⟨y.toNat, by omega, by rw [← e2]; rfl⟩
    ·have h3 : roG (den a i) (den a (k : Int).toNat) := (qJ ha.opts hi).2 ⟨_, hz, rfl⟩
     rw [← e] at h3
     obtain ⟨y, hy, e2⟩ := (qJ hb.opts hj).1 h3
     have := (xJ hb.opts hj).2 y hy
     exact ⟨y.toNat, by omega, by rw [← e2]; rfl⟩
   ·have hb1 := hb.lo
    refine ⟨b.length - 1, by omega, ?_⟩
    have : k = a.length - 1 := by omega
    rw [this]; exact he.symm
 exact fun k hk => key _ k (Nat.le_refl _) hk
theorem SG.low (ha : SG a) {n : Nat} (hi : i < a.length) (hb : (births a).getD i 0 ≤ (births a).getD n 0) (hn : n < a.length) : (∀ z ∈ (a.getD i default).l, z < (n : Int)) ∧ (∀ z ∈ (a.getD i default).r, z < (n : Int)) := by
 have hl := kC ha.opts i hi
 have key : ∀ z : Int, 0 ≤ z → z < i → (births a).getD z.toNat 0 < (births a).getD i 0 → z < (n : Int) := fun z h0 h1 h2 => by
  by_cases hlt : z < (n : Int)
  ·exact hlt
  ·by_cases he : n = z.toNat
   ·subst he; omega
   ·rcases ha.srt n z.toNat (by omega) (by omega) with h3 | ⟨h3, _⟩ <;> omega
 exact ⟨fun z hz => by have := hl.1 z hz; exact key z this.1 this.2.1 this.2.2, fun z hz => by have := hl.2 z hz; exact key z this.1 this.2.1 this.2.2⟩
theorem mX (ha : SG a) (hb : SG b) (he : gOf a = gOf b) : ∀ n, n ≤ a.length → n ≤ b.length ∧ ∀ k, k < n → a.getD k default = b.getD k default ∧ den a k = den b k := by
 intro n
 induction n with
 | zero => intro _; exact ⟨Nat.zero_le _, fun k hk => absurd hk (Nat.not_lt_zero k)⟩
 | succ n ih =>
  intro hn
  obtain ⟨hnb, hpre⟩ := ih (by omega)
  obtain ⟨j, hj, ej⟩ := ha.sub hb he n (by omega)
  have hjn : n ≤ j := by
   apply Classical.byContradiction
   intro hlt
   have := (hpre j (by omega)).2
   have := ha.inj (i := j) (j := n) (by omega) (by omega) (by rw [this, ej])
   omega
  have hbn : n < b.length := by omega
  obtain ⟨i, hi, ei⟩ := hb.sub ha he.symm n hbn
  have hin : n ≤ i := by
   apply Classical.byContradiction
   intro hlt
   have := (hpre i (by omega)).2
   have := hb.inj (i := i) (j := n) (by omega) (by omega) (by rw [← this, ei])
   omega
  have hp : ∀ k, k < n → k < a.length ∧ k < b.length ∧ den a k = den b k := fun k hk => ⟨by omega, by omega, (hpre k hk).2⟩
  have hgh : den a n = den b n := by
   by_cases hjn' : j = n
   ·rw [hjn'] at ej; exact ej.symm
   ·have hin' : i ≠ n := fun e => by
     rw [e] at ei
     exact hjn' (hb.inj hj hbn (by rw [ej, ei]))
    exfalso
    have s1 := hb.srt n j (by omega) hj
    have s2 := ha.srt n i (by omega) hi
    have b1 := nS ha.opts hb.opts (show n < a.length by omega) hj ej.symm
    have b2 := nS ha.opts hb.opts hi hbn ei
    have a1 := ha.low (n := n) (i := n) (by omega) (Int.le_refl _) (by omega)
    have hle : (births a).getD i 0 ≤ (births a).getD n 0 := by rcases s1 with s1 | ⟨s1, _⟩ <;> omega
    have a2 := ha.low (n := n) (i := i) hi hle (by omega)
    have c1 := hb.low (n := n) (i := n) hbn (Int.le_refl _) hbn
    have hle2 : (births b).getD j 0 ≤ (births b).getD n 0 := by rcases s2 with s2 | ⟨s2, _⟩ <;> omega
    have c2 := hb.low (n := n) (i := j) hj hle2 hbn
    have e1 := gT ha hb (n := n) hi hbn hp a2 c1 ei
    have e2 := gT ha hb (n := n) (show n < a.length by omega) hj hp a1 c2 ej.symm
    have x1 : aheadI (b.getD n default) (b.getD j default) < 0 := by rcases s1 with s1 | ⟨_, s1⟩; omega; exact s1
    have x2 : aheadI (a.getD n default) (a.getD i default) < 0 := by rcases s2 with s2 | ⟨_, s2⟩; omega; exact s2
    rw [e1, e2, tK] at x2
    omega
  refine ⟨hbn, fun k hk => ?_⟩
  by_cases hk' : k < n
  ·exact hpre k hk'
  ·have : k = n := by omega
   subst this
   exact ⟨gT ha hb (n := k) (by omega) hbn hp (ha.low (by omega) (Int.le_refl _) (by omega)) (hb.low hbn (Int.le_refl _) hbn) hgh, hgh⟩
theorem sg_unique (ha : SG a) (hb : SG b) (he : gOf a = gOf b) : a = b := by
 have h1 := mX ha hb he a.length (Nat.le_refl _)
 have h2 := mX hb ha he.symm b.length (Nat.le_refl _)
 exact eqdoneN (by omega) (Nat.le_refl _) fun i hi => (h1.2 i hi).1
def IsForm (g : Nat) (ns : List Nd) : Prop := SG ns ∧ gOf ns = g
theorem IsForm.unique {g : Nat} (ha : IsForm g a) (hb : IsForm g b) : a = b := sg_unique ha.1 hb.1 (ha.2.trans hb.2.symm)
end Go.GL
namespace Go.GL
open Go Go.RowKit
theorem Gadd.turn {S : Nat → Prop} {G0 G G' : Pin} {w0 w w' : World} {v : Value} (h : Pins (Gadd G0 w0 v) w) (hP : Pins G0 w') (hx : Ext S G w G' w') (hS : ∀ k, v.ownBlock = some k → ¬ S k) : Pins (Gadd G0 w0 v) w' := fun b o u hu => by
 rcases hu with hu | hu
 ·exact hP b o u hu
 ·have h1 := h b o u (Or.inr hu)
  have h2 := hx.block b (vC h1) (hS b hu.1)
  unfold World.cell? at h1 ⊢
  simp only [h2]; exact h1
end Go.GL
namespace Go.GL
open Go Go.RowKit
end Go.GL
namespace Go.GL
open Go Go.RowKit
structure WoOk (D ds : List Int) (k : Nat) : Prop where
 pw : ds.Pairwise (· < ·)
 mem : ∀ z, z ∈ ds ↔ z ∈ D ∧ (k : Int) ≤ z
theorem WoOk.hit {D ds : List Int} {k : Nat} (h : WoOk D ds k) (h1 : 0 < ds.length) (h2 : ds.getD 0 0 = (k : Int)) : WoOk D (ds.drop 1) (k + 1) ∧ (k : Int) ∈ D := by
 cases ds with
 | nil => cases h1
 | cons x r =>
  have hx : x = (k : Int) := h2
  subst hx
  have hp := List.pairwise_cons.1 h.pw
  refine ⟨⟨hp.2, fun z => ⟨fun hz => ?_, fun hz => ?_⟩⟩, ((h.mem k).1 List.mem_cons_self).1⟩
  ·have := hp.1 z hz
   exact ⟨((h.mem z).1 (List.mem_cons_of_mem _ hz)).1, by omega⟩
  ·have h3 := (h.mem z).2 ⟨hz.1, by omega⟩
   rcases List.mem_cons.1 h3 with rfl | h3
   ·omega
   ·exact h3
theorem fB : ∀ (n : Nat) (l : List Int), l.Nodup → (∀ x ∈ l, 0 ≤ x ∧ x < (n : Int)) → l.length ≤ n
 | 0, l, _, h => by
  cases l with
  | nil => exact Nat.le_refl 0
  | cons x r => have := h x List.mem_cons_self; omega
 | n + 1, l, hn, h => by
  by_cases hm : (n : Int) ∈ l
  ·have h1 := List.length_erase_of_mem hm
   have h2 := fB n (l.erase (n : Int)) (hn.erase _) fun x hx => by
    have h3 := (hn.mem_erase_iff).1 hx
    have := h x h3.2
    have := h3.1
    omega
   omega
  ·have := fB n l hn fun x hx => by
    have h1 := h x hx
    by_cases e : x = (n : Int)
    ·exact absurd (e ▸ hx) hm
    ·omega
   omega
theorem own_cut {α : Type} {E : Elt α} {e base : Nat} {G : Pin} {w : World} {v : Value} {xs : List α} (h : Own E e G w base v xs) (m : Nat) (zz : Int) (hz : 0 ≤ zz) (hzm : zz.toNat = m) (hm : m ≤ xs.length) (hp : 0 < xs.length) :
  ∃ u, Own E e G w base u (xs.take m) ∧ u.ownBlock = v.ownBlock ∧ RunsSlice v u E.size none (some zz) := by
 subst hzm
 obtain ⟨cells, ⟨hl, hown⟩, hr⟩ := h.ex
 rcases hown with ⟨_, h0⟩ | ⟨g, cap, cur, rfl, hb, hg, hn, hc, hs, ht⟩
 ·omega
 ·refine ⟨.slice (some ⟨g, 0, none⟩) zz.toNat cap, ⟨⟨cells.take (zz.toNat * E.size), ⟨?_, Or.inr ⟨g, cap, cur, ?_, hb, hg, ?_, hc, hs, ?_⟩⟩, fun i x hx => ?_⟩, h.free⟩, rfl, ?_⟩
  ·rw [List.length_take, List.length_take, hl, Nat.min_eq_left hm]
   exact Nat.min_eq_left (Nat.mul_le_mul_right _ hm)
  ·rw [List.length_take, Nat.min_eq_left hm]
  ·rw [List.length_take, Nat.min_eq_left hm]; omega
  ·rw [List.length_take, Nat.min_eq_left hm, ← ht, List.take_take, Nat.min_eq_left (Nat.mul_le_mul_right _ hm)]
  ·rw [List.getElem?_take] at hx
   split at hx
   ·rename_i hi
    have h1 := hr i x hx
    have h2 : (i + 1) * E.size ≤ zz.toNat * E.size := Nat.mul_le_mul_right _ hi
    rw [Nat.add_mul, Nat.one_mul] at h2
    rw [List.drop_take, List.take_take, Nat.min_eq_left (by omega)]
    exact h1
   ·cases hx
  ·intro P w' d t e' ty pos aft gg x lx hx ρ htt hsz hρ hlx hhx
   have he := elem_of htt
   have ht' : P.underlying t = some (.slice (P.elem t)) := by rw [he]; exact htt
   have hsz' : ∀ w : World, (sizeOf (P.elem t)).run P w = .ok E.size w := fun w => by rw [he]; exact xW hsz w
   have key : (Instr.slice t (.slice (some ⟨g, 0, none⟩) xs.length cap) none (some (.int .i64 zz)) none).run P w' = .ok (.slice (some ⟨g, 0, none⟩) zz.toNat cap) w' := by
    refine (run_slice_h w' t (some ⟨g, 0, none⟩) xs.length cap ht' .i64 zz (by omega) (by omega)).trans ?_
    rw [hsz']
    simp [sliced, Addr.add]
   simp only [Option.map_none, Option.map_some] at hlx hhx
   simp [execOp, hρ, hlx, hhx, run_sliceAt_slice w' t _ _ _ _ ht', key]
end Go.GL
namespace Go.GL
open Go Go.RowKit
section
variable {q : PSt} {lf : Bool} {g : Nat} {wl ss kept : List Int} {m : Nat}
end
end Go.GL
namespace Go.GL
open Go Go.RowKit
inductive SubG (g : Nat) : Nat → Prop
 | self : SubG g g
 | left {x i : Nat} (h : SubG g x) (hl : loG x i) : SubG g i
 | right {x i : Nat} (h : SubG g x) (hr : roG x i) : SubG g i
section
variable {q : PSt} {rs list : List Int} {k i : Nat}
variable {x o : Int} {ds : List Int}
end
theorem sg_sub {ns : List Nd} (h : SG ns) {x : Nat} : (∃ k, k < ns.length ∧ den ns k = x) ↔ SubG (gOf ns) x := by
 have hlo := h.lo
 constructor
 ·have key : ∀ n k, ns.length - k ≤ n → k < ns.length → SubG (gOf ns) (den ns k) := by
   intro n
   induction n with
   | zero => intro k h1 h2; omega
   | succ n ih =>
    intro k h1 h2
    by_cases hk : k + 1 < ns.length
    ·obtain ⟨i, hki, hi, hz⟩ := h.last k hk
     have := ih i (by omega) hi
     rcases hz with hz | hz
     ·exact this.left ((qK h.opts hi).2 ⟨_, hz, rfl⟩)
     ·exact this.right ((qJ h.opts hi).2 ⟨_, hz, rfl⟩)
    ·have : k = ns.length - 1 := by omega
     subst this; exact .self
  rintro ⟨k, hk, rfl⟩
  exact key _ k (Nat.le_refl _) hk
 ·intro hs
  induction hs with
  | self => exact ⟨ns.length - 1, by omega, rfl⟩
  | left _ hl ih =>
   obtain ⟨k, hk, rfl⟩ := ih
   obtain ⟨o, ho, e⟩ := (qK h.opts hk).1 hl
   have := (xJ h.opts hk).1 o ho
   exact ⟨o.toNat, by omega, e.symm⟩
  | right _ hl ih =>
   obtain ⟨k, hk, rfl⟩ := ih
   obtain ⟨o, ho, e⟩ := (qJ h.opts hk).1 hl
   have := (xJ h.opts hk).2 o ho
   exact ⟨o.toNat, by omega, e.symm⟩
end Go.GL
namespace Go.GL
open Go Go.RowKit
theorem sU {l : List Int} (h : l.Pairwise (· < ·)) : l.Nodup := h.imp fun {a b} h e => by omega
section
variable {q : PSt} {rs P list : List Int} {n : Nat} {nodes : List Nd} {rk : List (Int × Int)}
end
noncomputable def formG (g : Nat) : List Nd := @dite _ (∃ ns, IsForm g ns) (Classical.propDecidable _) (fun h => Classical.choose h) (fun _ => [])
variable {ns : List Nd}
theorem IsForm.eq {g : Nat} (h : IsForm g ns) : formG g = ns := by
 have hx : ∃ ns, IsForm g ns := ⟨ns, h⟩
 unfold formG
 rw [dif_pos hx]
 exact (Classical.choose_spec hx).unique h
theorem form_eq {bs : List Int} (h : Ar ns bs) {m : Nat} (hm : m < ns.length) : formM ns bs m = formG (den ns m) :=
 (IsForm.eq (g := den ns m) ⟨(pT h hm).1, (pT h hm).2.1⟩).symm
end Go.GL
namespace Go.GL
open Go Go.RowKit Go.Sort Go.Lib
section
variable {P : Program} {ρ : Operand → Value} {w : World} {K : Value → World → Prop} {d : Option Nat} {t ty e : Nat} {pos : String} {aft : Array Edge} {g : Option (Nat × Bool)} {x : Operand} {G : Pin}
theorem r_makeFunc {fn : Fn} {caps : Array Operand} (vs : List Value) (hc : caps.toList.map ρ = vs) : (execOp ρ ⟨d, .makeFunc fn #[] caps, ty, pos, aft, g⟩).run P w = .ok (.value (.func fn #[] vs.toArray)) w := by
 have h2 : caps.map ρ = vs.toArray := by rw [← hc, ← Array.toList_map]
 simp [execOp, Instr.makeFunc, h2]
variable {α : Type} {E : Elt α}
end
end Go.GL
namespace Go.GL
open Go Go.RowKit
theorem form_is {q : PSt} (hok : PoolOk q) {r : Int} (hr : PlaceOk q r) : IsForm (pd q r) (formG (pd q r)) := by
 have h := pT hok.ar (m := r.toNat) (by have := hr.1; have := hr.2; omega)
 have e := IsForm.eq (g := pd q r) ⟨h.1, h.2.1⟩
 rw [e]; exact ⟨h.1, h.2.1⟩
end Go.GL
namespace Go.GL
open Go Go.RowKit
structure GsOk (q : PSt) (ls : List Int) (gs : List Nat) : Prop where
 pl : ∀ z ∈ ls, PlaceOk q z
 eq : ls.map (pd q) = gs
theorem GsOk.nil {q : PSt} : GsOk q [] [] := ⟨fun _ h => (List.not_mem_nil h).elim, rfl⟩
variable {ls : List Int} {gs : List Nat}
theorem GsOk.px {q q' : PSt} (h : GsOk q ls gs) (hx : PX q q') (hok : PoolOk q) (hok' : PoolOk q') : GsOk q' ls gs := ⟨fun z hz => hx.place (h.pl z hz), (px_map hx hok hok' h.pl).trans h.eq⟩
theorem GsOk.snoc {q : PSt} {z : Int} {g : Nat} (h : GsOk q ls gs) (hz : PlaceOk q z) (hg : pd q z = g) : GsOk q (ls ++ [z]) (gs ++ [g]) := by
 refine ⟨fun y hy => ?_, by rw [List.map_append, h.eq]; simp [hg]⟩
 rcases List.mem_append.1 hy with h1 | h1
 ·exact h.pl y h1
 ·rw [List.mem_singleton.1 h1]; exact hz
theorem GsOk.len {q : PSt} (h : GsOk q ls gs) : ls.length = gs.length := by rw [← h.eq, List.length_map]
section
variable {q : PSt} {f b : Int}
end
end Go.GL
namespace Go.GL
open Go Go.RowKit
def flOf (ns : List Nd) : List (ByteArray × Int) := (List.range ns.length).map fun i => (b2s (keyN (ns.getD i default).l (ns.getD i default).r), (i : Int))
def bkq (ns : List Nd) (bs : List Int) : PSt := ⟨ns, bs, flOf ns, [], [], [], []⟩
variable {ns : List Nd} {bs xs ys : List Int}
theorem find_fl (h : Ar ns bs) : FindOk ns (flOf ns) := by
 have hk : ∀ i, i < ns.length → ∀ l r : List Int, (∀ x ∈ l, 0 ≤ x) → (∀ x ∈ r, 0 ≤ x) → b2s (keyN (ns.getD i default).l (ns.getD i default).r) = b2s (keyN l r) → ns.getD i default = ⟨l, r⟩ := fun i hi l r hl hr e => by
  have oo := xJ h.opts hi
  obtain ⟨e1, e2⟩ := rZ (fun z hz => (oo.1 z hz).1) (fun z hz => (oo.2 z hz).1) hl hr (sG e)
  cases hn : ns.getD i default with
  | mk a b => rw [hn] at e1 e2; simp only at e1 e2; rw [e1, e2]
 constructor
 ·intro i hi
  have oo := xJ h.opts hi
  have key : ∀ n, (look ((List.range n).map fun i => (b2s (keyN (ns.getD i default).l (ns.getD i default).r), (i : Int))) (b2s (keyN (ns.getD i default).l (ns.getD i default).r))) = (if i < n then some (i : Int) else none) ∨ ns.length < n := by
   intro n
   induction n with
   | zero => left; rfl
   | succ n ih =>
    by_cases hn : ns.length < n + 1
    ·exact Or.inr hn
    left
    have ih := ih.resolve_right (by omega)
    rw [List.range_succ, List.map_append]
    unfold look at ih ⊢
    rw [List.find?_append]
    by_cases h1 : i < n
    ·rw [if_pos h1] at ih
     obtain ⟨p, hp, e⟩ := Option.map_eq_some_iff.1 ih
     rw [hp, if_pos (by omega)]
     simp [e]
    ·rw [if_neg h1] at ih
     have h2 := Option.map_eq_none_iff.1 ih
     rw [h2]
     by_cases h3 : i = n
     ·subst h3; rw [if_pos (by omega)]; simp
     ·rw [if_neg (by omega)]
      have hne : ¬ (b2s (keyN (ns.getD n default).l (ns.getD n default).r) = b2s (keyN (ns.getD i default).l (ns.getD i default).r)) := fun e => by
       have := hk n (by omega) _ _ (fun z hz => (oo.1 z hz).1) (fun z hz => (oo.2 z hz).1) e
       exact h.diff n i (by omega) hi this
      have hd := decide_eq_false hne
      simp only [List.map_cons, List.map_nil, List.find?_cons, hd, List.find?_nil]
      rfl
  have := (key ns.length).resolve_right (by omega)
  rw [if_pos hi] at this
  exact this
 ·intro l r z hl hr hz
  unfold look flOf at hz
  obtain ⟨p, hp, e⟩ := Option.map_eq_some_iff.1 hz
  have h1 := List.mem_of_find?_eq_some hp
  obtain ⟨i, hi, rfl⟩ := List.mem_map.1 h1
  have h3 := List.find?_some hp
  simp only [decide_eq_true_eq] at h3
  have h2 := h3
  have hi' := List.mem_range.1 hi
  exact ⟨i, hi', e.symm, hk i hi' l r hl hr h2⟩
theorem sD (h : Ar ns bs) : PoolOk (bkq ns bs) :=
 ⟨h, find_fl h, (fun _ _ _ h => by cases h), (fun _ _ h => by cases h), (fun _ _ _ h => by cases h), (fun _ _ h => by cases h)⟩
theorem sR : putN ns bs xs ys = ns ∨ putN ns bs xs ys = ns ++ [putNd xs ys] := by
 unfold putN
 split
 ·exact Or.inl rfl
 ·exact Or.inr rfl
structure PutOk (ns : List Nd) (bs xs ys : List Int) : Prop where
 ok : PoolOk (bkq (putN ns bs xs ys) (putB ns bs xs ys))
 px : PX (bkq ns bs) (bkq (putN ns bs xs ys) (putB ns bs xs ys))
 pl : PlaceOk (bkq (putN ns bs xs ys) (putB ns bs xs ys)) (putK ns bs xs ys)
 pd : pd (bkq (putN ns bs xs ys) (putB ns bs xs ys)) (putK ns bs xs ys) = mkG (xs.map (Go.GL.pd (bkq ns bs))) (ys.map (Go.GL.pd (bkq ns bs)))
 len : (putN ns bs xs ys).length ≤ ns.length + 1
theorem bk_put (h : PoolOk (bkq ns bs)) (hl : ns.length + 1 ≤ 1048576) (hls : xs.length ≤ 1048576 ∧ ys.length ≤ 1048576) (h1 : ∀ z ∈ xs, PlaceOk (bkq ns bs) z) (h2 : ∀ z ∈ ys, PlaceOk (bkq ns bs) z) : PutOk ns bs xs ys := by
 have ha : Ar ns bs := h.ar
 have b1 := kZ h1
 have b2 := kZ h2
 have hp := ha.put hl hls b1 b2
 have hb := ha.ok.put hl hls b1 b2
 have hn := sR (ns := ns) (bs := bs) (xs := xs) (ys := ys)
 refine ⟨sD hp.1, ⟨?_, fun k hk => ?_, fun _ h => h⟩, hb.2.1, hp.2.1, ?_⟩
 ·show ns.length ≤ (putN ns bs xs ys).length
  rcases hn with e | e <;> rw [e]
  ·exact Nat.le_refl _
  ·simp
 ·show (putN ns bs xs ys).getD k default = ns.getD k default
  rcases hn with e | e <;> rw [e]
  exact yV hk
 ·rcases hn with e | e <;> rw [e] <;> simp
section
variable {q q' : PSt} {ats : List Int} {k : Nat} {φ : Nat → Nat}
end
theorem nR {ns : List Nd} {bs : List Int} (h : PoolOk (bkq ns bs)) {z : Int} (hz : PlaceOk (bkq ns bs) z) : formM ns bs z.toNat = formG (pd (bkq ns bs) z) := form_eq h.ar (m := z.toNat) (show z.toNat < ns.length by have := hz.1; have h2 : z < (ns.length : Int) := hz.2; omega)
end Go.GL
namespace Go.GL
open Go Go.RowKit
end Go.GL
namespace Go.GL
open Go Go.RowKit
structure AllW (fs : List (List Nd)) : Prop where
 len : fs.length ≤ 100
 ok : ∀ i, i < fs.length → FormOk (fs.getD i []) ∧ 1 ≤ (fs.getD i []).length ∧ (fs.getD i []).length ≤ 1000
noncomputable def mkGm (fs gs : List (List Nd)) : Nat := mkG (fs.map gOf) (gs.map gOf)
structure RootOk (ns : List Nd) (bs : List Int) (fs : List Nd) : Prop where
 ok : PoolOk (bkq (addM ns bs fs).2.1 (addM ns bs fs).2.2)
 px : PX (bkq ns bs) (bkq (addM ns bs fs).2.1 (addM ns bs fs).2.2)
 pl : PlaceOk (bkq (addM ns bs fs).2.1 (addM ns bs fs).2.2) (rootM ns bs fs)
 pd : pd (bkq (addM ns bs fs).2.1 (addM ns bs fs).2.2) (rootM ns bs fs) = gOf fs
 len : (addM ns bs fs).2.1.length ≤ ns.length + fs.length
variable {ns : List Nd} {bs : List Int} {fs : List (List Nd)} {g : Nat}
theorem addM_old {fs : List Nd} : ∀ k, k ≤ fs.length → ns.length ≤ (addM ns bs (fs.take k)).2.1.length ∧ ∀ j, j < ns.length → (addM ns bs (fs.take k)).2.1.getD j default = ns.getD j default := by
 intro k
 induction k with
 | zero => intro _; exact ⟨Nat.le_refl _, fun j _ => rfl⟩
 | succ k ih =>
  intro hk
  obtain ⟨h1, h2⟩ := ih (by omega)
  rw [jA (by omega)]
  generalize addM ns bs (fs.take k) = s at h1 h2
  obtain ⟨az, ns2, bs2⟩ := s
  show ns.length ≤ (putN ns2 bs2 _ _).length ∧ ∀ j, j < ns.length → (putN ns2 bs2 _ _).getD j default = ns.getD j default
  simp only at h1 h2
  rcases sR (ns := ns2) (bs := bs2) (xs := atL az (fs.getD k default).l) (ys := atL az (fs.getD k default).r) with e | e <;> rw [e]
  ·exact ⟨h1, h2⟩
  ·refine ⟨by simp; omega, fun j hj => ?_⟩
   rw [yV (by omega)]; exact h2 j hj
theorem sE {fs : List Nd} (h : PoolOk (bkq ns bs)) (hf : FormOk fs) (h1 : 1 ≤ fs.length) (hl : ns.length + fs.length ≤ 1048576) : RootOk ns bs fs := by
 have ha : Ar ns bs := h.ar
 have hd := ha.add hf hl
 have hr := ha.root hf h1 hl
 have hao := kV ha.ok hf hl
 have ho := addM_old (ns := ns) (bs := bs) (fs := fs) fs.length (Nat.le_refl _)
 rw [List.take_length] at ho
 have hp := hao.places (fs.length - 1) (by have := hao.len; omega)
 have hal := hao.len
 have e : rootM ns bs fs = (addM ns bs fs).1.getD (fs.length - 1) 0 := by unfold rootM; rw [hal]
 refine ⟨sD hd.ar, ⟨ho.1, ho.2, fun _ h => h⟩, ?_, hr, hao.hi⟩
 rw [e]; exact hp
theorem sL {j : Nat} (h : j < fs.length) : (fs.take (j + 1)).map gOf = (fs.take j).map gOf ++ [gOf (fs.getD j [])] := by
 rw [xT fs [] h, List.map_append]; rfl
theorem sub_mk {ls rs : List Nat} {x : Nat} (h : SubG (mkG ls rs) x) : x = mkG ls rs ∨ ∃ y, y ∈ ls ++ rs ∧ SubG y x := by
 induction h with
 | self => exact Or.inl rfl
 | left _ hl ih =>
  rcases ih with rfl | ⟨y, hy, hs⟩
  ·exact Or.inr ⟨_, List.mem_append_left _ (lo_mk.1 hl), .self⟩
  ·exact Or.inr ⟨y, hy, hs.left hl⟩
 | right _ hl ih =>
  rcases ih with rfl | ⟨y, hy, hs⟩
  ·exact Or.inr ⟨_, List.mem_append_right _ (ro_mk.1 hl), .self⟩
  ·exact Or.inr ⟨y, hy, hs.right hl⟩
theorem form_le (h : IsForm g ns) {L : List Nat} (hL : ∀ x, SubG g x → x ∈ L) : ns.length ≤ L.length := by
 have h1 : ((List.range ns.length).map (den ns)).Nodup := by
  unfold List.Nodup
  rw [List.pairwise_map]
  exact (List.nodup_range (n := ns.length)).imp_of_mem fun {a b} ha hb hne e => hne (h.1.inj (List.mem_range.1 ha) (List.mem_range.1 hb) e)
 have h2 : ((List.range ns.length).map (den ns)) ⊆ L := fun x hx => by
  obtain ⟨j, hj, rfl⟩ := List.mem_map.1 hx
  exact hL _ (h.2 ▸ (sg_sub h.1).1 ⟨j, List.mem_range.1 hj, rfl⟩)
 have := h1.length_le_of_subset h2
 simpa using this
theorem nL (h : IsForm g ns) (hl : ns.length ≤ 1048576) : FormOk ns :=
 ⟨hl, h.1.opts, fun i hi => by
  have oo := xJ h.1.opts hi
  have a := fB i _ (sU (h.1.pw i hi).1) oo.1
  have b := fB i _ (sU (h.1.pw i hi).2) oo.2
  omega⟩
theorem rX : ∀ (l : List (List Nd)) (ns : List Nd) (bs : List Int), PoolOk (bkq ns bs) → (∀ f ∈ l, FormOk f ∧ 1 ≤ f.length ∧ f.length ≤ 1000) → ns.length + 1000 * l.length ≤ 1048575 →
  ∃ ns2 bs2 ats, PoolOk (bkq ns2 bs2) ∧ PX (bkq ns bs) (bkq ns2 bs2) ∧ GsOk (bkq ns2 bs2) ats (l.map gOf) ∧ ns2.length ≤ ns.length + 1000 * l.length
 | [], ns, bs, h, _, _ => ⟨ns, bs, [], h, PX.refl _, GsOk.nil, Nat.le_refl _⟩
 | f :: l, ns, bs, h, hl, hb => by
  rw [List.length_cons] at hb
  obtain ⟨f1, f2, f3⟩ := hl f List.mem_cons_self
  have hr := sE (fs := f) h f1 f2 (by omega)
  have hlen := hr.len
  obtain ⟨ns2, bs2, ats, h1, h2, h3, h4⟩ := rX l _ _ hr.ok (fun g hg => hl g (List.mem_cons_of_mem _ hg)) (by omega)
  refine ⟨ns2, bs2, rootM ns bs f :: ats, h1, hr.px.trans h2, ⟨fun z hz => ?_, ?_⟩, by rw [List.length_cons]; omega⟩
  ·rcases List.mem_cons.1 hz with rfl | hz
   ·exact h2.place hr.pl
   ·exact h3.pl z hz
  ·rw [List.map_cons, List.map_cons, h3.eq, h2.pd hr.ok h1 hr.pl, hr.pd]
theorem allW_mem (h : AllW fs) : ∀ f ∈ fs, FormOk f ∧ 1 ≤ f.length ∧ f.length ≤ 1000 := fun f hf => by
 obtain ⟨i, hi, e⟩ := List.mem_iff_getElem.1 hf
 have := h.ok i hi
 have e2 : fs.getD i [] = f := by simp [List.getD, hi, e]
 rw [e2] at this; exact this
theorem mk_isform {gs : List (List Nd)} (hf : AllW fs) (hg : AllW gs) : IsForm (mkGm fs gs) (formG (mkGm fs gs)) := by
 have h1 := hf.len
 have h2 := hg.len
 obtain ⟨ns, bs, ats, a1, a2, a3, a4⟩ := rX fs [] [] (sD Ar.empty) (allW_mem hf) (by rw [List.length_nil]; omega)
 rw [List.length_nil] at a4
 obtain ⟨ns2, bs2, ats2, b1, b2, b3, b4⟩ := rX gs ns bs a1 (allW_mem hg) (by omega)
 have c := a3.px b2 a1 b1
 have l1 := c.len
 have l2 := b3.len
 rw [List.length_map] at l1 l2
 have hp := bk_put (xs := ats) (ys := ats2) b1 (by omega) ⟨by omega, by omega⟩ c.pl b3.pl
 have := form_is hp.ok hp.pl
 rw [hp.pd, c.eq, b3.eq] at this
 exact this
end Go.GL
namespace Go.GL
open Go Go.RowKit
end Go.GL
namespace Go.GL
open Go Go.RowKit
end Go.GL
namespace Go.GL
open Go Go.RowKit
section
variable {P : Program} {w : World} {ρ : Operand → Value} {d : Option Nat} {t t' ty : Nat} {pos : String} {aft : Array Edge} {g : Option (Nat × Bool)} {x y : Operand} {i j : Int}
end
end Go.GL
namespace Go.GL
open Go Go.RowKit
end Go.GL
namespace Go.GL
open Go Go.RowKit
section
variable {q q' : PSt} {ats : List Int} {k : Nat} {φ : Nat → Nat}
end
section
variable {q q' : PSt} {sm : List (Int × Int)} {ats : List Int} {k a n : Nat} {gs : List Nd}
end
end Go.GL
namespace Go.GL
open Go Go.RowKit
end Go.GL
namespace Go.GL
open Go Go.RowKit
end Go.GL
namespace Go.GL
open Go
variable {i k j q : Nat} {N : List (List Int)} {t : Int} {rs ts rs2 : List (Int × Int)} {fs : List Int}
theorem pS {α : Type} {l r : List α} {d : α} (h : i < l.length) : (l ++ r).getD i d = l.getD i d := by
 simp only [List.getD, List.getElem?_append_left h]
theorem kD {α : Type} {l : List α} {s : Nat} {x d : α} (h : i < l.length) : (l.set i x).getD s d = if s = i then x else l.getD s d := by
 by_cases e : s = i
 ·subst e; simp [List.getD, h]
 ·rw [if_neg e]; simp only [List.getD, List.getElem?_set_ne (fun a => e a.symm)]
def ArOk (N : List (List Int)) : Prop := ∀ s, s < N.length → ∀ k ∈ N.getD s [], 0 ≤ k ∧ k.toNat / 2 < s / 2 ∧ k.toNat % 2 ≠ s % 2 ∧ k.toNat < N.length
def winF (N : List (List Int)) : Nat → Nat → Bool
 | 0, _ => false
 | f + 1, s => (N.getD s []).any fun k => !winF N f k.toNat
def winA (N : List (List Int)) (s : Nat) : Bool := winF N (s / 2 + 1) s
theorem tP {N : List (List Int)} (h : ArOk N) : ∀ (n f g s : Nat), s / 2 ≤ n → s < N.length → s / 2 < f → s / 2 < g → winF N f s = winF N g s
 | n, 0, g, s, hn, hs, hf, hg => by omega
 | n, f + 1, 0, s, hn, hs, hf, hg => by omega
 | 0, f + 1, g + 1, s, hn, hs, hf, hg => by
  have e : N.getD s [] = [] := by
   cases hc : N.getD s [] with
   | nil => rfl
   | cons k r =>
    have := h s hs k (by rw [hc]; exact List.mem_cons_self)
    omega
  simp only [winF, e, List.any_nil]
 | n + 1, f + 1, g + 1, s, hn, hs, hf, hg => by
  have key : ∀ k ∈ N.getD s [], winF N f k.toNat = winF N g k.toNat := fun k hk => by
   have hk2 := h s hs k hk
   exact tP h n f g k.toNat (by omega) hk2.2.2.2 (by omega) (by omega)
  simp only [winF]
  rw [Bool.eq_iff_iff, List.any_eq_true, List.any_eq_true]
  constructor
  ·rintro ⟨k, hk, hw⟩; exact ⟨k, hk, by rw [← key k hk]; exact hw⟩
  ·rintro ⟨k, hk, hw⟩; exact ⟨k, hk, by rw [key k hk]; exact hw⟩
theorem kX (h : ArOk N) {s : Nat} (hs : s < N.length) : winA N s = (N.getD s []).any fun k => !winA N k.toNat := by
 unfold winA
 show ((N.getD s []).any fun k => !winF N (s / 2) k.toNat) = _
 rw [Bool.eq_iff_iff, List.any_eq_true, List.any_eq_true]
 have key : ∀ k ∈ N.getD s [], winF N (s / 2) k.toNat = winF N (k.toNat / 2 + 1) k.toNat := fun k hk => by
  have hk2 := h s hs k hk
  exact tP h (k.toNat / 2) _ _ _ (Nat.le_refl _) hk2.2.2.2 hk2.2.1 (Nat.lt_succ_self _)
 constructor
 ·rintro ⟨k, hk, hw⟩; exact ⟨k, hk, by rw [← key k hk]; exact hw⟩
 ·rintro ⟨k, hk, hw⟩; exact ⟨k, hk, by rw [key k hk]; exact hw⟩
def mvA (s : Nat) : Int := 1 + ((s % 2 : Nat) : Int)
def wnA (N : List (List Int)) (s : Nat) : Int := if winA N s = true then mvA s else 3 - mvA s
theorem gD (s : Nat) : mvA s = 1 ∨ mvA s = 2 := by unfold mvA; omega
theorem wnA_pos (N : List (List Int)) (s : Nat) : wnA N s = 1 ∨ wnA N s = 2 := by
 have := gD s
 unfold wnA; split <;> omega
structure ArI (N : List (List Int)) (t : Int) (rs : List (Int × Int)) : Prop where
 len : rs.length = N.length
 ok : ∀ s, s < N.length → (rs.getD s default).1 = 0 ∨ ((rs.getD s default).1 = wnA N s ∧ (rs.getD s default).2 < t)
def hitP (rs : List (Int × Int)) (t : Int) (p : Int) (k : Int) : Prop := (rs.getD k.toNat default).1 = p ∧ (rs.getD k.toNat default).2 < t
instance {rs : List (Int × Int)} {t p k : Int} : Decidable (hitP rs t p k) := by unfold hitP; infer_instance
def decW (N : List (List Int)) (rs : List (Int × Int)) (t : Int) (s : Nat) : Int := if (N.getD s []).any (fun k => decide (hitP rs t (mvA s) k)) = true then mvA s else 3 - mvA s
def decB (N : List (List Int)) (rs : List (Int × Int)) (t : Int) (s : Nat) : Bool := (N.getD s []).any (fun k => decide (hitP rs t (mvA s) k)) || (N.getD s []).all (fun k => decide (hitP rs t (3 - mvA s) k))
theorem mvA_next {s : Nat} (h : k % 2 ≠ s % 2) : mvA k = 3 - mvA s := by unfold mvA; omega
theorem wn_next {s : Nat} (h : k % 2 ≠ s % 2) : (wnA N k = mvA s ↔ winA N k = false) ∧ (wnA N k = 3 - mvA s ↔ winA N k = true) := by
 have e := mvA_next h
 have p := gD s
 unfold wnA
 cases winA N k <;> simp <;> omega
theorem dec_ok (h : ArOk N) (hi : ArI N t rs) {s : Nat} (hs : s < N.length) (hd : decB N rs t s = true) : decW N rs t s = wnA N s := by
 have key : ∀ k ∈ N.getD s [], ∀ p, p = mvA s ∨ p = 3 - mvA s → hitP rs t p k → wnA N k.toNat = p := fun k hk p hp hh => by
  have hk2 := h s hs k hk
  have p1 := gD s
  rcases hi.ok k.toNat hk2.2.2.2 with e | e
  ·have := hh.1; omega
  ·rw [← e.1]; exact hh.1
 unfold decW
 by_cases ha : (N.getD s []).any (fun k => decide (hitP rs t (mvA s) k)) = true
 ·rw [if_pos ha]
  obtain ⟨k, hk, hh⟩ := List.any_eq_true.1 ha
  have hk2 := h s hs k hk
  have e := ((wn_next hk2.2.2.1).1.1 (key k hk _ (Or.inl rfl) (of_decide_eq_true hh)))
  unfold wnA
  rw [kX h hs, if_pos (List.any_eq_true.2 ⟨k, hk, by rw [e]; rfl⟩)]
 ·rw [if_neg ha]
  have hb : (N.getD s []).all (fun k => decide (hitP rs t (3 - mvA s) k)) = true := by
   unfold decB at hd
   rw [Bool.or_eq_true] at hd
   exact hd.resolve_left ha
  unfold wnA
  rw [kX h hs, if_neg]
  intro hc
  obtain ⟨k, hk, hw⟩ := List.any_eq_true.1 hc
  have hk2 := h s hs k hk
  have e := ((wn_next hk2.2.2.1).2.1 (key k hk _ (Or.inr rfl) (of_decide_eq_true (List.all_eq_true.1 hb k hk))))
  rw [e] at hw; cases hw
theorem dec_all (h : ArOk N) (hi : ArI N t rs) (hn : ∀ s, s < N.length → (rs.getD s default).1 = 0 → decB N rs t s = false) :
  ∀ n s, s / 2 ≤ n → s < N.length → (rs.getD s default).1 = wnA N s := by
 intro n
 induction n using Nat.strongRecOn with
 | ind n ih =>
  intro s hsn hs
  rcases hi.ok s hs with e | e
  ·exfalso
   have hd := hn s hs e
   have key : ∀ k ∈ N.getD s [], hitP rs t (wnA N k.toNat) k := fun k hk => by
    have hk2 := h s hs k hk
    have a : (rs.getD k.toNat default).1 = wnA N k.toNat := ih (k.toNat / 2) (by omega) k.toNat (Nat.le_refl _) hk2.2.2.2
    refine ⟨a, ?_⟩
    rcases hi.ok k.toNat hk2.2.2.2 with b | b
    ·have := wnA_pos N k.toNat; omega
    ·exact b.2
   unfold decB at hd
   rw [Bool.or_eq_false_iff] at hd
   have hall : (N.getD s []).all (fun k => decide (hitP rs t (3 - mvA s) k)) = true := List.all_eq_true.2 fun k hk => by
    have hk2 := h s hs k hk
    have a := key k hk
    have p1 := gD s
    have p2 := wnA_pos N k.toNat
    by_cases hw : wnA N k.toNat = mvA s
    ·rw [hw] at a
     have := List.any_eq_false.1 hd.1 k hk
     exact absurd (decide_eq_true a) this
    ·rw [show 3 - mvA s = wnA N k.toNat by omega]; exact decide_eq_true a
   rw [hall] at hd
   cases hd.2
  ·exact e.1
def zc (rs : List (Int × Int)) : Nat := rs.countP fun p => p.1 = 0
theorem zc_set {x : Int × Int} (hx : x.1 ≠ 0) : ∀ {rs : List (Int × Int)} {i : Nat}, i < rs.length → zc (rs.set i x) ≤ zc rs ∧ ((rs.getD i default).1 = 0 → zc (rs.set i x) < zc rs)
 | [], i, h => by cases h
 | p :: r, 0, _ => by
  have e1 : zc ((p :: r).set 0 x) = zc r := by
   show List.countP _ (x :: r) = _
   rw [List.countP_cons_of_neg (by simpa using hx)]; rfl
  have e2 : zc (p :: r) = zc r + if p.1 = 0 then 1 else 0 := by
   unfold zc
   rw [List.countP_cons]
   by_cases hp : p.1 = 0 <;> simp [hp]
  rw [e1, e2]
  refine ⟨Nat.le_add_right _ _, fun h => ?_⟩
  have h' : p.1 = 0 := h
  rw [if_pos h']; omega
 | p :: r, i + 1, h => by
  have ih := zc_set hx (rs := r) (i := i) (by simpa using h)
  have e1 : zc ((p :: r).set (i + 1) x) = zc (r.set i x) + if p.1 = 0 then 1 else 0 := by
   unfold zc
   rw [List.set_cons_succ, List.countP_cons]
   by_cases hp : p.1 = 0 <;> simp [hp]
  have e2 : zc (p :: r) = zc r + if p.1 = 0 then 1 else 0 := by
   unfold zc
   rw [List.countP_cons]
   by_cases hp : p.1 = 0 <;> simp [hp]
  rw [e1, e2]
  exact ⟨by omega, fun hq => by have := ih.2 (by simpa [List.getD] using hq); omega⟩
structure FdI (N : List (List Int)) (rs : List (Int × Int)) (t : Int) (j : Nat) (fs : List Int) (ts : List (Int × Int)) : Prop where
 len : ts.length = fs.length
 le : fs.length ≤ j
 ok : ∀ i, i < fs.length → 0 ≤ fs.getD i 0 ∧ (fs.getD i 0).toNat < j ∧ (rs.getD (fs.getD i 0).toNat default).1 = 0 ∧ decB N rs t (fs.getD i 0).toNat = true ∧ ts.getD i default = (decW N rs t (fs.getD i 0).toNat, t)
 all : fs = [] → ∀ s, s < j → (rs.getD s default).1 = 0 → decB N rs t s = false
theorem FdI.start : FdI N rs t 0 [] [] := ⟨rfl, Nat.le_refl _, fun i hi => absurd hi (Nat.not_lt_zero i), fun _ s hs => absurd hs (Nat.not_lt_zero s)⟩
theorem FdI.no (h : FdI N rs t j fs ts) (hn : (rs.getD j default).1 ≠ 0 ∨ decB N rs t j = false) : FdI N rs t (j + 1) fs ts :=
 ⟨h.len, by have := h.le; omega, fun i hi => by have a := h.ok i hi; exact ⟨a.1, by omega, a.2.2⟩, fun he s hs hz => by
  by_cases e : s = j
  ·subst e
   rcases hn with a | a
   ·exact absurd hz a
   ·exact a
  ·exact h.all he s (by omega) hz⟩
theorem FdI.yes (h : FdI N rs t j fs ts) (hz : (rs.getD j default).1 = 0) (hd : decB N rs t j = true) : FdI N rs t (j + 1) (fs ++ [(j : Int)]) (ts ++ [(decW N rs t j, t)]) := by
 refine ⟨by simp [h.len], by have := h.le; simp; omega, fun i hi => ?_, fun he => by simp at he⟩
 by_cases e : i < fs.length
 ·have a := h.ok i e
  rw [pS e, pS (by rw [h.len]; exact e)]
  exact ⟨a.1, by omega, a.2.2⟩
 ·have e2 : i = fs.length := by simp at hi; omega
  subst e2
  rw [show (fs ++ [(j : Int)]).getD fs.length 0 = (j : Int) by simp [List.getD], show (ts ++ [(decW N rs t j, t)]).getD fs.length default = (decW N rs t j, t) by simp [List.getD, ← h.len]]
  exact ⟨by omega, by simp, by simpa using hz, by simpa using hd, by simp⟩
structure TdI (N : List (List Int)) (rs : List (Int × Int)) (t : Int) (q : Nat) (rs2 : List (Int × Int)) : Prop where
 len : rs2.length = rs.length
 ok : ∀ s, s < rs.length → rs2.getD s default = rs.getD s default ∨ ((rs.getD s default).1 = 0 ∧ decB N rs t s = true ∧ rs2.getD s default = (decW N rs t s, t))
 zle : zc rs2 ≤ zc rs
 zlt : 1 ≤ q → zc rs2 < zc rs
 z0 : q = 0 → rs2 = rs
theorem TdI.start : TdI N rs t 0 rs := ⟨rfl, fun s _ => Or.inl rfl, Nat.le_refl _, fun h => absurd h (by omega), fun _ => rfl⟩
theorem decW_ne {s : Nat} : decW N rs t s ≠ 0 := by
 have := gD s
 unfold decW; split <;> omega
theorem TdI.next (h : TdI N rs t q rs2) (hf : FdI N rs t j fs ts) (hq : q < fs.length) (hj : j ≤ rs.length) : TdI N rs t (q + 1) (rs2.set (fs.getD q 0).toNat (ts.getD q default)) := by
 obtain ⟨h0, h1, h2, h3, h4⟩ := hf.ok q hq
 have hl : (fs.getD q 0).toNat < rs2.length := by rw [h.len]; omega
 rw [h4]
 have hz := zc_set (x := (decW N rs t (fs.getD q 0).toNat, t)) decW_ne hl
 refine ⟨by rw [List.length_set]; exact h.len, fun s hs => ?_, Nat.le_trans hz.1 h.zle, fun _ => ?_, fun e => by omega⟩
 ·by_cases e : (fs.getD q 0).toNat = s
  ·subst e
   right
   exact ⟨h2, h3, by rw [kD hl, if_pos rfl]⟩
  ·rw [kD hl, if_neg (fun a => e a.symm)]
   exact h.ok s hs
 ·by_cases e : 1 ≤ q
  ·have := h.zlt e; omega
  ·have e2 := h.z0 (by omega)
   have := hz.2 (by rw [e2]; exact h2)
   have := h.zle
   omega
theorem TdI.done (h : ArOk N) (hi : ArI N t rs) (hd : TdI N rs t q rs2) : ArI N (t + 1) rs2 :=
 ⟨hd.len.trans hi.len, fun s hs => by
  rcases hd.ok s (by rw [hi.len]; exact hs) with a | ⟨a, b, c⟩
  ·rw [a]
   rcases hi.ok s hs with d | d
   ·exact Or.inl d
   ·exact Or.inr ⟨d.1, by omega⟩
  ·rw [c]
   exact Or.inr ⟨dec_ok h hi hs b, by show t < t + 1; omega⟩⟩
theorem FdI.done (h : ArOk N) (hi : ArI N t rs) (hf : FdI N rs t N.length fs ts) (he : fs = []) : ∀ s, s < N.length → (rs.getD s default).1 = wnA N s :=
 fun s hs => dec_all h hi (fun s hs hz => hf.all he s hs hz) (s / 2) s (Nat.le_refl _) hs
theorem ArI.start (N : List (List Int)) : ArI N 0 (List.replicate N.length (0, 0)) := ⟨by simp, fun s hs => Or.inl (by simp [List.getD, hs])⟩
theorem zc_start (n : Nat) : zc (List.replicate n ((0, 0) : Int × Int)) ≤ n := by
 unfold zc
 exact Nat.le_trans List.countP_le_length (by simp)
def arS (s : Int) (l : List Int) : List Int := l.map fun k => 2 * k + s
def arN : List (List Int) → List (List Int) → List (List Int)
 | l :: L, r :: R => arS 1 l :: arS 0 r :: arN L R
 | _, _ => []
theorem jJ : ∀ {L R : List (List Int)}, L.length = R.length → (arN L R).length = 2 * L.length
 | [], [], _ => rfl
 | l :: L, r :: R, h => by
  have := jJ (L := L) (R := R) (by simpa using h)
  simp only [arN, List.length_cons, this]; omega
theorem arN_at : ∀ {L R : List (List Int)}, L.length = R.length → ∀ {i : Nat}, i < L.length → (arN L R).getD (2 * i) [] = arS 1 (L.getD i []) ∧ (arN L R).getD (2 * i + 1) [] = arS 0 (R.getD i [])
 | l :: L, r :: R, h, 0, _ => ⟨rfl, rfl⟩
 | l :: L, r :: R, h, i + 1, hi => by
  have ih := arN_at (L := L) (R := R) (by simpa using h) (i := i) (by simpa using hi)
  rw [show 2 * (i + 1) = 2 * i + 1 + 1 by omega]
  exact ih
theorem arN_snoc : ∀ {L R : List (List Int)} {l r : List Int}, L.length = R.length → arN (L ++ [l]) (R ++ [r]) = arN L R ++ [arS 1 l, arS 0 r]
 | [], [], _, _, _ => rfl
 | a :: L, b :: R, l, r, h => by
  have := arN_snoc (L := L) (R := R) (l := l) (r := r) (by simpa using h)
  simp only [List.cons_append, arN, this]
def AcL (L : List (List Int)) : Prop := ∀ i, i < L.length → ∀ k ∈ L.getD i [], 0 ≤ k ∧ k < i
theorem arN_ok {L R : List (List Int)} (h : L.length = R.length) (hL : AcL L) (hR : AcL R) : ArOk (arN L R) := fun s hs k hk => by
 rw [jJ h] at hs ⊢
 have hi : s / 2 < L.length := by omega
 have ha := arN_at h hi
 rcases (show s = 2 * (s / 2) ∨ s = 2 * (s / 2) + 1 by omega) with e | e
 ·rw [e, ha.1] at hk
  obtain ⟨x, hx, rfl⟩ := List.mem_map.1 hk
  have := hL _ hi x hx
  omega
 ·rw [e, ha.2] at hk
  obtain ⟨x, hx, rfl⟩ := List.mem_map.1 hk
  have := hR _ (by omega) x hx
  omega
end Go.GL
namespace Go.GL
open Go Go.RowKit
variable {ns : List Nd} {l ps ps' : List Int} {k j q : Nat} {p : Int → Prop} {ls : Bool} {N L R : List (List Int)} {rs : List (Int × Int)} {t : Int}
theorem mF (h : GoodP ns) : Small ns := ⟨Nat.le_trans h.hi (by decide), fun i hi => ⟨Nat.le_trans (h.lenl hi) (by decide), Nat.le_trans (h.lenr hi) (by decide)⟩⟩
theorem fM {b b' : Int} (hb : b ≤ b') : ∀ {l : List Int} {last : Int}, goodFrom last b l = true → goodFrom last b' l = true
 | [], _, _ => rfl
 | x :: r, last, h => by
  rw [goodFrom] at h ⊢
  split at h
  ·cases h
  ·rename_i hc
   rw [if_neg (by omega)]
   exact fM hb h
theorem fK {b b' : Int} (hb : b ≤ b') (h : goodOpts l b = true) : goodOpts l b' = true := by
 unfold goodOpts at h ⊢
 split at h
 ·cases h
 ·rw [if_neg (by assumption)]; exact fM hb h
structure LgP (L R : List (List Int)) : Prop where
 lo : 1 ≤ L.length
 hi : L.length ≤ 36
 len : R.length = L.length
 ok : ∀ i, i < L.length → goodOpts (L.getD i []) (L.length : Int) = true ∧ goodOpts (R.getD i []) (L.length : Int) = true
theorem qV {f : Nd → List Int} (hf : f default = []) (i : Nat) : (ns.map f).getD i [] = f (ns.getD i default) := by
 simp only [List.getD, List.getElem?_map]
 cases ns[i]? with
 | none => simpa using hf.symm
 | some n => rfl
theorem loop_lg (h : GoodP ns) (hl : ns.length ≤ 36) : LgP (ns.map Nd.l) (ns.map Nd.r) :=
 ⟨by rw [List.length_map]; exact h.lo, by rw [List.length_map]; exact hl, by simp, fun i hi => by
  rw [List.length_map] at hi ⊢
  rw [qV rfl, qV rfl]
  have := h.opts i hi
  exact ⟨fK (by omega) this.1, fK (by omega) this.2⟩⟩
theorem fC (h : OptsOk ns) : AcL (ns.map Nd.l) ∧ AcL (ns.map Nd.r) :=
 ⟨fun i hi k hk => by
  rw [List.length_map] at hi
  rw [qV rfl] at hk
  exact (xJ h hi).1 k hk, fun i hi k hk => by
  rw [List.length_map] at hi
  rw [qV rfl] at hk
  exact (xJ h hi).2 k hk⟩
def PhV (ps : List Int) : Prop := ∀ x, x < ps.length → ps.getD x 0 = 0 ∨ ps.getD x 0 = 1 ∨ ps.getD x 0 = 2
def TuV (ts : List Int) : Prop := ∀ x, x < ts.length → 0 ≤ ts.getD x 0 ∧ ts.getD x 0 ≤ ((x / 2 : Nat) : Int)
def PhB (ps : List Int) (m : Nat) : Prop := ∀ x, x < ps.length → ps.getD x 0 = 1 → m < x / 2
def PhX (ps : List Int) (s : Nat) : Prop := ∀ x, x < ps.length → ps.getD x 0 = 1 → s / 2 < x / 2 ∨ x = s
def PhLe (ps ps' : List Int) : Prop := ps'.length = ps.length ∧ ∀ x, x < ps.length → ps'.getD x 0 = 1 → ps.getD x 0 = 1
theorem PhV.set (h : PhV ps) {s : Nat} {v : Int} (hv : v = 1 ∨ v = 2) (hs : s < ps.length) : PhV (ps.set s v) := fun x hx => by
 rw [List.length_set] at hx
 rw [kD hs]
 split
 ·omega
 ·exact h x hx
theorem PhB.mark {s : Nat} (h : PhB ps (s / 2)) (hs : s < ps.length) : PhX (ps.set s 1) s := fun x hx h1 => by
 rw [List.length_set] at hx
 rw [kD hs] at h1
 split at h1
 ·exact Or.inr (by assumption)
 ·exact Or.inl (h x hx h1)
theorem PhX.next {s : Nat} (h : PhX ps s) (hk : k / 2 < s / 2) : PhB ps (k / 2) := fun x hx h1 => by
 rcases h x hx h1 with a | a
 ·omega
 ·subst a; exact hk
theorem PhX.le {s : Nat} (h : PhX ps s) (hl : PhLe ps ps') : PhX ps' s := fun x hx h1 => h x (by rw [← hl.1]; exact hx) (hl.2 x (by rw [← hl.1]; exact hx) h1)
theorem PhLe.refl (ps : List Int) : PhLe ps ps := ⟨rfl, fun _ _ h => h⟩
theorem PhLe.trans {a b c : List Int} (h : PhLe a b) (k : PhLe b c) : PhLe a c := ⟨k.1.trans h.1, fun x hx h1 => h.2 x hx (k.2 x (by rw [h.1]; exact hx) h1)⟩
theorem PhLe.done {s : Nat} (hs : s < ps.length) (h : PhLe (ps.set s 1) ps') : PhLe ps (ps'.set s 2) := by
 have hl : ps'.length = ps.length := by rw [h.1, List.length_set]
 refine ⟨by rw [List.length_set]; exact hl, fun x hx h1 => ?_⟩
 rw [kD (by omega)] at h1
 split at h1
 ·omega
 ·rename_i hne
  have h2 := h.2 x (by rw [List.length_set]; exact hx) h1
  rw [kD hs, if_neg hne] at h2
  exact h2
theorem TuV.set {ts : List Int} (h : TuV ts) {s : Nat} (hs : s < ts.length) (hk : k < ts.length) (hlt : k / 2 < s / 2) : TuV (ts.set s (max (ts.getD s 0) (ts.getD k 0 + 1))) := fun x hx => by
 rw [List.length_set] at hx
 rw [kD hs]
 have a := h s hs
 have b := h k hk
 split
 ·subst_vars; omega
 ·exact h x hx
theorem PhV.zero (n : Nat) : PhV (List.replicate n 0) := fun x hx => Or.inl (by simp at hx; simp [List.getD, hx])
theorem TuV.zero (n : Nat) : TuV (List.replicate n 0) := fun x hx => by
 simp at hx
 have : (List.replicate n (0 : Int)).getD x 0 = 0 := by simp [List.getD, hx]
 omega
theorem PhLe.all {n : Nat} (h : PhLe (List.replicate n 0) ps) (m : Nat) : PhB ps m := fun x hx h1 => by
 have hx2 : x < n := by have := h.1; simp at this; omega
 have := h.2 x (by simpa using hx2) h1
 have e : (List.replicate n (0 : Int)).getD x 0 = 0 := by simp [List.getD, hx2]
 omega
theorem tJ [DecidablePred p] (h : j < l.length) (hn : (l.take j).any (fun k => decide (p k)) = false) (hp : ¬ p (l.getD j 0)) : (l.take (j + 1)).any (fun k => decide (p k)) = false := by
 rw [xT l 0 h, List.any_append, hn]; simpa using hp
theorem all_f [DecidablePred p] (h : j < l.length) (hl : ls = (l.take j).all (fun k => decide (p k))) (hx : ls = false) : false = (l.take (j + 1)).all (fun k => decide (p k)) := by
 rw [xT l 0 h, List.all_append, ← hl, hx]; rfl
theorem all_n [DecidablePred p] (h : j < l.length) (hp : ¬ p (l.getD j 0)) : false = (l.take (j + 1)).all (fun k => decide (p k)) := by
 rw [xT l 0 h, List.all_append]
 have : decide (p (l.getD j 0)) = false := decide_eq_false hp
 simp only [List.all_cons, List.all_nil, this, Bool.false_and, Bool.and_false]
theorem all_d [DecidablePred p] {q : Prop} [Decidable q] (h : j < l.length) (hl : ls = (l.take j).all (fun k => decide (p k))) (hx : ls = true) (hq : q ↔ p (l.getD j 0)) : decide q = (l.take (j + 1)).all (fun k => decide (p k)) := by
 rw [xT l 0 h, List.all_append, ← hl, hx]
 simp only [List.all_cons, List.all_nil, Bool.true_and, Bool.and_true]
 exact decide_eq_decide.2 hq
theorem dec_hit {s : Nat} (h : j < (N.getD s []).length) (hp : hitP rs t (mvA s) ((N.getD s []).getD j 0)) : decW N rs t s = mvA s ∧ decB N rs t s = true := by
 have : (N.getD s []).any (fun k => decide (hitP rs t (mvA s) k)) = true := List.any_eq_true.2 ⟨_, yX h, decide_eq_true hp⟩
 unfold decW decB
 rw [this]
 exact ⟨if_pos rfl, rfl⟩
theorem dec_miss {s : Nat} (hj : (N.getD s []).length ≤ j) (hn : ((N.getD s []).take j).any (fun k => decide (hitP rs t (mvA s) k)) = false) (hl : ls = ((N.getD s []).take j).all (fun k => decide (hitP rs t (3 - mvA s) k))) :
  decW N rs t s = 3 - mvA s ∧ decB N rs t s = ls := by
 rw [List.take_of_length_le hj] at hn hl
 unfold decW decB
 rw [hn, ← hl]
 exact ⟨if_neg (by decide), rfl⟩
theorem arS_next (h : q < l.length) : arS 1 (l.take q) ++ [2 * l.getD q 0 + 1] = arS 1 (l.take (q + 1)) := vS (f := fun k => 2 * k + 1) 0 h
theorem nT (h : q < l.length) : arS 0 (l.take q) ++ [2 * l.getD q 0] = arS 0 (l.take (q + 1)) := by
 have := vS (f := fun k : Int => 2 * k + 0) 0 h
 unfold arS
 rw [← this]; simp
theorem arN_next (hl : L.length = R.length) (h : j < L.length) : arN (L.take j) (R.take j) ++ [arS 1 (L.getD j []), arS 0 (R.getD j [])] = arN (L.take (j + 1)) (R.take (j + 1)) := by
 rw [xT L [] h, xT R [] (by omega), arN_snoc (by simp only [List.length_take]; omega)]
def stZ (a : Int) (lf : Bool) : Int := if lf = true then 2 * a else 2 * a + 1
theorem nW {a : Int} {lf : Bool} {n : Nat} (h : 0 ≤ a ∧ a < n) : 0 ≤ stZ a lf ∧ stZ a lf < 2 * (n : Int) := by unfold stZ; split <;> omega
theorem LgP.lens (h : LgP L R) : ∀ i, i < L.length → (L.getD i []).length ≤ 500000 ∧ (R.getD i []).length ≤ 500000 := fun i hi =>
 ⟨Nat.le_trans (qC (h.ok i hi).1) (by decide), Nat.le_trans (qC (h.ok i hi).2) (by decide)⟩
section
variable {P : Program} {ρ : Operand → Value} {w : World} {K : Value → World → Prop} {d : Option Nat} {ty : Nat} {pos : String} {aft : Array Edge} {g : Option (Nat × Bool)}
theorem o_callc {f : FuncId} {fn : Func} {x : Operand} {xs : Array Operand} {ats : Array TypeId} {vs cs : List Value} (hf : P.funcs[f]? = some fn) (hn : (fn.name == "runtime.NumGoroutine") = false) (hb : fn.body.isNone = false) (hargs : xs.toList.map ρ = vs) (hρ : ρ x = .func (.func f) #[] cs.toArray)
  (h : Calls P f (vs ++ cs).toArray w fun e w' => ∃ v, e = .returned v ∧ K v w') : EO P ρ ⟨d, .call { callee := .value x, args := xs, argTypes := ats }, ty, pos, aft, g⟩ w K := by
 refine EO.call (f := f) (args := (vs ++ cs).toArray) (w1 := w) ?_ h
 have h1 : execOp ρ ⟨d, .call { callee := .value x, args := xs, argTypes := ats }, ty, pos, aft, g⟩ = callFunc f (#[] ++ xs.map ρ ++ cs.toArray) := by
  simp only [execOp, resolve, hρ]
  rfl
 have h2 : (#[] ++ xs.map ρ ++ cs.toArray : Array Value) = (vs ++ cs).toArray := by
  rw [Array.empty_append, ← hargs, ← Array.toList_map]
  simp
 have h3 : ¬ fn.name = "runtime.NumGoroutine" := by simpa using hn
 have h4 : ¬ fn.body = none := fun h => by rw [h] at hb; cases hb
 rw [h1, h2]
 simp [callFunc, hf, h3, h4]
end
def PinB (G : Pin) (b : Nat) (cs : List Value) : Prop := ∀ o u, cs[o]? = some u → G b o u
variable {G : Pin}
theorem PinB.mono {G' : Pin} {b : Nat} {cs : List Value} (h : PinB G b cs) (hl : Pin.le G G') : PinB G' b cs := fun o u hu => hl _ _ _ (h o u hu)
theorem lp_good {ns : List Nd} (h : lpOk ns = true) : GoodP ns ∧ ns.length ≤ 36 := by
 unfold lpOk at h
 rw [Bool.and_eq_true] at h
 exact ⟨goodB_true.1 h.1, of_decide_eq_true h.2⟩
theorem lo_two {e lo : Nat} {w : World} {pv tv : Value} {ps ts : List Int} {S : Nat → Prop} (h1 : Own eInt e G w lo pv ps) (h2 : Own eInt e G w lo tv ts) : ∀ k, inV [pv, tv] k → lo ≤ k ∨ S k := fun k ⟨u, hm, hk⟩ => by
 rcases List.mem_cons.1 hm with rfl | hm
 ·exact Or.inl (h1.lt k hk).1
 ·rw [List.mem_singleton] at hm
  subst hm
  exact Or.inl (h2.lt k hk).1
end Go.GL
namespace Go.GL
open Go Go.RowKit
theorem nU (v : Value) : (Value.agg [v].toArray).cells.toList = [v] := by simp [Value.cells]
theorem eG : ∀ (vs : List Value), ((vs.map fun v => Value.agg [v].toArray).flatMap fun v => v.cells.toList) = vs
 | [] => rfl
 | v :: vs => by
  rw [List.map_cons, List.flatMap_cons, nU v, eG vs]
  rfl
variable {G : Pin} {v : Value} {vs : List Value}
theorem rT {α : Type} {E : Elt α} {P : Program} {ρ : Operand → Value} {w : World} {K : Value → World → Prop} {d : Option Nat} {t ty e : Nat} {pos : String} {aft : Array Edge} {g : Option (Nat × Bool)}
  {n : Nat} {parts : Array (Nat × Operand)} (vs : List Value) (ys : List α) {z : Value} (ht : P.underlying t = some (.slice e)) (hs : (P.info? e).map (·.size) = some 1) (hz : (P.info? e).bind (·.zero) = some z)
  (hr : RepsF E G vs ys) (_ : ∀ u ∈ vs, u.oneCell' = true) (hn : n = vs.length) (hn2 : n = ys.length) (hE : E.size = 1)
  (hpt' : (parts.toList.map fun (i, x) => (i, ρ x)) = ((vs.map fun v => Value.agg [v].toArray).zipIdx 0).map fun x => (x.2, x.1)) (hpos : 0 < n ∧ n ≤ 1000000) (hP : Pins G w)
  (h : ∀ v w', Own E e G w' w.heap.size v ys → Pins G w' → Below w.heap.size w w' → v.ownBlock = some w.heap.size → K v w') : EO P ρ ⟨d, .buildSlice t n parts, ty, pos, aft, g⟩ w K := by
 have hpt := (Array.toList_map ..).trans hpt'
 obtain ⟨inf, hinf, hsz⟩ := Option.map_eq_some_iff.1 hs
 have hzz : inf.zero = some z := by simpa [hinf] using hz
 have hrun := run_buildSlice (P := P) w t e n (parts.map fun (i, x) => (i, ρ x)) vs.toArray inf z ht hinf hzz (by rw [hsz]; omega) (by rw [hsz]; omega)
  (by
   rw [hpt, hsz]
   have hf := Great.fill_whole (s := 1) (by decide) (vs.map fun v => Value.agg [v].toArray) ((Array.range (n * 1)).map (z.cells[· % z.cells.size]!)) (fun v hv => by
    obtain ⟨u, _, rfl⟩ := List.mem_map.1 hv
    have := congrArg List.length (nU u)
    simpa using this) (by simp [hn])
   rw [hf, eG vs])
 obtain ⟨v, w', h1, h2, h3, h4, h5⟩ := run_build (E := E) (d := d) (ty := ty) (pos := pos) (aft := aft) (g := g) n parts vs ys hrun hP hn2 (by omega) (by rw [hE]; omega) (fun i y hy => by
  obtain ⟨v, hv, hrep⟩ := hr i y hy
  have : (vs.drop (i * E.size)).take E.size = [v] := by
   rw [hE, Nat.mul_one]
   apply List.ext_getElem?
   intro j
   rw [List.getElem?_take, List.getElem?_drop]
   match j with
   | 0 => simpa using hv
   | j + 1 => simp
  rw [this]; exact hrep)
 exact EO.run h1 (h v w' h2 h3 h4 h5)
theorem repsN {α : Type} {E : Elt α} : RepsF E G [] [] := fun i y hy => by simp at hy
theorem fZ {α : Type} {E : Elt α} {y : α} {ys : List α} (h : E.rep G [v] y) (k : RepsF E G vs ys) : RepsF E G (v :: vs) (y :: ys) := fun i z hz => by
 cases i with
 | zero => simp at hz; subst hz; exact ⟨v, rfl, h⟩
 | succ i => simp at hz; obtain ⟨u, hu, hr⟩ := k i z hz; exact ⟨u, by simpa using hu, hr⟩
theorem onesN : ∀ u ∈ ([] : List Value), u.oneCell' = true := fun _ h => (List.not_mem_nil h).elim
theorem gC (h : v.oneCell' = true) (k : ∀ u ∈ vs, u.oneCell' = true) : ∀ u ∈ v :: vs, u.oneCell' = true := fun u hu => by
 rcases List.mem_cons.1 hu with rfl | hu
 ·exact h
 ·exact k u hu
end Go.GL
namespace Go.GL
open Go Go.RowKit
structure KQ (Q : List Nat) : Prop where
 is : ∀ g ∈ Q, IsForm g (formG g)
 sub : ∀ g ∈ Q, ∀ x, SubG g x → x ∈ Q
theorem KQ.nil : KQ [] := ⟨fun _ h => (List.not_mem_nil h).elim, fun _ h => (List.not_mem_nil h).elim⟩
theorem KQ.w {Q : List Nat} (h : KQ Q) (hl : Q.length ≤ 1000) {g : Nat} (hg : g ∈ Q) : FormOk (formG g) ∧ 1 ≤ (formG g).length ∧ (formG g).length ≤ Q.length := by
 have h1 := form_le (h.is g hg) (h.sub g hg)
 exact ⟨nL (h.is g hg) (by omega), (h.is g hg).1.lo, h1⟩
variable {gs : List Nat}
theorem KQ.allW {Q : List Nat} (h : KQ Q) (hl : Q.length ≤ 1000) (hg : ∀ g ∈ gs, g ∈ Q) (hn : gs.length ≤ 100) : AllW (gs.map formG) := by
 refine ⟨by simpa using hn, fun i hi => ?_⟩
 have hi' : i < gs.length := by simpa using hi
 have e : (gs.map formG).getD i [] = formG gs[i] := by simp [List.getD, hi']
 rw [e]
 obtain ⟨a, b, c⟩ := h.w hl (hg _ (List.getElem_mem hi'))
 exact ⟨a, b, by omega⟩
theorem KQ.gof {Q : List Nat} (h : KQ Q) (hg : ∀ g ∈ gs, g ∈ Q) : (gs.map formG).map gOf = gs := by
 rw [List.map_map]
 refine (List.map_congr_left (g := id) fun g hm => ?_).trans (List.map_id _)
 exact (h.is g (hg g hm)).2
theorem KQ.add {Q : List Nat} (h : KQ Q) (hl : Q.length ≤ 1000) {hs : List Nat} (hg : ∀ g ∈ gs, g ∈ Q) (hh : ∀ g ∈ hs, g ∈ Q) (h1 : gs.length ≤ 100) (h2 : hs.length ≤ 100) : KQ (mkGm (gs.map formG) (hs.map formG) :: Q) := by
 have hi := mk_isform (h.allW hl hg h1) (h.allW hl hh h2)
 have e : mkGm (gs.map formG) (hs.map formG) = mkG gs hs := by unfold mkGm; rw [h.gof hg, h.gof hh]
 rw [e] at hi ⊢
 refine ⟨fun g hm => ?_, fun g hm x hx => ?_⟩
 ·rcases List.mem_cons.1 hm with rfl | hm
  ·exact hi
  ·exact h.is g hm
 ·rcases List.mem_cons.1 hm with rfl | hm
  ·rcases sub_mk hx with rfl | ⟨y, hy, hs⟩
   ·exact List.mem_cons_self
   ·rcases List.mem_append.1 hy with hy | hy
    ·exact List.mem_cons_of_mem _ (h.sub y (hg y hy) x hs)
    ·exact List.mem_cons_of_mem _ (h.sub y (hh y hy) x hs)
  ·exact List.mem_cons_of_mem _ (h.sub g hm x hx)
theorem Bx.anti {G G' : Pin} {w : World} {b : Nat} {cs : List Value} (h : Bx G' w b cs) (hl : Pin.le G G') : Bx G w b cs := ⟨h.heap, fun o u hu => h.free o u (hl _ _ _ hu)⟩
theorem ownV_anti {e base : Nat} {G G' : Pin} {w : World} {v : Value} {xs : List Value} (h : Own eVal e G' w base v xs) (hl : Pin.le G G') : Own eVal e G w base v xs := by
 obtain ⟨cells, h1, h2⟩ := h.ex
 exact ⟨⟨cells, h1, h2⟩, fun k hk o u hu => h.free k hk o u (hl _ _ _ hu)⟩
theorem ext_grown {x : Option Nat} {G G' : Pin} {w w' : World} (h : Ext (inO x) G w G' w') : w.grownBy w' x :=
 ⟨h.os, h.tape, h.output, h.size, fun k hk hne => h.block k hk fun hx => hne hx.symm⟩
theorem ext_back {S : Nat → Prop} {G Gx G' : Pin} {w w' : World} (hl : Pin.le G Gx) (hx : Ext S Gx w G' w') : Ext S G w G w' :=
 ⟨Pin.le_refl _, fun b o u hu => hx.pins b o u (hx.le _ _ _ (hl _ _ _ hu)), fun _ _ _ h => Or.inl h, hx.os, hx.tape, hx.output, hx.size, hx.block⟩
structure Tk (e base : Nat) (G : Pin) (w : World) (v : Value) (ns : List Nd) : Prop where
 own : ∃ Gi, Own eNode e Gi w base v ns ∧ Pin.le Gi G
 rd : RSl eNode G v ns
 lo : 1 ≤ ns.length
section
variable {e base : Nat} {G G' : Pin} {w w' : World} {v : Value} {ns : List Nd} {x row : Option Nat}
theorem Tk.blk (h : Tk e base G w v ns) : ∀ k, v.ownBlock = some k → ∃ o u, G k o u := fun k hk => by
 obtain ⟨a, b, o, n, c, cs, hv, hk2, hr, hg⟩ := h.rd.at_ 0 _ (List.getElem?_eq_getElem h.lo)
 have hb : a.block = b := by
  have h := congrArg Addr.block (hk2 0)
  refine Eq.trans ?_ h
  simp only [Addr.add]; split <;> rfl
 have hl := eNode.len hr
 have hc : 0 < cs.length := by rw [hl]; decide
 refine ⟨o + 0, cs[0], ?_⟩
 have h1 := hg 0 _ (List.getElem?_eq_getElem hc)
 rw [hv] at hk
 have : k = b := by rw [← hb]; exact (Option.some.inj hk).symm
 rw [this]; exact h1
theorem Tk.le (h : Tk e base G w v ns) (hl : Pin.le G G') : Tk e base G' w v ns := by
 obtain ⟨Gi, h1, h2⟩ := h.own
 exact ⟨⟨Gi, h1, dM h2 hl⟩, h.rd.mono hl, h.lo⟩
theorem Tk.kept (h : Tk e base G w v ns) (hg : w.grownBy w' row) (hf : ∀ k, row = some k → ∀ o u, ¬ G k o u) : Tk e base G w' v ns := by
 obtain ⟨Gi, h1, h2⟩ := h.own
 refine ⟨⟨Gi, h1.keptA hg (fun k a b => ?_), h2⟩, h.rd, h.lo⟩
 obtain ⟨o, u, hu⟩ := h.blk k a
 exact hf k b o u hu
theorem Tk.below (h : Tk e base G w v ns) (hb : Below w.heap.size w w') : Tk e base G w' v ns := h.kept (Below.grownBy hb none) fun _ hk => by cases hk
theorem Tk.ext (h : Tk e base G w v ns) (hx : Ext noS G w G' w') : Tk e base G' w' v ns := (h.below hx.below).le hx.le
theorem Tk.turned (h : Tk e base G w v ns) (hx : Ext (inO x) G w G' w') (hf : ∀ k, x = some k → ∀ o u, ¬ G k o u) : Tk e base G' w' v ns := (h.kept (ext_grown hx) hf).le hx.le
theorem Tk.one (h : Tk e base G w v ns) : v.oneCell' = true := h.rd.one
theorem Tk.give {S : Nat → Prop} {G0 : Pin} {w0 : World} (h : Tk e w0.heap.size G w v ns) (hP : Pins G0 w0) (hx : Ext S G0 w0 G w) : ∃ G2, Own eNode e G2 w w0.heap.size v ns ∧ Ext S G0 w0 G2 w ∧ Pin.le G2 G := by
 obtain ⟨Gi, h1, h2⟩ := h.own
 have h2' : Pin.le (fun b o u => Gi b o u ∨ G0 b o u) G := fun b o u hu => hu.elim (h2 b o u) (hx.le b o u)
 refine ⟨fun b o u => Gi b o u ∨ G0 b o u, h1.mono (fun b o u hu => Or.inl hu) (fun k hk o u hu => ?_), ⟨fun b o u hu => Or.inr hu, fun b o u hu => hx.pins b o u (h2' b o u hu), fun b o u hu => hx.fresh b o u (h2' b o u hu), hx.os, hx.tape, hx.output, hx.size, hx.block⟩, h2'⟩
 rcases hu with hu | hu
 ·exact h1.free k hk o u hu
 ·have a := (h1.lt k hk).1
  have b := vC (hP k o u hu)
  omega
end
def Fr (e base : Nat) (G : Pin) (w : World) (Q : List Nat) (vs : List Value) : Prop := ∀ v ∈ vs, ∃ g, g ∈ Q ∧ Tk e base G w v (formG g)
section
variable {e base : Nat} {G G' : Pin} {w w' : World} {Q : List Nat} {vs : List Value} {x row : Option Nat}
theorem Fr.nil : Fr e base G w Q [] := fun _ h => (List.not_mem_nil h).elim
theorem Fr.le (h : Fr e base G w Q vs) (hl : Pin.le G G') : Fr e base G' w Q vs := fun v hv => let ⟨g, a, b⟩ := h v hv; ⟨g, a, b.le hl⟩
theorem Fr.below (h : Fr e base G w Q vs) (hb : Below w.heap.size w w') : Fr e base G w' Q vs := fun v hv => let ⟨g, a, b⟩ := h v hv; ⟨g, a, b.below hb⟩
theorem Fr.ext (h : Fr e base G w Q vs) (hx : Ext noS G w G' w') : Fr e base G' w' Q vs := fun v hv => let ⟨g, a, b⟩ := h v hv; ⟨g, a, b.ext hx⟩
theorem Fr.kept (h : Fr e base G w Q vs) (hg : w.grownBy w' row) (hf : ∀ k, row = some k → ∀ o u, ¬ G k o u) : Fr e base G w' Q vs := fun v hv => let ⟨g, a, b⟩ := h v hv; ⟨g, a, b.kept hg hf⟩
theorem Fr.turned (h : Fr e base G w Q vs) (hx : Ext (inO x) G w G' w') (hf : ∀ k, x = some k → ∀ o u, ¬ G k o u) : Fr e base G' w' Q vs := fun v hv => let ⟨g, a, b⟩ := h v hv; ⟨g, a, b.turned hx hf⟩
theorem Fr.mem (h : Fr e base G w Q vs) {us : List Value} (hu : ∀ u ∈ us, u ∈ vs) : Fr e base G w Q us := fun v hv => h v (hu v hv)
theorem Fr.wide (h : Fr e base G w Q vs) {base' : Nat} (hb : base' ≤ base) : Fr e base' G w Q vs := fun v hv => by
 obtain ⟨g, a, b⟩ := h v hv
 obtain ⟨Gi, h1, h2⟩ := b.own
 exact ⟨g, a, ⟨Gi, h1.weaken hb, h2⟩, b.rd, b.lo⟩
theorem Fr.cons (h : Fr e base G w Q vs) {v : Value} {g : Nat} (hv : Tk e base G w v (formG g)) : Fr e base G w (g :: Q) (v :: vs) := fun u hu => by
 rcases List.mem_cons.1 hu with rfl | hu
 ·exact ⟨g, List.mem_cons_self, hv⟩
 ·obtain ⟨k, a, b⟩ := h u hu; exact ⟨k, List.mem_cons_of_mem _ a, b⟩
theorem Fr.one (h : Fr e base G w Q vs) {v : Value} (hv : v ∈ vs) : v.oneCell' = true := let ⟨_, _, b⟩ := h v hv; b.one
theorem Fr.games (h : Fr e base G w Q vs) : ∃ gs : List Nat, gs.length = vs.length ∧ (∀ g ∈ gs, g ∈ Q) ∧ ∀ i, i < vs.length → RSl eNode G (vs.getD i default) ((gs.map formG).getD i []) := by
 induction vs with
 | nil => exact ⟨[], rfl, fun _ h => (List.not_mem_nil h).elim, fun i hi => absurd hi (Nat.not_lt_zero i)⟩
 | cons v vs ih =>
  obtain ⟨gs, h1, h2, h3⟩ := ih fun u hu => h u (List.mem_cons_of_mem _ hu)
  obtain ⟨g, a, b⟩ := h v List.mem_cons_self
  refine ⟨g :: gs, by simp [h1], fun k hk => ?_, fun i hi => ?_⟩
  ·rcases List.mem_cons.1 hk with rfl | hk
   ·exact a
   ·exact h2 k hk
  ·cases i with
   | zero => simpa using b.rd
   | succ i => simpa using h3 i (by simpa using hi)
end
theorem mV {G : Pin} {v : Value} {us : List Value} {fs : List (List Nd)} (hr : RSl eVal G v us) (hl : fs.length = us.length) (hk : ∀ i, i < us.length → RSl eNode G (us.getD i default) (fs.getD i [])) : RSl (eSl eNode) G v fs := by
 obtain ⟨a, c, h1, h2, h3⟩ := hr.sl
 refine ⟨⟨a, c, by rw [h1, hl], by omega, h3⟩, fun i f hi => ?_⟩
 have hi' : i < fs.length := (List.getElem?_eq_some_iff.1 hi).1
 obtain ⟨a, b, o, n, c, cs, e1, e2, e3, e4⟩ := hr.at_ i _ (List.getElem?_eq_getElem (show i < us.length by omega))
 refine ⟨a, b, o, n, c, cs, e1, e2, ?_, e4⟩
 have h4 := hk i (by omega)
 have e5 : us.getD i default = us[i]'(by omega) := by simp [List.getD, show i < us.length by omega]
 have e6 : fs.getD i [] = f := by simp [List.getD, hi]
 rw [e5, e6] at h4
 exact ⟨_, e3.1, h4⟩
theorem u8_of {n : Int} (h : 0 ≤ n ∧ n < 256) : n = ((UInt8.ofNat n.toNat).toNat : Int) := by
 rw [UInt8.toNat_ofNat']; omega
theorem wrapB {n : Int} (h : 0 ≤ n ∧ n < 256) : IntKind.u8.wrap n = n := by
 unfold IntKind.wrap
 simp only [IntKind.bits, IntKind.signed]
 simp
 omega
theorem fV (n : Int) : 0 ≤ IntKind.u64.wrap n ∧ IntKind.u64.wrap n < 18446744073709551616 := by
 unfold IntKind.wrap
 simp only [IntKind.bits, IntKind.signed]
 have h1 := Int.emod_nonneg n (b := (2 : Int) ^ 64) (by decide)
 have h2 := Int.emod_lt_of_pos n (b := (2 : Int) ^ 64) (by decide)
 simp at h1 h2 ⊢
 omega
theorem snoc_mem {α : Type} {l : List α} {x : α} : ∀ v ∈ l ++ [x], v ∈ x :: l := fun v hv => by
 rcases List.mem_append.1 hv with h | h
 ·exact List.mem_cons_of_mem _ h
 ·rw [List.mem_singleton.1 h]; exact List.mem_cons_self
section
variable {P : Program} {ρ : Operand → Value} {w : World} {K : Value → World → Prop} {d : Option Nat} {t ty e : Nat} {pos : String} {aft : Array Edge} {g : Option (Nat × Bool)} {x y : Operand} {G : Pin} {v : Value}
variable {xs : List Nd} {z : Int} {u : Value} {l : List Int}
theorem run_setNL {base : Nat} (hs : (P.info? t).map (·.size) = some 1) (hx : ρ x = eptr v z 2 0) (hy : ρ y = u) (hu : RSl eInt G u l) (hP : Pins G w) (hv : Own eNode e G w base v xs) (h0 : 0 ≤ z) (h1 : z < xs.length) :
  ∃ w', (execOp ρ ⟨d, .store t x y, ty, pos, aft, g⟩).run P w = .ok .skip w' ∧ Own eNode e G w' base v (xs.set z.toNat ⟨l, (xs.getD z.toNat default).r⟩) ∧ Pins G w' ∧ w.grownBy w' v.ownBlock ∧ w'.heap.size = w.heap.size := by
 have hz : z.toNat < xs.length := by omega
 obtain ⟨cells, hown, hr⟩ := hv.ex
 have hel := hr z.toNat _ (List.getElem?_eq_getElem hz)
 have hx1 : xs[z.toNat] = xs.getD z.toNat default := by simp [List.getD, hz]
 rw [hx1] at hel
 obtain ⟨u0, v0, hcells, hl0, hr0⟩ := hel
 have hone := hu.one
 have hone0 := hr0.one
 obtain ⟨gb, w', hb, hp, hrun, a1, a2, a3, a4⟩ := hv.setAt (P := P) h0 h1 (q := ⟨l, (xs.getD z.toNat default).r⟩) (cs := [u, v0]) ⟨u, v0, rfl, hu, hr0⟩ hP
 rcases hown.2 with ⟨rfl, hl0⟩ | ⟨g', cap, cur, rfl, hbg, hg, hnc, hcm, hcs, htake⟩
 ·omega
 ·have hgb : gb = g' := by simpa [Value.ownBlock] using hb.symm
  subst hgb
  have e2 : eNode.size = 2 := rfl
  rw [e2] at hrun hcs htake hcells hp
  have hle1 : z.toNat * 2 + 2 ≤ cur.size := by omega
  rw [← htake] at hcells
  have hc : ∀ k a, ([u0, v0] : List Value)[k]? = some a → cur.toList[z.toNat * 2 + k]? = some a := fun k a ha => by
   have hk : k < 2 := by have := (List.getElem?_eq_some_iff.1 ha).1; simpa using this
   have h3 : ((((cur.toList.take (xs.length * 2)).drop (z.toNat * 2)).take 2)[k]?) = some a := by rw [hcells]; exact ha
   rw [List.getElem?_take, if_pos hk, List.getElem?_drop, List.getElem?_take, if_pos (by omega)] at h3
   exact h3
  have c1 := hc 1 _ rfl
  have r1 := run_storeCells_at P gb (z.toNat * 2) e [u, v0] 0 cur w hg (by simpa using hle1) (by intro a ha; simp at ha; rcases ha with rfl | rfl <;> assumption)
  have r2 := run_storeCells_at P gb (z.toNat * 2) e [u] 0 cur w hg (by simp; omega) (by intro a ha; simp at ha; subst ha; assumption)
  simp only [Nat.add_zero] at r1 r2
  have hw : w' = w.setRow gb (cur.toList.take (z.toNat * 2) ++ [u] ++ cur.toList.drop (z.toNat * 2 + [u].length)).toArray := by
   rw [hrun] at r1
   have hw1 := (Result.ok.inj r1).2
   rw [hw1]
   congr 2
   have hd1 : cur.toList.drop (z.toNat * 2 + 1) = v0 :: cur.toList.drop (z.toNat * 2 + 2) := by
    obtain ⟨h7, h8⟩ := List.getElem?_eq_some_iff.1 c1
    rw [List.drop_eq_getElem_cons h7, h8]
   simp [hd1]
  have hpt : eptr (.slice (some ⟨gb, 0, none⟩) xs.length cap) z 2 0 = .pointer (some ⟨gb, z.toNat * 2, none⟩) := by
   clear hx hrun r1 r2 hw hr hc hp a1 hv hown
   simp only [eptr, Addr.add]; split <;> simp_all
  rw [hpt] at hx
  refine ⟨w', ?_, a1, a2, a3, a4⟩
  have hlv : (storeVar t ⟨gb, z.toNat * 2, none⟩ u).run P w = .ok () w' := by
   have hc2 : u.cells = #[u] := xN hone
   unfold storeVar
   simp only [Sem.run_bind, xW hs, Result.andThen_ok, hc2]
   simp only [List.size_toArray, List.length_cons, List.length_nil, Nat.zero_add, ne_eq, not_true_eq_false, if_false]
   rw [r2, hw]
  simp only [execOp, hx, hy, Instr.storeAt, Instr.sureAddr, Sem.run_bind, Sem.run_pure, Result.andThen_ok, hlv]
theorem o_setNL {base : Nat} (hs : (P.info? t).map (·.size) = some 1) (hx : ρ x = eptr v z 2 0) (hy : ρ y = u) (hu : RSl eInt G u l) (hP : Pins G w) (hv : Own eNode e G w base v xs) (h0 : 0 ≤ z) (h1 : z < xs.length)
  (h : ∀ w', Own eNode e G w' base v (xs.set z.toNat ⟨l, (xs.getD z.toNat default).r⟩) → Pins G w' → w.grownBy w' v.ownBlock → w'.heap.size = w.heap.size → K undef w') : EO P ρ ⟨d, .store t x y, ty, pos, aft, g⟩ w K := by
 obtain ⟨w', h2, h3, h4, h5, h6⟩ := run_setNL (d := d) (ty := ty) (pos := pos) (aft := aft) (g := g) hs hx hy hu hP hv h0 h1
 exact EO.skip h2 (h w' h3 h4 h5 h6)
end
end Go.GL
namespace Go.GL
open Go Go.RowKit
def jlist (m : Nat) (A B : List (List Int)) (i k : Nat) : List Int := ((A.getD i []).map fun x => x * (m : Int) + (k : Int)) ++ ((B.getD k []).map fun y => (i : Int) * (m : Int) + y)
def jrow (m : Nat) (A B : List (List Int)) (i k : Nat) : List Int := Lib.compact (sortM (jlist m A B i k))
def jnA (m : Nat) (A B : List (List Int)) (n : Nat) : List (List Int) := (List.range n).flatMap fun i => (List.range m).map (jrow m A B i)
variable {m i k u : Nat} {A B L R M Q : List (List Int)} {ns ms : List Nd}
theorem pO (n : Nat) : jnA m A B (n + 1) = jnA m A B n ++ (List.range m).map (jrow m A B n) := by
 unfold jnA
 rw [List.range_succ, List.flatMap_append]; simp
theorem xZ {m : Nat} {A B : List (List Int)} : ∀ n, (jnA m A B n).length = n * m
 | 0 => by simp [jnA]
 | n + 1 => by rw [pO, List.length_append, xZ n, List.length_map, List.length_range, Nat.succ_mul]
theorem nK {m : Nat} {A B : List (List Int)} {k : Nat} (hk : k < m) : ∀ {n i : Nat}, i < n → (jnA m A B n).getD (i * m + k) [] = jrow m A B i k
 | 0, i, h => absurd h (Nat.not_lt_zero i)
 | n + 1, i, h => by
  rw [pO]
  by_cases e : i < n
  ·have hl : i * m + k < (jnA m A B n).length := by
    rw [xZ]
    have := Nat.mul_le_mul_right m (show i + 1 ≤ n from e)
    rw [Nat.succ_mul] at this
    omega
   rw [pS hl]
   exact nK hk e
  ·have e2 : i = n := by omega
   subst e2
   simp only [List.getD]
   rw [List.getElem?_append_right (by rw [xZ]; omega), xZ, Nat.add_sub_cancel_left]
   simp [hk]
theorem mem_jrow {z : Int} : z ∈ jrow m A B i k ↔ (∃ x ∈ A.getD i [], z = x * (m : Int) + (k : Int)) ∨ ∃ y ∈ B.getD k [], z = (i : Int) * (m : Int) + y := by
 unfold jrow jlist
 rw [tT, mem_sortL, List.mem_append, List.mem_map, List.mem_map]
 constructor
 ·rintro (⟨x, hx, e⟩ | ⟨x, hx, e⟩)
  ·exact Or.inl ⟨x, hx, e.symm⟩
  ·exact Or.inr ⟨x, hx, e.symm⟩
 ·rintro (⟨x, hx, e⟩ | ⟨x, hx, e⟩)
  ·exact Or.inl ⟨x, hx, e.symm⟩
  ·exact Or.inr ⟨x, hx, e.symm⟩
theorem rV {x i m : Int} (h0 : 0 ≤ x) (h : x < i) (hm : 0 ≤ m) : 0 ≤ x * m ∧ x * m + m ≤ i * m := by
 refine ⟨Int.mul_nonneg h0 hm, ?_⟩
 have := Int.mul_le_mul_of_nonneg_right (show x + 1 ≤ i by omega) hm
 rw [Int.add_mul, Int.one_mul] at this
 exact this
theorem jn_ac {n : Nat} (hA : AcL A) (hB : AcL B) (hn : A.length = n) (hm : B.length = m) : AcL (jnA m A B n) := fun p hp z hz => by
 rw [xZ] at hp
 have hm0 : 0 < m := by
  rcases Nat.eq_zero_or_pos m with e | e
  ·subst e; simp at hp
  ·exact e
 have hi : p / m < n := by rw [Nat.div_lt_iff_lt_mul hm0]; exact hp
 have hk : p % m < m := Nat.mod_lt _ hm0
 have e : p = p / m * m + p % m := by have := Nat.div_add_mod p m; rw [Nat.mul_comm] at this; omega
 rw [e, nK hk hi] at hz
 have e9 : (p : Int) = ((p / m : Nat) : Int) * (m : Int) + ((p % m : Nat) : Int) := by
  rw [← Int.natCast_mul, ← Int.natCast_add, ← e]
 rw [e9]
 rcases mem_jrow.1 hz with ⟨x, hx, rfl⟩ | ⟨y, hy, rfl⟩
 ·have h1 := hA _ (by omega) x hx
  have h2 := rV h1.1 h1.2 (Int.natCast_nonneg m)
  omega
 ·have h1 := hB _ (by omega) y hy
  have h2 := Int.mul_nonneg (Int.natCast_nonneg (p / m)) (Int.natCast_nonneg m)
  omega
theorem stop_win (h : OptsOk ns) (k : OptsOk ms) : ∀ p u v, p = u * ms.length + v → u < ns.length → v < ms.length →
  (winA (arN (jnA ms.length (ns.map Nd.l) (ms.map Nd.r) ns.length) (jnA ms.length (ns.map Nd.r) (ms.map Nd.l) ns.length)) (2 * p) = true ↔ ¬ geG (den ms v) (den ns u)) ∧
  (winA (arN (jnA ms.length (ns.map Nd.l) (ms.map Nd.r) ns.length) (jnA ms.length (ns.map Nd.r) (ms.map Nd.l) ns.length)) (2 * p + 1) = true ↔ ¬ geG (den ns u) (den ms v)) := by
 have hlen : (jnA ms.length (ns.map Nd.l) (ms.map Nd.r) ns.length).length = (jnA ms.length (ns.map Nd.r) (ms.map Nd.l) ns.length).length := by rw [xZ, xZ]
 have hok := arN_ok hlen (jn_ac (fC h).1 (fC k).2 (by simp) (by simp)) (jn_ac (fC h).2 (fC k).1 (by simp) (by simp))
 have hL := jJ hlen
 rw [xZ] at hL
 intro p
 induction p using Nat.strongRecOn with
 | ind p ih =>
  intro u v hp hu hv
  have hpl : p < ns.length * ms.length := by
   have := Nat.mul_le_mul_right ms.length (show u + 1 ≤ ns.length from hu)
   rw [Nat.succ_mul] at this
   omega
  have ha := arN_at hlen (i := p) (by rw [xZ]; exact hpl)
  have ou := xJ h hu
  have ov := xJ k hv
  have mu : ∀ x : Int, 0 ≤ x → x < u → ∃ q : Nat, x * (ms.length : Int) + (v : Int) = (q : Int) ∧ q < p ∧ q = x.toNat * ms.length + v := fun x h0 h1 => by
   have h2 := rV h0 h1 (Int.natCast_nonneg ms.length)
   refine ⟨x.toNat * ms.length + v, ?_, ?_, rfl⟩
   ·rw [Int.natCast_add, Int.natCast_mul, Int.toNat_of_nonneg h0]
   ·have h3 : ((x.toNat * ms.length : Nat) : Int) = x * (ms.length : Int) := by rw [Int.natCast_mul, Int.toNat_of_nonneg h0]
    have h4 : ((u * ms.length : Nat) : Int) = (u : Int) * (ms.length : Int) := Int.natCast_mul _ _
    omega
  have mv : ∀ y : Int, 0 ≤ y → y < v → ∃ q : Nat, (u : Int) * (ms.length : Int) + y = (q : Int) ∧ q < p ∧ q = u * ms.length + y.toNat := fun y h0 h1 => by
   refine ⟨u * ms.length + y.toNat, ?_, by omega, rfl⟩
   rw [Int.natCast_add, Int.natCast_mul, Int.toNat_of_nonneg h0]
  rw [kX hok (by omega), kX hok (by omega), ha.1, ha.2, hp, nK hv hu, nK hv hu, List.any_eq_true, List.any_eq_true]
  unfold arS
  constructor
  ·rw [ge_iff]
   constructor
   ·rintro ⟨z, hz, hw⟩ hg
    obtain ⟨z2, hz2, rfl⟩ := List.mem_map.1 hz
    rcases mem_jrow.1 hz2 with ⟨x, hx, rfl⟩ | ⟨y, hy, rfl⟩
    ·rw [qV rfl] at hx
     have hb := ou.1 x hx
     obtain ⟨q, e1, e2, e3⟩ := mu x hb.1 hb.2
     rw [e1, show (2 * (q : Int) + 1).toNat = 2 * q + 1 by omega] at hw
     refine (ih q e2 x.toNat v e3 (by omega) hv).2.2 (fun hc => ?_) |> fun hh => by rw [hh] at hw; cases hw
     exact hg.2 _ ((qK h hu).2 ⟨x, hx, rfl⟩) hc
    ·rw [qV rfl] at hy
     have hb := ov.2 y hy
     obtain ⟨q, e1, e2, e3⟩ := mv y hb.1 hb.2
     rw [e1, show (2 * (q : Int) + 1).toNat = 2 * q + 1 by omega] at hw
     refine (ih q e2 u y.toNat e3 hu (by omega)).2.2 (fun hc => ?_) |> fun hh => by rw [hh] at hw; cases hw
     exact hg.1 _ ((qJ k hv).2 ⟨y, hy, rfl⟩) hc
   ·intro hg
    rcases Classical.not_and_iff_not_or_not.1 hg with hg | hg
    ·obtain ⟨r, hr⟩ := Classical.not_forall.1 hg
     obtain ⟨hr, hge⟩ := Classical.not_imp.1 hr
     obtain ⟨y, hy, rfl⟩ := (qJ k hv).1 hr
     have hb := ov.2 y hy
     obtain ⟨q, e1, e2, e3⟩ := mv y hb.1 hb.2
     refine ⟨2 * (q : Int) + 1, List.mem_map.2 ⟨(q : Int), mem_jrow.2 (Or.inr ⟨y, by rw [qV rfl]; exact hy, e1.symm⟩), rfl⟩, ?_⟩
     rw [show (2 * (q : Int) + 1).toNat = 2 * q + 1 by omega]
     cases hw : winA _ (2 * q + 1)
     ·rfl
     ·exact absurd (Classical.not_not.1 hge) ((ih q e2 u y.toNat e3 hu (by omega)).2.1 hw)
    ·obtain ⟨l, hl⟩ := Classical.not_forall.1 hg
     obtain ⟨hl, hge⟩ := Classical.not_imp.1 hl
     obtain ⟨x, hx, rfl⟩ := (qK h hu).1 hl
     have hb := ou.1 x hx
     obtain ⟨q, e1, e2, e3⟩ := mu x hb.1 hb.2
     refine ⟨2 * (q : Int) + 1, List.mem_map.2 ⟨(q : Int), mem_jrow.2 (Or.inl ⟨x, by rw [qV rfl]; exact hx, e1.symm⟩), rfl⟩, ?_⟩
     rw [show (2 * (q : Int) + 1).toNat = 2 * q + 1 by omega]
     cases hw : winA _ (2 * q + 1)
     ·rfl
     ·exact absurd (Classical.not_not.1 hge) ((ih q e2 x.toNat v e3 (by omega) hv).2.1 hw)
  ·rw [ge_iff]
   constructor
   ·rintro ⟨z, hz, hw⟩ hg
    obtain ⟨z2, hz2, rfl⟩ := List.mem_map.1 hz
    rcases mem_jrow.1 hz2 with ⟨x, hx, rfl⟩ | ⟨y, hy, rfl⟩
    ·rw [qV rfl] at hx
     have hb := ou.2 x hx
     obtain ⟨q, e1, e2, e3⟩ := mu x hb.1 hb.2
     rw [e1, show (2 * (q : Int) + 0).toNat = 2 * q by omega] at hw
     refine (ih q e2 x.toNat v e3 (by omega) hv).1.2 (fun hc => ?_) |> fun hh => by rw [hh] at hw; cases hw
     exact hg.1 _ ((qJ h hu).2 ⟨x, hx, rfl⟩) hc
    ·rw [qV rfl] at hy
     have hb := ov.1 y hy
     obtain ⟨q, e1, e2, e3⟩ := mv y hb.1 hb.2
     rw [e1, show (2 * (q : Int) + 0).toNat = 2 * q by omega] at hw
     refine (ih q e2 u y.toNat e3 hu (by omega)).1.2 (fun hc => ?_) |> fun hh => by rw [hh] at hw; cases hw
     exact hg.2 _ ((qK k hv).2 ⟨y, hy, rfl⟩) hc
   ·intro hg
    rcases Classical.not_and_iff_not_or_not.1 hg with hg | hg
    ·obtain ⟨r, hr⟩ := Classical.not_forall.1 hg
     obtain ⟨hr, hge⟩ := Classical.not_imp.1 hr
     obtain ⟨x, hx, rfl⟩ := (qJ h hu).1 hr
     have hb := ou.2 x hx
     obtain ⟨q, e1, e2, e3⟩ := mu x hb.1 hb.2
     refine ⟨2 * (q : Int) + 0, List.mem_map.2 ⟨(q : Int), mem_jrow.2 (Or.inl ⟨x, by rw [qV rfl]; exact hx, e1.symm⟩), rfl⟩, ?_⟩
     rw [show (2 * (q : Int) + 0).toNat = 2 * q by omega]
     cases hw : winA _ (2 * q)
     ·rfl
     ·exact absurd (Classical.not_not.1 hge) ((ih q e2 x.toNat v e3 (by omega) hv).1.1 hw)
    ·obtain ⟨l, hl⟩ := Classical.not_forall.1 hg
     obtain ⟨hl, hge⟩ := Classical.not_imp.1 hl
     obtain ⟨y, hy, rfl⟩ := (qK k hv).1 hl
     have hb := ov.1 y hy
     obtain ⟨q, e1, e2, e3⟩ := mv y hb.1 hb.2
     refine ⟨2 * (q : Int) + 0, List.mem_map.2 ⟨(q : Int), mem_jrow.2 (Or.inr ⟨y, by rw [qV rfl]; exact hy, e1.symm⟩), rfl⟩, ?_⟩
     rw [show (2 * (q : Int) + 0).toNat = 2 * q by omega]
     cases hw : winA _ (2 * q)
     ·rfl
     ·exact absurd (Classical.not_not.1 hge) ((ih q e2 u y.toNat e3 hu (by omega)).1.1 hw)
theorem jlist_len : (jlist m A B i k).length = (A.getD i []).length + (B.getD k []).length := by simp [jlist]
theorem eC : (jrow m A B i k).length ≤ (A.getD i []).length + (B.getD k []).length := by
 unfold jrow
 have := tV (sortM (jlist m A B i k))
 rw [jB, jlist_len] at this
 exact this
theorem pN (hg : LgP L R) (hg2 : LgP M Q) (hL : AcL L) (hR : AcL R) (hM : AcL M) (hQ : AcL Q) :
  (jnA M.length L Q L.length).length = (jnA M.length R M L.length).length ∧ AcL (jnA M.length L Q L.length) ∧ AcL (jnA M.length R M L.length) ∧ (jnA M.length L Q L.length).length ≤ 500000 ∧
   ∀ i, i < (jnA M.length L Q L.length).length → ((jnA M.length L Q L.length).getD i []).length ≤ 500000 ∧ ((jnA M.length R M L.length).getD i []).length ≤ 500000 := by
 refine ⟨by rw [xZ, xZ], jn_ac hL hQ rfl hg2.len, jn_ac hR hM hg.len rfl, ?_, fun p hp => ?_⟩
 ·rw [xZ]
  exact Nat.le_trans (Nat.mul_le_mul hg.hi hg2.hi) (by decide)
 ·rw [xZ] at hp
  have hm0 : 0 < M.length := hg2.lo
  have hi : p / M.length < L.length := by rw [Nat.div_lt_iff_lt_mul hm0]; exact hp
  have hk : p % M.length < M.length := Nat.mod_lt _ hm0
  have e : p = p / M.length * M.length + p % M.length := by have := Nat.div_add_mod p M.length; rw [Nat.mul_comm] at this; omega
  have a := hg.ok _ hi
  have b := hg2.ok _ hk
  have l1 := qC a.1
  have l2 := qC a.2
  have l3 := qC b.1
  have l4 := qC b.2
  rw [e, nK hk hi, nK hk hi]
  have c := eC (m := M.length) (A := L) (B := Q) (i := p / M.length) (k := p % M.length)
  have d := eC (m := M.length) (A := R) (B := M) (i := p / M.length) (k := p % M.length)
  exact ⟨by omega, by omega⟩
def hlB (L R M Q : List (List Int)) (u v : Nat) : Bool := decide (wnA (arN (jnA M.length L Q L.length) (jnA M.length R M L.length)) (2 * (u * M.length + v) + 1) ≠ 2)
theorem mE (hg : LgP L R) (hg2 : LgP M Q) (hi : i < L.length) (hk : k < M.length) : ((i * M.length + k : Nat) : Int) = (i : Int) * (M.length : Int) + (k : Int) ∧ i * M.length + k < L.length * M.length ∧ L.length * M.length ≤ 1296 := by
 refine ⟨by rw [Int.natCast_add, Int.natCast_mul], ?_, Nat.le_trans (Nat.mul_le_mul hg.hi hg2.hi) (by decide)⟩
 have := Nat.mul_le_mul_right M.length (show i + 1 ≤ L.length from hi)
 rw [Nat.succ_mul] at this
 omega
theorem pP (hg : LgP L R) (hg2 : LgP M Q) {rs : List (Int × Int)} (hrw : ∀ s, s < (arN (jnA M.length L Q L.length) (jnA M.length R M L.length)).length → (rs.getD s default).1 = wnA (arN (jnA M.length L Q L.length) (jnA M.length R M L.length)) s) (hi : i < L.length) (hk : k < M.length) : decide ((rs.getD (stZ ((i : Int) * (M.length : Int) + (k : Int)) false).toNat default).1 ≠ 2) = hlB L R M Q i k := by
 have hp := mE hg hg2 hi hk
 have e : (stZ ((i : Int) * (M.length : Int) + (k : Int)) false).toNat = 2 * (i * M.length + k) + 1 := by
  unfold stZ; rw [if_neg (by decide), ← hp.1]; omega
 have hl : (arN (jnA M.length L Q L.length) (jnA M.length R M L.length)).length = 2 * (L.length * M.length) := by rw [jJ (by rw [xZ, xZ]), xZ]
 unfold hlB
 rw [e, hrw _ (by omega)]
theorem hl_ge (h : GoodP ns) (k : GoodP ms) : hlB (ns.map Nd.l) (ns.map Nd.r) (ms.map Nd.l) (ms.map Nd.r) (ns.length - 1) (ms.length - 1) = decP (geG (gOf ns) (gOf ms)) := by
 have hn := h.lo
 have hm := k.lo
 have hw := (stop_win h.optsOk k.optsOk ((ns.length - 1) * ms.length + (ms.length - 1)) (ns.length - 1) (ms.length - 1) rfl (by omega) (by omega)).2
 unfold hlB gOf
 rw [List.length_map, List.length_map]
 unfold wnA
 have e1 : mvA (2 * ((ns.length - 1) * ms.length + (ms.length - 1)) + 1) = 2 := by unfold mvA; omega
 rw [e1]
 by_cases hg : geG (den ns (ns.length - 1)) (den ms (ms.length - 1))
 ·rw [decP_true.2 hg, if_neg (fun hc => hw.1 hc hg)]; decide
 ·rw [decP_false.2 hg, if_pos (hw.2 hg)]; decide
theorem hl_row (h : u < L.length) : ((List.range L.length).map fun u => (List.range M.length).map (hlB L R M Q u)).getD u [] = (List.range M.length).map (hlB L R M Q u) := by
 simp [List.getD, h]
theorem hl_at {v : Nat} (h : v < M.length) : ((List.range M.length).map (hlB L R M Q u)).getD v false = hlB L R M Q u v := by
 simp [List.getD, h]
def xorB (i j : Int) : Int := IntKind.u8.wrap (BitVec.ofInt IntKind.u8.bits i ^^^ BitVec.ofInt IntKind.u8.bits j).toNat
theorem r_xorB {P : Program} {w : World} {ρ : Operand → Value} {d : Option Nat} {t t' ty : Nat} {pos : String} {aft : Array Edge} {g : Option (Nat × Bool)} {x y : Operand} {i j : Int} (hx : ρ x = .int .u8 i) (hy : ρ y = .int .u8 j) : (execOp ρ ⟨d, .binOp .xor t x y t', ty, pos, aft, g⟩).run P w = .ok (.value (.int .u8 (xorB i j))) w := by
 simp [execOp, hx, hy, binOp, eqGuard, Op.intBits, xorB]
theorem xorB_bd (i j : Int) : 0 ≤ xorB i j ∧ xorB i j ≤ 255 := by
 unfold xorB IntKind.wrap
 simp only [IntKind.bits, IntKind.signed]
 have h1 := Int.emod_nonneg ((BitVec.ofInt 8 i ^^^ BitVec.ofInt 8 j).toNat : Int) (b := (2 : Int) ^ 8) (by decide)
 have h2 := Int.emod_lt_of_pos ((BitVec.ofInt 8 i ^^^ BitVec.ofInt 8 j).toNat : Int) (b := (2 : Int) ^ 8) (by decide)
 simp only [Bool.false_and, Bool.false_eq_true, if_false]
 omega
theorem hl_al (h : GoodP ns) (k : GoodP ms) : hlB (ns.map Nd.l) (ns.map Nd.r) (ms.map Nd.l) (ms.map Nd.r) ((ns.length : Int) - 1).toNat ((ms.length : Int) - 1).toNat = alB ns ms := by
 have hn := h.lo
 have hm := k.lo
 rw [show ((ns.length : Int) - 1).toNat = ns.length - 1 by omega, show ((ms.length : Int) - 1).toNat = ms.length - 1 by omega, hl_ge h k, (alB_good h k).1]
end Go.GL
namespace Go.Proofs
open Go.Shelf
def Tryz.lays189_ren : Go.Shelf.Ren := ⟨fun | 189 => 55 | 125 => 70 | 257 => 69 | 128 => 83 | 129 => 84 | 294 => 74 | 295 => 75 | 296 => 76 | 297 => 77 | 298 => 78 | 299 => 79 | 216 => 80 | 300 => 81 | 301 => 82 | 328 => 86 | 329 => 87 | 330 => 88 | 331 => 89 | 332 => 90 | 215 => 47 | 343 => 92 | n => n, fun | 28 => 44 | 3 => 3 | 46 => 97 | 0 => 0 | 51 => 116 | 53 => 38 | 4 => 4 | 183 => 111 | 182 => 110 | 131 => 108 | 5 => 5 | 9 => 9 | 218 => 118 | 222 => 122 | 228 => 125 | 229 => 126 | n => n, fun | n => n⟩
theorem Tryz.lays189 : Go.Proofs.Lays.n189 Tryz.prog Tryz.lays189_ren := {
 mixed := by kernel_rfl
 f125 := Tryz.func70.trans (congrArg some (by kernel_rfl))
 f128 := Tryz.func83.trans (congrArg some (by kernel_rfl))
 f129 := Tryz.func84.trans (congrArg some (by kernel_rfl))
 f189 := Tryz.func55.trans (congrArg some (by kernel_rfl))
 f215 := Tryz.func47.trans (congrArg some (by kernel_rfl))
 f216 := Tryz.func80.trans (congrArg some (by kernel_rfl))
 f257 := Tryz.func69.trans (congrArg some (by kernel_rfl))
 f294 := Tryz.func74.trans (congrArg some (by kernel_rfl))
 f295 := Tryz.func75.trans (congrArg some (by kernel_rfl))
 f296 := Tryz.func76.trans (congrArg some (by kernel_rfl))
 f297 := Tryz.func77.trans (congrArg some (by kernel_rfl))
 f298 := Tryz.func78.trans (congrArg some (by kernel_rfl))
 f299 := Tryz.func79.trans (congrArg some (by kernel_rfl))
 f300 := Tryz.func81.trans (congrArg some (by kernel_rfl))
 f301 := Tryz.func82.trans (congrArg some (by kernel_rfl))
 f328 := Tryz.func86.trans (congrArg some (by kernel_rfl))
 f329 := Tryz.func87.trans (congrArg some (by kernel_rfl))
 f330 := Tryz.func88.trans (congrArg some (by kernel_rfl))
 f331 := Tryz.func89.trans (congrArg some (by kernel_rfl))
 f332 := Tryz.func90.trans (congrArg some (by kernel_rfl))
 f343 := Tryz.func92.trans (congrArg some (by kernel_rfl))
 t0 := Tryz.underlying0
 a0 := Tryz.isAgg0
 z0 := Tryz.sizeOf0
 v0 := Tryz.zeroValue0
 t3 := Tryz.underlying3
 a3 := Tryz.isAgg3
 z3 := Tryz.sizeOf3
 v3 := Tryz.zeroValue3
 t4 := Tryz.underlying4
 a4 := Tryz.isAgg4
 z4 := Tryz.sizeOf4
 v4 := Tryz.zeroValue4
 t5 := Tryz.underlying5
 a5 := Tryz.isAgg5
 z5 := Tryz.sizeOf5
 v5 := Tryz.zeroValue5
 t9 := Tryz.underlying9
 a9 := Tryz.isAgg9
 z9 := Tryz.sizeOf9
 v9 := Tryz.zeroValue9
 t28 := Tryz.underlying44
 a28 := Tryz.isAgg44
 z28 := Tryz.sizeOf44
 v28 := Tryz.zeroValue44
 t46 := Tryz.underlying97
 a46 := Tryz.isAgg97
 z46 := Tryz.sizeOf97
 v46 := Tryz.zeroValue97
 t51 := Tryz.underlying116
 a51 := Tryz.isAgg116
 z51 := Tryz.sizeOf116
 v51 := Tryz.zeroValue116
 t53 := Tryz.underlying38
 a53 := Tryz.isAgg38
 z53 := Tryz.sizeOf38
 v53 := Tryz.zeroValue38
 t131 := Tryz.underlying108
 a131 := Tryz.isAgg108
 z131 := Tryz.sizeOf108
 v131 := Tryz.zeroValue108
 t182 := Tryz.underlying110
 a182 := Tryz.isAgg110
 z182 := Tryz.sizeOf110
 v182 := Tryz.zeroValue110
 t183 := Tryz.underlying111
 a183 := Tryz.isAgg111
 z183 := Tryz.sizeOf111
 v183 := Tryz.zeroValue111
 t218 := Tryz.underlying118
 a218 := Tryz.isAgg118
 z218 := Tryz.sizeOf118
 v218 := Tryz.zeroValue118
 t222 := Tryz.underlying122
 a222 := Tryz.isAgg122
 z222 := Tryz.sizeOf122
 v222 := Tryz.zeroValue122
 t228 := Tryz.underlying125
 a228 := Tryz.isAgg125
 z228 := Tryz.sizeOf125
 v228 := Tryz.zeroValue125
 t229 := Tryz.underlying126
 a229 := Tryz.isAgg126
 z229 := Tryz.sizeOf126
 v229 := Tryz.zeroValue126 }
open Go.Sort Go.RowKit in
theorem Tryz.slices_Sort_int (blk off cap : Nat) (zs : List Int) (w : World) (hH : Holds (Value.int .i64) w blk off zs.toArray) (hblk : blk < w.heap.size) (hsz : zs.length < 4611686018427387904) :
  Calls Tryz.prog 55 #[.slice (some ⟨blk, off, none⟩) zs.length cap] w fun e w' =>
   e = .returned (.tuple #[]) ∧ ∃ n os, w' = grow (putRow (Value.int .i64) (Sort.ahead w n) blk off (zs.mergeSort fun x y => decide (x ≤ y)).toArray) os := Any.slices_Sort_int Tryz.lays189 blk off cap zs w hH hblk hsz
def Tryz.laysNm220_ren : Go.Shelf.Ren := ⟨fun | 20 => 56 | n => n, fun | 22 => 44 | 3 => 3 | 4 => 4 | 0 => 0 | n => n, fun | n => n⟩
theorem Tryz.laysNm220 : Go.Proofs.Lays2.n20 Tryz.prog Tryz.laysNm220_ren := {
 mixed := by kernel_rfl
 f20 := Tryz.func56.trans (congrArg some (by kernel_rfl))
 t0 := Tryz.underlying0
 a0 := Tryz.isAgg0
 z0 := Tryz.sizeOf0
 v0 := Tryz.zeroValue0
 t3 := Tryz.underlying3
 a3 := Tryz.isAgg3
 z3 := Tryz.sizeOf3
 v3 := Tryz.zeroValue3
 t4 := Tryz.underlying4
 a4 := Tryz.isAgg4
 z4 := Tryz.sizeOf4
 v4 := Tryz.zeroValue4
 t22 := Tryz.underlying44
 a22 := Tryz.isAgg44
 z22 := Tryz.sizeOf44
 v22 := Tryz.zeroValue44
 i3 := by kernel_rfl }
open Go.RowKit Go.Lib Go.Sort in
theorem Tryz.slices_Compact_int (blk off cap : Nat) (zs : List Int) (w : World) (hH : Holds (Value.int .i64) w blk off zs.toArray) (hsz : zs.length ≤ 9223372036854775807) (hcap : zs.length ≤ cap) :
  Calls Tryz.prog 56 #[.slice (some ⟨blk, off, none⟩) zs.length cap] w fun e w' => e = .returned (.slice (some ⟨blk, off, none⟩) (Lib.compact zs).length cap) ∧ ∃ q, w' = putRow (Value.int .i64) (Sort.ahead w q) blk off (Lib.compact zs ++ List.replicate (zs.length - (Lib.compact zs).length) 0).toArray := Any.slices_Compact_int Tryz.laysNm220 blk off cap zs w hH hsz hcap
open Go.RowKit Go.Lib Go.Sort in
theorem Tryz.slices_Compact_int_empty (a : Option Addr) (cap : Nat) (w : World) :
  Calls Tryz.prog 56 #[.slice a 0 cap] w fun e w' => e = .returned (.slice a 0 cap) ∧ w' = w := Any.slices_Compact_int_empty Tryz.laysNm220 a cap w
open Go.RowKit Go.Sort in
theorem Tryz.slices_Sort_int_none (p : Option Addr) (cap : Nat) (w : World) :
  Calls Tryz.prog 55 #[.slice p 0 cap] w fun e w' => e = .returned (.tuple #[]) ∧ w' = w := Any.slices_Sort_int_none Tryz.lays189 p cap w
end Go.Proofs
namespace Go.GL
open Go Go.RowKit
end Go.GL
