/- Texts of this claim in one file: Deep, Text, Table, Part, Game, Den, Ord, Map, Key, Sort, Sg, Pool, Opts, Load, Great, Uniq, Dom, Rev, Canon, Red, Parts, Rank, SortF, Frm, Bud, Bkq, Sum, Make, Tiny, Num, Int2, Numb, OrdS, Fit, Win, LitA, Draw, Wnm, B1, C1. -/
import Derived.Test.YtkfgdhanaijddaaWw2
import Derived.Lib.SliceRun
import Derived.Lib.Join
import Derived.Carry
import Derived.MapKept
import Derived.Laws.BytesString
import Derived.Sort.Row
import Derived.Sort.Grow
import Derived.Lib.SlicesCompact
import Derived.Shelf.SlSortCmp.NoneTotal
import Derived.Lib.QuietBelow
import Derived.Test.YtkfgdhanaijddaaChecked
namespace Go.GL
open Go Go.RowKit

def eVal : Elt Value where
 size := 1
 rep := fun _ cs v => cs = [v] ∧ v.oneCell' = true
 mono := fun _ h => h
 len := fun h => by rw [h.1]; rfl
 one := fun h u hu => by rw [h.1] at hu; simp at hu; subst hu; exact h.2
def eVal2 : Elt (Value × Value) where
 size := 2
 rep := fun _ cs p => cs = [p.1, p.2] ∧ p.1.oneCell' = true ∧ p.2.oneCell' = true
 mono := fun _ h => h
 len := fun h => by rw [h.1]; rfl
 one := fun h u hu => by
  rw [h.1] at hu; simp at hu
  rcases hu with rfl | rfl
  ·exact h.2.1
  ·exact h.2.2
abbrev Leaf := Value × List Int
structure Lvs (e : Nat) (G : Pin) (w : World) (lo hi : Nat) (L : List Leaf) : Prop where
 own : ∀ p ∈ L, Own eInt e G w lo p.1 p.2
 hi : ∀ p ∈ L, ∀ k, p.1.ownBlock = some k → k < hi
 ap : L.Pairwise fun p q => Apart p.1.ownBlock q.1.ownBlock
def ApL (L : List Leaf) (x : Option Nat) : Prop := ∀ p ∈ L, Apart p.1.ownBlock x
section
variable {e lo hi : Nat} {G G' : Pin} {w w' : World} {L L' : List Leaf}
theorem Lvs.map (h : Lvs e G w lo hi L) (f : ∀ p ∈ L, Own eInt e G w lo p.1 p.2 → Own eInt e G' w' lo p.1 p.2) : Lvs e G' w' lo hi L := ⟨fun p hp => f p hp (h.own p hp), h.hi, h.ap⟩
theorem Lvs.extS {S : Nat → Prop} (h : Lvs e G w lo hi L) (hx : Ext S G w G' w') (hS : ∀ k, lo ≤ k → k < hi → ¬ S k) : Lvs e G' w' lo hi L :=
 h.map fun p hp ho => ho.extS hx fun k hk => hS k (ho.lt k hk).1 (h.hi p hp k hk)
end


def lvN (ps : List (Value × Value)) (ns : List Nd) : List Leaf := (ps.zip ns).flatMap fun q => [(q.1.1, q.2.l), (q.1.2, q.2.r)]
structure DForm (en e : Nat) (G : Pin) (w : World) (lo hi : Nat) (v : Value) (ns : List Nd) : Prop where
 ex : ∃ ps, ps.length = ns.length ∧ Own eVal2 en G w lo v ps ∧ (∀ k, v.ownBlock = some k → k < hi) ∧ Lvs e G w lo hi (lvN ps ns) ∧ ApL (lvN ps ns) v.ownBlock
section
variable {en e lo hi : Nat} {G G' : Pin} {w w' : World} {v : Value} {ns : List Nd}
end


section
variable {er e lo hi : Nat} {G G' : Pin} {w w' : World} {u v : Value} {ls rs : List (List Int)}
end


def inR (lo hi : Nat) (k : Nat) : Prop := lo ≤ k ∧ k < hi
section
variable {P : Program} {ρ : Operand → Value} {w : World} {d : Option Nat} {t e ty t' : Nat} {pos : String} {aft : Array Edge} {g : Option (Nat × Bool)} {x y : Operand}
end
theorem c_retct {P : Program} {n : Nat} {env : Nat → Value} {w : World} {fn : Func} {R : Ending → World → Prop} {s t b i : Nat} {cs : List Value} {v : Value} (hr : fn.results = #[.cell s t, .tmp i]) (hs : Nat.blt s n = true) (hi : Nat.blt i n = true) (hv : env s = .pointer (some ⟨b, 0, none⟩)) (hiv : env i = v) (ha : (P.underlying t).map aggD = some true) (hz : (P.info? t).map (·.size) = some cs.length)
  (hc : ∀ j u, cs[j]? = some u → w.cell? ⟨b, 0 + j, none⟩ = some u) (h : R (.returned (.tuple #[.agg cs.toArray, v])) w) : bodyPost P fn R .ret (F n env) w := by
 have h2 : s < n := by simpa [Nat.blt_eq] using hs
 have h3 : i < n := by simpa [Nat.blt_eq] using hi
 have hcell : ∀ j u, cs[j]? = some u → w.cell? ((⟨b, 0, none⟩ : Addr).add j) = some u := fun j u hj => by
  have := hc j u hj
  simp only [Addr.add]
  split
  ·simp_all
  ·exact this
 have hlv : (loadVar t ⟨b, 0, none⟩).run P w = .ok (.agg cs.toArray) w := by
  unfold loadVar
  simp only [Sem.run_bind, run_isAgg ha, Result.andThen_ok, if_true, xS hz, run_loadCells_list (P := P) w ⟨b, 0, none⟩ cs hcell, Sem.run_pure]
 refine bodyPost_ret (v := .tuple #[.agg cs.toArray, v]) ?_ rfl h
 have he : (F n env).tmps[s]?.getD undef = .pointer (some ⟨b, 0, none⟩) := by simp [F, h2, hv]
 have he2 : (F n env).tmps[i]?.getD undef = v := by simp [F, h3, hiv]
 simp [results, hr, he, he2, asAddr, hlv]


section
variable {e lo hi : Nat} {G G' : Pin} {w w' : World} {L L1 L2 : List Leaf}
end


section
variable {en er e lo hi lo' hi' : Nat} {G Gx G' : Pin} {w w' : World} {u v : Value} {ns : List Nd} {ls rs : List (List Int)}
end
end Go.GL

namespace Go.GL
open Go Go.RowKit

section
variable {P : Program} {ρ : Operand → Value} {w : World} {d : Option Nat} {t e ty : Nat} {pos : String} {aft : Array Edge} {g : Option (Nat × Bool)} {x y : Operand}
theorem r_neqB_same {t' : Nat} {p : Bool} (ht : P.underlying t = some .bool) (hx : ρ x = .bool p) (hy : ρ y = .bool p) : (execOp ρ ⟨d, .binOp .neq t x y t', ty, pos, aft, g⟩).run P w = .ok (.value (.bool false)) w := by
 rw [r_neqB ht hx hy]; simp
end

section
variable {P : Program} {ρ : Operand → Value} {w : World} {K : Value → World → Prop} {d : Option Nat} {t ty : Nat} {pos : String} {aft : Array Edge} {g : Option (Nat × Bool)} {x y : Operand} {G : Pin}
end




theorem goodOpts_len {l : List Int} {b : Int} (h : goodOpts l b = true) : l.length ≤ 24 := by
 unfold goodOpts at h
 split at h
 ·cases h
 ·omega
theorem GoodP.lenl {ns : List Nd} (hg : GoodP ns) {i : Nat} (hi : i < ns.length) : (ns.getD i default).l.length ≤ 24 := goodOpts_len (hg.opts i hi).1
theorem GoodP.lenr {ns : List Nd} (hg : GoodP ns) {i : Nat} (hi : i < ns.length) : (ns.getD i default).r.length ≤ 24 := goodOpts_len (hg.opts i hi).2
end Go.GL

namespace Go.GL
open Go Go.RowKit


section
variable {en e lo hi : Nat} {G G' : Pin} {w w' : World} {v : Value} {ns : List Nd}
theorem DForm.extS {S : Nat → Prop} (h : DForm en e G w lo hi v ns) (hx : Ext S G w G' w') (hS : ∀ k, lo ≤ k → k < hi → ¬ S k) : DForm en e G' w' lo hi v ns := by
 obtain ⟨ps, h1, h2, h3, h4, h5⟩ := h.ex
 exact ⟨⟨ps, h1, h2.extS hx (fun k hk => hS k (h2.lt k hk).1 (h3 k hk)), h3, h4.extS hx hS, h5⟩⟩
end


def DCh (en e : Nat) (G : Pin) (w : World) (R : Option Nat) : Nat → Nat → List Value → List (List Nd) → Prop
 | lo, hi, [], [] => lo ≤ hi
 | lo, hi, u :: us, f :: fs => ∃ l m, lo ≤ l ∧ l ≤ m ∧ (∀ b, R = some b → m ≤ b ∨ b < l) ∧ DForm en e G w l m u f ∧ DCh en e G w R m hi us fs
 | _, _, _, _ => False
section
variable {en e : Nat} {G G' : Pin} {w w' : World} {R R' : Option Nat}
theorem DCh.le : ∀ {lo hi : Nat} {us : List Value} {fs : List (List Nd)}, DCh en e G w R lo hi us fs → lo ≤ hi
 | _, _, [], [], h => h
 | _, _, _ :: _, _ :: _, ⟨_, _, h1, h2, _, _, h3⟩ => Nat.le_trans (Nat.le_trans h1 h2) h3.le
 | _, _, [], _ :: _, h => h.elim
 | _, _, _ :: _, [], h => h.elim
theorem DCh.map : ∀ {lo hi : Nat} {us : List Value} {fs : List (List Nd)}, DCh en e G w R lo hi us fs → (∀ l m u f, lo ≤ l → m ≤ hi → (∀ b, R = some b → m ≤ b ∨ b < l) → DForm en e G w l m u f → DForm en e G' w' l m u f) → DCh en e G' w' R lo hi us fs
 | _, _, [], [], h, _ => h
 | lo, hi, u :: us, f :: fs, ⟨l, m, h1, h0, hr, h2, h3⟩, hf => ⟨l, m, h1, h0, hr, hf _ _ _ _ h1 h3.le hr h2, h3.map fun l k u f hl hk hd => hf l k u f (by omega) hk hd⟩
 | _, _, [], _ :: _, h, _ => h.elim
 | _, _, _ :: _, [], h, _ => h.elim
end
section
variable {en ef e lo hi lo' hi' : Nat} {G G' : Pin} {w w' : World} {v : Value} {fs : List (List Nd)}
end



def lastN (ns : List Nd) : Nd := ns.getD (ns.length - 1) default
def optL (left : Bool) (ns : List Nd) : List Int := if left = true then (lastN ns).l else (lastN ns).r
theorem optL_len {left : Bool} {ns : List Nd} (hg : GoodP ns) : (optL left ns).length ≤ 24 := by
 have := hg.lo
 unfold optL lastN
 split
 ·exact hg.lenl (by omega)
 ·exact hg.lenr (by omega)
def partS (ns : List Nd) (i : Int) : List Nd := formM (addM [] [] ns).2.1 (addM [] [] ns).2.2 ((addM [] [] ns).1.getD i.toNat 0).toNat
def optsS (ns : List Nd) (l : List Int) : List (List Nd) := l.map (partS ns)
theorem good_form {ns : List Nd} (hg : GoodP ns) : FormOk ns := formOk_of (good_iff.2 hg).fits (good_iff.2 hg).rise


section
variable {P : Program} {ρ : Operand → Value} {w : World} {K : Value → World → Prop} {d : Option Nat} {t ty e : Nat} {pos : String} {aft : Array Edge} {g : Option (Nat × Bool)} {x y : Operand} {G : Pin} {v : Value}
end


section
variable {en ef e lo hi lo' hi' : Nat} {G G' : Pin} {w w' : World} {v : Value} {ns : List Nd} {us : List Value} {fs : List (List Nd)} {R : Option Nat}
theorem DCh.at : ∀ {lo hi j : Nat} {us : List Value} {fs : List (List Nd)}, DCh en e G w R lo hi us fs → j < fs.length → ∃ l m, lo ≤ l ∧ m ≤ hi ∧ (∀ b, R = some b → m ≤ b ∨ b < l) ∧ DForm en e G w l m (us.getD j default) (fs.getD j []) ∧
  ∀ {w' : World} {f' : List Nd}, Ext (inR l m) G w G w' → DForm en e G w' l m (us.getD j default) f' → DCh en e G w' R lo hi us (fs.set j f')
 | lo, hi, 0, u :: us, f :: fs, ⟨l, m, h1, h0, hr, h2, h3⟩, _ => ⟨l, m, h1, h3.le, hr, h2, fun hx hd => ⟨l, m, h1, h0, hr, hd, h3.map fun _ _ _ _ hl _ _ hq => hq.extS hx fun k n _ a => by have := a.2; omega⟩⟩
 | lo, hi, j + 1, u :: us, f :: fs, ⟨l0, m0, h1, h0, hr, h2, h3⟩, hj => by
  obtain ⟨l, k, o, c, d, g, i⟩ := h3.at (j := j) (by simpa using hj)
  exact ⟨l, k, by omega, c, d, by simpa using g, fun hx hd => ⟨l0, m0, h1, h0, hr, h2.extS hx fun q _ p a => by have := a.1; omega, i hx (by simpa using hd)⟩⟩
 | _, _, _, [], [], _, hj => (by simp at hj)
 | _, _, _, [], _ :: _, h, _ => h.elim
 | _, _, _, _ :: _, [], h, _ => h.elim
end

section
variable {α : Type} {E : Elt α} {e lo hi lo' hi' : Nat} {G G' : Pin} {w w' : World} {v : Value} {xs : List α}
end
section
variable {P : Program} {ρ : Operand → Value} {w : World} {K : Value → World → Prop} {d : Option Nat} {t ty e : Nat} {pos : String} {aft : Array Edge} {g : Option (Nat × Bool)} {x y : Operand} {G : Pin} {v : Value}
end
theorem optsS_next {ns : List Nd} {l : List Int} {j : Nat} (h : j < l.length) : optsS ns (l.take j) ++ [partS ns (l.getD j 0)] = optsS ns (l.take (j + 1)) := by
 unfold optsS; rw [take_snoc l 0 h, List.map_append]; rfl
theorem optL_at {ns : List Nd} (hg : GoodP ns) (left : Bool) : ∀ i, i < (optL left ns).length → 0 ≤ (optL left ns).getD i 0 ∧ (optL left ns).getD i 0 < ns.length := fun i hi => by
 have h1 := hg.lo
 have ho := opts_ok hg.opts
 have hk : ns.length - 1 < ns.length := by omega
 unfold optL lastN at hi ⊢
 split at hi <;> rename_i hl
 ·rw [if_pos hl]; have := ho.left hk hi; omega
 ·rw [if_neg hl]; have := ho.right hk hi; omega
end Go.GL

namespace Go.GL

theorem setAll_mono {l : List Int} {k : Nat} : ∀ {is : List Bool}, is.getD k false = true → (setAll is l).getD k false = true := by
 induction l with
 | nil => intro is h; exact h
 | cons x r ih =>
  intro is h
  refine ih (is := is.set x.toNat true) ?_
  rw [List.getD, List.getElem?_set]
  split
  ·split
   ·rfl
   ·rename_i h1 h2; subst h1; simp [List.getD, Nat.le_of_not_lt h2] at h
  ·exact h
theorem setAll_mem {l : List Int} {k : Int} : ∀ {is : List Bool}, k ∈ l → k.toNat < is.length → (setAll is l).getD k.toNat false = true := by
 induction l with
 | nil => intro is h; cases h
 | cons x r ih =>
  intro is h hk
  cases h with
  | head => exact setAll_mono (is := is.set k.toNat true) (by simp [List.getD, hk])
  | tail _ h => exact ih (is := is.set x.toNat true) h (by simpa using hk)
theorem setAll_other {l : List Int} {z : Nat} : ∀ {is : List Bool}, (∀ k ∈ l, k.toNat ≠ z) → (setAll is l).getD z false = is.getD z false := by
 induction l with
 | nil => intro is _; rfl
 | cons x r ih =>
  intro is h
  have h1 := ih (is := is.set x.toNat true) fun k hk => h k (List.mem_cons_of_mem _ hk)
  have h2 := h x List.mem_cons_self
  refine h1.trans ?_
  simp [List.getD, List.getElem?_set_ne h2]
theorem setAll_app {l : List Int} {B : List Bool} : ∀ {A : List Bool}, (∀ k ∈ l, k.toNat < A.length) → setAll (A ++ B) l = setAll A l ++ B := by
 induction l with
 | nil => intro A _; rfl
 | cons x r ih =>
  intro A h
  have h1 : (A ++ B).set x.toNat true = A.set x.toNat true ++ B := List.set_append_left _ _ (h x List.mem_cons_self)
  show setAll ((A ++ B).set x.toNat true) r = setAll (A.set x.toNat true) r ++ B
  rw [h1]
  exact ih fun k hk => by rw [List.length_set]; exact h k (List.mem_cons_of_mem _ hk)
theorem ustep_mono {ns : List Nd} {is : List Bool} {i k : Nat} (h : is.getD k false = true) : (ustep ns is i).getD k false = true := by
 unfold ustep; split
 ·exact setAll_mono (setAll_mono h)
 ·exact h
theorem ugo_mono {ns : List Nd} : ∀ {q : Nat} {is : List Bool} {k : Nat}, is.getD k false = true → (ugo ns q is).getD k false = true
 | 0, _, _, h => h
 | q + 1, is, _, h => ugo_mono (q := q) (is := ustep ns is q) (ustep_mono h)
section
variable {ns : List Nd} (ho : OptsOk ns)
include ho
theorem ustep_keep {is : List Bool} {i z : Nat} (hi : i < ns.length) (hz : i ≤ z) : (ustep ns is i).getD z false = is.getD z false := by
 have o := xB ho hi
 unfold ustep; split
 ·rw [setAll_other fun k hk => by have := o.2 k hk; omega, setAll_other fun k hk => by have := o.1 k hk; omega]
 ·rfl
theorem ugo_keep : ∀ {q : Nat} {is : List Bool} {z : Nat}, q ≤ ns.length → q ≤ z + 1 → (ugo ns q is).getD z false = is.getD z false
 | 0, _, _, _, _ => rfl
 | q + 1, is, z, h, hz => (ugo_keep (q := q) (is := ustep ns is q) (by omega) (by omega)).trans (ustep_keep ho (by omega) (by omega))
theorem ugo_closed : ∀ {q : Nat} {is : List Bool}, q ≤ ns.length → q ≤ is.length → ∀ z, z < q → (ugo ns q is).getD z false = true →
  (∀ o ∈ (ns.getD z default).l, (ugo ns q is).getD o.toNat false = true) ∧ (∀ o ∈ (ns.getD z default).r, (ugo ns q is).getD o.toNat false = true)
 | 0, _, _, _, z, hz, _ => absurd hz (Nat.not_lt_zero z)
 | q + 1, is, h, hl, z, hz, hu => by
  have hul : (ustep ns is q).length = is.length := by
   unfold ustep; split
   ·rw [xJ, xJ]
   ·rfl
  by_cases he : z = q
  ·subst he
   have hu2 : is.getD z false = true := by
    rw [← ustep_keep ho (i := z) (z := z) (is := is) (by omega) (Nat.le_refl _), ← ugo_keep ho (q := z) (is := ustep ns is z) (by omega) (by omega)]
    exact hu
   have o := xB ho (k := z) (by omega)
   have e : ustep ns is z = setAll (setAll is (ns.getD z default).l) (ns.getD z default).r := ustep_yes hu2
   refine ⟨fun x hx => ugo_mono (q := z) (is := ustep ns is z) ?_, fun x hx => ugo_mono (q := z) (is := ustep ns is z) ?_⟩
   ·rw [e]; exact setAll_mono (setAll_mem hx (by have := o.1 x hx; omega))
   ·rw [e]; exact setAll_mem hx (by rw [xJ]; have := o.2 x hx; omega)
  ·exact ugo_closed (q := q) (is := ustep ns is q) (by omega) (by omega) z (by omega) hu
theorem ustep_app {A B : List Bool} {i : Nat} (hi : i < ns.length) (hA : i < A.length) : ustep ns (A ++ B) i = ustep ns A i ++ B := by
 have o := xB ho hi
 have e : (A ++ B).getD i false = A.getD i false := by simp [List.getD, List.getElem?_append_left hA]
 unfold ustep
 rw [e]; split
 ·rw [setAll_app fun k hk => by have := o.1 k hk; omega, setAll_app fun k hk => by rw [xJ]; have := o.2 k hk; omega]
 ·rfl
theorem ugo_app : ∀ {q : Nat} {A B : List Bool}, q ≤ ns.length → q ≤ A.length → ugo ns q (A ++ B) = ugo ns q A ++ B
 | 0, _, _, _, _ => rfl
 | q + 1, A, B, h, hA => by
  have hul : (ustep ns A q).length = A.length := by
   unfold ustep; split
   ·rw [xJ, xJ]
   ·rfl
  show ugo ns q (ustep ns (A ++ B) q) = ugo ns q (ustep ns A q) ++ B
  rw [ustep_app ho (by omega) (by omega)]
  exact ugo_app (by omega) (by omega)
theorem used_reach {m : Nat} (hm : m < ns.length) {z : Nat} (hz : z ≤ m) : (usedM ns m).getD z false = (reachM ns m).getD z false := by
 have e : (List.replicate ns.length false).set m true = (List.replicate (m + 1) false).set m true ++ List.replicate (ns.length - (m + 1)) false := by
  rw [← List.set_append_left _ _ (by simp), List.replicate_append_replicate]
  congr 2; omega
 unfold usedM reachM
 rw [e, ugo_app ho (by omega) (by simp)]
 have hl : z < (ugo ns (m + 1) ((List.replicate (m + 1) false).set m true)).length := by rw [ugo_length]; simp; omega
 simp [List.getD, List.getElem?_append_left hl]
theorem used_closed {m : Nat} (hm : m < ns.length) {z : Nat} (hz : z ≤ m) (hu : (usedM ns m).getD z false = true) :
  (∀ o ∈ (ns.getD z default).l, (usedM ns m).getD o.toNat false = true) ∧ (∀ o ∈ (ns.getD z default).r, (usedM ns m).getD o.toNat false = true) :=
 ugo_closed ho (by omega) (by simp; omega) z (by omega) hu
end

def posU (u : Nat → Bool) (z : Nat) : Nat := (List.range z).countP u
def renL (u : Nat → Bool) (l : List Int) : List Int := l.map fun k => (posU u k.toNat : Int)
def nodeU (u : Nat → Bool) (ns : List Nd) (z : Nat) : Nd := ⟨renL u (ns.getD z default).l, renL u (ns.getD z default).r⟩
def partN (u : Nat → Bool) (ns : List Nd) (k : Nat) : List Nd := ((List.range k).filter u).map (nodeU u ns)
theorem posU_succ (u : Nat → Bool) (z : Nat) : posU u (z + 1) = posU u z + (if u z = true then 1 else 0) := by
 unfold posU; rw [List.range_succ, List.countP_append]; simp [List.countP_cons]
theorem posU_le {u : Nat → Bool} {x y : Nat} (h : x ≤ y) : posU u x ≤ posU u y := by
 induction y with
 | zero => rw [Nat.le_zero.1 h]; exact Nat.le_refl _
 | succ y ih =>
  by_cases he : x = y + 1
  ·rw [he]; exact Nat.le_refl _
  ·have := ih (by omega); rw [posU_succ]; omega
theorem posU_lt {u : Nat → Bool} {x y : Nat} (h : x < y) (hu : u x = true) : posU u x < posU u y := by
 have h1 := posU_succ u x
 rw [if_pos hu] at h1
 have := posU_le (u := u) (show x + 1 ≤ y by omega)
 omega
theorem posU_lower (u : Nat → Bool) (z : Nat) : posU u z ≤ z := by
 have := List.countP_le_length (p := u) (l := List.range z)
 simpa [posU] using this
theorem partN_length (u : Nat → Bool) (ns : List Nd) (k : Nat) : (partN u ns k).length = posU u k := by
 unfold partN posU; rw [List.length_map, List.countP_eq_length_filter]
theorem sel_pos {u : Nat → Bool} : ∀ n i, i < ((List.range n).filter u).length → posU u (((List.range n).filter u).getD i 0) = i := by
 intro n
 induction n with
 | zero => intro i hi; simp at hi
 | succ n ih =>
  intro i hi
  rw [List.range_succ, List.filter_append] at hi ⊢
  have hln : ((List.range n).filter u).length = posU u n := (List.countP_eq_length_filter ..).symm
  by_cases h : i < ((List.range n).filter u).length
  ·have e : ((List.range n).filter u ++ [n].filter u).getD i 0 = ((List.range n).filter u).getD i 0 := by simp only [List.getD, List.getElem?_append_left h]
   rw [e]; exact ih i h
  ·by_cases hu : u n = true
   ·have e1 : [n].filter u = [n] := by simp [hu]
    rw [e1] at hi ⊢
    have hi2 : i = ((List.range n).filter u).length := by rw [List.length_append] at hi; simp only [List.length_cons, List.length_nil] at hi; omega
    have e : ((List.range n).filter u ++ [n]).getD i 0 = n := by rw [hi2]; simp [List.getD]
    rw [e, hi2, hln]
   ·have e1 : [n].filter u = [] := by simp [hu]
    rw [e1, List.append_nil] at hi; exact absurd hi h

theorem cmpL_ren {u : Nat → Bool} : ∀ {a b : List Int}, (∀ x ∈ a, 0 ≤ x ∧ u x.toNat = true) → (∀ x ∈ b, 0 ≤ x ∧ u x.toNat = true) → cmpL (renL u a) (renL u b) = cmpL a b
 | [], [], _, _ => rfl
 | [], _ :: _, _, _ => rfl
 | _ :: _, [], _, _ => rfl
 | x :: a, y :: b, ha, hb => by
  have ih := cmpL_ren (a := a) (b := b) (fun z hz => ha z (List.mem_cons_of_mem _ hz)) (fun z hz => hb z (List.mem_cons_of_mem _ hz))
  have hx := ha x List.mem_cons_self; have hy := hb y List.mem_cons_self
  have e : cmpI (posU u x.toNat : Int) (posU u y.toNat : Int) = cmpI x y := by
   by_cases h1 : x < y
   ·have := posU_lt (u := u) (show x.toNat < y.toNat by omega) hx.2
    unfold cmpI; rw [if_pos (by omega), if_pos h1]
   ·by_cases h2 : y < x
    ·have := posU_lt (u := u) (show y.toNat < x.toNat by omega) hy.2
     unfold cmpI; rw [if_neg (by omega), if_pos (by omega), if_neg h1, if_pos h2]
    ·have : x = y := by omega
     subst this
     rw [cmpI_zero.2 rfl, cmpI_zero.2 rfl]
  show cmpL ((posU u x.toNat : Int) :: renL u a) ((posU u y.toNat : Int) :: renL u b) = _
  rw [cmpL, cmpL, e, ih]
theorem ahead_ren {u : Nat → Bool} {ns : List Nd} {x y : Nat} (hx : (∀ o ∈ (ns.getD x default).l, 0 ≤ o ∧ u o.toNat = true) ∧ (∀ o ∈ (ns.getD x default).r, 0 ≤ o ∧ u o.toNat = true))
  (hy : (∀ o ∈ (ns.getD y default).l, 0 ≤ o ∧ u o.toNat = true) ∧ (∀ o ∈ (ns.getD y default).r, 0 ≤ o ∧ u o.toNat = true)) : aheadI (nodeU u ns x) (nodeU u ns y) = aheadI (ns.getD x default) (ns.getD y default) := by
 unfold aheadI nodeU
 simp only [cmpL_ren hx.1 hy.1, cmpL_ren hx.2 hy.2]
theorem renL_rise {u : Nat → Bool} {l : List Int} {hi : Int} (hr : Rise l 0 hi) (hu : ∀ x ∈ l, u x.toNat = true) : Rise (renL u l) 0 hi := fun i h => by
 have hl : i < l.length := by simpa [renL] using h
 have e : ∀ j, j < l.length → (renL u l).getD j 0 = (posU u (l.getD j 0).toNat : Int) := fun j hj => by simp [renL, List.getD, hj]
 have h1 := hr i hl
 have h2 := posU_lower u (l.getD i 0).toNat
 rw [e i hl]
 refine ⟨⟨by omega, by omega⟩, fun h0 => ?_⟩
 have h3 := h1.2 h0
 have h4 := hr (i - 1) (by omega)
 rw [e (i - 1) (by omega)]
 have := posU_lt (u := u) (show (l.getD (i - 1) 0).toNat < (l.getD i 0).toNat by omega) (hu _ (yT (by omega)))
 omega

theorem asc_ext : ∀ {a b : List Int}, a.Pairwise (· < ·) → b.Pairwise (· < ·) → (∀ z, z ∈ a ↔ z ∈ b) → a = b
 | [], [], _, _, _ => rfl
 | [], y :: b, _, _, h => by have := (h y).2 List.mem_cons_self; cases this
 | x :: a, [], _, _, h => by have := (h x).1 List.mem_cons_self; cases this
 | x :: a, y :: b, ha, hb, h => by
  have ha' := List.pairwise_cons.1 ha; have hb' := List.pairwise_cons.1 hb
  have e : x = y := by
   have h1 := (h x).1 List.mem_cons_self; have h2 := (h y).2 List.mem_cons_self
   cases h1 with
   | head => rfl
   | tail _ h1 =>
    cases h2 with
    | head => rfl
    | tail _ h2 => have := ha'.1 y h2; have := hb'.1 x h1; omega
  subst e
  congr 1
  refine asc_ext ha'.2 hb'.2 fun z => ⟨fun hz => ?_, fun hz => ?_⟩
  ·have := (h z).1 (List.mem_cons_of_mem _ hz)
   cases this with
   | head => have := ha'.1 _ hz; omega
   | tail _ h1 => exact h1
  ·have := (h z).2 (List.mem_cons_of_mem _ hz)
   cases this with
   | head => have := hb'.1 _ hz; omega
   | tail _ h1 => exact h1
theorem threshold {p : Nat → Prop} : ∀ {n : Nat}, (∀ i j, i < j → j < n → p j → p i) → ∃ s, s ≤ n ∧ ∀ k, k < n → (p k ↔ k < s)
 | 0, _ => ⟨0, Nat.le_refl _, fun k hk => absurd hk (Nat.not_lt_zero k)⟩
 | n + 1, h => by
  obtain ⟨s, h1, h2⟩ := threshold (n := n) fun i j hi hj => h i j hi (by omega)
  by_cases hp : p n
  ·refine ⟨n + 1, Nat.le_refl _, fun k hk => ⟨fun _ => hk, fun _ => ?_⟩⟩
   by_cases he : k = n
   ·subst he; exact hp
   ·exact h k n (by omega) (by omega) hp
  ·refine ⟨s, by omega, fun k hk => ?_⟩
   by_cases he : k = n
   ·subst he; exact ⟨fun h3 => absurd h3 hp, fun h3 => by omega⟩
   ·exact h2 k (by omega)
theorem go_part {ns : List Nd} {need : List Bool} {u : Nat → Bool} {m : Nat} (w : Wf ns) (hs : SortedB ns (births ns)) (hm : m < ns.length) (hu : ∀ z, z ≤ m → need.getD z false = u z)
  (hc : ∀ z, z ≤ m → u z = true → (∀ o ∈ (ns.getD z default).l, u o.toNat = true) ∧ (∀ o ∈ (ns.getD z default).r, u o.toNat = true)) :
  ∀ q : Nat, ∃ s, s ≤ m + 1 ∧ (formGo ns (births ns) need (m + 1) q).2 = partN u ns s ∧ (∀ k, k < s → u k = true → (formGo ns (births ns) need (m + 1) q).1.getD k 0 = posU u k) ∧ (∀ k, k < m + 1 → ((births ns).getD k 0 < q ↔ k < s)) := by
 intro q
 induction q with
 | zero => exact ⟨0, Nat.zero_le _, rfl, fun k hk => absurd hk (Nat.not_lt_zero k), fun k hk => by have := births_nonneg w.ok.opts (show k < ns.length by omega); omega⟩
 | succ q ih =>
  obtain ⟨s, hsl, ho, ha, hb⟩ := ih
  rw [form_next]
  unfold formStep
  have hlen := go_len (ns := ns) (bs := births ns) (need := need) (m := m + 1) q
  generalize hg : formGo ns (births ns) need (m + 1) q = t at ho ha hlen
  obtain ⟨a, o⟩ := t
  simp only at ho ha hlen ⊢
  have lv := lv_ok (ns := ns) (bs := births ns) (need := need) (a := a) (b := (q : Int)) (m + 1)
  have ll := lv_len (ns := ns) (bs := births ns) (need := need) (a := a) (b := (q : Int)) (k := m + 1)
  generalize hr : lvM ns (births ns) need a q (m + 1) = t at lv ll
  obtain ⟨ls, fr⟩ := t
  have lm : ls = fr.map (ndz ns a) := lv.map
  have lmem : ∀ z ∈ fr, 0 ≤ z ∧ z.toNat ≤ m ∧ u z.toNat = true ∧ (births ns).getD z.toNat 0 = q := fun z hz => by
   have := lv.mem z hz; exact ⟨this.1, by omega, by rw [← hu z.toNat (by omega)]; exact this.2.2.1, this.2.2.2⟩
  have lall : ∀ j : Nat, j ≤ m → u j = true → (births ns).getD j 0 = q → (j : Int) ∈ fr := fun j hj c h => lv.all j (by omega) (by rw [hu j hj]; exact c) h
  have lnd : fr.Nodup := lv.nodup
  have lso : ls.Pairwise (fun x y => aheadI x y ≤ 0) := lv.sorted
  simp only at ll ⊢
  have hlow := lower_births w.ok.opts
  have hcl : ∀ z, z ≤ m → u z = true → (∀ x ∈ (ns.getD z default).l, 0 ≤ x ∧ u x.toNat = true) ∧ (∀ x ∈ (ns.getD z default).r, 0 ≤ x ∧ u x.toNat = true) := fun z hz h => by
   have c := hc z hz h; have d := hlow z (by omega)
   exact ⟨fun x hx => ⟨(d.1 x hx).1, c.1 x hx⟩, fun x hx => ⟨(d.2 x hx).1, c.2 x hx⟩⟩
  have hnd : ∀ z ∈ fr, ndz ns a z = nodeU u ns z.toNat := fun z hz => by
   have c := lmem z hz
   have d := hlow z.toNat (by omega)
   have f := hc z.toNat c.2.1 c.2.2.1
   have hri := w.rise z.toNat (by omega)
   have key : ∀ l : List Int, Rise l 0 ((z.toNat : Int) - 1) → (∀ x ∈ l, u x.toNat = true) → (∀ x ∈ l, 0 ≤ x ∧ x < z.toNat ∧ (births ns).getD x.toNat 0 < (births ns).getD z.toNat 0) → sortL (atL a l) = renL u l := fun l hr' hul hll => by
    have e : atL a l = renL u l := by
     unfold atL renL
     refine List.map_congr_left fun x hx => ?_
     have p := hll x hx
     exact ha x.toNat ((hb x.toNat (by omega)).1 (by omega)) (hul x hx)
    rw [e]; exact sort_rise (renL_rise hr' hul)
   unfold ndz ndAt nodeU
   rw [key _ hri.1 f.1 d.1, key _ hri.2 f.2 d.2]
  have hasc : fr.Pairwise (· < ·) := by
   rw [lm, List.pairwise_map] at lso
   refine (lso.and lnd).imp_of_mem fun {x y} hx hy h => ?_
   have v := lmem x hx; have a2 := lmem y hy
   rw [hnd x hx, hnd y hy, ahead_ren (hcl _ v.2.1 v.2.2.1) (hcl _ a2.2.1 a2.2.2.1)] at h
   by_cases hxy : x < y
   ·exact hxy
   ·exfalso
    have hne : x ≠ y := h.2
    rcases hs y.toNat x.toNat (by omega) (by omega) with f | ⟨_, f⟩
    ·omega
    ·have := ahead_neg (ns.getD x.toNat default) (ns.getD y.toNat default); have := h.1; omega
  have hmono : ∀ i j, i < j → j < m + 1 → (births ns).getD j 0 < ((q + 1 : Nat) : Int) → (births ns).getD i 0 < ((q + 1 : Nat) : Int) := fun i j hij hj h => by
   rcases hs i j hij (by omega) with c | ⟨c, _⟩ <;> omega
  obtain ⟨s', ab, g⟩ := threshold hmono
  have hss : s ≤ s' := by
   by_cases h : s ≤ s'
   ·exact h
   ·have c := (hb s' (by omega)).2 (by omega)
    have d := (g s' (by omega)).1 (by omega)
    omega
  have hrange : List.range s' = List.range s ++ List.range' s (s' - s) := by
   rw [List.range_eq_range', List.range_eq_range']
   have := List.range'_append_1 (s := 0) (m := s) (n := s' - s)
   rw [Nat.zero_add, show s + (s' - s) = s' by omega] at this
   exact this.symm
  have hfr : fr = ((List.range' s (s' - s)).filter u).map fun z : Nat => (z : Int) := by
   refine asc_ext hasc ?_ fun z => ?_
   ·rw [List.pairwise_map]
    exact ((List.pairwise_lt_range' ..).filter _).imp fun h => by omega
   ·rw [List.mem_map]
    constructor
    ·intro hz
     have c := lmem z hz
     refine ⟨z.toNat, List.mem_filter.2 ⟨List.mem_range'_1.2 ?_, c.2.2.1⟩, by omega⟩
     have d := hb z.toNat (by omega)
     have f := (g z.toNat (by omega)).1 (by omega)
     refine ⟨?_, by omega⟩
     by_cases p : s ≤ z.toNat
     ·exact p
     ·have := d.2 (by omega); omega
    ·rintro ⟨x, hx, rfl⟩
     have c := List.mem_filter.1 hx
     have d := List.mem_range'_1.1 c.1
     have f := hb x (by omega)
     have p := (g x (by omega)).2 (by omega)
     refine lall x (by omega) c.2 ?_
     have : ¬ (births ns).getD x 0 < q := fun h => by have := f.1 h; omega
     omega
  have hpart : partN u ns s' = partN u ns s ++ ls := by
   have e : ls = ((List.range' s (s' - s)).filter u).map (nodeU u ns) := by
    rw [lm, List.map_congr_left hnd, hfr, List.map_map]; rfl
   rw [e]; unfold partN
   rw [hrange, List.filter_append, List.map_append]
  refine ⟨s', ab, ?_, fun k hk huk => ?_, g⟩
  ·rw [place_out ll, ho, hpart]
  ·by_cases hks : k < s
   ·rw [place_other fun z hz he => by have c := lmem z hz; have d := (hb k (by omega)).2 hks; rw [he] at c; omega]
    exact ha k hks huk
   ·have hkm : k ∈ (List.range' s (s' - s)).filter u := List.mem_filter.2 ⟨List.mem_range'_1.2 ⟨by omega, by omega⟩, huk⟩
    obtain ⟨i, hi, hik⟩ := List.getElem_of_mem hkm
    have hfi : fr.getD i 0 = (k : Int) := by rw [hfr]; simp [List.getD, hi, hik]
    have hil : i < fr.length := by rw [hfr]; simpa using hi
    have d := place_at (o := o) (a := a) ll lnd (fun z hz => by have := lmem z hz; omega) hil
    rw [hfi] at d
    have f : o.length = posU u s := by rw [ho, partN_length]
    rw [show ((k : Int)).toNat = k by omega] at d
    rw [d, f]
    have hsel := sel_pos (u := u) s' (posU u s + i) (by
     rw [hrange, List.filter_append, List.length_append, ← List.countP_eq_length_filter]
     exact Nat.add_lt_add_left hi _)
    have e : ((List.range s').filter u).getD (posU u s + i) 0 = k := by
     rw [hrange, List.filter_append]
     have hl : ((List.range s).filter u).length = posU u s := (List.countP_eq_length_filter ..).symm
     rw [List.getD, List.getElem?_append_right (by omega), hl]
     simp [hi, hik]
    rw [e] at hsel
    omega
noncomputable def useU (ns : List Nd) (m : Nat) : Nat → Bool := fun j => (usedM ns m).getD j false
noncomputable def partI (ns : List Nd) (m : Nat) : List Nd := partN (useU ns m) ns (m + 1)
theorem wf_good {ns : List Nd} (h : GoodP ns) : Wf ns ∧ SortedB ns (births ns) ∧ Diff ns := by
 have hg := good_iff.2 h
 have w : Wf ns := ⟨formOk_of hg.fits hg.rise, hg.rise⟩
 have hs := sorted_all h.sorted
 refine ⟨w, hs, fun i j hij hj he => ?_⟩
 have hb := xL w.ok.opts
 rcases hs i j hij hj with h1 | ⟨_, h1⟩
 ·rw [hb.2 i (by omega), hb.2 j hj, he] at h1; omega
 ·rw [ahead_zero.2 he] at h1; omega
theorem part_form {ns : List Nd} (h : GoodP ns) {m : Nat} (hm : m < ns.length) : formM ns (births ns) m = partI ns m := by
 obtain ⟨w, hs, hd⟩ := wf_good h
 obtain ⟨s, h1, h2, _, h4⟩ := go_part (u := useU ns m) w hs hm (fun z hz => (used_reach w.ok.opts hm hz).symm) (fun z hz hu => used_closed w.ok.opts hm hz hu) (((births ns).getD m 0).toNat + 1)
 have hn := births_nonneg w.ok.opts hm
 have h5 := (h4 m (by omega)).1 (by omega)
 unfold formM partI
 rw [h2, show s = m + 1 by omega]
theorem part_eq {ns : List Nd} (h : GoodP ns) {z : Int} (hz : 0 ≤ z ∧ z < ns.length) : partS ns z = partI ns z.toNat := by
 obtain ⟨w, hs, hd⟩ := wf_good h
 unfold partS
 rw [addM_self w hd]
 simp only
 rw [idx_getD (show z.toNat < ns.length by omega), show ((z.toNat : Int)).toNat = z.toNat by omega]
 exact part_form h (by omega)

theorem partI_len (ns : List Nd) (m : Nat) : (partI ns m).length ≤ m + 1 := by
 unfold partI; rw [partN_length]; exact posU_lower _ _
end Go.GL

namespace Go.GL
def loG (g i : Nat) : Prop := g.testBit (2 * i) = true
def roG (g i : Nat) : Prop := g.testBit (2 * i + 1) = true
theorem bit_lt {g k : Nat} (h : g.testBit k = true) : k < g := Nat.lt_of_lt_of_le Nat.lt_two_pow_self (Nat.ge_two_pow_of_testBit h)
theorem loG.lt {g i : Nat} (h : loG g i) : i < g := by have := bit_lt h; omega
theorem roG.lt {g i : Nat} (h : roG g i) : i < g := by have := bit_lt h; omega
theorem gext {a b : Nat} (hl : ∀ i, loG a i ↔ loG b i) (hr : ∀ i, roG a i ↔ roG b i) : a = b := by
 apply Nat.eq_of_testBit_eq
 intro k
 rcases Nat.mod_two_eq_zero_or_one k with h | h
 ·have e : k = 2 * (k / 2) := by omega
  have := hl (k / 2)
  unfold loG at this
  rw [← e] at this
  exact Bool.eq_iff_iff.2 this
 ·have e : k = 2 * (k / 2) + 1 := by omega
  have := hr (k / 2)
  unfold roG at this
  rw [← e] at this
  exact Bool.eq_iff_iff.2 this
def lefts (g : Nat) : List Nat := (List.range g).filter fun i => g.testBit (2 * i)
def rights (g : Nat) : List Nat := (List.range g).filter fun i => g.testBit (2 * i + 1)
theorem memG_l {g i : Nat} : i ∈ lefts g ↔ loG g i := by
 unfold lefts
 rw [List.mem_filter, List.mem_range]
 exact ⟨fun h => h.2, fun h => ⟨loG.lt h, h⟩⟩
theorem memG_r {g i : Nat} : i ∈ rights g ↔ roG g i := by
 unfold rights
 rw [List.mem_filter, List.mem_range]
 exact ⟨fun h => h.2, fun h => ⟨roG.lt h, h⟩⟩
def bitsG : List Nat → Nat
 | [] => 0
 | k :: l => 2 ^ k ||| bitsG l
theorem bits_at {k : Nat} : ∀ {l : List Nat}, (bitsG l).testBit k = true ↔ k ∈ l
 | [] => by simp [bitsG]
 | x :: l => by
  unfold bitsG
  rw [Nat.testBit_or, Bool.or_eq_true, bits_at (l := l), Nat.testBit_two_pow]
  simp only [decide_eq_true_eq, List.mem_cons]
  constructor
  ·rintro (h | h)
   ·exact Or.inl h.symm
   ·exact Or.inr h
  ·rintro (h | h)
   ·exact Or.inl h.symm
   ·exact Or.inr h
def mkG (l r : List Nat) : Nat := bitsG (l.map (2 * ·) ++ r.map (2 * · + 1))
theorem lo_mk {l r : List Nat} {i : Nat} : loG (mkG l r) i ↔ i ∈ l := by
 unfold loG mkG
 rw [bits_at, List.mem_append, List.mem_map, List.mem_map]
 constructor
 ·rintro (⟨a, ha, e⟩ | ⟨a, ha, e⟩)
  ·have : a = i := by omega
   rwa [← this]
  ·omega
 ·exact fun h => Or.inl ⟨i, h, rfl⟩
theorem ro_mk {l r : List Nat} {i : Nat} : roG (mkG l r) i ↔ i ∈ r := by
 unfold roG mkG
 rw [bits_at, List.mem_append, List.mem_map, List.mem_map]
 constructor
 ·rintro (⟨a, ha, e⟩ | ⟨a, ha, e⟩)
  ·omega
  ·have : a = i := by omega
   rwa [← this]
 ·exact fun h => Or.inr ⟨i, h, rfl⟩
theorem mk_congr {l r l' r' : List Nat} (hl : ∀ i, i ∈ l ↔ i ∈ l') (hr : ∀ i, i ∈ r ↔ i ∈ r') : mkG l r = mkG l' r' :=
 gext (fun i => by rw [lo_mk, lo_mk]; exact hl i) (fun i => by rw [ro_mk, ro_mk]; exact hr i)

def geG (a b : Nat) : Prop := (∀ r, (_h : roG a r) → ¬ geG b r) ∧ (∀ l, (_h : loG b l) → ¬ geG l a)
termination_by a + b
decreasing_by
 ·have := _h.lt; omega
 ·have := _h.lt; omega
theorem ge_iff {a b : Nat} : geG a b ↔ (∀ r, roG a r → ¬ geG b r) ∧ (∀ l, loG b l → ¬ geG l a) := by
 rw [geG]
theorem ge_not {a b : Nat} (h : ¬ geG a b) : (∃ r, roG a r ∧ geG b r) ∨ ∃ l, loG b l ∧ geG l a := by
 rw [ge_iff] at h
 by_cases h1 : ∃ r, roG a r ∧ geG b r
 ·exact Or.inl h1
 ·right
  apply Classical.byContradiction
  intro h2
  exact h ⟨fun r hr hg => h1 ⟨r, hr, hg⟩, fun l hl hg => h2 ⟨l, hl, hg⟩⟩
def eqG (a b : Nat) : Prop := geG a b ∧ geG b a

def negG (g : Nat) : Nat := mkG ((rights g).attach.map fun ⟨i, _h⟩ => negG i) ((lefts g).attach.map fun ⟨i, _h⟩ => negG i)
termination_by g
decreasing_by
 ·exact (memG_r.1 _h).lt
 ·exact (memG_l.1 _h).lt
def addG (a b : Nat) : Nat :=
 mkG (((lefts a).attach.map fun ⟨i, _h⟩ => addG i b) ++ (lefts b).attach.map fun ⟨i, _h⟩ => addG a i)
  (((rights a).attach.map fun ⟨i, _h⟩ => addG i b) ++ (rights b).attach.map fun ⟨i, _h⟩ => addG a i)
termination_by a + b
decreasing_by
 ·have := (memG_l.1 _h).lt; omega
 ·have := (memG_l.1 _h).lt; omega
 ·have := (memG_r.1 _h).lt; omega
 ·have := (memG_r.1 _h).lt; omega
theorem lo_zero {i : Nat} : ¬ loG 0 i := fun h => absurd h.lt (by omega)
theorem ro_zero {i : Nat} : ¬ roG 0 i := fun h => absurd h.lt (by omega)


def NoDom (g : Nat) : Prop := (∀ a b, loG g a → loG g b → geG a b → a = b) ∧ (∀ a b, roG g a → roG g b → geG a b → a = b)
def NoRev (g : Nat) : Prop := (∀ l r, loG g l → roG l r → ¬ geG g r) ∧ (∀ r l, roG g r → loG r l → ¬ geG l g)
def CanonG (g : Nat) : Prop := NoDom g ∧ NoRev g ∧ (∀ l, (_h : loG g l) → CanonG l) ∧ (∀ r, (_h : roG g r) → CanonG r)
termination_by g
decreasing_by
 ·exact _h.lt
 ·exact _h.lt
end Go.GL

namespace Go.GL
def stepD (acc : List Nat) (n : Nd) : List Nat := acc ++ [mkG (n.l.map fun z => acc.getD z.toNat 0) (n.r.map fun z => acc.getD z.toNat 0)]
def dens (ns : List Nd) : List Nat := ns.foldl stepD []
def den (ns : List Nd) (k : Nat) : Nat := (dens ns).getD k 0
theorem fold_len : ∀ (ns : List Nd) (acc : List Nat), (ns.foldl stepD acc).length = acc.length + ns.length
 | [], acc => by simp
 | n :: ns, acc => by rw [List.foldl_cons, fold_len ns]; simp [stepD]; omega
theorem fold_pre : ∀ (ns : List Nd) (acc : List Nat) (k : Nat), k < acc.length → (ns.foldl stepD acc).getD k 0 = acc.getD k 0
 | [], acc, k, h => rfl
 | n :: ns, acc, k, h => by
  rw [List.foldl_cons, fold_pre ns _ k (by simp [stepD]; omega)]
  exact yU h
theorem den_app {ns ms : List Nd} {k : Nat} (h : k < ns.length) : den (ns ++ ms) k = den ns k := by
 unfold den dens
 rw [List.foldl_append]
 exact fold_pre _ _ _ (by rw [fold_len]; simpa using h)
theorem den_take {ns : List Nd} {k m : Nat} (h : k < m) (hm : m ≤ ns.length) : den (ns.take m) k = den ns k := by
 have := den_app (ns := ns.take m) (ms := ns.drop m) (k := k) (by simp; omega)
 rw [List.take_append_drop] at this
 exact this.symm
theorem den_at {ns : List Nd} {k : Nat} (hk : k < ns.length) (hl : ∀ z ∈ (ns.getD k default).l, 0 ≤ z ∧ z < k) (hr : ∀ z ∈ (ns.getD k default).r, 0 ≤ z ∧ z < k) :
  den ns k = mkG ((ns.getD k default).l.map fun z => den ns z.toNat) ((ns.getD k default).r.map fun z => den ns z.toNat) := by
 rw [← den_take (m := k + 1) (by omega) (by omega), take_snoc ns default hk]
 unfold den dens
 rw [List.foldl_append]
 have hlen : ((ns.take k).foldl stepD []).length = k := by rw [fold_len]; simp; omega
 have e0 : ∀ (A : List Nat) (n : Nd), List.foldl stepD A [n] = A ++ [mkG (n.l.map fun z => A.getD z.toNat 0) (n.r.map fun z => A.getD z.toNat 0)] := fun _ _ => rfl
 rw [e0, xD hlen.symm]
 have e : ∀ z : Int, 0 ≤ z ∧ z < k → (List.foldl stepD [] (ns.take k)).getD z.toNat 0 = (List.foldl stepD [] ns).getD z.toNat 0 := fun z hz => den_take (ns := ns) (k := z.toNat) (m := k) (by omega) (by omega)
 rw [List.map_congr_left (g := fun z => (List.foldl stepD [] ns).getD z.toNat 0) fun z hz => e z (hl z hz)]
 rw [List.map_congr_left (l := (ns.getD k default).r) (g := fun z => (List.foldl stepD [] ns).getD z.toNat 0) fun z hz => e z (hr z hz)]
theorem den_opt {ns : List Nd} (ho : OptsOk ns) {k : Nat} (hk : k < ns.length) :
  den ns k = mkG ((ns.getD k default).l.map fun z => den ns z.toNat) ((ns.getD k default).r.map fun z => den ns z.toNat) := den_at hk (xB ho hk).1 (xB ho hk).2
theorem xY {ns : List Nd} (ho : OptsOk ns) {k x : Nat} (hk : k < ns.length) : loG (den ns k) x ↔ ∃ z ∈ (ns.getD k default).l, x = den ns z.toNat := by
 rw [den_opt ho hk, lo_mk, List.mem_map]
 exact ⟨fun ⟨z, h1, h2⟩ => ⟨z, h1, h2.symm⟩, fun ⟨z, h1, h2⟩ => ⟨z, h1, h2.symm⟩⟩
theorem xX {ns : List Nd} (ho : OptsOk ns) {k x : Nat} (hk : k < ns.length) : roG (den ns k) x ↔ ∃ z ∈ (ns.getD k default).r, x = den ns z.toNat := by
 rw [den_opt ho hk, ro_mk, List.mem_map]
 exact ⟨fun ⟨z, h1, h2⟩ => ⟨z, h1, h2.symm⟩, fun ⟨z, h1, h2⟩ => ⟨z, h1, h2.symm⟩⟩


structure Ar (ns : List Nd) (bs : List Int) : Prop where
 ok : BookOk ns bs
 rise : ∀ i, i < ns.length → (ns.getD i default).l.Pairwise (· < ·) ∧ (ns.getD i default).r.Pairwise (· < ·)
 diff : Diff ns
 born : BirthsOf ns bs
theorem Ar.opts {ns : List Nd} {bs : List Int} (h : Ar ns bs) : OptsOk ns := h.ok.optsOk
theorem Ar.empty : Ar [] [] := ⟨xW, fun i hi => absurd hi (Nat.not_lt_zero i), fun _ j _ hj => absurd hj (Nat.not_lt_zero j), rfl, fun k hk => absurd hk (Nat.not_lt_zero k)⟩
theorem den_inj_n {ns : List Nd} (ho : OptsOk ns) (hr : ∀ i, i < ns.length → (ns.getD i default).l.Pairwise (· < ·) ∧ (ns.getD i default).r.Pairwise (· < ·)) (hd : Diff ns) :
  ∀ (n i j : Nat), i + j ≤ n → i < ns.length → j < ns.length → den ns i = den ns j → i = j
 | 0, i, j, hn, _, _, _ => by omega
 | n + 1, i, j, hn, hi, hj, he => by
  have key : ∀ a b, a + b ≤ n + 1 → a < ns.length → b < ns.length → den ns a = den ns b → (∀ z ∈ (ns.getD a default).l, z ∈ (ns.getD b default).l) ∧ (∀ z ∈ (ns.getD a default).r, z ∈ (ns.getD b default).r) := by
   intro a b hab ha hb e
   have oa := xB ho ha
   have ob := xB ho hb
   constructor
   ·intro z hz
    have h1 : loG (den ns a) (den ns z.toNat) := (xY ho ha).2 ⟨z, hz, rfl⟩
    rw [e] at h1
    obtain ⟨y, hy, e2⟩ := (xY ho hb).1 h1
    have z1 := oa.1 z hz
    have y1 := ob.1 y hy
    have := den_inj_n ho hr hd n z.toNat y.toNat (by omega) (by omega) (by omega) e2
    have : z = y := by omega
    rwa [this]
   ·intro z hz
    have h1 : roG (den ns a) (den ns z.toNat) := (xX ho ha).2 ⟨z, hz, rfl⟩
    rw [e] at h1
    obtain ⟨y, hy, e2⟩ := (xX ho hb).1 h1
    have z1 := oa.2 z hz
    have y1 := ob.2 y hy
    have := den_inj_n ho hr hd n z.toNat y.toNat (by omega) (by omega) (by omega) e2
    have : z = y := by omega
    rwa [this]
  have k1 := key i j hn hi hj he
  have k2 := key j i (by omega) hj hi he.symm
  have el := asc_ext (hr i hi).1 (hr j hj).1 fun z => ⟨k1.1 z, k2.1 z⟩
  have er := asc_ext (hr i hi).2 (hr j hj).2 fun z => ⟨k1.2 z, k2.2 z⟩
  have e := nd_ext el er
  rcases Nat.lt_trichotomy i j with h | h | h
  ·exact absurd e (hd i j h hj)
  ·exact h
  ·exact absurd e.symm (hd j i h hi)
theorem Ar.inj {ns : List Nd} {bs : List Int} (h : Ar ns bs) {i j : Nat} (hi : i < ns.length) (hj : j < ns.length) (he : den ns i = den ns j) : i = j := den_inj_n h.opts h.rise h.diff _ i j (Nat.le_refl _) hi hj he
theorem putL_rise {n : Int} : ∀ {l : List Int}, l.Pairwise (· < ·) → (putL l n).Pairwise (· < ·)
 | [], _ => by simp [putL]
 | x :: r, h => by
  have h' := List.pairwise_cons.1 h
  unfold putL
  split
  ·rename_i hx
   refine List.pairwise_cons.2 ⟨fun k hk => ?_, putL_rise h'.2⟩
   rcases mem_putL.1 hk with rfl | hk
   ·exact hx
   ·exact h'.1 k hk
  ·split
   ·exact h
   ·rename_i h1 h2
    refine List.pairwise_cons.2 ⟨fun k hk => ?_, h⟩
    rcases List.mem_cons.1 hk with rfl | hk
    ·omega
    ·have := h'.1 k hk; omega
theorem sortL_rise (l : List Int) : (sortL l).Pairwise (· < ·) := by
 have key : ∀ (l a : List Int), a.Pairwise (· < ·) → (l.foldl putL a).Pairwise (· < ·) := by
  intro l
  induction l with
  | nil => intro a h; exact h
  | cons x r ih => intro a h; exact ih _ (putL_rise h)
 exact key l [] List.Pairwise.nil
theorem bornOf_le {bs : List Int} {m : Int} : ∀ {l : List Int} {b : Int}, bornOf bs l b ≤ m ↔ b ≤ m ∧ ∀ k ∈ l, bs.getD k.toNat 0 + 1 ≤ m
 | [], b => by simp [bornOf]
 | x :: r, b => by
  have e : bornOf bs (x :: r) b = bornOf bs r (max b (bs.getD x.toNat 0 + 1)) := rfl
  rw [e, bornOf_le (l := r)]
  simp only [List.mem_cons, forall_eq_or_imp]
  constructor
  ·rintro ⟨h1, h2⟩; exact ⟨by omega, by omega, h2⟩
  ·rintro ⟨h1, h2, h3⟩; exact ⟨by omega, h3⟩
theorem putBorn_le {bs l r : List Int} {m : Int} : putBorn bs l r ≤ m ↔ 0 ≤ m ∧ (∀ k ∈ l, bs.getD k.toNat 0 + 1 ≤ m) ∧ ∀ k ∈ r, bs.getD k.toNat 0 + 1 ≤ m := by
 unfold putBorn
 rw [bornOf_le, bornOf_le, and_assoc]
theorem putBorn_sort {bs l r : List Int} : putBorn bs (sortL l) (sortL r) = putBorn bs l r := by
 apply Int.le_antisymm
 ·rw [putBorn_le]
  have := putBorn_le (bs := bs) (l := l) (r := r).1 (Int.le_refl _)
  exact ⟨this.1, fun k hk => this.2.1 k (mem_sortL.1 hk), fun k hk => this.2.2 k (mem_sortL.1 hk)⟩
 ·rw [putBorn_le]
  have := putBorn_le (bs := bs) (l := sortL l) (r := sortL r).1 (Int.le_refl _)
  exact ⟨this.1, fun k hk => this.2.1 k (mem_sortL.2 hk), fun k hk => this.2.2 k (mem_sortL.2 hk)⟩
theorem Ar.put {ns : List Nd} {bs xs ys : List Int} (h : Ar ns bs) (hl : ns.length + 1 ≤ 1048576) (hls : xs.length ≤ 1048576 ∧ ys.length ≤ 1048576) (h1 : ∀ i, i < xs.length → 0 ≤ xs.getD i 0 ∧ xs.getD i 0 < ns.length) (h2 : ∀ i, i < ys.length → 0 ≤ ys.getD i 0 ∧ ys.getD i 0 < ns.length) :
  Ar (putN ns bs xs ys) (putB ns bs xs ys) ∧ den (putN ns bs xs ys) (putK ns bs xs ys).toNat = mkG (xs.map fun z => den ns z.toNat) (ys.map fun z => den ns z.toNat) ∧ ∀ k, k < ns.length → den (putN ns bs xs ys) k = den ns k := by
 have hb := h.ok.put hl hls h1 h2
 have hm1 := xV (P := fun k => 0 ≤ k ∧ k < (ns.length : Int)) h1
 have hm2 := xV (P := fun k => 0 ≤ k ∧ k < (ns.length : Int)) h2
 have hsort : ∀ (f : Int → Nat), mkG ((sortL xs).map f) ((sortL ys).map f) = mkG (xs.map f) (ys.map f) := fun f => mk_congr
  (fun i => by simp only [List.mem_map, mem_sortL]) (fun i => by simp only [List.mem_map, mem_sortL])
 unfold putN putB putK at hb ⊢
 cases hf : findK ns bs (putNd xs ys) (putBorn bs xs ys) with
 | some k =>
  rw [hf] at hb
  simp only at hb ⊢
  have hmem := List.mem_of_find?_eq_some hf
  have hdec := List.find?_some hf
  have hk : k < ns.length := by simpa using hmem
  have hd : bs.getD k 0 = putBorn bs xs ys ∧ (ns.getD k default).l = sortL xs ∧ (ns.getD k default).r = sortL ys := of_decide_eq_true hdec
  refine ⟨h, ?_, fun k _ => by trivial⟩
  rw [Int.toNat_natCast, den_opt h.opts hk, hd.2.1, hd.2.2]
  exact hsort _
 | none =>
  rw [hf] at hb
  simp only at hb ⊢
  have hlen := h.ok.len
  have hnew : ∀ i, i < ns.length → ns.getD i default ≠ putNd xs ys := fun i hi e => by
   have hn := List.find?_eq_none.1 hf i (List.mem_range.2 hi)
   apply hn
   refine decide_eq_true ⟨?_, by rw [e], by rw [e]⟩
   rw [h.born.2 i hi, e]
   exact putBorn_sort
  have hat : ∀ i, i < ns.length → (ns ++ [putNd xs ys]).getD i default = ns.getD i default := fun i hi => yU hi
  have hself : (ns ++ [putNd xs ys]).getD ns.length default = putNd xs ys := xD rfl
  have hlast : ∀ i, i < (ns ++ [putNd xs ys]).length → i < ns.length ∨ i = ns.length := fun i hi => by simp at hi; omega
  have hbat : ∀ i, i < ns.length → (bs ++ [putBorn bs xs ys]).getD i 0 = bs.getD i 0 := fun i hi => yU (by omega)
  refine ⟨⟨hb.1, fun i hi => ?_, fun i j hij hj => ?_, by simp [hlen], fun k hk => ?_⟩, ?_, fun k hk => den_app hk⟩
  ·rcases hlast i hi with hi' | rfl
   ·rw [hat i hi']; exact h.rise i hi'
   ·rw [hself]; exact ⟨sortL_rise _, sortL_rise _⟩
  ·rcases hlast j hj with hj' | rfl
   ·rw [hat i (by omega), hat j hj']; exact h.diff i j hij hj'
   ·rw [hat i hij, hself]; exact hnew i hij
  ·rcases hlast k hk with hk' | rfl
   ·have ho := xB h.opts hk'
    rw [hat k hk', hbat k hk', h.born.2 k hk']
    exact putBorn_congr (fun z hz => (hbat z.toNat (by have := ho.1 z hz; omega)).symm) (fun z hz => (hbat z.toNat (by have := ho.2 z hz; omega)).symm)
   ·rw [hself, xD hlen.symm]
    refine putBorn_sort.symm.trans (putBorn_congr (fun z hz => (hbat z.toNat ?_).symm) (fun z hz => (hbat z.toNat ?_).symm))
    ·have := hm1 z (mem_sortL.1 hz); omega
    ·have := hm2 z (mem_sortL.1 hz); omega
  ·rw [Int.toNat_natCast, den_at (by simp) (by rw [hself]; exact fun z hz => hm1 z (mem_sortL.1 hz)) (by rw [hself]; exact fun z hz => hm2 z (mem_sortL.1 hz)), hself]
   have e : ∀ l : List Int, (∀ z ∈ l, 0 ≤ z ∧ z < (ns.length : Int)) → (sortL l).map (fun z => den (ns ++ [putNd xs ys]) z.toNat) = (sortL l).map fun z => den ns z.toNat := fun l hm =>
    List.map_congr_left fun z hz => den_app (by have := hm z (mem_sortL.1 hz); omega)
   have e1 : (putNd xs ys).l = sortL xs := rfl
   have e2 : (putNd xs ys).r = sortL ys := rfl
   rw [e1, e2, e xs hm1, e ys hm2]
   exact hsort _
structure AddD (ns : List Nd) (fs : List Nd) (k : Nat) (s : List Int × List Nd × List Int) : Prop where
 ar : Ar s.2.1 s.2.2
 is : ∀ i, i < k → den s.2.1 (s.1.getD i 0).toNat = den fs i
 old : ∀ i, i < ns.length → den s.2.1 i = den ns i
theorem addM_den {ns : List Nd} {bs : List Int} {fs : List Nd} (h : Ar ns bs) (hf : FormOk fs) (hl : ns.length + fs.length ≤ 1048576) : ∀ k, k ≤ fs.length → AddD ns fs k (addM ns bs (fs.take k)) := by
 intro k
 induction k with
 | zero => intro _; exact ⟨h, fun i hi => absurd hi (Nat.not_lt_zero i), fun i _ => rfl⟩
 | succ k ih =>
  intro hk
  have ih := ih (by omega)
  have ha := addM_ok h.ok hf hl k (by omega)
  rw [qF (by omega)]
  generalize addM ns bs (fs.take k) = s at ih ha
  obtain ⟨asx, ns2, bs2⟩ := s
  have a1 := ha.at1 hf (show k < fs.length by omega)
  have hhi := ha.hi
  simp only at hhi
  have hp := ih.ar.put (xs := atL asx (fs.getD k default).l) (ys := atL asx (fs.getD k default).r) (by simp only; omega) (by have := hf.lens k (by omega); rw [xE, xE]; omega) (at_bounds ha.places a1.1) (at_bounds ha.places a1.2)
  have hlo := ha.lo
  have hal := ha.len
  simp only at hp ih hlo hal
  refine ⟨hp.1, fun i hi => ?_, fun i hi => ?_⟩
  ·show den (putN ns2 bs2 _ _) ((asx ++ [_]).getD i 0).toNat = den fs i
   by_cases he : i < k
   ·rw [yU (by omega), hp.2.2 _ (by have := ha.places i (by simp only; omega); simp only at this; omega)]
    exact ih.is i he
   ·have e : i = k := by omega
    subst e
    rw [xD hal.symm, hp.2.1, den_opt hf.opts (by omega)]
    have oo := xB hf.opts (show i < fs.length by omega)
    have em : ∀ l : List Int, (∀ z ∈ l, 0 ≤ z ∧ z < (i : Int)) → (atL asx l).map (fun z => den ns2 z.toNat) = l.map fun z => den fs z.toNat := fun l hm => by
     unfold atL
     rw [List.map_map]
     exact List.map_congr_left fun z hz => ih.is z.toNat (by have := hm z hz; omega)
    rw [em _ oo.1, em _ oo.2]
  ·show den (putN ns2 bs2 _ _) i = den ns i
   rw [hp.2.2 i (by omega)]
   exact ih.old i hi
theorem Ar.add {ns : List Nd} {bs : List Int} {fs : List Nd} (h : Ar ns bs) (hf : FormOk fs) (hl : ns.length + fs.length ≤ 1048576) : AddD ns fs fs.length (addM ns bs fs) := by
 have := addM_den h hf hl fs.length (Nat.le_refl _)
 rwa [List.take_length] at this
def gOf (fs : List Nd) : Nat := den fs (fs.length - 1)
theorem Ar.root {ns : List Nd} {bs : List Int} {fs : List Nd} (h : Ar ns bs) (hf : FormOk fs) (h1 : 1 ≤ fs.length) (hl : ns.length + fs.length ≤ 1048576) : den (addM ns bs fs).2.1 (rootM ns bs fs).toNat = gOf fs := by
 unfold rootM gOf
 have ha := addM_all h.ok hf hl
 rw [ha.len]
 exact (h.add hf hl).is _ (by omega)
end Go.GL

namespace Go.GL
open Go Go.RowKit
def inO (x : Option Nat) (k : Nat) : Prop := x = some k
theorem notO {x y : Option Nat} (h : Apart x y) : ∀ k, x = some k → ¬ inO y k := fun k hx hy => h k hx hy
theorem notOb {c : Nat} {y : Option Nat} (h : Apart (some c) y) : ¬ inO y c := fun hy => h c rfl hy
theorem xI {w : World} {x : Option Nat} : Lo w (inO x) x := fun _ hk => Or.inr hk

end Go.GL

namespace Go.GL
open Go Go.RowKit


section
variable {κ ν : Type} [DecidableEq κ]
def look (l : List (κ × ν)) (k : κ) : Option ν := (l.find? fun p => decide (p.1 = k)).map (·.2)
end


section
variable {P : Program}
end


section
variable {κ ν : Type} {enc : κ → Value} {val : ν → Value} {w w' : World} {m : Nat} {l : List (κ × ν)}
end
section
variable {P : Program} {ρ : Operand → Value} {w : World} {K : Value → World → Prop} {d : Option Nat} {t kt et ty : Nat} {pos : String} {aft : Array Edge} {g : Option (Nat × Bool)} {x y z : Operand} {G : Pin}
 {κ ν : Type} [DecidableEq κ] {enc : κ → Value} {val : ν → Value} {m : Nat} {l : List (κ × ν)}
end
end Go.GL

namespace Go.GL
open Go Go.RowKit
section
variable {P : Program} {ρ : Operand → Value} {w : World} {d : Option Nat} {t ty t' : Nat} {pos : String} {aft : Array Edge} {g : Option (Nat × Bool)} {x y c : Operand}
 {v u : Value} {i j : Int} {k : IntKind} {G : Pin} {K : Value → World → Prop}
theorem wrapU {n : Int} (h : 0 ≤ n ∧ n ≤ 18446744073709551615) : IntKind.u64.wrap n = n := by
 unfold IntKind.wrap
 simp only [IntKind.bits, IntKind.signed]
 have : n % (2 : Int) ^ 64 = n := Int.emod_eq_of_lt h.1 (by omega)
 simp only [this, Bool.false_and]
 rfl
theorem wrapI {n : Int} (h : -9223372036854775808 ≤ n ∧ n ≤ 9223372036854775807) : IntKind.i64.wrap n = n := by
 simp [IntWalk.i64_in n h]
theorem r_addU (hx : ρ x = .int .u64 i) (hy : ρ y = .int .u64 j) : (execOp ρ ⟨d, .binOp .add t x y t', ty, pos, aft, g⟩).run P w = .ok (.value (.int .u64 (IntKind.u64.wrap (i + j)))) w := by
 simp [execOp, hx, hy, binOp, eqGuard, Op.intArith]
theorem r_mulU (hx : ρ x = .int .u64 i) (hy : ρ y = .int .u64 j) : (execOp ρ ⟨d, .binOp .mul t x y t', ty, pos, aft, g⟩).run P w = .ok (.value (.int .u64 (IntKind.u64.wrap (i * j)))) w := by
 simp [execOp, hx, hy, binOp, eqGuard, Op.intArith]
theorem r_shrU (hx : ρ x = .int .u64 i) (hy : ρ y = .int .u64 j) (h0 : 0 ≤ j) : (execOp ρ ⟨d, .binOp .shr t x y t', ty, pos, aft, g⟩).run P w = .ok (.value (.int .u64 (i.fdiv (2 ^ (min j.toNat 64))))) w := by
 simp [execOp, hx, hy, binOp, eqGuard, Op.shift, show ¬ j < 0 by omega, IntKind.bits]
def andW (k : IntKind) (i j : Int) : Int := k.wrap (BitVec.ofInt k.bits i &&& BitVec.ofInt k.bits j).toNat
theorem r_and (hx : ρ x = .int k i) (hy : ρ y = .int k j) : (execOp ρ ⟨d, .binOp .and t x y t', ty, pos, aft, g⟩).run P w = .ok (.value (.int k (andW k i j))) w := by
 simp [execOp, hx, hy, binOp, eqGuard, Op.intBits, andW]
theorem low8_lt (i : Int) : 0 ≤ andW .u64 i 255 ∧ andW .u64 i 255 ≤ 255 := by
 have h : (BitVec.ofInt 64 i &&& BitVec.ofInt 64 255).toNat ≤ 255 := by
  rw [BitVec.toNat_and]
  exact Nat.le_trans Nat.and_le_right (by decide)
 have e : andW .u64 i 255 = ((BitVec.ofInt 64 i &&& BitVec.ofInt 64 255).toNat : Int) := wrapU ⟨by omega, by show ((BitVec.ofInt 64 i &&& BitVec.ofInt 64 255).toNat : Int) ≤ _; omega⟩
 rw [e]; omega
theorem r_conv {t2 : Nat} {k2 : IntKind} {td : TypeDesc} (hs : P.underlying t = some td) (hd : P.underlying t2 = some (.int k2)) (hx : ρ x = .int k i) (hw : k2.wrap i = j) : (execOp ρ ⟨d, .convert t t2 x, ty, pos, aft, g⟩).run P w = .ok (.value (.int k2 j)) w := by
 subst hw
 simp [execOp, hx, convert, run_underlying hs, run_underlying hd, Conv.intToInt]



def b2s (l : List UInt8) : ByteArray := ⟨l.toArray⟩
theorem b2s_inj {a b : List UInt8} (h : b2s a = b2s b) : a = b := by
 have := congrArg (fun x => x.data.toList) h
 simpa [b2s] using this

def digC (n : Nat) : UInt8 := if n < 10 then UInt8.ofNat (48 + n) else UInt8.ofNat (87 + n)
end
theorem digC_inj : ∀ a b : Fin 36, digC a.val = digC b.val → a = b := by decide
theorem digC_sep : ∀ a : Fin 36, digC a.val ≠ 44 ∧ digC a.val ≠ 124 := by decide
def dig36 (n : Nat) : List UInt8 := if _h : n < 36 then [digC n] else dig36 (n / 36) ++ [digC (n % 36)]
termination_by n
decreasing_by omega
theorem dig_lo {n : Nat} (h : n < 36) : dig36 n = [digC n] := by rw [dig36, dif_pos h]
theorem dig_hi {n : Nat} (h : ¬ n < 36) : dig36 n = dig36 (n / 36) ++ [digC (n % 36)] := by rw [dig36, dif_neg h]
theorem dig_pos (n : Nat) : 0 < (dig36 n).length := by
 by_cases h : n < 36
 ·rw [dig_lo h]; simp
 ·rw [dig_hi h]; simp
theorem dig_sep (n : Nat) : ∀ x ∈ dig36 n, x ≠ 44 ∧ x ≠ 124 := by
 induction n using Nat.strongRecOn with
 | _ n ih =>
  intro x hx
  by_cases h : n < 36
  ·rw [dig_lo h] at hx; simp at hx; subst hx; exact digC_sep ⟨n, h⟩
  ·rw [dig_hi h] at hx
   rcases List.mem_append.1 hx with hx | hx
   ·exact ih _ (by omega) x hx
   ·simp at hx; subst hx; exact digC_sep ⟨n % 36, by omega⟩
theorem dig_inj : ∀ (a b : Nat), dig36 a = dig36 b → a = b := by
 intro a
 induction a using Nat.strongRecOn with
 | _ a ih =>
  intro b h
  by_cases ha : a < 36 <;> by_cases hb : b < 36
  ·rw [dig_lo ha, dig_lo hb] at h
   have := digC_inj ⟨a, ha⟩ ⟨b, hb⟩ (by simpa using h)
   simpa using this
  ·rw [dig_lo ha, dig_hi hb] at h
   have h1 := congrArg List.length h
   have := dig_pos (b / 36)
   rw [List.length_append] at h1
   simp only [List.length_cons, List.length_nil] at h1; omega
  ·rw [dig_hi ha, dig_lo hb] at h
   have h1 := congrArg List.length h
   have := dig_pos (a / 36)
   rw [List.length_append] at h1
   simp only [List.length_cons, List.length_nil] at h1; omega
  ·rw [dig_hi ha, dig_hi hb] at h
   obtain ⟨h1, h2⟩ := List.append_inj' h rfl
   have e1 := ih (a / 36) (by omega) _ h1
   have e2 := digC_inj ⟨a % 36, by omega⟩ ⟨b % 36, by omega⟩ (by simpa using h2)
   simp at e2; omega

def keyL (l : List Int) : List UInt8 := l.flatMap fun z => dig36 z.toNat ++ [44]
def keyN (l r : List Int) : List UInt8 := keyL l ++ [124] ++ keyL r
theorem cut_at {s : UInt8} : ∀ {a b x y : List UInt8}, (∀ z ∈ a, z ≠ s) → (∀ z ∈ b, z ≠ s) → a ++ s :: x = b ++ s :: y → a = b ∧ x = y
 | [], [], _, _, _, _, h => by simpa using h
 | [], q :: b, _, _, _, hb, h => by simp at h; exact absurd h.1.symm (hb q List.mem_cons_self)
 | p :: a, [], _, _, ha, _, h => by simp at h; exact absurd h.1 (ha p List.mem_cons_self)
 | p :: a, q :: b, x, y, ha, hb, h => by
  simp only [List.cons_append, List.cons.injEq] at h
  obtain ⟨h1, h2⟩ := cut_at (a := a) (b := b) (fun z hz => ha z (List.mem_cons_of_mem _ hz)) (fun z hz => hb z (List.mem_cons_of_mem _ hz)) h.2
  exact ⟨by rw [h.1, h1], h2⟩
theorem keyL_cons (z : Int) (l : List Int) (x : List UInt8) : keyL (z :: l) ++ x = dig36 z.toNat ++ 44 :: (keyL l ++ x) := by simp [keyL]
theorem keyL_sep (l : List Int) : ∀ x ∈ keyL l, x ≠ 124 := fun x hx => by
 obtain ⟨z, _, hz⟩ := List.mem_flatMap.1 hx
 rcases List.mem_append.1 hz with hz | hz
 ·exact (dig_sep _ x hz).2
 ·simp at hz; subst hz; decide
theorem keyL_inj : ∀ {a b : List Int}, (∀ z ∈ a, 0 ≤ z) → (∀ z ∈ b, 0 ≤ z) → keyL a = keyL b → a = b
 | [], [], _, _, _ => rfl
 | [], z :: b, _, _, h => by
  have := congrArg List.length h
  simp [keyL] at this
 | z :: a, [], _, _, h => by
  have := congrArg List.length h
  simp [keyL] at this
 | z :: a, y :: b, ha, hb, h => by
  have e1 := keyL_cons z a []
  have e2 := keyL_cons y b []
  rw [List.append_nil, List.append_nil] at e1 e2
  rw [e1, e2] at h
  obtain ⟨h1, h2⟩ := cut_at (fun q hq => (dig_sep _ q hq).1) (fun q hq => (dig_sep _ q hq).1) h
  have := dig_inj _ _ h1
  have z0 := ha z List.mem_cons_self; have y0 := hb y List.mem_cons_self
  rw [keyL_inj (fun q hq => ha q (List.mem_cons_of_mem _ hq)) (fun q hq => hb q (List.mem_cons_of_mem _ hq)) h2, show z = y by omega]
theorem keyN_inj {a b c e : List Int} (ha : ∀ z ∈ a, 0 ≤ z) (hb : ∀ z ∈ b, 0 ≤ z) (hc : ∀ z ∈ c, 0 ≤ z) (he : ∀ z ∈ e, 0 ≤ z) (h : keyN a b = keyN c e) : a = c ∧ b = e := by
 unfold keyN at h
 rw [List.append_assoc, List.append_assoc] at h
 obtain ⟨h1, h2⟩ := cut_at (keyL_sep a) (keyL_sep c) h
 exact ⟨keyL_inj ha hc h1, keyL_inj hb he h2⟩

end Go.GL

namespace Go.GL
open Go Go.RowKit Go.Sort
theorem Ext.one {G : Pin} {w w' : World} {x : Option Nat} (hP : Pins G w') (hg : w.grownBy w' x) : Ext (inO x) G w G w' :=
 ⟨Pin.le_refl _, hP, fun _ _ _ h => Or.inl h, hg.os, hg.tape, hg.output, hg.size, fun k hk hs => hg.block k hk fun e => hs e.symm⟩


end Go.GL

namespace Go.GL
structure SG (ns : List Nd) : Prop where
 lo : 1 ≤ ns.length
 wf : Wf ns
 srt : SortedB ns (births ns)
 last : ∀ k : Nat, k + 1 < ns.length → ∃ j, k < j ∧ j < ns.length ∧ ((k : Int) ∈ (ns.getD j default).l ∨ (k : Int) ∈ (ns.getD j default).r)
theorem rise_pw {l : List Int} {hi : Int} (h : l.Pairwise (· < ·)) (hb : ∀ z ∈ l, 0 ≤ z ∧ z ≤ hi) : Rise l 0 hi := fun i hi' => by
 refine ⟨hb _ (yT hi'), fun h0 => ?_⟩
 have := List.pairwise_iff_getElem.1 h (i - 1) i (by omega) hi' (by omega)
 simpa [List.getD, hi', show i - 1 < l.length by omega] using this
theorem pw_rise {l : List Int} {lo hi : Int} (h : Rise l lo hi) : l.Pairwise (· < ·) := by
 rw [List.pairwise_iff_getElem]
 intro i j hi hj hij
 have key : ∀ j, i < j → j < l.length → l.getD i 0 < l.getD j 0 := by
  intro j
  induction j with
  | zero => intro h0; omega
  | succ j ih =>
   intro h1 h2
   have a := (h (j + 1) h2).2 (by omega)
   simp only [Nat.add_sub_cancel] at a
   by_cases he : i = j
   ·subst he; exact a
   ·have := ih (by omega) (by omega); omega
 have := key j hij hj
 simpa [List.getD, hi, hj] using this
theorem SG.opts {ns : List Nd} (h : SG ns) : OptsOk ns := h.wf.ok.opts
theorem SG.pw {ns : List Nd} (h : SG ns) : ∀ i, i < ns.length → (ns.getD i default).l.Pairwise (· < ·) ∧ (ns.getD i default).r.Pairwise (· < ·) := fun i hi => ⟨pw_rise (h.wf.rise i hi).1, pw_rise (h.wf.rise i hi).2⟩
theorem SG.diff {ns : List Nd} (h : SG ns) : Diff ns := fun i j hij hj he => by
 have hb := xL h.opts
 rcases h.srt i j hij hj with h1 | ⟨_, h1⟩
 ·rw [hb.2 i (by omega), hb.2 j hj, he] at h1; omega
 ·rw [ahead_zero.2 he] at h1; omega
theorem SG.inj {ns : List Nd} (h : SG ns) {i j : Nat} (hi : i < ns.length) (hj : j < ns.length) (he : den ns i = den ns j) : i = j := den_inj_n h.opts h.pw h.diff _ i j (Nat.le_refl _) hi hj he


theorem setAll_from {k : Nat} : ∀ {l : List Int} {is : List Bool}, (setAll is l).getD k false = true → is.getD k false = true ∨ ∃ z ∈ l, z.toNat = k
 | [], _, h => Or.inl h
 | x :: l, is, h => by
  rcases setAll_from (l := l) (is := is.set x.toNat true) h with h1 | ⟨z, hz, e⟩
  ·by_cases he : x.toNat = k
   ·exact Or.inr ⟨x, List.mem_cons_self, he⟩
   ·rw [xM he] at h1; exact Or.inl h1
  ·exact Or.inr ⟨z, List.mem_cons_of_mem _ hz, e⟩
theorem ugo_from {ns : List Nd} {k : Nat} : ∀ {q : Nat} {is : List Bool}, (ugo ns q is).getD k false = true → is.getD k false = true ∨ ∃ j, j < q ∧ (ugo ns q is).getD j false = true ∧ ∃ z, (z ∈ (ns.getD j default).l ∨ z ∈ (ns.getD j default).r) ∧ z.toNat = k
 | 0, _, h => Or.inl h
 | q + 1, is, h => by
  rcases ugo_from (q := q) (is := ustep ns is q) h with h1 | ⟨j, hj, h2, h3⟩
  ·by_cases hq : is.getD q false = true
   ·rw [ustep_yes hq] at h1
    have hm : (ugo ns (q + 1) is).getD q false = true := ugo_mono hq
    rcases setAll_from h1 with h1 | ⟨z, hz, e⟩
    ·rcases setAll_from h1 with h1 | ⟨z, hz, e⟩
     ·exact Or.inl h1
     ·exact Or.inr ⟨q, by omega, hm, z, Or.inl hz, e⟩
    ·exact Or.inr ⟨q, by omega, hm, z, Or.inr hz, e⟩
   ·rw [ustep_no (by simpa using hq)] at h1; exact Or.inl h1
  ·exact Or.inr ⟨j, by omega, h2, h3⟩
theorem reach_from {ns : List Nd} {m k : Nat} (h : (reachM ns m).getD k false = true) : k = m ∨ ∃ j, j ≤ m ∧ (reachM ns m).getD j false = true ∧ ∃ z, (z ∈ (ns.getD j default).l ∨ z ∈ (ns.getD j default).r) ∧ z.toNat = k := by
 unfold reachM at h ⊢
 rcases ugo_from h with h1 | ⟨j, hj, h2⟩
 ·left
  by_cases he : m = k
  ·exact he.symm
  ·rw [xM he] at h1
   simp [List.getD, List.getElem?_replicate] at h1
   split at h1 <;> simp at h1
 ·exact Or.inr ⟨j, by omega, h2⟩
theorem reach_self {ns : List Nd} {m : Nat} : (reachM ns m).getD m false = true := by
 unfold reachM
 exact ugo_mono (by simp [List.getD])
theorem reach_closed {ns : List Nd} (ho : OptsOk ns) {m : Nat} (hm : m < ns.length) {z : Nat} (hz : z ≤ m) (hu : (reachM ns m).getD z false = true) :
  (∀ o ∈ (ns.getD z default).l, (reachM ns m).getD o.toNat false = true) ∧ (∀ o ∈ (ns.getD z default).r, (reachM ns m).getD o.toNat false = true) :=
 ugo_closed ho (by omega) (by simp) z (by omega) hu
theorem lower_of {ns : List Nd} {bs : List Int} (ho : OptsOk ns) (hb : BirthsOf ns bs) : Lower ns bs := fun z hz => by
 have hb := hb.2 z hz
 have o := xB ho hz
 have h1 := born_ge (bs := bs) (l := (ns.getD z default).r) (b := bornOf bs (ns.getD z default).l 0)
 have h2 := born_ge (bs := bs) (l := (ns.getD z default).l) (b := 0)
 unfold putBorn at hb
 exact ⟨fun x hx => by have := o.1 x hx; have := h2.2 x hx; omega, fun x hx => by have := o.2 x hx; have := h1.2 x hx; omega⟩
theorem born_nn {ns : List Nd} {bs : List Int} (hb : BirthsOf ns bs) {z : Nat} (hz : z < ns.length) : 0 ≤ bs.getD z 0 := by
 rw [hb.2 z hz]
 exact (putBorn_le.1 (Int.le_refl _)).1
theorem bornOf_at {bs bs' A : List Int} : ∀ {l : List Int} {b : Int}, (∀ o ∈ l, bs'.getD (A.getD o.toNat 0).toNat 0 = bs.getD o.toNat 0) → bornOf bs' (atL A l) b = bornOf bs l b
 | [], _, _ => rfl
 | x :: l, b, h => by
  show bornOf bs' (atL A l) (max b (bs'.getD (A.getD x.toNat 0).toNat 0 + 1)) = bornOf bs l (max b (bs.getD x.toNat 0 + 1))
  rw [h x List.mem_cons_self]
  exact bornOf_at fun o ho => h o (List.mem_cons_of_mem _ ho)
theorem mem_atL {A l : List Int} {x : Int} : x ∈ atL A l ↔ ∃ o ∈ l, A.getD o.toNat 0 = x := by simp [atL]
theorem form_sg {ns : List Nd} {bs : List Int} (h : Ar ns bs) {m : Nat} (hm : m < ns.length) : SG (formM ns bs m) ∧ gOf (formM ns bs m) = den ns m ∧ (formM ns bs m).length ≤ m + 1 := by
  have ho := h.opts
  have hlw := lower_of ho h.born
  have hlen : (formM ns bs m).length ≤ m + 1 := by
    unfold formM
    rw [go_count]
    exact Nat.le_trans List.countP_le_length (by simp)
  have hlim := h.ok.lim
  obtain ⟨fa, go⟩ := go_ok (need := reachM ns m) hlw (show m + 1 ≤ ns.length by omega) ((bs.getD m 0).toNat + 1)
  have hbm := born_nn h.born hm
  unfold formM at hlen ⊢
  generalize formGo ns bs (reachM ns m) (m + 1) ((bs.getD m 0).toNat + 1) = s at go hlen
  obtain ⟨A, out⟩ := s
  have hmap : out = fa.map (ndz ns A) := go.map
  have hpos : ∀ p, p < fa.length → A.getD (fa.getD p 0).toNat 0 = p := go.pos
  have hN : out.length = fa.length := by rw [hmap]; simp
  simp only at hlen ⊢
  have hget : ∀ p, p < fa.length → out.getD p default = ndz ns A (fa.getD p 0) := fun p hp => by rw [hmap]; simp [List.getD, hp]
  have hmem : ∀ p, p < fa.length → 0 ≤ fa.getD p 0 ∧ fa.getD p 0 ≤ m ∧ (reachM ns m).getD (fa.getD p 0).toNat false = true ∧ bs.getD (fa.getD p 0).toNat 0 ≤ bs.getD m 0 := fun p hp => by
    have a := go.mem _ (yT (d := (0 : Int)) hp)
    exact ⟨a.1, by omega, go.nd _ (yT hp), by omega⟩
  have hfind : ∀ z : Nat, z ≤ m → (reachM ns m).getD z false = true → bs.getD z 0 ≤ bs.getD m 0 → ∃ p, p < fa.length ∧ fa.getD p 0 = z ∧ A.getD z 0 = p := fun z hz a b => by
    obtain ⟨p, hp, e⟩ := List.getElem_of_mem (go.all z (by omega) a (born_nn h.born (by omega)) (by omega))
    have c : fa.getD p 0 = z := by simp [List.getD, hp, e]
    have := hpos p hp
    rw [c] at this
    exact ⟨p, hp, c, by simpa using this⟩
  have hord : ∀ p p', p < p' → p' < fa.length → bs.getD (fa.getD p 0).toNat 0 < bs.getD (fa.getD p' 0).toNat 0 ∨ (bs.getD (fa.getD p 0).toNat 0 = bs.getD (fa.getD p' 0).toNat 0 ∧ aheadI (ndz ns A (fa.getD p 0)) (ndz ns A (fa.getD p' 0)) ≤ 0) := fun p p' hpp hp' => by
    have := List.pairwise_iff_getElem.1 go.order p p' (by omega) hp' hpp
    simpa [List.getD, hp', show p < fa.length by omega] using this
  have hopt : ∀ p, p < fa.length → (∀ o ∈ (ns.getD (fa.getD p 0).toNat default).l, 0 ≤ o ∧ ∃ p', p' < p ∧ fa.getD p' 0 = o ∧ A.getD o.toNat 0 = p') ∧ (∀ o ∈ (ns.getD (fa.getD p 0).toNat default).r, 0 ≤ o ∧ ∃ p', p' < p ∧ fa.getD p' 0 = o ∧ A.getD o.toNat 0 = p') := fun p hp => by
    have u := hmem p hp
    have g := hlw (fa.getD p 0).toNat (by omega)
    have hc := reach_closed ho hm (z := (fa.getD p 0).toNat) (by omega) u.2.2.1
    have key : ∀ o : Int, 0 ≤ o → o < (fa.getD p 0).toNat → bs.getD o.toNat 0 < bs.getD (fa.getD p 0).toNat 0 → (reachM ns m).getD o.toNat false = true → ∃ p', p' < p ∧ fa.getD p' 0 = o ∧ A.getD o.toNat 0 = p' := fun o h0 a b t => by
      obtain ⟨p', hp', f, c⟩ := hfind o.toNat (by omega) t (by omega)
      have e1' : fa.getD p' 0 = o := by omega
      refine ⟨p', ?_, e1', c⟩
      by_cases hlt : p' < p
      · exact hlt
      · by_cases he : p' = p
        · subst he; omega
        · rcases hord p p' (by omega) hp' with v | ⟨v, _⟩ <;> rw [e1'] at v <;> omega
    exact ⟨fun o hox => by have := g.1 o hox; exact ⟨this.1, key o this.1 this.2.1 this.2.2 (hc.1 o hox)⟩, fun o hox => by have := g.2 o hox; exact ⟨this.1, key o this.1 this.2.1 this.2.2 (hc.2 o hox)⟩⟩
  have hlists : ∀ p, p < fa.length → (out.getD p default).l = sortL (atL A (ns.getD (fa.getD p 0).toNat default).l) ∧ (out.getD p default).r = sortL (atL A (ns.getD (fa.getD p 0).toNat default).r) := fun p hp => by
    rw [hget p hp]; exact ⟨rfl, rfl⟩
  have hbnd : ∀ p, p < fa.length → (∀ z ∈ (out.getD p default).l, 0 ≤ z ∧ z < (p : Int)) ∧ (∀ z ∈ (out.getD p default).r, 0 ≤ z ∧ z < (p : Int)) := fun p hp => by
    have a := hopt p hp
    rw [(hlists p hp).1, (hlists p hp).2]
    constructor
    · intro z hz
      obtain ⟨o, hox, e⟩ := mem_atL.1 (mem_sortL.1 hz)
      obtain ⟨_, p', b, _, c⟩ := a.1 o hox
      omega
    · intro z hz
      obtain ⟨o, hox, e⟩ := mem_atL.1 (mem_sortL.1 hz)
      obtain ⟨_, p', b, _, c⟩ := a.2 o hox
      omega
  have hoo : OptsOk out := fun i n hn => by
    obtain ⟨hi, rfl⟩ := List.getElem?_eq_some_iff.1 hn
    have := hbnd i (by omega)
    have e : out.getD i default = out[i] := by simp [List.getD, hi]
    rw [e] at this; exact this
  have hlens : ∀ i, i < out.length → (out.getD i default).l.length ≤ 1048576 ∧ (out.getD i default).r.length ≤ 1048576 := fun i hi => by
    have u := hmem i (by omega)
    have g := h.ok.lens (fa.getD i 0).toNat (by omega)
    rw [(hlists i (by omega)).1, (hlists i (by omega)).2]
    exact ⟨Nat.le_trans sort_length (by rw [xE]; exact g.1), Nat.le_trans sort_length (by rw [xE]; exact g.2)⟩
  have wf : Wf out := ⟨⟨by omega, hoo, hlens⟩, fun i hi => by
    have a := hbnd i (by omega)
    refine ⟨rise_pw ?_ fun z hz => by have := a.1 z hz; omega, rise_pw ?_ fun z hz => by have := a.2 z hz; omega⟩
    · rw [(hlists i (by omega)).1]; exact sortL_rise _
    · rw [(hlists i (by omega)).2]; exact sortL_rise _⟩
  have hden : ∀ p, p < fa.length → den out p = den ns (fa.getD p 0).toNat := by
    intro p
    induction p using Nat.strongRecOn with
    | _ p ih =>
      intro hp
      have a := hopt p hp
      have u := hmem p hp
      rw [den_at (by omega) (hbnd p hp).1 (hbnd p hp).2, den_opt ho (show (fa.getD p 0).toNat < ns.length by omega), (hlists p hp).1, (hlists p hp).2]
      have key : ∀ l : List Int, (∀ o ∈ l, 0 ≤ o ∧ ∃ p', p' < p ∧ fa.getD p' 0 = o ∧ A.getD o.toNat 0 = p') → ∀ i, i ∈ (sortL (atL A l)).map (fun z => den out z.toNat) ↔ i ∈ l.map fun z => den ns z.toNat := fun l hl i => by
        rw [List.mem_map, List.mem_map]
        constructor
        · rintro ⟨z, hz, rfl⟩
          obtain ⟨o, hox, e⟩ := mem_atL.1 (mem_sortL.1 hz)
          obtain ⟨_, p', b, f, c⟩ := hl o hox
          refine ⟨o, hox, ?_⟩
          have : z.toNat = p' := by omega
          rw [this, ih p' b (by omega), f]
        · rintro ⟨o, hox, rfl⟩
          obtain ⟨_, p', b, f, c⟩ := hl o hox
          refine ⟨(p' : Int), mem_sortL.2 (mem_atL.2 ⟨o, hox, c⟩), ?_⟩
          rw [Int.toNat_natCast, ih p' b (by omega), f]
      exact mk_congr (key _ a.1) (key _ a.2)
  have hborn : ∀ p, p < fa.length → (births out).getD p 0 = bs.getD (fa.getD p 0).toNat 0 := by
    intro p
    induction p using Nat.strongRecOn with
    | _ p ih =>
      intro hp
      have a := hopt p hp
      have u := hmem p hp
      rw [(xL hoo).2 p (by omega), (hlists p hp).1, (hlists p hp).2, putBorn_sort, h.born.2 _ (show (fa.getD p 0).toNat < ns.length by omega)]
      have key : ∀ o : Int, (∃ p', p' < p ∧ fa.getD p' 0 = o ∧ A.getD o.toNat 0 = p') → (births out).getD (A.getD o.toNat 0).toNat 0 = bs.getD o.toNat 0 := fun o ⟨p', b, f, c⟩ => by
        rw [c, Int.toNat_natCast, ih p' b (by omega), f]
      unfold putBorn
      rw [bornOf_at fun o hox => key o (a.2 o hox).2, bornOf_at fun o hox => key o (a.1 o hox).2]
  have srt : SortedB out (births out) := fun i j hij hj => by
    rw [hborn i (by omega), hborn j (by omega), hget i (by omega), hget j (by omega)]
    rcases hord i j hij (by omega) with a | ⟨a, b⟩
    · exact Or.inl a
    · refine Or.inr ⟨a, ?_⟩
      have hne : aheadI (ndz ns A (fa.getD i 0)) (ndz ns A (fa.getD j 0)) ≠ 0 := fun e => by
        have f := ahead_zero.1 e
        rw [← hget i (by omega), ← hget j (by omega)] at f
        have d1 : den out i = den out j := by
          rw [den_opt hoo (show i < out.length by omega), den_opt hoo (show j < out.length by omega), f]
        rw [hden i (by omega), hden j (by omega)] at d1
        have m1 := hmem i (by omega); have m2 := hmem j (by omega)
        have w := h.inj (by omega) (by omega) d1
        have x := hpos i (by omega); have p2 := hpos j (by omega)
        rw [w] at x; omega
      omega
  obtain ⟨pm, hpm, em, _⟩ := hfind m (Nat.le_refl _) reach_self (Int.le_refl _)
  have hroot : ∀ p, p < fa.length → fa.getD p 0 ≠ m → ∃ p', p < p' ∧ p' < fa.length ∧ ((p : Int) ∈ (out.getD p' default).l ∨ (p : Int) ∈ (out.getD p' default).r) := fun p hp hne => by
    have m1 := hmem p hp
    rcases reach_from m1.2.2.1 with a | ⟨j, hj, hr, z, hz, ez⟩
    · omega
    · have ah : 0 ≤ z := by
        have := xB ho (show j < ns.length by omega)
        rcases hz with hz | hz
        · exact (this.1 z hz).1
        · exact (this.2 z hz).1
      have ez' : z = fa.getD p 0 := by omega
      subst ez'
      have hle : bs.getD j 0 ≤ bs.getD m 0 := by
        have : ∀ n j : Nat, m - j ≤ n → j ≤ m → (reachM ns m).getD j false = true → bs.getD j 0 ≤ bs.getD m 0 := by
          intro n
          induction n with
          | zero => intro j a b _; have : j = m := by omega
                    rw [this]; exact Int.le_refl _
          | succ n ih =>
            intro j a b t
            rcases reach_from t with v | ⟨i, hi, hri, y, hy, ey⟩
            · rw [v]; exact Int.le_refl _
            · have hl := hlw i (by omega)
              have hyb : 0 ≤ y ∧ y < i ∧ bs.getD y.toNat 0 < bs.getD i 0 := by rcases hy with hy | hy; exact hl.1 y hy; exact hl.2 y hy
              have := ih i (by omega) hi hri
              rw [ey] at hyb; omega
        exact this m j (by omega) hj hr
      obtain ⟨p', hp', f, c⟩ := hfind j hj hr hle
      have a := hopt p' hp'
      rw [f] at a
      simp only [Int.toNat_natCast] at a
      have ad := hpos p hp
      refine ⟨p', ?_, hp', ?_⟩
      · rcases hz with hz | hz
        · obtain ⟨_, q, b, w, e4⟩ := a.1 _ hz; omega
        · obtain ⟨_, q, b, w, e4⟩ := a.2 _ hz; omega
      · rw [(hlists p' hp').1, (hlists p' hp').2, f]
        simp only [Int.toNat_natCast]
        rcases hz with hz | hz
        · exact Or.inl (mem_sortL.2 (mem_atL.2 ⟨_, hz, ad⟩))
        · exact Or.inr (mem_sortL.2 (mem_atL.2 ⟨_, hz, ad⟩))
  have hlast : fa.getD (fa.length - 1) 0 = m := by
    apply Classical.byContradiction
    intro hne
    obtain ⟨p', a, b, _⟩ := hroot (fa.length - 1) (by omega) hne
    omega
  refine ⟨⟨by omega, wf, srt, fun k hk => ?_⟩, ?_, hlen⟩
  · have hne : fa.getD k 0 ≠ m := fun e => by
      have x := hpos k (by omega); have p2 := hpos (fa.length - 1) (by omega)
      rw [e] at x; rw [hlast] at p2; omega
    obtain ⟨p', a, b, t⟩ := hroot k (by omega) hne
    exact ⟨p', a, by omega, t⟩
  · unfold gOf
    rw [hN, hden _ (by omega), hlast, Int.toNat_natCast]
end Go.GL

namespace Go.GL
open Go Go.RowKit
structure PM where
 f : Nat
 o : Nat
 c : Nat
 s : Nat
 n : Nat
structure PSt where
 ns : List Nd
 bs : List Int
 fl : List (ByteArray × Int)
 om : List ((Int × Int) × Bool)
 cm : List (Int × Int)
 sm : List ((Int × Int) × Int)
 gm : List (Int × Int)
def inP (p : Nat) (L R B : Value) (mm : PM) (k : Nat) : Prop := k = p ∨ L.ownBlock = some k ∨ R.ownBlock = some k ∨ B.ownBlock = some k ∨ k = mm.f ∨ k = mm.o ∨ k = mm.c ∨ k = mm.s ∨ k = mm.n
def NP (p : Nat) (L R B : Value) (mm : PM) (x : Option Nat) : Prop := ∀ k, x = some k → ¬ inP p L R B mm k
section
variable {er ei : Nat} {G G' : Pin} {w w' : World} {p : Nat} {L R B L' R' B' : Value} {mm : PM} {q : PSt}
theorem NP.ho {x : Option Nat} (h : NP p L R B mm x) : Apart x (some mm.o) := fun k a c => h k a (by cases c; exact Or.inr (Or.inr (Or.inr (Or.inr (Or.inr (Or.inl rfl))))))
theorem NP.hc {x : Option Nat} (h : NP p L R B mm x) : Apart x (some mm.c) := fun k a c => h k a (by cases c; exact Or.inr (Or.inr (Or.inr (Or.inr (Or.inr (Or.inr (Or.inl rfl)))))))
theorem NP.hn {x : Option Nat} (h : NP p L R B mm x) : Apart x (some mm.n) := fun k a c => h k a (by cases c; exact Or.inr (Or.inr (Or.inr (Or.inr (Or.inr (Or.inr (Or.inr (Or.inr rfl))))))))
theorem NP.hp {x : Option Nat} (h : NP p L R B mm x) : Apart x (some p) := fun k a c => h k a (by cases c; exact Or.inl rfl)
theorem NP.hl {x : Option Nat} (h : NP p L R B mm x) : Apart x L.ownBlock := fun k a c => h k a (Or.inr (Or.inl c))
theorem NP.hr {x : Option Nat} (h : NP p L R B mm x) : Apart x R.ownBlock := fun k a c => h k a (Or.inr (Or.inr (Or.inl c)))
theorem NP.hb {x : Option Nat} (h : NP p L R B mm x) : Apart x B.ownBlock := fun k a c => h k a (Or.inr (Or.inr (Or.inr (Or.inl c))))
end


def pd (q : PSt) (z : Int) : Nat := den q.ns z.toNat
def PlaceOk (q : PSt) (z : Int) : Prop := 0 ≤ z ∧ z < q.ns.length
structure FindOk (ns : List Nd) (fl : List (ByteArray × Int)) : Prop where
 has : ∀ i : Nat, i < ns.length → look fl (b2s (keyN (ns.getD i default).l (ns.getD i default).r)) = some (i : Int)
 is : ∀ (l r : List Int) (z : Int), (∀ x ∈ l, 0 ≤ x) → (∀ x ∈ r, 0 ≤ x) → look fl (b2s (keyN l r)) = some z → ∃ i : Nat, i < ns.length ∧ z = i ∧ ns.getD i default = ⟨l, r⟩
structure PoolOk (q : PSt) : Prop where
 ar : Ar q.ns q.bs
 find : FindOk q.ns q.fl
 ord : ∀ a b v, look q.om (a, b) = some v → PlaceOk q a ∧ PlaceOk q b ∧ v = decP (geG (pd q a) (pd q b))
 can : ∀ a z, look q.cm a = some z → PlaceOk q a ∧ PlaceOk q z ∧ CanonG (pd q z) ∧ eqG (pd q z) (pd q a)
 sum : ∀ a b z, look q.sm (a, b) = some z → PlaceOk q a ∧ PlaceOk q b ∧ PlaceOk q z ∧ pd q z = addG (pd q a) (pd q b)
 neg : ∀ a z, look q.gm a = some z → PlaceOk q a ∧ PlaceOk q z ∧ pd q z = negG (pd q a)
structure PX (q q' : PSt) : Prop where
 len : q.ns.length ≤ q'.ns.length
 old : ∀ k, k < q.ns.length → q'.ns.getD k default = q.ns.getD k default
 can : ∀ a, look q'.cm a = none → look q.cm a = none
theorem PX.refl (q : PSt) : PX q q := ⟨Nat.le_refl _, fun _ _ => rfl, fun _ h => h⟩
theorem PX.trans {a b c : PSt} (h : PX a b) (k : PX b c) : PX a c := ⟨Nat.le_trans h.len k.len, fun i hi => (k.old i (by have := h.len; omega)).trans (h.old i hi), fun a ha => h.can a (k.can a ha)⟩
theorem PX.den {q q' : PSt} (h : PX q q') (ho : OptsOk q.ns) (ho' : OptsOk q'.ns) : ∀ k, k < q.ns.length → den q'.ns k = den q.ns k := by
 intro k
 induction k using Nat.strongRecOn with
 | _ k ih =>
  intro hk
  have oo := xB ho hk
  rw [den_opt ho' (by have := h.len; omega), den_opt ho hk, h.old k hk]
  rw [List.map_congr_left fun z hz => ih z.toNat (by have := oo.1 z hz; omega) (by have := oo.1 z hz; omega)]
  rw [List.map_congr_left (l := (q.ns.getD k default).r) fun z hz => ih z.toNat (by have := oo.2 z hz; omega) (by have := oo.2 z hz; omega)]
theorem PX.pd {q q' : PSt} (h : PX q q') (hq : PoolOk q) (hq' : PoolOk q') {z : Int} (hz : PlaceOk q z) : pd q' z = pd q z := h.den hq.ar.opts hq'.ar.opts _ (by have := hz.1; have := hz.2; omega)
theorem PX.place {q q' : PSt} (h : PX q q') {z : Int} (hz : PlaceOk q z) : PlaceOk q' z := ⟨hz.1, by have := hz.2; have := h.len; omega⟩

section
variable {p : Nat} {L R B : Value} {mm : PM} {w0 : World} {S : Nat → Prop}
theorem NP.hf {x : Option Nat} (h : NP p L R B mm x) : Apart x (some mm.f) := fun k a c => h k a (by cases c; exact Or.inr (Or.inr (Or.inr (Or.inr (Or.inl rfl)))))
end
theorem px_map {q q' : PSt} (h : PX q q') (hq : PoolOk q) (hq' : PoolOk q') {ls : List Int} (hl : ∀ z ∈ ls, PlaceOk q z) : ls.map (pd q') = ls.map (pd q) := List.map_congr_left fun z hz => h.pd hq hq' (hl z hz)
theorem places_of {q : PSt} {ls : List Int} (h : ∀ z ∈ ls, PlaceOk q z) : ∀ i, i < ls.length → 0 ≤ ls.getD i 0 ∧ ls.getD i 0 < q.ns.length := fun _ hi => h _ (yT hi)
end Go.GL

namespace Go.GL
open Go Go.RowKit

theorem renL_len (u : Nat → Bool) (l : List Int) : (renL u l).length = l.length := by simp [renL]
theorem part_lens {ns : List Nd} (h : GoodP ns) {m : Nat} (hm : m < ns.length) : (partI ns m).length ≤ 120 ∧ ∀ n ∈ partI ns m, n.l.length ≤ 24 ∧ n.r.length ≤ 24 := by
 refine ⟨by have := partI_len ns m; have := h.hi; omega, fun n hn => ?_⟩
 unfold partI partN at hn
 obtain ⟨z, hz, rfl⟩ := List.mem_map.1 hn
 have h1 := List.mem_range.1 (List.mem_filter.1 hz).1
 unfold nodeU
 rw [renL_len, renL_len]
 exact ⟨h.lenl (by omega), h.lenr (by omega)⟩
end Go.GL

namespace Go.GL
open Go Go.RowKit
structure LdOk (fs : List Nd) (q q2 : PSt) (k : Nat) (ats : List Int) : Prop where
 len : ats.length = k
 hi : q2.ns.length ≤ q.ns.length + k
 pl : ∀ i, i < k → PlaceOk q2 (ats.getD i 0) ∧ pd q2 (ats.getD i 0) = den fs i
theorem LdOk.den {fs : List Nd} {q q2 : PSt} {k : Nat} {ats : List Int} (h : LdOk fs q q2 k ats) {l : List Int} (hl : ∀ z ∈ l, 0 ≤ z ∧ z < k) :
  (atL ats l).map (pd q2) = l.map fun z => GL.den fs z.toNat := by
 unfold atL
 rw [List.map_map]
 refine List.map_congr_left fun z hz => ?_
 have := hl z hz
 exact (h.pl z.toNat (by omega)).2
end Go.GL

namespace Go.GL
open Go Go.RowKit
end Go.GL

namespace Go.GL
theorem opts_same {a b : List Nd} (ha : SG a) (hb : SG b) {n i j : Nat} (hi : i < a.length) (hj : j < b.length) (hpre : ∀ k, k < n → k < a.length ∧ k < b.length ∧ den a k = den b k)
  (hai : (∀ z ∈ (a.getD i default).l, z < (n : Int)) ∧ (∀ z ∈ (a.getD i default).r, z < (n : Int))) (hbj : (∀ z ∈ (b.getD j default).l, z < (n : Int)) ∧ (∀ z ∈ (b.getD j default).r, z < (n : Int)))
  (he : den a i = den b j) : a.getD i default = b.getD j default := by
 have oa := xB ha.opts hi
 have ob := xB hb.opts hj
 refine nd_ext (asc_ext (ha.pw i hi).1 (hb.pw j hj).1 fun z => ⟨fun hz => ?_, fun hz => ?_⟩) (asc_ext (ha.pw i hi).2 (hb.pw j hj).2 fun z => ⟨fun hz => ?_, fun hz => ?_⟩)
 ·have h1 : loG (den a i) (den a z.toNat) := (xY ha.opts hi).2 ⟨z, hz, rfl⟩
  rw [he] at h1
  obtain ⟨y, hy, e⟩ := (xY hb.opts hj).1 h1
  have z1 := oa.1 z hz; have z2 := hai.1 z hz; have y1 := ob.1 y hy; have y2 := hbj.1 y hy
  have p1 := hpre z.toNat (by omega); have p2 := hpre y.toNat (by omega)
  have := ha.inj (i := z.toNat) (j := y.toNat) (by omega) (by omega) (by rw [e, p2.2.2])
  have : z = y := by omega
  rwa [this]
 ·have h1 : loG (den b j) (den b z.toNat) := (xY hb.opts hj).2 ⟨z, hz, rfl⟩
  rw [← he] at h1
  obtain ⟨y, hy, e⟩ := (xY ha.opts hi).1 h1
  have z1 := ob.1 z hz; have z2 := hbj.1 z hz; have y1 := oa.1 y hy; have y2 := hai.1 y hy
  have p1 := hpre z.toNat (by omega); have p2 := hpre y.toNat (by omega)
  have := ha.inj (i := z.toNat) (j := y.toNat) (by omega) (by omega) (by rw [← e, p1.2.2])
  have : z = y := by omega
  rwa [this]
 ·have h1 : roG (den a i) (den a z.toNat) := (xX ha.opts hi).2 ⟨z, hz, rfl⟩
  rw [he] at h1
  obtain ⟨y, hy, e⟩ := (xX hb.opts hj).1 h1
  have z1 := oa.2 z hz; have z2 := hai.2 z hz; have y1 := ob.2 y hy; have y2 := hbj.2 y hy
  have p1 := hpre z.toNat (by omega); have p2 := hpre y.toNat (by omega)
  have := ha.inj (i := z.toNat) (j := y.toNat) (by omega) (by omega) (by rw [e, p2.2.2])
  have : z = y := by omega
  rwa [this]
 ·have h1 : roG (den b j) (den b z.toNat) := (xX hb.opts hj).2 ⟨z, hz, rfl⟩
  rw [← he] at h1
  obtain ⟨y, hy, e⟩ := (xX ha.opts hi).1 h1
  have z1 := ob.2 z hz; have z2 := hbj.2 z hz; have y1 := oa.2 y hy; have y2 := hai.2 y hy
  have p1 := hpre z.toNat (by omega); have p2 := hpre y.toNat (by omega)
  have := ha.inj (i := z.toNat) (j := y.toNat) (by omega) (by omega) (by rw [← e, p1.2.2])
  have : z = y := by omega
  rwa [this]
theorem births_den {a b : List Nd} (ha : OptsOk a) (hb : OptsOk b) : ∀ (n i j : Nat), i + j ≤ n → i < a.length → j < b.length → den a i = den b j → (births a).getD i 0 ≤ (births b).getD j 0
 | _, i, j, _, hi, hj, he => by
  have oa := xB ha hi
  have ob := xB hb hj
  rw [(xL ha).2 i hi, putBorn_le]
  have hbj := (xL hb).2 j hj
  have hb2 := putBorn_le.1 (Int.le_of_eq hbj.symm)
  refine ⟨born_nn (xL hb) hj, fun z hz => ?_, fun z hz => ?_⟩
  ·have h1 : loG (den a i) (den a z.toNat) := (xY ha hi).2 ⟨z, hz, rfl⟩
   rw [he] at h1
   obtain ⟨y, hy, e⟩ := (xY hb hj).1 h1
   have z1 := oa.1 z hz; have y1 := ob.1 y hy
   have := births_den ha hb (z.toNat + y.toNat) z.toNat y.toNat (Nat.le_refl _) (by omega) (by omega) e
   have := hb2.2.1 y hy
   omega
  ·have h1 : roG (den a i) (den a z.toNat) := (xX ha hi).2 ⟨z, hz, rfl⟩
   rw [he] at h1
   obtain ⟨y, hy, e⟩ := (xX hb hj).1 h1
   have z1 := oa.2 z hz; have y1 := ob.2 y hy
   have := births_den ha hb (z.toNat + y.toNat) z.toNat y.toNat (Nat.le_refl _) (by omega) (by omega) e
   have := hb2.2.2 y hy
   omega
termination_by _ i j => i + j
decreasing_by all_goals omega
theorem births_eq {a b : List Nd} (ha : OptsOk a) (hb : OptsOk b) {i j : Nat} (hi : i < a.length) (hj : j < b.length) (he : den a i = den b j) : (births a).getD i 0 = (births b).getD j 0 :=
 Int.le_antisymm (births_den ha hb _ i j (Nat.le_refl _) hi hj he) (births_den hb ha _ j i (Nat.le_refl _) hj hi he.symm)
theorem SG.sub {a b : List Nd} (ha : SG a) (hb : SG b) (he : gOf a = gOf b) : ∀ k, k < a.length → ∃ j, j < b.length ∧ den b j = den a k := by
 have key : ∀ n k, a.length - k ≤ n → k < a.length → ∃ j, j < b.length ∧ den b j = den a k := by
  intro n
  induction n with
  | zero => intro k h1 h2; omega
  | succ n ih =>
   intro k h1 h2
   by_cases hk : k + 1 < a.length
   ·obtain ⟨i, hki, hi, hz⟩ := ha.last k hk
    obtain ⟨j, hj, e⟩ := ih i (by omega) hi
    rcases hz with hz | hz
    ·have h3 : loG (den a i) (den a (k : Int).toNat) := (xY ha.opts hi).2 ⟨_, hz, rfl⟩
     rw [← e] at h3
     obtain ⟨y, hy, e2⟩ := (xY hb.opts hj).1 h3
     have := (xB hb.opts hj).1 y hy
     exact ⟨y.toNat, by omega, by rw [← e2]; rfl⟩
    ·have h3 : roG (den a i) (den a (k : Int).toNat) := (xX ha.opts hi).2 ⟨_, hz, rfl⟩
     rw [← e] at h3
     obtain ⟨y, hy, e2⟩ := (xX hb.opts hj).1 h3
     have := (xB hb.opts hj).2 y hy
     exact ⟨y.toNat, by omega, by rw [← e2]; rfl⟩
   ·have hb1 := hb.lo
    refine ⟨b.length - 1, by omega, ?_⟩
    have : k = a.length - 1 := by omega
    rw [this]; exact he.symm
 exact fun k hk => key _ k (Nat.le_refl _) hk
theorem SG.low {a : List Nd} (ha : SG a) {n i : Nat} (hi : i < a.length) (hb : (births a).getD i 0 ≤ (births a).getD n 0) (hn : n < a.length) : (∀ z ∈ (a.getD i default).l, z < (n : Int)) ∧ (∀ z ∈ (a.getD i default).r, z < (n : Int)) := by
 have hl := lower_births ha.opts i hi
 have key : ∀ z : Int, 0 ≤ z → z < i → (births a).getD z.toNat 0 < (births a).getD i 0 → z < (n : Int) := fun z h0 h1 h2 => by
  by_cases hlt : z < (n : Int)
  ·exact hlt
  ·by_cases he : n = z.toNat
   ·subst he; omega
   ·rcases ha.srt n z.toNat (by omega) (by omega) with h3 | ⟨h3, _⟩ <;> omega
 exact ⟨fun z hz => by have := hl.1 z hz; exact key z this.1 this.2.1 this.2.2, fun z hz => by have := hl.2 z hz; exact key z this.1 this.2.1 this.2.2⟩
theorem sg_prefix {a b : List Nd} (ha : SG a) (hb : SG b) (he : gOf a = gOf b) : ∀ n, n ≤ a.length → n ≤ b.length ∧ ∀ k, k < n → a.getD k default = b.getD k default ∧ den a k = den b k := by
 intro n
 induction n with
 | zero => intro _; exact ⟨Nat.zero_le _, fun k hk => absurd hk (Nat.not_lt_zero k)⟩
 | succ n ih =>
  intro hn
  obtain ⟨hnb, hpre⟩ := ih (by omega)
  obtain ⟨j, hj, ej⟩ := ha.sub hb he n (by omega)
  have hjn : n ≤ j := by
   apply Classical.byContradiction
   intro hlt
   have := (hpre j (by omega)).2
   have := ha.inj (i := j) (j := n) (by omega) (by omega) (by rw [this, ej])
   omega
  have hbn : n < b.length := by omega
  obtain ⟨i, hi, ei⟩ := hb.sub ha he.symm n hbn
  have hin : n ≤ i := by
   apply Classical.byContradiction
   intro hlt
   have := (hpre i (by omega)).2
   have := hb.inj (i := i) (j := n) (by omega) (by omega) (by rw [← this, ei])
   omega
  have hp : ∀ k, k < n → k < a.length ∧ k < b.length ∧ den a k = den b k := fun k hk => ⟨by omega, by omega, (hpre k hk).2⟩
  have hgh : den a n = den b n := by
   by_cases hjn' : j = n
   ·rw [hjn'] at ej; exact ej.symm
   ·have hin' : i ≠ n := fun e => by
     rw [e] at ei
     exact hjn' (hb.inj hj hbn (by rw [ej, ei]))
    exfalso
    have c := hb.srt n j (by omega) hj
    have d := ha.srt n i (by omega) hi
    have r := births_eq ha.opts hb.opts (show n < a.length by omega) hj ej.symm
    have s := births_eq ha.opts hb.opts hi hbn ei
    have f := ha.low (n := n) (i := n) (by omega) (Int.le_refl _) (by omega)
    have hle : (births a).getD i 0 ≤ (births a).getD n 0 := by rcases c with c | ⟨c, _⟩ <;> omega
    have g := ha.low (n := n) (i := i) hi hle (by omega)
    have h := hb.low (n := n) (i := n) hbn (Int.le_refl _) hbn
    have l : (births b).getD j 0 ≤ (births b).getD n 0 := by rcases d with d | ⟨d, _⟩ <;> omega
    have m := hb.low (n := n) (i := j) hj l hbn
    have o := opts_same ha hb (n := n) hi hbn hp g h ei
    have p := opts_same ha hb (n := n) (show n < a.length by omega) hj hp f m ej.symm
    have t : aheadI (b.getD n default) (b.getD j default) < 0 := by rcases c with c | ⟨_, c⟩; omega; exact c
    have q : aheadI (a.getD n default) (a.getD i default) < 0 := by rcases d with d | ⟨_, d⟩; omega; exact d
    rw [o, p, ahead_neg] at q
    omega
  refine ⟨hbn, fun k hk => ?_⟩
  by_cases hk' : k < n
  ·exact hpre k hk'
  ·have : k = n := by omega
   subst this
   exact ⟨opts_same ha hb (n := k) (by omega) hbn hp (ha.low (by omega) (Int.le_refl _) (by omega)) (hb.low hbn (Int.le_refl _) hbn) hgh, hgh⟩
theorem sg_unique {a b : List Nd} (ha : SG a) (hb : SG b) (he : gOf a = gOf b) : a = b := by
 have h1 := sg_prefix ha hb he a.length (Nat.le_refl _)
 have h2 := sg_prefix hb ha he.symm b.length (Nat.le_refl _)
 exact eqdoneN (by omega) (Nat.le_refl _) fun i hi => (h1.2 i hi).1


theorem sg_good {ns : List Nd} (h : SG ns) (hf : FitsP ns) : GoodP ns := by
 refine good_iff.1 ⟨hf, h.wf.rise, ?_⟩
 have ha := Ar.empty.add h.wf.ok (by have := h.wf.ok.len; simp; omega)
 have hr := Ar.empty.root h.wf.ok h.lo (by have := h.wf.ok.len; simp; omega)
 have hao := addM_all xW h.wf.ok (by have := h.wf.ok.len; simp; omega)
 have hlt := root_lt hao h.lo
 obtain ⟨h1, h2, _⟩ := form_sg ha.ar (m := (rootM [] [] ns).toNat) (by omega)
 exact sg_unique h1 h (h2.trans hr)
def IsForm (g : Nat) (ns : List Nd) : Prop := SG ns ∧ gOf ns = g
theorem IsForm.unique {g : Nat} {a b : List Nd} (ha : IsForm g a) (hb : IsForm g b) : a = b := sg_unique ha.1 hb.1 (ha.2.trans hb.2.symm)
end Go.GL

namespace Go.GL
open Go Go.RowKit
theorem Gadd.turn {S : Nat → Prop} {G0 G G' : Pin} {w0 w w' : World} {v : Value} (h : Pins (Gadd G0 w0 v) w) (hP : Pins G0 w') (hx : Ext S G w G' w') (hS : ∀ k, v.ownBlock = some k → ¬ S k) : Pins (Gadd G0 w0 v) w' := fun b o u hu => by
 rcases hu with hu | hu
 ·exact hP b o u hu
 ·have h1 := h b o u (Or.inr hu)
  have h2 := hx.block b (block_lt h1) (hS b hu.1)
  unfold World.cell? at h1 ⊢
  simp only [h2]; exact h1

end Go.GL

namespace Go.GL
open Go Go.RowKit
end Go.GL

namespace Go.GL
open Go Go.RowKit


theorem nodup_len : ∀ (n : Nat) (l : List Int), l.Nodup → (∀ x ∈ l, 0 ≤ x ∧ x < (n : Int)) → l.length ≤ n
 | 0, l, _, h => by
  cases l with
  | nil => exact Nat.le_refl 0
  | cons x r => have := h x List.mem_cons_self; omega
 | n + 1, l, hn, h => by
  by_cases hm : (n : Int) ∈ l
  ·have h1 := List.length_erase_of_mem hm
   have h2 := nodup_len n (l.erase (n : Int)) (hn.erase _) fun x hx => by
    have h3 := (hn.mem_erase_iff).1 hx
    have := h x h3.2
    have := h3.1
    omega
   omega
  ·have := nodup_len n l hn fun x hx => by
    have h1 := h x hx
    by_cases e : x = (n : Int)
    ·exact absurd (e ▸ hx) hm
    ·omega
   omega

theorem own_cut {α : Type} {E : Elt α} {e base : Nat} {G : Pin} {w : World} {v : Value} {xs : List α} (h : Own E e G w base v xs) (m : Nat) (zz : Int) (hz : 0 ≤ zz) (hzm : zz.toNat = m) (hm : m ≤ xs.length) (hp : 0 < xs.length) :
  ∃ u, Own E e G w base u (xs.take m) ∧ u.ownBlock = v.ownBlock ∧ RunsSlice v u E.size none (some zz) := by
 subst hzm
 obtain ⟨cells, ⟨hl, hown⟩, hr⟩ := h.ex
 rcases hown with ⟨_, h0⟩ | ⟨g, cap, cur, rfl, hb, hg, hn, hc, hs, ht⟩
 ·omega
 ·refine ⟨.slice (some ⟨g, 0, none⟩) zz.toNat cap, ⟨⟨cells.take (zz.toNat * E.size), ⟨?_, Or.inr ⟨g, cap, cur, ?_, hb, hg, ?_, hc, hs, ?_⟩⟩, fun i x hx => ?_⟩, h.free⟩, rfl, ?_⟩
  ·rw [List.length_take, List.length_take, hl, Nat.min_eq_left hm]
   exact Nat.min_eq_left (Nat.mul_le_mul_right _ hm)
  ·rw [List.length_take, Nat.min_eq_left hm]
  ·rw [List.length_take, Nat.min_eq_left hm]; omega
  ·rw [List.length_take, Nat.min_eq_left hm, ← ht, List.take_take, Nat.min_eq_left (Nat.mul_le_mul_right _ hm)]
  ·rw [List.getElem?_take] at hx
   split at hx
   ·rename_i hi
    have h1 := hr i x hx
    have h2 : (i + 1) * E.size ≤ zz.toNat * E.size := Nat.mul_le_mul_right _ hi
    rw [Nat.add_mul, Nat.one_mul] at h2
    rw [List.drop_take, List.take_take, Nat.min_eq_left (by omega)]
    exact h1
   ·cases hx
  ·intro P w' d t e' ty pos aft gg x lx hx ρ htt hsz hρ hlx hhx
   have he := elem_of htt
   have ht' : P.underlying t = some (.slice (P.elem t)) := by rw [he]; exact htt
   have hsz' : ∀ w : World, (sizeOf (P.elem t)).run P w = .ok E.size w := fun w => by rw [he]; exact xS hsz w
   have key : (Instr.slice t (.slice (some ⟨g, 0, none⟩) xs.length cap) none (some (.int .i64 zz)) none).run P w' = .ok (.slice (some ⟨g, 0, none⟩) zz.toNat cap) w' := by
    refine (run_slice_h w' t (some ⟨g, 0, none⟩) xs.length cap ht' .i64 zz (by omega) (by omega)).trans ?_
    rw [hsz']
    simp [sliced, Addr.add]
   simp only [Option.map_none, Option.map_some] at hlx hhx
   simp [execOp, hρ, hlx, hhx, run_sliceAt_slice w' t _ _ _ _ ht', key]

end Go.GL

namespace Go.GL
open Go Go.RowKit
section
variable {q : PSt} {lf : Bool} {g : Nat} {wl ss kept : List Int} {m : Nat}
end
end Go.GL

namespace Go.GL
open Go Go.RowKit
inductive SubG (g : Nat) : Nat → Prop
 | self : SubG g g
 | left {x i : Nat} (h : SubG g x) (hl : loG x i) : SubG g i
 | right {x i : Nat} (h : SubG g x) (hr : roG x i) : SubG g i
section
variable {q : PSt} {rs list : List Int} {k i : Nat}
variable {x o : Int} {ds : List Int}
end

theorem sg_sub {ns : List Nd} (h : SG ns) {x : Nat} : (∃ k, k < ns.length ∧ den ns k = x) ↔ SubG (gOf ns) x := by
 have hlo := h.lo
 constructor
 ·have key : ∀ n k, ns.length - k ≤ n → k < ns.length → SubG (gOf ns) (den ns k) := by
   intro n
   induction n with
   | zero => intro k h1 h2; omega
   | succ n ih =>
    intro k h1 h2
    by_cases hk : k + 1 < ns.length
    ·obtain ⟨i, hki, hi, hz⟩ := h.last k hk
     have := ih i (by omega) hi
     rcases hz with hz | hz
     ·exact this.left ((xY h.opts hi).2 ⟨_, hz, rfl⟩)
     ·exact this.right ((xX h.opts hi).2 ⟨_, hz, rfl⟩)
    ·have : k = ns.length - 1 := by omega
     subst this; exact .self
  rintro ⟨k, hk, rfl⟩
  exact key _ k (Nat.le_refl _) hk
 ·intro hs
  induction hs with
  | self => exact ⟨ns.length - 1, by omega, rfl⟩
  | left _ hl ih =>
   obtain ⟨k, hk, rfl⟩ := ih
   obtain ⟨o, ho, e⟩ := (xY h.opts hk).1 hl
   have := (xB h.opts hk).1 o ho
   exact ⟨o.toNat, by omega, e.symm⟩
  | right _ hl ih =>
   obtain ⟨k, hk, rfl⟩ := ih
   obtain ⟨o, ho, e⟩ := (xX h.opts hk).1 hl
   have := (xB h.opts hk).2 o ho
   exact ⟨o.toNat, by omega, e.symm⟩
end Go.GL

namespace Go.GL
open Go Go.RowKit
theorem nodup_lt {l : List Int} (h : l.Pairwise (· < ·)) : l.Nodup := h.imp fun {a b} h e => by omega
section
variable {q : PSt} {rs P list : List Int} {n : Nat} {nodes : List Nd} {rk : List (Int × Int)}

end
noncomputable def formG (g : Nat) : List Nd := @dite _ (∃ ns, IsForm g ns) (Classical.propDecidable _) (fun h => Classical.choose h) (fun _ => [])
theorem IsForm.eq {g : Nat} {ns : List Nd} (h : IsForm g ns) : formG g = ns := by
 have hx : ∃ ns, IsForm g ns := ⟨ns, h⟩
 unfold formG
 rw [dif_pos hx]
 exact (Classical.choose_spec hx).unique h
theorem form_eq {ns : List Nd} {bs : List Int} (h : Ar ns bs) {m : Nat} (hm : m < ns.length) : formM ns bs m = formG (den ns m) :=
 (IsForm.eq (g := den ns m) ⟨(form_sg h hm).1, (form_sg h hm).2.1⟩).symm
end Go.GL

namespace Go.GL
open Go Go.RowKit Go.Sort Go.Lib
section
variable {P : Program} {ρ : Operand → Value} {w : World} {K : Value → World → Prop} {d : Option Nat} {t ty e : Nat} {pos : String} {aft : Array Edge} {g : Option (Nat × Bool)} {x : Operand} {G : Pin}
variable {α : Type} {E : Elt α}
end



end Go.GL

namespace Go.GL
open Go Go.RowKit
theorem form_is {q : PSt} (hok : PoolOk q) {r : Int} (hr : PlaceOk q r) : IsForm (pd q r) (formG (pd q r)) := by
 have h := form_sg hok.ar (m := r.toNat) (by have := hr.1; have := hr.2; omega)
 have e := IsForm.eq (g := pd q r) ⟨h.1, h.2.1⟩
 rw [e]; exact ⟨h.1, h.2.1⟩
end Go.GL

namespace Go.GL
open Go Go.RowKit
structure GsOk (q : PSt) (ls : List Int) (gs : List Nat) : Prop where
 pl : ∀ z ∈ ls, PlaceOk q z
 eq : ls.map (pd q) = gs
theorem GsOk.nil {q : PSt} : GsOk q [] [] := ⟨fun _ h => (List.not_mem_nil h).elim, rfl⟩
theorem GsOk.px {q q' : PSt} {ls : List Int} {gs : List Nat} (h : GsOk q ls gs) (hx : PX q q') (hok : PoolOk q) (hok' : PoolOk q') : GsOk q' ls gs := ⟨fun z hz => hx.place (h.pl z hz), (px_map hx hok hok' h.pl).trans h.eq⟩
theorem GsOk.snoc {q : PSt} {ls : List Int} {gs : List Nat} {z : Int} {g : Nat} (h : GsOk q ls gs) (hz : PlaceOk q z) (hg : pd q z = g) : GsOk q (ls ++ [z]) (gs ++ [g]) := by
 refine ⟨fun y hy => ?_, by rw [List.map_append, h.eq]; simp [hg]⟩
 rcases List.mem_append.1 hy with h1 | h1
 ·exact h.pl y h1
 ·rw [List.mem_singleton.1 h1]; exact hz
theorem GsOk.len {q : PSt} {ls : List Int} {gs : List Nat} (h : GsOk q ls gs) : ls.length = gs.length := by rw [← h.eq, List.length_map]
section
variable {q : PSt} {f b : Int}
end
end Go.GL

namespace Go.GL
open Go Go.RowKit
def flOf (ns : List Nd) : List (ByteArray × Int) := (List.range ns.length).map fun i => (b2s (keyN (ns.getD i default).l (ns.getD i default).r), (i : Int))
def bkq (ns : List Nd) (bs : List Int) : PSt := ⟨ns, bs, flOf ns, [], [], [], []⟩
theorem find_fl {ns : List Nd} {bs : List Int} (h : Ar ns bs) : FindOk ns (flOf ns) := by
 have hk : ∀ i, i < ns.length → ∀ l r : List Int, (∀ x ∈ l, 0 ≤ x) → (∀ x ∈ r, 0 ≤ x) → b2s (keyN (ns.getD i default).l (ns.getD i default).r) = b2s (keyN l r) → ns.getD i default = ⟨l, r⟩ := fun i hi l r hl hr e => by
  have oo := xB h.opts hi
  obtain ⟨e1, e2⟩ := keyN_inj (fun z hz => (oo.1 z hz).1) (fun z hz => (oo.2 z hz).1) hl hr (b2s_inj e)
  cases hn : ns.getD i default with
  | mk a b => rw [hn] at e1 e2; simp only at e1 e2; rw [e1, e2]
 constructor
 ·intro i hi
  have oo := xB h.opts hi
  have key : ∀ n, (look ((List.range n).map fun i => (b2s (keyN (ns.getD i default).l (ns.getD i default).r), (i : Int))) (b2s (keyN (ns.getD i default).l (ns.getD i default).r))) = (if i < n then some (i : Int) else none) ∨ ns.length < n := by
   intro n
   induction n with
   | zero => left; rfl
   | succ n ih =>
    by_cases hn : ns.length < n + 1
    ·exact Or.inr hn
    left
    have ih := ih.resolve_right (by omega)
    rw [List.range_succ, List.map_append]
    unfold look at ih ⊢
    rw [List.find?_append]
    by_cases h1 : i < n
    ·rw [if_pos h1] at ih
     obtain ⟨p, hp, e⟩ := Option.map_eq_some_iff.1 ih
     rw [hp, if_pos (by omega)]
     simp [e]
    ·rw [if_neg h1] at ih
     have h2 := Option.map_eq_none_iff.1 ih
     rw [h2]
     by_cases h3 : i = n
     ·subst h3; rw [if_pos (by omega)]; simp
     ·rw [if_neg (by omega)]
      have hne : ¬ (b2s (keyN (ns.getD n default).l (ns.getD n default).r) = b2s (keyN (ns.getD i default).l (ns.getD i default).r)) := fun e => by
       have := hk n (by omega) _ _ (fun z hz => (oo.1 z hz).1) (fun z hz => (oo.2 z hz).1) e
       exact h.diff n i (by omega) hi this
      have hd := decide_eq_false hne
      simp only [List.map_cons, List.map_nil, List.find?_cons, hd, List.find?_nil]
      rfl
  have := (key ns.length).resolve_right (by omega)
  rw [if_pos hi] at this
  exact this
 ·intro l r z hl hr hz
  unfold look flOf at hz
  obtain ⟨p, hp, e⟩ := Option.map_eq_some_iff.1 hz
  have h1 := List.mem_of_find?_eq_some hp
  obtain ⟨i, hi, rfl⟩ := List.mem_map.1 h1
  have h3 := List.find?_some hp
  simp only [decide_eq_true_eq] at h3
  have h2 := h3
  have hi' := List.mem_range.1 hi
  exact ⟨i, hi', e.symm, hk i hi' l r hl hr h2⟩
theorem bkq_ok {ns : List Nd} {bs : List Int} (h : Ar ns bs) : PoolOk (bkq ns bs) :=
 ⟨h, find_fl h, (fun _ _ _ h => by cases h), (fun _ _ h => by cases h), (fun _ _ _ h => by cases h), (fun _ _ h => by cases h)⟩
theorem putN_app {ns : List Nd} {bs xs ys : List Int} : putN ns bs xs ys = ns ∨ putN ns bs xs ys = ns ++ [putNd xs ys] := by
 unfold putN
 split
 ·exact Or.inl rfl
 ·exact Or.inr rfl
structure PutOk (ns : List Nd) (bs xs ys : List Int) : Prop where
 ok : PoolOk (bkq (putN ns bs xs ys) (putB ns bs xs ys))
 px : PX (bkq ns bs) (bkq (putN ns bs xs ys) (putB ns bs xs ys))
 pl : PlaceOk (bkq (putN ns bs xs ys) (putB ns bs xs ys)) (putK ns bs xs ys)
 pd : pd (bkq (putN ns bs xs ys) (putB ns bs xs ys)) (putK ns bs xs ys) = mkG (xs.map (Go.GL.pd (bkq ns bs))) (ys.map (Go.GL.pd (bkq ns bs)))
 len : (putN ns bs xs ys).length ≤ ns.length + 1
theorem bk_put {ns : List Nd} {bs xs ys : List Int} (h : PoolOk (bkq ns bs)) (hl : ns.length + 1 ≤ 1048576) (hls : xs.length ≤ 1048576 ∧ ys.length ≤ 1048576) (h1 : ∀ z ∈ xs, PlaceOk (bkq ns bs) z) (h2 : ∀ z ∈ ys, PlaceOk (bkq ns bs) z) : PutOk ns bs xs ys := by
 have ha : Ar ns bs := h.ar
 have b1 := places_of h1
 have b2 := places_of h2
 have hp := ha.put hl hls b1 b2
 have hb := ha.ok.put hl hls b1 b2
 have hn := putN_app (ns := ns) (bs := bs) (xs := xs) (ys := ys)
 refine ⟨bkq_ok hp.1, ⟨?_, fun k hk => ?_, fun _ h => h⟩, hb.2.1, hp.2.1, ?_⟩
 ·show ns.length ≤ (putN ns bs xs ys).length
  rcases hn with e | e <;> rw [e]
  ·exact Nat.le_refl _
  ·simp
 ·show (putN ns bs xs ys).getD k default = ns.getD k default
  rcases hn with e | e <;> rw [e]
  exact yU hk
 ·rcases hn with e | e <;> rw [e] <;> simp
def NkOk (q : PSt) (ats : List Int) (k : Nat) (φ : Nat → Nat) : Prop := GsOk q ats ((List.range k).map φ)
section
variable {q q' : PSt} {ats : List Int} {k : Nat} {φ : Nat → Nat}
theorem NkOk.len (h : NkOk q ats k φ) : ats.length = k := by have := GsOk.len h; simpa using this
theorem NkOk.at_ (h : NkOk q ats k φ) {i : Nat} (hi : i < k) : PlaceOk q (ats.getD i 0) ∧ pd q (ats.getD i 0) = φ i := by
 have hl := h.len
 refine ⟨h.pl _ (yT (by omega)), ?_⟩
 have := congrArg (fun l : List Nat => l[i]?) h.eq
 simp only [List.getElem?_map, List.getElem?_range hi, Option.map_some] at this
 simp only [List.getElem?_eq_getElem (show i < ats.length by omega), Option.map_some] at this
 have e : ats.getD i 0 = ats[i]'(by omega) := by simp [List.getD, show i < ats.length by omega]
 rw [e]; exact Option.some.inj this
end
theorem book_form {ns : List Nd} {bs : List Int} (h : PoolOk (bkq ns bs)) {z : Int} (hz : PlaceOk (bkq ns bs) z) : formM ns bs z.toNat = formG (pd (bkq ns bs) z) := form_eq h.ar (m := z.toNat) (show z.toNat < ns.length by have := hz.1; have h2 : z < (ns.length : Int) := hz.2; omega)

end Go.GL

namespace Go.GL
open Go Go.RowKit

end Go.GL

namespace Go.GL
open Go Go.RowKit
structure AllW (fs : List (List Nd)) : Prop where
 len : fs.length ≤ 100
 ok : ∀ i, i < fs.length → FormOk (fs.getD i []) ∧ 1 ≤ (fs.getD i []).length ∧ (fs.getD i []).length ≤ 1000
noncomputable def mkGm (fs gs : List (List Nd)) : Nat := mkG (fs.map gOf) (gs.map gOf)
structure RootOk (ns : List Nd) (bs : List Int) (fs : List Nd) : Prop where
 ok : PoolOk (bkq (addM ns bs fs).2.1 (addM ns bs fs).2.2)
 px : PX (bkq ns bs) (bkq (addM ns bs fs).2.1 (addM ns bs fs).2.2)
 pl : PlaceOk (bkq (addM ns bs fs).2.1 (addM ns bs fs).2.2) (rootM ns bs fs)
 pd : pd (bkq (addM ns bs fs).2.1 (addM ns bs fs).2.2) (rootM ns bs fs) = gOf fs
 len : (addM ns bs fs).2.1.length ≤ ns.length + fs.length
theorem addM_old {ns : List Nd} {bs : List Int} {fs : List Nd} : ∀ k, k ≤ fs.length → ns.length ≤ (addM ns bs (fs.take k)).2.1.length ∧ ∀ j, j < ns.length → (addM ns bs (fs.take k)).2.1.getD j default = ns.getD j default := by
 intro k
 induction k with
 | zero => intro _; exact ⟨Nat.le_refl _, fun j _ => rfl⟩
 | succ k ih =>
  intro hk
  obtain ⟨h1, h2⟩ := ih (by omega)
  rw [qF (by omega)]
  generalize addM ns bs (fs.take k) = s at h1 h2
  obtain ⟨az, ns2, bs2⟩ := s
  show ns.length ≤ (putN ns2 bs2 _ _).length ∧ ∀ j, j < ns.length → (putN ns2 bs2 _ _).getD j default = ns.getD j default
  simp only at h1 h2
  rcases putN_app (ns := ns2) (bs := bs2) (xs := atL az (fs.getD k default).l) (ys := atL az (fs.getD k default).r) with e | e <;> rw [e]
  ·exact ⟨h1, h2⟩
  ·refine ⟨by simp; omega, fun j hj => ?_⟩
   rw [yU (by omega)]; exact h2 j hj
theorem bk_root {ns : List Nd} {bs : List Int} {fs : List Nd} (h : PoolOk (bkq ns bs)) (hf : FormOk fs) (h1 : 1 ≤ fs.length) (hl : ns.length + fs.length ≤ 1048576) : RootOk ns bs fs := by
 have ha : Ar ns bs := h.ar
 have hd := ha.add hf hl
 have hr := ha.root hf h1 hl
 have hao := addM_all ha.ok hf hl
 have ho := addM_old (ns := ns) (bs := bs) (fs := fs) fs.length (Nat.le_refl _)
 rw [List.take_length] at ho
 have hp := hao.places (fs.length - 1) (by have := hao.len; omega)
 have hal := hao.len
 have e : rootM ns bs fs = (addM ns bs fs).1.getD (fs.length - 1) 0 := by unfold rootM; rw [hal]
 refine ⟨bkq_ok hd.ar, ⟨ho.1, ho.2, fun _ h => h⟩, ?_, hr, hao.hi⟩
 rw [e]; exact hp
theorem take_map {fs : List (List Nd)} {j : Nat} (h : j < fs.length) : (fs.take (j + 1)).map gOf = (fs.take j).map gOf ++ [gOf (fs.getD j [])] := by
 rw [take_snoc fs [] h, List.map_append]; rfl

theorem sub_mk {ls rs : List Nat} {x : Nat} (h : SubG (mkG ls rs) x) : x = mkG ls rs ∨ ∃ y, y ∈ ls ++ rs ∧ SubG y x := by
 induction h with
 | self => exact Or.inl rfl
 | left _ hl ih =>
  rcases ih with rfl | ⟨y, hy, hs⟩
  ·exact Or.inr ⟨_, List.mem_append_left _ (lo_mk.1 hl), .self⟩
  ·exact Or.inr ⟨y, hy, hs.left hl⟩
 | right _ hl ih =>
  rcases ih with rfl | ⟨y, hy, hs⟩
  ·exact Or.inr ⟨_, List.mem_append_right _ (ro_mk.1 hl), .self⟩
  ·exact Or.inr ⟨y, hy, hs.right hl⟩
theorem form_le {g : Nat} {ns : List Nd} (h : IsForm g ns) {L : List Nat} (hL : ∀ x, SubG g x → x ∈ L) : ns.length ≤ L.length := by
 have h1 : ((List.range ns.length).map (den ns)).Nodup := by
  unfold List.Nodup
  rw [List.pairwise_map]
  exact (List.nodup_range (n := ns.length)).imp_of_mem fun {a b} ha hb hne e => hne (h.1.inj (List.mem_range.1 ha) (List.mem_range.1 hb) e)
 have h2 : ((List.range ns.length).map (den ns)) ⊆ L := fun x hx => by
  obtain ⟨j, hj, rfl⟩ := List.mem_map.1 hx
  exact hL _ (h.2 ▸ (sg_sub h.1).1 ⟨j, List.mem_range.1 hj, rfl⟩)
 have := h1.length_le_of_subset h2
 simpa using this
theorem isform_ok {g : Nat} {ns : List Nd} (h : IsForm g ns) (hl : ns.length ≤ 1048576) : FormOk ns :=
 ⟨hl, h.1.opts, fun i hi => by
  have oo := xB h.1.opts hi
  have a := nodup_len i _ (nodup_lt (h.1.pw i hi).1) oo.1
  have b := nodup_len i _ (nodup_lt (h.1.pw i hi).2) oo.2
  omega⟩
theorem mk_books : ∀ (l : List (List Nd)) (ns : List Nd) (bs : List Int), PoolOk (bkq ns bs) → (∀ f ∈ l, FormOk f ∧ 1 ≤ f.length ∧ f.length ≤ 1000) → ns.length + 1000 * l.length ≤ 1048575 →
  ∃ a b ats, PoolOk (bkq a b) ∧ PX (bkq ns bs) (bkq a b) ∧ GsOk (bkq a b) ats (l.map gOf) ∧ a.length ≤ ns.length + 1000 * l.length
 | [], ns, bs, h, _, _ => ⟨ns, bs, [], h, PX.refl _, GsOk.nil, Nat.le_refl _⟩
 | f :: l, ns, bs, h, hl, hb => by
  rw [List.length_cons] at hb
  obtain ⟨i, j, k⟩ := hl f List.mem_cons_self
  have hr := bk_root (fs := f) h i j (by omega)
  have hlen := hr.len
  obtain ⟨a, b, ats, d, c, e, m⟩ := mk_books l _ _ hr.ok (fun g hg => hl g (List.mem_cons_of_mem _ hg)) (by omega)
  refine ⟨a, b, rootM ns bs f :: ats, d, hr.px.trans c, ⟨fun z hz => ?_, ?_⟩, by rw [List.length_cons]; omega⟩
  ·rcases List.mem_cons.1 hz with rfl | hz
   ·exact c.place hr.pl
   ·exact e.pl z hz
  ·rw [List.map_cons, List.map_cons, e.eq, c.pd hr.ok d hr.pl, hr.pd]
theorem allW_mem {fs : List (List Nd)} (h : AllW fs) : ∀ f ∈ fs, FormOk f ∧ 1 ≤ f.length ∧ f.length ≤ 1000 := fun f hf => by
 obtain ⟨i, hi, e⟩ := List.mem_iff_getElem.1 hf
 have := h.ok i hi
 have e2 : fs.getD i [] = f := by simp [List.getD, hi, e]
 rw [e2] at this; exact this
theorem mk_isform {fs gs : List (List Nd)} (hf : AllW fs) (hg : AllW gs) : IsForm (mkGm fs gs) (formG (mkGm fs gs)) := by
 have k := hf.len
 have l := hg.len
 obtain ⟨ns, bs, ats, b, m, e, f⟩ := mk_books fs [] [] (bkq_ok Ar.empty) (allW_mem hf) (by rw [List.length_nil]; omega)
 rw [List.length_nil] at f
 obtain ⟨n, o, g, d, h, a, p⟩ := mk_books gs ns bs b (allW_mem hg) (by omega)
 have c := e.px h b d
 have i := c.len
 have j := a.len
 rw [List.length_map] at i j
 have hp := bk_put (xs := ats) (ys := g) d (by omega) ⟨by omega, by omega⟩ c.pl a.pl
 have := form_is hp.ok hp.pl
 rw [hp.pd, c.eq, a.eq] at this
 exact this
end Go.GL

namespace Go.GL
open Go Go.RowKit
end Go.GL

namespace Go.GL
open Go Go.RowKit

end Go.GL

namespace Go.GL
open Go Go.RowKit
section
variable {P : Program} {w : World} {ρ : Operand → Value} {d : Option Nat} {t t' ty : Nat} {pos : String} {aft : Array Edge} {g : Option (Nat × Bool)} {x y : Operand} {i j : Int}
end
end Go.GL

namespace Go.GL
open Go Go.RowKit




end Go.GL

namespace Go.GL
open Go Go.RowKit
section
variable {q q' : PSt} {ats : List Int} {k : Nat} {φ : Nat → Nat}
end
theorem add_nk {fs : List Nd} (hf : FormOk fs) (hl : fs.length ≤ 524288) : PoolOk (bkq (addM [] [] fs).2.1 (addM [] [] fs).2.2) ∧ NkOk (bkq (addM [] [] fs).2.1 (addM [] [] fs).2.2) (addM [] [] fs).1 fs.length (den fs) ∧ (addM [] [] fs).2.1.length ≤ fs.length := by
 have hd := Ar.add Ar.empty hf (by simp; omega)
 have ha := addM_all xW hf (by simp; omega)
 have hal := ha.len
 have hhi := ha.hi
 refine ⟨bkq_ok hd.ar, ⟨fun z hz => ?_, ?_⟩, by simpa using hhi⟩
 ·obtain ⟨i, hi, rfl⟩ := List.getElem_of_mem hz
  have := ha.places i hi
  rw [show (addM [] [] fs).1.getD i 0 = (addM [] [] fs).1[i] by simp [List.getD, hi]] at this
  exact this
 ·apply List.ext_getElem
  ·simp [hal]
  ·intro i h1 h2
   simp only [List.getElem_map, List.getElem_range]
   have := hd.is i (by simpa using h2)
   rw [show (addM [] [] fs).1.getD i 0 = (addM [] [] fs).1[i]'(by simpa using h1) by simp [List.getD, show i < (addM [] [] fs).1.length by simpa using h1]] at this
   exact this
section
variable {q q' : PSt} {sm : List (Int × Int)} {ats : List Int} {k a n : Nat} {gs : List Nd}
end
end Go.GL

namespace Go.GL
open Go Go.RowKit
theorem opt_form {ns : List Nd} (hg : GoodP ns) {z : Int} (hz : 0 ≤ z ∧ z < ns.length) : IsForm (den ns z.toNat) (partS ns z) := by
 have hh := hg.hi
 obtain ⟨hok, hnk, _⟩ := add_nk (good_form hg) (by omega)
 have ha := hnk.at_ (i := z.toNat) (by omega)
 have e := book_form hok ha.1
 have f := form_is hok ha.1
 rw [← e, ha.2] at f
 exact f
theorem opts_at {ns : List Nd} {l : List Int} {i : Nat} (h : i < l.length) : (optsS ns l).getD i [] = partS ns (l.getD i 0) := by
 unfold optsS
 simp [List.getD, h]
theorem opts_len (ns : List Nd) (l : List Int) : (optsS ns l).length = l.length := by simp [optsS]
theorem mem_ix {l : List Int} {z : Int} (h : z ∈ l) : ∃ i, i < l.length ∧ l.getD i 0 = z := by
 obtain ⟨i, hi, e⟩ := List.getElem_of_mem h
 exact ⟨i, hi, by simp [List.getD, hi, e]⟩
end Go.GL

namespace Go.GL
open Go Go.RowKit
noncomputable def winL (g : Nat) : Bool := !decP (geG 0 g)
noncomputable def winR (g : Nat) : Bool := !decP (geG g 0)
theorem winL_iff {g : Nat} : winL g = true ↔ ∃ l, loG g l ∧ winR l = false := by
 unfold winL winR
 constructor
 ·intro h
  have h1 : ¬ geG 0 g := fun k => by rw [decP_true.2 k] at h; cases h
  rcases ge_not h1 with ⟨r, hr, _⟩ | ⟨l, hl, hg⟩
  ·exact absurd hr ro_zero
  ·exact ⟨l, hl, by rw [decP_true.2 hg]; rfl⟩
 ·rintro ⟨l, hl, h⟩
  have hg : geG l 0 := decP_true.1 (by cases e : decP (geG l 0) with
   | true => rfl
   | false => rw [e] at h; cases h)
  have : ¬ geG 0 g := fun k => (ge_iff.1 k).2 l hl hg
  rw [decP_false.2 this]; rfl
theorem winR_iff {g : Nat} : winR g = true ↔ ∃ r, roG g r ∧ winL r = false := by
 unfold winL winR
 constructor
 ·intro h
  have h1 : ¬ geG g 0 := fun k => by rw [decP_true.2 k] at h; cases h
  rcases ge_not h1 with ⟨r, hr, hg⟩ | ⟨l, hl, _⟩
  ·exact ⟨r, hr, by rw [decP_true.2 hg]; rfl⟩
  ·exact absurd hl lo_zero
 ·rintro ⟨r, hr, h⟩
  have hg : geG 0 r := decP_true.1 (by cases e : decP (geG 0 r) with
   | true => rfl
   | false => rw [e] at h; cases h)
  have : ¬ geG g 0 := fun k => (ge_iff.1 k).1 r hr hg
  rw [decP_false.2 this]; rfl
noncomputable def wnL (ns : List Nd) (k : Nat) : List Bool := (List.range k).map fun i => winL (den ns i)
noncomputable def wnR (ns : List Nd) (k : Nat) : List Bool := (List.range k).map fun i => winR (den ns i)
theorem wnL_len (ns : List Nd) (k : Nat) : (wnL ns k).length = k := by simp [wnL]
theorem wnR_len (ns : List Nd) (k : Nat) : (wnR ns k).length = k := by simp [wnR]
theorem wnL_at {ns : List Nd} {k i : Nat} (h : i < k) : (wnL ns k).getD i false = winL (den ns i) := by simp [wnL, List.getD, h]
theorem wnR_at {ns : List Nd} {k i : Nat} (h : i < k) : (wnR ns k).getD i false = winR (den ns i) := by simp [wnR, List.getD, h]
theorem wnL_next (ns : List Nd) (k : Nat) : wnL ns (k + 1) = wnL ns k ++ [winL (den ns k)] := by simp [wnL, List.range_succ]
theorem wnR_next (ns : List Nd) (k : Nat) : wnR ns (k + 1) = wnR ns k ++ [winR (den ns k)] := by simp [wnR, List.range_succ]
def anyN (t : List Bool) (l : List Int) : Bool := l.any fun o => !t.getD o.toNat false
theorem anyN_next {t : List Bool} {l : List Int} {j : Nat} (h : j < l.length) : anyN t (l.take (j + 1)) = (anyN t (l.take j) || !t.getD (l.getD j 0).toNat false) := by
 unfold anyN
 rw [take_snoc l 0 h, List.any_append]; simp
theorem anyN_L {ns : List Nd} (ho : OptsOk ns) {k : Nat} (hk : k < ns.length) {t : List Bool} (ht : ∀ i, i < k → t.getD i false = winR (den ns i)) : anyN t (ns.getD k default).l = winL (den ns k) := by
 have oo := (xB ho hk).1
 have key : anyN t (ns.getD k default).l = true ↔ winL (den ns k) = true := by
  rw [winL_iff]
  unfold anyN
  rw [List.any_eq_true]
  constructor
  ·rintro ⟨o, h1, h2⟩
   have := oo o h1
   rw [ht _ (by omega)] at h2
   exact ⟨_, (xY ho hk).2 ⟨o, h1, rfl⟩, by simpa using h2⟩
  ·rintro ⟨l, hl, h2⟩
   obtain ⟨o, h1, rfl⟩ := (xY ho hk).1 hl
   have := oo o h1
   exact ⟨o, h1, by rw [ht _ (by omega), h2]; rfl⟩
 exact Bool.eq_iff_iff.2 key
theorem anyN_R {ns : List Nd} (ho : OptsOk ns) {k : Nat} (hk : k < ns.length) {t : List Bool} (ht : ∀ i, i < k → t.getD i false = winL (den ns i)) : anyN t (ns.getD k default).r = winR (den ns k) := by
 have oo := (xB ho hk).2
 have key : anyN t (ns.getD k default).r = true ↔ winR (den ns k) = true := by
  rw [winR_iff]
  unfold anyN
  rw [List.any_eq_true]
  constructor
  ·rintro ⟨o, h1, h2⟩
   have := oo o h1
   rw [ht _ (by omega)] at h2
   exact ⟨_, (xX ho hk).2 ⟨o, h1, rfl⟩, by simpa using h2⟩
  ·rintro ⟨l, hl, h2⟩
   obtain ⟨o, h1, rfl⟩ := (xX ho hk).1 hl
   have := oo o h1
   exact ⟨o, h1, by rw [ht _ (by omega), h2]; rfl⟩
 exact Bool.eq_iff_iff.2 key
noncomputable def wmB (fs : List Nd) (left : Bool) : Bool := goodB fs && (if left = true then winL (gOf fs) else winR (gOf fs))
theorem wm_no {fs : List Nd} {left : Bool} (h : goodB fs = false) : wmB fs left = false := by unfold wmB; rw [h]; rfl
theorem wm_l {fs : List Nd} (h : goodB fs = true) : wmB fs true = winL (gOf fs) := by unfold wmB; rw [h]; rfl
theorem wm_r {fs : List Nd} (h : goodB fs = true) : wmB fs false = winR (gOf fs) := by unfold wmB; rw [h]; rfl
structure FwOk (f : Nat → Bool) (ns : List Nd) (i : Nat) (ls : List Bool) : Prop where
 len : ls.length = ns.length
 old : ∀ k, k < i → ls.getD k false = f (den ns k)
 new : ∀ k, i ≤ k → ls.getD k false = false
theorem FwOk.start {f : Nat → Bool} {ns : List Nd} {n : Nat} (h : n = ns.length) : FwOk f ns 0 (List.replicate n false) :=
 ⟨by simp [h], fun k hk => absurd hk (Nat.not_lt_zero k), fun k _ => by simp only [List.getD, List.getElem?_replicate]; split <;> rfl⟩
theorem fw_set {f : Nat → Bool} {ns : List Nd} {i : Nat} {ls t : List Bool} {l : List Int} (h : FwOk f ns i ls) (hi : i < ns.length) : ls = ls.set i (anyN t (l.take 0)) := by
 have hl := h.len
 have e : anyN t (l.take 0) = ls[i]'(by omega) := by
  have := h.new i (Nat.le_refl _)
  have q : ls.getD i false = ls[i]'(by omega) := by simp [List.getD, show i < ls.length by omega]
  rw [← q, this]; rfl
 rw [e]; simp
theorem fw_next {ls ls2 t : List Bool} {l : List Int} {i j : Nat} {b : Bool} (h : ls2 = ls.set i (anyN t (l.take j))) (hi : i < ls.length) (hj : j < l.length) (hb : b = (ls2.getD i false || !t.getD (l.getD j 0).toNat false)) :
  ls2.set i b = ls.set i (anyN t (l.take (j + 1))) := by
 have e : ls2.getD i false = anyN t (l.take j) := by rw [h]; simp [List.getD, hi]
 rw [anyN_next hj, hb, e, h, List.set_set]
theorem FwOk.put {f : Nat → Bool} {ns : List Nd} {i : Nat} {ls : List Bool} {b : Bool} (h : FwOk f ns i ls) (hi : i < ns.length) (hb : b = f (den ns i)) : FwOk f ns (i + 1) (ls.set i b) := by
 have hl := h.len
 refine ⟨by simp [hl], fun k hk => ?_, fun k hk => ?_⟩
 ·by_cases e : k = i
  ·subst e; rw [hb]; simp [List.getD, show k < ls.length by omega]
  ·have := h.old k (by omega)
   simpa [List.getD, List.getElem?_set, show ¬ i = k by omega] using this
 ·have := h.new k (by omega)
  simpa [List.getD, List.getElem?_set, show ¬ i = k by omega] using this
theorem FwOk.keep {f : Nat → Bool} {ns : List Nd} {i k : Nat} {ls : List Bool} {b : Bool} (h : FwOk f ns i ls) (hk : k < i) : (ls.set i b).getD k false = f (den ns k) := by
 have := h.old k hk
 simpa [List.getD, List.getElem?_set, show ¬ i = k by omega] using this
theorem FwOk.last {f : Nat → Bool} {ns : List Nd} {ls : List Bool} (h : FwOk f ns ns.length ls) (h1 : 1 ≤ ns.length) {z : Int} (hz : z = (ns.length : Int) - 1) : ls.getD z.toNat false = f (gOf ns) := by
 have := h.old (ns.length - 1) (by omega)
 rw [show z.toNat = ns.length - 1 by omega]; exact this
end Go.GL

namespace Go.GL
open Go Go.RowKit

theorem agg_cells (v : Value) : (Value.agg [v].toArray).cells.toList = [v] := by simp [Value.cells]
theorem flat_one : ∀ (vs : List Value), ((vs.map fun v => Value.agg [v].toArray).flatMap fun v => v.cells.toList) = vs
 | [] => rfl
 | v :: vs => by
  rw [List.map_cons, List.flatMap_cons, agg_cells v, flat_one vs]
  rfl
theorem o_buildA {α : Type} {E : Elt α} {P : Program} {ρ : Operand → Value} {w : World} {G : Pin} {K : Value → World → Prop} {d : Option Nat} {t ty e : Nat} {pos : String} {aft : Array Edge} {g : Option (Nat × Bool)}
  {n : Nat} {parts : Array (Nat × Operand)} (vs : List Value) (ys : List α) {z : Value} (ht : P.underlying t = some (.slice e)) (hs : (P.info? e).map (·.size) = some 1) (hz : (P.info? e).bind (·.zero) = some z)
  (hr : RepsF E G vs ys) (_ : ∀ u ∈ vs, u.oneCell' = true) (hn : n = vs.length) (hn2 : n = ys.length) (hE : E.size = 1)
  (hpt' : (parts.toList.map fun (i, x) => (i, ρ x)) = ((vs.map fun v => Value.agg [v].toArray).zipIdx 0).map fun x => (x.2, x.1)) (hpos : 0 < n ∧ n ≤ 1000000) (hP : Pins G w)
  (h : ∀ v w', Own E e G w' w.heap.size v ys → Pins G w' → Below w.heap.size w w' → v.ownBlock = some w.heap.size → K v w') : EO P ρ ⟨d, .buildSlice t n parts, ty, pos, aft, g⟩ w K := by
 have hpt := (Array.toList_map ..).trans hpt'
 obtain ⟨inf, hinf, hsz⟩ := Option.map_eq_some_iff.1 hs
 have hzz : inf.zero = some z := by simpa [hinf] using hz
 have hrun := run_buildSlice (P := P) w t e n (parts.map fun (i, x) => (i, ρ x)) vs.toArray inf z ht hinf hzz (by rw [hsz]; omega) (by rw [hsz]; omega)
  (by
   rw [hpt, hsz]
   have hf := Great.fill_whole (s := 1) (by decide) (vs.map fun v => Value.agg [v].toArray) ((Array.range (n * 1)).map (z.cells[· % z.cells.size]!)) (fun v hv => by
    obtain ⟨u, _, rfl⟩ := List.mem_map.1 hv
    have := congrArg List.length (agg_cells u)
    simpa using this) (by simp [hn])
   rw [hf, flat_one vs])
 obtain ⟨v, w', h1, h2, h3, h4, h5⟩ := run_build (E := E) (d := d) (ty := ty) (pos := pos) (aft := aft) (g := g) n parts vs ys hrun hP hn2 (by omega) (by rw [hE]; omega) (fun i y hy => by
  obtain ⟨v, hv, hrep⟩ := hr i y hy
  have : (vs.drop (i * E.size)).take E.size = [v] := by
   rw [hE, Nat.mul_one]
   apply List.ext_getElem?
   intro j
   rw [List.getElem?_take, List.getElem?_drop]
   match j with
   | 0 => simpa using hv
   | j + 1 => simp
  rw [this]; exact hrep)
 exact EO.run h1 (h v w' h2 h3 h4 h5)
theorem repsN {α : Type} {E : Elt α} {G : Pin} : RepsF E G [] [] := fun i y hy => by simp at hy
theorem repsC {α : Type} {E : Elt α} {G : Pin} {v : Value} {y : α} {vs : List Value} {ys : List α} (h : E.rep G [v] y) (k : RepsF E G vs ys) : RepsF E G (v :: vs) (y :: ys) := fun i z hz => by
 cases i with
 | zero => simp at hz; subst hz; exact ⟨v, rfl, h⟩
 | succ i => simp at hz; obtain ⟨u, hu, hr⟩ := k i z hz; exact ⟨u, by simpa using hu, hr⟩
theorem onesN : ∀ u ∈ ([] : List Value), u.oneCell' = true := fun _ h => (List.not_mem_nil h).elim
theorem onesC {v : Value} {vs : List Value} (h : v.oneCell' = true) (k : ∀ u ∈ vs, u.oneCell' = true) : ∀ u ∈ v :: vs, u.oneCell' = true := fun u hu => by
 rcases List.mem_cons.1 hu with rfl | hu
 ·exact h
 ·exact k u hu
end Go.GL

namespace Go.GL
open Go Go.RowKit
structure KQ (Q : List Nat) : Prop where
 is : ∀ g ∈ Q, IsForm g (formG g)
 sub : ∀ g ∈ Q, ∀ x, SubG g x → x ∈ Q
theorem KQ.nil : KQ [] := ⟨fun _ h => (List.not_mem_nil h).elim, fun _ h => (List.not_mem_nil h).elim⟩
theorem KQ.w {Q : List Nat} (h : KQ Q) (hl : Q.length ≤ 1000) {g : Nat} (hg : g ∈ Q) : FormOk (formG g) ∧ 1 ≤ (formG g).length ∧ (formG g).length ≤ Q.length := by
 have h1 := form_le (h.is g hg) (h.sub g hg)
 exact ⟨isform_ok (h.is g hg) (by omega), (h.is g hg).1.lo, h1⟩
theorem KQ.allW {Q : List Nat} (h : KQ Q) (hl : Q.length ≤ 1000) {gs : List Nat} (hg : ∀ g ∈ gs, g ∈ Q) (hn : gs.length ≤ 100) : AllW (gs.map formG) := by
 refine ⟨by simpa using hn, fun i hi => ?_⟩
 have hi' : i < gs.length := by simpa using hi
 have e : (gs.map formG).getD i [] = formG gs[i] := by simp [List.getD, hi']
 rw [e]
 obtain ⟨a, b, c⟩ := h.w hl (hg _ (List.getElem_mem hi'))
 exact ⟨a, b, by omega⟩
theorem KQ.gof {Q : List Nat} (h : KQ Q) {gs : List Nat} (hg : ∀ g ∈ gs, g ∈ Q) : (gs.map formG).map gOf = gs := by
 rw [List.map_map]
 refine (List.map_congr_left (g := id) fun g hm => ?_).trans (List.map_id _)
 exact (h.is g (hg g hm)).2
theorem KQ.add {Q : List Nat} (h : KQ Q) (hl : Q.length ≤ 1000) {gs hs : List Nat} (hg : ∀ g ∈ gs, g ∈ Q) (hh : ∀ g ∈ hs, g ∈ Q) (h1 : gs.length ≤ 100) (h2 : hs.length ≤ 100) : KQ (mkGm (gs.map formG) (hs.map formG) :: Q) := by
 have hi := mk_isform (h.allW hl hg h1) (h.allW hl hh h2)
 have e : mkGm (gs.map formG) (hs.map formG) = mkG gs hs := by unfold mkGm; rw [h.gof hg, h.gof hh]
 rw [e] at hi ⊢
 refine ⟨fun g hm => ?_, fun g hm x hx => ?_⟩
 ·rcases List.mem_cons.1 hm with rfl | hm
  ·exact hi
  ·exact h.is g hm
 ·rcases List.mem_cons.1 hm with rfl | hm
  ·rcases sub_mk hx with rfl | ⟨y, hy, hs⟩
   ·exact List.mem_cons_self
   ·rcases List.mem_append.1 hy with hy | hy
    ·exact List.mem_cons_of_mem _ (h.sub y (hg y hy) x hs)
    ·exact List.mem_cons_of_mem _ (h.sub y (hh y hy) x hs)
  ·exact List.mem_cons_of_mem _ (h.sub g hm x hx)

theorem Bx.anti {G G' : Pin} {w : World} {b : Nat} {cs : List Value} (h : Bx G' w b cs) (hl : Pin.le G G') : Bx G w b cs := ⟨h.heap, fun o u hu => h.free o u (hl _ _ _ hu)⟩
theorem ownV_anti {e base : Nat} {G G' : Pin} {w : World} {v : Value} {xs : List Value} (h : Own eVal e G' w base v xs) (hl : Pin.le G G') : Own eVal e G w base v xs := by
 obtain ⟨cells, h1, h2⟩ := h.ex
 exact ⟨⟨cells, h1, h2⟩, fun k hk o u hu => h.free k hk o u (hl _ _ _ hu)⟩
theorem ext_grown {x : Option Nat} {G G' : Pin} {w w' : World} (h : Ext (inO x) G w G' w') : w.grownBy w' x :=
 ⟨h.os, h.tape, h.output, h.size, fun k hk hne => h.block k hk fun hx => hne hx.symm⟩
theorem ext_back {S : Nat → Prop} {G Gx G' : Pin} {w w' : World} (hl : Pin.le G Gx) (hx : Ext S Gx w G' w') : Ext S G w G w' :=
 ⟨Pin.le_refl _, fun b o u hu => hx.pins b o u (hx.le _ _ _ (hl _ _ _ hu)), fun _ _ _ h => Or.inl h, hx.os, hx.tape, hx.output, hx.size, hx.block⟩

structure Tk (e base : Nat) (G : Pin) (w : World) (v : Value) (ns : List Nd) : Prop where
 own : ∃ Gi, Own eNode e Gi w base v ns ∧ Pin.le Gi G
 rd : RSl eNode G v ns
 lo : 1 ≤ ns.length
section
variable {e base : Nat} {G G' : Pin} {w w' : World} {v : Value} {ns : List Nd} {x row : Option Nat}
theorem Tk.blk (h : Tk e base G w v ns) : ∀ k, v.ownBlock = some k → ∃ o u, G k o u := fun k hk => by
 obtain ⟨a, b, o, n, c, cs, hv, hk2, hr, hg⟩ := h.rd.at_ 0 _ (List.getElem?_eq_getElem h.lo)
 have hb : a.block = b := by
  have h := congrArg Addr.block (hk2 0)
  refine Eq.trans ?_ h
  simp only [Addr.add]; split <;> rfl
 have hl := eNode.len hr
 have hc : 0 < cs.length := by rw [hl]; decide
 refine ⟨o + 0, cs[0], ?_⟩
 have h1 := hg 0 _ (List.getElem?_eq_getElem hc)
 rw [hv] at hk
 have : k = b := by rw [← hb]; exact (Option.some.inj hk).symm
 rw [this]; exact h1
theorem Tk.le (h : Tk e base G w v ns) (hl : Pin.le G G') : Tk e base G' w v ns := by
 obtain ⟨Gi, h1, h2⟩ := h.own
 exact ⟨⟨Gi, h1, Pin.le_trans h2 hl⟩, h.rd.mono hl, h.lo⟩
theorem Tk.kept (h : Tk e base G w v ns) (hg : w.grownBy w' row) (hf : ∀ k, row = some k → ∀ o u, ¬ G k o u) : Tk e base G w' v ns := by
 obtain ⟨Gi, h1, h2⟩ := h.own
 refine ⟨⟨Gi, h1.keptA hg (fun k a b => ?_), h2⟩, h.rd, h.lo⟩
 obtain ⟨o, u, hu⟩ := h.blk k a
 exact hf k b o u hu
theorem Tk.below (h : Tk e base G w v ns) (hb : Below w.heap.size w w') : Tk e base G w' v ns := h.kept (Below.grownBy hb none) fun _ hk => by cases hk
theorem Tk.ext (h : Tk e base G w v ns) (hx : Ext noS G w G' w') : Tk e base G' w' v ns := (h.below hx.below).le hx.le
theorem Tk.turned (h : Tk e base G w v ns) (hx : Ext (inO x) G w G' w') (hf : ∀ k, x = some k → ∀ o u, ¬ G k o u) : Tk e base G' w' v ns := (h.kept (ext_grown hx) hf).le hx.le
theorem Tk.one (h : Tk e base G w v ns) : v.oneCell' = true := h.rd.one
theorem Tk.give {S : Nat → Prop} {G0 : Pin} {w0 : World} (h : Tk e w0.heap.size G w v ns) (hP : Pins G0 w0) (hx : Ext S G0 w0 G w) : ∃ G2, Own eNode e G2 w w0.heap.size v ns ∧ Ext S G0 w0 G2 w ∧ Pin.le G2 G := by
 obtain ⟨Gi, h1, h2⟩ := h.own
 have h2' : Pin.le (fun b o u => Gi b o u ∨ G0 b o u) G := fun b o u hu => hu.elim (h2 b o u) (hx.le b o u)
 refine ⟨fun b o u => Gi b o u ∨ G0 b o u, h1.mono (fun b o u hu => Or.inl hu) (fun k hk o u hu => ?_), ⟨fun b o u hu => Or.inr hu, fun b o u hu => hx.pins b o u (h2' b o u hu), fun b o u hu => hx.fresh b o u (h2' b o u hu), hx.os, hx.tape, hx.output, hx.size, hx.block⟩, h2'⟩
 rcases hu with hu | hu
 ·exact h1.free k hk o u hu
 ·have a := (h1.lt k hk).1
  have b := block_lt (hP k o u hu)
  omega
end
def Fr (e base : Nat) (G : Pin) (w : World) (Q : List Nat) (vs : List Value) : Prop := ∀ v ∈ vs, ∃ g, g ∈ Q ∧ Tk e base G w v (formG g)
section
variable {e base : Nat} {G G' : Pin} {w w' : World} {Q : List Nat} {vs : List Value} {x row : Option Nat}
theorem Fr.nil : Fr e base G w Q [] := fun _ h => (List.not_mem_nil h).elim
theorem Fr.le (h : Fr e base G w Q vs) (hl : Pin.le G G') : Fr e base G' w Q vs := fun v hv => let ⟨g, a, b⟩ := h v hv; ⟨g, a, b.le hl⟩
theorem Fr.below (h : Fr e base G w Q vs) (hb : Below w.heap.size w w') : Fr e base G w' Q vs := fun v hv => let ⟨g, a, b⟩ := h v hv; ⟨g, a, b.below hb⟩
theorem Fr.ext (h : Fr e base G w Q vs) (hx : Ext noS G w G' w') : Fr e base G' w' Q vs := fun v hv => let ⟨g, a, b⟩ := h v hv; ⟨g, a, b.ext hx⟩
theorem Fr.kept (h : Fr e base G w Q vs) (hg : w.grownBy w' row) (hf : ∀ k, row = some k → ∀ o u, ¬ G k o u) : Fr e base G w' Q vs := fun v hv => let ⟨g, a, b⟩ := h v hv; ⟨g, a, b.kept hg hf⟩
theorem Fr.turned (h : Fr e base G w Q vs) (hx : Ext (inO x) G w G' w') (hf : ∀ k, x = some k → ∀ o u, ¬ G k o u) : Fr e base G' w' Q vs := fun v hv => let ⟨g, a, b⟩ := h v hv; ⟨g, a, b.turned hx hf⟩
theorem Fr.mem (h : Fr e base G w Q vs) {us : List Value} (hu : ∀ u ∈ us, u ∈ vs) : Fr e base G w Q us := fun v hv => h v (hu v hv)
theorem Fr.wide (h : Fr e base G w Q vs) {base' : Nat} (hb : base' ≤ base) : Fr e base' G w Q vs := fun v hv => by
 obtain ⟨g, a, b⟩ := h v hv
 obtain ⟨Gi, h1, h2⟩ := b.own
 exact ⟨g, a, ⟨Gi, h1.weaken hb, h2⟩, b.rd, b.lo⟩
theorem Fr.cons (h : Fr e base G w Q vs) {v : Value} {g : Nat} (hv : Tk e base G w v (formG g)) : Fr e base G w (g :: Q) (v :: vs) := fun u hu => by
 rcases List.mem_cons.1 hu with rfl | hu
 ·exact ⟨g, List.mem_cons_self, hv⟩
 ·obtain ⟨k, a, b⟩ := h u hu; exact ⟨k, List.mem_cons_of_mem _ a, b⟩
theorem Fr.one (h : Fr e base G w Q vs) {v : Value} (hv : v ∈ vs) : v.oneCell' = true := let ⟨_, _, b⟩ := h v hv; b.one
theorem Fr.games (h : Fr e base G w Q vs) : ∃ gs : List Nat, gs.length = vs.length ∧ (∀ g ∈ gs, g ∈ Q) ∧ ∀ i, i < vs.length → RSl eNode G (vs.getD i default) ((gs.map formG).getD i []) := by
 induction vs with
 | nil => exact ⟨[], rfl, fun _ h => (List.not_mem_nil h).elim, fun i hi => absurd hi (Nat.not_lt_zero i)⟩
 | cons v vs ih =>
  obtain ⟨gs, h1, h2, h3⟩ := ih fun u hu => h u (List.mem_cons_of_mem _ hu)
  obtain ⟨g, a, b⟩ := h v List.mem_cons_self
  refine ⟨g :: gs, by simp [h1], fun k hk => ?_, fun i hi => ?_⟩
  ·rcases List.mem_cons.1 hk with rfl | hk
   ·exact a
   ·exact h2 k hk
  ·cases i with
   | zero => simpa using b.rd
   | succ i => simpa using h3 i (by simpa using hi)
end
theorem vals_read {G : Pin} {v : Value} {us : List Value} {fs : List (List Nd)} (hr : RSl eVal G v us) (hl : fs.length = us.length) (hk : ∀ i, i < us.length → RSl eNode G (us.getD i default) (fs.getD i [])) : RSl (eSl eNode) G v fs := by
 obtain ⟨a, c, e, q, g⟩ := hr.sl
 refine ⟨⟨a, c, by rw [e, hl], by omega, g⟩, fun i f hi => ?_⟩
 have hi' : i < fs.length := (List.getElem?_eq_some_iff.1 hi).1
 obtain ⟨a, b, o, n, c, cs, h, j, k, l⟩ := hr.at_ i _ (List.getElem?_eq_getElem (show i < us.length by omega))
 refine ⟨a, b, o, n, c, cs, h, j, ?_, l⟩
 have d := hk i (by omega)
 have m : us.getD i default = us[i]'(by omega) := by simp [List.getD, show i < us.length by omega]
 have p : fs.getD i [] = f := by simp [List.getD, hi]
 rw [m, p] at d
 exact ⟨_, k.1, d⟩
theorem wrapU_lt (n : Int) : 0 ≤ IntKind.u64.wrap n ∧ IntKind.u64.wrap n < 18446744073709551616 := by
 unfold IntKind.wrap
 simp only [IntKind.bits, IntKind.signed]
 have h1 := Int.emod_nonneg n (b := (2 : Int) ^ 64) (by decide)
 have h2 := Int.emod_lt_of_pos n (b := (2 : Int) ^ 64) (by decide)
 simp at h1 h2 ⊢
 omega
theorem snoc_mem {α : Type} {l : List α} {x : α} : ∀ v ∈ l ++ [x], v ∈ x :: l := fun v hv => by
 rcases List.mem_append.1 hv with h | h
 ·exact List.mem_cons_of_mem _ h
 ·rw [List.mem_singleton.1 h]; exact List.mem_cons_self
section
variable {P : Program} {ρ : Operand → Value} {w : World} {K : Value → World → Prop} {d : Option Nat} {t ty e : Nat} {pos : String} {aft : Array Edge} {g : Option (Nat × Bool)} {x y : Operand} {G : Pin} {v : Value}
theorem run_setNL {base : Nat} {xs : List Nd} {z : Int} {u : Value} {l : List Int} (hs : (P.info? t).map (·.size) = some 1) (hx : ρ x = eptr v z 2 0) (hy : ρ y = u) (hu : RSl eInt G u l) (hP : Pins G w) (hv : Own eNode e G w base v xs) (h0 : 0 ≤ z) (h1 : z < xs.length) :
  ∃ w', (execOp ρ ⟨d, .store t x y, ty, pos, aft, g⟩).run P w = .ok .skip w' ∧ Own eNode e G w' base v (xs.set z.toNat ⟨l, (xs.getD z.toNat default).r⟩) ∧ Pins G w' ∧ w.grownBy w' v.ownBlock ∧ w'.heap.size = w.heap.size := by
 have hz : z.toNat < xs.length := by omega
 obtain ⟨cells, hown, hr⟩ := hv.ex
 have hel := hr z.toNat _ (List.getElem?_eq_getElem hz)
 have m : xs[z.toNat] = xs.getD z.toNat default := by simp [List.getD, hz]
 rw [m] at hel
 obtain ⟨n, b, hcells, o, h⟩ := hel
 have hone := hu.one
 have aj := h.one
 obtain ⟨gb, w', hb, hp, hrun, i, p, s, a4⟩ := hv.setAt (P := P) h0 h1 (q := ⟨l, (xs.getD z.toNat default).r⟩) (cs := [u, b]) ⟨u, b, rfl, hu, h⟩ hP
 rcases hown.2 with ⟨rfl, o⟩ | ⟨g', cap, cur, rfl, hbg, hg, hnc, hcm, hcs, htake⟩
 ·omega
 ·have hgb : gb = g' := by simpa [Value.ownBlock] using hb.symm
  subst hgb
  have e2 : eNode.size = 2 := rfl
  rw [e2] at hrun hcs htake hcells hp
  have ac : z.toNat * 2 + 2 ≤ cur.size := by omega
  rw [← htake] at hcells
  have hc : ∀ k a, ([n, b] : List Value)[k]? = some a → cur.toList[z.toNat * 2 + k]? = some a := fun k a ha => by
   have hk : k < 2 := by have := (List.getElem?_eq_some_iff.1 ha).1; simpa using this
   have j : ((((cur.toList.take (xs.length * 2)).drop (z.toNat * 2)).take 2)[k]?) = some a := by rw [hcells]; exact ha
   rw [List.getElem?_take, if_pos hk, List.getElem?_drop, List.getElem?_take, if_pos (by omega)] at j
   exact j
  have c1 := hc 1 _ rfl
  have c := run_storeCells_at P gb (z.toNat * 2) e [u, b] 0 cur w hg (by simpa using ac) (by intro a ha; simp at ha; rcases ha with rfl | rfl <;> assumption)
  have f := run_storeCells_at P gb (z.toNat * 2) e [u] 0 cur w hg (by simp; omega) (by intro a ha; simp at ha; subst ha; assumption)
  simp only [Nat.add_zero] at c f
  have hw : w' = w.setRow gb (cur.toList.take (z.toNat * 2) ++ [u] ++ cur.toList.drop (z.toNat * 2 + [u].length)).toArray := by
   rw [hrun] at c
   have ae := (Result.ok.inj c).2
   rw [ae]
   congr 2
   have af : cur.toList.drop (z.toNat * 2 + 1) = b :: cur.toList.drop (z.toNat * 2 + 2) := by
    obtain ⟨h7, h8⟩ := List.getElem?_eq_some_iff.1 c1
    rw [List.drop_eq_getElem_cons h7, h8]
   simp [af]
  have hpt : eptr (.slice (some ⟨gb, 0, none⟩) xs.length cap) z 2 0 = .pointer (some ⟨gb, z.toNat * 2, none⟩) := by
   clear hx hrun c f hw hr hc hp i hv hown
   simp only [eptr, Addr.add]; split <;> simp_all
  rw [hpt] at hx
  refine ⟨w', ?_, i, p, s, a4⟩
  have hlv : (storeVar t ⟨gb, z.toNat * 2, none⟩ u).run P w = .ok () w' := by
   have ai : u.cells = #[u] := xA hone
   unfold storeVar
   simp only [Sem.run_bind, xS hs, Result.andThen_ok, ai]
   simp only [List.size_toArray, List.length_cons, List.length_nil, Nat.zero_add, ne_eq, not_true_eq_false, if_false]
   rw [f, hw]
  simp only [execOp, hx, hy, Instr.storeAt, Instr.sureAddr, Sem.run_bind, Sem.run_pure, Result.andThen_ok, hlv]
theorem o_setNL {base : Nat} {xs : List Nd} {z : Int} {u : Value} {l : List Int} (hs : (P.info? t).map (·.size) = some 1) (hx : ρ x = eptr v z 2 0) (hy : ρ y = u) (hu : RSl eInt G u l) (hP : Pins G w) (hv : Own eNode e G w base v xs) (h0 : 0 ≤ z) (h1 : z < xs.length)
  (h : ∀ w', Own eNode e G w' base v (xs.set z.toNat ⟨l, (xs.getD z.toNat default).r⟩) → Pins G w' → w.grownBy w' v.ownBlock → w'.heap.size = w.heap.size → K undef w') : EO P ρ ⟨d, .store t x y, ty, pos, aft, g⟩ w K := by
 obtain ⟨w', h2, h3, h4, h5, h6⟩ := run_setNL (d := d) (ty := ty) (pos := pos) (aft := aft) (g := g) hs hx hy hu hP hv h0 h1
 exact EO.skip h2 (h w' h3 h4 h5 h6)
end
end Go.GL

namespace Go.GL
open Go Go.RowKit
noncomputable def wmI (p : Int → Bool) (l : List Int) : Nat → List Int
 | 0 => []
 | k + 1 => if p (l.getD k 0) = false then wmI p l k ++ [(k : Int)] else wmI p l k
theorem wmI_yes {p : Int → Bool} {l : List Int} {k : Nat} (h : p (l.getD k 0) = false) : wmI p l (k + 1) = wmI p l k ++ [(k : Int)] := if_pos h
theorem wmI_no {p : Int → Bool} {l : List Int} {k : Nat} (h : p (l.getD k 0) = true) : wmI p l (k + 1) = wmI p l k := if_neg (by rw [h]; exact Bool.noConfusion)
theorem wmI_len {p : Int → Bool} {l : List Int} : ∀ k, (wmI p l k).length ≤ k
 | 0 => Nat.le_refl 0
 | k + 1 => by
  have := wmI_len (p := p) (l := l) k
  unfold wmI
  split
  ·rw [List.length_append, List.length_singleton]; omega
  ·omega
theorem mem_wmI {p : Int → Bool} {l : List Int} {z : Int} : ∀ k, z ∈ wmI p l k ↔ ∃ i : Nat, i < k ∧ z = i ∧ p (l.getD i 0) = false
 | 0 => ⟨fun h => (List.not_mem_nil h).elim, fun ⟨_, h, _⟩ => absurd h (Nat.not_lt_zero _)⟩
 | k + 1 => by
  have ih := mem_wmI (p := p) (l := l) (z := z) k
  unfold wmI
  split
  ·rename_i hb
   rw [List.mem_append, ih]
   constructor
   ·rintro (⟨i, h1, h2⟩ | h)
    ·exact ⟨i, by omega, h2⟩
    ·exact ⟨k, by omega, List.mem_singleton.1 h, hb⟩
   ·rintro ⟨i, h1, h2, h3⟩
    by_cases e : i = k
    ·subst e; exact Or.inr (List.mem_singleton.2 h2)
    ·exact Or.inl ⟨i, by omega, h2, h3⟩
  ·rename_i hb
   rw [ih]
   constructor
   ·rintro ⟨i, h1, h2⟩; exact ⟨i, by omega, h2⟩
   ·rintro ⟨i, h1, h2, h3⟩
    by_cases e : i = k
    ·subst e; exact absurd h3 hb
    ·exact ⟨i, by omega, h2, h3⟩
noncomputable def otB (fs : List Nd) (left : Bool) (z : Int) : Bool := if left = true then winR (den fs z.toNat) else winL (den fs z.toNat)
noncomputable def wmF (fs : List Nd) (left : Bool) : List Int := if goodB fs = true then wmI (otB fs left) (optL left fs) (optL left fs).length else []
theorem wmF_no {fs : List Nd} {left : Bool} (h : goodB fs = false) : wmF fs left = [] := if_neg (by rw [h]; exact Bool.noConfusion)
theorem wmF_yes {fs : List Nd} {left : Bool} (h : goodB fs = true) : wmF fs left = wmI (otB fs left) (optL left fs) (optL left fs).length := if_pos h
theorem wmF_len {fs : List Nd} {left : Bool} : (wmF fs left).length ≤ 24 := by
 by_cases h : goodB fs = true
 ·rw [wmF_yes h]
  exact Nat.le_trans (wmI_len _) (optL_len (goodB_true.1 h))
 ·rw [wmF_no (by simpa using h)]; exact Nat.zero_le _
theorem part_good {ns : List Nd} (hg : GoodP ns) {z : Int} (hz : 0 ≤ z ∧ z < ns.length) : GoodP (partS ns z) := by
 have h := opt_form hg hz
 have hp := part_lens hg (m := z.toNat) (by omega)
 rw [← part_eq hg hz] at hp
 exact sg_good h.1 ⟨⟨h.1.lo, hp.1⟩, fun k hk => hp.2 _ (yT hk)⟩
theorem wm_opt {fs : List Nd} (hg : GoodP fs) {left : Bool} {i : Nat} (hi : i < (optL left fs).length) : wmB ((optsS fs (optL left fs)).getD i []) (!left) = otB fs left ((optL left fs).getD i 0) := by
 have hz := optL_at hg left i hi
 have hp := part_good hg hz
 have he := opt_form hg hz
 rw [opts_at hi]
 have hb := goodB_true.2 hp
 unfold otB
 cases left
 ·rw [show (!false) = true from rfl, wm_l hb, he.2]; rfl
 ·rw [show (!true) = false from rfl, wm_r hb, he.2]; rfl
def inB (l : List Int) (i : Nat) : Bool := l.any fun z => decide (z = (i : Int))
theorem inB_next {l : List Int} {i k : Nat} (h : k < l.length) : inB (l.take (k + 1)) i = (inB (l.take k) i || decide (l.getD k 0 = (i : Int))) := by
 unfold inB; rw [take_snoc l 0 h, List.any_append]; simp
theorem in_law {fs : List Nd} (hg : GoodP fs) {left : Bool} {i : Nat} (hi : i < (optL left fs).length) : inB (wmF fs left) i = !wmB ((optsS fs (optL left fs)).getD i []) (!left) := by
 rw [wm_opt hg hi, wmF_yes (goodB_true.2 hg)]
 have key : inB (wmI (otB fs left) (optL left fs) (optL left fs).length) i = true ↔ otB fs left ((optL left fs).getD i 0) = false := by
  unfold inB
  rw [List.any_eq_true]
  constructor
  ·rintro ⟨z, hz, e⟩
   obtain ⟨j, h1, h2, h3⟩ := (mem_wmI _).1 hz
   have e' : z = (i : Int) := by simpa using e
   have : j = i := by omega
   rw [← this]; exact h3
  ·intro h
   exact ⟨(i : Int), (mem_wmI _).2 ⟨i, hi, rfl, h⟩, by simp⟩
 cases h1 : otB fs left ((optL left fs).getD i 0)
 ·exact key.2 h1
 ·have : ¬ inB (wmI (otB fs left) (optL left fs) (optL left fs).length) i = true := fun h => by rw [key.1 h] at h1; cases h1
  simpa using this
theorem wins_law {fs : List Nd} (hg : GoodP fs) {left : Bool} : wmB fs left = decide ((0 : Int) < ((wmF fs left).length : Int)) := by
 have hb := goodB_true.2 hg
 have hlo := hg.lo
 have hk : fs.length - 1 < fs.length := by omega
 have hoo := (good_form hg).opts
 have key : wmB fs left = true ↔ 0 < (wmF fs left).length := by
  rw [wmF_yes hb]
  have e2 : 0 < (wmI (otB fs left) (optL left fs) (optL left fs).length).length ↔ ∃ z ∈ optL left fs, otB fs left z = false := by
   constructor
   ·intro h
    obtain ⟨i, h1, _, h3⟩ := (mem_wmI _).1 (yT (d := (0 : Int)) h)
    exact ⟨_, yT h1, h3⟩
   ·rintro ⟨z, hz, h3⟩
    obtain ⟨i, hi, rfl⟩ := mem_ix hz
    exact List.length_pos_of_mem ((mem_wmI _).2 ⟨i, hi, rfl, h3⟩)
  rw [e2]
  cases left
  ·rw [wm_r hb, winR_iff]
   constructor
   ·rintro ⟨g, h1, h2⟩
    obtain ⟨z, hz, rfl⟩ := (xX hoo hk).1 h1
    exact ⟨z, hz, h2⟩
   ·rintro ⟨z, hz, h2⟩
    exact ⟨_, (xX hoo hk).2 ⟨z, hz, rfl⟩, h2⟩
  ·rw [wm_l hb, winL_iff]
   constructor
   ·rintro ⟨g, h1, h2⟩
    obtain ⟨z, hz, rfl⟩ := (xY hoo hk).1 h1
    exact ⟨z, hz, h2⟩
   ·rintro ⟨z, hz, h2⟩
    exact ⟨_, (xY hoo hk).2 ⟨z, hz, rfl⟩, h2⟩
 by_cases h : 0 < (wmF fs left).length
 ·rw [key.2 h, decide_eq_true (by omega)]
 ·have : ¬ wmB fs left = true := fun e => h (key.1 e)
  rw [decide_eq_false (by omega)]
  simpa using this
end Go.GL

set_option maxRecDepth 20000
set_option maxHeartbeats 2000000
namespace Go.Proofs.Ytkfgdhanaijddaa
namespace B1
open Go.RowKit Go.GL Go.Proofs
end B1
section
open Go.RowKit Go.GL Go.Proofs
theorem ag22 : (Try.prog.underlying 22).map aggD = some false := by kernel_rfl
theorem ag24 : (Try.prog.underlying 24).map aggD = some false := by kernel_rfl
theorem ag26 : (Try.prog.underlying 26).map aggD = some true := by kernel_rfl
theorem ag29 : (Try.prog.underlying 29).map aggD = some false := by kernel_rfl
theorem ag3 : (Try.prog.underlying 3).map aggD = some false := by kernel_rfl
theorem ag4 : (Try.prog.underlying 4).map aggD = some false := by kernel_rfl
theorem ag5 : (Try.prog.underlying 5).map aggD = some false := by kernel_rfl
theorem ag53 : (Try.prog.underlying 53).map aggD = some true := by kernel_rfl
theorem ag59 : (Try.prog.underlying 59).map aggD = some false := by kernel_rfl
theorem ap26 : (Try.prog.info? 26).map (fun i => (i.size, i.bytes, (i.zero.map (·.cells.size)))) = some (1, 24, some 1) := by kernel_rfl
theorem ap3 : (Try.prog.info? 3).map (fun i => (i.size, i.bytes, (i.zero.map (·.cells.size)))) = some (1, 8, some 1) := by kernel_rfl
theorem ap4 : (Try.prog.info? 4).map (fun i => (i.size, i.bytes, (i.zero.map (·.cells.size)))) = some (1, 1, some 1) := by kernel_rfl
theorem ap53 : (Try.prog.info? 53).map (fun i => (i.size, i.bytes, (i.zero.map (·.cells.size)))) = some (2, 48, some 2) := by kernel_rfl
theorem nm10 : (Try.f10.name == "runtime.NumGoroutine") = false := by kernel_rfl
theorem nm11 : (Try.f11.name == "runtime.NumGoroutine") = false := by kernel_rfl
theorem nm19 : (Try.f19.name == "runtime.NumGoroutine") = false := by kernel_rfl
theorem nm20 : (Try.f20.name == "runtime.NumGoroutine") = false := by kernel_rfl
theorem nm21 : (Try.f21.name == "runtime.NumGoroutine") = false := by kernel_rfl
theorem nm22 : (Try.f22.name == "runtime.NumGoroutine") = false := by kernel_rfl
theorem nm23 : (Try.f23.name == "runtime.NumGoroutine") = false := by kernel_rfl
theorem nm24 : (Try.f24.name == "runtime.NumGoroutine") = false := by kernel_rfl
theorem nm25 : (Try.f25.name == "runtime.NumGoroutine") = false := by kernel_rfl
theorem nm26 : (Try.f26.name == "runtime.NumGoroutine") = false := by kernel_rfl
theorem nm27 : (Try.f27.name == "runtime.NumGoroutine") = false := by kernel_rfl
theorem nm28 : (Try.f28.name == "runtime.NumGoroutine") = false := by kernel_rfl
theorem nm35 : (Try.f35.name == "runtime.NumGoroutine") = false := by kernel_rfl
theorem nm36 : (Try.f36.name == "runtime.NumGoroutine") = false := by kernel_rfl
theorem nm37 : (Try.f37.name == "runtime.NumGoroutine") = false := by kernel_rfl
theorem nm38 : (Try.f38.name == "runtime.NumGoroutine") = false := by kernel_rfl
theorem nm39 : (Try.f39.name == "runtime.NumGoroutine") = false := by kernel_rfl
theorem nm40 : (Try.f40.name == "runtime.NumGoroutine") = false := by kernel_rfl
theorem nm41 : (Try.f41.name == "runtime.NumGoroutine") = false := by kernel_rfl
theorem nm42 : (Try.f42.name == "runtime.NumGoroutine") = false := by kernel_rfl
theorem nm43 : (Try.f43.name == "runtime.NumGoroutine") = false := by kernel_rfl
theorem nm44 : (Try.f44.name == "runtime.NumGoroutine") = false := by kernel_rfl
theorem nm45 : (Try.f45.name == "runtime.NumGoroutine") = false := by kernel_rfl
theorem nm46 : (Try.f46.name == "runtime.NumGoroutine") = false := by kernel_rfl
theorem nm47 : (Try.f47.name == "runtime.NumGoroutine") = false := by kernel_rfl
theorem nm48 : (Try.f48.name == "runtime.NumGoroutine") = false := by kernel_rfl
theorem nm49 : (Try.f49.name == "runtime.NumGoroutine") = false := by kernel_rfl
theorem nm5 : (Try.f5.name == "runtime.NumGoroutine") = false := by kernel_rfl
theorem nm50 : (Try.f50.name == "runtime.NumGoroutine") = false := by kernel_rfl
theorem nm51 : (Try.f51.name == "runtime.NumGoroutine") = false := by kernel_rfl
theorem nm52 : (Try.f52.name == "runtime.NumGoroutine") = false := by kernel_rfl
theorem nm53 : (Try.f53.name == "runtime.NumGoroutine") = false := by kernel_rfl
theorem nm58 : (Try.f58.name == "runtime.NumGoroutine") = false := by kernel_rfl
theorem nm59 : (Try.f59.name == "runtime.NumGoroutine") = false := by kernel_rfl
theorem nm6 : (Try.f6.name == "runtime.NumGoroutine") = false := by kernel_rfl
theorem nm60 : (Try.f60.name == "runtime.NumGoroutine") = false := by kernel_rfl
theorem nm61 : (Try.f61.name == "runtime.NumGoroutine") = false := by kernel_rfl
theorem nm62 : (Try.f62.name == "runtime.NumGoroutine") = false := by kernel_rfl
theorem nm63 : (Try.f63.name == "runtime.NumGoroutine") = false := by kernel_rfl
theorem nm64 : (Try.f64.name == "runtime.NumGoroutine") = false := by kernel_rfl
theorem nm65 : (Try.f65.name == "runtime.NumGoroutine") = false := by kernel_rfl
theorem nm66 : (Try.f66.name == "runtime.NumGoroutine") = false := by kernel_rfl
theorem nm67 : (Try.f67.name == "runtime.NumGoroutine") = false := by kernel_rfl
theorem nm68 : (Try.f68.name == "runtime.NumGoroutine") = false := by kernel_rfl
theorem nm7 : (Try.f7.name == "runtime.NumGoroutine") = false := by kernel_rfl
theorem nm70 : (Try.f70.name == "runtime.NumGoroutine") = false := by kernel_rfl
theorem nm71 : (Try.f71.name == "runtime.NumGoroutine") = false := by kernel_rfl
theorem nm72 : (Try.f72.name == "runtime.NumGoroutine") = false := by kernel_rfl
theorem nm8 : (Try.f8.name == "runtime.NumGoroutine") = false := by kernel_rfl
theorem nm9 : (Try.f9.name == "runtime.NumGoroutine") = false := by kernel_rfl
theorem nz22 : (Try.prog.info? 22).map (·.size == 0) = some false := by kernel_rfl
theorem nz24 : (Try.prog.info? 24).map (·.size == 0) = some false := by kernel_rfl
theorem nz29 : (Try.prog.info? 29).map (·.size == 0) = some false := by kernel_rfl
theorem nz3 : (Try.prog.info? 3).map (·.size == 0) = some false := by kernel_rfl
theorem nz59 : (Try.prog.info? 59).map (·.size == 0) = some false := by kernel_rfl
theorem sz24 : (Try.prog.info? 24).map (·.size) = some 1 := by kernel_rfl
theorem sz26 : (Try.prog.info? 26).map (·.size) = some 1 := by kernel_rfl
theorem sz29 : (Try.prog.info? 29).map (·.size) = some 1 := by kernel_rfl
theorem sz3 : (Try.prog.info? 3).map (·.size) = some 1 := by kernel_rfl
theorem sz4 : (Try.prog.info? 4).map (·.size) = some 1 := by kernel_rfl
theorem sz5 : (Try.prog.info? 5).map (·.size) = some 1 := by kernel_rfl
theorem sz53 : (Try.prog.info? 53).map (·.size) = some 2 := by kernel_rfl
theorem sz59 : (Try.prog.info? 59).map (·.size) = some 1 := by kernel_rfl
theorem zr26 : (Try.prog.info? 26).bind (·.zero) = some (.agg #[(.slice none 0 0)]) := by kernel_rfl
theorem zr3 : (Try.prog.info? 3).bind (·.zero) = some (.int .i64 0) := by kernel_rfl
theorem zr4 : (Try.prog.info? 4).bind (·.zero) = some (.bool false) := by kernel_rfl
theorem zr53 : (Try.prog.info? 53).bind (·.zero) = some (.agg #[(.slice none 0 0), (.slice none 0 0)]) := by kernel_rfl
theorem zr61 : (Try.prog.info? 61).bind (·.zero) = some (.agg #[(.slice none 0 0), (.int .i64 0), (.int .u64 0)]) := by kernel_rfl
theorem zr83 : (Try.prog.info? 83).bind (·.zero) = some (.agg #[(.slice none 0 0), (.slice none 0 0)]) := by kernel_rfl
end
namespace B1
open Go.RowKit Go.GL Go.Proofs




theorem mk3 : (Try.prog.info? 3).map (fun i => (i.size, i.bytes, i.zero)) = some (1, 8, some (.int .i64 0)) := by kernel_rfl
theorem mk4 : (Try.prog.info? 4).map (fun i => (i.size, i.bytes, i.zero)) = some (1, 1, some (.bool false)) := by kernel_rfl
















theorem goodOptions_spec {w : World} {G : Pin} {v : Value} {xs : List Int} {b : Int} (hP : Pins G w) (hv : RSl eInt G v xs) :
  Calls Try.prog 35 [v, (vJ b)].toArray w fun e w' => e = .returned (.bool (goodOpts xs b)) ∧ w' = w := by
 refine yA (n := 27) Try.func35 Try.ntmps35 rfl rfl ?_
 have h : Ext noS G w G w := Ext.refl hP
 have hm := hv.max
 refine zB (zC ?_)
 refine qM (.bool false) ?_
 refine qe (zA (zB (zB (zC ?_))))
 refine qM v ?_
 refine qD rfl (zK Try.underlying29 (v := v) rfl hv) ?_
 refine qD rfl (r_gtr rfl rfl) ?_
 refine qe (zA ?_)
 refine zZ (p := (24 : Int) < (xs.length : Int)) rfl rfl (fun a => ?_) (fun a => ?_)
 ·skip
  refine zB (zC ?_)
  refine qM (.bool false) ?_
  refine qe (zA ?_)
  refine wp_ret ?_
  refine zS ?_
  refine zR (v := (.bool false)) rfl rfl rfl ?_
  exact ⟨congrArg (fun z => Ending.returned (Value.bool z)) (by unfold goodOpts; rw [if_pos a]), rfl⟩
 refine wp_skip ?_
 refine zA (zB (zC ?_))
 refine qM (vJ (-1)) ?_
 refine qe (zA (zB (zB (zC ?_))))
 refine qM v ?_
 refine qD rfl (zK Try.underlying29 (v := v) rfl hv) ?_
 refine qM (vJ 0) ?_
 refine qe (zA ?_)
 refine zU ?_
 refine yH (fun (k : Nat) (en : Nat → Value) (W : World) => ∃ (f : Nat → Value) (j : Nat) (last : Int), en = (upd (upd (upd (upd (upd f 1 (vJ b)) 5 (vJ last)) 11 v) 12 (vJ (xs.length : Int))) 13 (vJ (j : Int))) ∧ k = xs.length - j ∧ Ext noS G w G W ∧ (j ≤ xs.length) ∧ (W = w) ∧ (goodOpts xs b = goodFrom last b (xs.drop j))) _ ⟨_, 0, (-1), (pS 13 (pS 12 (pS 11 (pS 5 (pU 1))))), rfl, h, Nat.zero_le _, rfl, (by unfold goodOpts; rw [if_neg a]; rfl)⟩ ?_
 rintro l _ m ⟨f, j, last, rfl, o, g, hj, hw, hr⟩
 subst hw
 refine zB (zC ?_)
 refine qD rfl (yK rfl rfl) ?_
 refine qe (zA (zB ?_))
 refine zZ (p := ((j : Int) : Int) < (xs.length : Int)) rfl rfl (fun i => ?_) (fun i => ?_)
 ·skip
  refine wp_skip ?_
  refine zA (zB ?_)
  refine zU ?_
  refine zB (zC ?_)
  refine qD rfl (zG Try.underlying29 sz3 (v := v) rfl rfl hv (by omega) (by omega)) ?_
  refine qD rfl (zJ (r := xs.getD j 0) rfl ag3 (z := (j : Int)) rfl hv g.pins (by omega) (by omega)) ?_
  refine qM (vJ (xs.getD j 0)) ?_
  refine qe (zA (zB (zB (zC ?_))))
  refine qM (vJ (xs.getD j 0)) ?_
  refine qM (vJ last) ?_
  refine qD rfl (r_leq rfl rfl) ?_
  refine qM (.bool (decide ((xs.getD j 0 : Int) ≤ last))) ?_
  refine qbd (p := (xs.getD j 0 : Int) ≤ last) (t := 20) rfl (fun c => ?_) (fun c => ?_)
  ·skip
   refine qW ?_
   refine qW ?_
   refine qW ?_
   refine qD rfl (xF (v := (.bool true)) rfl rfl) ?_
   refine qe (zA ?_)
   refine c_ifT rfl rfl ?_
   refine zB (zC ?_)
   refine qM (.bool false) ?_
   refine qe (zA ?_)
   refine wp_ret ?_
   refine zS ?_
   refine zR (v := (.bool false)) rfl rfl rfl ?_
   exact ⟨congrArg (fun z => Ending.returned (Value.bool z)) ((hr.trans (goodFrom_bad (by omega) (Or.inl c))).symm), rfl⟩
  refine qN (zT (v := (vJ (xs.getD j 0))) rfl) ?_
  refine qN (zT (v := (vJ b)) rfl) ?_
  refine qN (r_geq rfl rfl) ?_
  refine qD rfl (yZ (v := (.bool (decide ((b : Int) ≤ (xs.getD j 0))))) rfl rfl) ?_
  refine qe (zA ?_)
  refine zZ (p := (b : Int) ≤ (xs.getD j 0)) rfl rfl (fun d => ?_) (fun d => ?_)
  ·skip
   refine zB (zC ?_)
   refine qM (.bool false) ?_
   refine qe (zA ?_)
   refine wp_ret ?_
   refine zS ?_
   refine zR (v := (.bool false)) rfl rfl rfl ?_
   exact ⟨congrArg (fun z => Ending.returned (Value.bool z)) ((hr.trans (goodFrom_bad (by omega) (Or.inr d))).symm), rfl⟩
  refine wp_skip ?_
  refine zA (zC ?_)
  refine qM (vJ (xs.getD j 0)) ?_
  refine qM (vJ (xs.getD j 0)) ?_
  refine qe ?_
  refine zW ?_
  refine zA (zC ?_)
  refine qD rfl (yE rfl rfl (by omega)) ?_
  refine qM (vJ ((j : Int) + 1)) ?_
  refine qe ?_
  refine zY ?_
  refine ⟨_, ?_, _, rfl, _, j + 1, xs.getD j 0, (pS 13 (pS 12 (pS 11 (pS 5 (pU 1))))), rfl, g, (by omega), rfl, (hr.trans (goodFrom_next (by omega) c d))⟩
  omega
 refine wp_exit ?_
 refine zV ?_
 refine yD ?_
 refine yB ?_
 refine zA (zB (zC ?_))
 refine qM (.bool true) ?_
 refine qe (zA ?_)
 refine wp_ret ?_
 refine zS ?_
 refine zR (v := (.bool true)) rfl rfl rfl ?_
 exact ⟨congrArg (fun z => Ending.returned (Value.bool z)) ((hr.trans (goodFrom_end (by omega))).symm), rfl⟩

theorem isNaN_spec {w : World} {G : Pin} {x : Int} (hP : Pins G w) :
  Calls Try.prog 58 [(.int .i64 x)].toArray w fun e w' => e = .returned (.bool false) ∧ w' = w := by
 refine yA (n := 6) Try.func58 Try.ntmps58 rfl rfl ?_
 have hX0 : Ext noS G w G w := Ext.refl hP
 refine zB (zC ?_)
 refine qM (.bool false) ?_
 refine qe (zA (zB (zC ?_)))
 refine qM (.int .i64 x) ?_
 refine qM (.int .i64 x) ?_
 refine qD rfl (r_neq rfl rfl) ?_
 refine qM (.bool (decide ((x : Int) ≠ x))) ?_
 refine qe (zA ?_)
 refine wp_ret ?_
 refine zS ?_
 refine zR (v := (.bool (decide ((x : Int) ≠ x)))) rfl rfl rfl ?_
 exact ⟨congrArg (fun z => Ending.returned (Value.bool z)) (decide_eq_false (fun h => h rfl)), rfl⟩

theorem cmpCompare_spec {w : World} {G : Pin} {x y : Int} (hP : Pins G w) :
  Calls Try.prog 38 [(.int .i64 x), (.int .i64 y)].toArray w fun e w' => e = .returned (.int .i64 (cmpI x y)) ∧ w' = w := by
 refine yA (n := 20) Try.func38 Try.ntmps38 rfl rfl ?_
 have hX0 : Ext noS G w G w := Ext.refl hP
 refine zB (zC ?_)
 refine qM (.int .i64 0) ?_
 refine qe (zA (zB (zC ?_)))
 refine qM (.int .i64 x) ?_
 refine qI rfl (zM (vs := [(.int .i64 x)]) Try.func58 nm58 rfl rfl rfl ?_)
 refine Calls.mono (isNaN_spec hX0.pins) ?_
 rintro _ _ ⟨rfl, rfl⟩
 refine ⟨_, rfl, ?_⟩
 refine qM (.bool false) ?_
 refine qe (zA (zB (zC ?_)))
 refine qM (.int .i64 y) ?_
 refine qI rfl (zM (vs := [(.int .i64 y)]) Try.func58 nm58 rfl rfl rfl ?_)
 refine Calls.mono (isNaN_spec hX0.pins) ?_
 rintro _ _ ⟨rfl, rfl⟩
 refine ⟨_, rfl, ?_⟩
 refine qM (.bool false) ?_
 refine qe (zA (zB (zB (zC ?_))))
 refine qM (.bool false) ?_
 refine qe (zA ?_)
 refine c_ifF rfl rfl ?_
 refine wp_skip ?_
 refine zA (zB (zB (zC ?_)))
 refine qM (.bool false) ?_
 refine qe (zA ?_)
 refine c_ifF rfl rfl ?_
 refine wp_skip ?_
 refine zA (zB (zB (zC ?_)))
 refine qM (.int .i64 x) ?_
 refine qM (.int .i64 y) ?_
 refine qD rfl (yK rfl rfl) ?_
 refine qe (zA ?_)
 refine zZ (p := (x : Int) < y) rfl rfl (fun h1 => ?_) (fun h1 => ?_)
 ·skip
  refine zB (zC ?_)
  refine qM (.int .i64 (-1)) ?_
  refine qe (zA ?_)
  refine wp_ret ?_
  refine zS ?_
  refine zR (v := (.int .i64 (-1))) rfl rfl rfl ?_
  exact ⟨congrArg (fun z => Ending.returned (Value.int .i64 z)) (by unfold cmpI; (first | rw [if_pos (by omega)] | (rw [if_neg (by omega)]; first | rw [if_pos (by omega)] | rw [if_neg (by omega)]))), rfl⟩
 refine wp_skip ?_
 refine zA (zB (zB (zC ?_)))
 refine qM (.int .i64 x) ?_
 refine qM (.int .i64 y) ?_
 refine qD rfl (r_gtr rfl rfl) ?_
 refine qe (zA ?_)
 refine zZ (p := (y : Int) < x) rfl rfl (fun h2 => ?_) (fun h2 => ?_)
 ·skip
  refine zB (zC ?_)
  refine qM (.int .i64 1) ?_
  refine qe (zA ?_)
  refine wp_ret ?_
  refine zS ?_
  refine zR (v := (.int .i64 1)) rfl rfl rfl ?_
  exact ⟨congrArg (fun z => Ending.returned (Value.int .i64 z)) (by unfold cmpI; (first | rw [if_pos (by omega)] | (rw [if_neg (by omega)]; first | rw [if_pos (by omega)] | rw [if_neg (by omega)]))), rfl⟩
 refine wp_skip ?_
 refine zA (zB (zC ?_))
 refine qM (.int .i64 0) ?_
 refine qe (zA ?_)
 refine wp_ret ?_
 refine zS ?_
 refine zR (v := (.int .i64 0)) rfl rfl rfl ?_
 exact ⟨congrArg (fun z => Ending.returned (Value.int .i64 z)) (by unfold cmpI; (first | rw [if_pos (by omega)] | (rw [if_neg (by omega)]; first | rw [if_pos (by omega)] | rw [if_neg (by omega)]))), rfl⟩

theorem cmpOr_spec {w : World} {G : Pin} {v : Value} {xs : List Int} (hP : Pins G w) (hv : RSl eInt G v xs) :
  Calls Try.prog 37 [v].toArray w fun e w' => e = .returned (.int .i64 (orL xs)) ∧ w' = w := by
 refine yA (n := 18) Try.func37 Try.ntmps37 rfl rfl ?_
 have d : Ext noS G w G w := Ext.refl hP
 have hm := hv.max
 refine zB (zC ?_)
 refine qM (.int .i64 0) ?_
 refine qe (zA (zB (zC ?_)))
 refine qM (.int .i64 0) ?_
 refine qe (zA (zB (zB (zC ?_))))
 refine qM v ?_
 refine qD rfl (zK Try.underlying29 (v := v) rfl hv) ?_
 refine qM (.int .i64 0) ?_
 refine qe (zA ?_)
 refine zU ?_
 refine yH (fun (k : Nat) (en : Nat → Value) (W : World) => ∃ (b : Nat → Value) (j : Nat), en = (upd (upd (upd (upd b 3 (.int .i64 0)) 6 v) 7 (.int .i64 (xs.length : Int))) 8 (.int .i64 (j : Int))) ∧ k = xs.length - j ∧ Ext noS G w G W ∧ (j ≤ xs.length) ∧ (W = w) ∧ (orL xs = orL (xs.drop j))) _ ⟨_, 0, (pS 8 (pS 7 (pS 6 (pU 3)))), rfl, d, Nat.zero_le _, rfl, rfl⟩ ?_
 rintro g _ h ⟨b, j, rfl, i, c, hj, hw, hr⟩
 subst hw
 refine zB (zC ?_)
 refine qD rfl (yK rfl rfl) ?_
 refine qe (zA (zB ?_))
 refine zZ (p := ((j : Int) : Int) < (xs.length : Int)) rfl rfl (fun f => ?_) (fun f => ?_)
 ·skip
  refine wp_skip ?_
  refine zA (zB ?_)
  refine zU ?_
  refine zB (zC ?_)
  refine qD rfl (zG Try.underlying29 sz3 (v := v) rfl rfl hv (by omega) (by omega)) ?_
  refine qD rfl (zJ (r := xs.getD j 0) rfl ag3 (z := (j : Int)) rfl hv c.pins (by omega) (by omega)) ?_
  refine qM (.int .i64 (xs.getD j 0)) ?_
  refine qe (zA (zB (zC ?_)))
  refine qM (.int .i64 (xs.getD j 0)) ?_
  refine qM (.int .i64 0) ?_
  refine qD rfl (r_neq rfl rfl) ?_
  refine qe (zA ?_)
  refine zZ (p := (xs.getD j 0 : Int) ≠ 0) rfl rfl (fun a => ?_) (fun a => ?_)
  ·skip
   refine zB (zC ?_)
   refine qM (.int .i64 (xs.getD j 0)) ?_
   refine qM (.int .i64 (xs.getD j 0)) ?_
   refine qe (zA ?_)
   refine wp_ret ?_
   refine zS ?_
   refine zR (v := (.int .i64 (xs.getD j 0))) rfl rfl rfl ?_
   exact ⟨congrArg (fun z => Ending.returned (Value.int .i64 z)) ((hr.trans (orL_hit (by omega) a)).symm), rfl⟩
  refine wp_skip ?_
  refine zW ?_
  refine zA (zC ?_)
  refine qD rfl (yE rfl rfl (by omega)) ?_
  refine qM (.int .i64 ((j : Int) + 1)) ?_
  refine qe ?_
  refine zY ?_
  refine ⟨_, ?_, _, rfl, _, j + 1, (pS 8 (pS 7 (pS 6 (pU 3)))), rfl, c, (by omega), rfl, (hr.trans (orL_next (by omega) a))⟩
  omega
 refine wp_exit ?_
 refine zV ?_
 refine yD ?_
 refine yB ?_
 refine zA (zB (zC ?_))
 refine qM (.int .i64 0) ?_
 refine qM (.int .i64 0) ?_
 refine qe (zA ?_)
 refine wp_ret ?_
 refine zS ?_
 refine zR (v := (.int .i64 0)) rfl rfl rfl ?_
 exact ⟨congrArg (fun z => Ending.returned (Value.int .i64 z)) ((hr.trans (orL_end (by omega))).symm), rfl⟩

theorem slCompare_spec {w : World} {G : Pin} {u v : Value} {xs ys : List Int} (hP : Pins G w) (hu : RSl eInt G u xs) (hv : RSl eInt G v ys) :
  Calls Try.prog 39 [u, v].toArray w fun e w' => e = .returned (vJ (cmpL xs ys)) ∧ w' = w := by
 refine yA (n := 36) Try.func39 Try.ntmps39 rfl rfl ?_
 have d : Ext noS G w G w := Ext.refl hP
 have hm := hu.max
 refine zB (zC ?_)
 refine qM (vJ 0) ?_
 refine qe (zA (zB (zB (zC ?_))))
 refine qM u ?_
 refine qD rfl (zK Try.underlying29 (v := u) rfl hu) ?_
 refine qM (vJ 0) ?_
 refine qe (zA ?_)
 refine zU ?_
 refine yH (fun (k : Nat) (en : Nat → Value) (W : World) => ∃ (c : Nat → Value) (j : Nat), en = (upd (upd (upd (upd (upd c 0 u) 1 v) 9 u) 10 (vJ (xs.length : Int))) 11 (vJ (j : Int))) ∧ k = xs.length - j ∧ Ext noS G w G W ∧ (j ≤ xs.length ∧ j ≤ ys.length) ∧ (W = w) ∧ (cmpL xs ys = cmpL (xs.drop j) (ys.drop j))) _ ⟨_, 0, (pS 11 (pS 10 (pS 9 (pS 1 (pU 0))))), rfl, d, ⟨Nat.zero_le _, Nat.zero_le _⟩, rfl, rfl⟩ ?_
 rintro i _ l ⟨c, j, rfl, m, a, hj, hw, hr⟩
 subst hw
 refine zB (zC ?_)
 refine qD rfl (yK rfl rfl) ?_
 refine qe (zA (zB ?_))
 refine zZ (p := ((j : Int) : Int) < (xs.length : Int)) rfl rfl (fun f => ?_) (fun f => ?_)
 ·skip
  refine wp_skip ?_
  refine zA (zB ?_)
  refine zU ?_
  refine zB (zC ?_)
  refine qM (vJ (j : Int)) ?_
  refine qD rfl (zG Try.underlying29 sz3 (v := u) rfl rfl hu (by omega) (by omega)) ?_
  refine qD rfl (zJ (r := xs.getD j 0) rfl ag3 (z := (j : Int)) rfl hu a.pins (by omega) (by omega)) ?_
  refine qM (vJ (j : Int)) ?_
  refine qM (vJ (xs.getD j 0)) ?_
  refine qe (zA (zB (zB (zC ?_))))
  refine qM (vJ (j : Int)) ?_
  refine qM v ?_
  refine qD rfl (zK Try.underlying29 (v := v) rfl hv) ?_
  refine qD rfl (r_geq rfl rfl) ?_
  refine qe (zA ?_)
  refine zZ (p := ((ys.length : Int) : Int) ≤ (j : Int)) rfl rfl (fun g => ?_) (fun g => ?_)
  ·skip
   refine zB (zC ?_)
   refine qM (vJ 1) ?_
   refine qe (zA ?_)
   refine wp_ret ?_
   refine zS ?_
   refine zR (v := (vJ 1)) rfl rfl rfl ?_
   exact ⟨congrArg (fun z => Ending.returned (Value.int .i64 z)) ((hr.trans (cmpL_more (by omega) (by omega))).symm), rfl⟩
  refine wp_skip ?_
  refine zA (zB (zC ?_))
  refine qM v ?_
  refine qM (vJ (j : Int)) ?_
  refine qD rfl (zG Try.underlying29 sz3 (v := v) rfl rfl hv (by omega) (by omega)) ?_
  refine qD rfl (zJ (r := ys.getD j 0) rfl ag3 (z := (j : Int)) rfl hv a.pins (by omega) (by omega)) ?_
  refine qM (vJ (ys.getD j 0)) ?_
  refine qe (zA (zB (zC ?_)))
  refine qM (vJ (xs.getD j 0)) ?_
  refine qM (vJ (ys.getD j 0)) ?_
  refine qI rfl (zM (vs := [(vJ (xs.getD j 0)), (vJ (ys.getD j 0))]) Try.func38 nm38 rfl rfl rfl ?_)
  refine Calls.mono (cmpCompare_spec a.pins) ?_
  rintro _ _ ⟨rfl, rfl⟩
  refine ⟨_, rfl, ?_⟩
  refine qM (vJ (cmpI (xs.getD j 0) (ys.getD j 0))) ?_
  refine qe (zA (zB (zC ?_)))
  refine qM (vJ (cmpI (xs.getD j 0) (ys.getD j 0))) ?_
  refine qD rfl (r_neq rfl rfl) ?_
  refine qe (zA ?_)
  refine zZ (p := (cmpI (xs.getD j 0) (ys.getD j 0) : Int) ≠ 0) rfl rfl (fun b => ?_) (fun b => ?_)
  ·skip
   refine zB (zC ?_)
   refine qM (vJ (cmpI (xs.getD j 0) (ys.getD j 0))) ?_
   refine qM (vJ (cmpI (xs.getD j 0) (ys.getD j 0))) ?_
   refine qe (zA ?_)
   refine wp_ret ?_
   refine zS ?_
   refine zR (v := (vJ (cmpI (xs.getD j 0) (ys.getD j 0)))) rfl rfl rfl ?_
   exact ⟨congrArg (fun z => Ending.returned (Value.int .i64 z)) ((hr.trans (cmpL_ne (by omega) (by omega) b)).symm), rfl⟩
  refine wp_skip ?_
  refine zW ?_
  refine zA (zC ?_)
  refine qD rfl (yE rfl rfl (by omega)) ?_
  refine qM (vJ ((j : Int) + 1)) ?_
  refine qe ?_
  refine zY ?_
  refine ⟨_, ?_, _, rfl, _, j + 1, (pS 11 (pS 10 (pS 9 (pS 1 (pU 0))))), rfl, a, (by omega), rfl, (hr.trans (cmpL_eq (by omega) (by omega) b))⟩
  omega
 refine wp_exit ?_
 refine zV ?_
 refine yD ?_
 refine yB ?_
 refine zA (zB (zB (zC ?_)))
 refine qM u ?_
 refine qD rfl (zK Try.underlying29 (v := u) rfl hu) ?_
 refine qM v ?_
 refine qD rfl (zK Try.underlying29 (v := v) rfl hv) ?_
 refine qD rfl (yK rfl rfl) ?_
 refine qe (zA ?_)
 refine zZ (p := ((xs.length : Int) : Int) < (ys.length : Int)) rfl rfl (fun h => ?_) (fun h => ?_)
 ·skip
  refine zB (zC ?_)
  refine qM (vJ (-1)) ?_
  refine qe (zA ?_)
  refine wp_ret ?_
  refine zS ?_
  refine zR (v := (vJ (-1))) rfl rfl rfl ?_
  exact ⟨congrArg (fun z => Ending.returned (Value.int .i64 z)) ((hr.trans (cmpL_less (by omega) (by omega))).symm), rfl⟩
 refine wp_skip ?_
 refine zA (zB (zC ?_))
 refine qM (vJ 0) ?_
 refine qe (zA ?_)
 refine wp_ret ?_
 refine zS ?_
 refine zR (v := (vJ 0)) rfl rfl rfl ?_
 exact ⟨congrArg (fun z => Ending.returned (Value.int .i64 z)) ((hr.trans (cmpL_same (by omega) (by omega))).symm), rfl⟩

theorem slIndexB_spec {w : World} {G : Pin} {v : Value} {xs : List Bool} {p : Bool} (hP : Pins G w) (hv : RSl eBool G v xs) :
  Calls Try.prog 59 [v, (.bool p)].toArray w fun e w' => e = .returned (.int .i64 (idxB xs p)) ∧ w' = w := by
 refine yA (n := 19) Try.func59 Try.ntmps59 rfl rfl ?_
 have d : Ext noS G w G w := Ext.refl hP
 have hm := hv.max
 refine zB (zC ?_)
 refine qM (.int .i64 0) ?_
 refine qe (zA (zB (zB (zC ?_))))
 refine qM v ?_
 refine qD rfl (zK Try.underlying49 (v := v) rfl hv) ?_
 refine qM (.int .i64 0) ?_
 refine qe (zA ?_)
 refine zU ?_
 refine yH (fun (k : Nat) (en : Nat → Value) (W : World) => ∃ (b : Nat → Value) (j : Nat), en = (upd (upd (upd (upd b 0 v) 1 (.bool p)) 7 (.int .i64 (xs.length : Int))) 8 (.int .i64 (j : Int))) ∧ k = xs.length - j ∧ Ext noS G w G W ∧ (j ≤ xs.length) ∧ (W = w) ∧ (idxB xs p = idxFrom p j (xs.drop j))) _ ⟨_, 0, (pS 8 (pS 7 (pS 1 (pU 0)))), rfl, d, Nat.zero_le _, rfl, rfl⟩ ?_
 rintro g _ h ⟨b, j, rfl, i, c, hj, hw, hr⟩
 subst hw
 refine zB (zC ?_)
 refine qD rfl (yK rfl rfl) ?_
 refine qe (zA (zB ?_))
 refine zZ (p := ((j : Int) : Int) < (xs.length : Int)) rfl rfl (fun f => ?_) (fun f => ?_)
 ·skip
  refine wp_skip ?_
  refine zA (zB ?_)
  refine zU ?_
  refine zB (zC ?_)
  refine qM (.int .i64 (j : Int)) ?_
  refine qM (.int .i64 (j : Int)) ?_
  refine qe (zA (zB (zC ?_)))
  refine qM (.bool p) ?_
  refine qM v ?_
  refine qM (.int .i64 (j : Int)) ?_
  refine qD rfl (zG Try.underlying49 sz4 (v := v) rfl rfl hv (by omega) (by omega)) ?_
  refine qD rfl (yL (r := xs.getD j false) rfl ag4 (z := (j : Int)) rfl hv c.pins (by omega) (by omega)) ?_
  refine qD rfl (r_eqlB Try.underlying4 rfl rfl) ?_
  refine qe (zA ?_)
  refine c_if rfl rfl (fun a => ?_) (fun a => ?_)
  ·skip
   refine zB (zC ?_)
   refine qM (.int .i64 (j : Int)) ?_
   refine qM (.int .i64 (j : Int)) ?_
   refine qe (zA ?_)
   refine wp_ret ?_
   refine zS ?_
   refine zR (v := (.int .i64 (j : Int))) rfl rfl rfl ?_
   exact ⟨congrArg (fun z => Ending.returned (Value.int .i64 z)) ((hr.trans (idx_hit (by omega) a)).symm), rfl⟩
  refine wp_skip ?_
  refine zW ?_
  refine zA (zC ?_)
  refine qD rfl (yE rfl rfl (by omega)) ?_
  refine qM (.int .i64 ((j : Int) + 1)) ?_
  refine qe ?_
  refine zY ?_
  refine ⟨_, ?_, _, rfl, _, j + 1, (pS 8 (pS 7 (pS 1 (pU 0)))), rfl, c, (by omega), rfl, (hr.trans (idx_next (by omega) a))⟩
  omega
 refine wp_exit ?_
 refine zV ?_
 refine yD ?_
 refine yB ?_
 refine zA (zB (zC ?_))
 refine qM (.int .i64 (-1)) ?_
 refine qe (zA ?_)
 refine wp_ret ?_
 refine zS ?_
 refine zR (v := (.int .i64 (-1))) rfl rfl rfl ?_
 exact ⟨congrArg (fun z => Ending.returned (Value.int .i64 z)) ((hr.trans (idx_end (by omega))).symm), rfl⟩

theorem slContains_spec {w : World} {G : Pin} {v : Value} {xs : List Bool} {p : Bool} (hP : Pins G w) (hv : RSl eBool G v xs) :
  Calls Try.prog 40 [v, (.bool p)].toArray w fun e w' => e = .returned (.bool (decide ((0 : Int) ≤ idxB xs p))) ∧ w' = w := by
 refine yA (n := 9) Try.func40 Try.ntmps40 rfl rfl ?_
 have hX0 : Ext noS G w G w := Ext.refl hP
 refine zB (zC ?_)
 refine qM (.bool false) ?_
 refine qe (zA (zB (zC ?_)))
 refine qM v ?_
 refine qM (.bool p) ?_
 refine qI rfl (zM (vs := [v, (.bool p)]) Try.func59 nm59 rfl rfl rfl ?_)
 refine Calls.mono (slIndexB_spec hX0.pins hv) ?_
 rintro _ _ ⟨rfl, rfl⟩
 refine ⟨_, rfl, ?_⟩
 refine qD rfl (r_geq rfl rfl) ?_
 refine qM (.bool (decide ((0 : Int) ≤ (idxB xs p)))) ?_
 refine qe (zA ?_)
 refine wp_ret ?_
 refine zS ?_
 refine zR (v := (.bool (decide ((0 : Int) ≤ (idxB xs p))))) rfl rfl rfl ?_
 exact ⟨rfl, rfl⟩

theorem births_spec {w : World} {G : Pin} {v : Value} {ns : List Nd} (hP : Pins G w) (hv : RSl eNode G v ns) (ho : OptsOk ns) (hs : ns.length ≤ 1048576) :
  Calls Try.prog 36 [v].toArray w fun e w' => ∃ (u : Value) (G' : Pin), e = .returned u ∧ Own eInt 3 G' w' w.heap.size u (births ns) ∧ Ext noS G w G' w' := by
 refine yA (n := 64) Try.func36 Try.ntmps36 rfl rfl ?_
 have ao : Ext noS G w G w := Ext.refl hP
 refine zB (zC ?_)
 refine qM (.slice none 0 0) ?_
 refine qe (zA (zB (zC ?_)))
 refine qM v ?_
 refine qD rfl (zK Try.underlying24 (v := v) rfl hv) ?_
 refine qI rfl (o_make (E := eInt) 0 8 (vJ 0) Try.underlying29 mk3 (fun _ => rfl) rfl rfl ao.pins (by omega) (by omega) (by omega) (fun a w2 bb bc bd b9 => ?_))
 have be := ao.step bc bd
 have bf : Own eInt 3 G w2 w.heap.size a (List.replicate ns.length 0) := bb.weaken ao.size
 have ca : (List.replicate ns.length 0).length = ns.length := List.length_replicate ..
 refine qM a ?_
 refine qe (zA (zB (zB (zC ?_))))
 refine qM v ?_
 refine qD rfl (zK Try.underlying24 (v := v) rfl hv) ?_
 refine qM (vJ 0) ?_
 refine qe (zA ?_)
 refine zU ?_
 refine yH (fun (k : Nat) (en : Nat → Value) (W : World) => ∃ (o : Nat → Value) (j : Nat) (b : List Int) (af : Pin), en = (upd (upd (upd (upd (upd o 2 (.slice none 0 0)) 3 a) 13 v) 14 (vJ (ns.length : Int))) 15 (vJ (j : Int))) ∧ k = ns.length - j ∧ Ext noS G w af W ∧ Pin.le G af ∧ (j ≤ ns.length) ∧ (b.length = ns.length) ∧ (BOk b) ∧ (births ns = bgo j (ns.drop j) b) ∧ (Own eInt 3 af W w.heap.size a (b))) _ ⟨_, 0, List.replicate ns.length 0, G, (pS 15 (pS 14 (pS 13 (pS 3 (pU 2))))), rfl, be, Pin.le_refl _, Nat.zero_le _, (by simp), (BOk.replicate _), rfl, bf⟩ ?_
 rintro cb _ cc ⟨o, j, b, af, rfl, cd, y, ag, hj, hnb, hkb, hr, ap⟩
 refine zB (zC ?_)
 refine qD rfl (yK rfl rfl) ?_
 refine qe (zA (zB ?_))
 refine zZ (p := ((j : Int) : Int) < (ns.length : Int)) rfl rfl (fun bg => ?_) (fun bg => ?_)
 ·skip
  refine wp_skip ?_
  refine zA (zB ?_)
  refine zU ?_
  refine zB (zC ?_)
  refine qM (vJ (j : Int)) ?_
  refine qD rfl (zG Try.underlying24 sz53 (v := v) rfl rfl hv (by omega) (by omega)) ?_
  obtain ⟨q, s, aa, ab, bh⟩ := qB (hv.at (z := (j : Int)) (by omega) (by omega)) (j := j) rfl
  have ce := aa.max
  have cf := ab.max
  refine qD rfl (bh ag53 sz53 rfl (Pins.of_le y.pins ag)) ?_
  refine qI rfl (yN [(.slice none 0 0), (.slice none 0 0)] zr53 rfl y.pins (fun aq cg bi bj bk av => ?_))
  have aw := y.step bk av
  have bl := ap.below av
  have ax : Apart (some aq) a.ownBlock := zE (congrArg some bi) ap.lt
  have ay : w.heap.size ≤ aq := by have := y.size; omega
  refine qM (vJ (j : Int)) ?_
  refine q0 rfl rfl rfl (yW (cs' := [q, s]) (us := [q, s]) (v := (.agg [q, s].toArray)) sz53 rfl rfl rfl (ones2 aa.one ab.one) aw.pins bj (Nat.le_of_ble_eq_true rfl) rfl (fun ch bm bn az ci => ?_))
  have bo := aw.write bn az ((yI ay))
  have bp := bl.keptA az ax.symm
  obtain ⟨t, ah, a0, a1, bq⟩ := bm.shut bo ay
  have br := bp.moreA ah bq ax.symm
  refine qe (zA (zB (zB (zC ?_))))
  refine qD rfl (zL (k := 0) rfl Try.underlying53 rfl nz29 rfl) ?_
  refine qD rfl (zN (u := q) ag29 rfl (a0.pins _ _ _ (a1 0 _ rfl))) ?_
  refine qD rfl (zK Try.underlying29 (v := q) rfl aa) ?_
  refine qM (vJ 0) ?_
  refine qe (zA ?_)
  refine zU ?_
  refine yH (fun (k : Nat) (en : Nat → Value) (W : World) => ∃ (o : Nat → Value) (i : Nat) (d : List Int), en = (upd (upd (upd (upd (upd (upd (upd (upd (upd (upd o 2 (.slice none 0 0)) 3 a) 4 (vJ (j : Int))) 5 (.pointer (some ⟨aq, 0, none⟩))) 13 v) 14 (vJ (ns.length : Int))) 15 (vJ (j : Int))) 21 q) 22 (vJ (((ns.getD j default).l).length : Int))) 23 (vJ (i : Int))) ∧ k = (ns.getD j default).l.length - i ∧ Ext noS G w t W ∧ (i ≤ (ns.getD j default).l.length) ∧ (d.length = ns.length) ∧ (BOk d) ∧ (brow j b (ns.getD j default).l = brow j d ((ns.getD j default).l.drop i)) ∧ (Own eInt 3 t W w.heap.size a (d))) _ ⟨_, 0, b, (pS 23 (pS 22 (pS 21 (pS 15 (pS 14 (pS 13 (pS 5 (pS 4 (pS 3 (pU 2)))))))))), rfl, a0, Nat.zero_le _, hnb, hkb, rfl, br⟩ ?_
  rintro cj _ ai ⟨o, i, d, rfl, ck, x, hii, a2, aj, a3, ar⟩
  refine zB (zC ?_)
  refine qD rfl (yK rfl rfl) ?_
  refine qe (zA (zB ?_))
  refine zZ (p := ((i : Int) : Int) < (((ns.getD j default).l).length : Int)) rfl rfl (fun bs => ?_) (fun bs => ?_)
  ·skip
   have hk := ho.left (j := j) (i := i) (by omega) (by omega)
   have hbj := aj j
   have hbk := aj ((ns.getD j default).l.getD i 0).toNat
   refine wp_skip ?_
   refine zA (zB ?_)
   refine zU ?_
   refine zB (zC ?_)
   refine qD rfl (zG Try.underlying29 sz3 (v := q) rfl rfl aa (by omega) (by omega)) ?_
   refine qD rfl (zJ (r := ((ns.getD j default).l).getD i 0) rfl ag3 (z := (i : Int)) rfl aa (Pins.of_le x.pins (Pin.le_trans ag ah)) (by omega) (by omega)) ?_
   refine qM (vJ (((ns.getD j default).l).getD i 0)) ?_
   refine qe (zA ?_)
   have bt := Gadd.pins x.pins a
   have ac := ar.read
   refine xC (S := fun wz => Pins (Gadd t ai a) wz) (last := 13) (by kernel_rfl) rfl ?_
   have ak : Below ai.heap.size ai ai.drew := (Below.refl _ _).drew
   have bu := x.pins.below ak
   have a4 := x.step bu ak
   have a5 := ar.below ak
   have f := bt.below ak
   refine dM 0 a f ?_
   refine dM 1 (vJ (j : Int)) f ?_
   refine dM 2 a f ?_
   refine dM 3 (vJ (j : Int)) f ?_
   refine dT (i := 4) rfl rfl (by kernel_rfl) (fun _ _ => zG Try.underlying29 sz3 (v := a) rfl rfl ac (by omega) (by omega)) f ?_
   refine dT (i := 5) rfl rfl (by kernel_rfl) (fun _ hS => zJ (r := d.getD j 0) rfl ag3 (z := (j : Int)) rfl ac hS (by omega) (by omega)) f ?_
   refine dM 6 a f ?_
   refine dM 7 (vJ (((ns.getD j default).l).getD i 0)) f ?_
   refine dT (i := 8) rfl rfl (by kernel_rfl) (fun _ _ => zG Try.underlying29 sz3 (v := a) rfl rfl ac (by omega) (by omega)) f ?_
   refine dT (i := 9) rfl rfl (by kernel_rfl) (fun _ hS => zJ (r := d.getD (((ns.getD j default).l).getD i 0).toNat 0) rfl ag3 (z := (((ns.getD j default).l).getD i 0)) rfl ac hS (by omega) (by omega)) f ?_
   refine dT (i := 10) rfl rfl (by kernel_rfl) (fun _ _ => yE rfl rfl (by omega)) f ?_
   refine dT (i := 11) rfl rfl (by kernel_rfl) (fun _ _ => r_max rfl rfl) f ?_
   refine dT (i := 12) rfl rfl (by kernel_rfl) (fun _ _ => zG Try.underlying29 sz3 (v := a) rfl rfl ac (by omega) (by omega)) f ?_
   refine dO (i := 13) (drOp0 (i := 13) rfl rfl rfl (zD rfl _) (o_set (E := eInt) (v := a) (u := (vJ (max (d.getD j 0) ((d.getD (((ns.getD j default).l).getD i 0).toNat 0) + 1)))) (z := (j : Int)) (max (d.getD j 0) ((d.getD (((ns.getD j default).l).getD i 0).toNat 0) + 1)) sz3 rfl rfl rfl rfl a4.pins a5 (by omega) (by omega) (fun cl bv bw bx cm => ?_)))
   have bz := a4.write bw bx ((zX a5))
   refine ⟨fun h => absurd rfl h, ?_⟩
   refine yJ (by kernel_rfl) ?_
   refine zW ?_
   refine zA (zC ?_)
   refine qD rfl (yE rfl rfl (by omega)) ?_
   refine qM (vJ ((i : Int) + 1)) ?_
   refine qe ?_
   refine zY ?_
   refine ⟨_, ?_, _, rfl, _, i + 1, bmax j d ((ns.getD j default).l.getD i 0), (pS 23 (pS 22 (pS 21 (pS 15 (pS 14 (pS 13 (pS 5 (pS 4 (pS 3 (pU 2)))))))))), rfl, bz, (by omega), ((bmax_length _ _ _).trans a2), (aj.max hk.1 hk.2), (a3.trans (brow_next (by omega))), bv⟩
   omega
  refine wp_exit ?_
  refine zV ?_
  refine yD ?_
  refine yB ?_
  refine zA (zB (zC ?_))
  refine qD rfl (zL (k := 1) rfl Try.underlying53 rfl nz29 rfl) ?_
  refine qD rfl (zN (u := s) ag29 rfl (x.pins _ _ _ (a1 1 _ rfl))) ?_
  refine qD rfl (zK Try.underlying29 (v := s) rfl ab) ?_
  refine qM (vJ 0) ?_
  refine qe (zA ?_)
  refine zU ?_
  refine yH (fun (k : Nat) (en : Nat → Value) (W : World) => ∃ (o : Nat → Value) (c : Nat) (g : List Int), en = (upd (upd (upd (upd (upd (upd (upd (upd (upd o 2 (.slice none 0 0)) 3 a) 4 (vJ (j : Int))) 13 v) 14 (vJ (ns.length : Int))) 15 (vJ (j : Int))) 42 s) 43 (vJ (((ns.getD j default).r).length : Int))) 44 (vJ (c : Int))) ∧ k = (ns.getD j default).r.length - c ∧ Ext noS G w t W ∧ (c ≤ (ns.getD j default).r.length) ∧ (g.length = ns.length) ∧ (BOk g) ∧ (brow j d (ns.getD j default).r = brow j g ((ns.getD j default).r.drop c)) ∧ (Own eInt 3 t W w.heap.size a (g))) _ ⟨_, 0, d, (pS 44 (pS 43 (pS 42 (pS 15 (pS 14 (pS 13 (pS 4 (pS 3 (pU 2))))))))), rfl, x, Nat.zero_le _, a2, aj, rfl, ar⟩ ?_
  rintro cn _ al ⟨o, c, g, rfl, co, ad, cp, a6, am, a7, au⟩
  refine zB (zC ?_)
  refine qD rfl (yK rfl rfl) ?_
  refine qe (zA (zB ?_))
  refine zZ (p := ((c : Int) : Int) < (((ns.getD j default).r).length : Int)) rfl rfl (fun b0 => ?_) (fun b0 => ?_)
  ·skip
   have hk := ho.right (j := j) (i := c) (by omega) (by omega)
   have hbj := am j
   have hbk := am ((ns.getD j default).r.getD c 0).toNat
   refine wp_skip ?_
   refine zA (zB ?_)
   refine zU ?_
   refine zB (zC ?_)
   refine qD rfl (zG Try.underlying29 sz3 (v := s) rfl rfl ab (by omega) (by omega)) ?_
   refine qD rfl (zJ (r := ((ns.getD j default).r).getD c 0) rfl ag3 (z := (c : Int)) rfl ab (Pins.of_le ad.pins (Pin.le_trans ag ah)) (by omega) (by omega)) ?_
   refine qM (vJ (((ns.getD j default).r).getD c 0)) ?_
   refine qe (zA ?_)
   have b1 := Gadd.pins ad.pins a
   have ae := au.read
   refine xC (S := fun wz => Pins (Gadd t al a) wz) (last := 13) (by kernel_rfl) rfl ?_
   have an : Below al.heap.size al al.drew := (Below.refl _ _).drew
   have b4 := ad.pins.below an
   have a8 := ad.step b4 an
   have a9 := au.below an
   have m := b1.below an
   refine dM 0 a m ?_
   refine dM 1 (vJ (j : Int)) m ?_
   refine dM 2 a m ?_
   refine dM 3 (vJ (j : Int)) m ?_
   refine dT (i := 4) rfl rfl (by kernel_rfl) (fun _ _ => zG Try.underlying29 sz3 (v := a) rfl rfl ae (by omega) (by omega)) m ?_
   refine dT (i := 5) rfl rfl (by kernel_rfl) (fun _ hS => zJ (r := g.getD j 0) rfl ag3 (z := (j : Int)) rfl ae hS (by omega) (by omega)) m ?_
   refine dM 6 a m ?_
   refine dM 7 (vJ (((ns.getD j default).r).getD c 0)) m ?_
   refine dT (i := 8) rfl rfl (by kernel_rfl) (fun _ _ => zG Try.underlying29 sz3 (v := a) rfl rfl ae (by omega) (by omega)) m ?_
   refine dT (i := 9) rfl rfl (by kernel_rfl) (fun _ hS => zJ (r := g.getD (((ns.getD j default).r).getD c 0).toNat 0) rfl ag3 (z := (((ns.getD j default).r).getD c 0)) rfl ae hS (by omega) (by omega)) m ?_
   refine dT (i := 10) rfl rfl (by kernel_rfl) (fun _ _ => yE rfl rfl (by omega)) m ?_
   refine dT (i := 11) rfl rfl (by kernel_rfl) (fun _ _ => r_max rfl rfl) m ?_
   refine dT (i := 12) rfl rfl (by kernel_rfl) (fun _ _ => zG Try.underlying29 sz3 (v := a) rfl rfl ae (by omega) (by omega)) m ?_
   refine dO (i := 13) (drOp0 (i := 13) rfl rfl rfl (zD rfl _) (o_set (E := eInt) (v := a) (u := (vJ (max (g.getD j 0) ((g.getD (((ns.getD j default).r).getD c 0).toNat 0) + 1)))) (z := (j : Int)) (max (g.getD j 0) ((g.getD (((ns.getD j default).r).getD c 0).toNat 0) + 1)) sz3 rfl rfl rfl rfl a8.pins a9 (by omega) (by omega) (fun cq b5 b6 b7 cr => ?_)))
   have b8 := a8.write b6 b7 ((zX a9))
   refine ⟨fun h => absurd rfl h, ?_⟩
   refine yJ (by kernel_rfl) ?_
   refine zW ?_
   refine zA (zC ?_)
   refine qD rfl (yE rfl rfl (by omega)) ?_
   refine qM (vJ ((c : Int) + 1)) ?_
   refine qe ?_
   refine zY ?_
   refine ⟨_, ?_, _, rfl, _, c + 1, bmax j g ((ns.getD j default).r.getD c 0), (pS 44 (pS 43 (pS 42 (pS 15 (pS 14 (pS 13 (pS 4 (pS 3 (pU 2))))))))), rfl, b8, (by omega), ((bmax_length _ _ _).trans a6), (am.max hk.1 hk.2), (a7.trans (brow_next (by omega))), b5⟩
   omega
  refine wp_exit ?_
  refine zV ?_
  refine yD ?_
  refine yB ?_
  refine zW ?_
  refine zA (zC ?_)
  refine qD rfl (yE rfl rfl (by omega)) ?_
  refine qM (vJ ((j : Int) + 1)) ?_
  refine qe ?_
  refine zY ?_
  refine ⟨_, ?_, _, rfl, _, j + 1, g, t, (pS 15 (pS 14 (pS 13 (pS 3 (pU 2))))), rfl, ad, (Pin.le_trans ag ah), (by omega), a6, am, (hr.trans ((bgo_next (by omega)).trans (by rw [a3, brow_end (by omega), a7, brow_end (by omega)]))), au⟩
  omega
 refine wp_exit ?_
 refine zV ?_
 refine yD ?_
 refine yB ?_
 refine zA (zB (zC ?_))
 refine qM a ?_
 refine qM a ?_
 refine qe (zA ?_)
 refine wp_ret ?_
 refine zS ?_
 refine zR (v := a) rfl rfl rfl ?_
 exact ⟨_, _, rfl, (by rw [hr, bgo_end (by omega)]; exact ap), y⟩

theorem used_spec {w : World} {G : Pin} {v : Value} {ns : List Nd} {m : Int} (hP : Pins G w) (hv : RSl eNode G v ns) (ho : OptsOk ns) (hs : (0 ≤ m ∧ m < ns.length) ∧ ns.length ≤ 1048576) :
  Calls Try.prog 41 [v, (vJ m)].toArray w fun e w' => ∃ (u : Value) (G' : Pin), e = .returned u ∧ Own eBool 4 G' w' w.heap.size u (usedM ns m.toNat) ∧ Ext noS G w G' w' := by
 refine yA (n := 56) Try.func41 Try.ntmps41 rfl rfl ?_
 have ab : Ext noS G w G w := Ext.refl hP
 refine zB (zC ?_)
 refine qM (.slice none 0 0) ?_
 refine qe (zA (zB (zC ?_)))
 refine qM v ?_
 refine qD rfl (zK Try.underlying24 (v := v) rfl hv) ?_
 refine qI rfl (o_make (E := eBool) false 1 (.bool false) Try.underlying49 mk4 (fun _ => rfl) rfl rfl ab.pins (by omega) (by omega) (by omega) (fun a w2 am an ao a8 => ?_))
 have ag := ab.step an ao
 have ac : Own eBool 4 G w2 w.heap.size a (List.replicate ns.length false) := am.weaken ab.size
 have a9 : (List.replicate ns.length false).length = ns.length := List.length_replicate ..
 refine qM a ?_
 refine qe (zA (zB (zC ?_)))
 refine qM a ?_
 refine qM (vJ m) ?_
 refine qD rfl (zG Try.underlying49 sz4 (v := a) rfl rfl ac.read (by omega) (by omega)) ?_
 refine q0 rfl rfl rfl (o_set (E := eBool) (v := a) (u := (.bool true)) (z := m) (true) sz4 rfl rfl rfl rfl ag.pins ac (by omega) (by omega) (fun ba ap aq ar bb => ?_))
 have au := ag.write aq ar ((zX ac))
 refine qe (zA (zB (zB (zC ?_))))
 refine qM (vJ m) ?_
 refine qM (vJ m) ?_
 refine qe (zA ?_)
 refine zU ?_
 refine yH (fun (k : Nat) (en : Nat → Value) (W : World) => ∃ (d : Nat → Value) (z : Int) (b : List Bool), en = (upd (upd (upd (upd d 0 v) 4 (.slice none 0 0)) 5 a) 6 (vJ z)) ∧ k = (z + 1).toNat ∧ Ext noS G w G W ∧ (-1 ≤ z ∧ z ≤ m) ∧ (b.length = ns.length) ∧ (usedM ns m.toNat = ugo ns (z + 1).toNat b) ∧ (Own eBool 4 G W w.heap.size a (b))) _ ⟨_, m, (List.replicate ns.length false).set m.toNat true, (pS 6 (pS 5 (pS 4 (pU 0)))), rfl, au, (by omega), (by simp), (by rw [show (m + 1).toNat = m.toNat + 1 by omega]; rfl), ap⟩ ?_
 rintro bc _ bd ⟨d, z, b, rfl, be, h, hz, hnb, hr, o⟩
 refine zB (zB (zC ?_))
 refine qM (vJ z) ?_
 refine qD rfl (r_geq rfl rfl) ?_
 refine qe (zA ?_)
 refine zZ (p := (0 : Int) ≤ z) rfl rfl (fun av => ?_) (fun av => ?_)
 ·skip
  refine wp_skip ?_
  refine zA (zB ?_)
  refine zU ?_
  refine zB (zB (zC ?_))
  refine qM a ?_
  refine qM (vJ z) ?_
  refine qD rfl (zG Try.underlying49 sz4 (v := a) rfl rfl o.read (by omega) (by omega)) ?_
  refine qD rfl (yL (r := b.getD (z).toNat false) rfl ag4 (z := z) rfl o.read (Gadd.pins h.pins a) (by omega) (by omega)) ?_
  refine qD rfl (xN rfl) ?_
  refine qe (zA ?_)
  refine c_ifn rfl rfl (fun ad => ?_) (fun ad => ?_)
  ·skip
   refine wp_skip ?_
   refine zA (zB (zB (zC ?_)))
   refine qM v ?_
   refine qM (vJ z) ?_
   refine qD rfl (zG Try.underlying24 sz53 (v := v) rfl rfl hv (by omega) (by omega)) ?_
   refine qD rfl (yX (off := 0) Try.underlying53 rfl rfl nz29 (z := z) (k := 0) rfl hv (by omega) (by omega)) ?_
   obtain ⟨ae, s, aw⟩ := nm_nl (hv.at (z := z) (by omega) (by omega)) (j := (z).toNat) rfl
   have bf := s.max
   refine qD rfl (aw ag29 rfl h.pins) ?_
   refine qD rfl (zK Try.underlying29 (v := ae) rfl s) ?_
   refine qM (vJ 0) ?_
   refine qe (zA ?_)
   refine zU ?_
   refine yH (fun (k : Nat) (en : Nat → Value) (W : World) => ∃ (d : Nat → Value) (i : Nat) (f : List Bool), en = (upd (upd (upd (upd (upd (upd (upd d 0 v) 4 (.slice none 0 0)) 5 a) 6 (vJ z)) 31 ae) 32 (vJ (((ns.getD (z).toNat default).l).length : Int))) 33 (vJ (i : Int))) ∧ k = (ns.getD (z).toNat default).l.length - i ∧ Ext noS G w G W ∧ (i ≤ (ns.getD (z).toNat default).l.length) ∧ (f.length = ns.length) ∧ (setAll b (ns.getD (z).toNat default).l = setAll f ((ns.getD (z).toNat default).l.drop i)) ∧ (Own eBool 4 G W w.heap.size a (f))) _ ⟨_, 0, b, (pS 33 (pS 32 (pS 31 (pS 6 (pS 5 (pS 4 (pU 0))))))), rfl, h, Nat.zero_le _, hnb, rfl, o⟩ ?_
   rintro bg _ bh ⟨d, i, f, rfl, bi, q, hii, ah, ai, t⟩
   refine zB (zC ?_)
   refine qD rfl (yK rfl rfl) ?_
   refine qe (zA (zB ?_))
   refine zZ (p := ((i : Int) : Int) < (((ns.getD (z).toNat default).l).length : Int)) rfl rfl (fun ax => ?_) (fun ax => ?_)
   ·skip
    have hk := ho.left (j := (z).toNat) (i := i) (by omega) (by omega)
    refine wp_skip ?_
    refine zA (zB ?_)
    refine zU ?_
    refine zB (zC ?_)
    refine qD rfl (zG Try.underlying29 sz3 (v := ae) rfl rfl s (by omega) (by omega)) ?_
    refine qD rfl (zJ (r := ((ns.getD (z).toNat default).l).getD i 0) rfl ag3 (z := (i : Int)) rfl s q.pins (by omega) (by omega)) ?_
    refine qM (vJ (((ns.getD (z).toNat default).l).getD i 0)) ?_
    refine qe (zA (zC ?_))
    refine qM a ?_
    refine qM (vJ (((ns.getD (z).toNat default).l).getD i 0)) ?_
    refine qD rfl (zG Try.underlying49 sz4 (v := a) rfl rfl t.read (by omega) (by omega)) ?_
    refine q0 rfl rfl rfl (o_set (E := eBool) (v := a) (u := (.bool true)) (z := (((ns.getD (z).toNat default).l).getD i 0)) (true) sz4 rfl rfl rfl rfl q.pins t (by omega) (by omega) (fun bj ay az a0 bk => ?_))
    have a1 := q.write az a0 ((zX t))
    refine qe ?_
    refine zW ?_
    refine zA (zC ?_)
    refine qD rfl (yE rfl rfl (by omega)) ?_
    refine qM (vJ ((i : Int) + 1)) ?_
    refine qe ?_
    refine zY ?_
    refine ⟨_, ?_, _, rfl, _, i + 1, f.set ((ns.getD (z).toNat default).l.getD i 0).toNat true, (pS 33 (pS 32 (pS 31 (pS 6 (pS 5 (pS 4 (pU 0))))))), rfl, a1, (by omega), ((List.length_set ..).trans ah), (ai.trans (setAll_next (by omega))), ay⟩
    omega
   refine wp_exit ?_
   refine zV ?_
   refine yD ?_
   refine yB ?_
   refine zA (zB (zC ?_))
   refine qM v ?_
   refine qM (vJ z) ?_
   refine qD rfl (zG Try.underlying24 sz53 (v := v) rfl rfl hv (by omega) (by omega)) ?_
   refine qD rfl (yX (off := 1) Try.underlying53 rfl rfl nz29 (z := z) (k := 0) rfl hv (by omega) (by omega)) ?_
   obtain ⟨af, x, a2⟩ := nm_nr (hv.at (z := z) (by omega) (by omega)) (j := (z).toNat) rfl
   have bl := x.max
   refine qD rfl (a2 ag29 rfl q.pins) ?_
   refine qD rfl (zK Try.underlying29 (v := af) rfl x) ?_
   refine qM (vJ 0) ?_
   refine qe (zA ?_)
   refine zU ?_
   refine yH (fun (k : Nat) (en : Nat → Value) (W : World) => ∃ (d : Nat → Value) (c : Nat) (g : List Bool), en = (upd (upd (upd (upd (upd (upd (upd d 0 v) 4 (.slice none 0 0)) 5 a) 6 (vJ z)) 45 af) 46 (vJ (((ns.getD (z).toNat default).r).length : Int))) 47 (vJ (c : Int))) ∧ k = (ns.getD (z).toNat default).r.length - c ∧ Ext noS G w G W ∧ (c ≤ (ns.getD (z).toNat default).r.length) ∧ (g.length = ns.length) ∧ (setAll f (ns.getD (z).toNat default).r = setAll g ((ns.getD (z).toNat default).r.drop c)) ∧ (Own eBool 4 G W w.heap.size a (g))) _ ⟨_, 0, f, (pS 47 (pS 46 (pS 45 (pS 6 (pS 5 (pS 4 (pU 0))))))), rfl, q, Nat.zero_le _, ah, rfl, t⟩ ?_
   rintro bm _ bn ⟨d, c, g, rfl, bo, y, bp, aj, ak, aa⟩
   refine zB (zC ?_)
   refine qD rfl (yK rfl rfl) ?_
   refine qe (zA (zB ?_))
   refine zZ (p := ((c : Int) : Int) < (((ns.getD (z).toNat default).r).length : Int)) rfl rfl (fun a3 => ?_) (fun a3 => ?_)
   ·skip
    have hk := ho.right (j := (z).toNat) (i := c) (by omega) (by omega)
    refine wp_skip ?_
    refine zA (zB ?_)
    refine zU ?_
    refine zB (zC ?_)
    refine qD rfl (zG Try.underlying29 sz3 (v := af) rfl rfl x (by omega) (by omega)) ?_
    refine qD rfl (zJ (r := ((ns.getD (z).toNat default).r).getD c 0) rfl ag3 (z := (c : Int)) rfl x y.pins (by omega) (by omega)) ?_
    refine qM (vJ (((ns.getD (z).toNat default).r).getD c 0)) ?_
    refine qe (zA (zC ?_))
    refine qM a ?_
    refine qM (vJ (((ns.getD (z).toNat default).r).getD c 0)) ?_
    refine qD rfl (zG Try.underlying49 sz4 (v := a) rfl rfl aa.read (by omega) (by omega)) ?_
    refine q0 rfl rfl rfl (o_set (E := eBool) (v := a) (u := (.bool true)) (z := (((ns.getD (z).toNat default).r).getD c 0)) (true) sz4 rfl rfl rfl rfl y.pins aa (by omega) (by omega) (fun bq a4 a5 a6 br => ?_))
    have a7 := y.write a5 a6 ((zX aa))
    refine qe ?_
    refine zW ?_
    refine zA (zC ?_)
    refine qD rfl (yE rfl rfl (by omega)) ?_
    refine qM (vJ ((c : Int) + 1)) ?_
    refine qe ?_
    refine zY ?_
    refine ⟨_, ?_, _, rfl, _, c + 1, g.set ((ns.getD (z).toNat default).r.getD c 0).toNat true, (pS 47 (pS 46 (pS 45 (pS 6 (pS 5 (pS 4 (pU 0))))))), rfl, a7, (by omega), ((List.length_set ..).trans aj), (ak.trans (setAll_next (by omega))), a4⟩
    omega
   refine wp_exit ?_
   refine zV ?_
   refine yD ?_
   refine yB ?_
   refine zW ?_
   refine zA (zC ?_)
   refine qM (vJ z) ?_
   refine qD rfl (r_sub rfl rfl (by omega)) ?_
   refine qM (vJ (z - 1)) ?_
   refine qe ?_
   refine zY ?_
   refine ⟨_, ?_, _, rfl, _, z - 1, g, (pS 6 (pS 5 (pS 4 (pU 0)))), rfl, y, (by omega), aj, (hr.trans ((ugo_step (by omega)).trans (by rw [ustep_yes ad, ai, setAll_end (by omega), ak, setAll_end (by omega)]))), aa⟩
   omega
  refine wp_exit ?_
  refine zV ?_
  refine yB ?_
  refine zA (zC ?_)
  refine qM (vJ z) ?_
  refine qD rfl (r_sub rfl rfl (by omega)) ?_
  refine qM (vJ (z - 1)) ?_
  refine qe ?_
  refine zY ?_
  refine ⟨_, ?_, _, rfl, _, z - 1, b, (pS 6 (pS 5 (pS 4 (pU 0)))), rfl, h, (by omega), hnb, (hr.trans ((ugo_step (by omega)).trans (by rw [ustep_no ad]))), o⟩
  omega
 refine wp_exit ?_
 refine zV ?_
 refine yD ?_
 refine yB ?_
 refine zA (zB (zC ?_))
 refine qM a ?_
 refine qM a ?_
 refine qe (zA ?_)
 refine wp_ret ?_
 refine zS ?_
 refine zR (v := a) rfl rfl rfl ?_
 exact ⟨_, _, rfl, (by rw [hr, ugo_end (by omega)]; exact o), h⟩

theorem goodForm_spec {w : World} {G : Pin} {v : Value} {ns : List Nd} (hP : Pins G w) (hv : RSl eNode G v ns) :
  Calls Try.prog 20 [(.agg [v].toArray)].toArray w fun e w' => ∃ G', e = .returned (.bool (goodB ns)) ∧ Ext noS G w G' w' := by
 refine yA (n := 93) Try.func20 Try.ntmps20 rfl rfl ?_
 have a6 : Ext noS G w G w := Ext.refl hP
 have hm := hv.max
 refine zB (zC ?_)
 refine qI rfl (xZ [v] (v := (.agg [v].toArray)) rfl rfl a6.pins (fun b1 w2 e4 ck cl cm => ?_))
 have cn := a6.step cl cm
 have co : w.heap.size ≤ b1 := by have := a6.size; omega
 obtain ⟨G9, s, aj, y, e5⟩ := ck.shut cn co
 refine qM (.bool false) ?_
 refine qe (zA (zB (zB (zC ?_))))
 refine qD rfl (zL (k := 0) rfl Try.underlying26 rfl nz24 rfl) ?_
 refine qD rfl (zN (u := v) ag24 rfl (aj.pins _ _ _ (y 0 _ rfl))) ?_
 refine qD rfl (zK Try.underlying24 (v := v) rfl hv) ?_
 refine qD rfl (yK rfl rfl) ?_
 refine qM (.bool (decide (((ns.length : Int) : Int) < 1))) ?_
 refine qbd (p := ((ns.length : Int) : Int) < 1) (t := 13) rfl (fun cp => ?_) (fun cp => ?_)
 ·skip
  refine qW ?_
  refine qW ?_
  refine qW ?_
  refine qW ?_
  refine qD rfl (xF (v := (.bool true)) rfl rfl) ?_
  refine qe (zA ?_)
  refine c_ifT rfl rfl ?_
  refine zB (zC ?_)
  refine qM (.bool false) ?_
  refine qe (zA ?_)
  refine wp_ret ?_
  refine zS ?_
  refine zR (v := (.bool false)) rfl rfl rfl ?_
  exact ⟨_, congrArg (fun z => Ending.returned (Value.bool z)) (goodB_false.2 (fun g => by have := g.lo; omega)).symm, aj⟩
 refine qN (zL (k := 0) rfl Try.underlying26 rfl nz24 rfl) ?_
 refine qN (zN (u := v) ag24 rfl (aj.pins _ _ _ (y 0 _ rfl))) ?_
 refine qN (zK Try.underlying24 (v := v) rfl hv) ?_
 refine qN (r_gtr rfl rfl) ?_
 refine qD rfl (yZ (v := (.bool (decide ((120 : Int) < (ns.length : Int))))) rfl rfl) ?_
 refine qe (zA ?_)
 refine zZ (p := (120 : Int) < (ns.length : Int)) rfl rfl (fun cq => ?_) (fun cq => ?_)
 ·skip
  refine zB (zC ?_)
  refine qM (.bool false) ?_
  refine qe (zA ?_)
  refine wp_ret ?_
  refine zS ?_
  refine zR (v := (.bool false)) rfl rfl rfl ?_
  exact ⟨_, congrArg (fun z => Ending.returned (Value.bool z)) (goodB_false.2 (fun g => by have := g.hi; omega)).symm, aj⟩
 refine wp_skip ?_
 refine zA (zB (zB (zC ?_)))
 refine qD rfl (zL (k := 0) rfl Try.underlying26 rfl nz24 rfl) ?_
 refine qD rfl (zN (u := v) ag24 rfl (aj.pins _ _ _ (y 0 _ rfl))) ?_
 refine qD rfl (zK Try.underlying24 (v := v) rfl hv) ?_
 refine qM (vJ 0) ?_
 refine qe (zA ?_)
 refine zU ?_
 refine yH (fun (k : Nat) (en : Nat → Value) (W : World) => ∃ (aa : Nat → Value) (j : Nat) (a7 : Pin), en = (upd (upd (upd (upd aa 1 (.pointer (some ⟨b1, 0, none⟩))) 20 v) 21 (vJ (ns.length : Int))) 22 (vJ (j : Int))) ∧ k = ns.length - j ∧ Ext noS G w a7 W ∧ Pin.le G9 a7 ∧ (j ≤ ns.length) ∧ (∀ i, i < j → goodOpts (ns.getD i default).l i = true ∧ goodOpts (ns.getD i default).r i = true)) _ ⟨_, 0, G9, (pS 22 (pS 21 (pS 20 (pU 1)))), rfl, aj, Pin.le_refl _, Nat.zero_le _, (fun i hi => absurd hi (Nat.not_lt_zero i))⟩ ?_
 rintro e6 _ e7 ⟨aa, j, a7, rfl, e8, ab, d, hj, hg⟩
 refine zB (zC ?_)
 refine qD rfl (yK rfl rfl) ?_
 refine qe (zA (zB ?_))
 refine zZ (p := ((j : Int) : Int) < (ns.length : Int)) rfl rfl (fun cr => ?_) (fun cr => ?_)
 ·skip
  refine wp_skip ?_
  refine zA (zB ?_)
  refine zU ?_
  refine zB (zC ?_)
  refine qM (vJ (j : Int)) ?_
  refine qD rfl (zG Try.underlying24 sz53 (v := v) rfl rfl hv (by omega) (by omega)) ?_
  obtain ⟨ao, ap, a8, a9, cs⟩ := qB (hv.at (z := (j : Int)) (by omega) (by omega)) (j := j) rfl
  have e9 := a8.max
  have fa := a9.max
  refine qD rfl (cs ag53 sz53 rfl (Pins.of_le ab.pins (Pin.le_trans s d))) ?_
  refine qI rfl (yN [(.slice none 0 0), (.slice none 0 0)] zr53 rfl ab.pins (fun ct fb fc cu cv cw => ?_))
  have bt := ab.step cv cw
  have bu : w.heap.size ≤ ct := by have := ab.size; omega
  refine qM (vJ (j : Int)) ?_
  refine q0 rfl rfl rfl (yW (cs' := [ao, ap]) (us := [ao, ap]) (v := (.agg [ao, ap].toArray)) sz53 rfl rfl rfl (ones2 a8.one a9.one) bt.pins cu (Nat.le_of_ble_eq_true rfl) rfl (fun fd cx cy cz fe => ?_))
  have c0 := bt.write cy cz ((yI bu))
  obtain ⟨c1, ba, ai, bv, ff⟩ := cx.shut c0 bu
  refine qe (zA (zB (zC ?_)))
  refine qD rfl (zL (k := 0) rfl Try.underlying53 rfl nz29 rfl) ?_
  refine qD rfl (zN (u := ao) ag29 rfl (ai.pins _ _ _ (bv 0 _ rfl))) ?_
  refine qM (vJ (j : Int)) ?_
  refine qI rfl (zM (vs := [ao, (vJ (j : Int))]) Try.func35 nm35 rfl rfl rfl ?_)
  refine Calls.mono (goodOptions_spec ai.pins (a8.mono (Pin.le_trans (Pin.le_trans s d) ba))) ?_
  rintro _ _ ⟨rfl, rfl⟩
  refine ⟨_, rfl, ?_⟩
  refine qD rfl (xN rfl) ?_
  refine qM (.bool (!(goodOpts ((ns.getD j default).l) (j : Int)))) ?_
  refine qbn (t := 32) rfl (fun bb => ?_) (fun bb => ?_)
  ·skip
   refine qN (zL (k := 1) rfl Try.underlying53 rfl nz29 rfl) ?_
   refine qN (zN (u := ap) ag29 rfl (ai.pins _ _ _ (bv 1 _ rfl))) ?_
   refine qN (zT (v := (vJ (j : Int))) rfl) ?_
   refine q1g rfl rfl rfl rfl rfl rfl (zM (vs := [ap, (vJ (j : Int))]) Try.func35 nm35 rfl rfl rfl ?_)
   refine Calls.mono (goodOptions_spec ai.pins (a9.mono (Pin.le_trans (Pin.le_trans s d) ba))) ?_
   rintro _ _ ⟨rfl, rfl⟩
   refine ⟨_, rfl, ?_⟩
   refine qN (xN rfl) ?_
   refine qD rfl (yZ (v := (.bool (!(goodOpts ((ns.getD j default).r) (j : Int))))) rfl rfl) ?_
   refine qe (zA ?_)
   refine c_ifn rfl rfl (fun bc => ?_) (fun bc => ?_)
   ·skip
    refine wp_skip ?_
    refine zW ?_
    refine zA (zC ?_)
    refine qD rfl (yE rfl rfl (by omega)) ?_
    refine qM (vJ ((j : Int) + 1)) ?_
    refine qe ?_
    refine zY ?_
    refine ⟨_, ?_, _, rfl, _, j + 1, c1, (pS 22 (pS 21 (pS 20 (pU 1)))), rfl, ai, (Pin.le_trans d ba), (by omega), (fun k hk => if h3 : k = j then h3 ▸ ⟨bb, bc⟩ else hg k (by omega))⟩
    omega
   refine zB (zC ?_)
   refine qM (.bool false) ?_
   refine qe (zA ?_)
   refine wp_ret ?_
   refine zS ?_
   refine zR (v := (.bool false)) rfl rfl rfl ?_
   exact ⟨_, congrArg (fun z => Ending.returned (Value.bool z)) (goodB_false.2 (fun g => by have := (g.opts j (by omega)).2; rw [bc] at this; cases this)).symm, ai⟩
  refine qW ?_
  refine qW ?_
  refine qW ?_
  refine qW ?_
  refine qW ?_
  refine qD rfl (xF (v := (.bool true)) rfl rfl) ?_
  refine qe (zA ?_)
  refine c_ifT rfl rfl ?_
  refine zB (zC ?_)
  refine qM (.bool false) ?_
  refine qe (zA ?_)
  refine wp_ret ?_
  refine zS ?_
  refine zR (v := (.bool false)) rfl rfl rfl ?_
  exact ⟨_, congrArg (fun z => Ending.returned (Value.bool z)) (goodB_false.2 (fun g => by have := (g.opts j (by omega)).1; rw [bb] at this; cases this)).symm, ai⟩
 refine wp_exit ?_
 refine zV ?_
 refine yD ?_
 refine yB ?_
 refine zA (zB (zC ?_))
 refine qD rfl (zL (k := 0) rfl Try.underlying26 rfl nz24 rfl) ?_
 refine qD rfl (zN (u := v) ag24 rfl ((Pins.of_le ab.pins d) _ _ _ (y 0 _ rfl))) ?_
 have hopts : ∀ i, i < ns.length → goodOpts (ns.getD i default).l i = true ∧ goodOpts (ns.getD i default).r i = true := fun i hi => hg i (by omega)
 refine qI rfl (zM (vs := [v]) Try.func36 nm36 rfl rfl rfl ?_)
 refine Calls.mono (births_spec ab.pins (hv.mono (Pin.le_trans s d)) (opts_ok hopts) (by omega)) ?_
 rintro _ c2 ⟨ac, c3, rfl, c4, m⟩
 refine ⟨_, rfl, ?_⟩
 have c5 := ab.tr m
 have c6 : Own eInt 3 c3 c2 w.heap.size ac (births ns) := c4.weaken ab.size
 refine qM ac ?_
 refine qe (zA (zB (zB (zC ?_))))
 have hnb := births_length ns
 obtain ⟨bw, q, c7, a3, fg⟩ := c6.sealed c5
 refine qM (vJ 1) ?_
 refine qe (zA ?_)
 refine zU ?_
 refine yH (fun (k : Nat) (en : Nat → Value) (W : World) => ∃ (aa : Nat → Value) (i : Nat) (aq : Pin), en = (upd (upd (upd aa 1 (.pointer (some ⟨b1, 0, none⟩))) 5 ac) 6 (vJ (i : Int))) ∧ k = ns.length - i ∧ Ext noS G w aq W ∧ Pin.le bw aq ∧ (1 ≤ i ∧ i ≤ ns.length) ∧ (∀ k, 1 ≤ k → k < i → pairC ns (births ns) k < 0)) _ ⟨_, 1, bw, (pS 6 (pS 5 (pU 1))), rfl, c7, Pin.le_refl _, (by omega), (fun k a b => absurd a (by omega))⟩ ?_
 rintro fh _ bd ⟨aa, i, aq, rfl, fi, ad, f, hi, hsr⟩
 refine zB (zB (zC ?_))
 refine qM (vJ (i : Int)) ?_
 refine qD rfl (zL (k := 0) rfl Try.underlying26 rfl nz24 rfl) ?_
 refine qD rfl (zN (u := v) ag24 rfl ((Pins.of_le ad.pins (Pin.le_trans (Pin.le_trans (Pin.le_trans d m.le) q) f)) _ _ _ (y 0 _ rfl))) ?_
 refine qD rfl (zK Try.underlying24 (v := v) rfl hv) ?_
 refine qD rfl (yK rfl rfl) ?_
 refine qe (zA ?_)
 refine zZ (p := ((i : Int) : Int) < (ns.length : Int)) rfl rfl (fun c8 => ?_) (fun c8 => ?_)
 ·skip
  refine wp_skip ?_
  refine zA (zB ?_)
  refine zU ?_
  refine zB ?_
  refine c_cut (fun (en : Nat → Value) (W : World) => ∃ (aa : Nat → Value) (be : Nat) (ar : Value) (au : Value) (bf : Nat) (av : Value) (aw : Value) (x : Pin), en = (upd (upd (upd (upd (upd aa 1 (.pointer (some ⟨b1, 0, none⟩))) 5 ac) 6 (vJ (i : Int))) 7 (.pointer (some ⟨be, 0, none⟩))) 8 (.pointer (some ⟨bf, 0, none⟩))) ∧ Ext noS G w x W ∧ Pin.le aq x ∧ (RSl eInt x ar ((ns.getD ((i : Int) - 1).toNat default).l)) ∧ (RSl eInt x au ((ns.getD ((i : Int) - 1).toNat default).r)) ∧ (RSl eInt x av ((ns.getD i default).l)) ∧ (RSl eInt x aw ((ns.getD i default).r)) ∧ (BxP x be [ar, au]) ∧ (BxP x bf [av, aw])) ?_ ?_
  ·rintro _ bg ⟨aa, be, ar, au, bf, av, aw, x, rfl, bx, bh, c9, da, db, dc, bz, b0⟩
   refine zA (zB ?_)
   refine xC (S := fun wz => Pins x wz) (last := 23) (by kernel_rfl) rfl ?_
   have b2 : Below bg.heap.size bg bg.drew := (Below.refl _ _).drew
   have dd := bx.pins.below b2
   have c := bx.step dd b2
   refine dM 0 ac c.pins ?_
   refine dM 1 (vJ (i : Int)) c.pins ?_
   refine dT (i := 2) rfl rfl (by kernel_rfl) (fun _ _ => r_sub rfl rfl (by omega)) c.pins ?_
   refine dT (i := 3) rfl rfl (by kernel_rfl) (fun _ _ => zG Try.underlying29 sz3 (v := ac) rfl rfl a3 (by omega) (by omega)) c.pins ?_
   refine dT (i := 4) rfl rfl (by kernel_rfl) (fun _ hS => zJ (r := (births ns).getD ((i : Int) - 1).toNat 0) rfl ag3 (z := ((i : Int) - 1)) rfl a3 (Pins.of_le hS (Pin.le_trans f bh)) (by omega) (by omega)) c.pins ?_
   refine dM 5 ac c.pins ?_
   refine dM 6 (vJ (i : Int)) c.pins ?_
   refine dT (i := 7) rfl rfl (by kernel_rfl) (fun _ _ => zG Try.underlying29 sz3 (v := ac) rfl rfl a3 (by omega) (by omega)) c.pins ?_
   refine dT (i := 8) rfl rfl (by kernel_rfl) (fun _ hS => zJ (r := (births ns).getD i 0) rfl ag3 (z := (i : Int)) rfl a3 (Pins.of_le hS (Pin.le_trans f bh)) (by omega) (by omega)) c.pins ?_
   refine dT (i := 10) rfl rfl (by kernel_rfl) (fun _ _ => zL (k := 0) rfl Try.underlying53 rfl nz29 rfl) c.pins ?_
   refine dT (i := 11) rfl rfl (by kernel_rfl) (fun _ hS => zN (u := ar) ag29 rfl (hS _ _ _ (bz 0 _ rfl))) c.pins ?_
   refine dT (i := 12) rfl rfl (by kernel_rfl) (fun _ _ => zL (k := 0) rfl Try.underlying53 rfl nz29 rfl) c.pins ?_
   refine dT (i := 13) rfl rfl (by kernel_rfl) (fun _ hS => zN (u := av) ag29 rfl (hS _ _ _ (b0 0 _ rfl))) c.pins ?_
   refine dT (i := 15) rfl rfl (by kernel_rfl) (fun _ _ => zL (k := 1) rfl Try.underlying53 rfl nz29 rfl) c.pins ?_
   refine dT (i := 16) rfl rfl (by kernel_rfl) (fun _ hS => zN (u := au) ag29 rfl (hS _ _ _ (bz 1 _ rfl))) c.pins ?_
   refine dT (i := 17) rfl rfl (by kernel_rfl) (fun _ _ => zL (k := 1) rfl Try.underlying53 rfl nz29 rfl) c.pins ?_
   refine dT (i := 18) rfl rfl (by kernel_rfl) (fun _ hS => zN (u := aw) ag29 rfl (hS _ _ _ (b0 1 _ rfl))) c.pins ?_
   refine dO (i := 9) (zO (i := 9) rfl rfl rfl (zD rfl _) (zM (vs := [(vJ ((births ns).getD ((i : Int) - 1).toNat 0)), (vJ ((births ns).getD i 0))]) Try.func38 nm38 rfl rfl rfl ?_))
   refine Calls.mono (cmpCompare_spec c.pins) ?_
   rintro _ _ ⟨rfl, rfl⟩
   refine ⟨_, rfl, ?_⟩
   refine ⟨fun _ => c.pins, ?_⟩
   refine dO (i := 14) (zO (i := 14) rfl rfl rfl (zD rfl _) (zM (vs := [ar, av]) Try.func39 nm39 rfl rfl rfl ?_))
   refine Calls.mono (slCompare_spec c.pins c9 db) ?_
   rintro _ _ ⟨rfl, rfl⟩
   refine ⟨_, rfl, ?_⟩
   refine ⟨fun _ => c.pins, ?_⟩
   refine dO (i := 19) (zO (i := 19) rfl rfl rfl (zD rfl _) (zM (vs := [au, aw]) Try.func39 nm39 rfl rfl rfl ?_))
   refine Calls.mono (slCompare_spec c.pins da dc) ?_
   rintro _ _ ⟨rfl, rfl⟩
   refine ⟨_, rfl, ?_⟩
   refine ⟨fun _ => c.pins, ?_⟩
   refine dO (i := 20) (zO (i := 20) rfl rfl rfl (zD rfl _) (yV (E := eInt) (e := 3) [(vJ (cmpI ((births ns).getD ((i : Int) - 1).toNat 0) ((births ns).getD i 0))), (vJ (cmpL ((ns.getD ((i : Int) - 1).toNat default).l) ((ns.getD i default).l))), (vJ (cmpL ((ns.getD ((i : Int) - 1).toNat default).r) ((ns.getD i default).r)))] [cmpI ((births ns).getD ((i : Int) - 1).toNat 0) ((births ns).getD i 0), cmpL ((ns.getD ((i : Int) - 1).toNat default).l) ((ns.getD i default).l), cmpL ((ns.getD ((i : Int) - 1).toNat default).r) ((ns.getD i default).r)] Try.underlying29 sz3 zr3 (by exact reps3 (by rfl) (by rfl) (by rfl)) (ones3 (by rfl) (by rfl) (by rfl)) rfl rfl rfl rfl (by decide) c.pins (fun b3 de df dg dh fj => ?_)))
   have b4 := c.step dg dh
   have di : Own eInt 3 x de w.heap.size b3 ([cmpI ((births ns).getD ((i : Int) - 1).toNat 0) ((births ns).getD i 0), cmpL ((ns.getD ((i : Int) - 1).toNat default).l) ((ns.getD i default).l), cmpL ((ns.getD ((i : Int) - 1).toNat default).r) ((ns.getD i default).r)]) := df.weaken c.size
   refine ⟨fun _ => b4.pins, ?_⟩
   obtain ⟨dj, bi, ax, dk, fk⟩ := di.sealed b4
   refine dO (i := 21) (zO (i := 21) rfl rfl rfl (zD rfl _) (zM (vs := [b3]) Try.func37 nm37 rfl rfl rfl ?_))
   refine Calls.mono (cmpOr_spec ax.pins dk) ?_
   rintro _ _ ⟨rfl, rfl⟩
   refine ⟨_, rfl, ?_⟩
   refine ⟨fun _ => (Pins.of_le ax.pins bi), ?_⟩
   refine dT (i := 22) rfl rfl (by kernel_rfl) (fun _ _ => r_geq rfl rfl) (Pins.of_le ax.pins bi) ?_
   refine yJ (by kernel_rfl) ?_
   refine zA ?_
   refine zZ (p := (0 : Int) ≤ (orL ([cmpI ((births ns).getD ((i : Int) - 1).toNat 0) ((births ns).getD i 0), cmpL ((ns.getD ((i : Int) - 1).toNat default).l) ((ns.getD i default).l), cmpL ((ns.getD ((i : Int) - 1).toNat default).r) ((ns.getD i default).r)]))) rfl rfl (fun dl => ?_) (fun dl => ?_)
   ·skip
    refine zB (zC ?_)
    refine qM (.bool false) ?_
    refine qe (zA ?_)
    refine wp_ret ?_
    refine zS ?_
    refine zR (v := (.bool false)) rfl rfl rfl ?_
    exact ⟨_, congrArg (fun z => Ending.returned (Value.bool z)) (goodB_false.2 (fun g => by have := g.sorted i (by omega) (by omega); unfold pairC at this; rw [show i - 1 = ((i : Int) - 1).toNat by omega] at this; omega)).symm, ax⟩
   refine wp_skip ?_
   refine zW ?_
   refine zA (zC ?_)
   refine qM (vJ (i : Int)) ?_
   refine qD rfl (yE rfl rfl (by omega)) ?_
   refine qM (vJ ((i : Int) + 1)) ?_
   refine qe ?_
   refine zY ?_
   have hstep : pairC ns (births ns) i < 0 := by
    unfold pairC; rw [show i - 1 = ((i : Int) - 1).toNat by omega]; omega
   refine ⟨_, ?_, _, rfl, _, i + 1, dj, (pS 6 (pS 5 (pU 1))), rfl, ax, (Pin.le_trans (Pin.le_trans f bh) bi), (by omega), (fun k h1 h2 => if h3 : k = i then h3 ▸ hstep else hsr k h1 (by omega))⟩
   omega
  ·skip
   refine xC (S := fun wz => Pins aq wz) (last := 14) (by kernel_rfl) rfl ?_
   have b5 : Below bd.heap.size bd bd.drew := (Below.refl _ _).drew
   have dn := ad.pins.below b5
   have o := ad.step dn b5
   refine dT (i := 0) rfl rfl (by kernel_rfl) (fun _ _ => zL (k := 0) rfl Try.underlying26 rfl nz24 rfl) o.pins ?_
   refine dT (i := 1) rfl rfl (by kernel_rfl) (fun _ hS => zN (u := v) ag24 rfl ((Pins.of_le hS (Pin.le_trans (Pin.le_trans (Pin.le_trans d m.le) q) f)) _ _ _ (y 0 _ rfl))) o.pins ?_
   refine dM 2 (vJ (i : Int)) o.pins ?_
   refine dT (i := 3) rfl rfl (by kernel_rfl) (fun _ _ => r_sub rfl rfl (by omega)) o.pins ?_
   refine dT (i := 4) rfl rfl (by kernel_rfl) (fun _ _ => zG Try.underlying24 sz53 (v := v) rfl rfl hv (by omega) (by omega)) o.pins ?_
   obtain ⟨ae, af, ay, az, dp⟩ := qB (hv.at (z := ((i : Int) - 1)) (by omega) (by omega)) (j := ((i : Int) - 1).toNat) rfl
   have fl := ay.max
   have fm := az.max
   refine dT (i := 5) rfl rfl (by kernel_rfl) (fun _ hS => dp ag53 sz53 rfl (Pins.of_le hS (Pin.le_trans (Pin.le_trans (Pin.le_trans (Pin.le_trans s d) m.le) q) f))) o.pins ?_
   refine dT (i := 6) rfl rfl (by kernel_rfl) (fun _ _ => zL (k := 0) rfl Try.underlying26 rfl nz24 rfl) o.pins ?_
   refine dT (i := 7) rfl rfl (by kernel_rfl) (fun _ hS => zN (u := v) ag24 rfl ((Pins.of_le hS (Pin.le_trans (Pin.le_trans (Pin.le_trans d m.le) q) f)) _ _ _ (y 0 _ rfl))) o.pins ?_
   refine dM 8 (vJ (i : Int)) o.pins ?_
   refine dT (i := 9) rfl rfl (by kernel_rfl) (fun _ _ => zG Try.underlying24 sz53 (v := v) rfl rfl hv (by omega) (by omega)) o.pins ?_
   obtain ⟨ag, ah, a0, a1, dq⟩ := qB (hv.at (z := (i : Int)) (by omega) (by omega)) (j := i) rfl
   have fn := a0.max
   have fo := a1.max
   refine dT (i := 10) rfl rfl (by kernel_rfl) (fun _ hS => dq ag53 sz53 rfl (Pins.of_le hS (Pin.le_trans (Pin.le_trans (Pin.le_trans (Pin.le_trans s d) m.le) q) f))) o.pins ?_
   refine qC (i := 11) (j := 12) (by kernel_rfl) ?_ ?_
   ·skip
    refine (zO (i := 11) rfl rfl rfl (zD rfl _) (yN [(.slice none 0 0), (.slice none 0 0)] zr53 rfl o.pins (fun bk fp fq b6 dr ds => ?_)))
    have a4 := o.step dr ds
    have b7 : w.heap.size ≤ bk := by have := o.size; omega
    refine ⟨fun _ => a4.pins, ?_⟩
    refine dO (i := 12) (zO (i := 12) rfl rfl rfl (zD rfl _) (yN [(.slice none 0 0), (.slice none 0 0)] zr53 rfl a4.pins (fun bl fr dt du dv b8 => ?_)))
    have bm := a4.step dv b8
    have dw := b6.below b8
    have b9 : Apart (some bl) (some bk) := zI (congrArg some dt) b6.lt
    have ca : w.heap.size ≤ bl := by have := a4.size; omega
    refine ⟨fun _ => bm.pins, ?_⟩
    refine dO (i := 13) (drOp0 (i := 13) rfl rfl rfl (zD rfl _) (yW (cs' := [ae, af]) (us := [ae, af]) (v := (.agg [ae, af].toArray)) sz53 rfl rfl rfl (ones2 ay.one az.one) bm.pins dw (Nat.le_of_ble_eq_true rfl) rfl (fun fs dx dy cb ft => ?_)))
    have dz := bm.write dy cb ((yI b7))
    have d0 := du.keptA cb b9
    obtain ⟨fu, ak, bn, d1, d2⟩ := dx.shut dz b7
    have d3 := d0.moreA d2 b9
    refine ⟨fun _ => (Pins.of_le bn.pins ak), ?_⟩
    refine dO (i := 14) (drOp0 (i := 14) rfl rfl rfl (zD rfl _) (yW (cs' := [ag, ah]) (us := [ag, ah]) (v := (.agg [ag, ah].toArray)) sz53 rfl rfl rfl (ones2 a0.one a1.one) bn.pins d3 (Nat.le_of_ble_eq_true rfl) rfl (fun fv d4 d5 d6 fw => ?_)))
    have d7 := bn.write d5 d6 ((yI ca))
    obtain ⟨d8, al, d9, ea, fx⟩ := d4.shut d7 ca
    refine ⟨fun h => absurd rfl h, ?_⟩
    refine yJ (by kernel_rfl) ?_
    exact xP ⟨_, bk, ae, af, bl, ag, ah, d8, (pS 8 (pS 7 (pS 6 (pS 5 (pU 1))))), d9, (Pin.le_trans ak al), (ay.mono (Pin.le_trans (Pin.le_trans (Pin.le_trans (Pin.le_trans (Pin.le_trans (Pin.le_trans s d) m.le) q) f) ak) al)), (az.mono (Pin.le_trans (Pin.le_trans (Pin.le_trans (Pin.le_trans (Pin.le_trans (Pin.le_trans s d) m.le) q) f) ak) al)), (a0.mono (Pin.le_trans (Pin.le_trans (Pin.le_trans (Pin.le_trans (Pin.le_trans (Pin.le_trans s d) m.le) q) f) ak) al)), (a1.mono (Pin.le_trans (Pin.le_trans (Pin.le_trans (Pin.le_trans (Pin.le_trans (Pin.le_trans s d) m.le) q) f) ak) al)), (d1.mono al), (ea.mono (Pin.le_refl _))⟩
   ·skip
    refine (zO (i := 12) rfl rfl rfl (zD rfl _) (yN [(.slice none 0 0), (.slice none 0 0)] zr53 rfl o.pins (fun bo fy fz cc eb ec => ?_)))
    have a5 := o.step eb ec
    have cd : w.heap.size ≤ bo := by have := o.size; omega
    refine ⟨fun _ => a5.pins, ?_⟩
    refine dO (i := 11) (zO (i := 11) rfl rfl rfl (zD rfl _) (yN [(.slice none 0 0), (.slice none 0 0)] zr53 rfl a5.pins (fun bp f0 ed ee ef ce => ?_)))
    have bq := a5.step ef ce
    have eg := cc.below ce
    have cf : Apart (some bp) (some bo) := zI (congrArg some ed) cc.lt
    have cg : w.heap.size ≤ bp := by have := a5.size; omega
    refine ⟨fun _ => bq.pins, ?_⟩
    refine dO (i := 13) (drOp0 (i := 13) rfl rfl rfl (zD rfl _) (yW (cs' := [ae, af]) (us := [ae, af]) (v := (.agg [ae, af].toArray)) sz53 rfl rfl rfl (ones2 ay.one az.one) bq.pins ee (Nat.le_of_ble_eq_true rfl) rfl (fun f1 eh ei ch f2 => ?_)))
    have ej := bq.write ei ch ((yI cg))
    have ek := eg.keptA ch cf.symm
    obtain ⟨f3, am, br, el, em⟩ := eh.shut ej cg
    have eo := ek.moreA em cf.symm
    refine ⟨fun _ => (Pins.of_le br.pins am), ?_⟩
    refine dO (i := 14) (drOp0 (i := 14) rfl rfl rfl (zD rfl _) (yW (cs' := [ag, ah]) (us := [ag, ah]) (v := (.agg [ag, ah].toArray)) sz53 rfl rfl rfl (ones2 a0.one a1.one) br.pins eo (Nat.le_of_ble_eq_true rfl) rfl (fun f4 ep eq er f5 => ?_)))
    have es := br.write eq er ((yI cd))
    obtain ⟨et, an, eu, ev, f6⟩ := ep.shut es cd
    refine ⟨fun h => absurd rfl h, ?_⟩
    refine yJ (by kernel_rfl) ?_
    exact xP ⟨_, bp, ae, af, bo, ag, ah, et, (pS 8 (pS 7 (pS 6 (pS 5 (pU 1))))), eu, (Pin.le_trans am an), (ay.mono (Pin.le_trans (Pin.le_trans (Pin.le_trans (Pin.le_trans (Pin.le_trans (Pin.le_trans s d) m.le) q) f) am) an)), (az.mono (Pin.le_trans (Pin.le_trans (Pin.le_trans (Pin.le_trans (Pin.le_trans (Pin.le_trans s d) m.le) q) f) am) an)), (a0.mono (Pin.le_trans (Pin.le_trans (Pin.le_trans (Pin.le_trans (Pin.le_trans (Pin.le_trans s d) m.le) q) f) am) an)), (a1.mono (Pin.le_trans (Pin.le_trans (Pin.le_trans (Pin.le_trans (Pin.le_trans (Pin.le_trans s d) m.le) q) f) am) an)), (el.mono an), (ev.mono (Pin.le_refl _))⟩
 refine wp_exit ?_
 refine zV ?_
 refine yD ?_
 refine yB ?_
 refine zA (zB (zC ?_))
 refine qD rfl (zL (k := 0) rfl Try.underlying26 rfl nz24 rfl) ?_
 refine qD rfl (zN (u := v) ag24 rfl ((Pins.of_le ad.pins (Pin.le_trans (Pin.le_trans (Pin.le_trans d m.le) q) f)) _ _ _ (y 0 _ rfl))) ?_
 refine qD rfl (zL (k := 0) rfl Try.underlying26 rfl nz24 rfl) ?_
 refine qD rfl (zN (u := v) ag24 rfl ((Pins.of_le ad.pins (Pin.le_trans (Pin.le_trans (Pin.le_trans d m.le) q) f)) _ _ _ (y 0 _ rfl))) ?_
 refine qD rfl (zK Try.underlying24 (v := v) rfl hv) ?_
 refine qD rfl (r_sub rfl rfl (by omega)) ?_
 refine qI rfl (zM (vs := [v, (vJ ((ns.length : Int) - 1))]) Try.func41 nm41 rfl rfl rfl ?_)
 refine Calls.mono (used_spec ad.pins (hv.mono (Pin.le_trans (Pin.le_trans (Pin.le_trans (Pin.le_trans s d) m.le) q) f)) (opts_ok hopts) (by omega)) ?_
 rintro _ ew ⟨ci, ex, rfl, ey, ez⟩
 refine ⟨_, rfl, ?_⟩
 have e0 := ad.tr ez
 have e1 : Own eBool 4 ex ew w.heap.size ci (usedM ns ((ns.length : Int) - 1).toNat) := ey.weaken ad.size
 obtain ⟨f7, f8, cj, e2, f9⟩ := e1.sealed e0
 refine qI rfl (zM (vs := [ci, (.bool false)]) Try.func40 nm40 rfl rfl rfl ?_)
 refine Calls.mono (slContains_spec cj.pins e2) ?_
 rintro _ _ ⟨rfl, rfl⟩
 refine ⟨_, rfl, ?_⟩
 refine qD rfl (xN rfl) ?_
 refine qM (.bool (!(decide ((0 : Int) ≤ idxB (usedM ns ((ns.length : Int) - 1).toNat) false)))) ?_
 refine qe (zA ?_)
 refine wp_ret ?_
 refine zS ?_
 refine zR (v := (.bool (!(decide ((0 : Int) ≤ idxB (usedM ns ((ns.length : Int) - 1).toNat) false))))) rfl rfl rfl ?_
 exact ⟨_, congrArg (fun z => Ending.returned (Value.bool z)) (goodB_used (by omega) (by omega) (by omega) hopts (fun k h1 h2 => hsr k h1 (by omega))).symm, cj⟩

end B1
end Go.Proofs.Ytkfgdhanaijddaa

set_option maxRecDepth 20000
set_option maxHeartbeats 2000000
namespace Go.Proofs.Ytkfgdhanaijddaa
namespace C1
open Go.RowKit Go.GL Go.Proofs
open Go.Proofs.Ytkfgdhanaijddaa.B1











theorem l1In_spec {w : World} {G : Pin} {x a b : Int} (hP : Pins G w) :
  Calls Try.prog 60 [(.int .i64 x), (.int .i64 a), (.int .i64 b)].toArray w fun e w' => e = .returned (.bool (decide (a ≤ x ∧ x ≤ b))) ∧ w' = w := by
 refine yA (n := 15) Try.func60 Try.ntmps60 rfl rfl ?_
 have hX0 : Ext noS G w G w := Ext.refl hP
 refine zB (zC ?_)
 refine qM (.bool false) ?_
 refine qe (zA (zB (zC ?_)))
 refine qM (.int .i64 x) ?_
 refine qM (.int .i64 a) ?_
 refine qD rfl (r_geq rfl rfl) ?_
 refine qM (.bool (decide ((a : Int) ≤ x))) ?_
 refine qbd (p := (a : Int) ≤ x) (t := 10) rfl (fun h1 => ?_) (fun h1 => ?_)
 ·skip
  refine qN (zT (v := (.int .i64 x)) rfl) ?_
  refine qN (zT (v := (.int .i64 b)) rfl) ?_
  refine qN (r_leq rfl rfl) ?_
  refine qD rfl (xF (v := (.bool (decide ((x : Int) ≤ b)))) rfl rfl) ?_
  refine qM (.bool (decide ((x : Int) ≤ b))) ?_
  refine qe (zA ?_)
  refine wp_ret ?_
  refine zS ?_
  refine zR (v := (.bool (decide ((x : Int) ≤ b)))) rfl rfl rfl ?_
  exact ⟨congrArg (fun z => Ending.returned (Value.bool z)) (decide_eq_decide.2 (by omega)), rfl⟩
 refine qW ?_
 refine qW ?_
 refine qW ?_
 refine qD rfl (yZ (v := (.bool false)) rfl rfl) ?_
 refine qM (.bool false) ?_
 refine qe (zA ?_)
 refine wp_ret ?_
 refine zS ?_
 refine zR (v := (.bool false)) rfl rfl rfl ?_
 exact ⟨congrArg (fun z => Ending.returned (Value.bool z)) ((decide_eq_false (by omega)).symm), rfl⟩

theorem l1Most_spec {w : World} {G : Pin} {x y : Int} (hP : Pins G w) :
  Calls Try.prog 72 [(.int .i64 x), (.int .i64 y)].toArray w fun e w' => e = .returned (.int .i64 (max x y)) ∧ w' = w := by
 refine yA (n := 10) Try.func72 Try.ntmps72 rfl rfl ?_
 have hX0 : Ext noS G w G w := Ext.refl hP
 refine zB (zC ?_)
 refine qM (.int .i64 0) ?_
 refine qe (zA (zB (zB (zC ?_))))
 refine qM (.int .i64 x) ?_
 refine qM (.int .i64 y) ?_
 refine qD rfl (r_gtr rfl rfl) ?_
 refine qe (zA ?_)
 refine zZ (p := (y : Int) < x) rfl rfl (fun h1 => ?_) (fun h1 => ?_)
 ·skip
  refine zB (zC ?_)
  refine qM (.int .i64 x) ?_
  refine qM (.int .i64 x) ?_
  refine qe (zA ?_)
  refine wp_ret ?_
  refine zS ?_
  refine zR (v := (.int .i64 x)) rfl rfl rfl ?_
  exact ⟨congrArg (fun z => Ending.returned (Value.int .i64 z)) (by omega), rfl⟩
 refine wp_skip ?_
 refine zA (zB (zC ?_))
 refine qM (.int .i64 y) ?_
 refine qM (.int .i64 y) ?_
 refine qe (zA ?_)
 refine wp_ret ?_
 refine zS ?_
 refine zR (v := (.int .i64 y)) rfl rfl rfl ?_
 exact ⟨congrArg (fun z => Ending.returned (Value.int .i64 z)) (by omega), rfl⟩

theorem l1Rising_spec {w : World} {G : Pin} {v : Value} {xs : List Int} {lo hi : Int} (hP : Pins G w) (hv : RSl eInt G v xs) :
  Calls Try.prog 43 [v, (vJ lo), (vJ hi)].toArray w fun e w' => e = .returned (.bool (decP (Rise xs lo hi))) ∧ Ext noS G w G w' := by
 refine yA (n := 38) Try.func43 Try.ntmps43 rfl rfl ?_
 have h : Ext noS G w G w := Ext.refl hP
 have hm := hv.max
 refine zB (zC ?_)
 refine qM (.bool false) ?_
 refine qe (zA (zB (zB (zC ?_))))
 refine qM (vJ 0) ?_
 refine qe (zA ?_)
 refine zU ?_
 refine yH (fun (k : Nat) (en : Nat → Value) (W : World) => ∃ (f : Nat → Value) (j : Nat), en = (upd (upd (upd (upd f 0 v) 1 (vJ lo)) 2 (vJ hi)) 7 (vJ (j : Int))) ∧ k = xs.length - j ∧ Ext noS G w G W ∧ (j ≤ xs.length) ∧ (∀ i, i < j → (lo ≤ xs.getD i 0 ∧ xs.getD i 0 ≤ hi) ∧ (0 < i → xs.getD (i - 1) 0 < xs.getD i 0))) _ ⟨_, 0, (pS 7 (pS 2 (pS 1 (pU 0)))), rfl, h, Nat.zero_le _, (fun i hi => absurd hi (Nat.not_lt_zero i))⟩ ?_
 rintro u _ c ⟨f, j, rfl, x, d, hj, hp⟩
 refine zB (zB (zC ?_))
 refine qM (vJ (j : Int)) ?_
 refine qM v ?_
 refine qD rfl (zK Try.underlying29 (v := v) rfl hv) ?_
 refine qD rfl (yK rfl rfl) ?_
 refine qe (zA ?_)
 refine zZ (p := ((j : Int) : Int) < (xs.length : Int)) rfl rfl (fun l => ?_) (fun l => ?_)
 ·skip
  refine wp_skip ?_
  refine zA (zB ?_)
  refine zU ?_
  refine zB ?_
  refine xC (S := fun wz => Pins G wz) (last := 24) (by kernel_rfl) rfl ?_
  have g : Below c.heap.size c c.drew := (Below.refl _ _).drew
  have m := d.pins.below g
  have a := d.step m g
  refine dM 0 v a.pins ?_
  refine dM 1 (vJ (j : Int)) a.pins ?_
  refine dT (i := 2) rfl rfl (by kernel_rfl) (fun _ _ => zG Try.underlying29 sz3 (v := v) rfl rfl hv (by omega) (by omega)) a.pins ?_
  refine dT (i := 3) rfl rfl (by kernel_rfl) (fun _ hS => zJ (r := xs.getD j 0) rfl ag3 (z := (j : Int)) rfl hv hS (by omega) (by omega)) a.pins ?_
  refine dM 4 (vJ lo) a.pins ?_
  refine dM 5 (vJ hi) a.pins ?_
  refine dO (i := 6) (zO (i := 6) rfl rfl rfl (zD rfl _) (zM (vs := [(vJ (xs.getD j 0)), (vJ lo), (vJ hi)]) Try.func60 nm60 rfl rfl rfl ?_))
  refine Calls.mono (l1In_spec a.pins) ?_
  rintro _ _ ⟨rfl, rfl⟩
  refine ⟨_, rfl, ?_⟩
  refine ⟨fun _ => a.pins, ?_⟩
  refine dT (i := 7) rfl rfl (by kernel_rfl) (fun _ _ => xN rfl) a.pins ?_
  refine dM 8 (.bool (!(decide ((lo : Int) ≤ (xs.getD j 0) ∧ (xs.getD j 0 : Int) ≤ hi)))) a.pins ?_
  refine drbn (t := 22) rfl (fun b => ?_) (fun b => ?_)
  ·skip
   replace b := of_decide_eq_true b
   refine yQ (i := 9) rfl rfl rfl (yG rfl rfl rfl rfl) (by kernel_rfl) (fun _ _ => zT (v := (vJ (j : Int))) rfl) a.pins ?_
   refine yQ (i := 10) rfl rfl rfl (yG rfl rfl rfl rfl) (by kernel_rfl) (fun _ _ => r_gtr rfl rfl) a.pins ?_
   refine yQ (i := 11) rfl rfl rfl (yG rfl rfl rfl rfl) (by kernel_rfl) (fun _ _ => zT (v := (.bool (decide ((0 : Int) < (j : Int))))) rfl) a.pins ?_
   refine drbd (p := (0 : Int) < (j : Int)) (t := 25) rfl (fun o => ?_) (fun o => ?_)
   ·skip
    refine yQ (i := 12) rfl rfl rfl (yG rfl rfl rfl rfl) (by kernel_rfl) (fun _ _ => zT (v := v) rfl) a.pins ?_
    refine yQ (i := 13) rfl rfl rfl (yG rfl rfl rfl rfl) (by kernel_rfl) (fun _ _ => zT (v := (vJ (j : Int))) rfl) a.pins ?_
    refine yQ (i := 14) rfl rfl rfl (yG rfl rfl rfl rfl) (by kernel_rfl) (fun _ _ => r_sub rfl rfl (by omega)) a.pins ?_
    refine yQ (i := 15) rfl rfl rfl (yG rfl rfl rfl rfl) (by kernel_rfl) (fun _ _ => zG Try.underlying29 sz3 (v := v) rfl rfl hv (by omega) (by omega)) a.pins ?_
    refine yQ (i := 16) rfl rfl rfl (yG rfl rfl rfl rfl) (by kernel_rfl) (fun _ hS => zJ (r := xs.getD ((j : Int) - 1).toNat 0) rfl ag3 (z := ((j : Int) - 1)) rfl hv hS (by omega) (by omega)) a.pins ?_
    refine yQ (i := 17) rfl rfl rfl (yG rfl rfl rfl rfl) (by kernel_rfl) (fun _ _ => zT (v := v) rfl) a.pins ?_
    refine yQ (i := 18) rfl rfl rfl (yG rfl rfl rfl rfl) (by kernel_rfl) (fun _ _ => zT (v := (vJ (j : Int))) rfl) a.pins ?_
    refine yQ (i := 19) rfl rfl rfl (yG rfl rfl rfl rfl) (by kernel_rfl) (fun _ _ => zG Try.underlying29 sz3 (v := v) rfl rfl hv (by omega) (by omega)) a.pins ?_
    refine yQ (i := 20) rfl rfl rfl (yG rfl rfl rfl rfl) (by kernel_rfl) (fun _ hS => zJ (r := xs.getD j 0) rfl ag3 (z := (j : Int)) rfl hv hS (by omega) (by omega)) a.pins ?_
    refine yQ (i := 21) rfl rfl rfl (yG rfl rfl rfl rfl) (by kernel_rfl) (fun _ _ => r_geq rfl rfl) a.pins ?_
    refine yQ (i := 22) rfl rfl rfl (yG rfl rfl rfl rfl) (by kernel_rfl) (fun _ _ => xF (v := (.bool (decide ((xs.getD j 0 : Int) ≤ (xs.getD ((j : Int) - 1).toNat 0))))) rfl rfl) a.pins ?_
    refine dT (i := 23) rfl rfl (by kernel_rfl) (fun _ _ => yZ (v := (.bool (decide ((xs.getD j 0 : Int) ≤ (xs.getD ((j : Int) - 1).toNat 0))))) rfl rfl) a.pins ?_
    refine yJ (by kernel_rfl) ?_
    refine zA ?_
    refine zZ (p := (xs.getD j 0 : Int) ≤ (xs.getD ((j : Int) - 1).toNat 0)) rfl rfl (fun q => ?_) (fun q => ?_)
    ·skip
     refine zB (zC ?_)
     refine qM (.bool false) ?_
     refine qe (zA ?_)
     refine wp_ret ?_
     refine zS ?_
     refine zR (v := (.bool false)) rfl rfl rfl ?_
     exact ⟨congrArg (fun z => Ending.returned (Value.bool z)) (decP_false.2 (fun hR => by have := hR j (by omega); rw [show j - 1 = ((j : Int) - 1).toNat by omega] at this; omega)).symm, a⟩
    refine wp_skip ?_
    refine zW ?_
    refine zA (zC ?_)
    refine qM (vJ (j : Int)) ?_
    refine qD rfl (yE rfl rfl (by omega)) ?_
    refine qM (vJ ((j : Int) + 1)) ?_
    refine qe ?_
    refine zY ?_
    refine ⟨_, ?_, _, rfl, _, j + 1, (pS 7 (pS 2 (pS 1 (pU 0)))), rfl, a, (by omega), (rise_step hp (by omega) (fun s => by rw [show j - 1 = ((j : Int) - 1).toNat by omega]; omega))⟩
    omega
   refine yF (i := 12) rfl rfl (yP rfl rfl rfl rfl rfl) (by kernel_rfl) a.pins ?_
   refine yF (i := 13) rfl rfl (yP rfl rfl rfl rfl rfl) (by kernel_rfl) a.pins ?_
   refine yF (i := 14) rfl rfl (yP rfl rfl rfl rfl rfl) (by kernel_rfl) a.pins ?_
   refine yF (i := 15) rfl rfl (yP rfl rfl rfl rfl rfl) (by kernel_rfl) a.pins ?_
   refine yF (i := 16) rfl rfl (yP rfl rfl rfl rfl rfl) (by kernel_rfl) a.pins ?_
   refine yF (i := 17) rfl rfl (yP rfl rfl rfl rfl rfl) (by kernel_rfl) a.pins ?_
   refine yF (i := 18) rfl rfl (yP rfl rfl rfl rfl rfl) (by kernel_rfl) a.pins ?_
   refine yF (i := 19) rfl rfl (yP rfl rfl rfl rfl rfl) (by kernel_rfl) a.pins ?_
   refine yF (i := 20) rfl rfl (yP rfl rfl rfl rfl rfl) (by kernel_rfl) a.pins ?_
   refine yF (i := 21) rfl rfl (yP rfl rfl rfl rfl rfl) (by kernel_rfl) a.pins ?_
   refine yQ (i := 22) rfl rfl rfl (yG rfl rfl rfl rfl) (by kernel_rfl) (fun _ _ => yZ (v := (.bool false)) rfl rfl) a.pins ?_
   refine dT (i := 23) rfl rfl (by kernel_rfl) (fun _ _ => yZ (v := (.bool false)) rfl rfl) a.pins ?_
   refine yJ (by kernel_rfl) ?_
   refine zA ?_
   refine c_ifF rfl rfl ?_
   refine wp_skip ?_
   refine zW ?_
   refine zA (zC ?_)
   refine qM (vJ (j : Int)) ?_
   refine qD rfl (yE rfl rfl (by omega)) ?_
   refine qM (vJ ((j : Int) + 1)) ?_
   refine qe ?_
   refine zY ?_
   refine ⟨_, ?_, _, rfl, _, j + 1, (pS 7 (pS 2 (pS 1 (pU 0)))), rfl, a, (by omega), (rise_step hp (by omega) (fun s => by rw [show j - 1 = ((j : Int) - 1).toNat by omega]; omega))⟩
   omega
  replace b := of_decide_eq_false b
  refine yF (i := 9) rfl rfl (yP rfl rfl rfl rfl rfl) (by kernel_rfl) a.pins ?_
  refine yF (i := 10) rfl rfl (yP rfl rfl rfl rfl rfl) (by kernel_rfl) a.pins ?_
  refine yF (i := 11) rfl rfl (yP rfl rfl rfl rfl rfl) (by kernel_rfl) a.pins ?_
  refine yF (i := 12) rfl rfl (xO rfl rfl rfl rfl) (by kernel_rfl) a.pins ?_
  refine yF (i := 13) rfl rfl (xO rfl rfl rfl rfl) (by kernel_rfl) a.pins ?_
  refine yF (i := 14) rfl rfl (xO rfl rfl rfl rfl) (by kernel_rfl) a.pins ?_
  refine yF (i := 15) rfl rfl (xO rfl rfl rfl rfl) (by kernel_rfl) a.pins ?_
  refine yF (i := 16) rfl rfl (xO rfl rfl rfl rfl) (by kernel_rfl) a.pins ?_
  refine yF (i := 17) rfl rfl (xO rfl rfl rfl rfl) (by kernel_rfl) a.pins ?_
  refine yF (i := 18) rfl rfl (xO rfl rfl rfl rfl) (by kernel_rfl) a.pins ?_
  refine yF (i := 19) rfl rfl (xO rfl rfl rfl rfl) (by kernel_rfl) a.pins ?_
  refine yF (i := 20) rfl rfl (xO rfl rfl rfl rfl) (by kernel_rfl) a.pins ?_
  refine yF (i := 21) rfl rfl (xO rfl rfl rfl rfl) (by kernel_rfl) a.pins ?_
  refine yF (i := 22) rfl rfl (yP rfl rfl rfl rfl rfl) (by kernel_rfl) a.pins ?_
  refine dT (i := 23) rfl rfl (by kernel_rfl) (fun _ _ => xF (v := (.bool true)) rfl rfl) a.pins ?_
  refine yJ (by kernel_rfl) ?_
  refine zA ?_
  refine c_ifT rfl rfl ?_
  refine zB (zC ?_)
  refine qM (.bool false) ?_
  refine qe (zA ?_)
  refine wp_ret ?_
  refine zS ?_
  refine zR (v := (.bool false)) rfl rfl rfl ?_
  exact ⟨congrArg (fun z => Ending.returned (Value.bool z)) (decP_false.2 (fun hR => by have := hR j (by omega); rw [show j - 1 = ((j : Int) - 1).toNat by omega] at this; omega)).symm, a⟩
 refine wp_exit ?_
 refine zV ?_
 refine yD ?_
 refine yB ?_
 refine zA (zB (zC ?_))
 refine qM (.bool true) ?_
 refine qe (zA ?_)
 refine wp_ret ?_
 refine zS ?_
 refine zR (v := (.bool true)) rfl rfl rfl ?_
 exact ⟨congrArg (fun z => Ending.returned (Value.bool z)) (decP_true.2 (Rise.done (by omega) hp)).symm, d⟩

theorem l3Fits_spec {w : World} {G : Pin} {v : Value} {ns : List Nd} (hP : Pins G w) (hv : RSl eNode G v ns) :
  Calls Try.prog 42 [(.agg [v].toArray)].toArray w fun e w' => ∃ G', e = .returned (.bool (decP (FitsP ns))) ∧ Ext noS G w G' w' := by
 refine yA (n := 37) Try.func42 Try.ntmps42 rfl rfl ?_
 have c : Ext noS G w G w := Ext.refl hP
 have hm := hv.max
 refine zB (zC ?_)
 refine qI rfl (xZ [v] (v := (.agg [v].toArray)) rfl rfl c.pins (fun d w2 am q s x => ?_))
 have y := c.step s x
 have aa : w.heap.size ≤ d := by have := c.size; omega
 obtain ⟨G9, f, ac, b, an⟩ := q.shut y aa
 refine qM (.bool false) ?_
 refine qe (zA (zB (zB (zC ?_))))
 refine qM (vJ 0) ?_
 refine qe (zA ?_)
 refine zU ?_
 refine yH (fun (k : Nat) (en : Nat → Value) (W : World) => ∃ (h : Nat → Value) (j : Nat), en = (upd (upd h 1 (.pointer (some ⟨d, 0, none⟩))) 3 (vJ (j : Int))) ∧ k = 121 - j ∧ Ext noS G w G9 W ∧ (j ≤ ns.length ∧ j ≤ 121) ∧ (∀ k, k < j → (ns.getD k default).l.length ≤ 24 ∧ (ns.getD k default).r.length ≤ 24)) _ ⟨_, 0, (pS 3 (pU 1)), rfl, ac, (by omega), (fun i hi => absurd hi (Nat.not_lt_zero i))⟩ ?_
 rintro ao _ ap ⟨h, j, rfl, aq, a, hj, hp⟩
 refine zB (zB (zC ?_))
 refine qM (vJ (j : Int)) ?_
 refine qD rfl (zL (k := 0) rfl Try.underlying26 rfl nz24 rfl) ?_
 refine qD rfl (zN (u := v) ag24 rfl (a.pins _ _ _ (b 0 _ rfl))) ?_
 refine qD rfl (zK Try.underlying24 (v := v) rfl hv) ?_
 refine qD rfl (yK rfl rfl) ?_
 refine qM (.bool (decide (((j : Int) : Int) < (ns.length : Int)))) ?_
 refine qbd (p := ((j : Int) : Int) < (ns.length : Int)) (t := 9) rfl (fun ad => ?_) (fun ad => ?_)
 ·skip
  refine qN (zT (v := (vJ (j : Int))) rfl) ?_
  refine qN (r_leq rfl rfl) ?_
  refine qD rfl (xF (v := (.bool (decide (((j : Int) : Int) ≤ 120)))) rfl rfl) ?_
  refine qe (zA ?_)
  refine zZ (p := ((j : Int) : Int) ≤ 120) rfl rfl (fun ae => ?_) (fun ae => ?_)
  ·skip
   refine wp_skip ?_
   refine zA (zB ?_)
   refine zU ?_
   refine zB (zC ?_)
   refine qD rfl (zL (k := 0) rfl Try.underlying26 rfl nz24 rfl) ?_
   refine qD rfl (zN (u := v) ag24 rfl (a.pins _ _ _ (b 0 _ rfl))) ?_
   refine qM (vJ (j : Int)) ?_
   refine qD rfl (zG Try.underlying24 sz53 (v := v) rfl rfl hv (by omega) (by omega)) ?_
   refine qD rfl (yX (off := 0) Try.underlying53 rfl rfl nz29 (z := (j : Int)) (k := 0) rfl hv (by omega) (by omega)) ?_
   obtain ⟨af, m, ag⟩ := nm_nl (hv.at (z := (j : Int)) (by omega) (by omega)) (j := j) rfl
   have ar := m.max
   refine qD rfl (ag ag29 rfl (Pins.of_le a.pins f)) ?_
   refine qD rfl (zK Try.underlying29 (v := af) rfl m) ?_
   refine qD rfl (r_gtr rfl rfl) ?_
   refine qM (.bool (decide ((24 : Int) < (((ns.getD j default).l).length : Int)))) ?_
   refine qbd (p := (24 : Int) < (((ns.getD j default).l).length : Int)) (t := 23) rfl (fun ah => ?_) (fun ah => ?_)
   ·skip
    refine qW ?_
    refine qW ?_
    refine qW ?_
    refine qW ?_
    refine qW ?_
    refine qW ?_
    refine qW ?_
    refine qW ?_
    refine qD rfl (xF (v := (.bool true)) rfl rfl) ?_
    refine qe (zA ?_)
    refine c_ifT rfl rfl ?_
    refine zB (zC ?_)
    refine qM (.bool false) ?_
    refine qe (zA ?_)
    refine wp_ret ?_
    refine zS ?_
    refine zR (v := (.bool false)) rfl rfl rfl ?_
    exact ⟨_, congrArg (fun z => Ending.returned (Value.bool z)) (decP_false.2 (fun g => by have := g.opts j (by omega); omega)).symm, a⟩
   refine qN (zL (k := 0) rfl Try.underlying26 rfl nz24 rfl) ?_
   refine qN (zN (u := v) ag24 rfl (a.pins _ _ _ (b 0 _ rfl))) ?_
   refine qN (zT (v := (vJ (j : Int))) rfl) ?_
   refine qN (zG Try.underlying24 sz53 (v := v) rfl rfl hv (by omega) (by omega)) ?_
   refine qN (yX (off := 1) Try.underlying53 rfl rfl nz29 (z := (j : Int)) (k := 0) rfl hv (by omega) (by omega)) ?_
   obtain ⟨ai, o, aj⟩ := nm_nr (hv.at (z := (j : Int)) (by omega) (by omega)) (j := j) rfl
   have au := o.max
   refine qN (aj ag29 rfl (Pins.of_le a.pins f)) ?_
   refine qN (zK Try.underlying29 (v := ai) rfl o) ?_
   refine qN (r_gtr rfl rfl) ?_
   refine qD rfl (yZ (v := (.bool (decide ((24 : Int) < (((ns.getD j default).r).length : Int))))) rfl rfl) ?_
   refine qe (zA ?_)
   refine zZ (p := (24 : Int) < (((ns.getD j default).r).length : Int)) rfl rfl (fun ak => ?_) (fun ak => ?_)
   ·skip
    refine zB (zC ?_)
    refine qM (.bool false) ?_
    refine qe (zA ?_)
    refine wp_ret ?_
    refine zS ?_
    refine zR (v := (.bool false)) rfl rfl rfl ?_
    exact ⟨_, congrArg (fun z => Ending.returned (Value.bool z)) (decP_false.2 (fun g => by have := g.opts j (by omega); omega)).symm, a⟩
   refine wp_skip ?_
   refine zW ?_
   refine zA (zC ?_)
   refine qM (vJ (j : Int)) ?_
   refine qD rfl (yE rfl rfl (by omega)) ?_
   refine qM (vJ ((j : Int) + 1)) ?_
   refine qe ?_
   refine zY ?_
   refine ⟨_, ?_, _, rfl, _, j + 1, (pS 3 (pU 1)), rfl, a, (by omega), (fun k hk => if h3 : k = j then h3 ▸ ⟨by omega, by omega⟩ else hp k (by omega))⟩
   omega
  refine wp_exit ?_
  refine zV ?_
  refine yD ?_
  refine yB ?_
  refine zA (zB (zC ?_))
  refine qD rfl (zL (k := 0) rfl Try.underlying26 rfl nz24 rfl) ?_
  refine qD rfl (zN (u := v) ag24 rfl (a.pins _ _ _ (b 0 _ rfl))) ?_
  refine qD rfl (zK Try.underlying24 (v := v) rfl hv) ?_
  refine qI rfl (zM (vs := [(vJ (ns.length : Int)), (vJ 1), (vJ 120)]) Try.func60 nm60 rfl rfl rfl ?_)
  refine Calls.mono (l1In_spec a.pins) ?_
  rintro _ _ ⟨rfl, rfl⟩
  refine ⟨_, rfl, ?_⟩
  refine qM (.bool (decide ((1 : Int) ≤ (ns.length : Int) ∧ ((ns.length : Int) : Int) ≤ 120))) ?_
  refine qe (zA ?_)
  refine wp_ret ?_
  refine zS ?_
  refine zR (v := (.bool (decide ((1 : Int) ≤ (ns.length : Int) ∧ ((ns.length : Int) : Int) ≤ 120)))) rfl rfl rfl ?_
  exact ⟨_, congrArg (fun z => Ending.returned (Value.bool z)) (fits_end hp (by omega) (by omega)), a⟩
 refine qW ?_
 refine qW ?_
 refine qD rfl (yZ (v := (.bool false)) rfl rfl) ?_
 refine qe (zA ?_)
 refine c_ifF rfl rfl ?_
 refine wp_exit ?_
 refine zV ?_
 refine yD ?_
 refine yB ?_
 refine zA (zB (zC ?_))
 refine qD rfl (zL (k := 0) rfl Try.underlying26 rfl nz24 rfl) ?_
 refine qD rfl (zN (u := v) ag24 rfl (a.pins _ _ _ (b 0 _ rfl))) ?_
 refine qD rfl (zK Try.underlying24 (v := v) rfl hv) ?_
 refine qI rfl (zM (vs := [(vJ (ns.length : Int)), (vJ 1), (vJ 120)]) Try.func60 nm60 rfl rfl rfl ?_)
 refine Calls.mono (l1In_spec a.pins) ?_
 rintro _ _ ⟨rfl, rfl⟩
 refine ⟨_, rfl, ?_⟩
 refine qM (.bool (decide ((1 : Int) ≤ (ns.length : Int) ∧ ((ns.length : Int) : Int) ≤ 120))) ?_
 refine qe (zA ?_)
 refine wp_ret ?_
 refine zS ?_
 refine zR (v := (.bool (decide ((1 : Int) ≤ (ns.length : Int) ∧ ((ns.length : Int) : Int) ≤ 120)))) rfl rfl rfl ?_
 exact ⟨_, congrArg (fun z => Ending.returned (Value.bool z)) (fits_end hp (by omega) (by omega)), a⟩

theorem l1Put_spec {w : World} {G : Pin} {v : Value} {xs : List Int} {n : Int} (hP : Pins G w) (hv : RSl eInt G v xs) (hs : xs.length ≤ 2097152) :
  Calls Try.prog 70 [v, (vJ n)].toArray w fun e w' => ∃ (u : Value) (G' : Pin), e = .returned u ∧ RSl eInt G' u (putL xs n) ∧ Ext noS G w G' w' := by
 refine yA (n := 45) Try.func70 Try.ntmps70 rfl rfl ?_
 have cm : Ext noS G w G w := Ext.refl hP
 refine zB (zC ?_)
 refine qM (.slice none 0 0) ?_
 refine qe (zA (zB (zC ?_)))
 refine qM (vJ 0) ?_
 refine qe (zA (zB ?_))
 refine zU ?_
 refine yH (fun (k : Nat) (en : Nat → Value) (W : World) => ∃ (c : Nat → Value) (j : Nat), en = (upd (upd (upd (upd c 0 v) 1 (vJ n)) 4 (.slice none 0 0)) 5 (vJ (j : Int))) ∧ k = xs.length - j ∧ Ext noS G w G W ∧ (j ≤ xs.length) ∧ (putL xs n = xs.take j ++ putL (xs.drop j) n)) _ ⟨_, 0, (pS 5 (pS 4 (pS 1 (pU 0)))), rfl, cm, Nat.zero_le _, rfl⟩ ?_
 rintro k1 _ l ⟨c, j, rfl, f3, d, hj, hr⟩
 refine zB (zB (zC ?_))
 refine qM (vJ (j : Int)) ?_
 refine qM v ?_
 refine qD rfl (zK Try.underlying29 (v := v) rfl hv) ?_
 refine qD rfl (yK rfl rfl) ?_
 refine qM (.bool (decide (((j : Int) : Int) < (xs.length : Int)))) ?_
 refine qbd (p := ((j : Int) : Int) < (xs.length : Int)) (t := 10) rfl (fun h5 => ?_) (fun h5 => ?_)
 ·skip
  refine qN (zT (v := v) rfl) ?_
  refine qN (zT (v := (vJ (j : Int))) rfl) ?_
  refine qN (zG Try.underlying29 sz3 (v := v) rfl rfl hv (by omega) (by omega)) ?_
  refine qN (zJ (r := xs.getD j 0) rfl ag3 (z := (j : Int)) rfl hv d.pins (by omega) (by omega)) ?_
  refine qN (zT (v := (vJ n)) rfl) ?_
  refine qN (yK rfl rfl) ?_
  refine qD rfl (xF (v := (.bool (decide ((xs.getD j 0 : Int) < n)))) rfl rfl) ?_
  refine qe (zA ?_)
  refine zZ (p := (xs.getD j 0 : Int) < n) rfl rfl (fun h6 => ?_) (fun h6 => ?_)
  ·skip
   refine wp_skip ?_
   refine zA ?_
   refine zU ?_
   refine zC ?_
   refine qM (vJ (j : Int)) ?_
   refine qD rfl (yE rfl rfl (by omega)) ?_
   refine qM (vJ ((j : Int) + 1)) ?_
   refine qe ?_
   refine zW ?_
   refine zY ?_
   refine ⟨_, ?_, _, rfl, _, j + 1, (pS 5 (pS 4 (pS 1 (pU 0)))), rfl, d, (by omega), (put_next (by omega) (by omega) hr)⟩
   omega
  refine wp_exit ?_
  refine zV ?_
  refine yD ?_
  refine yB ?_
  refine zA (zB (zB (zC ?_)))
  refine qM (vJ (j : Int)) ?_
  refine qM v ?_
  refine qD rfl (zK Try.underlying29 (v := v) rfl hv) ?_
  refine qD rfl (yK rfl rfl) ?_
  refine qM (.bool (decide (((j : Int) : Int) < (xs.length : Int)))) ?_
  refine qbd (p := ((j : Int) : Int) < (xs.length : Int)) (t := 24) rfl (fun _ => ?_) (fun h => absurd h5 h)
  refine qN (zT (v := v) rfl) ?_
  refine qN (zT (v := (vJ (j : Int))) rfl) ?_
  refine qN (zG Try.underlying29 sz3 (v := v) rfl rfl hv (by omega) (by omega)) ?_
  refine qN (zJ (r := xs.getD j 0) rfl ag3 (z := (j : Int)) rfl hv d.pins (by omega) (by omega)) ?_
  refine qN (zT (v := (vJ n)) rfl) ?_
  refine qN (r_eql rfl rfl) ?_
  refine qD rfl (xF (v := (.bool (decide ((xs.getD j 0 : Int) = n)))) rfl rfl) ?_
  refine qe (zA ?_)
  refine zZ (p := (xs.getD j 0 : Int) = n) rfl rfl (fun h8 => ?_) (fun h8 => ?_)
  ·skip
   refine zB (zC ?_)
   refine qM v ?_
   refine qM v ?_
   refine qe (zA ?_)
   refine wp_ret ?_
   refine zS ?_
   refine zR (v := v) rfl rfl rfl ?_
   exact ⟨_, _, rfl, (by rw [put_hit (by omega) (by omega) hr]; exact hv), d⟩
  refine wp_skip ?_
  refine zA (zB ?_)
  refine c_cut (fun (en : Nat → Value) (W : World) => ∃ (c : Nat → Value) (c9 : Value) (af : Pin), en = (upd c 4 c9) ∧ Ext noS G w af W ∧ Pin.le G af ∧ (Own eInt 3 af W w.heap.size c9 (((([]) ++ ((xs.take j).drop 0)) ++ ([n])) ++ ((xs.take xs.length).drop j)))) ?_ ?_
  ·rintro _ f4 ⟨c, c9, af, rfl, cp, f5, cq⟩
   refine zA ?_
   refine wp_ret ?_
   refine zS ?_
   refine zR (v := c9) rfl rfl rfl ?_
   obtain ⟨f6, f7, cr, cs, f8⟩ := cq.sealed cp
   exact ⟨_, _, rfl, (by rw [← put_new (fun h => ⟨by omega, by omega⟩) hr]; exact cs), cr⟩
  ·skip
   refine xC (S := fun wz => Pins G wz) (last := 13) (by kernel_rfl) rfl ?_
   have bj : Below l.heap.size l l.drew := (Below.refl _ _).drew
   have ct := d.pins.below bj
   have a := d.step ct bj
   refine dM 1 v a.pins ?_
   refine dM 2 (vJ (j : Int)) a.pins ?_
   obtain ⟨az, a0, cu⟩ := xU hv (lo := none) (hi := (some ((j : Int)))) (0) (j) (Or.inl ⟨rfl, rfl⟩) (Or.inr ⟨_, rfl, (by omega), rfl⟩) (by omega) (by omega)
   refine dT (i := 3) rfl rfl (by kernel_rfl) (fun _ _ => cu Try.underlying29 sz3 rfl rfl rfl) a.pins ?_
   refine dM 5 (vJ n) a.pins ?_
   refine dM 8 v a.pins ?_
   refine dM 9 (vJ (j : Int)) a.pins ?_
   obtain ⟨a1, a2, cv⟩ := xU hv (lo := (some ((j : Int)))) (hi := none) (j) (xs.length) (Or.inr ⟨_, rfl, (by omega), rfl⟩) (Or.inl ⟨rfl, rfl⟩) (by omega) (by omega)
   refine dT (i := 10) rfl rfl (by kernel_rfl) (fun _ _ => cv Try.underlying29 sz3 rfl rfl rfl) a.pins ?_
   refine qC (i := 0) (j := 6) (by kernel_rfl) ?_ ?_
   ·skip
    refine (zO (i := 0) rfl rfl rfl (zD rfl _) (yM (E := eInt) (e := 3) Try.underlying29 sz3 a.pins (fun ag cw cx cy cz f9 => ?_)))
    have f := a.step cy cz
    have ah : Own eInt 3 G cw w.heap.size ag ([]) := cx.weaken a.size
    refine ⟨fun _ => f.pins, ?_⟩
    refine qC (i := 4) (j := 6) (by kernel_rfl) ?_ ?_
    ·skip
     refine (zO (i := 4) rfl rfl rfl (zD rfl _) (oA (E := eInt) (v := ag) (u := az) 8 Try.underlying29 ap3 (by decide) rfl rfl f.pins ah ((a0.mono (Pin.le_refl _)).src f.pins (by decide)) (f.size) (fun c0 ga c1 c2 c3 gb => ?_)))
     have ai := f.write c2 c3 ((zX ah))
     have gc : (([]) ++ ((xs.take j).drop 0)).length = ([]).length + ((xs.take j).drop 0).length := List.length_append
     refine ⟨fun _ => ai.pins, ?_⟩
     refine dO (i := 6) (zO (i := 6) rfl rfl rfl (zD rfl _) (yV (E := eInt) (e := 3) [(vJ n)] [n] Try.underlying29 sz3 zr3 (by exact xT (by rfl)) (yR (by rfl)) rfl rfl rfl rfl (by decide) ai.pins (fun bk c4 c5 c6 bl gd => ?_)))
     have aj := ai.step c6 bl
     have bm := c1.below bl
     have c7 : Own eInt 3 G c4 w.heap.size bk ([n]) := c5.weaken ai.size
     refine ⟨fun _ => aj.pins, ?_⟩
     refine dO (i := 7) (zO (i := 7) rfl rfl rfl (zD rfl _) (oA (E := eInt) (v := c0) (u := bk) 8 Try.underlying29 ap3 (by decide) rfl rfl aj.pins bm c7.src (aj.size) (fun c8 ge bn da db gf => ?_)))
     have m := aj.write da db ((zX bm))
     have gg : ((([]) ++ ((xs.take j).drop 0)) ++ ([n])).length = (([]) ++ ((xs.take j).drop 0)).length + 1 := List.length_append
     refine ⟨fun _ => m.pins, ?_⟩
     refine dO (i := 11) (zO (i := 11) rfl rfl rfl (zD rfl _) (oA (E := eInt) (v := c8) (u := a1) 8 Try.underlying29 ap3 (by decide) rfl rfl m.pins bn ((a2.mono (Pin.le_refl _)).src m.pins (by decide)) (m.size) (fun bo gh dc dd de gi => ?_)))
     have a3 := m.write dd de ((zX bn))
     have gj : (((([]) ++ ((xs.take j).drop 0)) ++ ([n])) ++ ((xs.take xs.length).drop j)).length = ((([]) ++ ((xs.take j).drop 0)) ++ ([n])).length + ((xs.take xs.length).drop j).length := List.length_append
     refine ⟨fun _ => a3.pins, ?_⟩
     refine dM 12 bo a3.pins ?_
     refine yJ (by kernel_rfl) ?_
     exact xP ⟨_, bo, G, (pU 4), a3, (Pin.le_refl _), dc⟩
    ·skip
     refine (zO (i := 6) rfl rfl rfl (zD rfl _) (yV (E := eInt) (e := 3) [(vJ n)] [n] Try.underlying29 sz3 zr3 (by exact xT (by rfl)) (yR (by rfl)) rfl rfl rfl rfl (by decide) f.pins (fun a4 df dg dh bp di => ?_)))
     have o := f.step dh bp
     have bq := ah.below bp
     have dj : Apart a4.ownBlock ag.ownBlock := zE di ah.lt
     have dk : Own eInt 3 G df w.heap.size a4 ([n]) := dg.weaken f.size
     refine ⟨fun _ => o.pins, ?_⟩
     refine dO (i := 4) (zO (i := 4) rfl rfl rfl (zD rfl _) (oA (E := eInt) (v := ag) (u := az) 8 Try.underlying29 ap3 (by decide) rfl rfl o.pins bq ((a0.mono (Pin.le_refl _)).src o.pins (by decide)) (o.size) (fun dl gk br dm bs gl => ?_)))
     have ak := o.write dm bs ((zX bq))
     have dn := dk.keptA bs dj
     have gm : (([]) ++ ((xs.take j).drop 0)).length = ([]).length + ((xs.take j).drop 0).length := List.length_append
     refine ⟨fun _ => ak.pins, ?_⟩
     refine dO (i := 7) (zO (i := 7) rfl rfl rfl (zD rfl _) (oA (E := eInt) (v := dl) (u := a4) 8 Try.underlying29 ap3 (by decide) rfl rfl ak.pins br dn.src (ak.size) (fun dp gn bt dq dr gp => ?_)))
     have q := ak.write dq dr ((zX br))
     have gq : ((([]) ++ ((xs.take j).drop 0)) ++ ([n])).length = (([]) ++ ((xs.take j).drop 0)).length + 1 := List.length_append
     refine ⟨fun _ => q.pins, ?_⟩
     refine dO (i := 11) (zO (i := 11) rfl rfl rfl (zD rfl _) (oA (E := eInt) (v := dp) (u := a1) 8 Try.underlying29 ap3 (by decide) rfl rfl q.pins bt ((a2.mono (Pin.le_refl _)).src q.pins (by decide)) (q.size) (fun bu gr ds dt du gs => ?_)))
     have a5 := q.write dt du ((zX bt))
     have gt : (((([]) ++ ((xs.take j).drop 0)) ++ ([n])) ++ ((xs.take xs.length).drop j)).length = ((([]) ++ ((xs.take j).drop 0)) ++ ([n])).length + ((xs.take xs.length).drop j).length := List.length_append
     refine ⟨fun _ => a5.pins, ?_⟩
     refine dM 12 bu a5.pins ?_
     refine yJ (by kernel_rfl) ?_
     exact xP ⟨_, bu, G, (pU 4), a5, (Pin.le_refl _), ds⟩
   ·skip
    refine (zO (i := 6) rfl rfl rfl (zD rfl _) (yV (E := eInt) (e := 3) [(vJ n)] [n] Try.underlying29 sz3 zr3 (by exact xT (by rfl)) (yR (by rfl)) rfl rfl rfl rfl (by decide) a.pins (fun a6 dv dw dx dy gu => ?_)))
    have al := a.step dx dy
    have bv : Own eInt 3 G dv w.heap.size a6 ([n]) := dw.weaken a.size
    refine ⟨fun _ => al.pins, ?_⟩
    refine dO (i := 0) (zO (i := 0) rfl rfl rfl (zD rfl _) (yM (E := eInt) (e := 3) Try.underlying29 sz3 al.pins (fun a7 dz d0 d1 bw d2 => ?_)))
    have s := al.step d1 bw
    have d3 := bv.below bw
    have d4 : Apart a7.ownBlock a6.ownBlock := zE d2 bv.lt
    have bx : Own eInt 3 G dz w.heap.size a7 ([]) := d0.weaken al.size
    refine ⟨fun _ => s.pins, ?_⟩
    refine dO (i := 4) (zO (i := 4) rfl rfl rfl (zD rfl _) (oA (E := eInt) (v := a7) (u := az) 8 Try.underlying29 ap3 (by decide) rfl rfl s.pins bx ((a0.mono (Pin.le_refl _)).src s.pins (by decide)) (s.size) (fun d5 gv bz d6 b0 gw => ?_)))
    have am := s.write d6 b0 ((zX bx))
    have d7 := d3.keptA b0 d4.symm
    have gx : (([]) ++ ((xs.take j).drop 0)).length = ([]).length + ((xs.take j).drop 0).length := List.length_append
    refine ⟨fun _ => am.pins, ?_⟩
    refine dO (i := 7) (zO (i := 7) rfl rfl rfl (zD rfl _) (oA (E := eInt) (v := d5) (u := a6) 8 Try.underlying29 ap3 (by decide) rfl rfl am.pins bz d7.src (am.size) (fun d8 gy b1 d9 ea gz => ?_)))
    have x := am.write d9 ea ((zX bz))
    have g0 : ((([]) ++ ((xs.take j).drop 0)) ++ ([n])).length = (([]) ++ ((xs.take j).drop 0)).length + 1 := List.length_append
    refine ⟨fun _ => x.pins, ?_⟩
    refine dO (i := 11) (zO (i := 11) rfl rfl rfl (zD rfl _) (oA (E := eInt) (v := d8) (u := a1) 8 Try.underlying29 ap3 (by decide) rfl rfl x.pins b1 ((a2.mono (Pin.le_refl _)).src x.pins (by decide)) (x.size) (fun b2 g1 eb ec ed g2 => ?_)))
    have a8 := x.write ec ed ((zX b1))
    have g3 : (((([]) ++ ((xs.take j).drop 0)) ++ ([n])) ++ ((xs.take xs.length).drop j)).length = ((([]) ++ ((xs.take j).drop 0)) ++ ([n])).length + ((xs.take xs.length).drop j).length := List.length_append
    refine ⟨fun _ => a8.pins, ?_⟩
    refine dM 12 b2 a8.pins ?_
    refine yJ (by kernel_rfl) ?_
    exact xP ⟨_, b2, G, (pU 4), a8, (Pin.le_refl _), eb⟩
 refine qW ?_
 refine qW ?_
 refine qW ?_
 refine qW ?_
 refine qW ?_
 refine qW ?_
 refine qD rfl (yZ (v := (.bool false)) rfl rfl) ?_
 refine qe (zA ?_)
 refine c_ifF rfl rfl ?_
 refine wp_exit ?_
 refine zV ?_
 refine yD ?_
 refine yB ?_
 refine zA (zB (zB (zC ?_)))
 refine qM (vJ (j : Int)) ?_
 refine qM v ?_
 refine qD rfl (zK Try.underlying29 (v := v) rfl hv) ?_
 refine qD rfl (yK rfl rfl) ?_
 refine qM (.bool (decide (((j : Int) : Int) < (xs.length : Int)))) ?_
 refine qbd (p := ((j : Int) : Int) < (xs.length : Int)) (t := 24) rfl (fun h => absurd h h5) (fun _ => ?_)
 refine qW ?_
 refine qW ?_
 refine qW ?_
 refine qW ?_
 refine qW ?_
 refine qW ?_
 refine qD rfl (yZ (v := (.bool false)) rfl rfl) ?_
 refine qe (zA ?_)
 refine c_ifF rfl rfl ?_
 refine wp_skip ?_
 refine zA (zB ?_)
 refine c_cut (fun (en : Nat → Value) (W : World) => ∃ (c : Nat → Value) (an : Value) (ao : Pin), en = (upd c 4 an) ∧ Ext noS G w ao W ∧ Pin.le G ao ∧ (Own eInt 3 ao W w.heap.size an (((([]) ++ ((xs.take j).drop 0)) ++ ([n])) ++ ((xs.take xs.length).drop j)))) ?_ ?_
 ·rintro _ g4 ⟨c, an, ao, rfl, ee, g5, ef⟩
  refine zA ?_
  refine wp_ret ?_
  refine zS ?_
  refine zR (v := an) rfl rfl rfl ?_
  obtain ⟨g6, g7, eg, eh, g8⟩ := ef.sealed ee
  exact ⟨_, _, rfl, (by rw [← put_new (fun h => ⟨by omega, by omega⟩) hr]; exact eh), eg⟩
 ·skip
  refine xC (S := fun wz => Pins G wz) (last := 13) (by kernel_rfl) rfl ?_
  have b3 : Below l.heap.size l l.drew := (Below.refl _ _).drew
  have ei := d.pins.below b3
  have b := d.step ei b3
  refine dM 1 v b.pins ?_
  refine dM 2 (vJ (j : Int)) b.pins ?_
  obtain ⟨a9, ba, ej⟩ := xU hv (lo := none) (hi := (some ((j : Int)))) (0) (j) (Or.inl ⟨rfl, rfl⟩) (Or.inr ⟨_, rfl, (by omega), rfl⟩) (by omega) (by omega)
  refine dT (i := 3) rfl rfl (by kernel_rfl) (fun _ _ => ej Try.underlying29 sz3 rfl rfl rfl) b.pins ?_
  refine dM 5 (vJ n) b.pins ?_
  refine dM 8 v b.pins ?_
  refine dM 9 (vJ (j : Int)) b.pins ?_
  obtain ⟨bb, bc, ek⟩ := xU hv (lo := (some ((j : Int)))) (hi := none) (j) (xs.length) (Or.inr ⟨_, rfl, (by omega), rfl⟩) (Or.inl ⟨rfl, rfl⟩) (by omega) (by omega)
  refine dT (i := 10) rfl rfl (by kernel_rfl) (fun _ _ => ek Try.underlying29 sz3 rfl rfl rfl) b.pins ?_
  refine qC (i := 0) (j := 6) (by kernel_rfl) ?_ ?_
  ·skip
   refine (zO (i := 0) rfl rfl rfl (zD rfl _) (yM (E := eInt) (e := 3) Try.underlying29 sz3 b.pins (fun ap el em eo ep g9 => ?_)))
   have g := b.step eo ep
   have aq : Own eInt 3 G el w.heap.size ap ([]) := em.weaken b.size
   refine ⟨fun _ => g.pins, ?_⟩
   refine qC (i := 4) (j := 6) (by kernel_rfl) ?_ ?_
   ·skip
    refine (zO (i := 4) rfl rfl rfl (zD rfl _) (oA (E := eInt) (v := ap) (u := a9) 8 Try.underlying29 ap3 (by decide) rfl rfl g.pins aq ((ba.mono (Pin.le_refl _)).src g.pins (by decide)) (g.size) (fun eq ha er es et hb => ?_)))
    have ar := g.write es et ((zX aq))
    have hc : (([]) ++ ((xs.take j).drop 0)).length = ([]).length + ((xs.take j).drop 0).length := List.length_append
    refine ⟨fun _ => ar.pins, ?_⟩
    refine dO (i := 6) (zO (i := 6) rfl rfl rfl (zD rfl _) (yV (E := eInt) (e := 3) [(vJ n)] [n] Try.underlying29 sz3 zr3 (by exact xT (by rfl)) (yR (by rfl)) rfl rfl rfl rfl (by decide) ar.pins (fun b4 eu ev ew b5 hd => ?_)))
    have au := ar.step ew b5
    have b6 := er.below b5
    have ex : Own eInt 3 G eu w.heap.size b4 ([n]) := ev.weaken ar.size
    refine ⟨fun _ => au.pins, ?_⟩
    refine dO (i := 7) (zO (i := 7) rfl rfl rfl (zD rfl _) (oA (E := eInt) (v := eq) (u := b4) 8 Try.underlying29 ap3 (by decide) rfl rfl au.pins b6 ex.src (au.size) (fun ey he b7 ez e0 hf => ?_)))
    have y := au.write ez e0 ((zX b6))
    have hg : ((([]) ++ ((xs.take j).drop 0)) ++ ([n])).length = (([]) ++ ((xs.take j).drop 0)).length + 1 := List.length_append
    refine ⟨fun _ => y.pins, ?_⟩
    refine dO (i := 11) (zO (i := 11) rfl rfl rfl (zD rfl _) (oA (E := eInt) (v := ey) (u := bb) 8 Try.underlying29 ap3 (by decide) rfl rfl y.pins b7 ((bc.mono (Pin.le_refl _)).src y.pins (by decide)) (y.size) (fun b8 hh e1 e2 e3 hk => ?_)))
    have bd := y.write e2 e3 ((zX b7))
    have hl : (((([]) ++ ((xs.take j).drop 0)) ++ ([n])) ++ ((xs.take xs.length).drop j)).length = ((([]) ++ ((xs.take j).drop 0)) ++ ([n])).length + ((xs.take xs.length).drop j).length := List.length_append
    refine ⟨fun _ => bd.pins, ?_⟩
    refine dM 12 b8 bd.pins ?_
    refine yJ (by kernel_rfl) ?_
    exact xP ⟨_, b8, G, (pU 4), bd, (Pin.le_refl _), e1⟩
   ·skip
    refine (zO (i := 6) rfl rfl rfl (zD rfl _) (yV (E := eInt) (e := 3) [(vJ n)] [n] Try.underlying29 sz3 zr3 (by exact xT (by rfl)) (yR (by rfl)) rfl rfl rfl rfl (by decide) g.pins (fun be e4 e5 e6 b9 e7 => ?_)))
    have aa := g.step e6 b9
    have ca := aq.below b9
    have e8 : Apart be.ownBlock ap.ownBlock := zE e7 aq.lt
    have e9 : Own eInt 3 G e4 w.heap.size be ([n]) := e5.weaken g.size
    refine ⟨fun _ => aa.pins, ?_⟩
    refine dO (i := 4) (zO (i := 4) rfl rfl rfl (zD rfl _) (oA (E := eInt) (v := ap) (u := a9) 8 Try.underlying29 ap3 (by decide) rfl rfl aa.pins ca ((ba.mono (Pin.le_refl _)).src aa.pins (by decide)) (aa.size) (fun fa hm cb fb cc hn => ?_)))
    have av := aa.write fb cc ((zX ca))
    have fc := e9.keptA cc e8
    have ho : (([]) ++ ((xs.take j).drop 0)).length = ([]).length + ((xs.take j).drop 0).length := List.length_append
    refine ⟨fun _ => av.pins, ?_⟩
    refine dO (i := 7) (zO (i := 7) rfl rfl rfl (zD rfl _) (oA (E := eInt) (v := fa) (u := be) 8 Try.underlying29 ap3 (by decide) rfl rfl av.pins cb fc.src (av.size) (fun fd hp cd fe ff hq => ?_)))
    have ab := av.write fe ff ((zX cb))
    have ht : ((([]) ++ ((xs.take j).drop 0)) ++ ([n])).length = (([]) ++ ((xs.take j).drop 0)).length + 1 := List.length_append
    refine ⟨fun _ => ab.pins, ?_⟩
    refine dO (i := 11) (zO (i := 11) rfl rfl rfl (zD rfl _) (oA (E := eInt) (v := fd) (u := bb) 8 Try.underlying29 ap3 (by decide) rfl rfl ab.pins cd ((bc.mono (Pin.le_refl _)).src ab.pins (by decide)) (ab.size) (fun ce hu fg fh fi hw => ?_)))
    have bf := ab.write fh fi ((zX cd))
    have hx : (((([]) ++ ((xs.take j).drop 0)) ++ ([n])) ++ ((xs.take xs.length).drop j)).length = ((([]) ++ ((xs.take j).drop 0)) ++ ([n])).length + ((xs.take xs.length).drop j).length := List.length_append
    refine ⟨fun _ => bf.pins, ?_⟩
    refine dM 12 ce bf.pins ?_
    refine yJ (by kernel_rfl) ?_
    exact xP ⟨_, ce, G, (pU 4), bf, (Pin.le_refl _), fg⟩
  ·skip
   refine (zO (i := 6) rfl rfl rfl (zD rfl _) (yV (E := eInt) (e := 3) [(vJ n)] [n] Try.underlying29 sz3 zr3 (by exact xT (by rfl)) (yR (by rfl)) rfl rfl rfl rfl (by decide) b.pins (fun bg fj fk fl fm hy => ?_)))
   have aw := b.step fl fm
   have cf : Own eInt 3 G fj w.heap.size bg ([n]) := fk.weaken b.size
   refine ⟨fun _ => aw.pins, ?_⟩
   refine dO (i := 0) (zO (i := 0) rfl rfl rfl (zD rfl _) (yM (E := eInt) (e := 3) Try.underlying29 sz3 aw.pins (fun bh fn fo fp cg fq => ?_)))
   have ac := aw.step fp cg
   have fr := cf.below cg
   have fs : Apart bh.ownBlock bg.ownBlock := zE fq cf.lt
   have ch : Own eInt 3 G fn w.heap.size bh ([]) := fo.weaken aw.size
   refine ⟨fun _ => ac.pins, ?_⟩
   refine dO (i := 4) (zO (i := 4) rfl rfl rfl (zD rfl _) (oA (E := eInt) (v := bh) (u := a9) 8 Try.underlying29 ap3 (by decide) rfl rfl ac.pins ch ((ba.mono (Pin.le_refl _)).src ac.pins (by decide)) (ac.size) (fun ft hz ci fu cj h0 => ?_)))
   have ax := ac.write fu cj ((zX ch))
   have fv := fr.keptA cj fs.symm
   have h1 : (([]) ++ ((xs.take j).drop 0)).length = ([]).length + ((xs.take j).drop 0).length := List.length_append
   refine ⟨fun _ => ax.pins, ?_⟩
   refine dO (i := 7) (zO (i := 7) rfl rfl rfl (zD rfl _) (oA (E := eInt) (v := ft) (u := bg) 8 Try.underlying29 ap3 (by decide) rfl rfl ax.pins ci fv.src (ax.size) (fun fw h2 ck fx fy h3 => ?_)))
   have ad := ax.write fx fy ((zX ci))
   have h4 : ((([]) ++ ((xs.take j).drop 0)) ++ ([n])).length = (([]) ++ ((xs.take j).drop 0)).length + 1 := List.length_append
   refine ⟨fun _ => ad.pins, ?_⟩
   refine dO (i := 11) (zO (i := 11) rfl rfl rfl (zD rfl _) (oA (E := eInt) (v := fw) (u := bb) 8 Try.underlying29 ap3 (by decide) rfl rfl ad.pins ck ((bc.mono (Pin.le_refl _)).src ad.pins (by decide)) (ad.size) (fun cl h7 fz f0 f1 h9 => ?_)))
   have bi := ad.write f0 f1 ((zX ck))
   have ia : (((([]) ++ ((xs.take j).drop 0)) ++ ([n])) ++ ((xs.take xs.length).drop j)).length = ((([]) ++ ((xs.take j).drop 0)) ++ ([n])).length + ((xs.take xs.length).drop j).length := List.length_append
   refine ⟨fun _ => bi.pins, ?_⟩
   refine dM 12 cl bi.pins ?_
   refine yJ (by kernel_rfl) ?_
   exact xP ⟨_, cl, G, (pU 4), bi, (Pin.le_refl _), fz⟩

theorem l1Same_spec {w : World} {G : Pin} {u v : Value} {xs ys : List Int} (hP : Pins G w) (hu : RSl eInt G u xs) (hv : RSl eInt G v ys) :
  Calls Try.prog 61 [u, v].toArray w fun e w' => e = .returned (.bool (decide (xs = ys))) ∧ Ext noS G w G w' := by
 refine yA (n := 26) Try.func61 Try.ntmps61 rfl rfl ?_
 have f : Ext noS G w G w := Ext.refl hP
 have hm := hu.max
 refine zB (zC ?_)
 refine qM (.bool false) ?_
 refine qe (zA (zB (zB (zC ?_))))
 refine qM u ?_
 refine qD rfl (zK Try.underlying29 (v := u) rfl hu) ?_
 refine qM v ?_
 refine qD rfl (zK Try.underlying29 (v := v) rfl hv) ?_
 refine qD rfl (r_neq rfl rfl) ?_
 refine qe (zA ?_)
 refine zZ (p := ((xs.length : Int) : Int) ≠ (ys.length : Int)) rfl rfl (fun g => ?_) (fun g => ?_)
 ·skip
  refine zB (zC ?_)
  refine qM (.bool false) ?_
  refine qe (zA ?_)
  refine wp_ret ?_
  refine zS ?_
  refine zR (v := (.bool false)) rfl rfl rfl ?_
  exact ⟨congrArg (fun z => Ending.returned (Value.bool z)) (decide_eq_false (fun e => g (by rw [e]))).symm, f⟩
 refine wp_skip ?_
 refine zA (zB (zB (zC ?_)))
 refine qM (vJ 0) ?_
 refine qe (zA ?_)
 refine zU ?_
 refine yH (fun (k : Nat) (en : Nat → Value) (W : World) => ∃ (h : Nat → Value) (j : Nat), en = (upd (upd (upd h 0 u) 1 v) 5 (vJ (j : Int))) ∧ k = xs.length - j ∧ Ext noS G w G W ∧ (j ≤ xs.length) ∧ (xs.length = ys.length) ∧ (∀ i, i < j → xs.getD i 0 = ys.getD i 0)) _ ⟨_, 0, (pS 5 (pS 1 (pU 0))), rfl, f, Nat.zero_le _, (by omega), (fun i hi => absurd hi (Nat.not_lt_zero i))⟩ ?_
 rintro q _ b ⟨h, j, rfl, s, c, hj, heq, hp⟩
 refine zB (zB (zC ?_))
 refine qM (vJ (j : Int)) ?_
 refine qM u ?_
 refine qD rfl (zK Try.underlying29 (v := u) rfl hu) ?_
 refine qD rfl (yK rfl rfl) ?_
 refine qe (zA ?_)
 refine zZ (p := ((j : Int) : Int) < (xs.length : Int)) rfl rfl (fun m => ?_) (fun m => ?_)
 ·skip
  refine wp_skip ?_
  refine zA (zB ?_)
  refine zU ?_
  refine zB ?_
  refine xC (S := fun wz => Pins G wz) (last := 9) (by kernel_rfl) rfl ?_
  have l : Below b.heap.size b b.drew := (Below.refl _ _).drew
  have o := c.pins.below l
  have a := c.step o l
  refine dM 0 u a.pins ?_
  refine dM 1 (vJ (j : Int)) a.pins ?_
  refine dT (i := 2) rfl rfl (by kernel_rfl) (fun _ _ => zG Try.underlying29 sz3 (v := u) rfl rfl hu (by omega) (by omega)) a.pins ?_
  refine dT (i := 3) rfl rfl (by kernel_rfl) (fun _ hS => zJ (r := xs.getD j 0) rfl ag3 (z := (j : Int)) rfl hu hS (by omega) (by omega)) a.pins ?_
  refine dM 4 v a.pins ?_
  refine dM 5 (vJ (j : Int)) a.pins ?_
  refine dT (i := 6) rfl rfl (by kernel_rfl) (fun _ _ => zG Try.underlying29 sz3 (v := v) rfl rfl hv (by omega) (by omega)) a.pins ?_
  refine dT (i := 7) rfl rfl (by kernel_rfl) (fun _ hS => zJ (r := ys.getD j 0) rfl ag3 (z := (j : Int)) rfl hv hS (by omega) (by omega)) a.pins ?_
  refine dT (i := 8) rfl rfl (by kernel_rfl) (fun _ _ => r_neq rfl rfl) a.pins ?_
  refine yJ (by kernel_rfl) ?_
  refine zA ?_
  refine zZ (p := (xs.getD j 0 : Int) ≠ (ys.getD j 0)) rfl rfl (fun d => ?_) (fun d => ?_)
  ·skip
   refine zB (zC ?_)
   refine qM (.bool false) ?_
   refine qe (zA ?_)
   refine wp_ret ?_
   refine zS ?_
   refine zR (v := (.bool false)) rfl rfl rfl ?_
   exact ⟨congrArg (fun z => Ending.returned (Value.bool z)) (decide_eq_false (fun e => d (by rw [e]))).symm, a⟩
  refine wp_skip ?_
  refine zW ?_
  refine zA (zC ?_)
  refine qM (vJ (j : Int)) ?_
  refine qD rfl (yE rfl rfl (by omega)) ?_
  refine qM (vJ ((j : Int) + 1)) ?_
  refine qe ?_
  refine zY ?_
  refine ⟨_, ?_, _, rfl, _, j + 1, (pS 5 (pS 1 (pU 0))), rfl, a, (by omega), heq, (eqstep hp d)⟩
  omega
 refine wp_exit ?_
 refine zV ?_
 refine yD ?_
 refine yB ?_
 refine zA (zB (zC ?_))
 refine qM (.bool true) ?_
 refine qe (zA ?_)
 refine wp_ret ?_
 refine zS ?_
 refine zR (v := (.bool true)) rfl rfl rfl ?_
 exact ⟨congrArg (fun z => Ending.returned (Value.bool z)) (decide_eq_true (eqdone heq (by omega) hp)).symm, c⟩

theorem qE {w : World} {G Gr : Pin} {u v : Value} {a xs : List Int} (hP : Pins G w) (hPr : Pins Gr w) (hu : RSl eInt Gr u a) (hv : RSl eInt G v xs) (hs : xs.length ≤ 1048576) (hk : ∀ i, i < xs.length → 0 ≤ xs.getD i 0 ∧ xs.getD i 0 < a.length) :
  Calls Try.prog 64 [u, v].toArray w fun e w' => ∃ (u : Value) (G' : Pin), e = .returned u ∧ Own eInt 3 G' w' w.heap.size u (atL a xs) ∧ Ext noS G w G' w' := by
 refine yA (n := 25) Try.func64 Try.ntmps64 rfl rfl ?_
 have c : Ext noS G w G w := Ext.refl hP
 refine zB (zC ?_)
 refine qM (.slice none 0 0) ?_
 refine qe (zA (zB (zC ?_)))
 refine qI rfl (yM (E := eInt) (e := 3) Try.underlying29 sz3 c.pins (fun d t x y aa am => ?_))
 have ab := c.step y aa
 have ac : Own eInt 3 G t w.heap.size d ([]) := x.weaken c.size
 refine qM d ?_
 refine qe (zA (zB (zB (zC ?_))))
 refine qM (vJ 0) ?_
 refine qe (zA ?_)
 refine zU ?_
 refine yH (fun (k : Nat) (en : Nat → Value) (W : World) => ∃ (g : Nat → Value) (j : Nat) (o : Value) (os : List Int), en = (upd (upd (upd (upd (upd g 0 u) 1 v) 4 (.slice none 0 0)) 5 o) 6 (vJ (j : Int))) ∧ k = xs.length - j ∧ Ext noS G w G W ∧ (j ≤ xs.length) ∧ (os = atL a (xs.take j)) ∧ (os.length = j) ∧ (Own eInt 3 G W w.heap.size o (os))) _ ⟨_, 0, d, [], (pS 6 (pS 5 (pS 4 (pS 1 (pU 0))))), rfl, ab, Nat.zero_le _, rfl, rfl, ac⟩ ?_
 rintro k9 _ ao ⟨g, j, o, os, rfl, ap, b, hj, hr, hol, h⟩
 refine zB (zB (zC ?_))
 refine qM (vJ (j : Int)) ?_
 refine qM v ?_
 refine qD rfl (zK Try.underlying29 (v := v) rfl hv) ?_
 refine qD rfl (yK rfl rfl) ?_
 refine qe (zA ?_)
 refine zZ (p := ((j : Int) : Int) < (xs.length : Int)) rfl rfl (fun ad => ?_) (fun ad => ?_)
 ·skip
  have hkj := hk j (by omega)
  refine wp_skip ?_
  refine zA (zB ?_)
  refine zU ?_
  refine zC ?_
  refine qM o ?_
  refine qM u ?_
  refine qM v ?_
  refine qM (vJ (j : Int)) ?_
  refine qD rfl (zG Try.underlying29 sz3 (v := v) rfl rfl hv (by omega) (by omega)) ?_
  refine qD rfl (zJ (r := xs.getD j 0) rfl ag3 (z := (j : Int)) rfl hv b.pins (by omega) (by omega)) ?_
  refine qD rfl (zG Try.underlying29 sz3 (v := u) rfl rfl hu (by omega) (by omega)) ?_
  refine qD rfl (zJ (r := a.getD (xs.getD j 0).toNat 0) rfl ag3 (z := (xs.getD j 0)) rfl hu (hPr.ext0 b) (by omega) (by omega)) ?_
  refine qI rfl (yV (E := eInt) (e := 3) [(vJ (a.getD (xs.getD j 0).toNat 0))] [a.getD (xs.getD j 0).toNat 0] Try.underlying29 sz3 zr3 (by exact xT (by rfl)) (yR (by rfl)) rfl rfl rfl rfl (by decide) b.pins (fun l ae af ag m aq => ?_))
  have f := b.step ag m
  have q := h.below m
  have ah : Own eInt 3 G ae w.heap.size l ([a.getD (xs.getD j 0).toNat 0]) := af.weaken b.size
  refine qI rfl (oA (E := eInt) (v := o) (u := l) 8 Try.underlying29 ap3 (by decide) rfl rfl f.pins q ah.src (f.size) (fun s ar ai aj ak au => ?_))
  have al := f.write aj ak ((zX q))
  have av : (os ++ ([a.getD (xs.getD j 0).toNat 0])).length = os.length + 1 := List.length_append
  refine qM s ?_
  refine qe ?_
  refine zW ?_
  refine zA (zC ?_)
  refine qM (vJ (j : Int)) ?_
  refine qD rfl (yE rfl rfl (by omega)) ?_
  refine qM (vJ ((j : Int) + 1)) ?_
  refine qe ?_
  refine zY ?_
  refine ⟨_, ?_, _, rfl, _, j + 1, s, os ++ [a.getD (xs.getD j 0).toNat 0], (pS 6 (pS 5 (pS 4 (pS 1 (pU 0))))), rfl, al, (by omega), (by rw [hr, at_next (by omega)]), (by rw [List.length_append, hol]; rfl), ai⟩
  omega
 refine wp_exit ?_
 refine zV ?_
 refine yD ?_
 refine yB ?_
 refine zA (zB (zC ?_))
 refine qM o ?_
 refine qM o ?_
 refine qe (zA ?_)
 refine wp_ret ?_
 refine zS ?_
 refine zR (v := o) rfl rfl rfl ?_
 exact ⟨_, _, rfl, (by rw [take_all (by omega)] at hr; rw [← hr]; exact h), b⟩

theorem xK {w : World} {G : Pin} {v : Value} {xs : List Int} (hP : Pins G w) (hv : RSl eInt G v xs) (hs : xs.length ≤ 1048576) :
  Calls Try.prog 63 [v].toArray w fun e w' => ∃ (u : Value) (G' : Pin), e = .returned u ∧ RSl eInt G' u (sortL xs) ∧ Ext noS G w G' w' := by
 refine yA (n := 19) Try.func63 Try.ntmps63 rfl rfl ?_
 have c : Ext noS G w G w := Ext.refl hP
 refine zB (zC ?_)
 refine qM (.slice none 0 0) ?_
 refine qe (zA (zB (zC ?_)))
 refine qI rfl (yM (E := eInt) (e := 3) Try.underlying29 sz3 c.pins (fun d q s t x ai => ?_))
 have y := c.step t x
 have aa : Own eInt 3 G q w.heap.size d ([]) := s.weaken c.size
 refine qM d ?_
 refine qe (zA (zB (zB (zC ?_))))
 refine qM (vJ 0) ?_
 refine qe (zA ?_)
 refine zU ?_
 obtain ⟨f, ab, ac, ad, aj⟩ := aa.sealed y
 refine yH (fun (k : Nat) (en : Nat → Value) (W : World) => ∃ (g : Nat → Value) (j : Nat) (o : Value) (os : List Int) (a : Pin), en = (upd (upd (upd (upd g 0 v) 2 (.slice none 0 0)) 3 o) 4 (vJ (j : Int))) ∧ k = xs.length - j ∧ Ext noS G w a W ∧ Pin.le f a ∧ (j ≤ xs.length) ∧ (os = sortL (xs.take j)) ∧ (os.length ≤ j) ∧ (RSl eInt a o (os))) _ ⟨_, 0, d, [], f, (pS 4 (pS 3 (pS 2 (pU 0)))), rfl, ac, Pin.le_refl _, Nat.zero_le _, rfl, Nat.le_refl 0, ad⟩ ?_
 rintro k9 _ al ⟨g, j, o, os, a, rfl, am, b, h, hj, hr, hol, i⟩
 refine zB (zB (zC ?_))
 refine qM (vJ (j : Int)) ?_
 refine qM v ?_
 refine qD rfl (zK Try.underlying29 (v := v) rfl hv) ?_
 refine qD rfl (yK rfl rfl) ?_
 refine qe (zA ?_)
 refine zZ (p := ((j : Int) : Int) < (xs.length : Int)) rfl rfl (fun ae => ?_) (fun ae => ?_)
 ·skip
  refine wp_skip ?_
  refine zA (zB ?_)
  refine zU ?_
  refine zC ?_
  refine qM o ?_
  refine qM v ?_
  refine qM (vJ (j : Int)) ?_
  refine qD rfl (zG Try.underlying29 sz3 (v := v) rfl rfl hv (by omega) (by omega)) ?_
  refine qD rfl (zJ (r := xs.getD j 0) rfl ag3 (z := (j : Int)) rfl hv (Pins.of_le b.pins (Pin.le_trans ab h)) (by omega) (by omega)) ?_
  refine qI rfl (zM (vs := [o, (vJ (xs.getD j 0))]) Try.func70 nm70 rfl rfl rfl ?_)
  refine Calls.mono (l1Put_spec b.pins i (by omega)) ?_
  rintro _ an ⟨l, af, rfl, ag, m⟩
  refine ⟨_, rfl, ?_⟩
  have ah := b.tr m
  refine qM l ?_
  refine qe ?_
  refine zW ?_
  refine zA (zC ?_)
  refine qM (vJ (j : Int)) ?_
  refine qD rfl (yE rfl rfl (by omega)) ?_
  refine qM (vJ ((j : Int) + 1)) ?_
  refine qe ?_
  refine zY ?_
  refine ⟨_, ?_, _, rfl, _, j + 1, l, putL os (xs.getD j 0), af, (pS 4 (pS 3 (pS 2 (pU 0)))), rfl, ah, (Pin.le_trans h m.le), (by omega), (by rw [hr, sort_next (by omega)]), (Nat.le_trans putL_length (by omega)), ag⟩
  omega
 refine wp_exit ?_
 refine zV ?_
 refine yD ?_
 refine yB ?_
 refine zA (zB (zC ?_))
 refine qM o ?_
 refine qM o ?_
 refine qe (zA ?_)
 refine wp_ret ?_
 refine zS ?_
 refine zR (v := o) rfl rfl rfl ?_
 exact ⟨_, _, rfl, (by rw [take_all (by omega)] at hr; rw [← hr]; exact i), b⟩

end C1
end Go.Proofs.Ytkfgdhanaijddaa
