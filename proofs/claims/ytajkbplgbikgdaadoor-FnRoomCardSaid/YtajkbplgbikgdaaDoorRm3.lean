/- Texts of this claim in one file: Deep, Text, Table, Part, Game, Den, Ord, Map, Key, Sort, Sg, Pool, Opts, Load, Great, Uniq, Dom, Rev, Canon, Red, Parts, Rank, SortF, Frm, Bud, Bkq, Sum, Make, Tiny, LitA, Draw, Byte, Room, Txt, Board, Trim, Isc, OrdS, Can6, Late, Iter, Grid, RmLaw, Shelf, RM1, RM2, RM3, RM4. -/
import Derived.Test.YtajkbplgbikgdaaDoorRm2
import Derived.Lib.SliceRun
import Derived.Lib.Join
import Derived.Carry
import Derived.MapKept
import Derived.Laws.BytesString
import Derived.Sort.Row
import Derived.Sort.Grow
import Derived.Lib.SlicesCompact
import Derived.Shelf.SlSortCmp.NoneTotal
import Derived.Lib.QuietBelow
import Derived.Lib.SplitLaws
import Derived.Lib.IndexBytes
import Derived.Lib.SlTrimSet
import Derived.Lib.OthersKept
import Derived.Lib.ConvBytes
import Derived.Lib.AtoiErrMem
import Derived.Lib.FrozenHead
import Derived.Shelf.Strings.Split
import Derived.Shelf.Strings.SlTrimAscii
import Derived.Test.YtajkbplgbikgdaaDoorProg
import Derived.Test.YtajkbplgbikgdaaDoorChecked
namespace Go.GL
open Go Go.RowKit

def eVal : Elt Value where
 size := 1
 rep := fun _ cs v => cs = [v] ∧ v.oneCell' = true
 mono := fun _ h => h
 len := fun h => by rw [h.1]; rfl
 one := fun h u hu => by rw [h.1] at hu; simp at hu; subst hu; exact h.2
def eVal2 : Elt (Value × Value) where
 size := 2
 rep := fun _ cs p => cs = [p.1, p.2] ∧ p.1.oneCell' = true ∧ p.2.oneCell' = true
 mono := fun _ h => h
 len := fun h => by rw [h.1]; rfl
 one := fun h u hu => by
  rw [h.1] at hu; simp at hu
  rcases hu with rfl | rfl
  ·exact h.2.1
  ·exact h.2.2
theorem RSl.conv {α β : Type} {E : Elt α} {F : Elt β} {G : Pin} {v : Value} {xs : List α} {ys : List β} (h : RSl E G v xs) (hl : ys.length = xs.length) (hs : F.size = E.size) (hr : ∀ (i : Nat) x y cs, xs[i]? = some x → ys[i]? = some y → E.rep G cs x → F.rep G cs y) : RSl F G v ys := by
 refine ⟨?_, fun i y hy => ?_⟩
 ·obtain ⟨a, c, h1, h2, h3⟩ := h.sl
  exact ⟨a, c, by rw [hl]; exact h1, by rw [hl]; exact h2, h3⟩
 ·have hi : i < xs.length := by have := (List.getElem?_eq_some_iff.1 hy).1; omega
  obtain ⟨a, b, o, n, c, cs, h1, h2, h3, h4⟩ := h.at_ i _ (List.getElem?_eq_getElem hi)
  exact ⟨a, b, o, n, c, cs, h1, by rw [hs]; exact h2, hr i _ y cs (List.getElem?_eq_getElem hi) hy h3, h4⟩

abbrev Leaf := Value × List Int
structure Lvs (e : Nat) (G : Pin) (w : World) (lo hi : Nat) (L : List Leaf) : Prop where
 own : ∀ p ∈ L, Own eInt e G w lo p.1 p.2
 hi : ∀ p ∈ L, ∀ k, p.1.ownBlock = some k → k < hi
 ap : L.Pairwise fun p q => Apart p.1.ownBlock q.1.ownBlock
def ApL (L : List Leaf) (x : Option Nat) : Prop := ∀ p ∈ L, Apart p.1.ownBlock x
section
variable {e lo hi : Nat} {G G' : Pin} {w w' : World} {L L' : List Leaf}
theorem Lvs.map (h : Lvs e G w lo hi L) (f : ∀ p ∈ L, Own eInt e G w lo p.1 p.2 → Own eInt e G' w' lo p.1 p.2) : Lvs e G' w' lo hi L := ⟨fun p hp => f p hp (h.own p hp), h.hi, h.ap⟩
theorem Lvs.extS {S : Nat → Prop} (h : Lvs e G w lo hi L) (hx : Ext S G w G' w') (hS : ∀ k, lo ≤ k → k < hi → ¬ S k) : Lvs e G' w' lo hi L :=
 h.map fun p hp ho => ho.extS hx fun k hk => hS k (ho.lt k hk).1 (h.hi p hp k hk)
end


def lvN (ps : List (Value × Value)) (ns : List Nd) : List Leaf := (ps.zip ns).flatMap fun q => [(q.1.1, q.2.l), (q.1.2, q.2.r)]
structure DForm (en e : Nat) (G : Pin) (w : World) (lo hi : Nat) (v : Value) (ns : List Nd) : Prop where
 ex : ∃ ps, ps.length = ns.length ∧ Own eVal2 en G w lo v ps ∧ (∀ k, v.ownBlock = some k → k < hi) ∧ Lvs e G w lo hi (lvN ps ns) ∧ ApL (lvN ps ns) v.ownBlock




def inR (lo hi : Nat) (k : Nat) : Prop := lo ≤ k ∧ k < hi
theorem c_retct {P : Program} {n : Nat} {env : Nat → Value} {w : World} {fn : Func} {R : Ending → World → Prop} {s t b i : Nat} {cs : List Value} {v : Value} (hr : fn.results = #[.cell s t, .tmp i]) (hs : Nat.blt s n = true) (hi : Nat.blt i n = true) (hv : env s = .pointer (some ⟨b, 0, none⟩)) (hiv : env i = v) (ha : (P.underlying t).map aggD = some true) (hz : (P.info? t).map (·.size) = some cs.length)
  (hc : ∀ j u, cs[j]? = some u → w.cell? ⟨b, 0 + j, none⟩ = some u) (h : R (.returned (.tuple #[.agg cs.toArray, v])) w) : bodyPost P fn R .ret (F n env) w := by
 have h2 : s < n := by simpa [Nat.blt_eq] using hs
 have h3 : i < n := by simpa [Nat.blt_eq] using hi
 have hcell : ∀ j u, cs[j]? = some u → w.cell? ((⟨b, 0, none⟩ : Addr).add j) = some u := fun j u hj => by
  have := hc j u hj
  simp only [Addr.add]
  split
  ·simp_all
  ·exact this
 have hlv : (loadVar t ⟨b, 0, none⟩).run P w = .ok (.agg cs.toArray) w := by
  unfold loadVar
  simp only [Sem.run_bind, run_isAgg ha, Result.andThen_ok, if_true, run_sizeOf hz, run_loadCells_list (P := P) w ⟨b, 0, none⟩ cs hcell, Sem.run_pure]
 refine bodyPost_ret (v := .tuple #[.agg cs.toArray, v]) ?_ rfl h
 have he : (F n env).tmps[s]?.getD undef = .pointer (some ⟨b, 0, none⟩) := by simp [F, h2, hv]
 have he2 : (F n env).tmps[i]?.getD undef = v := by simp [F, h3, hiv]
 simp [results, hr, he, he2, asAddr, hlv]




theorem Ext.promise {S : Nat → Prop} {A G G' : Pin} {w0 w : World} {lo : Nat} (h : Ext S A w0 G w) (hl : Pin.le G G') (hp : Pins G' w) (hf : ∀ b o x, G' b o x → G b o x ∨ lo ≤ b) (hlo : w0.heap.size ≤ lo) : Ext S A w0 G' w :=
 ⟨Pin.le_trans h.le hl, hp, fun b o u hu => by
  rcases hf b o u hu with a | a
  ·exact h.fresh b o u a
  ·exact Or.inr (Nat.le_trans hlo a), h.os, h.tape, h.output, h.size, h.block⟩
end Go.GL

namespace Go.GL
open Go Go.RowKit

section
variable {P : Program} {ρ : Operand → Value} {w : World} {d : Option Nat} {t e ty : Nat} {pos : String} {aft : Array Edge} {g : Option (Nat × Bool)} {x y : Operand}
theorem r_cutS {p : ByteArray} {j : Int} (ht : P.underlying t = some .string) (hx : ρ x = .string p) (hy : ρ y = .int .i64 j) (h0 : 0 ≤ j) (h1 : j ≤ p.size) :
  (execOp ρ ⟨d, .slice t x none (some y) none, ty, pos, aft, g⟩).run P w = .ok (.value (.string (p.extract 0 j.toNat))) w := by
 have h := run_slice_string_h (P := P) w t p ht .i64 j h0 h1
 simp [execOp, hx, hy, Instr.sliceAt, run_underlying ht, h]
theorem r_neqB_same {t' : Nat} {p : Bool} (ht : P.underlying t = some .bool) (hx : ρ x = .bool p) (hy : ρ y = .bool p) : (execOp ρ ⟨d, .binOp .neq t x y t', ty, pos, aft, g⟩).run P w = .ok (.value (.bool false)) w := by
 rw [r_neqB ht hx hy]; simp
end





end Go.GL

namespace Go.GL
open Go Go.RowKit


section
variable {en e lo hi : Nat} {G G' : Pin} {w w' : World} {v : Value} {ns : List Nd}
theorem DForm.extS {S : Nat → Prop} (h : DForm en e G w lo hi v ns) (hx : Ext S G w G' w') (hS : ∀ k, lo ≤ k → k < hi → ¬ S k) : DForm en e G' w' lo hi v ns := by
 obtain ⟨ps, h1, h2, h3, h4, h5⟩ := h.ex
 exact ⟨⟨ps, h1, h2.extS hx (fun k hk => hS k (h2.lt k hk).1 (h3 k hk)), h3, h4.extS hx hS, h5⟩⟩
end


def DCh (en e : Nat) (G : Pin) (w : World) (R : Option Nat) : Nat → Nat → List Value → List (List Nd) → Prop
 | lo, hi, [], [] => lo ≤ hi
 | lo, hi, u :: us, f :: fs => ∃ l m, lo ≤ l ∧ l ≤ m ∧ (∀ b, R = some b → m ≤ b ∨ b < l) ∧ DForm en e G w l m u f ∧ DCh en e G w R m hi us fs
 | _, _, _, _ => False
section
variable {en e : Nat} {G G' : Pin} {w w' : World} {R R' : Option Nat}
theorem DCh.le : ∀ {lo hi : Nat} {us : List Value} {fs : List (List Nd)}, DCh en e G w R lo hi us fs → lo ≤ hi
 | _, _, [], [], h => h
 | _, _, _ :: _, _ :: _, ⟨_, _, h1, h2, _, _, h3⟩ => Nat.le_trans (Nat.le_trans h1 h2) h3.le
 | _, _, [], _ :: _, h => h.elim
 | _, _, _ :: _, [], h => h.elim
theorem DCh.map : ∀ {lo hi : Nat} {us : List Value} {fs : List (List Nd)}, DCh en e G w R lo hi us fs → (∀ l m u f, lo ≤ l → m ≤ hi → (∀ b, R = some b → m ≤ b ∨ b < l) → DForm en e G w l m u f → DForm en e G' w' l m u f) → DCh en e G' w' R lo hi us fs
 | _, _, [], [], h, _ => h
 | lo, hi, u :: us, f :: fs, ⟨l, m, h1, h0, hr, h2, h3⟩, hf => ⟨l, m, h1, h0, hr, hf _ _ _ _ h1 h3.le hr h2, h3.map fun l k u f hl hk hd => hf l k u f (by omega) hk hd⟩
 | _, _, [], _ :: _, h, _ => h.elim
 | _, _, _ :: _, [], h, _ => h.elim
end






section
variable {en ef e lo hi lo' hi' : Nat} {G G' : Pin} {w w' : World} {v : Value} {ns : List Nd} {us : List Value} {fs : List (List Nd)} {R : Option Nat}
theorem DCh.at : ∀ {lo hi j : Nat} {us : List Value} {fs : List (List Nd)}, DCh en e G w R lo hi us fs → j < fs.length → ∃ l m, lo ≤ l ∧ m ≤ hi ∧ (∀ b, R = some b → m ≤ b ∨ b < l) ∧ DForm en e G w l m (us.getD j default) (fs.getD j []) ∧
  ∀ {w' : World} {f' : List Nd}, Ext (inR l m) G w G w' → DForm en e G w' l m (us.getD j default) f' → DCh en e G w' R lo hi us (fs.set j f')
 | lo, hi, 0, u :: us, f :: fs, ⟨l, m, h1, h0, hr, h2, h3⟩, _ => ⟨l, m, h1, h3.le, hr, h2, fun hx hd => ⟨l, m, h1, h0, hr, hd, h3.map fun _ _ _ _ hl _ _ hq => hq.extS hx fun k h5 _ h7 => by have := h7.2; omega⟩⟩
 | lo, hi, j + 1, u :: us, f :: fs, ⟨l0, m0, h1, h0, hr, h2, h3⟩, hj => by
  obtain ⟨l, k, a1, a2, a3, a4, a5⟩ := h3.at (j := j) (by simpa using hj)
  exact ⟨l, k, by omega, a2, a3, by simpa using a4, fun hx hd => ⟨l0, m0, h1, h0, hr, h2.extS hx fun q _ h6 h7 => by have := h7.1; omega, a5 hx (by simpa using hd)⟩⟩
 | _, _, _, [], [], _, hj => (by simp at hj)
 | _, _, _, [], _ :: _, h, _ => h.elim
 | _, _, _, _ :: _, [], h, _ => h.elim
end

end Go.GL

namespace Go.GL





end Go.GL

namespace Go.GL
def loG (g i : Nat) : Prop := g.testBit (2 * i) = true
def roG (g i : Nat) : Prop := g.testBit (2 * i + 1) = true
theorem bit_lt {g k : Nat} (h : g.testBit k = true) : k < g := Nat.lt_of_lt_of_le Nat.lt_two_pow_self (Nat.ge_two_pow_of_testBit h)
theorem loG.lt {g i : Nat} (h : loG g i) : i < g := by have := bit_lt h; omega
theorem roG.lt {g i : Nat} (h : roG g i) : i < g := by have := bit_lt h; omega
def lefts (g : Nat) : List Nat := (List.range g).filter fun i => g.testBit (2 * i)
def rights (g : Nat) : List Nat := (List.range g).filter fun i => g.testBit (2 * i + 1)
theorem memG_l {g i : Nat} : i ∈ lefts g ↔ loG g i := by
 unfold lefts
 rw [List.mem_filter, List.mem_range]
 exact ⟨fun h => h.2, fun h => ⟨loG.lt h, h⟩⟩
theorem memG_r {g i : Nat} : i ∈ rights g ↔ roG g i := by
 unfold rights
 rw [List.mem_filter, List.mem_range]
 exact ⟨fun h => h.2, fun h => ⟨roG.lt h, h⟩⟩
def bitsG : List Nat → Nat
 | [] => 0
 | k :: l => 2 ^ k ||| bitsG l
def mkG (l r : List Nat) : Nat := bitsG (l.map (2 * ·) ++ r.map (2 * · + 1))

def geG (a b : Nat) : Prop := (∀ r, (_h : roG a r) → ¬ geG b r) ∧ (∀ l, (_h : loG b l) → ¬ geG l a)
termination_by a + b
decreasing_by
 ·have := _h.lt; omega
 ·have := _h.lt; omega
theorem ge_iff {a b : Nat} : geG a b ↔ (∀ r, roG a r → ¬ geG b r) ∧ (∀ l, loG b l → ¬ geG l a) := by
 rw [geG]
theorem ge_refl (a : Nat) : geG a a := by
 induction a using Nat.strongRecOn with
 | _ a ih =>
  rw [ge_iff]
  refine ⟨fun r hr hg => ?_, fun l hl hg => ?_⟩
  ·exact (ge_iff.1 hg).1 r hr (ih r hr.lt)
  ·exact (ge_iff.1 hg).2 l hl (ih l hl.lt)
theorem ge_trans_n : ∀ (n a b c : Nat), a + b + c ≤ n → geG a b → geG b c → geG a c
 | 0, a, b, c, hn, h, k => by
  have : a = 0 := by omega
  have : c = 0 := by omega
  subst a c; exact ge_refl 0
 | n + 1, a, b, c, hn, h, k => by
  rw [ge_iff]
  refine ⟨fun r hr hg => ?_, fun l hl hg => ?_⟩
  ·have := hr.lt
   exact (ge_iff.1 h).1 r hr (ge_trans_n n b c r (by omega) k hg)
  ·have := hl.lt
   exact (ge_iff.1 k).2 l hl (ge_trans_n n l a b (by omega) hg h)
theorem ge_trans {a b c : Nat} (h : geG a b) (k : geG b c) : geG a c := ge_trans_n _ a b c (Nat.le_refl _) h k
def eqG (a b : Nat) : Prop := geG a b ∧ geG b a
theorem not_ge_left {g l : Nat} (h : loG g l) : ¬ geG l g := (ge_iff.1 (ge_refl g)).2 l h
theorem not_ge_right {g r : Nat} (h : roG g r) : ¬ geG g r := (ge_iff.1 (ge_refl g)).1 r h


def negG (g : Nat) : Nat := mkG ((rights g).attach.map fun ⟨i, _h⟩ => negG i) ((lefts g).attach.map fun ⟨i, _h⟩ => negG i)
termination_by g
decreasing_by
 ·exact (memG_r.1 _h).lt
 ·exact (memG_l.1 _h).lt
def addG (a b : Nat) : Nat :=
 mkG (((lefts a).attach.map fun ⟨i, _h⟩ => addG i b) ++ (lefts b).attach.map fun ⟨i, _h⟩ => addG a i)
  (((rights a).attach.map fun ⟨i, _h⟩ => addG i b) ++ (rights b).attach.map fun ⟨i, _h⟩ => addG a i)
termination_by a + b
decreasing_by
 ·have := (memG_l.1 _h).lt; omega
 ·have := (memG_l.1 _h).lt; omega
 ·have := (memG_r.1 _h).lt; omega
 ·have := (memG_r.1 _h).lt; omega


def NoDom (g : Nat) : Prop := (∀ a b, loG g a → loG g b → geG a b → a = b) ∧ (∀ a b, roG g a → roG g b → geG a b → a = b)
def NoRev (g : Nat) : Prop := (∀ l r, loG g l → roG l r → ¬ geG g r) ∧ (∀ r l, roG g r → loG r l → ¬ geG l g)
def CanonG (g : Nat) : Prop := NoDom g ∧ NoRev g ∧ (∀ l, (_h : loG g l) → CanonG l) ∧ (∀ r, (_h : roG g r) → CanonG r)
termination_by g
decreasing_by
 ·exact _h.lt
 ·exact _h.lt
end Go.GL

namespace Go.GL
def stepD (acc : List Nat) (n : Nd) : List Nat := acc ++ [mkG (n.l.map fun z => acc.getD z.toNat 0) (n.r.map fun z => acc.getD z.toNat 0)]
def dens (ns : List Nd) : List Nat := ns.foldl stepD []
def den (ns : List Nd) (k : Nat) : Nat := (dens ns).getD k 0

structure Ar (ns : List Nd) (bs : List Int) : Prop where
 ok : BookOk ns bs
 rise : ∀ i, i < ns.length → (ns.getD i default).l.Pairwise (· < ·) ∧ (ns.getD i default).r.Pairwise (· < ·)
 diff : Diff ns
 born : BirthsOf ns bs
end Go.GL

namespace Go.GL
open Go Go.RowKit
def inO (x : Option Nat) (k : Nat) : Prop := x = some k
theorem notO {x y : Option Nat} (h : Apart x y) : ∀ k, x = some k → ¬ inO y k := fun k hx hy => h k hx hy
theorem notOb {c : Nat} {y : Option Nat} (h : Apart (some c) y) : ¬ inO y c := fun hy => h c rfl hy
theorem lo_self {w : World} {x : Option Nat} : Lo w (inO x) x := fun _ hk => Or.inr hk

end Go.GL

namespace Go.GL
open Go Go.RowKit


section
variable {κ ν : Type} [DecidableEq κ]
def look (l : List (κ × ν)) (k : κ) : Option ν := (l.find? fun p => decide (p.1 = k)).map (·.2)
def putE : List (κ × ν) → κ → ν → List (κ × ν)
 | [], k, v => [(k, v)]
 | p :: r, k, v => if k = p.1 then (k, v) :: r else p :: putE r k v
theorem look_cons (p : κ × ν) (r : List (κ × ν)) (k : κ) : look (p :: r) k = if k = p.1 then some p.2 else look r k := by
 unfold look
 by_cases h : k = p.1
 ·rw [List.find?_cons_of_pos (by simp [h]), if_pos h]; rfl
 ·rw [List.find?_cons_of_neg (by simp [Ne.symm h]), if_neg h]
theorem look_put (k k' : κ) (v : ν) : ∀ (l : List (κ × ν)), look (putE l k v) k' = if k' = k then some v else look l k'
 | [] => by
  unfold putE
  rw [look_cons]
 | p :: r => by
  unfold putE
  by_cases h : k = p.1
  ·rw [if_pos h, look_cons, look_cons]
   by_cases h2 : k' = k
   ·rw [if_pos h2, if_pos h2]
   ·rw [if_neg h2, if_neg h2, if_neg (by rw [← h]; exact h2)]
  ·rw [if_neg h, look_cons, look_cons, look_put k k' v r]
   by_cases h2 : k' = p.1
   ·rw [if_pos h2, if_pos h2, if_neg (by rw [h2]; exact Ne.symm h)]
   ·rw [if_neg h2, if_neg h2]
end


section
variable {P : Program}
def encP2 (k : Int × Int) : Value := .agg #[.int .i64 k.1, .int .i64 k.2]
end


structure Mp {κ ν : Type} (enc : κ → Value) (val : ν → Value) (w : World) (m : Nat) (l : List (κ × ν)) : Prop where
 heap : ∃ es clock, w.heap[m]? = some (.map es clock) ∧ es.toList.map (fun e => (e.key, e.val)) = l.map fun p => (enc p.1, val p.2)
section
variable {κ ν : Type} {enc : κ → Value} {val : ν → Value} {w w' : World} {m : Nat} {l : List (κ × ν)}
theorem Mp.lt (h : Mp enc val w m l) : m < w.heap.size := by
 obtain ⟨es, c, h1, _⟩ := h.heap
 exact (Array.getElem?_eq_some_iff.1 h1).1
theorem Mp.keep (h : Mp enc val w m l) (hb : w'.heap[m]? = w.heap[m]?) : Mp enc val w' m l := by
 obtain ⟨es, c, h1, h2⟩ := h.heap
 exact ⟨es, c, hb.trans h1, h2⟩
end
theorem map_ne_own {α : Type} {E : Elt α} {e : Nat} {G : Pin} {w : World} {base : Nat} {v : Value} {xs : List α} {κ ν : Type} {enc : κ → Value} {val : ν → Value} {m : Nat} {l : List (κ × ν)} (h : Mp enc val w m l) (ho : Own E e G w base v xs) : Apart (some m) v.ownBlock := fun k hk hv => by
 cases hk
 obtain ⟨es, c, h1, _⟩ := h.heap
 obtain ⟨cells, ⟨hl, hown⟩, hr⟩ := ho.ex
 rcases hown with ⟨rfl, _⟩ | ⟨g, cap, cur, rfl, _, hg, _⟩
 ·cases hv
 ·have : g = m := by simpa [Value.ownBlock] using hv
  subst this
  rw [h1] at hg; cases hg
theorem map_ne_box {G : Pin} {w : World} {b : Nat} {cs : List Value} {κ ν : Type} {enc : κ → Value} {val : ν → Value} {m : Nat} {l : List (κ × ν)} (h : Mp enc val w m l) (hb : Bx G w b cs) : Apart (some m) (some b) := fun k hk hv => by
 cases hk; cases hv
 obtain ⟨es, c, h1, _⟩ := h.heap
 obtain ⟨T, hT⟩ := hb.heap
 rw [h1] at hT; cases hT
section
variable {P : Program} {ρ : Operand → Value} {w : World} {K : Value → World → Prop} {d : Option Nat} {t kt et ty : Nat} {pos : String} {aft : Array Edge} {g : Option (Nat × Bool)} {x y z : Operand} {G : Pin}
 {κ ν : Type} [DecidableEq κ] {enc : κ → Value} {val : ν → Value} {m : Nat} {l : List (κ × ν)}
end
end Go.GL

namespace Go.GL
open Go Go.RowKit
section
variable {P : Program} {ρ : Operand → Value} {w : World} {d : Option Nat} {t ty t' : Nat} {pos : String} {aft : Array Edge} {g : Option (Nat × Bool)} {x y c : Operand}
 {v u : Value} {i j : Int} {k : IntKind} {G : Pin} {K : Value → World → Prop}
theorem wrapU {n : Int} (h : 0 ≤ n ∧ n ≤ 18446744073709551615) : IntKind.u64.wrap n = n := by
 unfold IntKind.wrap
 simp only [IntKind.bits, IntKind.signed]
 have : n % (2 : Int) ^ 64 = n := Int.emod_eq_of_lt h.1 (by omega)
 simp only [this, Bool.false_and]
 rfl
theorem wrapI {n : Int} (h : -9223372036854775808 ≤ n ∧ n ≤ 9223372036854775807) : IntKind.i64.wrap n = n := by
 simp [IntWalk.i64_in n h]
theorem r_addU (hx : ρ x = .int .u64 i) (hy : ρ y = .int .u64 j) : (execOp ρ ⟨d, .binOp .add t x y t', ty, pos, aft, g⟩).run P w = .ok (.value (.int .u64 (IntKind.u64.wrap (i + j)))) w := by
 simp [execOp, hx, hy, binOp, eqGuard, Op.intArith]
theorem r_mulU (hx : ρ x = .int .u64 i) (hy : ρ y = .int .u64 j) : (execOp ρ ⟨d, .binOp .mul t x y t', ty, pos, aft, g⟩).run P w = .ok (.value (.int .u64 (IntKind.u64.wrap (i * j)))) w := by
 simp [execOp, hx, hy, binOp, eqGuard, Op.intArith]
theorem r_shrU (hx : ρ x = .int .u64 i) (hy : ρ y = .int .u64 j) (h0 : 0 ≤ j) : (execOp ρ ⟨d, .binOp .shr t x y t', ty, pos, aft, g⟩).run P w = .ok (.value (.int .u64 (i.fdiv (2 ^ (min j.toNat 64))))) w := by
 simp [execOp, hx, hy, binOp, eqGuard, Op.shift, show ¬ j < 0 by omega, IntKind.bits]
def andW (k : IntKind) (i j : Int) : Int := k.wrap (BitVec.ofInt k.bits i &&& BitVec.ofInt k.bits j).toNat
theorem r_and (hx : ρ x = .int k i) (hy : ρ y = .int k j) : (execOp ρ ⟨d, .binOp .and t x y t', ty, pos, aft, g⟩).run P w = .ok (.value (.int k (andW k i j))) w := by
 simp [execOp, hx, hy, binOp, eqGuard, Op.intBits, andW]
theorem low8_lt (i : Int) : 0 ≤ andW .u64 i 255 ∧ andW .u64 i 255 ≤ 255 := by
 have h : (BitVec.ofInt 64 i &&& BitVec.ofInt 64 255).toNat ≤ 255 := by
  rw [BitVec.toNat_and]
  exact Nat.le_trans Nat.and_le_right (by decide)
 have e : andW .u64 i 255 = ((BitVec.ofInt 64 i &&& BitVec.ofInt 64 255).toNat : Int) := wrapU ⟨by omega, by show ((BitVec.ofInt 64 i &&& BitVec.ofInt 64 255).toNat : Int) ≤ _; omega⟩
 rw [e]; omega
theorem r_conv {t2 : Nat} {k2 : IntKind} {td : TypeDesc} (hs : P.underlying t = some td) (hd : P.underlying t2 = some (.int k2)) (hx : ρ x = .int k i) (hw : k2.wrap i = j) : (execOp ρ ⟨d, .convert t t2 x, ty, pos, aft, g⟩).run P w = .ok (.value (.int k2 j)) w := by
 subst hw
 simp [execOp, hx, convert, run_underlying hs, run_underlying hd, Conv.intToInt]



def b2s (l : List UInt8) : ByteArray := ⟨l.toArray⟩
theorem fold_push : ∀ (l : List UInt8) (s : ByteArray), (l.map fun x => (x.toNat : Int)).foldl (fun r n => r.push (UInt8.ofNat n.toNat)) s = ⟨(s.data.toList ++ l).toArray⟩
 | [], s => by cases s; simp
 | x :: l, s => by
  rw [List.map_cons, List.foldl_cons, fold_push l]
  simp [ByteArray.push]
theorem r_b2s {e : Nat} {xs : List UInt8} (ht : P.underlying t = some (.slice e)) (he : P.underlying e = some (.int .u8)) (hs : P.underlying t' = some .string) (hx : ρ x = v) (hv : RSl eByte G v xs) (hP : Pins G w) :
  (execOp ρ ⟨d, .convert t t' x, ty, pos, aft, g⟩).run P w = .ok (.value (.string (b2s xs))) w := by
 obtain ⟨a, cp, rfl, _, _⟩ := hv.sl
 have key : (Conv.bytesToString (.slice a xs.length cp)).run P w = .ok (.string (b2s xs)) w := by
  cases a with
  | none =>
   have h0 : xs = [] := by
    cases xs with
    | nil => rfl
    | cons q r =>
     obtain ⟨a', _, _, _, _, _, h1, _⟩ := hv.at_ 0 q rfl
     cases h1
   subst h0; rfl
  | some a =>
   have hcell : ∀ j q, (xs.map fun x => Value.int .u8 (x.toNat : Int))[j]? = some q → w.cell? (a.add j) = some q := fun j q hj => by
    rw [List.getElem?_map] at hj
    obtain ⟨y, hy, rfl⟩ := Option.map_eq_some_iff.1 hj
    obtain ⟨a', b, o, n, c', cs, h1, h2, h3, h4⟩ := hv.at_ j y hy
    simp only [Value.slice.injEq, Option.some.injEq] at h1
    obtain ⟨rfl, _, _⟩ := h1
    have h5 := h2 0
    simp only [eByte, Nat.mul_one, Nat.add_zero] at h5 h3
    rw [h5]
    exact hP _ _ _ (by have := h4 0 _ (by rw [h3]; rfl); simpa using this)
   have hl := run_loadCells_list (P := P) w a (xs.map fun x => Value.int .u8 (x.toNat : Int)) hcell
   rw [List.length_map] at hl
   have e0 : (xs.map fun x => Value.int .u8 (x.toNat : Int)) = (xs.map fun x => (x.toNat : Int)).map (Value.int .u8) := by rw [List.map_map]; rfl
   rw [e0] at hl
   rw [run_bytesToString w a xs.length cp _ hl, fold_push]
   simp [b2s]
 simp only [execOp, hx, convert, Sem.run_bind, run_underlying ht, run_underlying hs, Result.andThen_ok, run_underlying he, key]
 rfl

def digC (n : Nat) : UInt8 := if n < 10 then UInt8.ofNat (48 + n) else UInt8.ofNat (87 + n)
end
def dig36 (n : Nat) : List UInt8 := if _h : n < 36 then [digC n] else dig36 (n / 36) ++ [digC (n % 36)]
termination_by n
decreasing_by omega

def keyL (l : List Int) : List UInt8 := l.flatMap fun z => dig36 z.toNat ++ [44]
def keyN (l r : List Int) : List UInt8 := keyL l ++ [124] ++ keyL r

end Go.GL

namespace Go.GL
open Go Go.RowKit Go.Sort

end Go.GL

namespace Go.GL

end Go.GL

namespace Go.GL
open Go Go.RowKit
structure PM where
 f : Nat
 o : Nat
 c : Nat
 s : Nat
 n : Nat
structure PSt where
 ns : List Nd
 bs : List Int
 fl : List (ByteArray × Int)
 om : List ((Int × Int) × Bool)
 cm : List (Int × Int)
 sm : List ((Int × Int) × Int)
 gm : List (Int × Int)
def inP (p : Nat) (L R B : Value) (mm : PM) (k : Nat) : Prop := k = p ∨ L.ownBlock = some k ∨ R.ownBlock = some k ∨ B.ownBlock = some k ∨ k = mm.f ∨ k = mm.o ∨ k = mm.c ∨ k = mm.s ∨ k = mm.n
def NP (p : Nat) (L R B : Value) (mm : PM) (x : Option Nat) : Prop := ∀ k, x = some k → ¬ inP p L R B mm k
structure PDiff (mm : PM) : Prop where
 fo : mm.f ≠ mm.o
 fc : mm.f ≠ mm.c
 fs : mm.f ≠ mm.s
 fn : mm.f ≠ mm.n
 oc : mm.o ≠ mm.c
 os : mm.o ≠ mm.s
 on : mm.o ≠ mm.n
 cs : mm.c ≠ mm.s
 cn : mm.c ≠ mm.n
 sn : mm.s ≠ mm.n
structure Pk (er ei : Nat) (G : Pin) (w : World) (p : Nat) (L R B : Value) (mm : PM) (q : PSt) : Prop where
 bx : Bx G w p [L, R, B, .map (some mm.f), .map (some mm.o), .map (some mm.c), .map (some mm.s), .map (some mm.n)]
 ol : Own (eSl eInt) er G w 0 L (q.ns.map Nd.l)
 rr : Own (eSl eInt) er G w 0 R (q.ns.map Nd.r)
 ob : Own eInt ei G w 0 B q.bs
 ff : Mp (fun k : ByteArray => Value.string k) (fun v : Int => Value.int .i64 v) w mm.f q.fl
 fo : Mp encP2 (fun v : Bool => Value.bool v) w mm.o q.om
 fc : Mp (fun k : Int => Value.int .i64 k) (fun v : Int => Value.int .i64 v) w mm.c q.cm
 fs : Mp encP2 (fun v : Int => Value.int .i64 v) w mm.s q.sm
 fn : Mp (fun k : Int => Value.int .i64 k) (fun v : Int => Value.int .i64 v) w mm.n q.gm
 apl : Apart (some p) L.ownBlock
 apr : Apart (some p) R.ownBlock
 apb : Apart (some p) B.ownBlock
 alr : Apart L.ownBlock R.ownBlock
 alb : Apart L.ownBlock B.ownBlock
 arb : Apart R.ownBlock B.ownBlock
 df : PDiff mm
section
variable {er ei : Nat} {G G' : Pin} {w w' : World} {p : Nat} {L R B L' R' B' : Value} {mm : PM} {q : PSt}
theorem Mp.extS {κ ν : Type} {enc : κ → Value} {val : ν → Value} {m : Nat} {l : List (κ × ν)} {S : Nat → Prop} (h : Mp enc val w m l) (hx : Ext S G w G' w') (hS : ¬ S m) : Mp enc val w' m l := h.keep (hx.block m h.lt hS)
theorem NP.ho {x : Option Nat} (h : NP p L R B mm x) : Apart x (some mm.o) := fun k a c => h k a (by cases c; exact Or.inr (Or.inr (Or.inr (Or.inr (Or.inr (Or.inl rfl))))))
theorem NP.hc {x : Option Nat} (h : NP p L R B mm x) : Apart x (some mm.c) := fun k a c => h k a (by cases c; exact Or.inr (Or.inr (Or.inr (Or.inr (Or.inr (Or.inr (Or.inl rfl)))))))
theorem NP.hn {x : Option Nat} (h : NP p L R B mm x) : Apart x (some mm.n) := fun k a c => h k a (by cases c; exact Or.inr (Or.inr (Or.inr (Or.inr (Or.inr (Or.inr (Or.inr (Or.inr rfl))))))))
theorem NP.hp {x : Option Nat} (h : NP p L R B mm x) : Apart x (some p) := fun k a c => h k a (by cases c; exact Or.inl rfl)
theorem NP.hl {x : Option Nat} (h : NP p L R B mm x) : Apart x L.ownBlock := fun k a c => h k a (Or.inr (Or.inl c))
theorem NP.hr {x : Option Nat} (h : NP p L R B mm x) : Apart x R.ownBlock := fun k a c => h k a (Or.inr (Or.inr (Or.inl c)))
theorem NP.hb {x : Option Nat} (h : NP p L R B mm x) : Apart x B.ownBlock := fun k a c => h k a (Or.inr (Or.inr (Or.inr (Or.inl c))))
theorem Pk.setC (h : Pk er ei G w p L R B mm q) (hx : Ext (inO (some mm.c)) G w G' w') {cm : List (Int × Int)} (hm : Mp (fun k : Int => Value.int .i64 k) (fun v : Int => Value.int .i64 v) w' mm.c cm) : Pk er ei G' w' p L R B mm { q with cm := cm } where
 bx := h.bx.extS hx (notOb fun k a c => (map_ne_box h.fc h.bx) k c a)
 ol := h.ol.extS hx (notO (map_ne_own h.fc h.ol).symm)
 rr := h.rr.extS hx (notO (map_ne_own h.fc h.rr).symm)
 ob := h.ob.extS hx (notO (map_ne_own h.fc h.ob).symm)
 ff := h.ff.extS hx (fun e => h.df.fc (Option.some.inj e).symm)
 fo := h.fo.extS hx (fun e => h.df.oc (Option.some.inj e).symm)
 fc := hm
 fs := h.fs.extS hx (fun e => h.df.cs (Option.some.inj e))
 fn := h.fn.extS hx (fun e => h.df.cn (Option.some.inj e))
 apl := h.apl
 apr := h.apr
 apb := h.apb
 alr := h.alr
 alb := h.alb
 arb := h.arb
 df := h.df
end


def pd (q : PSt) (z : Int) : Nat := den q.ns z.toNat
def PlaceOk (q : PSt) (z : Int) : Prop := 0 ≤ z ∧ z < q.ns.length
structure FindOk (ns : List Nd) (fl : List (ByteArray × Int)) : Prop where
 has : ∀ i : Nat, i < ns.length → look fl (b2s (keyN (ns.getD i default).l (ns.getD i default).r)) = some (i : Int)
 is : ∀ (l r : List Int) (z : Int), (∀ x ∈ l, 0 ≤ x) → (∀ x ∈ r, 0 ≤ x) → look fl (b2s (keyN l r)) = some z → ∃ i : Nat, i < ns.length ∧ z = i ∧ ns.getD i default = ⟨l, r⟩
structure PoolOk (q : PSt) : Prop where
 ar : Ar q.ns q.bs
 find : FindOk q.ns q.fl
 ord : ∀ a b v, look q.om (a, b) = some v → PlaceOk q a ∧ PlaceOk q b ∧ v = decP (geG (pd q a) (pd q b))
 can : ∀ a z, look q.cm a = some z → PlaceOk q a ∧ PlaceOk q z ∧ CanonG (pd q z) ∧ eqG (pd q z) (pd q a)
 sum : ∀ a b z, look q.sm (a, b) = some z → PlaceOk q a ∧ PlaceOk q b ∧ PlaceOk q z ∧ pd q z = addG (pd q a) (pd q b)
 neg : ∀ a z, look q.gm a = some z → PlaceOk q a ∧ PlaceOk q z ∧ pd q z = negG (pd q a)
theorem PoolOk.setC {q : PSt} (h : PoolOk q) {a z : Int} (ha : PlaceOk q a) (hz : PlaceOk q z) (hc : CanonG (pd q z)) (he : eqG (pd q z) (pd q a)) : PoolOk { q with cm := putE q.cm a z } :=
 by
 refine ⟨h.ar, h.find, h.ord, ?_, h.sum, h.neg⟩
 intro c d hu
 simp only at hu
 rw [look_put] at hu
 split at hu
 ·rename_i he'
  cases he'; cases hu
  exact ⟨ha, hz, hc, he⟩
 ·exact h.can c d hu

section
variable {p : Nat} {L R B : Value} {mm : PM} {w0 : World} {S : Nat → Prop}
theorem NP.hf {x : Option Nat} (h : NP p L R B mm x) : Apart x (some mm.f) := fun k a c => h k a (by cases c; exact Or.inr (Or.inr (Or.inr (Or.inr (Or.inl rfl)))))
end
end Go.GL

namespace Go.GL
open Go Go.RowKit

end Go.GL

namespace Go.GL
open Go Go.RowKit
end Go.GL

namespace Go.GL
open Go Go.RowKit
end Go.GL

namespace Go.GL

end Go.GL

namespace Go.GL
open Go Go.RowKit
def geD (lf : Bool) (a b : Nat) : Prop := if lf = true then geG a b else geG b a
theorem geD_t {lf : Bool} {a b : Nat} (h : lf = true) : geD lf a b ↔ geG a b := by unfold geD; rw [if_pos h]
theorem geD_f {lf : Bool} {a b : Nat} (h : lf = false) : geD lf a b ↔ geG b a := by unfold geD; rw [if_neg (by rw [h]; exact Bool.false_ne_true)]
theorem Gadd.turn {S : Nat → Prop} {G0 G G' : Pin} {w0 w w' : World} {v : Value} (h : Pins (Gadd G0 w0 v) w) (hP : Pins G0 w') (hx : Ext S G w G' w') (hS : ∀ k, v.ownBlock = some k → ¬ S k) : Pins (Gadd G0 w0 v) w' := fun b o u hu => by
 rcases hu with hu | hu
 ·exact hP b o u hu
 ·have h1 := h b o u (Or.inr hu)
  have h2 := hx.block b (block_lt h1) (hS b hu.1)
  unfold World.cell? at h1 ⊢
  simp only [h2]; exact h1

def revP (lf : Bool) (g o : Nat) : Prop := if lf = true then ∃ x, roG o x ∧ geG g x else ∃ x, loG o x ∧ geG x g
end Go.GL

namespace Go.GL
open Go Go.RowKit
end Go.GL

namespace Go.GL
open Go Go.RowKit
def opD (lf : Bool) (g i : Nat) : Prop := if lf = true then loG g i else roG g i
theorem opD_t {g i : Nat} : opD true g i ↔ loG g i := by unfold opD; rw [if_pos rfl]
theorem opD_f {g i : Nat} : opD false g i ↔ roG g i := by unfold opD; rw [if_neg Bool.false_ne_true]
theorem geD_tt {a b : Nat} : geD true a b ↔ geG a b := geD_t rfl
theorem geD_ff {a b : Nat} : geD false a b ↔ geG b a := geD_f rfl
theorem opD.lt {lf : Bool} {g i : Nat} (h : opD lf g i) : i < g := by
 cases lf
 ·exact (opD_f.1 h).lt
 ·exact (opD_t.1 h).lt
theorem geD_trans {lf : Bool} {a b c : Nat} (h : geD lf a b) (k : geD lf b c) : geD lf a c := by
 cases lf
 ·exact geD_ff.2 (ge_trans (geD_ff.1 k) (geD_ff.1 h))
 ·exact geD_tt.2 (ge_trans (geD_tt.1 h) (geD_tt.1 k))
theorem opD_not {lf : Bool} {g l : Nat} (h : opD lf g l) : ¬ geD lf l g := by
 cases lf
 ·rw [geD_ff]; exact not_ge_right (opD_f.1 h)
 ·rw [geD_tt]; exact not_ge_left (opD_t.1 h)
theorem geD_iff {lf : Bool} {a b : Nat} : geD lf a b ↔ (∀ r, opD (!lf) a r → ¬ geD lf b r) ∧ (∀ l, opD lf b l → ¬ geD lf l a) := by
 cases lf
 ·simp only [geD_ff, opD_f, Bool.not_false, opD_t]
  rw [ge_iff]
  exact ⟨fun h => ⟨h.2, h.1⟩, fun h => ⟨h.2, h.1⟩⟩
 ·simp only [geD_tt, opD_t, Bool.not_true, opD_f]
  exact ge_iff
theorem geD_not {lf : Bool} {a b : Nat} (h : ¬ geD lf a b) : (∃ r, opD (!lf) a r ∧ geD lf b r) ∨ ∃ l, opD lf b l ∧ geD lf l a := by
 by_cases h1 : ∃ r, opD (!lf) a r ∧ geD lf b r
 ·exact Or.inl h1
 ·by_cases h2 : ∃ l, opD lf b l ∧ geD lf l a
  ·exact Or.inr h2
  ·exact absurd (geD_iff.2 ⟨fun r hr hg => h1 ⟨r, hr, hg⟩, fun l hl hg => h2 ⟨l, hl, hg⟩⟩) h
structure RedOk (lf : Bool) (g : Nat) (seen kept : List Nat) : Prop where
 canon : ∀ i ∈ seen, CanonG i
 low : ∀ i ∈ seen, ¬ geD lf i g
 keep : ∀ i, i ∈ kept ↔ i ∈ seen ∧ ¬ revP lf g i
 pass : ∀ i ∈ seen, revP lf g i → ∃ r, opD (!lf) i r ∧ geD lf g r ∧ ∀ l, opD lf r l → l ∈ seen
 opts : ∀ l, opD lf g l → ∃ i ∈ seen, eqG i l
theorem eqG_D {lf : Bool} {a b : Nat} (h : eqG a b) : geD lf a b ∧ geD lf b a := by
 cases lf
 ·exact ⟨geD_ff.2 h.2, geD_ff.2 h.1⟩
 ·exact ⟨geD_tt.2 h.1, geD_tt.2 h.2⟩
theorem RedOk.seen_low {lf : Bool} {g g' : Nat} {s k s2 k2 : List Nat} (h : RedOk lf g s k) (h2 : RedOk (!lf) g s2 k2) (hk : ∀ i, opD lf g' i ↔ i ∈ k) (hk2 : ∀ i, opD (!lf) g' i ↔ i ∈ k2) : ∀ n i, i ≤ n → i ∈ s → ¬ geD lf i g'
 | n, i, hn, hi, hg => by
  by_cases hr : revP lf g i
  ·obtain ⟨r, h3, h4, h5⟩ := h.pass i hi hr
   have h6 : ¬ geD lf g' r := (geD_iff.1 hg).1 r h3
   rcases geD_not h6 with ⟨r', h7, h8⟩ | ⟨l', h7, h8⟩
   ·have h9 := h2.low r' (((h2.keep r').1 ((hk2 r').1 h7)).1)
    apply h9
    cases lf
    ·exact geD_tt.2 (geD_ff.1 (geD_trans h4 h8))
    ·exact geD_ff.2 (geD_tt.1 (geD_trans h4 h8))
   ·have := h3.lt; have := h7.lt
    cases n with
    | zero => omega
    | succ n => exact seen_low h h2 hk hk2 n l' (by omega) (h5 l' h7) h8
  ·exact opD_not ((hk i).2 ((h.keep i).2 ⟨hi, hr⟩)) hg
theorem RedOk.half {lf : Bool} {g g' : Nat} {s k s2 k2 : List Nat} (h : RedOk lf g s k) (h2 : RedOk (!lf) g s2 k2) (hk : ∀ i, opD lf g' i ↔ i ∈ k) (hk2 : ∀ i, opD (!lf) g' i ↔ i ∈ k2) : geD lf g' g := by
 refine geD_iff.2 ⟨fun r hr hg => ?_, fun l hl hg => ?_⟩
 ·have h9 := h2.low r (((h2.keep r).1 ((hk2 r).1 hr)).1)
  apply h9
  cases lf
  ·exact geD_tt.2 (geD_ff.1 hg)
  ·exact geD_ff.2 (geD_tt.1 hg)
 ·obtain ⟨i, hi, he⟩ := h.opts l hl
  exact h.seen_low h2 hk hk2 i i (Nat.le_refl _) hi (geD_trans (eqG_D he).1 hg)




end Go.GL

namespace Go.GL
open Go Go.RowKit
end Go.GL

namespace Go.GL
open Go Go.RowKit

end Go.GL

namespace Go.GL
open Go Go.RowKit
end Go.GL

namespace Go.GL
open Go Go.RowKit Go.Sort Go.Lib



end Go.GL

namespace Go.GL
open Go Go.RowKit
end Go.GL

namespace Go.GL
open Go Go.RowKit
end Go.GL

namespace Go.GL
open Go Go.RowKit

end Go.GL

namespace Go.GL
open Go Go.RowKit

end Go.GL

namespace Go.GL
open Go Go.RowKit

end Go.GL

namespace Go.GL
open Go Go.RowKit
end Go.GL

namespace Go.GL
open Go Go.RowKit

end Go.GL

namespace Go.GL
open Go Go.RowKit
theorem wrapU_lt (n : Int) : 0 ≤ IntKind.u64.wrap n ∧ IntKind.u64.wrap n < 18446744073709551616 := by
 unfold IntKind.wrap
 simp only [IntKind.bits, IntKind.signed]
 have h1 := Int.emod_nonneg n (b := (2 : Int) ^ 64) (by decide)
 have h2 := Int.emod_lt_of_pos n (b := (2 : Int) ^ 64) (by decide)
 simp at h1 h2 ⊢
 omega
end Go.GL

namespace Go.GL
open Go Go.RowKit
def sB (s : ByteArray) (i : Nat) : UInt8 := s[i]?.getD 0
section
variable {P : Program} {ρ : Operand → Value} {w : World} {d : Option Nat} {t ty : Nat} {pos : String} {aft : Array Edge} {g : Option (Nat × Bool)} {x y : Operand}
theorem r_idxB {k : IntKind} {s : ByteArray} {i : Int} (ht : P.underlying t = some .string) (hx : ρ x = .string s) (hy : ρ y = .int k i) (h0 : 0 ≤ i) (h1 : i < s.size) : (execOp ρ ⟨d, .index t x y, ty, pos, aft, g⟩).run P w = .ok (.value (.int .u8 ((sB s i.toNat).toNat : Int))) w := by
 have e : s[i.toNat]? = some (sB s i.toNat) := by
  unfold sB
  rw [getElem?_pos s i.toNat (by omega)]
  rfl
 simp [execOp, hx, hy, Instr.index, asIntOf, run_underlying ht, h0, e]
theorem r_cutL {p : ByteArray} {j : Int} (ht : P.underlying t = some .string) (hx : ρ x = .string p) (hy : ρ y = .int .i64 j) (h0 : 0 ≤ j) (h1 : j ≤ p.size) :
  (execOp ρ ⟨d, .slice t x (some y) none none, ty, pos, aft, g⟩).run P w = .ok (.value (.string (p.extract j.toNat p.size))) w := by
 have h := run_slice_string_l (P := P) w t p ht .i64 j h0 h1
 simp [execOp, hx, hy, Instr.sliceAt, run_underlying ht, h]
end
end Go.GL

namespace Go.GL
open Go Go.RowKit
def rmA : Nat → List Bool → Nat
 | k, [] => k / 2
 | k, true :: t => rmA (k + 1) t
 | k, false :: t => k / 2 + rmA 0 t
theorem rmA_run : ∀ t : List Bool, ∃ m r, ∀ k, rmA k t = (k + m) / 2 + r
 | [] => ⟨0, 0, fun k => by simp [rmA]⟩
 | true :: t => by
  obtain ⟨m, r, h⟩ := rmA_run t
  exact ⟨m + 1, r, fun k => by rw [rmA, h]; congr 2; omega⟩
 | false :: t => ⟨0, rmA 0 t, fun k => by rw [rmA]; rfl⟩
theorem rmA_one : ∀ (l : List Bool) (k c : Nat), l.getD c false = true → rmA k (l.set c false) ≤ rmA k l ∧ rmA k l ≤ rmA k (l.set c false) + 1
 | [], k, c, h => by simp at h
 | x :: t, k, 0, h => by
  have hx : x = true := by simpa using h
  subst hx
  obtain ⟨m, r, e⟩ := rmA_run t
  rw [List.set_cons_zero, rmA, rmA, e, e]
  omega
 | x :: t, k, c + 1, h => by
  have h' : t.getD c false = true := by simpa using h
  rw [List.set_cons_succ]
  cases x with
  | true => rw [rmA, rmA]; exact rmA_one t _ c h'
  | false =>
   have := rmA_one t 0 c h'
   rw [rmA, rmA]; omega
theorem rmA_two : ∀ (l : List Bool) (k c : Nat), l.getD c false = true → l.getD (c + 1) false = true → rmA k ((l.set c false).set (c + 1) false) + 1 ≤ rmA k l
 | [], k, c, h, _ => by simp at h
 | [x], k, 0, _, h => by simp at h
 | x :: y :: t, k, 0, h, h2 => by
  have hx : x = true := by simpa using h
  have hy : y = true := by simpa using h2
  subst hx; subst hy
  obtain ⟨m, r, e⟩ := rmA_run t
  rw [List.set_cons_zero, List.set_cons_succ, List.set_cons_zero, rmA, rmA, rmA, rmA, e, e]
  omega
 | x :: t, k, c + 1, h, h2 => by
  have h' : t.getD c false = true := by simpa using h
  have h2' : t.getD (c + 1) false = true := by simpa using h2
  rw [List.set_cons_succ, List.set_cons_succ]
  cases x with
  | true => rw [rmA, rmA]; exact rmA_two t _ c h' h2'
  | false =>
   have := rmA_two t 0 c h' h2'
   rw [rmA, rmA]; omega
theorem rmA_pos : ∀ (l : List Bool) (k : Nat), 0 < rmA k l ↔ 2 ≤ k ∨ (k = 1 ∧ l.getD 0 false = true) ∨ ∃ c, l.getD c false = true ∧ l.getD (c + 1) false = true
 | [], k => by
  rw [rmA]
  constructor
  ·intro h; left; omega
  ·rintro (h | ⟨_, h⟩ | ⟨c, h, _⟩)
   ·omega
   ·simp at h
   ·simp at h
 | true :: t, k => by
  rw [rmA, rmA_pos t (k + 1)]
  constructor
  ·rintro (h | ⟨h, h2⟩ | ⟨c, h, h2⟩)
   ·by_cases hk : 2 ≤ k
    ·exact Or.inl hk
    ·exact Or.inr (Or.inl ⟨by omega, by simp⟩)
   ·exact Or.inr (Or.inr ⟨0, by simp, by simpa using h2⟩)
   ·exact Or.inr (Or.inr ⟨c + 1, by simpa using h, by simpa using h2⟩)
  ·rintro (h | ⟨h, h2⟩ | ⟨c, h, h2⟩)
   ·left; omega
   ·left; omega
   ·cases c with
    | zero =>
     by_cases hk : k = 0
     ·exact Or.inr (Or.inl ⟨by omega, by simpa using h2⟩)
     ·left; omega
    | succ c => exact Or.inr (Or.inr ⟨c, by simpa using h, by simpa using h2⟩)
 | false :: t, k => by
  have h0 := rmA_pos t 0
  rw [rmA]
  constructor
  ·intro h
   by_cases hk : 2 ≤ k
   ·exact Or.inl hk
   ·rcases h0.1 (by omega) with h | ⟨h, _⟩ | ⟨c, h, h2⟩
    ·omega
    ·omega
    ·exact Or.inr (Or.inr ⟨c + 1, by simpa using h, by simpa using h2⟩)
  ·rintro (h | ⟨_, h⟩ | ⟨c, h, h2⟩)
   ·omega
   ·simp at h
   ·cases c with
    | zero => simp at h
    | succ c =>
     have := h0.2 (Or.inr (Or.inr ⟨c, by simpa using h, by simpa using h2⟩))
     omega

abbrev Cells := Nat → Nat → Bool
def lineC (n : Nat) (f : Nat → Bool) : List Bool := (List.range n).map f
def sumN (n : Nat) (f : Nat → Nat) : Nat := ((List.range n).map f).sum
def roomC (H W : Nat) (F : Cells) (left : Bool) : Nat := if left = true then sumN W fun c => rmA 0 (lineC H fun r => F r c) else sumN H fun r => rmA 0 (lineC W fun c => F r c)
def dR (left : Bool) : Nat := if left = true then 1 else 0
def dC (left : Bool) : Nat := if left = true then 0 else 1
def MvC (H W : Nat) (F : Cells) (left : Bool) (r c : Nat) : Prop := r + dR left < H ∧ c + dC left < W ∧ F r c = true ∧ F (r + dR left) (c + dC left) = true
def putC (F : Cells) (left : Bool) (r c : Nat) : Cells := fun i k => F i k && !decide (i = r ∧ k = c) && !decide (i = r + dR left ∧ k = c + dC left)
theorem sumN_succ (n : Nat) (f : Nat → Nat) : sumN (n + 1) f = sumN n f + f n := by
 unfold sumN; rw [List.range_succ]; simp
theorem sumN_congr {n : Nat} {f g : Nat → Nat} (h : ∀ i, i < n → f i = g i) : sumN n f = sumN n g := by
 unfold sumN
 congr 1
 exact List.map_congr_left fun i hi => h i (List.mem_range.1 hi)
theorem sumN_pos {n : Nat} {f : Nat → Nat} : 0 < sumN n f ↔ ∃ i, i < n ∧ 0 < f i := by
 induction n with
 | zero => simp [sumN]
 | succ n ih =>
  rw [sumN_succ]
  constructor
  ·intro h
   by_cases h0 : 0 < f n
   ·exact ⟨n, by omega, h0⟩
   ·obtain ⟨i, hi, h1⟩ := ih.1 (by omega)
    exact ⟨i, by omega, h1⟩
  ·rintro ⟨i, hi, h1⟩
   by_cases hn : i = n
   ·subst hn; omega
   ·have := ih.2 ⟨i, by omega, h1⟩; omega
theorem sumN_le {n : Nat} {f g : Nat → Nat} (h : ∀ i, i < n → f i ≤ g i) : sumN n f ≤ sumN n g := by
 induction n with
 | zero => simp [sumN]
 | succ n ih =>
  rw [sumN_succ, sumN_succ]
  have := ih fun i hi => h i (by omega)
  have := h n (by omega)
  omega
theorem sumN_drop {n : Nat} {f g : Nat → Nat} {j d : Nat} (hj : j < n) (h : ∀ i, i < n → f i ≤ g i) (h1 : f j + d ≤ g j) : sumN n f + d ≤ sumN n g := by
 induction n with
 | zero => omega
 | succ n ih =>
  rw [sumN_succ, sumN_succ]
  by_cases hn : j = n
  ·subst hn
   have := sumN_le (n := j) fun i hi => h i (by omega)
   omega
  ·have := ih (by omega) fun i hi => h i (by omega)
   have := h n (by omega)
   omega
theorem sumN_near {n : Nat} {f g : Nat → Nat} {p q : Nat} (h : ∀ i, i < n → f i ≤ g i ∧ g i ≤ f i + 1) (h0 : ∀ i, i < n → i ≠ p → i ≠ q → f i = g i) : sumN n f ≤ sumN n g ∧ sumN n g ≤ sumN n f + 2 := by
 refine ⟨sumN_le fun i hi => (h i hi).1, ?_⟩
 have key : ∀ m, m ≤ n → sumN m g ≤ sumN m f + (if p < m then 1 else 0) + (if q < m then 1 else 0) := by
  intro m
  induction m with
  | zero => intro _; simp [sumN]
  | succ m ih =>
   intro hm
   have := ih (by omega)
   have := h m (by omega)
   have := h0 m (by omega)
   rw [sumN_succ, sumN_succ]
   by_cases hp : m = p
   ·subst hp
    by_cases hq : q < m
    ·simp only [hq, Nat.lt_irrefl, if_false, if_true, Nat.lt_succ_self, show q < m + 1 by omega] at *; omega
    ·by_cases hq2 : q < m + 1
     ·simp only [hq, hq2, Nat.lt_irrefl, if_false, if_true, Nat.lt_succ_self] at *; omega
     ·simp only [hq, hq2, Nat.lt_irrefl, if_false, if_true, Nat.lt_succ_self] at *; omega
   ·by_cases hq : m = q
    ·subst hq
     by_cases hp2 : p < m
     ·simp only [hp2, show p < m + 1 by omega, Nat.lt_irrefl, if_false, if_true, Nat.lt_succ_self] at *; omega
     ·simp only [hp2, show ¬ p < m + 1 by omega, Nat.lt_irrefl, if_false, if_true, Nat.lt_succ_self] at *; omega
    ·have e := this (by omega) (by omega)
     have a1 : (if p < m + 1 then 1 else 0) = (if p < m then 1 else 0) := by
      by_cases hp2 : p < m
      ·rw [if_pos hp2, if_pos (by omega)]
      ·rw [if_neg hp2, if_neg (by omega)]
     have a2 : (if q < m + 1 then 1 else 0) = (if q < m then 1 else 0) := by
      by_cases hp2 : q < m
      ·rw [if_pos hp2, if_pos (by omega)]
      ·rw [if_neg hp2, if_neg (by omega)]
     rw [a1, a2]; omega
 have := key n (Nat.le_refl _)
 split at this <;> split at this <;> omega
theorem lineC_len (n : Nat) (f : Nat → Bool) : (lineC n f).length = n := by simp [lineC]
theorem lineC_at {n : Nat} {f : Nat → Bool} {c : Nat} (h : c < n) : (lineC n f).getD c false = f c := by simp [lineC, List.getD, h]
theorem lineC_out {n : Nat} {f : Nat → Bool} {c : Nat} (h : ¬ c < n) : (lineC n f).getD c false = false := by simp [lineC, List.getD, h]
theorem lineC_congr {n : Nat} {f g : Nat → Bool} (h : ∀ i, i < n → f i = g i) : lineC n f = lineC n g := List.map_congr_left fun i hi => h i (List.mem_range.1 hi)
theorem lineC_set {n : Nat} {f : Nat → Bool} {c : Nat} : (lineC n f).set c false = lineC n fun i => f i && !decide (i = c) := by
 apply List.ext_getElem
 ·simp [lineC]
 ·intro i h1 h2
  simp only [lineC, List.getElem_set, List.getElem_map, List.getElem_range]
  by_cases h : c = i
  ·subst h; simp
  ·rw [if_neg h]; simp [Ne.symm h]
section
variable {H W : Nat} {F : Cells} {left : Bool} {r c : Nat}
theorem room_own (h : MvC H W F left r c) : roomC H W (putC F left r c) left + 1 ≤ roomC H W F left := by
 obtain ⟨h1, h2, h3, h4⟩ := h
 cases left with
 | true =>
  have e1 : dR true = 1 := rfl
  have e2 : dC true = 0 := rfl
  rw [e1, e2, Nat.add_zero] at h4
  rw [e1] at h1; rw [e2, Nat.add_zero] at h2
  unfold roomC
  rw [if_pos rfl, if_pos rfl]
  refine sumN_drop (j := c) h2 (fun i hi => ?_) ?_
  ·by_cases hi2 : i = c
   ·subst hi2
    have a := rmA_two (lineC H fun r => F r i) 0 r (by rw [lineC_at (by omega)]; exact h3) (by rw [lineC_at h1]; exact h4)
    rw [lineC_set, lineC_set] at a
    refine Nat.le_trans (Nat.le_of_eq ?_) (Nat.le_trans (Nat.le_succ _) a)
    congr 1
    refine lineC_congr fun k hk => ?_
    simp [putC, dR, dC]
   ·refine Nat.le_of_eq ?_
    congr 1
    refine lineC_congr fun k hk => ?_
    simp [putC, dR, dC, hi2]
  ·have a := rmA_two (lineC H fun r => F r c) 0 r (by rw [lineC_at (by omega)]; exact h3) (by rw [lineC_at h1]; exact h4)
   rw [lineC_set, lineC_set] at a
   refine Nat.le_trans (Nat.le_of_eq ?_) a
   congr 2
   refine lineC_congr fun k hk => ?_
   simp [putC, dR, dC]
 | false =>
  have e1 : dR false = 0 := rfl
  have e2 : dC false = 1 := rfl
  rw [e1, e2, Nat.add_zero] at h4
  rw [e1, Nat.add_zero] at h1; rw [e2] at h2
  unfold roomC
  rw [if_neg (by decide), if_neg (by decide)]
  refine sumN_drop (j := r) h1 (fun i hi => ?_) ?_
  ·by_cases hi2 : i = r
   ·subst hi2
    have a := rmA_two (lineC W fun c => F i c) 0 c (by rw [lineC_at (by omega)]; exact h3) (by rw [lineC_at h2]; exact h4)
    rw [lineC_set, lineC_set] at a
    refine Nat.le_trans (Nat.le_of_eq ?_) (Nat.le_trans (Nat.le_succ _) a)
    congr 1
    refine lineC_congr fun k hk => ?_
    simp [putC, dR, dC]
   ·refine Nat.le_of_eq ?_
    congr 1
    refine lineC_congr fun k hk => ?_
    simp [putC, dR, dC, hi2]
  ·have a := rmA_two (lineC W fun c => F r c) 0 c (by rw [lineC_at (by omega)]; exact h3) (by rw [lineC_at h2]; exact h4)
   rw [lineC_set, lineC_set] at a
   refine Nat.le_trans (Nat.le_of_eq ?_) a
   congr 2
   refine lineC_congr fun k hk => ?_
   simp [putC, dR, dC]
theorem room_other (h : MvC H W F (!left) r c) : roomC H W (putC F (!left) r c) left ≤ roomC H W F left ∧ roomC H W F left ≤ roomC H W (putC F (!left) r c) left + 2 := by
 obtain ⟨h1, h2, h3, h4⟩ := h
 cases left with
 | true =>
  simp only [Bool.not_true] at *
  have e1 : dR false = 0 := rfl
  have e2 : dC false = 1 := rfl
  rw [e1, e2, Nat.add_zero] at h4
  rw [e1, Nat.add_zero] at h1; rw [e2] at h2
  unfold roomC
  rw [if_pos rfl, if_pos rfl]
  refine sumN_near (p := c) (q := c + 1) (fun i hi => ?_) (fun i hi hp hq => ?_)
  ·by_cases hi2 : F r i = true ∧ (i = c ∨ i = c + 1)
   ·have a := rmA_one (lineC H fun r => F r i) 0 r (by rw [lineC_at (by omega)]; exact hi2.1)
    rw [lineC_set] at a
    have e : (lineC H fun k => putC F false r c k i) = lineC H fun k => F k i && !decide (k = r) := lineC_congr fun k hk => by
     rcases hi2.2 with e | e
     ·subst e; simp [putC, dR, dC]
     ·subst e; simp [putC, dR, dC]
    rw [e]; exact a
   ·have e : (lineC H fun k => putC F false r c k i) = lineC H fun k => F k i := lineC_congr fun k hk => by
     have n1 : i ≠ c := fun e => hi2 ⟨by rw [e]; exact h3, Or.inl e⟩
     have n2 : i ≠ c + 1 := fun e => hi2 ⟨by rw [e]; exact h4, Or.inr e⟩
     simp [putC, dR, dC, n1, n2]
    rw [e]; exact ⟨Nat.le_refl _, Nat.le_succ _⟩
  ·congr 1
   refine lineC_congr fun k hk => ?_
   simp [putC, dR, dC, hp, hq]
 | false =>
  simp only [Bool.not_false] at *
  have e1 : dR true = 1 := rfl
  have e2 : dC true = 0 := rfl
  rw [e1, e2, Nat.add_zero] at h4
  rw [e1] at h1; rw [e2, Nat.add_zero] at h2
  unfold roomC
  rw [if_neg (by decide), if_neg (by decide)]
  refine sumN_near (p := r) (q := r + 1) (fun i hi => ?_) (fun i hi hp hq => ?_)
  ·by_cases hi2 : F i c = true ∧ (i = r ∨ i = r + 1)
   ·have a := rmA_one (lineC W fun c => F i c) 0 c (by rw [lineC_at (by omega)]; exact hi2.1)
    rw [lineC_set] at a
    have e : (lineC W fun k => putC F true r c i k) = lineC W fun k => F i k && !decide (k = c) := lineC_congr fun k hk => by
     rcases hi2.2 with e | e
     ·subst e; simp [putC, dR, dC]
     ·subst e; simp [putC, dR, dC]
    rw [e]; exact a
   ·have e : (lineC W fun k => putC F true r c i k) = lineC W fun k => F i k := lineC_congr fun k hk => by
     have n1 : i ≠ r := fun e => hi2 ⟨by rw [e]; exact h3, Or.inl e⟩
     have n2 : i ≠ r + 1 := fun e => hi2 ⟨by rw [e]; exact h4, Or.inr e⟩
     simp [putC, dR, dC, n1, n2]
    rw [e]; exact ⟨Nat.le_refl _, Nat.le_succ _⟩
  ·congr 1
   refine lineC_congr fun k hk => ?_
   simp [putC, dR, dC, hp, hq]
theorem room_pos : 0 < roomC H W F left ↔ ∃ r c, MvC H W F left r c := by
 cases left with
 | true =>
  unfold roomC
  rw [if_pos rfl, sumN_pos]
  constructor
  ·rintro ⟨c, hc, h⟩
   rcases (rmA_pos _ 0).1 h with h | ⟨h, _⟩ | ⟨r, h1, h2⟩
   ·omega
   ·omega
   ·have k1 : r < H := Classical.byContradiction fun hn => by rw [lineC_out hn] at h1; cases h1
    have k2 : r + 1 < H := Classical.byContradiction fun hn => by rw [lineC_out hn] at h2; cases h2
    rw [lineC_at k1] at h1; rw [lineC_at k2] at h2
    exact ⟨r, c, k2, hc, h1, h2⟩
  ·rintro ⟨r, c, h1, h2, h3, h4⟩
   have h1 : r + 1 < H := h1
   exact ⟨c, h2, (rmA_pos _ 0).2 (Or.inr (Or.inr ⟨r, by rw [lineC_at (by omega)]; exact h3, by rw [lineC_at h1]; exact h4⟩))⟩
 | false =>
  unfold roomC
  rw [if_neg (by decide), sumN_pos]
  constructor
  ·rintro ⟨r, hr, h⟩
   rcases (rmA_pos _ 0).1 h with h | ⟨h, _⟩ | ⟨c, h1, h2⟩
   ·omega
   ·omega
   ·have k1 : c < W := Classical.byContradiction fun hn => by rw [lineC_out hn] at h1; cases h1
    have k2 : c + 1 < W := Classical.byContradiction fun hn => by rw [lineC_out hn] at h2; cases h2
    rw [lineC_at k1] at h1; rw [lineC_at k2] at h2
    exact ⟨r, c, hr, k2, h1, h2⟩
  ·rintro ⟨r, c, h1, h2, h3, h4⟩
   have h2 : c + 1 < W := h2
   exact ⟨r, h1, (rmA_pos _ 0).2 (Or.inr (Or.inr ⟨c, by rw [lineC_at (by omega)]; exact h3, by rw [lineC_at h2]; exact h4⟩))⟩
end
end Go.GL

namespace Go.GL
open Go Go.RowKit Go.Lib
def splL (c : UInt8) : List UInt8 → List (List UInt8)
 | [] => [[]]
 | b :: l => if b = c then [] :: splL c l else match splL c l with
  | [] => [[b]]
  | x :: r => (b :: x) :: r
theorem splL_ne (c : UInt8) : ∀ l, splL c l ≠ []
 | [] => by simp [splL]
 | b :: l => by
  unfold splL
  split
  ·simp
  ·split <;> simp
theorem splL_cons {b c : UInt8} (h : b ≠ c) {l x : List UInt8} {r : List (List UInt8)} (e : splL c l = x :: r) : splL c (b :: l) = (b :: x) :: r := by
 rw [splL, if_neg h, e]
theorem splitK_splL (c : UInt8) : ∀ l : List UInt8, splitK [c] 0 (l.count c) l = splL c l
 | [] => rfl
 | b :: l => by
  have ih := splitK_splL c l
  by_cases h : b = c
  ·subst h
   have e1 : (b :: l).count b = l.count b + 1 := List.count_cons_self
   have e2 : index (b :: l) [b] = 0 := by rw [index_one]; simp [indexByte]
   have e3 : splL b (b :: l) = [] :: splL b l := by rw [splL, if_pos rfl]
   rw [e1, splitK, e2, e3, ← ih]
   simp
  ·have e1 : (b :: l).count c = l.count c := List.count_cons_of_ne (fun e => h e)
   rw [e1]
   match hx : splL c l, splL_ne c l with
   | x :: r, _ =>
    rw [splL_cons h hx]
    rw [hx] at ih
    cases hn : l.count c with
    | zero =>
     rw [hn] at ih
     have ih' : [l] = x :: r := ih
     show [b :: l] = _
     obtain ⟨rfl, rfl⟩ := List.cons.inj ih'
     rfl
    | succ k =>
     rw [hn] at ih
     have hm : c ∈ l := List.count_pos_iff.1 (by omega)
     have hi : ∃ i : Nat, index l [c] = i := by
      rw [index_one]
      clear ih hx e1 hn h
      induction l with
      | nil => simp at hm
      | cons a l ih2 =>
       unfold indexByte
       by_cases ha : a = c
       ·exact ⟨0, by simp [ha]⟩
       ·obtain ⟨i, hi⟩ := ih2 (by simpa [Ne.symm ha] using hm)
        refine ⟨i + 1, ?_⟩
        simp [ha, hi]
     obtain ⟨i, hi⟩ := hi
     have hi2 : index (b :: l) [c] = ((i + 1 : Nat) : Int) := by
      rw [index, hi]
      have hp : [c].isPrefixOf (b :: l) = false := by simp [List.isPrefixOf, Ne.symm h]
      rw [hp]
      have : ¬ (((i : Int) == -1) = true) := by simp
      simp [this]
     rw [splitK, hi2] 
     rw [splitK, hi] at ih
     have n1 : ¬ ((((i + 1 : Nat) : Int) == -1) = true) := by simp; omega
     have n2 : ¬ (((i : Int) == -1) = true) := by simp
     rw [if_neg n1]
     rw [if_neg n2] at ih
     obtain ⟨a1, a2⟩ := List.cons.inj ih
     simp only [Int.toNat_natCast, Nat.add_zero, List.length_singleton] at a1 a2 ⊢
     rw [List.take_succ_cons, a1]
     congr 1
theorem splitB_splL (c : UInt8) (s : ByteArray) : (splitB ⟨#[c]⟩ 0 (countB s ⟨#[c]⟩) s).map (·.data.toList) = splL c s.data.toList := by
 have h := splitB_data ⟨#[c]⟩ 0 (countB s ⟨#[c]⟩) s
 rw [h]
 have e : countB s ⟨#[c]⟩ = s.data.toList.count c := by
  unfold countB
  exact count_one c _
 rw [e]
 exact splitK_splL c _
theorem own_lit {α : Type} {E : Elt α} {w : World} {G : Pin} {e n : Nat} (cells : List Value) (ys : List α) (hP : Pins G w) (hn : n = ys.length) (hm : n ≤ 1000000000) (hl : cells.length = n * E.size) (hr : ∀ i y, ys[i]? = some y → E.rep G ((cells.drop (i * E.size)).take E.size) y) :
  Own E e G (w.alloc (.cells cells.toArray e)) w.heap.size (.slice (some ⟨w.heap.size, 0, none⟩) n n) ys ∧ Pins G (w.alloc (.cells cells.toArray e)) ∧ Below w.heap.size w (w.alloc (.cells cells.toArray e)) := by
 have hfree : ∀ k, Value.ownBlock (.slice (some ⟨w.heap.size, 0, none⟩) n n) = some k → ∀ o u, ¬ G k o u := by
  intro k hk o u hG
  simp [Value.ownBlock] at hk
  have := block_lt (hP _ _ _ hG); omega
 have hb : Below w.heap.size w (w.alloc (.cells cells.toArray e)) := (Below.refl _ _).alloc (Nat.le_refl _) _
 have ho := World.ownsRow_lit (base := w.heap.size) (e := e) (size := E.size) w cells.toArray n (Nat.le_refl _) (by unfold maxLen; omega) (by simpa using hl)
 exact ⟨⟨⟨cells, by rw [← hn]; simpa using ho, hr⟩, hfree⟩, hP.below hb, hb⟩
theorem own_strs {w : World} {G : Pin} {e : Nat} (xs : List ByteArray) (hP : Pins G w) (hm : xs.length ≤ 1000000000) :
  Own eStr e G (w.alloc (.cells (xs.map Value.string).toArray e)) w.heap.size (.slice (some ⟨w.heap.size, 0, none⟩) xs.length xs.length) xs ∧ Pins G (w.alloc (.cells (xs.map Value.string).toArray e)) ∧ Below w.heap.size w (w.alloc (.cells (xs.map Value.string).toArray e)) :=
 own_lit (E := eStr) (xs.map Value.string) xs hP rfl hm (by simp [eStr]) fun i y hy => by
  have hi := (List.getElem?_eq_some_iff.1 hy)
  obtain ⟨h1, h2⟩ := hi
  show ((xs.map Value.string).drop (i * 1)).take 1 = [Value.string y]
  rw [Nat.mul_one, List.drop_eq_getElem_cons (by simpa using h1)]
  simp [h2]
end Go.GL

namespace Go.GL
open Go Go.RowKit Go.Lib
def rwS (rows : List ByteArray) (r : Nat) : ByteArray := rows.getD r ByteArray.empty
def frB (rows : List ByteArray) (r c : Nat) : Bool := decide (((sB (rwS rows r) c).toNat : Int) = 46)
def wdS (rows : List ByteArray) : Nat := (rwS rows 0).size
structure GbP (rows : List ByteArray) : Prop where
 hi : 1 ≤ rows.length ∧ rows.length ≤ 8
 wd : 1 ≤ wdS rows ∧ wdS rows ≤ 8
 eq : ∀ i, i < rows.length → (rwS rows i).size = wdS rows
 ch : ∀ i, i < rows.length → ∀ k, k < wdS rows → ((sB (rwS rows i) k).toNat : Int) = 46 ∨ ((sB (rwS rows i) k).toNat : Int) = 35
theorem sB_out {s : ByteArray} {i : Nat} (h : ¬ i < s.size) : sB s i = 0 := by
 unfold sB
 rw [getElem?_neg s i h]; rfl
theorem sB_data {s : ByteArray} {i : Nat} : sB s i = s.data.toList.getD i 0 := by
 unfold sB
 by_cases h : i < s.size
 ·rw [getElem?_pos s i h, List.getD]
  have h2 : i < s.data.toList.length := by simpa using h
  rw [List.getElem?_eq_getElem h2]
  simp [ByteArray.getElem_eq_getElem_data]
 ·rw [getElem?_neg s i h, List.getD]
  have h2 : ¬ i < s.data.toList.length := by simpa using h
  rw [List.getElem?_eq_none (by omega)]
  try rfl
theorem rwS_out {rows : List ByteArray} {r : Nat} (h : ¬ r < rows.length) : rwS rows r = ByteArray.empty := by
 unfold rwS
 rw [List.getD, List.getElem?_eq_none (by omega)]; rfl
theorem fr_rowout {rows : List ByteArray} {r c : Nat} (h : ¬ r < rows.length) : frB rows r c = false := by
 unfold frB
 rw [rwS_out h, sB_out (by show ¬ c < 0; omega)]
 decide
theorem fr_colout {rows : List ByteArray} {r c : Nat} (h : ¬ c < (rwS rows r).size) : frB rows r c = false := by
 unfold frB
 rw [sB_out h]
 decide

def byB (b : Bool) : UInt8 := if b = true then 46 else 35
def rowM (l : List Bool) : ByteArray := b2s (l.map byB)
def bdM (cells : List (List Bool)) : List ByteArray := cells.map rowM
def cellsM (rows : List ByteArray) : List (List Bool) := (List.range rows.length).map fun i => lineC (rwS rows i).size (frB rows i)
def setC (cells : List (List Bool)) (r c : Nat) : List (List Bool) := cells.set r ((cells.getD r []).set c false)
def nextC (rows : List ByteArray) (left : Bool) (r c : Nat) : List (List Bool) := setC (setC (cellsM rows) r c) (r + dR left) (c + dC left)
theorem b2s_list (l : List UInt8) : (b2s l).data.toList = l := by unfold b2s; simp
theorem b2s_size (l : List UInt8) : (b2s l).size = l.length := by unfold b2s; simp [ByteArray.size]
theorem sB_b2s (l : List UInt8) (k : Nat) : sB (b2s l) k = l.getD k 0 := by rw [sB_data, b2s_list]
theorem b2s_ext {l m : List UInt8} (h : l.length = m.length) (k : ∀ i, i < l.length → l.getD i 0 = m.getD i 0) : b2s l = b2s m := by
 congr 1
 apply List.ext_getElem h
 intro i h1 h2
 have := k i h1
 simpa [List.getD, h1, h2] using this
theorem lineC_succ (n : Nat) (f : Nat → Bool) : lineC (n + 1) f = lineC n f ++ [f n] := by unfold lineC; rw [List.range_succ]; simp
section
variable {rows : List ByteArray} {left : Bool} {r c : Nat}
theorem cells_len : (cellsM rows).length = rows.length := by simp [cellsM]
theorem cells_at {i : Nat} (h : i < rows.length) : (cellsM rows).getD i [] = lineC (rwS rows i).size (frB rows i) := by simp [cellsM, List.getD, h]
theorem set_at (cells : List (List Bool)) (r c i k : Nat) : ((setC cells r c).getD i []).getD k false = ((cells.getD i []).getD k false && !decide (i = r ∧ k = c)) := by
 unfold setC
 by_cases hi : i = r
 ·subst hi
  by_cases hl : i < cells.length
  ·have e : (cells.set i ((cells.getD i []).set c false)).getD i [] = (cells.getD i []).set c false := by simp [List.getD, hl]
   rw [e]
   by_cases hk : k = c
   ·subst hk
    by_cases hk2 : k < (cells.getD i []).length
    ·have : ((cells.getD i []).set k false).getD k false = false := by
      simp only [List.getD]; rw [List.getElem?_set_self (by simpa [List.getD] using hk2)]; rfl
     rw [this]; simp
    ·have : ((cells.getD i []).set k false).getD k false = false := by
      rw [List.getD, List.getElem?_eq_none (by simpa using Nat.le_of_not_lt hk2)]; rfl
     rw [this]; simp
   ·have : ((cells.getD i []).set c false).getD k false = (cells.getD i []).getD k false := by
     simp only [List.getD]; rw [List.getElem?_set_ne (Ne.symm hk)]
    rw [this]; simp [hk]
  ·have e1 : cells.getD i [] = [] := by rw [List.getD, List.getElem?_eq_none (by omega)]; rfl
   rw [e1]
   have e2 : (cells.set i (([] : List Bool).set c false)).getD i [] = [] := by rw [List.getD, List.getElem?_eq_none (by simp; omega)]; rfl
   rw [e2]; simp
 ·have : (cells.set r ((cells.getD r []).set c false)).getD i [] = cells.getD i [] := by
   simp only [List.getD]; rw [List.getElem?_set_ne (Ne.symm hi)]
  rw [this]; simp [hi]
theorem set_len (cells : List (List Bool)) (r c : Nat) : (setC cells r c).length = cells.length := by unfold setC; simp
theorem set_row (cells : List (List Bool)) (r c i : Nat) : ((setC cells r c).getD i []).length = (cells.getD i []).length := by
 unfold setC
 by_cases hi : i = r
 ·subst hi
  by_cases hl : i < cells.length
  ·have e : (cells.set i ((cells.getD i []).set c false)).getD i [] = (cells.getD i []).set c false := by simp [List.getD, hl]
   rw [e]; simp
  ·have e1 : cells.getD i [] = [] := by rw [List.getD, List.getElem?_eq_none (by omega)]; rfl
   rw [e1]
   have e2 : (cells.set i (([] : List Bool).set c false)).getD i [] = [] := by rw [List.getD, List.getElem?_eq_none (by simp; omega)]; rfl
   rw [e2]
 ·have : (cells.set r ((cells.getD r []).set c false)).getD i [] = cells.getD i [] := by
   simp only [List.getD]; rw [List.getElem?_set_ne (Ne.symm hi)]
  rw [this]
theorem next_len : (nextC rows left r c).length = rows.length := by unfold nextC; rw [set_len, set_len, cells_len]
theorem next_row (g : GbP rows) {i : Nat} (h : i < rows.length) : ((nextC rows left r c).getD i []).length = wdS rows := by
 unfold nextC; rw [set_row, set_row, cells_at h, lineC_len, g.eq i h]
theorem next_at (g : GbP rows) {i k : Nat} (h : i < rows.length) (hk : k < wdS rows) : ((nextC rows left r c).getD i []).getD k false = putC (frB rows) left r c i k := by
 unfold nextC
 rw [set_at, set_at, cells_at h, lineC_at (by rw [g.eq i h]; exact hk)]
 rfl
theorem bd_row (cells : List (List Bool)) {i : Nat} (h : i < cells.length) : rwS (bdM cells) i = rowM (cells.getD i []) := by
 unfold rwS bdM; simp [List.getD, h]
theorem row_at (l : List Bool) {k : Nat} (h : k < l.length) : sB (rowM l) k = byB (l.getD k false) := by
 unfold rowM; rw [sB_b2s]; simp [List.getD, h]
theorem row_size (l : List Bool) : (rowM l).size = l.length := by unfold rowM; rw [b2s_size]; simp
theorem by_46 (b : Bool) : decide (((byB b).toNat : Int) = 46) = b := by cases b <;> decide
theorem by_ch (b : Bool) : ((byB b).toNat : Int) = 46 ∨ ((byB b).toNat : Int) = 35 := by cases b <;> decide
theorem next_good (g : GbP rows) : GbP (bdM (nextC rows left r c)) ∧ (bdM (nextC rows left r c)).length = rows.length ∧ wdS (bdM (nextC rows left r c)) = wdS rows ∧ ∀ i k, i < rows.length → k < wdS rows → frB (bdM (nextC rows left r c)) i k = putC (frB rows) left r c i k := by
 have hl : (bdM (nextC rows left r c)).length = rows.length := by unfold bdM; rw [List.length_map, next_len]
 have hs : ∀ i, i < rows.length → (rwS (bdM (nextC rows left r c)) i).size = wdS rows := fun i h => by
  rw [bd_row _ (by rw [next_len]; exact h), row_size, next_row g h]
 have hw : wdS (bdM (nextC rows left r c)) = wdS rows := hs 0 (by have := g.hi; omega)
 refine ⟨⟨by rw [hl]; exact g.hi, by rw [hw]; exact g.wd, fun i h => by rw [hw]; exact hs i (by omega), fun i h k hk => ?_⟩, hl, hw, fun i k h hk => ?_⟩
 ·rw [hl] at h; rw [hw] at hk
  rw [bd_row _ (by rw [next_len]; exact h), row_at _ (by rw [next_row g h]; exact hk)]
  exact by_ch _
 ·unfold frB
  rw [bd_row _ (by rw [next_len]; exact h), row_at _ (by rw [next_row g h]; exact hk), by_46]
  exact next_at g h hk

def plL (l : List UInt8) (i r c : Nat) (left : Bool) : List UInt8 :=
 if left = true ∧ i = r + 1 then (if i = r then (if left = true then l.set c 35 else (l.set c 35).set (c + 1) 35) else l).set c 35
 else if i = r then (if left = true then l.set c 35 else (l.set c 35).set (c + 1) 35) else l
def placedM (rows : List ByteArray) (r c : Nat) (left : Bool) : List ByteArray := (List.range rows.length).map fun i => b2s (plL (rwS rows i).data.toList i r c left)
theorem setU_at (l : List UInt8) (c k : Nat) : (l.set c 35).getD k 0 = if k = c ∧ k < l.length then 35 else l.getD k 0 := by
 by_cases h : k = c
 ·subst h
  by_cases hl : k < l.length
  ·rw [if_pos ⟨rfl, hl⟩]; simp [List.getD, hl]
  ·rw [if_neg (fun h => hl h.2), List.getD, List.getD, List.getElem?_eq_none (by simpa using Nat.le_of_not_lt hl), List.getElem?_eq_none (by omega)]
 ·rw [if_neg (fun e => h e.1)]; simp only [List.getD]; rw [List.getElem?_set_ne (Ne.symm h)]
theorem pl_len (l : List UInt8) (i r c : Nat) (left : Bool) : (plL l i r c left).length = l.length := by
 unfold plL; split <;> (try split) <;> (try split) <;> simp
theorem pl_at (l : List UInt8) (i r c k : Nat) (left : Bool) (hk : k < l.length) : (plL l i r c left).getD k 0 = if (i = r ∧ k = c) ∨ (i = r + dR left ∧ k = c + dC left) then 35 else l.getD k 0 := by
 unfold plL
 cases left with
 | true =>
  have e1 : dR true = 1 := rfl
  have e2 : dC true = 0 := rfl
  rw [e1, e2]
  by_cases h1 : i = r + 1
  ·rw [if_pos ⟨rfl, h1⟩, if_neg (show ¬ i = r by omega), setU_at]
   by_cases h2 : k = c
   ·rw [if_pos ⟨h2, hk⟩, if_pos (Or.inr ⟨h1, h2⟩)]
   ·rw [if_neg (fun h => h2 h.1), if_neg (by omega)]
  ·rw [if_neg (fun h => h1 h.2)]
   by_cases h2 : i = r
   ·rw [if_pos h2, if_pos rfl, setU_at]
    by_cases h3 : k = c
    ·rw [if_pos ⟨h3, hk⟩, if_pos (Or.inl ⟨h2, h3⟩)]
    ·rw [if_neg (fun h => h3 h.1), if_neg (by omega)]
   ·rw [if_neg h2, if_neg (by omega)]
 | false =>
  have e1 : dR false = 0 := rfl
  have e2 : dC false = 1 := rfl
  rw [e1, e2, if_neg (fun h => by cases h.1)]
  by_cases h2 : i = r
  ·rw [if_pos h2, if_neg (by decide), setU_at, setU_at]
   by_cases h3 : k = c + 1
   ·rw [if_pos ⟨h3, by simpa using hk⟩, if_pos (Or.inr ⟨by omega, h3⟩)]
   ·rw [if_neg (fun h => h3 h.1)]
    by_cases h4 : k = c
    ·rw [if_pos ⟨h4, hk⟩, if_pos (Or.inl ⟨h2, h4⟩)]
    ·rw [if_neg (fun h => h4 h.1), if_neg (by omega)]
  ·rw [if_neg h2, if_neg (by omega)]
theorem placed_eq (g : GbP rows) : placedM rows r c left = bdM (nextC rows left r c) := by
 apply List.ext_getElem
 ·simp [placedM, bdM, next_len]
 ·intro i h1 h2
  have hi : i < rows.length := by simpa [placedM] using h1
  have hn : i < (nextC rows left r c).length := by rw [next_len]; exact hi
  have e1 : (bdM (nextC rows left r c))[i] = rowM ((nextC rows left r c).getD i []) := by simp [bdM, List.getD, hn]
  have e2 : (placedM rows r c left)[i] = b2s (plL (rwS rows i).data.toList i r c left) := by simp [placedM]
  have hsz : (rwS rows i).data.toList.length = wdS rows := g.eq i hi
  rw [e1, e2]
  unfold rowM
  refine b2s_ext (by rw [pl_len, hsz, List.length_map, next_row g hi]) fun k hk => ?_
  rw [pl_len, hsz] at hk
  have hk2 : k < ((nextC rows left r c).getD i []).length := by rw [next_row g hi]; exact hk
  have e3 : (((nextC rows left r c).getD i []).map byB).getD k 0 = byB (((nextC rows left r c).getD i []).getD k false) := by generalize (nextC rows left r c).getD i [] = L at hk2; simp [List.getD, hk2]
  rw [e3, next_at g hi hk, pl_at _ _ _ _ _ _ (by rw [hsz]; exact hk), ← sB_data]
  unfold putC
  by_cases h : (i = r ∧ k = c) ∨ (i = r + dR left ∧ k = c + dC left)
  ·rw [if_pos h]
   rcases h with h | h
   ·simp [h, byB]
   ·simp [h, byB]
  ·rw [if_neg h]
   have n1 : ¬ (i = r ∧ k = c) := fun e => h (Or.inl e)
   have n2 : ¬ (i = r + dR left ∧ k = c + dC left) := fun e => h (Or.inr e)
   rw [decide_eq_false n1, decide_eq_false n2]
   unfold frB
   rcases g.ch i hi k hk with e | e
   ·rw [decide_eq_true e]
    have : (sB (rwS rows i) k) = 46 := UInt8.toNat_inj.1 (by have : (46 : UInt8).toNat = 46 := rfl; omega)
    rw [this]; rfl
   ·rw [decide_eq_false (by omega)]
    have : (sB (rwS rows i) k) = 35 := UInt8.toNat_inj.1 (by have : (35 : UInt8).toNat = 35 := rfl; omega)
    rw [this]; rfl
end

def dmB (rows : List ByteArray) (left : Bool) (r c : Nat) : Bool := frB rows r c && frB rows (r + dR left) (c + dC left)
def dmRow {α : Type} (rows : List ByteArray) (left : Bool) (F : Nat → Nat → α) (r n : Nat) : List α := (List.range n).flatMap fun c => if dmB rows left r c = true then [F r c] else []
def dmAll {α : Type} (rows : List ByteArray) (left : Bool) (F : Nat → Nat → α) (n : Nat) : List α := (List.range n).flatMap fun r => dmRow rows left F r (wdS rows)
def dmM (rows : List ByteArray) (left : Bool) : List (List ByteArray) := dmAll rows left (fun r c => bdM (nextC rows left r c)) rows.length
section
variable {α : Type} {rows : List ByteArray} {left : Bool} {F : Nat → Nat → α} {r n : Nat}
theorem dmRow_yes (h : dmB rows left r n = true) : dmRow rows left F r (n + 1) = dmRow rows left F r n ++ [F r n] := by
 unfold dmRow; rw [List.range_succ, List.flatMap_append]; simp [h]
theorem dmRow_no (h : dmB rows left r n = false) : dmRow rows left F r (n + 1) = dmRow rows left F r n := by
 unfold dmRow; rw [List.range_succ, List.flatMap_append]; simp [h]
theorem dmAll_succ : dmAll rows left F (n + 1) = dmAll rows left F n ++ dmRow rows left F n (wdS rows) := by
 unfold dmAll; rw [List.range_succ, List.flatMap_append]; simp
theorem dmAll_congr {F' : Nat → Nat → α} (h : ∀ r c, F r c = F' r c) : dmAll rows left F n = dmAll rows left F' n := by
 have : F = F' := funext fun r => funext fun c => h r c
 rw [this]
theorem placed_moves (g : GbP rows) : dmAll rows left (fun r c => placedM rows r c left) rows.length = dmM rows left := dmAll_congr fun _ _ => placed_eq g
theorem dmB_iff (g : GbP rows) {c : Nat} : dmB rows left r c = true ↔ MvC rows.length (wdS rows) (frB rows) left r c := by
 unfold dmB MvC
 rw [Bool.and_eq_true]
 have key : ∀ i k, frB rows i k = true → i < rows.length ∧ k < wdS rows := fun i k h => by
  have h1 : i < rows.length := Classical.byContradiction fun hn => by rw [fr_rowout hn] at h; cases h
  have h2 : k < (rwS rows i).size := Classical.byContradiction fun hn => by rw [fr_colout hn] at h; cases h
  rw [g.eq i h1] at h2
  exact ⟨h1, h2⟩
 constructor
 ·rintro ⟨h1, h2⟩
  exact ⟨(key _ _ h2).1, (key _ _ h2).2, h1, h2⟩
 ·rintro ⟨_, _, h1, h2⟩
  exact ⟨h1, h2⟩
theorem moves_mem (g : GbP rows) {x : List ByteArray} : x ∈ dmM rows left ↔ ∃ r c, MvC rows.length (wdS rows) (frB rows) left r c ∧ x = bdM (nextC rows left r c) := by
 unfold dmM dmAll dmRow
 simp only [List.mem_flatMap, List.mem_range]
 constructor
 ·rintro ⟨r, hr, c, hc, h⟩
  split at h
  ·rename_i hm
   exact ⟨r, c, (dmB_iff g).1 hm, List.mem_singleton.1 h⟩
  ·cases h
 ·rintro ⟨r, c, hm, rfl⟩
  have hr : r < rows.length := by have := hm.1; omega
  have hc : c < wdS rows := by have := hm.2.1; omega
  exact ⟨r, hr, c, hc, by rw [if_pos ((dmB_iff g).2 hm)]; simp⟩
end
theorem room_congr {H W : Nat} {F F' : Cells} {left : Bool} (h : ∀ i k, i < H → k < W → F i k = F' i k) : roomC H W F left = roomC H W F' left := by
 unfold roomC
 split
 ·exact sumN_congr fun c hc => congrArg _ (lineC_congr fun r hr => h r c hr hc)
 ·exact sumN_congr fun r hr => congrArg _ (lineC_congr fun c hc => h r c hr hc)
def roomM (rows : List ByteArray) (left : Bool) : Nat := roomC rows.length (wdS rows) (frB rows) left
section
variable {rows : List ByteArray} {left : Bool} {x : List ByteArray}
theorem room_some (g : GbP rows) : 0 < roomM rows left ↔ dmM rows left ≠ [] := by
 unfold roomM
 rw [room_pos]
 constructor
 ·rintro ⟨r, c, h⟩ e
  have := (moves_mem g).2 ⟨r, c, h, rfl⟩
  rw [e] at this; cases this
 ·intro h
  obtain ⟨x, hx⟩ := List.exists_mem_of_ne_nil _ h
  obtain ⟨r, c, hm, _⟩ := (moves_mem g).1 hx
  exact ⟨r, c, hm⟩
theorem room_next (g : GbP rows) (hx : x ∈ dmM rows left) : GbP x ∧ roomM x left + 1 ≤ roomM rows left := by
 obtain ⟨r, c, hm, rfl⟩ := (moves_mem g).1 hx
 obtain ⟨h1, h2, h3, h4⟩ := next_good (left := left) (r := r) (c := c) g
 refine ⟨h1, ?_⟩
 have := room_own hm
 unfold roomM
 rw [h2, h3, room_congr h4]
 exact this
theorem room_away (g : GbP rows) (hx : x ∈ dmM rows (!left)) : GbP x ∧ roomM x left ≤ roomM rows left ∧ roomM rows left ≤ roomM x left + 2 := by
 obtain ⟨r, c, hm, rfl⟩ := (moves_mem g).1 hx
 obtain ⟨h1, h2, h3, h4⟩ := next_good (left := !left) (r := r) (c := c) g
 refine ⟨h1, ?_⟩
 have := room_other hm
 unfold roomM
 rw [h2, h3, room_congr h4]
 exact this
end

def half (l : List UInt8) : Nat := l.length / 2
def rmS (s : ByteArray) : Nat := ((splitB ⟨#[35]⟩ 0 (countB s ⟨#[35]⟩) s).map fun x => x.size / 2).sum
theorem rm_split : ∀ (l : List UInt8) (k : Nat), (match splL 35 l with | [] => k / 2 | x :: r => (k + x.length) / 2 + (r.map half).sum) = rmA k (l.map fun b => decide (b ≠ 35))
 | [], k => by simp [splL, rmA]
 | b :: l, k => by
  by_cases h : b = 35
  ·subst h
   have ih := rm_split l 0
   have e : splL 35 ((35 : UInt8) :: l) = [] :: splL 35 l := by rw [splL, if_pos rfl]
   rw [e, List.map_cons]
   have e2 : decide ((35 : UInt8) ≠ 35) = false := by decide
   rw [e2, rmA, ← ih]
   match hx : splL 35 l, splL_ne 35 l with
   | x :: r, _ => simp [half]
  ·have ih := rm_split l (k + 1)
   rw [List.map_cons, decide_eq_true h, rmA, ← ih]
   match hx : splL 35 l, splL_ne 35 l with
   | x :: r, _ =>
    rw [splL_cons h hx]
    simp only [List.length_cons]
    rw [show k + (x.length + 1) = k + 1 + x.length by omega]
theorem rmS_eq (s : ByteArray) : rmS s = rmA 0 (s.data.toList.map fun b => decide (b ≠ 35)) := by
 have h := rm_split s.data.toList 0
 rw [← h, ← splitB_splL]
 unfold rmS
 have e : (splitB ⟨#[35]⟩ 0 (countB s ⟨#[35]⟩) s).map (fun x => x.size / 2) = ((splitB ⟨#[35]⟩ 0 (countB s ⟨#[35]⟩) s).map (·.data.toList)).map half := by
  rw [List.map_map]; rfl
 rw [e]
 have hne : (splitB ⟨#[35]⟩ 0 (countB s ⟨#[35]⟩) s).map (·.data.toList) ≠ [] := by rw [splitB_splL]; exact splL_ne _ _
 generalize (splitB ⟨#[35]⟩ 0 (countB s ⟨#[35]⟩) s).map (·.data.toList) = L at hne ⊢
 match L, hne with
 | x :: r, _ => simp [half]
def turnM (rows : List ByteArray) : List ByteArray := (List.range (wdS rows)).map fun c => b2s ((List.range rows.length).map fun r => sB (rwS rows r) c)
theorem ne_35 {b : UInt8} (h : (b.toNat : Int) = 46 ∨ (b.toNat : Int) = 35) : decide (b ≠ 35) = decide ((b.toNat : Int) = 46) := by
 rcases h with h | h
 ·rw [decide_eq_true h]
  exact decide_eq_true fun e => by subst e; have : (35 : UInt8).toNat = 35 := rfl; omega
 ·rw [decide_eq_false (show ¬ (b.toNat : Int) = 46 by omega)]
  have : b = 35 := UInt8.toNat_inj.1 (by have : (35 : UInt8).toNat = 35 := rfl; omega)
  subst this; decide
theorem data_line (s : ByteArray) : s.data.toList = (List.range s.size).map (sB s) := by
 apply List.ext_getElem
 ·rw [List.length_map, List.length_range]; rfl
 ·intro i h1 h2
  simp only [List.getElem_map, List.getElem_range]
  rw [sB_data, List.getD, List.getElem?_eq_getElem h1]; rfl
def linesM (rows : List ByteArray) (left : Bool) : List ByteArray := if left = true then turnM rows else rows
theorem room_lines {rows : List ByteArray} (g : GbP rows) (left : Bool) : ((linesM rows left).map rmS).sum = roomM rows left := by
 unfold linesM roomM roomC
 cases left with
 | true =>
  rw [if_pos rfl, if_pos rfl]
  unfold turnM sumN
  rw [List.map_map]
  congr 1
  refine List.map_congr_left fun c hc => ?_
  have hc := List.mem_range.1 hc
  show rmS _ = _
  rw [rmS_eq, b2s_list, List.map_map]
  congr 1
  unfold lineC
  refine List.map_congr_left fun r hr => ?_
  exact ne_35 (g.ch r (List.mem_range.1 hr) c hc)
 | false =>
  rw [if_neg (by decide), if_neg (by decide)]
  unfold sumN
  congr 1
  apply List.ext_getElem
  ·simp
  ·intro i h1 h2
   have hi : i < rows.length := by simpa using h1
   simp only [List.getElem_map, List.getElem_range]
   have e : rows[i] = rwS rows i := by unfold rwS; simp [List.getD, hi]
   rw [e, rmS_eq, data_line, g.eq i hi, List.map_map]
   congr 1
   unfold lineC
   refine List.map_congr_left fun c hc => ?_
   exact ne_35 (g.ch i hi c (List.mem_range.1 hc))
end Go.GL

namespace Go.GL
open Go Go.RowKit Go.Lib
theorem dw_nil {p : UInt8 → Bool} : ∀ {l : List UInt8}, l.dropWhile p = [] ↔ ∀ x ∈ l, p x = true
 | [] => by simp
 | a :: l => by
  rw [List.dropWhile_cons]
  cases h : p a with
  | true => simp [h, dw_nil (l := l)]
  | false => simp [h]
theorem tw_mem {p : UInt8 → Bool} {b : UInt8} : ∀ {l : List UInt8}, b ∈ l.takeWhile p → p b = true
 | [], h => by simp at h
 | a :: l, h => by
  rw [List.takeWhile_cons] at h
  cases ha : p a with
  | true =>
   rw [ha] at h
   rcases List.mem_cons.1 h with rfl | h
   ·exact ha
   ·exact tw_mem h
  | false => rw [ha] at h; simp at h
theorem trimS_nil {l cs : List UInt8} : trimS l cs = [] ↔ ∀ b ∈ l, b ∈ cs := by
 unfold trimS trimLeftS trimRightS
 rw [dw_nil]
 constructor
 ·intro h b hb
  have e := List.takeWhile_append_dropWhile (p := fun x => cs.contains x) (l := l.reverse)
  have hb2 : b ∈ l.reverse := List.mem_reverse.2 hb
  rw [← e] at hb2
  rcases List.mem_append.1 hb2 with h1 | h1
  ·have := tw_mem h1
   simpa using this
  ·have := h b (List.mem_reverse.2 h1)
   simpa using this
 ·intro h b hb
  have h1 := List.mem_reverse.1 hb
  have h2 := (List.dropWhile_sublist _).mem h1
  have := h b (List.mem_reverse.1 h2)
  simpa using this
def trimM (s : ByteArray) (cs : List UInt8) : ByteArray := ⟨(trimS s.data.toList cs).toArray⟩
theorem bytes_nil {s : ByteArray} : (s.toList == (⟨#[]⟩ : ByteArray).toList) = true ↔ s.data.toList = [] := by
 rw [ByteArray.toList_eq, ByteArray.toList_eq, beq_iff_eq]
theorem mem_sB {s : ByteArray} {P : UInt8 → Prop} : (∀ b ∈ s.data.toList, P b) ↔ ∀ k, k < s.size → P (sB s k) := by
 constructor
 ·intro h k hk
  rw [sB_data]
  exact h _ (getD_mem (show k < s.data.toList.length from hk))
 ·intro h b hb
  obtain ⟨k, hk, e⟩ := List.getElem_of_mem hb
  have := h k hk
  rw [sB_data, List.getD, List.getElem?_eq_getElem hk, e] at this
  exact this
theorem trim_yes {s : ByteArray} {cs : List UInt8} (h : ((trimM s cs).toList == (⟨#[]⟩ : ByteArray).toList) = true) : ∀ k, k < s.size → sB s k ∈ cs := by
 have h1 := bytes_nil.1 h
 unfold trimM at h1
 rw [List.toList_toArray] at h1
 exact mem_sB.1 (trimS_nil.1 h1)
theorem trim_no {s : ByteArray} {cs : List UInt8} (h : ((trimM s cs).toList == (⟨#[]⟩ : ByteArray).toList) = false) : ¬ ∀ k, k < s.size → sB s k ∈ cs := fun k => by
 have : ((trimM s cs).toList == (⟨#[]⟩ : ByteArray).toList) = true := by
  apply bytes_nil.2
  unfold trimM
  rw [List.toList_toArray]
  exact trimS_nil.2 (mem_sB.2 k)
 rw [h] at this; cases this

def RowOk (s : ByteArray) (n : Nat) : Prop := s.size = n ∧ ∀ k, k < s.size → ((sB s k).toNat : Int) = 46 ∨ ((sB s k).toNat : Int) = 35
theorem in_dots {b : UInt8} : b ∈ [46, 35] ↔ ((b.toNat : Int) = 46 ∨ (b.toNat : Int) = 35) := by
 have e1 : (46 : UInt8).toNat = 46 := rfl
 have e2 : (35 : UInt8).toNat = 35 := rfl
 rw [List.mem_cons, List.mem_singleton]
 constructor
 ·rintro (h | h)
  ·subst h; left; rfl
  ·subst h; right; rfl
 ·rintro (h | h)
  ·left; exact UInt8.toNat_inj.1 (by omega)
  ·right; exact UInt8.toNat_inj.1 (by omega)
noncomputable def gbB (rows : List ByteArray) : Bool := decP (GbP rows)
theorem gb_done {rows : List ByteArray} (h1 : 1 ≤ rows.length ∧ rows.length ≤ 8) (h2 : 1 ≤ wdS rows ∧ wdS rows ≤ 8) (h : ∀ i, i < rows.length → RowOk (rwS rows i) (wdS rows)) : gbB rows = true :=
 decP_true.2 ⟨h1, h2, fun i hi => (h i hi).1, fun i hi k hk => (h i hi).2 k (by rw [(h i hi).1]; exact hk)⟩
theorem gb_row {rows : List ByteArray} {i : Nat} (hi : i < rows.length) (h : ¬ RowOk (rwS rows i) (wdS rows)) : gbB rows = false :=
 decP_false.2 fun g => h ⟨g.eq i hi, fun k hk => g.ch i hi k (by rw [← g.eq i hi]; exact hk)⟩
theorem gb_hi {rows : List ByteArray} (h : ¬ (1 ≤ rows.length ∧ rows.length ≤ 8)) : gbB rows = false := decP_false.2 fun g => h g.hi
theorem gb_wd {rows : List ByteArray} (h : ¬ (1 ≤ wdS rows ∧ wdS rows ≤ 8)) : gbB rows = false := decP_false.2 fun g => h g.wd
theorem row_trim {s : ByteArray} {n : Nat} (h1 : s.size = n) (h : ((trimM s [46, 35]).toList == (⟨#[]⟩ : ByteArray).toList) = true) : RowOk s n := ⟨h1, fun k hk => in_dots.1 (trim_yes h k hk)⟩
theorem row_not {s : ByteArray} {n : Nat} (h : ((trimM s [46, 35]).toList == (⟨#[]⟩ : ByteArray).toList) = false) : ¬ RowOk s n := fun k => trim_no h fun i hi => in_dots.2 (k.2 i hi)
end Go.GL
namespace Go.GL
open Go Go.RowKit Go.Lib
def frI (rows : List ByteArray) (r c : Int) : Bool := decide (0 ≤ r) && (decide (0 ≤ c) && frB rows r.toNat c.toNat)
section
variable {rows : List ByteArray} {r c : Int}
theorem frI_nr (h : ¬ 0 ≤ r) : frI rows r c = false := by unfold frI; rw [decide_eq_false h]; rfl
theorem frI_nc (h : ¬ 0 ≤ c) : frI rows r c = false := by unfold frI; rw [decide_eq_false h]; simp
theorem frI_or (h0 : 0 ≤ r) (h : ¬ r < (rows.length : Int)) : frI rows r c = false := by unfold frI; rw [fr_rowout (by omega)]; simp
theorem frI_oc (g : GbP rows) (h0 : 0 ≤ c) (h1 : 0 ≤ r) (h2 : r < (rows.length : Int)) (h : ¬ c < (wdS rows : Int)) : frI rows r c = false := by
 unfold frI; rw [fr_colout (by rw [g.eq _ (by omega)]; omega)]; simp
theorem frI_in (h0 : 0 ≤ r) (h1 : 0 ≤ c) : frI rows r c = decide (((sB (rows.getD r.toNat ByteArray.empty) c.toNat).toNat : Int) = 46) := by
 unfold frI; rw [decide_eq_true h0, decide_eq_true h1]; rfl
theorem frI_nat (i k : Nat) : frI rows (i : Int) (k : Int) = frB rows i k := by
 unfold frI; rw [decide_eq_true (by omega), decide_eq_true (by omega)]; rfl
end
section
variable {rows : List ByteArray} {r c : Nat} {b : Bool}
theorem dm_0 {left : Bool} (h : frI rows (r : Int) (c : Int) = false) : dmB rows left r c = false := by
 rw [frI_nat] at h; unfold dmB; rw [h]; rfl
theorem dm_t (h : frI rows (r : Int) (c : Int) = true) (k : frI rows ((r : Int) + 1) (c : Int) = b) : dmB rows true r c = b := by
 rw [frI_nat] at h
 rw [show ((r : Int) + 1) = ((r + 1 : Nat) : Int) by omega, frI_nat] at k
 unfold dmB; rw [h, ← k]; rfl
theorem dm_f (h : frI rows (r : Int) (c : Int) = true) (k : frI rows (r : Int) ((c : Int) + 1) = b) : dmB rows false r c = b := by
 rw [frI_nat] at h
 rw [show ((c : Int) + 1) = ((c + 1 : Nat) : Int) by omega, frI_nat] at k
 unfold dmB; rw [h, ← k]; rfl
theorem dm_in (g : GbP rows) {left : Bool} (h : dmB rows left r c = true) : r + dR left < rows.length ∧ c + dC left < wdS rows := ⟨((dmB_iff g).1 h).1, ((dmB_iff g).1 h).2.1⟩
def plRow (rows : List ByteArray) (r c : Nat) (left : Bool) (i : Nat) : ByteArray := b2s (plL (rows.getD i ByteArray.empty).data.toList i r c left)
theorem pl_same {l : List UInt8} {i r c : Nat} {left : Bool} (h : i ≠ r) (k : ¬ (left = true ∧ i = r + 1)) : plL l i r c left = l := by unfold plL; rw [if_neg k, if_neg h]
theorem pl_t0 {l : List UInt8} {i r c : Nat} (h : i = r) : plL l i r c true = l.set c 35 := by unfold plL; rw [if_neg (by omega), if_pos h, if_pos rfl]
theorem pl_t1 {l : List UInt8} {i r c : Nat} (h : i = r + 1) : plL l i r c true = l.set c 35 := by unfold plL; rw [if_pos ⟨rfl, h⟩, if_neg (by omega)]
theorem pl_f {l : List UInt8} {i r c : Nat} (h : i = r) : plL l i r c false = (l.set c 35).set (c + 1) 35 := by unfold plL; rw [if_neg (fun e => by cases e.1), if_pos h, if_neg (by decide)]
end
def rmSum (xs : List ByteArray) (j : Nat) : Nat := ((xs.take j).map rmS).sum
def hfSum (ws : List ByteArray) (q : Nat) : Nat := ((ws.take q).map fun x => x.size / 2).sum
theorem rm_next {xs : List ByteArray} {j : Nat} (h : j < xs.length) : rmSum xs (j + 1) = rmSum xs j + rmS (xs.getD j ByteArray.empty) := by
 unfold rmSum
 rw [List.take_add_one, List.getElem?_eq_getElem h, List.map_append, List.sum_append]
 congr 1
 simp [List.getD, h]
theorem hf_next {xs : List ByteArray} {j : Nat} (h : j < xs.length) : hfSum xs (j + 1) = hfSum xs j + (xs.getD j ByteArray.empty).size / 2 := by
 unfold hfSum
 rw [List.take_add_one, List.getElem?_eq_getElem h, List.map_append, List.sum_append]
 congr 1
 simp [List.getD, h]
theorem hf_all {s : ByteArray} {q : Nat} (h : (splitB ⟨#[35]⟩ 0 (countB s ⟨#[35]⟩) s).length ≤ q) : hfSum (splitB ⟨#[35]⟩ 0 (countB s ⟨#[35]⟩) s) q = rmS s := by
 unfold hfSum rmS; rw [List.take_of_length_le h]
theorem rm_all {rows : List ByteArray} (g : GbP rows) (left : Bool) {j : Nat} (h : (linesM rows left).length ≤ j) : rmSum (linesM rows left) j = roomM rows left := by
 unfold rmSum; rw [List.take_of_length_le h]; exact room_lines g left
theorem half_le (s : ByteArray) : rmS s ≤ s.size := by
 rw [rmS_eq]
 have key : ∀ (l : List Bool) (k : Nat), rmA k l ≤ k + l.length := by
  intro l
  induction l with
  | nil => intro k; simp only [rmA]; simp; omega
  | cons b l ih =>
   intro k
   cases b with
   | true => have := ih (k + 1); simp only [rmA, List.length_cons]; omega
   | false => have := ih 0; simp only [rmA, List.length_cons]; omega
 have := key (s.data.toList.map fun b => decide (b ≠ 35)) 0
 rw [List.length_map] at this
 have h2 : s.data.toList.length = s.size := rfl
 omega
noncomputable def dmF (rows : List ByteArray) (left : Bool) : List (List ByteArray) := if gbB rows = true then dmM rows left else []
noncomputable def rmF (rows : List ByteArray) (left : Bool) : Int := if gbB rows = true then (roomM rows left : Int) else 0
theorem dmF_yes {rows : List ByteArray} {left : Bool} (h : gbB rows = true) : dmF rows left = dmM rows left := by unfold dmF; rw [if_pos h]
theorem dmF_no {rows : List ByteArray} {left : Bool} (h : gbB rows = false) : dmF rows left = [] := by unfold dmF; rw [h]; rfl
theorem rmF_yes {rows : List ByteArray} {left : Bool} (h : gbB rows = true) : rmF rows left = (roomM rows left : Int) := by unfold rmF; rw [if_pos h]
theorem rmF_no {rows : List ByteArray} {left : Bool} (h : gbB rows = false) : rmF rows left = 0 := by unfold rmF; rw [h]; rfl
def MxG (b : Nat) (G : Pin) : Prop := ∃ m, G b 0 (.int .i64 m)
theorem MxG.le {b : Nat} {G G' : Pin} (h : MxG b G) (hl : Pin.le G G') : MxG b G' := h.imp fun _ hm => hl _ _ _ hm
end Go.GL
namespace Go.GL
open Go Go.RowKit Go.Lib
theorem lines_size {rows : List ByteArray} (g : GbP rows) (left : Bool) : ∀ i, i < (linesM rows left).length → ((linesM rows left).getD i ByteArray.empty).size ≤ 8 := fun i hi => by
 unfold linesM at hi ⊢
 cases left with
 | true =>
  rw [if_pos rfl] at hi ⊢
  unfold turnM at hi ⊢
  rw [List.length_map, List.length_range] at hi
  have e : (((List.range (wdS rows)).map fun c => b2s ((List.range rows.length).map fun r => sB (rwS rows r) c)).getD i ByteArray.empty) = b2s ((List.range rows.length).map fun r => sB (rwS rows r) i) := by simp [List.getD, hi]
  rw [e, b2s_size, List.length_map, List.length_range]
  exact g.hi.2
 | false =>
  rw [if_neg (by decide)] at hi ⊢
  have := g.eq i hi
  unfold rwS at this
  rw [this]; exact g.wd.2
theorem lines_len {rows : List ByteArray} (g : GbP rows) (left : Bool) : (linesM rows left).length ≤ 8 := by
 unfold linesM
 cases left with
 | true => rw [if_pos rfl]; unfold turnM; rw [List.length_map, List.length_range]; exact g.wd.2
 | false => rw [if_neg (by decide)]; exact g.hi.2
theorem split_len (s : ByteArray) : (splitB ⟨#[35]⟩ 0 (countB s ⟨#[35]⟩) s).length ≤ s.size + 1 := by
 have h1 : 1 ≤ (⟨#[35]⟩ : ByteArray).size := by show 1 ≤ 1; omega
 rw [splitB_all _ h1 0 _ s rfl]
 have := countB_le ⟨#[35]⟩ h1 s.size s (Nat.le_refl _)
 omega
theorem splL_le (c : UInt8) : ∀ (l : List UInt8), ∀ x ∈ splL c l, x.length ≤ l.length
 | [], x, hx => by
  have : x = [] := by simpa [splL] using hx
  subst this; simp
 | b :: l, x, hx => by
  by_cases h : b = c
  ·subst h
   rw [splL, if_pos rfl] at hx
   rcases List.mem_cons.1 hx with rfl | hx
   ·simp
   ·have := splL_le b l x hx; simp; omega
  ·match he : splL c l, splL_ne c l with
   | y :: r, _ =>
    rw [splL_cons h he] at hx
    have ih := splL_le c l
    rw [he] at ih
    rcases List.mem_cons.1 hx with rfl | hx
    ·have := ih y List.mem_cons_self; simp; omega
    ·have := ih x (List.mem_cons_of_mem _ hx); simp; omega
theorem part_size (s : ByteArray) {i : Nat} (hi : i < (splitB ⟨#[35]⟩ 0 (countB s ⟨#[35]⟩) s).length) : ((splitB ⟨#[35]⟩ 0 (countB s ⟨#[35]⟩) s).getD i ByteArray.empty).size ≤ s.size := by
 have h := splitB_splL 35 s
 have hm : ((splitB ⟨#[35]⟩ 0 (countB s ⟨#[35]⟩) s).getD i ByteArray.empty).data.toList ∈ splL 35 s.data.toList := by
  rw [← h]
  exact List.mem_map.2 ⟨_, getD_mem hi, rfl⟩
 exact splL_le 35 _ _ hm
theorem hf_le {s : ByteArray} {q : Nat} (h : q + 1 ≤ (splitB ⟨#[35]⟩ 0 (countB s ⟨#[35]⟩) s).length) : hfSum (splitB ⟨#[35]⟩ 0 (countB s ⟨#[35]⟩) s) (q + 1) ≤ rmS s := by
 have key : ∀ (l : List Nat) (n : Nat), (l.take n).sum ≤ l.sum := by
  intro l
  induction l with
  | nil => intro n; simp
  | cons a l ih => intro n; cases n with
   | zero => simp
   | succ n => have := ih n; simp; omega
 have := key ((splitB ⟨#[35]⟩ 0 (countB s ⟨#[35]⟩) s).map fun x => x.size / 2) (q + 1)
 unfold hfSum rmS
 rw [List.map_take]
 have := h
 omega
end Go.GL
namespace Go.GL
open Go Go.RowKit Go.Lib
section
variable {rows : List ByteArray} {i k : Nat} {b : Bool}
theorem cell_fr (g : GbP rows) (hi : i < rows.length) (hk : k < wdS rows) : ((cellsM rows).getD i []).getD k false = frB rows i k := by rw [cells_at hi, lineC_at (by rw [g.eq i hi]; exact hk)]
theorem dms_0 (g : GbP rows) {left : Bool} (hi : i < rows.length) (hk : k < wdS rows) (h : ((cellsM rows).getD i []).getD k false = false) : dmB rows left i k = false := by
 rw [cell_fr g hi hk] at h; unfold dmB; rw [h]; rfl
theorem dms_t (g : GbP rows) (hi : i < rows.length) (hk : k < wdS rows) (h : ((cellsM rows).getD i []).getD k false = true) (e : frI rows ((i : Int) + 1) ((k : Int) + 0) = b) : dmB rows true i k = b := by
 rw [cell_fr g hi hk, ← frI_nat] at h
 exact dm_t h (by rw [Int.add_zero] at e; exact e)
theorem dms_f (g : GbP rows) (hi : i < rows.length) (hk : k < wdS rows) (h : ((cellsM rows).getD i []).getD k false = true) (e : frI rows ((i : Int) + 0) ((k : Int) + 1) = b) : dmB rows false i k = b := by
 rw [cell_fr g hi hk, ← frI_nat] at h
 exact dm_f h (by rw [Int.add_zero] at e; exact e)
theorem cells_wd (g : GbP rows) (hi : i < rows.length) : ((cellsM rows).getD i []).length = wdS rows := by rw [cells_at hi, lineC_len, g.eq i hi]
theorem is_in (g : GbP rows) {r c : Int} (h0 : 0 ≤ r) (h1 : r < (rows.length : Int)) (h2 : 0 ≤ c) (h3 : c < (wdS rows : Int)) : ((cellsM rows).getD r.toNat []).getD c.toNat false = frI rows r c := by
 rw [cell_fr g (by omega) (by omega)]
 unfold frI; rw [decide_eq_true h0, decide_eq_true h2]; rfl
end
theorem rowM_snoc (l : List Bool) (b : Bool) : rowM (l ++ [b]) = rowM l ++ (⟨#[byB b]⟩ : ByteArray) := by
 unfold rowM b2s
 apply ByteArray.ext
 simp
theorem row_step {l : List Bool} {k : Nat} {s : ByteArray} (h : k < l.length) (hs : s = rowM (l.take k)) {b : Bool} (hb : l.getD k false = b) : s ++ (⟨#[byB b]⟩ : ByteArray) = rowM (l.take (k + 1)) := by
 rw [hs, ← rowM_snoc, ← hb]
 congr 1
 rw [List.take_add_one, List.getElem?_eq_getElem h]
 simp [List.getD, h]
theorem bd_range (cells : List (List Bool)) : (List.range cells.length).map (fun i => rowM (cells.getD i [])) = bdM cells := by
 unfold bdM
 apply List.ext_getElem
 ·simp
 ·intro i h1 h2
  have hi : i < cells.length := by simpa using h1
  simp [List.getD, hi]
theorem ap_range {u : Value} {y : Option Nat} {lo hi : Nat} (h1 : ∀ k, u.ownBlock = some k → lo ≤ k ∧ k < hi) (h2 : ∀ k, y = some k → hi ≤ k ∨ k < lo) : Apart u.ownBlock y := fun k hk hy => by
 have := h1 k hk; have := h2 k hy; omega
end Go.GL
namespace Go.GL
open Go Go.RowKit Go.Lib
theorem frI_out1 {rows : List ByteArray} {r c : Int} (h : ¬ ((0 : Int) ≤ r ∧ r ≤ (rows.length : Int) - 1)) : frI rows r c = false := by
 by_cases h0 : 0 ≤ r
 ·exact frI_or h0 (by omega)
 ·exact frI_nr h0
theorem frI_out2 {rows : List ByteArray} {r c : Int} (g : GbP rows) (h1 : (0 : Int) ≤ r ∧ r ≤ (rows.length : Int) - 1) (h : ¬ ((0 : Int) ≤ c ∧ c ≤ (wdS rows : Int) - 1)) : frI rows r c = false := by
 by_cases h0 : 0 ≤ c
 ·exact frI_oc g h0 h1.1 (by omega) (by omega)
 ·exact frI_nc h0
end Go.GL
namespace Go.GL
open Go Go.RowKit Go.Lib
theorem txt_ne {t : ByteArray} (h : (t.toList == (⟨#[]⟩ : ByteArray).toList) = false) : 1 ≤ t.size := by
 rcases Nat.eq_zero_or_pos t.size with h0 | h0
 ·exfalso
  have h1 : t.data.toList = [] := List.eq_nil_of_length_eq_zero h0
  rw [bytes_nil.2 h1] at h
  cases h
 ·exact h0
end Go.GL
namespace Go.GL
theorem snoc_all {α : Type} {P : α → Prop} {l : List α} {x : α} (h : ∀ y ∈ l, P y) (hx : P x) : ∀ y ∈ l ++ [x], P y := fun y hy => by
 rcases List.mem_append.1 hy with h1 | h1
 ·exact h y h1
 ·rw [List.mem_singleton.1 h1]; exact hx
theorem set_all {α : Type} {P : α → Prop} {l : List α} {x : α} {i : Nat} (h : ∀ y ∈ l, P y) (hx : P x) : ∀ y ∈ l.set i x, P y := fun y hy => by
 rcases List.mem_or_eq_of_mem_set hy with h1 | h1
 ·exact h y h1
 ·rw [h1]; exact hx
end Go.GL

namespace Go.GL
open Go Go.RowKit
end Go.GL

namespace Go.GL
open Go Go.RowKit
end Go.GL

namespace Go.GL
open Go Go.RowKit
end Go.GL

namespace Go.GL
open Go Go.RowKit
section
variable {P : Program} {ops : Array Oper} {Q : Exit → Act → World → Prop} {md : Region.Mode} {S : World → Prop} {lt : List Nat}
def drL (P : Program) (md : Region.Mode) (ops : Array Oper) (Q : Exit → Act → World → Prop) (S : World → Prop) (lt : List Nat) : Nat → Array Bool → Act → World → Prop
 | 0, listed, a, w => Region.ready md ops listed = [] ∧ Q .normal a w
 | fuel + 1, listed, a, w =>
  (Region.ready md ops listed = [] → Q .normal a w) ∧
  ∀ i ∈ Region.ready md ops listed, wpOp P ops Q i (fun a' w' => (i ∉ lt → S w') ∧ drL P md ops Q S lt fuel (listed.setIfInBounds i true) a' w') a w
theorem wpAny_of_drL : ∀ (fuel : Nat) (listed : Array Bool) (a : Act) (w : World), drL P md ops Q S lt fuel listed a w → wpAny P md ops Q fuel listed a w
 | 0, _, _, _, h => h
 | fuel + 1, _, _, _, h => ⟨h.1, fun i hi => wpOp_mono (fun a' w' h' => wpAny_of_drL fuel _ a' w' h'.2) (h.2 i hi)⟩
theorem drL_first {i : Nat} {oi : Oper} {v : Value} (hi : ops[i]? = some oi) (hsel : ∀ (j : Nat) (o : Oper) cs b, ops[j]? = some o → o.op ≠ .select cs b)
  (hQ : ∀ c a w, Q (.panic c) (a.put oi.dst v) w → Q (.panic c) a w) {bl : List Nat} (hsub : ∀ j ∈ lt, j ∈ bl) (hlate : ∀ j oj, ops[j]? = some oj → j ∈ bl → ∃ e ∈ oj.after, Region.binds md e = true ∧ (e.on = i ∨ e.on ∈ bl)) :
  ∀ (fuel : Nat) (listed : Array Bool) (a : Act) (w : World),
   (∀ j oj, ops[j]? = some oj → j ≠ i → listed.getD j true = false → (∀ e ∈ oj.after, Region.binds md e = true → e.on ≠ i) → oi.apart ops oj = true) →
   (∀ j ∈ bl, listed.getD j true = false) →
   i ∈ Region.ready md ops listed → YieldsIf P ops S oi v a → S w →
   drL P md ops Q S lt fuel (listed.setIfInBounds i true) (a.put oi.dst v) w → drL P md ops Q S lt (fuel + 1) listed a w := by
 intro fuel
 induction fuel with
 | zero =>
  intro listed a w _ _ hr hy hS H
  refine ⟨fun h => (by rw [h] at hr; cases hr), fun j hj => ?_⟩
  by_cases hji : j = i
  ·subst hji; exact hy.wpOp hi hS ⟨fun _ => hS, H⟩
  ·have := ready_mono hj hji
   rw [H.1] at this
   cases this
 | succ fuel ih =>
  intro listed a w hfree hun2 hr hy hS H
  refine ⟨fun h => (by rw [h] at hr; cases hr), fun j hj => ?_⟩
  by_cases hji : j = i
  ·subst hji; exact hy.wpOp hi hS ⟨fun _ => hS, H⟩
  ·have h1 := H.2 j (ready_mono hj hji)
   obtain ⟨hjun, oj, hoj, hall⟩ := mem_ready.1 hj
   have hlst : ∀ x, listed.getD x true = false → listed.getD x false = true → False := fun x h0 h1 => by
    rcases Nat.lt_or_ge x listed.size with h' | h'
    ·simp [h'] at h0 h1; rw [h0] at h1; cases h1
    ·simp [Array.getElem?_eq_none h'] at h1
   have hnot : ∀ e ∈ oj.after, Region.binds md e = true → e.on ≠ i := fun e he hb heq => by
    have h1 := hall e he hb
    have h0 := (mem_ready.1 hr).1
    rw [heq] at h1
    exact hlst i h0 h1
   have h2 := wpOp_putIf hoj (hfree j oj hoj hji hjun hnot) (fun cs b => hsel i oi cs b hi) (fun cs b => hsel j oj cs b hoj) hQ hy h1
   have hfree' : ∀ k ok, ops[k]? = some ok → k ≠ i → (listed.setIfInBounds j true).getD k true = false →
     (∀ e ∈ ok.after, Region.binds md e = true → e.on ≠ i) → oi.apart ops ok = true := fun k ok hk hki hun hno => by
    refine hfree k ok hk hki ?_ hno
    by_cases hjk : j = k
    ·subst hjk; exact hjun
    ·rw [getD_set_ne true hjk] at hun; exact hun
   have hjb : j ∉ bl := fun hl => by
    obtain ⟨e, he, hb, heq⟩ := hlate j oj hoj hl
    rcases heq with heq | heq
    ·exact hnot e he hb heq
    ·exact hlst e.on (hun2 e.on heq) (hall e he hb)
   have hjl : j ∉ lt := fun h => hjb (hsub j h)
   refine wpOp_mono (fun a' w' h3 => ⟨fun _ => h3.2.1 hjl, ih (listed.setIfInBounds j true) a' w' hfree' (fun k hk => ?_) (ready_mono hr (Ne.symm hji)) h3.1 (h3.2.1 hjl) ?_⟩) h2
   ·have hjk : j ≠ k := fun e => hjb (e ▸ hk)
    rw [getD_set_ne true hjk]; exact hun2 k hk
   ·rw [Array.setIfInBounds_comm _ _ hji]
    exact h3.2.2
def waitsL (ops : Array Oper) (lt bl : List Nat) (listed : Array Bool) (i : Nat) : Bool :=
 lt.all (fun j => bl.contains j) && bl.all fun j => !(listed.getD j true) && match ops[j]? with
  | none => false
  | some oj => oj.after.any fun e => Region.binds .any e && (Nat.beq e.on i || bl.contains e.on)
structure DRL (P : Program) (ops : Array Oper) (Q : Exit → Act → World → Prop) (S : World → Prop) (lt : List Nat) (fuel : Nat) (listed : Array Bool) (a : Act) (w : World) : Prop where
 out : drL P .any ops (NoPanic Q) S lt fuel listed a w
variable {n fuel : Nat} {env : Nat → Value} {listed : Array Bool} {w : World} {o : Oper}
theorem dr_takeL (bl : List Nat) {i d : Nat} {v : Value} (hi : ops[i]? = some o) (hd : o.dst = some d) (hok : okO n o = true) (hw : Region.wanted o (yielded ops (F n env).tmps) = true)
  (hf : (Region.noSelect ops && Region.free .any ops listed i && (Region.ready .any ops listed).contains i && waitsL ops lt bl listed i) = true)
  (hy : ∀ w, S w → (execOp (ev env) o).run P w = .ok (.value v) w) (hS : S w)
  (h : DRL P ops Q S lt fuel (listed.setIfInBounds i true) (F n (upd env d v)) w) : DRL P ops Q S lt (fuel + 1) listed (F n env) w := by
 simp only [Bool.and_eq_true] at hf
 obtain ⟨⟨⟨h1, h2⟩, h3⟩, h4'⟩ := hf
 unfold waitsL at h4'
 obtain ⟨h0, h4⟩ := (Bool.and_eq_true _ _).mp h4'
 have hsub : ∀ j ∈ lt, j ∈ bl := fun j hj => by simpa using List.all_eq_true.1 h0 j hj
 have h5 : ∀ j ∈ bl, listed.getD j true = false ∧ ∀ oj, ops[j]? = some oj → ∃ e ∈ oj.after, Region.binds .any e = true ∧ (e.on = i ∨ e.on ∈ bl) := fun j hj => by
  have h6 := List.all_eq_true.1 h4 j hj
  simp only [Bool.and_eq_true, Bool.not_eq_true'] at h6
  refine ⟨h6.1, fun oj hoj => ?_⟩
  have h7 := h6.2
  rw [hoj] at h7
  obtain ⟨e, he, hb⟩ := Array.any_eq_true'.1 h7
  simp only [Bool.and_eq_true, Bool.or_eq_true, List.contains_iff_mem] at hb
  exact ⟨e, he, hb.1, hb.2.imp Nat.eq_of_beq_eq_true id⟩
 constructor
 exact drL_first hi (Region.noSelect_spec h1) (fun _ _ _ h => h) hsub (fun j oj hoj hj => (h5 j hj).2 oj hoj) fuel listed _ w (Region.free_spec hi h2) (fun j hj => (h5 j hj).1) (by simpa using h3) (Or.inl ⟨hw, fun w hs => by rw [exec_F hok]; exact hy w hs⟩) hS (by rw [hd, put_F]; exact h.out)
structure drOpL (P : Program) (ops : Array Oper) (Q : Exit → Act → World → Prop) (S : World → Prop) (lt : List Nat) (n fuel : Nat) (listed : Array Bool) (env : Nat → Value) (w : World) (i : Nat) : Prop where
 out : wpOp P ops (NoPanic Q) i (fun a' w' => (i ∉ lt → S w') ∧ drL P .any ops (NoPanic Q) S lt fuel (listed.setIfInBounds i true) a' w') (F n env) w
theorem dr_oneL {i : Nat} (hr : Region.ready .any ops listed = [i]) (h : drOpL P ops Q S lt n fuel listed env w i) : DRL P ops Q S lt (fuel + 1) listed (F n env) w :=
 ⟨⟨fun h0 => (by rw [hr] at h0; cases h0), fun j hj => by rw [hr] at hj; simp at hj; subst hj; exact h.out⟩⟩
theorem drOp1L {i d : Nat} (hi : ops[i]? = some o) (hd : o.dst = some d) (hok : okO n o = true) (hw : Region.wanted o (yielded ops (F n env).tmps) = true)
  (h : EO P (ev env) o w fun v w' => (i ∉ lt → S w') ∧ DRL P ops Q S lt fuel (listed.setIfInBounds i true) (F n (upd env d v)) w') : drOpL P ops Q S lt n fuel listed env w i := by
 constructor
 unfold wpOp
 simp only [hi, hw, if_true]
 left
 unfold Oper.wp
 rw [exec_F hok]
 exact h _ _ _ fun v w' hk => by rw [hd, put_F]; exact ⟨hk.1, hk.2.out⟩
theorem drOp0L {i : Nat} (hi : ops[i]? = some o) (hd : o.dst = none) (hok : okO n o = true) (hw : Region.wanted o (yielded ops (F n env).tmps) = true)
  (h : EO P (ev env) o w fun _ w' => (i ∉ lt → S w') ∧ DRL P ops Q S lt fuel (listed.setIfInBounds i true) (F n env) w') : drOpL P ops Q S lt n fuel listed env w i := by
 constructor
 unfold wpOp
 simp only [hi, hw, if_true]
 left
 unfold Oper.wp
 rw [exec_F hok]
 exact h _ _ _ fun v w' hk => by rw [hd, put_F0]; exact ⟨hk.1, hk.2.out⟩
theorem dr_endL (hr : Region.ready .any ops listed = []) (h : Q .normal (F n env) w) : DRL P ops Q S lt fuel listed (F n env) w := by
 cases fuel with
 | zero => exact ⟨⟨hr, NoPanic.normal h⟩⟩
 | succ k => exact ⟨⟨fun _ => NoPanic.normal h, by rw [hr]; simp⟩⟩
theorem c_drawL {id : Nat} {l : List Oper} {m : Nat} (hm : P.follows .mixedOrders = true) (hl : l.toArray.size = m)
  (h : DRL P l.toArray Q S lt m (Array.replicate m false) (F n env) w.drew) : (Code.region id l.toArray true).wp P Q (F n env) w := by
 refine wp_region_noPanic (wp_region_any hm (wpAny_of_drL (S := S) (lt := lt) _ _ _ _ ?_))
 rw [hl]
 exact h.out
end
end Go.GL

namespace Go.GL
open Go Go.RowKit Go.Lib
structure It (w : World) (k : Nat) (s : ByteArray) (p : Nat) : Prop where
 heap : w.heap[k]? = some (.stringIter s p)
section
variable {w w' : World} {k p : Nat} {s : ByteArray} {G G' : Pin}
theorem It.lt (h : It w k s p) : k < w.heap.size := (Array.getElem?_eq_some_iff.1 h.heap).1
theorem It.kept {row : Option Nat} (h : It w k s p) (hg : w.grownBy w' row) (hn : some k ≠ row) : It w' k s p := ⟨by rw [hg.block k h.lt hn]; exact h.heap⟩
theorem It.below (h : It w k s p) (hb : Below w.heap.size w w') : It w' k s p := h.kept (Below.grownBy hb none) (by simp)
theorem It.extS {S : Nat → Prop} (h : It w k s p) (hx : Ext S G w G' w') (hS : ¬ S k) : It w' k s p := ⟨by rw [hx.block k h.lt hS]; exact h.heap⟩
theorem It.ext (h : It w k s p) (hx : Ext noS G w G' w') : It w' k s p := h.extS hx id
theorem It.ne_row (h : It w k s p) {b : Nat} {c : Array Value} {e : Nat} {fz : Nat × Nat} (hb : w.heap[b]? = some (.cells c e fz)) : b ≠ k := fun e2 => by
 subst e2; rw [h.heap] at hb; cases hb
theorem It.ne_own (h : It w k s p) {α : Type} {E : Elt α} {e base : Nat} {v : Value} {xs : List α} (ho : Own E e G w base v xs) : some k ≠ v.ownBlock := fun hk => by
 obtain ⟨cells, hown, _⟩ := ho.ex
 rcases hown.2 with ⟨rfl, _⟩ | ⟨g, cap, cur, rfl, _, hg, _⟩
 ·simp [Value.ownBlock] at hk
 ·simp [Value.ownBlock] at hk
  exact h.ne_row hg hk.symm
theorem It.ne_box (h : It w k s p) {b : Nat} {cs : List Value} (hb : Bx G w b cs) : some k ≠ some b := fun e => by
 obtain ⟨T, hT⟩ := hb.heap
 exact h.ne_row hT (Option.some.inj e).symm
theorem It.ap_own (h : It w k s p) {α : Type} {E : Elt α} {e base : Nat} {v : Value} {xs : List α} (ho : Own E e G w base v xs) : Apart v.ownBlock (some k) := fun j hj hk => h.ne_own ho (by rw [hj, ← hk])
theorem It.ap_box (h : It w k s p) {b : Nat} {cs : List Value} (hb : Bx G w b cs) : Apart (some b) (some k) := fun j hj hk => h.ne_box hb (by rw [hj, ← hk])
theorem It.free (h : It w k s p) (hP : Pins G w) : ∀ o u, ¬ G k o u := fun o u hu => by
 have := hP k o u hu
 simp [World.cell?, h.heap] at this
theorem It.step (h : It w k s p) (hP : Pins G w) (p' : Nat) : It (w.iterAt k s p') k s p' ∧ Pins G (w.iterAt k s p') ∧ w.grownBy (w.iterAt k s p') (some k) ∧ (w.iterAt k s p').heap.size = w.heap.size := by
 have hg : w.grownBy (w.iterAt k s p') (some k) := ⟨rfl, rfl, rfl, by rw [iterAt_size]; exact Nat.le_refl _, fun j _ hj => iterAt_other w k j s p' (fun e => hj (by rw [e]))⟩
 exact ⟨⟨iterAt_heap w k s p p' h.heap⟩, fun b o u hu => hg.cell (hP b o u hu) (fun e => h.free hP o u (by cases e; exact hu)), hg, iterAt_size ..⟩
end
section
variable {P : Program} {ρ : Operand → Value} {w : World} {K : Value → World → Prop} {d : Option Nat} {t ty : Nat} {pos : String} {aft : Array Edge} {g : Option (Nat × Bool)} {x : Operand} {G : Pin} {s : ByteArray}
theorem o_range (ht : P.underlying t = some .string) (hx : ρ x = .string s) (hP : Pins G w)
  (h : ∀ k w', k = w.heap.size → It w' k s 0 → Pins G w' → Below w.heap.size w w' → K (.pointer (some ⟨k, 0, none⟩)) w') : EO P ρ ⟨d, .range t x, ty, pos, aft, g⟩ w K := by
 have hb : Below w.heap.size w (w.iter s 0) := (Below.refl _ _).alloc (Nat.le_refl _) _
 refine EO.run (v := .pointer (some ⟨w.heap.size, 0, none⟩)) (w' := w.iter s 0) ?_ (h _ _ rfl ⟨World.iter_heap w s 0⟩ (hP.below hb) hb)
 simp only [execOp, hx, Sem.run_bind, run_range_string w t s ht, Result.andThen_ok]
 rfl
theorem o_nextY {k p : Nat} (hx : ρ x = .pointer (some ⟨k, 0, none⟩)) (hi : It w k s p) (hP : Pins G w) (h1 : p < s.size) (ha : (sB s p).toNat < 128)
  (h : ∀ w', It w' k s (p + 1) → Pins G w' → w.grownBy w' (some k) → w'.heap.size = w.heap.size → K (.tuple #[.bool true, .int .i64 (p : Int), .int .i32 ((sB s p).toNat : Int)]) w') : EO P ρ ⟨d, .next x true, ty, pos, aft, g⟩ w K := by
 have e : sB s p = s[p] := by unfold sB; rw [getElem?_pos s p h1]; rfl
 rw [e] at ha h
 obtain ⟨a1, a2, a3, a4⟩ := hi.step hP (p + 1)
 refine EO.run (w' := w.iterAt k s (p + 1)) ?_ (h _ a1 a2 a3 a4)
 simp only [execOp, hx, Sem.run_bind, run_next_ascii_at w k s p ty hi.heap h1 ha, Result.andThen_ok]
 rfl
theorem o_nextN {k p : Nat} (hx : ρ x = .pointer (some ⟨k, 0, none⟩)) (hi : It w k s p) (h1 : ¬ p < s.size) (h : K (.tuple #[.bool false]) w) : EO P ρ ⟨d, .next x true, ty, pos, aft, g⟩ w K := by
 refine EO.run (w' := w) ?_ h
 simp only [execOp, hx, Sem.run_bind, run_next_end_at w k s p ty hi.heap h1, Result.andThen_ok]
 rfl
end

structure OwnM (e : Nat) (G : Pin) (w : World) (base : Nat) (v : Value) (xs : List UInt8) : Prop where
 ex : ∃ g cap cur fz, v = .slice (some ⟨g, 0, none⟩) xs.length cap ∧ base ≤ g ∧ w.heap[g]? = some (.cells cur e fz) ∧ cur.size ≤ fz.1 ∧ xs.length ≤ cap ∧ cap ≤ maxLen ∧ cur.size = cap ∧ cur.toList.take xs.length = xs.map fun b => Value.int .u8 b.toNat
 free : ∀ k, v.ownBlock = some k → ∀ o u, ¬ G k o u
section
variable {e base : Nat} {G G' : Pin} {w w' : World} {v : Value} {xs : List UInt8}
theorem OwnM.lt (h : OwnM e G w base v xs) : ∀ k, v.ownBlock = some k → base ≤ k ∧ k < w.heap.size := fun k hk => by
 obtain ⟨g, cap, cur, fz, rfl, hb, hg, _⟩ := h.ex
 simp [Value.ownBlock] at hk
 subst hk
 exact ⟨hb, (Array.getElem?_eq_some_iff.1 hg).1⟩
theorem lo_ownM {S : Nat → Prop} {w0 : World} (h : OwnM e G w w0.heap.size v xs) : Lo w0 S v.ownBlock := fun k hk => Or.inl (h.lt k hk).1
theorem OwnM.keptA {row : Option Nat} (h : OwnM e G w base v xs) (hg : w.grownBy w' row) (hn : Apart v.ownBlock row) : OwnM e G w' base v xs := by
 obtain ⟨g, cap, cur, fz, rfl, hb, hgg, rest⟩ := h.ex
 refine ⟨⟨g, cap, cur, fz, rfl, hb, ?_, rest⟩, h.free⟩
 rw [hg.block g (Array.getElem?_eq_some_iff.1 hgg).1 (fun e => hn g rfl e.symm)]
 exact hgg
theorem OwnM.below (h : OwnM e G w base v xs) (hb : Below w.heap.size w w') : OwnM e G w' base v xs := h.keptA (Below.grownBy hb none) fun _ _ h => by cases h
theorem OwnM.read (h : OwnM e G w base v xs) : RSl eByte (Gadd G w v) v xs := by
 obtain ⟨g, cap, cur, fz, rfl, hb, hg, hf, hn, hm, hc, ht⟩ := h.ex
 refine ⟨⟨some ⟨g, 0, none⟩, cap, rfl, hn, hm⟩, fun i b hi => ?_⟩
 obtain ⟨hi1, hi2⟩ := List.getElem?_eq_some_iff.1 hi
 refine ⟨⟨g, 0, none⟩, g, i, xs.length, cap, [.int .u8 b.toNat], rfl, fun j => ?_, rfl, fun j u hu => ?_⟩
 ·show (⟨g, 0, none⟩ : Addr).add (i * 1 + j) = _
  simp only [Addr.add]; split <;> simp_all
 ·have hj : j = 0 := by have := (List.getElem?_eq_some_iff.1 hu).1; simpa using this
  subst hj
  have hu' : Value.int .u8 b.toNat = u := by simpa using hu
  refine Or.inr ⟨rfl, ?_⟩
  have h3 : cur.toList[i]? = some (Value.int .u8 b.toNat) := by
   have : (cur.toList.take xs.length)[i]? = some (Value.int .u8 b.toNat) := by rw [ht]; simp [hi]
   rw [List.getElem?_take, if_pos hi1] at this
   exact this
  simp only [World.cell?, hg]
  rw [← hu']
  simpa using h3
end
section
variable {e base : Nat} {G G' : Pin} {w w' : World} {v : Value} {xs : List UInt8}
theorem OwnM.weaken {base' : Nat} (h : OwnM e G w base v xs) (hb : base' ≤ base) : OwnM e G w base' v xs := by
 obtain ⟨g, cap, cur, fz, rfl, hb2, rest⟩ := h.ex
 exact ⟨⟨g, cap, cur, fz, rfl, Nat.le_trans hb hb2, rest⟩, h.free⟩
theorem OwnM.setAt (h : OwnM e G w base v xs) {z : Int} (h0 : 0 ≤ z) (h1 : z < xs.length) (q : UInt8) (hP : Pins G w) {P : Program} :
  ∃ g w', v.ownBlock = some g ∧ eptr v z 1 0 = .pointer (some ⟨g, z.toNat, none⟩) ∧ (store ⟨g, z.toNat, none⟩ (.int .u8 q.toNat)).run P w = .ok () w' ∧
   OwnM e G w' base v (xs.set z.toNat q) ∧ Pins G w' ∧ w.grownBy w' v.ownBlock ∧ w'.heap.size = w.heap.size := by
 have hfree := h.free
 obtain ⟨g, cap, cur, fz, rfl, hb, hg, hf, hn, hm, hc, ht⟩ := h.ex
 have hz : z.toNat < xs.length := by omega
 have hi : z.toNat < cur.size := by omega
 have hcell : w.cell? ⟨g, z.toNat, none⟩ = some cur[z.toNat] := by simp [World.cell?, hg, hi]
 have hfro : w.frozen? ⟨g, z.toNat, none⟩ = false := by
  obtain ⟨lo, hi'⟩ := fz
  simp only [World.frozen?, hg, Bool.and_eq_false_iff, decide_eq_false_iff_not]
  left
  simp only at hf
  omega
 have hst : (store ⟨g, z.toNat, none⟩ (.int .u8 q.toNat)).run P w = .ok () (w.setRow g (cur.setIfInBounds z.toNat (.int .u8 q.toNat))) := by
  rw [run_store P w _ _ _ rfl, hcell]
  simp [hfro, setCell_eq_setRow w g z.toNat cur e fz _ hg]
 have hgrow : w.grownBy (w.setRow g (cur.setIfInBounds z.toNat (.int .u8 q.toNat))) (some g) :=
  ⟨rfl, rfl, rfl, by simp [World.setRow], fun k _ hk => setRow_other w g k _ (fun e => hk (by simp [e]))⟩
 refine ⟨g, _, rfl, ?_, hst, ⟨⟨g, cap, _, fz, by rw [List.length_set], hb, setRow_heap w g cur _ e fz hg, by simpa using hf, by rw [List.length_set]; exact hn, hm, by simpa using hc, ?_⟩, hfree⟩, fun b o u hu => hgrow.cell (hP b o u hu) (fun e => hfree g rfl o u (by cases e; exact hu)), hgrow, by simp [World.setRow]⟩
 ·simp only [eptr, Addr.add]; split <;> simp_all
 ·rw [List.length_set, List.map_set, ← ht]
  apply List.ext_getElem?
  intro j
  simp only [Array.toList_setIfInBounds, List.getElem?_take, List.getElem?_set, List.length_take]
  by_cases hj : j < xs.length
  ·rw [if_pos hj]
   by_cases hj2 : z.toNat = j
   ·subst hj2
    simp [hi]
    omega
   ·rw [if_neg hj2, if_neg hj2, if_pos hj]
  ·rw [if_neg hj]
   by_cases hj2 : z.toNat = j
   ·omega
   ·rw [if_neg hj2, if_neg hj]
end
theorem ownM_conv {w : World} {G : Pin} {e : Nat} (s : ByteArray) (hP : Pins G w) (hs : s.size ≤ 1000000) : OwnM e G (bytesWorld w e s) w.heap.size (.slice (some ⟨w.heap.size, 0, none⟩) s.size (grownCap w s.size 0 e)) s.data.toList ∧ Pins G (bytesWorld w e s) ∧ Below w.heap.size w (bytesWorld w e s) := by
 have hb : Below w.heap.size w (bytesWorld w e s) := bytesWorld_below w e s
 have hsz : (bytesCells w e s).size = grownCap w s.size 0 e := by
  have := grownCap_ge w s.size 0 e
  have h2 : s.data.size = s.size := rfl
  unfold bytesCells
  simp [h2]
  omega
 refine ⟨⟨⟨w.heap.size, _, _, _, rfl, Nat.le_refl _, bytesWorld_at_new w e s, Nat.le_refl _, grownCap_ge w s.size 0 e, grownCap_le_maxLen w s.size 0 e (by unfold maxLen; omega), hsz, ?_⟩, fun k hk o u hG => ?_⟩, hP.below hb, hb⟩
 ·unfold bytesCells
  have h2 : s.data.toList.length = s.size := rfl
  simp [h2]
 ·simp [Value.ownBlock] at hk
  have := block_lt (hP _ _ _ hG); omega
section
variable {P : Program} {ρ : Operand → Value} {w : World} {K : Value → World → Prop} {d : Option Nat} {t ty e : Nat} {pos : String} {aft : Array Edge} {g : Option (Nat × Bool)} {x y : Operand} {G : Pin} {s : ByteArray} {v : Value}
theorem o_s2b {src dst : Nat} (hs : P.underlying src = some .string) (hd : P.underlying dst = some (.slice e)) (he : P.underlying e = some (.int .u8)) (hx : ρ x = .string s) (hP : Pins G w) (hl : s.size ≤ 1000000)
  (h : ∀ v w', OwnM e G w' w.heap.size v s.data.toList → Pins G w' → Below w.heap.size w w' → v.ownBlock = some w.heap.size → K v w') : EO P ρ ⟨d, .convert src dst x, ty, pos, aft, g⟩ w K := by
 obtain ⟨a1, a2, a3⟩ := ownM_conv (e := e) s hP hl
 refine EO.run ?_ (h _ _ a1 a2 a3 rfl)
 simp only [execOp, hx, Sem.run_bind]
 rw [Go.Lib.run_convert_string_bytes w src dst e s hs hd he]
 rfl
theorem o_setM {base : Nat} {xs : List UInt8} {z : Int} (q : UInt8) (hs : (P.info? t).map (·.size) = some 1) (hx : ρ x = eptr v z 1 0) (hy : ρ y = .int .u8 q.toNat) (hP : Pins G w) (hv : OwnM e G w base v xs) (h0 : 0 ≤ z) (h1 : z < xs.length)
  (h : ∀ w', OwnM e G w' base v (xs.set z.toNat q) → Pins G w' → w.grownBy w' v.ownBlock → w'.heap.size = w.heap.size → K undef w') : EO P ρ ⟨d, .store t x y, ty, pos, aft, g⟩ w K := by
 obtain ⟨b, w', hb, hp, hst, a1, a2, a3, a4⟩ := hv.setAt h0 h1 q hP (P := P)
 refine EO.skip (w' := w') ?_ (h w' a1 a2 a3 a4)
 rw [hp] at hx
 have hlv : (storeVar t ⟨b, z.toNat, none⟩ (.int .u8 q.toNat)).run P w = .ok () w' := by
  unfold storeVar
  have hc2 : (Value.int .u8 (q.toNat : Int)).cells = #[.int .u8 (q.toNat : Int)] := rfl
  simp only [Sem.run_bind, run_sizeOf hs, Result.andThen_ok, hc2]
  simp only [List.size_toArray, List.length_cons, List.length_nil, Nat.zero_add, ne_eq, not_true_eq_false, if_false, storeCells]
  have had : (⟨b, z.toNat, none⟩ : Addr).add 0 = ⟨b, z.toNat, none⟩ := by unfold Addr.add; split <;> simp_all
  simp only [Sem.run_bind, had, hst, Result.andThen_ok]
  rfl
 simp only [execOp, hx, hy, Instr.storeAt, Instr.sureAddr, Sem.run_bind, Sem.run_pure, Result.andThen_ok, hlv]
end
end Go.GL

namespace Go.GL
open Go Go.RowKit
abbrev LeafB := Value × List Bool
structure LvsB (e : Nat) (G : Pin) (w : World) (lo hi : Nat) (L : List LeafB) : Prop where
 own : ∀ p ∈ L, Own eBool e G w lo p.1 p.2
 hi : ∀ p ∈ L, ∀ k, p.1.ownBlock = some k → k < hi
 ap : L.Pairwise fun p q => Apart p.1.ownBlock q.1.ownBlock
def ApLB (L : List LeafB) (x : Option Nat) : Prop := ∀ p ∈ L, Apart p.1.ownBlock x
section
variable {e lo hi : Nat} {G G' : Pin} {w w' : World} {L L' : List LeafB}
theorem LvsB.nil : LvsB e G w lo hi [] := ⟨fun _ hp => (List.not_mem_nil hp).elim, fun _ hp => (List.not_mem_nil hp).elim, List.Pairwise.nil⟩
theorem LvsB.map (h : LvsB e G w lo hi L) (f : ∀ p ∈ L, Own eBool e G w lo p.1 p.2 → Own eBool e G' w' lo p.1 p.2) : LvsB e G' w' lo hi L := ⟨fun p hp => f p hp (h.own p hp), h.hi, h.ap⟩
theorem LvsB.below (h : LvsB e G w lo hi L) (hb : Below w.heap.size w w') : LvsB e G w' lo hi L := h.map fun _ _ ho => ho.below hb
theorem LvsB.kept {row : Option Nat} (h : LvsB e G w lo hi L) (hg : w.grownBy w' row) (ha : ApLB L row) : LvsB e G w' lo hi L := h.map fun p hp ho => ho.keptA hg (ha p hp)
theorem LvsB.more {b : Nat} (h : LvsB e G w lo hi L) (hl : Pin.le G G') (hf : ∀ k o u, G' k o u → G k o u ∨ k = b) (ha : ApLB L (some b)) : LvsB e G' w lo hi L := h.map fun p hp ho => ho.moreA hl hf (ha p hp)
theorem LvsB.top (h : LvsB e G w lo hi L) : LvsB e G w lo w.heap.size L := ⟨h.own, fun p hp k hk => ((h.own p hp).lt k hk).2, h.ap⟩
theorem LvsB.add {u : Value} {xs : List Bool} (h : LvsB e G w lo w.heap.size L) (ho : Own eBool e G w lo u xs) (ha : ApLB L u.ownBlock) : LvsB e G w lo w.heap.size (L ++ [(u, xs)]) := by
 refine ⟨fun p hp => ?_, fun p hp k hk => ?_, ?_⟩
 ·rcases List.mem_append.1 hp with h1 | h1
  ·exact h.own p h1
  ·simp at h1; subst h1; exact ho
 ·rcases List.mem_append.1 hp with h1 | h1
  ·exact h.hi p h1 k hk
  ·simp at h1; subst h1; exact (ho.lt k hk).2
 ·refine List.pairwise_append.2 ⟨h.ap, by simp, fun a ha' b hb => ?_⟩
  simp at hb; subst hb; exact ha a ha'
theorem ApLB.add {u : Value} {xs : List Bool} {x : Option Nat} (h : ApLB L x) (hu : Apart u.ownBlock x) : ApLB (L ++ [(u, xs)]) x := fun p hp => by
 rcases List.mem_append.1 hp with h1 | h1
 ·exact h p h1
 ·simp at h1; subst h1; exact hu
theorem ApLB.fresh {x : Option Nat} (h : LvsB e G w lo hi L) (hx : ∀ k, x = some k → w.heap.size ≤ k) : ApLB L x := fun p hp k hk hk' => by
 have h1 := ((h.own p hp).lt k hk).2; have h2 := hx k hk'; omega
theorem ApLB.app {u v : Value} (h : LvsB e G w lo hi L) (ha : ApLB L u.ownBlock) (hw : v.ownBlock = u.ownBlock ∨ ∃ k, v.ownBlock = some k ∧ w.heap.size ≤ k) : ApLB L v.ownBlock := fun p hp =>
 app_ne_own (ha p hp) hw (fun k hk => (h.own p hp).lt k hk)
theorem LvsB.step {A B : List LeafB} {u : Value} {xs ys : List Bool} (h : LvsB e G w lo hi (A ++ (u, xs) :: B)) (ho : Own eBool e G w' lo u ys) (hg : w.grownBy w' u.ownBlock) : LvsB e G w' lo hi (A ++ (u, ys) :: B) := by
 have hp := List.pairwise_append.1 h.ap
 have hq := List.pairwise_cons.1 hp.2.1
 refine ⟨fun p hm => ?_, fun p hm k hk => ?_, ?_⟩
 ·rcases List.mem_append.1 hm with h1 | h1
  ·exact (h.own p (List.mem_append_left _ h1)).keptA hg (hp.2.2 p h1 _ List.mem_cons_self)
  ·rcases List.mem_cons.1 h1 with rfl | h2
   ·exact ho
   ·exact (h.own p (List.mem_append_right _ (List.mem_cons_of_mem _ h2))).keptA hg (hq.1 p h2).symm
 ·rcases List.mem_append.1 hm with h1 | h1
  ·exact h.hi p (List.mem_append_left _ h1) k hk
  ·rcases List.mem_cons.1 h1 with rfl | h2
   ·exact h.hi (u, xs) (List.mem_append_right _ List.mem_cons_self) k hk
   ·exact h.hi p (List.mem_append_right _ (List.mem_cons_of_mem _ h2)) k hk
 ·refine List.pairwise_append.2 ⟨hp.1, List.pairwise_cons.2 ⟨hq.1, hq.2⟩, fun a ha b hb => ?_⟩
  rcases List.mem_cons.1 hb with rfl | h2
  ·exact hp.2.2 a ha (u, xs) List.mem_cons_self
  ·exact hp.2.2 a ha b (List.mem_cons_of_mem _ h2)
def GLvB (G : Pin) (w : World) (L : List LeafB) : Pin := fun b o u => G b o u ∨ ((∃ p ∈ L, p.1.ownBlock = some b) ∧ w.cell? ⟨b, o, none⟩ = some u)
theorem GLvB.le : Pin.le G (GLvB G w L) := fun _ _ _ h => Or.inl h
theorem GLvB.pins (h : Pins G w) : Pins (GLvB G w L) w := fun b o u hu => by
 rcases hu with hu | hu
 ·exact h b o u hu
 ·exact hu.2
theorem LvsB.read (h : LvsB e G w lo hi L) {p : LeafB} (hp : p ∈ L) : RSl eBool (GLvB G w L) p.1 p.2 :=
 (h.own p hp).read.mono fun b o u hu => by
  rcases hu with h1 | h1
  ·exact Or.inl h1
  ·exact Or.inr ⟨⟨p, hp, h1.1⟩, h1.2⟩
end

def lvG (us : List Value) (rows : List (List Bool)) : List LeafB := us.zip rows
theorem lvG_snoc {us : List Value} {rows : List (List Bool)} (u : Value) (r : List Bool) (h : us.length = rows.length) : lvG (us ++ [u]) (rows ++ [r]) = lvG us rows ++ [(u, r)] := by
 unfold lvG; rw [List.zip_append h]; rfl
structure DGrid (en e : Nat) (G : Pin) (w : World) (lo hi : Nat) (v : Value) (rows : List (List Bool)) : Prop where
 ex : ∃ us, us.length = rows.length ∧ Own eVal en G w lo v us ∧ (∀ k, v.ownBlock = some k → k < hi) ∧ LvsB e G w lo hi (lvG us rows) ∧ ApLB (lvG us rows) v.ownBlock
section
variable {en e lo hi : Nat} {G G' : Pin} {w w' : World} {v : Value} {rows : List (List Bool)}
theorem DGrid.one (h : DGrid en e G w lo hi v rows) : v.oneCell' = true := by
 obtain ⟨ps, h1, h2, h3, h4, h5⟩ := h.ex
 exact h2.one
theorem DGrid.read (h : DGrid en e G w lo hi v rows) (hP : Pins G w) : ∃ G', Pin.le G G' ∧ Pins G' w ∧ RSl (eSl eBool) G' v rows ∧ ∀ b o x, G' b o x → G b o x ∨ lo ≤ b := by
 obtain ⟨us, h1, h2, h3, h4, h5⟩ := h.ex
 refine ⟨GLvB (Gadd G w v) w (lvG us rows), Pin.le_trans (Gadd.le _ _ _) GLvB.le, GLvB.pins (Gadd.pins hP v), (h2.read.mono GLvB.le).conv h1.symm rfl fun i u r cs hp hn hr => ?_, fun b o x hx => ?_⟩
 rotate_left
 ·rcases hx with (a | a) | a
  ·exact Or.inl a
  ·exact Or.inr (h2.lt b a.1).1
  ·obtain ⟨⟨p, hp, hk⟩, _⟩ := a
   exact Or.inr ((h4.own p hp).lt b hk).1
 have hm : (u, r) ∈ lvG us rows := List.mem_of_getElem? (i := i) (by unfold lvG; rw [List.getElem?_zip_eq_some]; exact ⟨hp, hn⟩)
 obtain ⟨rfl, _⟩ := hr
 exact ⟨_, rfl, (h4.read hm).mono fun b o u hu => by
   rcases hu with a | a
   ·exact Or.inl (Or.inl a)
   ·exact Or.inr a⟩
theorem DGrid.give (h : DGrid en e G' w' w.heap.size w'.heap.size v rows) (hx : Ext noS G w G' w') : ∃ G2, RSl (eSl eBool) G2 v rows ∧ Ext noS G w G2 w' := by
 obtain ⟨G2, hl, hp, hr, hf⟩ := h.read hx.pins
 exact ⟨G2, hr, hx.promise hl hp hf (Nat.le_refl _)⟩
theorem DGrid.leaf (h : DGrid en e G w lo hi v rows) {i : Nat} (hi' : i < rows.length) : ∃ us, us.length = rows.length ∧ Own eVal en G w lo v us ∧ Own eBool e G w lo (us.getD i default) (rows.getD i []) ∧ (∀ k, (us.getD i default).ownBlock = some k → lo ≤ k ∧ k < hi) ∧
  ∀ {w' : World} {ys : List Bool}, Own eBool e G w' lo (us.getD i default) ys → w.grownBy w' (us.getD i default).ownBlock → DGrid en e G w' lo hi v (rows.set i ys) := by
 obtain ⟨us, h1, h2, h3, h4, h5⟩ := h.ex
 have hu : i < us.length := by omega
 have e1 : us.getD i default = us[i] := by simp [List.getD, hu]
 have e2 : rows.getD i [] = rows[i] := by simp [List.getD, hi']
 have hm : (us[i], rows[i]) ∈ lvG us rows := List.mem_of_getElem? (i := i) (by unfold lvG; rw [List.getElem?_zip_eq_some]; exact ⟨List.getElem?_eq_getElem hu, List.getElem?_eq_getElem hi'⟩)
 have hown := h4.own _ hm
 refine ⟨us, h1, h2, by rw [e1, e2]; exact hown, fun k hk => by rw [e1] at hk; exact ⟨(hown.lt k hk).1, h4.hi _ hm k hk⟩, fun {w'} {ys} ho hg => ?_⟩
 rw [e1] at ho hg
 have hs : lvG us rows = lvG (us.take i) (rows.take i) ++ (us[i], rows[i]) :: lvG (us.drop (i + 1)) (rows.drop (i + 1)) := by
  unfold lvG
  conv => lhs; rw [← List.take_append_drop i us, ← List.take_append_drop i rows]
  rw [List.zip_append (by simp; omega), List.drop_eq_getElem_cons hu, List.drop_eq_getElem_cons hi']
  rfl
 have hs2 : lvG us (rows.set i ys) = lvG (us.take i) (rows.take i) ++ (us[i], ys) :: lvG (us.drop (i + 1)) (rows.drop (i + 1)) := by
  unfold lvG
  have e3 : rows.set i ys = rows.take i ++ ys :: rows.drop (i + 1) := List.set_eq_take_append_cons_drop .. |>.trans (if_pos hi')
  rw [e3]
  conv => lhs; rw [← List.take_append_drop i us]
  rw [List.zip_append (by simp; omega), List.drop_eq_getElem_cons hu]
  rfl
 rw [hs] at h4 h5
 refine ⟨us, by simp [h1], h2.keptA hg (h5 _ (List.mem_append_right _ List.mem_cons_self)).symm, h3, by rw [hs2]; exact h4.step ho hg, fun p hp => ?_⟩
 rw [hs2] at hp
 rcases List.mem_append.1 hp with hp | hp
 ·exact h5 p (List.mem_append_left _ hp)
 ·rcases List.mem_cons.1 hp with rfl | hp
  ·exact h5 (us[i], rows[i]) (List.mem_append_right _ List.mem_cons_self)
  ·exact h5 p (List.mem_append_right _ (List.mem_cons_of_mem _ hp))
theorem DGrid.make {us : List Value} (h1 : us.length = rows.length) (h2 : Own eVal en G w lo v us) (h4 : LvsB e G w lo w.heap.size (lvG us rows)) (h5 : ApLB (lvG us rows) v.ownBlock) : DGrid en e G w lo w.heap.size v rows := ⟨⟨us, h1, h2, fun k hk => (h2.lt k hk).2, h4, h5⟩⟩
end
end Go.GL

namespace Go.GL
open Go Go.RowKit
theorem GbP.small {rows : List ByteArray} (g : GbP rows) : ∀ k, k < rows.length → (rows.getD k ByteArray.empty).size ≤ 1048576 := fun k hk => by
 have h1 := g.eq k hk
 have h2 := g.wd
 unfold rwS at h1
 omega
variable {rows : List ByteArray} {lf : Bool} {p : Nat}
theorem rl_next (hg : gbB rows = true) (hi : p < (dmF rows lf).length) :
  gbB ((dmF rows lf).getD p []) = true ∧ rmF ((dmF rows lf).getD p []) lf ≤ rmF rows lf - 1 ∧ ∀ k, k < ((dmF rows lf).getD p []).length → (((dmF rows lf).getD p []).getD k ByteArray.empty).size ≤ 1048576 := by
 have hm : (dmF rows lf).getD p [] ∈ dmM rows lf := by
  have h := getD_mem (d := ([] : List ByteArray)) hi
  rwa [dmF_yes hg] at h ⊢
 obtain ⟨g1, g2⟩ := room_next (decP_true.1 hg) hm
 have hx : gbB ((dmF rows lf).getD p []) = true := decP_true.2 g1
 refine ⟨hx, ?_, g1.small⟩
 rw [rmF_yes hg, rmF_yes hx]
 omega
theorem rl_away (hg : gbB rows = true) (hi : p < (dmF rows (!lf)).length) :
  gbB ((dmF rows (!lf)).getD p []) = true ∧ rmF ((dmF rows (!lf)).getD p []) lf ≤ rmF rows lf ∧ rmF rows lf - 2 ≤ rmF ((dmF rows (!lf)).getD p []) lf ∧ ∀ k, k < ((dmF rows (!lf)).getD p []).length → (((dmF rows (!lf)).getD p []).getD k ByteArray.empty).size ≤ 1048576 := by
 have hm : (dmF rows (!lf)).getD p [] ∈ dmM rows (!lf) := by
  have h := getD_mem (d := ([] : List ByteArray)) hi
  rwa [dmF_yes hg] at h ⊢
 obtain ⟨g1, g2⟩ := room_away (decP_true.1 hg) hm
 have hx : gbB ((dmF rows (!lf)).getD p []) = true := decP_true.2 g1
 refine ⟨hx, ?_, ?_, g1.small⟩
 ·rw [rmF_yes hg, rmF_yes hx]; omega
 ·rw [rmF_yes hg, rmF_yes hx]; omega
theorem rl_pos (hg : gbB rows = true) : ((0 : Int) < rmF rows lf) ↔ ((0 : Int) < ((dmF rows lf).length : Int)) := by
 rw [rmF_yes hg, dmF_yes hg]
 have := room_some (left := lf) (decP_true.1 hg)
 have h2 : 0 < (dmM rows lf).length ↔ dmM rows lf ≠ [] := List.length_pos_iff
 rw [← h2] at this
 omega
theorem txt_eq {a b : ByteArray} (h : (a.toList == b.toList) = true) : a = b := by
 have h2 := eq_of_beq h
 rw [ByteArray.toList_eq, ByteArray.toList_eq] at h2
 exact ByteArray.ext (Array.toList_inj.1 h2)
theorem txt_dif {a b : ByteArray} (h : (a.toList == b.toList) = false) : a ≠ b := fun e => by subst e; simp at h
theorem sum_le8 : ∀ {l : List Nat}, (∀ x ∈ l, x ≤ 8) → l.sum ≤ 8 * l.length
 | [], _ => by simp
 | x :: t, h => by
  have h1 := h x (by simp)
  have h2 := sum_le8 (l := t) fun y hy => h y (by simp [hy])
  simp only [List.sum_cons, List.length_cons]
  omega
theorem rl_top (hg : gbB rows = true) : 0 ≤ rmF rows lf ∧ rmF rows lf ≤ 64 := by
 have g := decP_true.1 hg
 rw [rmF_yes hg, ← room_lines g lf]
 have h1 : ((linesM rows lf).map rmS).sum ≤ 8 * ((linesM rows lf).map rmS).length := sum_le8 fun x hx => by
  obtain ⟨s, hs, rfl⟩ := List.mem_map.1 hx
  obtain ⟨i, hi, rfl⟩ := List.getElem_of_mem hs
  have h3 := lines_size g lf i hi
  have h4 := half_le ((linesM rows lf).getD i ByteArray.empty)
  have e : (linesM rows lf).getD i ByteArray.empty = (linesM rows lf)[i] := by simp [List.getD, hi]
  rw [e] at h3 h4
  exact Nat.le_trans h4 h3
 have h2 := lines_len g lf
 rw [List.length_map] at h1
 omega
end Go.GL

namespace Go.Proofs
open Go.Shelf
def Tryd.lays146_ren : Go.Shelf.Ren := ⟨fun | 146 => 17 | 221 => 28 | 268 => 37 | 138 => 38 | 143 => 39 | 195 => 44 | 197 => 41 | 218 => 45 | 219 => 46 | 260 => 47 | 217 => 50 | 225 => 51 | 224 => 52 | 267 => 53 | 266 => 56 | 314 => 57 | n => n, fun | 9 => 9 | 31 => 24 | 3 => 3 | 4 => 4 | 0 => 0 | 105 => 69 | 21 => 21 | 5 => 5 | 46 => 67 | 119 => 75 | 139 => 78 | 138 => 77 | 146 => 81 | 51 => 80 | n => n, fun | 1 => 0 | 3 => 1 | 4 => 2 | n => n⟩
theorem Tryd.lays146 : Go.Proofs.Lays.n146 Tryd.prog Tryd.lays146_ren := {
 mixed := by kernel_rfl
 f138 := Tryd.func38.trans (congrArg some (by kernel_rfl))
 f143 := Tryd.func39.trans (congrArg some (by kernel_rfl))
 f146 := Tryd.func17.trans (congrArg some (by kernel_rfl))
 f195 := Tryd.func44.trans (congrArg some (by kernel_rfl))
 f197 := Tryd.func41.trans (congrArg some (by kernel_rfl))
 f217 := Tryd.func50.trans (congrArg some (by kernel_rfl))
 f218 := Tryd.func45.trans (congrArg some (by kernel_rfl))
 f219 := Tryd.func46.trans (congrArg some (by kernel_rfl))
 f221 := Tryd.func28.trans (congrArg some (by kernel_rfl))
 f224 := Tryd.func52.trans (congrArg some (by kernel_rfl))
 f225 := Tryd.func51.trans (congrArg some (by kernel_rfl))
 f260 := Tryd.func47.trans (congrArg some (by kernel_rfl))
 f266 := Tryd.func56.trans (congrArg some (by kernel_rfl))
 f267 := Tryd.func53.trans (congrArg some (by kernel_rfl))
 f268 := Tryd.func37.trans (congrArg some (by kernel_rfl))
 f314 := Tryd.func57.trans (congrArg some (by kernel_rfl))
 t0 := Tryd.underlying0
 a0 := Tryd.isAgg0
 z0 := Tryd.sizeOf0
 v0 := Tryd.zeroValue0
 t3 := Tryd.underlying3
 a3 := Tryd.isAgg3
 z3 := Tryd.sizeOf3
 v3 := Tryd.zeroValue3
 t4 := Tryd.underlying4
 a4 := Tryd.isAgg4
 z4 := Tryd.sizeOf4
 v4 := Tryd.zeroValue4
 t5 := Tryd.underlying5
 a5 := Tryd.isAgg5
 z5 := Tryd.sizeOf5
 v5 := Tryd.zeroValue5
 t9 := Tryd.underlying9
 a9 := Tryd.isAgg9
 z9 := Tryd.sizeOf9
 v9 := Tryd.zeroValue9
 t21 := Tryd.underlying21
 a21 := Tryd.isAgg21
 z21 := Tryd.sizeOf21
 v21 := Tryd.zeroValue21
 t31 := Tryd.underlying24
 a31 := Tryd.isAgg24
 z31 := Tryd.sizeOf24
 v31 := Tryd.zeroValue24
 t46 := Tryd.underlying67
 a46 := Tryd.isAgg67
 z46 := Tryd.sizeOf67
 v46 := Tryd.zeroValue67
 t51 := Tryd.underlying80
 a51 := Tryd.isAgg80
 z51 := Tryd.sizeOf80
 v51 := Tryd.zeroValue80
 t105 := Tryd.underlying69
 a105 := Tryd.isAgg69
 z105 := Tryd.sizeOf69
 v105 := Tryd.zeroValue69
 t119 := Tryd.underlying75
 a119 := Tryd.isAgg75
 z119 := Tryd.sizeOf75
 t138 := Tryd.underlying77
 a138 := Tryd.isAgg77
 z138 := Tryd.sizeOf77
 v138 := Tryd.zeroValue77
 t139 := Tryd.underlying78
 a139 := Tryd.isAgg78
 z139 := Tryd.sizeOf78
 v139 := Tryd.zeroValue78
 t146 := Tryd.underlying81
 a146 := Tryd.isAgg81
 z146 := Tryd.sizeOf81
 v146 := Tryd.zeroValue81
 g1 := by kernel_rfl
 g3 := by kernel_rfl
 g4 := by kernel_rfl }
open Go.RowKit Go.Lib in
theorem Tryd.strings_Split (s sep : ByteArray) (m : Int) (w : World) (hs : s.size < 4294967281) (hm : w.cell? ⟨0, 0, none⟩ = some (.int .i64 m)) (h1 : 1 ≤ sep.size) :
  Calls Tryd.prog 17 #[.string s, .string sep] w fun e w' =>
   e = .returned (.slice (some ⟨w.heap.size, 0, none⟩) (Lib.countB s sep + 1) (Lib.countB s sep + 1)) ∧ w' = w.alloc (.cells ((Lib.splitB sep 0 (Lib.countB s sep) s).map Value.string).toArray 9) := Any.strings_Split Tryd.lays146 (by kernel_rfl) s sep m w hs hm h1
def Tryd.lays160_ren : Go.Shelf.Ren := ⟨fun | 160 => 21 | 232 => 31 | 231 => 30 | 227 => 32 | 234 => 34 | 233 => 33 | 236 => 36 | 235 => 35 | 228 => 40 | 271 => 43 | 151 => 42 | 197 => 41 | 120 => 49 | 152 => 48 | 260 => 47 | 137 => 54 | 119 => 55 | 224 => 52 | 225 => 51 | 217 => 50 | 266 => 56 | n => n, fun | 9 => 9 | 4 => 4 | 3 => 3 | 5 => 5 | 117 => 61 | 116 => 60 | 0 => 0 | 124 => 64 | 21 => 21 | 105 => 69 | 46 => 67 | 119 => 75 | 139 => 78 | 138 => 77 | n => n, fun | 3 => 1 | 4 => 2 | n => n⟩
theorem Tryd.lays160 : Go.Proofs.Lays.n160 Tryd.prog Tryd.lays160_ren := {
 mixed := by kernel_rfl
 f119 := Tryd.func55.trans (congrArg some (by kernel_rfl))
 f120 := Tryd.func49.trans (congrArg some (by kernel_rfl))
 f137 := Tryd.func54.trans (congrArg some (by kernel_rfl))
 f151 := Tryd.func42.trans (congrArg some (by kernel_rfl))
 f152 := Tryd.func48.trans (congrArg some (by kernel_rfl))
 f160 := Tryd.func21.trans (congrArg some (by kernel_rfl))
 f197 := Tryd.func41.trans (congrArg some (by kernel_rfl))
 f217 := Tryd.func50.trans (congrArg some (by kernel_rfl))
 f224 := Tryd.func52.trans (congrArg some (by kernel_rfl))
 f225 := Tryd.func51.trans (congrArg some (by kernel_rfl))
 f227 := Tryd.func32.trans (congrArg some (by kernel_rfl))
 f228 := Tryd.func40.trans (congrArg some (by kernel_rfl))
 f231 := Tryd.func30.trans (congrArg some (by kernel_rfl))
 f232 := Tryd.func31.trans (congrArg some (by kernel_rfl))
 f233 := Tryd.func33.trans (congrArg some (by kernel_rfl))
 f234 := Tryd.func34.trans (congrArg some (by kernel_rfl))
 f235 := Tryd.func35.trans (congrArg some (by kernel_rfl))
 f236 := Tryd.func36.trans (congrArg some (by kernel_rfl))
 f260 := Tryd.func47.trans (congrArg some (by kernel_rfl))
 f266 := Tryd.func56.trans (congrArg some (by kernel_rfl))
 f271 := Tryd.func43.trans (congrArg some (by kernel_rfl))
 t0 := Tryd.underlying0
 a0 := Tryd.isAgg0
 z0 := Tryd.sizeOf0
 v0 := Tryd.zeroValue0
 t3 := Tryd.underlying3
 a3 := Tryd.isAgg3
 z3 := Tryd.sizeOf3
 v3 := Tryd.zeroValue3
 t4 := Tryd.underlying4
 a4 := Tryd.isAgg4
 z4 := Tryd.sizeOf4
 v4 := Tryd.zeroValue4
 t5 := Tryd.underlying5
 a5 := Tryd.isAgg5
 z5 := Tryd.sizeOf5
 v5 := Tryd.zeroValue5
 t9 := Tryd.underlying9
 a9 := Tryd.isAgg9
 z9 := Tryd.sizeOf9
 v9 := Tryd.zeroValue9
 t21 := Tryd.underlying21
 a21 := Tryd.isAgg21
 z21 := Tryd.sizeOf21
 v21 := Tryd.zeroValue21
 t46 := Tryd.underlying67
 a46 := Tryd.isAgg67
 z46 := Tryd.sizeOf67
 v46 := Tryd.zeroValue67
 t105 := Tryd.underlying69
 a105 := Tryd.isAgg69
 z105 := Tryd.sizeOf69
 v105 := Tryd.zeroValue69
 t116 := Tryd.underlying60
 a116 := Tryd.isAgg60
 z116 := Tryd.sizeOf60
 t117 := Tryd.underlying61
 a117 := Tryd.isAgg61
 z117 := Tryd.sizeOf61
 v117 := Tryd.zeroValue61
 t119 := Tryd.underlying75
 a119 := Tryd.isAgg75
 z119 := Tryd.sizeOf75
 t124 := Tryd.underlying64
 a124 := Tryd.isAgg64
 z124 := Tryd.sizeOf64
 v124 := Tryd.zeroValue64
 t138 := Tryd.underlying77
 a138 := Tryd.isAgg77
 z138 := Tryd.sizeOf77
 v138 := Tryd.zeroValue77
 t139 := Tryd.underlying78
 a139 := Tryd.isAgg78
 z139 := Tryd.sizeOf78
 v139 := Tryd.zeroValue78
 g3 := by kernel_rfl
 g4 := by kernel_rfl }
open Go.RowKit Go.Lib in
theorem Tryd.strings_Trim (s cutset : ByteArray) (w : World) (hs : s.size ≤ 9223372036854775807) (hcs : cutset.size < 4294967281) (hascii : ∀ (j : Nat) b, cutset.data.toList[j]? = some b → b.toNat < 128) :
  Calls Tryd.prog 21 #[.string s, .string cutset] w fun e w' => e = .returned (.string ⟨(Lib.trimS s.data.toList cutset.data.toList).toArray⟩) ∧ Below w.heap.size w w' := Any.strings_Trim_laid Tryd.lays160 (by kernel_rfl) s cutset w hs hcs hascii
end Go.Proofs

set_option maxRecDepth 20000
set_option maxHeartbeats 2000000
namespace Go.Proofs.YtajkbplgbikgdaaDoor
namespace RM1
open Go.RowKit Go.GL Go.Proofs
end RM1
section
open Go.RowKit Go.GL Go.Proofs
theorem ag22 : (Tryd.prog.underlying 22).map aggD = some false := by kernel_rfl
theorem ag24 : (Tryd.prog.underlying 24).map aggD = some false := by kernel_rfl
theorem ag26 : (Tryd.prog.underlying 26).map aggD = some true := by kernel_rfl
theorem ag3 : (Tryd.prog.underlying 3).map aggD = some false := by kernel_rfl
theorem ag36 : (Tryd.prog.underlying 36).map aggD = some false := by kernel_rfl
theorem ag4 : (Tryd.prog.underlying 4).map aggD = some false := by kernel_rfl
theorem ag5 : (Tryd.prog.underlying 5).map aggD = some false := by kernel_rfl
theorem ag53 : (Tryd.prog.underlying 53).map aggD = some false := by kernel_rfl
theorem ag9 : (Tryd.prog.underlying 9).map aggD = some false := by kernel_rfl
theorem ap26 : (Tryd.prog.info? 26).map (fun i => (i.size, i.bytes, (i.zero.map (·.cells.size)))) = some (1, 24, some 1) := by kernel_rfl
theorem ap4 : (Tryd.prog.info? 4).map (fun i => (i.size, i.bytes, (i.zero.map (·.cells.size)))) = some (1, 1, some 1) := by kernel_rfl
theorem ap5 : (Tryd.prog.info? 5).map (fun i => (i.size, i.bytes, (i.zero.map (·.cells.size)))) = some (1, 1, some 1) := by kernel_rfl
theorem ap53 : (Tryd.prog.info? 53).map (fun i => (i.size, i.bytes, (i.zero.map (·.cells.size)))) = some (1, 24, some 1) := by kernel_rfl
theorem ap9 : (Tryd.prog.info? 9).map (fun i => (i.size, i.bytes, (i.zero.map (·.cells.size)))) = some (1, 16, some 1) := by kernel_rfl
theorem nm10 : (Tryd.f10.name == "runtime.NumGoroutine") = false := by kernel_rfl
theorem nm11 : (Tryd.f11.name == "runtime.NumGoroutine") = false := by kernel_rfl
theorem nm12 : (Tryd.f12.name == "runtime.NumGoroutine") = false := by kernel_rfl
theorem nm13 : (Tryd.f13.name == "runtime.NumGoroutine") = false := by kernel_rfl
theorem nm14 : (Tryd.f14.name == "runtime.NumGoroutine") = false := by kernel_rfl
theorem nm15 : (Tryd.f15.name == "runtime.NumGoroutine") = false := by kernel_rfl
theorem nm16 : (Tryd.f16.name == "runtime.NumGoroutine") = false := by kernel_rfl
theorem nm17 : (Tryd.f17.name == "runtime.NumGoroutine") = false := by kernel_rfl
theorem nm18 : (Tryd.f18.name == "runtime.NumGoroutine") = false := by kernel_rfl
theorem nm19 : (Tryd.f19.name == "runtime.NumGoroutine") = false := by kernel_rfl
theorem nm20 : (Tryd.f20.name == "runtime.NumGoroutine") = false := by kernel_rfl
theorem nm21 : (Tryd.f21.name == "runtime.NumGoroutine") = false := by kernel_rfl
theorem nm22 : (Tryd.f22.name == "runtime.NumGoroutine") = false := by kernel_rfl
theorem nm23 : (Tryd.f23.name == "runtime.NumGoroutine") = false := by kernel_rfl
theorem nm24 : (Tryd.f24.name == "runtime.NumGoroutine") = false := by kernel_rfl
theorem nm25 : (Tryd.f25.name == "runtime.NumGoroutine") = false := by kernel_rfl
theorem nm26 : (Tryd.f26.name == "runtime.NumGoroutine") = false := by kernel_rfl
theorem nm27 : (Tryd.f27.name == "runtime.NumGoroutine") = false := by kernel_rfl
theorem nm29 : (Tryd.f29.name == "runtime.NumGoroutine") = false := by kernel_rfl
theorem nm4 : (Tryd.f4.name == "runtime.NumGoroutine") = false := by kernel_rfl
theorem nm5 : (Tryd.f5.name == "runtime.NumGoroutine") = false := by kernel_rfl
theorem nm6 : (Tryd.f6.name == "runtime.NumGoroutine") = false := by kernel_rfl
theorem nm7 : (Tryd.f7.name == "runtime.NumGoroutine") = false := by kernel_rfl
theorem nm8 : (Tryd.f8.name == "runtime.NumGoroutine") = false := by kernel_rfl
theorem nm9 : (Tryd.f9.name == "runtime.NumGoroutine") = false := by kernel_rfl
theorem nz22 : (Tryd.prog.info? 22).map (·.size == 0) = some false := by kernel_rfl
theorem nz24 : (Tryd.prog.info? 24).map (·.size == 0) = some false := by kernel_rfl
theorem nz3 : (Tryd.prog.info? 3).map (·.size == 0) = some false := by kernel_rfl
theorem nz36 : (Tryd.prog.info? 36).map (·.size == 0) = some false := by kernel_rfl
theorem sz24 : (Tryd.prog.info? 24).map (·.size) = some 1 := by kernel_rfl
theorem sz26 : (Tryd.prog.info? 26).map (·.size) = some 1 := by kernel_rfl
theorem sz3 : (Tryd.prog.info? 3).map (·.size) = some 1 := by kernel_rfl
theorem sz36 : (Tryd.prog.info? 36).map (·.size) = some 1 := by kernel_rfl
theorem sz4 : (Tryd.prog.info? 4).map (·.size) = some 1 := by kernel_rfl
theorem sz5 : (Tryd.prog.info? 5).map (·.size) = some 1 := by kernel_rfl
theorem sz53 : (Tryd.prog.info? 53).map (·.size) = some 1 := by kernel_rfl
theorem sz9 : (Tryd.prog.info? 9).map (·.size) = some 1 := by kernel_rfl
theorem zr26 : (Tryd.prog.info? 26).bind (·.zero) = some (.agg #[(.slice none 0 0)]) := by kernel_rfl
theorem zr38 : (Tryd.prog.info? 38).bind (·.zero) = some (.agg #[(.slice none 0 0), (.int .i64 0), (.int .u64 0)]) := by kernel_rfl
theorem zr4 : (Tryd.prog.info? 4).bind (·.zero) = some (.bool false) := by kernel_rfl
theorem zr5 : (Tryd.prog.info? 5).bind (·.zero) = some (.int .u8 0) := by kernel_rfl
theorem zr53 : (Tryd.prog.info? 53).bind (·.zero) = some (.slice none 0 0) := by kernel_rfl
theorem zr9 : (Tryd.prog.info? 9).bind (·.zero) = some (.string ByteArray.empty) := by kernel_rfl
end
namespace RM1
open Go.RowKit Go.GL Go.Proofs




theorem trim_spec {w : World} {G : Pin} {s : ByteArray} (hP : Pins G w) (hs : s.size ≤ 1048576) :
  Calls Tryd.prog 21 [.string s, .string (⟨#[46, 35]⟩ : ByteArray)].toArray w fun e w' => ∃ G', e = .returned (.string (trimM s [46, 35])) ∧ Ext noS G w G' w' := by
 refine (Tryd.strings_Trim s _ w (by omega) (by decide) (ascii_of_all (by decide))).mono ?_
 rintro e w' ⟨rfl, hb⟩
 exact ⟨G, rfl, (Ext.refl hP).step (hP.below hb) hb⟩

theorem split_spec {w : World} {G : Pin} {s : ByteArray} {c : UInt8} (hP : Pins G w) (hM : MxG 0 G) (hs : s.size ≤ 1048576) :
  Calls Tryd.prog 17 [.string s, .string (⟨#[c]⟩ : ByteArray)].toArray w fun e w' => ∃ (u : Value) (G' : Pin), e = .returned u ∧ Own eStr 9 G' w' w.heap.size u (Lib.splitB ⟨#[c]⟩ 0 (Lib.countB s ⟨#[c]⟩) s) ∧ Ext noS G w G' w' := by
 obtain ⟨m, hm⟩ := hM
 have h1 : 1 ≤ (⟨#[c]⟩ : ByteArray).size := by show 1 ≤ 1; omega
 refine (Tryd.strings_Split s _ m w (by omega) (hP _ _ _ hm) h1).mono ?_
 rintro e w' ⟨rfl, rfl⟩
 have hl : (Lib.splitB ⟨#[c]⟩ 0 (Lib.countB s ⟨#[c]⟩) s).length = Lib.countB s ⟨#[c]⟩ + 1 := Lib.splitB_all _ h1 0 _ s rfl
 have hcl := Lib.countB_le ⟨#[c]⟩ h1 s.size s (Nat.le_refl _)
 obtain ⟨a1, a2, a3⟩ := own_strs (e := 9) (Lib.splitB ⟨#[c]⟩ 0 (Lib.countB s ⟨#[c]⟩) s) hP (by omega)
 rw [hl] at a1
 exact ⟨_, G, rfl, a1, (Ext.refl hP).step a2 a3⟩

theorem iGoodBoard_spec {w : World} {G : Pin} {v : Value} {rows : List ByteArray} (hP : Pins G w) (hv : RSl eStr G v rows) (hz : ∀ i, i < rows.length → (rows.getD i ByteArray.empty).size ≤ 1048576) :
  Calls Tryd.prog 12 [(.agg [v].toArray)].toArray w fun e w' => ∃ G', e = .returned (.bool (gbB rows)) ∧ Ext noS G w G' w' := by
 refine s_enter (n := 52) Tryd.func12 Tryd.ntmps12 rfl rfl ?_
 have hX0 : Ext noS G w G w := Ext.refl hP
 have hm := hv.max
 refine s_seq (c_reg ?_)
 refine q1 rfl rfl rfl (o_box [v] (v := (.agg [v].toArray)) rfl rfl hX0.pins (fun b1 w2 hk3 hb4 hp5 hl6 => ?_))
 have hX7 := hX0.step hp5 hl6
 have hlo8 : w.heap.size ≤ b1 := by have := hX0.size; omega
 obtain ⟨G9, hle10, hX11, hbp12, hf13⟩ := hb4.shut hX7 hlo8
 refine qd rfl rfl rfl (r_assign (v := (.bool false)) rfl) (qe (s_then (s_seq (s_seq (c_reg ?_)))))
 refine qd rfl rfl rfl (r_fldp (k := 0) rfl Tryd.underlying26 rfl nz24 rfl) (qd rfl rfl rfl (r_ldp1 (u := v) ag24 rfl (hX11.pins _ _ _ (hbp12 0 _ rfl))) (qd rfl rfl rfl (run_len Tryd.underlying24 (v := v) rfl hv) (qd rfl rfl rfl (r_lss rfl rfl) (qd rfl rfl rfl (r_move (v := (.bool (decide (((rows.length : Int) : Int) < 1)))) rfl) (qbd (p := ((rows.length : Int) : Int) < 1) (t := 9) rfl (fun h14 => ?_) (fun h14 => ?_))))))
 refine qs rfl rfl rfl rfl rfl rfl (qs rfl rfl rfl rfl rfl rfl (qs rfl rfl rfl rfl rfl rfl (qs rfl rfl rfl rfl rfl rfl (qd rfl rfl rfl (r_pickT (v := (.bool true)) rfl rfl) (qd rfl rfl rfl (r_move (v := (.bool true)) rfl) (qs rfl rfl rfl rfl rfl rfl (qs rfl rfl rfl rfl rfl rfl (qs rfl rfl rfl rfl rfl rfl (qs rfl rfl rfl rfl rfl rfl (qs rfl rfl rfl rfl rfl rfl (qs rfl rfl rfl rfl rfl rfl (qd rfl rfl rfl (r_pickT (v := (.bool true)) rfl rfl) (qd rfl rfl rfl (r_move (v := (.bool true)) rfl) (qs rfl rfl rfl rfl rfl rfl (qs rfl rfl rfl rfl rfl rfl (qs rfl rfl rfl rfl rfl rfl (qs rfl rfl rfl rfl rfl rfl (qs rfl rfl rfl rfl rfl rfl (qs rfl rfl rfl rfl rfl rfl (qd rfl rfl rfl (r_pickT (v := (.bool true)) rfl rfl) (qe (s_then ?_))))))))))))))))))))))
 refine c_ifT rfl rfl (s_seq (c_reg ?_))
 refine qd rfl rfl rfl (r_assign (v := (.bool false)) rfl) (qe (s_then ?_))
 exact wp_ret (s_ret (c_ret1 (v := (.bool false)) rfl rfl rfl (⟨_, congrArg (fun z => Ending.returned (Value.bool z)) (by first | exact (gb_hi (by omega)).symm | exact (gb_wd (by show ¬ (1 ≤ (rows.getD 0 ByteArray.empty).size ∧ (rows.getD 0 ByteArray.empty).size ≤ 8); omega)).symm), hX11⟩)))
 refine qdg rfl rfl rfl rfl rfl rfl (r_fldp (k := 0) rfl Tryd.underlying26 rfl nz24 rfl) (qdg rfl rfl rfl rfl rfl rfl (r_ldp1 (u := v) ag24 rfl (hX11.pins _ _ _ (hbp12 0 _ rfl))) (qdg rfl rfl rfl rfl rfl rfl (run_len Tryd.underlying24 (v := v) rfl hv) (qdg rfl rfl rfl rfl rfl rfl (r_gtr rfl rfl) (qd rfl rfl rfl (r_pickF (v := (.bool (decide ((8 : Int) < (rows.length : Int))))) rfl rfl) (qd rfl rfl rfl (r_move (v := (.bool (decide ((8 : Int) < (rows.length : Int))))) rfl) (qbd (p := (8 : Int) < (rows.length : Int)) (t := 15) rfl (fun h15 => ?_) (fun h15 => ?_)))))))
 refine qs rfl rfl rfl rfl rfl rfl (qs rfl rfl rfl rfl rfl rfl (qs rfl rfl rfl rfl rfl rfl (qs rfl rfl rfl rfl rfl rfl (qs rfl rfl rfl rfl rfl rfl (qs rfl rfl rfl rfl rfl rfl (qd rfl rfl rfl (r_pickT (v := (.bool true)) rfl rfl) (qd rfl rfl rfl (r_move (v := (.bool true)) rfl) (qs rfl rfl rfl rfl rfl rfl (qs rfl rfl rfl rfl rfl rfl (qs rfl rfl rfl rfl rfl rfl (qs rfl rfl rfl rfl rfl rfl (qs rfl rfl rfl rfl rfl rfl (qs rfl rfl rfl rfl rfl rfl (qd rfl rfl rfl (r_pickT (v := (.bool true)) rfl rfl) (qe (s_then ?_))))))))))))))))
 refine c_ifT rfl rfl (s_seq (c_reg ?_))
 refine qd rfl rfl rfl (r_assign (v := (.bool false)) rfl) (qe (s_then ?_))
 exact wp_ret (s_ret (c_ret1 (v := (.bool false)) rfl rfl rfl (⟨_, congrArg (fun z => Ending.returned (Value.bool z)) (by first | exact (gb_hi (by omega)).symm | exact (gb_wd (by show ¬ (1 ≤ (rows.getD 0 ByteArray.empty).size ∧ (rows.getD 0 ByteArray.empty).size ≤ 8); omega)).symm), hX11⟩)))
 refine qdg rfl rfl rfl rfl rfl rfl (r_fldp (k := 0) rfl Tryd.underlying26 rfl nz24 rfl) (qdg rfl rfl rfl rfl rfl rfl (r_ldp1 (u := v) ag24 rfl (hX11.pins _ _ _ (hbp12 0 _ rfl))) (qdg rfl rfl rfl rfl rfl rfl (run_idx Tryd.underlying24 sz9 (v := v) rfl rfl hv (by omega) (by omega)) (qdg rfl rfl rfl rfl rfl rfl (run_load_str (r := rows.getD 0 ByteArray.empty) rfl ag9 (z := 0) rfl hv (Pins.of_le hX11.pins hle10) (by omega) (by omega)) (qdg rfl rfl rfl rfl rfl rfl (r_lenS Tryd.underlying9 rfl) (qdg rfl rfl rfl rfl rfl rfl (r_lss rfl rfl) (qd rfl rfl rfl (r_pickF (v := (.bool (decide ((((rows.getD 0 ByteArray.empty).size : Int) : Int) < 1)))) rfl rfl) (qd rfl rfl rfl (r_move (v := (.bool (decide ((((rows.getD 0 ByteArray.empty).size : Int) : Int) < 1)))) rfl) (qbd (p := (((rows.getD 0 ByteArray.empty).size : Int) : Int) < 1) (t := 23) rfl (fun h16 => ?_) (fun h16 => ?_)))))))))
 refine qs rfl rfl rfl rfl rfl rfl (qs rfl rfl rfl rfl rfl rfl (qs rfl rfl rfl rfl rfl rfl (qs rfl rfl rfl rfl rfl rfl (qs rfl rfl rfl rfl rfl rfl (qs rfl rfl rfl rfl rfl rfl (qd rfl rfl rfl (r_pickT (v := (.bool true)) rfl rfl) (qe (s_then ?_))))))))
 refine c_ifT rfl rfl (s_seq (c_reg ?_))
 refine qd rfl rfl rfl (r_assign (v := (.bool false)) rfl) (qe (s_then ?_))
 exact wp_ret (s_ret (c_ret1 (v := (.bool false)) rfl rfl rfl (⟨_, congrArg (fun z => Ending.returned (Value.bool z)) (by first | exact (gb_hi (by omega)).symm | exact (gb_wd (by show ¬ (1 ≤ (rows.getD 0 ByteArray.empty).size ∧ (rows.getD 0 ByteArray.empty).size ≤ 8); omega)).symm), hX11⟩)))
 refine qdg rfl rfl rfl rfl rfl rfl (r_fldp (k := 0) rfl Tryd.underlying26 rfl nz24 rfl) (qdg rfl rfl rfl rfl rfl rfl (r_ldp1 (u := v) ag24 rfl (hX11.pins _ _ _ (hbp12 0 _ rfl))) (qdg rfl rfl rfl rfl rfl rfl (run_idx Tryd.underlying24 sz9 (v := v) rfl rfl hv (by omega) (by omega)) (qdg rfl rfl rfl rfl rfl rfl (run_load_str (r := rows.getD 0 ByteArray.empty) rfl ag9 (z := 0) rfl hv (Pins.of_le hX11.pins hle10) (by omega) (by omega)) (qdg rfl rfl rfl rfl rfl rfl (r_lenS Tryd.underlying9 rfl) (qdg rfl rfl rfl rfl rfl rfl (r_gtr rfl rfl) (qd rfl rfl rfl (r_pickF (v := (.bool (decide ((8 : Int) < ((rows.getD 0 ByteArray.empty).size : Int))))) rfl rfl) (qe (s_then ?_))))))))
 refine c_ifd (p := (8 : Int) < ((rows.getD 0 ByteArray.empty).size : Int)) rfl rfl (fun h17 => ?_) (fun h17 => ?_)
 refine s_seq (c_reg ?_)
 refine qd rfl rfl rfl (r_assign (v := (.bool false)) rfl) (qe (s_then ?_))
 exact wp_ret (s_ret (c_ret1 (v := (.bool false)) rfl rfl rfl (⟨_, congrArg (fun z => Ending.returned (Value.bool z)) (by first | exact (gb_hi (by omega)).symm | exact (gb_wd (by show ¬ (1 ≤ (rows.getD 0 ByteArray.empty).size ∧ (rows.getD 0 ByteArray.empty).size ≤ 8); omega)).symm), hX11⟩)))
 refine wp_skip (s_then (s_seq (s_seq (c_reg ?_))))
 refine qd rfl rfl rfl (r_fldp (k := 0) rfl Tryd.underlying26 rfl nz24 rfl) (qd rfl rfl rfl (r_ldp1 (u := v) ag24 rfl (hX11.pins _ _ _ (hbp12 0 _ rfl))) (qd rfl rfl rfl (run_len Tryd.underlying24 (v := v) rfl hv) (qd rfl rfl rfl (r_move (v := (.int .i64 0)) rfl) (qe (s_then ?_)))))
 refine s_blk (s_loop (fun (k : Nat) (en : Nat → Value) (W : World) => ∃ (env1 : Nat → Value) (j : Nat) (GL1 : Pin), en = (upd (upd (upd (upd env1 1 (.pointer (some ⟨b1, 0, none⟩))) 32 v) 33 (.int .i64 (rows.length : Int))) 34 (.int .i64 (j : Int))) ∧ k = rows.length - j ∧ Ext noS G w GL1 W ∧ Pin.le G9 GL1 ∧ (j ≤ rows.length) ∧ (∀ i, i < j → RowOk (rows.getD i ByteArray.empty) (rows.getD 0 ByteArray.empty).size)) _ ⟨_, 0, G9, (packS (x := 34) (packS (x := 33) (packS (x := 32) (pack1 (x := 1) rfl) rfl) rfl) rfl), rfl, hX11, Pin.le_refl _, Nat.zero_le _, (fun i hi => absurd hi (Nat.not_lt_zero i))⟩ ?_)
 rintro k18 _ w19 ⟨env1, j, GL1, rfl, hk20, hX21, hlek18, hj, hr⟩
 refine s_seq (c_reg ?_)
 refine qd rfl rfl rfl (r_lss rfl rfl) (qe (s_then (s_seq ?_)))
 refine c_ifd (p := ((j : Int) : Int) < (rows.length : Int)) rfl rfl (fun h22 => ?_) (fun h22 => ?_)
 refine wp_skip (s_then (s_seq ?_))
 refine s_blk (s_seq (c_reg ?_))
 refine qd rfl rfl rfl (run_idx Tryd.underlying24 sz9 (v := v) rfl rfl hv (by omega) (by omega)) (qd rfl rfl rfl (run_load_str (r := rows.getD j ByteArray.empty) rfl ag9 (z := (j : Int)) rfl hv (Pins.of_le hX21.pins (Pin.le_trans hle10 hlek18)) (by omega) (by omega)) (qd rfl rfl rfl (r_assign (v := (.string (rows.getD j ByteArray.empty))) rfl) (qe (s_then (s_seq (c_reg ?_))))))
 refine qd rfl rfl rfl (r_move (v := (.string (rows.getD j ByteArray.empty))) rfl) (qd rfl rfl rfl (r_lenS Tryd.underlying9 rfl) (qd rfl rfl rfl (r_fldp (k := 0) rfl Tryd.underlying26 rfl nz24 rfl) (qd rfl rfl rfl (r_ldp1 (u := v) ag24 rfl ((Pins.of_le hX21.pins hlek18) _ _ _ (hbp12 0 _ rfl))) (qd rfl rfl rfl (run_idx Tryd.underlying24 sz9 (v := v) rfl rfl hv (by omega) (by omega)) (qd rfl rfl rfl (run_load_str (r := rows.getD 0 ByteArray.empty) rfl ag9 (z := 0) rfl hv (Pins.of_le hX21.pins (Pin.le_trans hle10 hlek18)) (by omega) (by omega)) (qd rfl rfl rfl (r_lenS Tryd.underlying9 rfl) (qd rfl rfl rfl (r_neq rfl rfl) (qd rfl rfl rfl (r_move (v := (.bool (decide ((((rows.getD j ByteArray.empty).size : Int) : Int) ≠ ((rows.getD 0 ByteArray.empty).size : Int))))) rfl) (qbd (p := (((rows.getD j ByteArray.empty).size : Int) : Int) ≠ ((rows.getD 0 ByteArray.empty).size : Int)) (t := 46) rfl (fun h23 => ?_) (fun h23 => ?_))))))))))
 refine qs rfl rfl rfl rfl rfl rfl (qs rfl rfl rfl rfl rfl rfl (qs rfl rfl rfl rfl rfl rfl (qd rfl rfl rfl (r_pickT (v := (.bool true)) rfl rfl) (qe (s_then ?_)))))
 refine c_ifT rfl rfl (s_seq (c_reg ?_))
 refine qd rfl rfl rfl (r_assign (v := (.bool false)) rfl) (qe (s_then ?_))
 exact wp_ret (s_ret (c_ret1 (v := (.bool false)) rfl rfl rfl (⟨_, congrArg (fun z => Ending.returned (Value.bool z)) (gb_row (i := j) (by omega) (fun k => by have := k.1; exact absurd (show (((rows.getD j ByteArray.empty).size : Nat) : Int) = ((rows.getD 0 ByteArray.empty).size : Int) from by exact_mod_cast this) (by omega))).symm, hX21⟩)))
 refine qdg rfl rfl rfl rfl rfl rfl (r_move (v := (.string (rows.getD j ByteArray.empty))) rfl) (q1g rfl rfl rfl rfl rfl rfl (o_call (vs := [(.string (rows.getD j ByteArray.empty)), (.string (⟨#[46, 35]⟩ : ByteArray))]) Tryd.func21 nm21 rfl rfl rfl ?_))
 refine Calls.mono (trim_spec (s := (rows.getD j ByteArray.empty)) hX21.pins (hz j (by omega))) ?_
 rintro _ w25 ⟨G24, rfl, hx26⟩
 refine ⟨_, rfl, ?_⟩
 have hX27 := hX21.tr hx26
 refine qdg rfl rfl rfl rfl rfl rfl (r_neqS rfl rfl) (qd rfl rfl rfl (r_pickF (v := (.bool (!((trimM (rows.getD j ByteArray.empty) [46, 35]).toList == (⟨#[]⟩ : ByteArray).toList)))) rfl rfl) (qe (s_then ?_)))
 refine c_ifn rfl rfl (fun h28 => ?_) (fun h28 => ?_)
 refine wp_skip (s_blkN (s_then (c_reg ?_)))
 refine qd rfl rfl rfl (r_add rfl rfl (by omega)) (qd rfl rfl rfl (r_move (v := (.int .i64 ((j : Int) + 1))) rfl) (qe (s_lopN (⟨_, ?_, _, rfl, _, j + 1, G24, (packS (x := 34) (packS (x := 33) (packS (x := 32) (pack1 (x := 1) rfl) rfl) rfl) rfl), rfl, hX27, (Pin.le_trans hlek18 hx26.le), (by omega), (fun i hi => if e : i = j then e ▸ row_trim (by omega) h28 else hr i (by omega))⟩))))
 omega
 refine s_seq (c_reg ?_)
 refine qd rfl rfl rfl (r_assign (v := (.bool false)) rfl) (qe (s_then ?_))
 exact wp_ret (s_ret (c_ret1 (v := (.bool false)) rfl rfl rfl (⟨_, congrArg (fun z => Ending.returned (Value.bool z)) (gb_row (i := j) (by omega) (row_not h28)).symm, hX27⟩)))
 refine wp_exit (s_thenE (s_lopE (s_blkE (s_then (s_seq (c_reg ?_))))))
 refine qd rfl rfl rfl (r_assign (v := (.bool true)) rfl) (qe (s_then ?_))
 exact wp_ret (s_ret (c_ret1 (v := (.bool true)) rfl rfl rfl (⟨_, congrArg (fun z => Ending.returned (Value.bool z)) (gb_done (by omega) (by show 1 ≤ (rows.getD 0 ByteArray.empty).size ∧ (rows.getD 0 ByteArray.empty).size ≤ 8; omega) (fun i hi => hr i (by omega))).symm, hX21⟩)))

end RM1
end Go.Proofs.YtajkbplgbikgdaaDoor

set_option maxRecDepth 20000
set_option maxHeartbeats 2000000
namespace Go.Proofs.YtajkbplgbikgdaaDoor
namespace RM2
open Go.RowKit Go.GL Go.Proofs
open RM1





theorem pl26 : (Tryd.prog.underlying 26).bind (placesD Tryd.prog) = some [(0, 1)] := by kernel_rfl






theorem free_spec {w : World} {G : Pin} {v : Value} {rows : List ByteArray} (hP : Pins G w) (hv : RSl eStr G v rows) {r c : Int} (g : GbP rows) :
  Calls Tryd.prog 22 [(.agg [v].toArray), (.int .i64 r), (.int .i64 c)].toArray w fun e w' => ∃ G', e = .returned (.bool (frI rows r c)) ∧ Ext noS G w G' w' := by
 refine s_enter (n := 39) Tryd.func22 Tryd.ntmps22 rfl rfl ?_
 have hX0 : Ext noS G w G w := Ext.refl hP
 have hm := hv.max
 have ghi := g.hi
 have gwd : 1 ≤ (rows.getD 0 ByteArray.empty).size ∧ (rows.getD 0 ByteArray.empty).size ≤ 8 := g.wd
 have geq : ∀ i, i < rows.length → (rows.getD i ByteArray.empty).size = (rows.getD 0 ByteArray.empty).size := g.eq
 have hrow : 0 ≤ r → r < rows.length → (rows.getD r.toNat ByteArray.empty).size = (rows.getD 0 ByteArray.empty).size := fun h1 h2 => geq _ (by omega)
 refine s_seq (c_reg ?_)
 refine q1 rfl rfl rfl (o_box [v] (v := (.agg [v].toArray)) rfl rfl hX0.pins (fun b1 w2 hk3 hb4 hp5 hl6 => ?_))
 have hX7 := hX0.step hp5 hl6
 have hlo8 : w.heap.size ≤ b1 := by have := hX0.size; omega
 obtain ⟨G9, hle10, hX11, hbp12, hf13⟩ := hb4.shut hX7 hlo8
 refine qd rfl rfl rfl (r_assign (v := (.bool false)) rfl) (qe (s_then (s_seq (c_reg ?_))))
 refine qd rfl rfl rfl (r_move (v := (.int .i64 r)) rfl) (qd rfl rfl rfl (r_geq rfl rfl) (qd rfl rfl rfl (r_move (v := (.bool (decide ((0 : Int) ≤ r)))) rfl) (qbd (p := (0 : Int) ≤ r) (t := 9) rfl (fun h14 => ?_) (fun h14 => ?_))))
 refine qdg rfl rfl rfl rfl rfl rfl (r_move (v := (.int .i64 r)) rfl) (qdg rfl rfl rfl rfl rfl rfl (r_fldp (k := 0) rfl Tryd.underlying26 rfl nz24 rfl) (qdg rfl rfl rfl rfl rfl rfl (r_ldp1 (u := v) ag24 rfl (hX11.pins _ _ _ (hbp12 0 _ rfl))) (qdg rfl rfl rfl rfl rfl rfl (run_len Tryd.underlying24 (v := v) rfl hv) (qdg rfl rfl rfl rfl rfl rfl (r_lss rfl rfl) (qd rfl rfl rfl (r_pickT (v := (.bool (decide ((r : Int) < (rows.length : Int))))) rfl rfl) (qd rfl rfl rfl (r_move (v := (.bool (decide ((r : Int) < (rows.length : Int))))) rfl) (qbd (p := (r : Int) < (rows.length : Int)) (t := 16) rfl (fun h15 => ?_) (fun h15 => ?_))))))))
 refine qdg rfl rfl rfl rfl rfl rfl (r_move (v := (.int .i64 c)) rfl) (qdg rfl rfl rfl rfl rfl rfl (r_geq rfl rfl) (qd rfl rfl rfl (r_pickT (v := (.bool (decide ((0 : Int) ≤ c)))) rfl rfl) (qd rfl rfl rfl (r_move (v := (.bool (decide ((0 : Int) ≤ c)))) rfl) (qbd (p := (0 : Int) ≤ c) (t := 20) rfl (fun h16 => ?_) (fun h16 => ?_)))))
 refine qdg rfl rfl rfl rfl rfl rfl (r_move (v := (.int .i64 c)) rfl) (qdg rfl rfl rfl rfl rfl rfl (r_fldp (k := 0) rfl Tryd.underlying26 rfl nz24 rfl) (qdg rfl rfl rfl rfl rfl rfl (r_ldp1 (u := v) ag24 rfl (hX11.pins _ _ _ (hbp12 0 _ rfl))) (qdg rfl rfl rfl rfl rfl rfl (run_idx Tryd.underlying24 sz9 (v := v) rfl rfl hv (by omega) (by omega)) (qdg rfl rfl rfl rfl rfl rfl (run_load_str (r := rows.getD 0 ByteArray.empty) rfl ag9 (z := 0) rfl hv (Pins.of_le hX11.pins hle10) (by omega) (by omega)) (qdg rfl rfl rfl rfl rfl rfl (r_lenS Tryd.underlying9 rfl) (qdg rfl rfl rfl rfl rfl rfl (r_lss rfl rfl) (qd rfl rfl rfl (r_pickT (v := (.bool (decide ((c : Int) < ((rows.getD 0 ByteArray.empty).size : Int))))) rfl rfl) (qd rfl rfl rfl (r_move (v := (.bool (decide ((c : Int) < ((rows.getD 0 ByteArray.empty).size : Int))))) rfl) (qbd (p := (c : Int) < ((rows.getD 0 ByteArray.empty).size : Int)) (t := 29) rfl (fun h17 => ?_) (fun h17 => ?_))))))))))
 refine qdg rfl rfl rfl rfl rfl rfl (r_fldp (k := 0) rfl Tryd.underlying26 rfl nz24 rfl) (qdg rfl rfl rfl rfl rfl rfl (r_ldp1 (u := v) ag24 rfl (hX11.pins _ _ _ (hbp12 0 _ rfl))) (qdg rfl rfl rfl rfl rfl rfl (r_move (v := (.int .i64 r)) rfl) ?_))
 try have hrw := hrow (by omega) (by omega)
 refine qdg rfl rfl rfl rfl rfl rfl (run_idx Tryd.underlying24 sz9 (v := v) rfl rfl hv (by omega) (by omega)) (qdg rfl rfl rfl rfl rfl rfl (run_load_str (r := rows.getD (r).toNat ByteArray.empty) rfl ag9 (z := r) rfl hv (Pins.of_le hX11.pins hle10) (by omega) (by omega)) (qdg rfl rfl rfl rfl rfl rfl (r_move (v := (.int .i64 c)) rfl) (qdg rfl rfl rfl rfl rfl rfl (r_idxB Tryd.underlying9 rfl rfl (by omega) (by omega)) (qdg rfl rfl rfl rfl rfl rfl (r_eql rfl rfl) (qd rfl rfl rfl (r_pickT (v := (.bool (decide ((((sB (rows.getD (r).toNat ByteArray.empty) (c).toNat).toNat : Int) : Int) = 46)))) rfl rfl) (qd rfl rfl rfl (r_assign (v := (.bool (decide ((((sB (rows.getD (r).toNat ByteArray.empty) (c).toNat).toNat : Int) : Int) = 46)))) rfl) (qe (s_then ?_))))))))
 exact wp_ret (s_ret (c_ret1 (v := (.bool (decide ((((sB (rows.getD (r).toNat ByteArray.empty) (c).toNat).toNat : Int) : Int) = 46)))) rfl rfl rfl (⟨_, congrArg (fun z => Ending.returned (Value.bool z)) (frI_in (by omega) (by omega)).symm, hX11⟩)))
 refine qs rfl rfl rfl rfl rfl rfl (qs rfl rfl rfl rfl rfl rfl (qs rfl rfl rfl rfl rfl rfl ?_))
 try have hrw := hrow (by omega) (by omega)
 refine qs rfl rfl rfl rfl rfl rfl (qs rfl rfl rfl rfl rfl rfl (qs rfl rfl rfl rfl rfl rfl (qs rfl rfl rfl rfl rfl rfl (qs rfl rfl rfl rfl rfl rfl (qd rfl rfl rfl (r_pickF (v := (.bool false)) rfl rfl) (qd rfl rfl rfl (r_assign (v := (.bool false)) rfl) (qe (s_then ?_))))))))
 exact wp_ret (s_ret (c_ret1 (v := (.bool false)) rfl rfl rfl (⟨_, congrArg (fun z => Ending.returned (Value.bool z)) (by first | exact (frI_nr (by omega)).symm | exact (frI_or (by omega) (by omega)).symm | exact (frI_nc (by omega)).symm | exact (frI_oc g (by omega) (by omega) (by omega) (by show ¬ c < ((rows.getD 0 ByteArray.empty).size : Int); omega)).symm), hX11⟩)))
 refine qs rfl rfl rfl rfl rfl rfl (qs rfl rfl rfl rfl rfl rfl (qs rfl rfl rfl rfl rfl rfl (qs rfl rfl rfl rfl rfl rfl (qs rfl rfl rfl rfl rfl rfl (qs rfl rfl rfl rfl rfl rfl (qs rfl rfl rfl rfl rfl rfl (qd rfl rfl rfl (r_pickF (v := (.bool false)) rfl rfl) (qd rfl rfl rfl (r_move (v := (.bool false)) rfl) (qs rfl rfl rfl rfl rfl rfl (qs rfl rfl rfl rfl rfl rfl (qs rfl rfl rfl rfl rfl rfl ?_)))))))))))
 try have hrw := hrow (by omega) (by omega)
 refine qs rfl rfl rfl rfl rfl rfl (qs rfl rfl rfl rfl rfl rfl (qs rfl rfl rfl rfl rfl rfl (qs rfl rfl rfl rfl rfl rfl (qs rfl rfl rfl rfl rfl rfl (qd rfl rfl rfl (r_pickF (v := (.bool false)) rfl rfl) (qd rfl rfl rfl (r_assign (v := (.bool false)) rfl) (qe (s_then ?_))))))))
 exact wp_ret (s_ret (c_ret1 (v := (.bool false)) rfl rfl rfl (⟨_, congrArg (fun z => Ending.returned (Value.bool z)) (by first | exact (frI_nr (by omega)).symm | exact (frI_or (by omega) (by omega)).symm | exact (frI_nc (by omega)).symm | exact (frI_oc g (by omega) (by omega) (by omega) (by show ¬ c < ((rows.getD 0 ByteArray.empty).size : Int); omega)).symm), hX11⟩)))
 refine qs rfl rfl rfl rfl rfl rfl (qs rfl rfl rfl rfl rfl rfl (qd rfl rfl rfl (r_pickF (v := (.bool false)) rfl rfl) (qd rfl rfl rfl (r_move (v := (.bool false)) rfl) (qs rfl rfl rfl rfl rfl rfl (qs rfl rfl rfl rfl rfl rfl (qs rfl rfl rfl rfl rfl rfl (qs rfl rfl rfl rfl rfl rfl (qs rfl rfl rfl rfl rfl rfl (qs rfl rfl rfl rfl rfl rfl (qs rfl rfl rfl rfl rfl rfl (qd rfl rfl rfl (r_pickF (v := (.bool false)) rfl rfl) (qd rfl rfl rfl (r_move (v := (.bool false)) rfl) (qs rfl rfl rfl rfl rfl rfl (qs rfl rfl rfl rfl rfl rfl (qs rfl rfl rfl rfl rfl rfl ?_)))))))))))))))
 try have hrw := hrow (by omega) (by omega)
 refine qs rfl rfl rfl rfl rfl rfl (qs rfl rfl rfl rfl rfl rfl (qs rfl rfl rfl rfl rfl rfl (qs rfl rfl rfl rfl rfl rfl (qs rfl rfl rfl rfl rfl rfl (qd rfl rfl rfl (r_pickF (v := (.bool false)) rfl rfl) (qd rfl rfl rfl (r_assign (v := (.bool false)) rfl) (qe (s_then ?_))))))))
 exact wp_ret (s_ret (c_ret1 (v := (.bool false)) rfl rfl rfl (⟨_, congrArg (fun z => Ending.returned (Value.bool z)) (by first | exact (frI_nr (by omega)).symm | exact (frI_or (by omega) (by omega)).symm | exact (frI_nc (by omega)).symm | exact (frI_oc g (by omega) (by omega) (by omega) (by show ¬ c < ((rows.getD 0 ByteArray.empty).size : Int); omega)).symm), hX11⟩)))
 refine qs rfl rfl rfl rfl rfl rfl (qs rfl rfl rfl rfl rfl rfl (qs rfl rfl rfl rfl rfl rfl (qs rfl rfl rfl rfl rfl rfl (qs rfl rfl rfl rfl rfl rfl (qd rfl rfl rfl (r_pickF (v := (.bool false)) rfl rfl) (qd rfl rfl rfl (r_move (v := (.bool false)) rfl) (qs rfl rfl rfl rfl rfl rfl (qs rfl rfl rfl rfl rfl rfl (qd rfl rfl rfl (r_pickF (v := (.bool false)) rfl rfl) (qd rfl rfl rfl (r_move (v := (.bool false)) rfl) (qs rfl rfl rfl rfl rfl rfl (qs rfl rfl rfl rfl rfl rfl (qs rfl rfl rfl rfl rfl rfl (qs rfl rfl rfl rfl rfl rfl (qs rfl rfl rfl rfl rfl rfl (qs rfl rfl rfl rfl rfl rfl (qs rfl rfl rfl rfl rfl rfl (qd rfl rfl rfl (r_pickF (v := (.bool false)) rfl rfl) (qd rfl rfl rfl (r_move (v := (.bool false)) rfl) (qs rfl rfl rfl rfl rfl rfl (qs rfl rfl rfl rfl rfl rfl (qs rfl rfl rfl rfl rfl rfl ?_))))))))))))))))))))))
 try have hrw := hrow (by omega) (by omega)
 refine qs rfl rfl rfl rfl rfl rfl (qs rfl rfl rfl rfl rfl rfl (qs rfl rfl rfl rfl rfl rfl (qs rfl rfl rfl rfl rfl rfl (qs rfl rfl rfl rfl rfl rfl (qd rfl rfl rfl (r_pickF (v := (.bool false)) rfl rfl) (qd rfl rfl rfl (r_assign (v := (.bool false)) rfl) (qe (s_then ?_))))))))
 exact wp_ret (s_ret (c_ret1 (v := (.bool false)) rfl rfl rfl (⟨_, congrArg (fun z => Ending.returned (Value.bool z)) (by first | exact (frI_nr (by omega)).symm | exact (frI_or (by omega) (by omega)).symm | exact (frI_nc (by omega)).symm | exact (frI_oc g (by omega) (by omega) (by omega) (by show ¬ c < ((rows.getD 0 ByteArray.empty).size : Int); omega)).symm), hX11⟩)))

theorem placed_true {w : World} {G : Pin} {v : Value} {rows : List ByteArray} (hP : Pins G w) (hv : RSl eStr G v rows) {r c : Nat} (g : GbP rows) (hrc : r + dR true < rows.length ∧ c + dC true < wdS rows) :
  Calls Tryd.prog 23 [(.agg [v].toArray), (.int .i64 (r : Int)), (.int .i64 (c : Int)), (.bool true)].toArray w fun e w' => ∃ (u : Value) (G' : Pin), e = .returned (.agg [u].toArray) ∧ RSl eStr G' u (placedM rows r c true) ∧ Ext noS G w G' w' := by
 refine s_enter (n := 55) Tryd.func23 Tryd.ntmps23 rfl rfl ?_
 have hX0 : Ext noS G w G w := Ext.refl hP
 have hm := hv.max
 have ghi := g.hi
 have gwd : 1 ≤ (rows.getD 0 ByteArray.empty).size ∧ (rows.getD 0 ByteArray.empty).size ≤ 8 := g.wd
 have geq : ∀ i, i < rows.length → (rows.getD i ByteArray.empty).size = (rows.getD 0 ByteArray.empty).size := g.eq
 have hr1 : r + 1 < rows.length := hrc.1
 have hc1 : c + 0 < (rows.getD 0 ByteArray.empty).size := hrc.2
 refine s_seq (c_reg ?_)
 refine q1 rfl rfl rfl (o_box [v] (v := (.agg [v].toArray)) rfl rfl hX0.pins (fun b1 w2 hk3 hb4 hp5 hl6 => ?_))
 have hX7 := hX0.step hp5 hl6
 have hlo8 : w.heap.size ≤ b1 := by have := hX0.size; omega
 obtain ⟨G9, hle10, hX11, hbp12, hf13⟩ := hb4.shut hX7 hlo8
 refine q1 rfl rfl rfl (o_alloc [(.slice none 0 0)] zr26 rfl hX11.pins (fun b14 w15 hk16 hb17 hp18 hl19 => ?_))
 have hX20 := hX11.step hp18 hl19
 have hlo21 : w.heap.size ≤ b14 := by have := hX11.size; omega
 refine qe (s_then (s_seq (c_reg ?_)))
 refine qd rfl rfl rfl (r_build [(.slice none 0 0)] [(.slice none 0 0)] [] Tryd.underlying26 zr26 rfl pl26 rfl (fun _ h => by cases h) rfl) (q1 rfl rfl rfl (o_alloc [(.slice none 0 0)] zr26 rfl hX20.pins (fun b22 w23 hk24 hb25 hp26 hl27 => ?_)))
 have hX28 := hX20.step hp26 hl27
 have hb29 := hb17.below hl27
 have ha30 : Apart (some b22) (some b14) := new_ne_box (congrArg some hk24) hb17.lt
 have hlo31 : w.heap.size ≤ b22 := by have := hX20.size; omega
 refine q0 rfl rfl rfl (o_stp (cs' := [(.slice none 0 0)]) (us := [(.slice none 0 0)]) (v := (.agg [(.slice none 0 0)].toArray)) sz26 rfl rfl rfl (ones1 (by rfl)) hX28.pins hb25 (Nat.le_of_ble_eq_true rfl) rfl (fun w32 hb33 hp34 hg35 hz36 => ?_))
 have hX37 := hX28.write hp34 hg35 ((lo_box hlo31))
 have hb38 := hb29.keptA hg35 ha30.symm
 refine qe (s_then (s_seq (s_seq (c_reg ?_))))
 refine qd rfl rfl rfl (r_fldp (k := 0) rfl Tryd.underlying26 rfl nz24 rfl) (qd rfl rfl rfl (r_ldp1 (u := v) ag24 rfl (hX37.pins _ _ _ (hbp12 0 _ rfl))) (qd rfl rfl rfl (run_len Tryd.underlying24 (v := v) rfl hv) (qd rfl rfl rfl (r_move (v := (.int .i64 0)) rfl) (qe (s_then ?_)))))
 refine s_blk (s_loop (fun (k : Nat) (en : Nat → Value) (W : World) => ∃ (env1 : Nat → Value) (j : Nat) (ov : Value) (os : List ByteArray) (GL1 : Pin), en = (upd (upd (upd (upd (upd (upd (upd (upd env1 1 (.int .i64 (r : Int))) 2 (.int .i64 (c : Int))) 3 (.bool true)) 8 (.pointer (some ⟨b14, 0, none⟩))) 9 (.pointer (some ⟨b22, 0, none⟩))) 15 v) 16 (.int .i64 (rows.length : Int))) 17 (.int .i64 (j : Int))) ∧ k = rows.length - j ∧ Ext noS G w GL1 W ∧ Pin.le G9 GL1 ∧ (j ≤ rows.length) ∧ (os = (List.range j).map (plRow rows r c true)) ∧ (os.length = j) ∧ (Own eStr 9 GL1 W w.heap.size ov (os)) ∧ (Bx GL1 W b14 [(.slice none 0 0)]) ∧ (Bx GL1 W b22 [ov]) ∧ (Apart ov.ownBlock (some b14)) ∧ (Apart ov.ownBlock (some b22))) _ ⟨_, 0, (.slice none 0 0), [], G9, (packS (x := 17) (packS (x := 16) (packS (x := 15) (packS (x := 9) (packS (x := 8) (packS (x := 3) (packS (x := 2) (pack1 (x := 1) rfl) rfl) rfl) rfl) rfl) rfl) rfl) rfl), rfl, hX37, Pin.le_refl _, Nat.zero_le _, rfl, rfl, (Own.nil _ _ _ _ _), hb38, hb33, apart_none, apart_none⟩ ?_)
 rintro k39 _ w40 ⟨env1, j, ov, os, GL1, rfl, hk41, hX42, hlek39, hj, hos, hol, hw43, hw44, hw45, ha46, ha47⟩
 refine s_seq (c_reg ?_)
 refine qd rfl rfl rfl (r_lss rfl rfl) (qe (s_then (s_seq ?_)))
 refine c_ifd (p := ((j : Int) : Int) < (rows.length : Int)) rfl rfl (fun h48 => ?_) (fun h48 => ?_)
 have hrj := geq j (by omega)
 refine wp_skip (s_then (s_seq ?_))
 refine s_blk (s_seq (c_reg ?_))
 refine qd rfl rfl rfl (r_move (v := (.int .i64 (j : Int))) rfl) (qd rfl rfl rfl (run_idx Tryd.underlying24 sz9 (v := v) rfl rfl hv (by omega) (by omega)) (qd rfl rfl rfl (run_load_str (r := rows.getD j ByteArray.empty) rfl ag9 (z := (j : Int)) rfl hv (Pins.of_le hX42.pins (Pin.le_trans hle10 hlek39)) (by omega) (by omega)) (qd rfl rfl rfl (r_assign (v := (.int .i64 (j : Int))) rfl) (qd rfl rfl rfl (r_assign (v := (.string (rows.getD j ByteArray.empty))) rfl) (qe (s_then (s_seq (c_reg ?_))))))))
 refine qd rfl rfl rfl (r_move (v := (.string (rows.getD j ByteArray.empty))) rfl) (q1 rfl rfl rfl (o_s2b (e := 5) Tryd.underlying9 Tryd.underlying22 Tryd.underlying5 rfl hX42.pins (by omega) (fun u49 w50 ho51 hp52 hl53 hk54 => ?_)))
 have hX55 := hX42.step hp52 hl53
 have ho56 := hw43.below hl53
 have hb57 := hw44.below hl53
 have hb58 := hw45.below hl53
 have ha59 : Apart u49.ownBlock ov.ownBlock := new_ne_own hk54 hw43.lt
 have ha60 : Apart u49.ownBlock (some b14) := new_ne_box hk54 hw44.lt
 have ha61 : Apart u49.ownBlock (some b22) := new_ne_box hk54 hw45.lt
 have ho62 : OwnM 5 GL1 w50 w.heap.size u49 ((rows.getD j ByteArray.empty).data.toList) := ho51.weaken hX42.size
 have hm63 : (rows.getD j ByteArray.empty).data.toList.length = (rows.getD j ByteArray.empty).size := rfl
 refine qd rfl rfl rfl (r_assign (v := u49) rfl) (qe (s_then (s_seq (s_seq (c_reg ?_)))))
 refine qd rfl rfl rfl (r_move (v := (.int .i64 (j : Int))) rfl) (qd rfl rfl rfl (r_move (v := (.int .i64 (r : Int))) rfl) (qd rfl rfl rfl (r_eql rfl rfl) (qe (s_then ?_))))
 refine c_ifd (p := ((j : Int) : Int) = (r : Int)) rfl rfl (fun h64 => ?_) (fun h64 => ?_)
 refine s_seq (c_reg ?_)
 refine qd rfl rfl rfl (r_move (v := u49) rfl) (qd rfl rfl rfl (r_move (v := (.int .i64 (c : Int))) rfl) (qd rfl rfl rfl (run_idx Tryd.underlying22 sz5 (v := u49) rfl rfl ho62.read (by omega) (by omega)) (q0 rfl rfl rfl (o_setM (v := u49) (z := (c : Int)) (35) sz5 rfl (by exact rfl) hX55.pins ho62 (by omega) (by omega) (fun w65 ho66 hp67 hg68 hz69 => ?_)))))
 have hX70 := hX55.write hp67 hg68 ((lo_ownM ho62))
 have ho71 := ho56.keptA hg68 ha59.symm
 have hb72 := hb57.keptA hg68 ha60.symm
 have hb73 := hb58.keptA hg68 ha61.symm
 have ho74 : OwnM 5 GL1 w65 w.heap.size u49 (((rows.getD j ByteArray.empty).data.toList).set c 35) := ho66
 have hm75 : (((rows.getD j ByteArray.empty).data.toList).set c 35).length = ((rows.getD j ByteArray.empty).data.toList).length := List.length_set ..
 refine qe (s_then (s_seq (c_reg ?_)))
 refine qd rfl rfl rfl (r_move (v := (.bool true)) rfl) (qd rfl rfl rfl (r_not rfl) (qe (s_then ?_)))
 refine c_ifF rfl rfl (wp_skip (s_then (s_seq (s_seq (c_reg ?_)))))
 refine qd rfl rfl rfl (r_move (v := (.bool true)) rfl) (qd rfl rfl rfl (r_move (v := (.bool true)) rfl) (qdg rfl rfl rfl rfl rfl rfl (r_move (v := (.int .i64 (j : Int))) rfl) (qdg rfl rfl rfl rfl rfl rfl (r_move (v := (.int .i64 (r : Int))) rfl) (qdg rfl rfl rfl rfl rfl rfl (r_add rfl rfl (by omega)) (qdg rfl rfl rfl rfl rfl rfl (r_eql rfl rfl) (qd rfl rfl rfl (r_pickT (v := (.bool (decide (((j : Int) : Int) = ((r : Int) + 1))))) rfl rfl) (qe (s_then ?_))))))))
 refine c_ifd (p := ((j : Int) : Int) = ((r : Int) + 1)) rfl rfl (fun h76 => ?_) (fun h76 => ?_)
 refine c_reg (qd rfl rfl rfl (r_move (v := u49) rfl) (qd rfl rfl rfl (r_move (v := (.int .i64 (c : Int))) rfl) (qd rfl rfl rfl (run_idx Tryd.underlying22 sz5 (v := u49) rfl rfl ho74.read (by omega) (by omega)) (q0 rfl rfl rfl (o_setM (v := u49) (z := (c : Int)) (35) sz5 rfl (by exact rfl) hX70.pins ho74 (by omega) (by omega) (fun w77 ho78 hp79 hg80 hz81 => ?_))))))
 have hX82 := hX70.write hp79 hg80 ((lo_ownM ho74))
 have ho83 := ho71.keptA hg80 ha59.symm
 have hb84 := hb72.keptA hg80 ha60.symm
 have hb85 := hb73.keptA hg80 ha61.symm
 have ho86 : OwnM 5 GL1 w77 w.heap.size u49 ((((rows.getD j ByteArray.empty).data.toList).set c 35).set c 35) := ho78
 have hm87 : ((((rows.getD j ByteArray.empty).data.toList).set c 35).set c 35).length = (((rows.getD j ByteArray.empty).data.toList).set c 35).length := List.length_set ..
 refine qe (s_then (c_reg ?_))
 refine qd rfl rfl rfl (r_fldp (k := 0) rfl Tryd.underlying26 rfl nz24 rfl) (qd rfl rfl rfl (r_ldp1 (u := ov) ag24 rfl (hb85.cell (o := 0) rfl)) (qd rfl rfl rfl (r_move (v := u49) rfl) (qd rfl rfl rfl (r_b2s Tryd.underlying22 Tryd.underlying5 Tryd.underlying9 rfl ho86.read (Gadd.pins hX82.pins u49)) (q1 rfl rfl rfl (o_buildF (E := eStr) (e := 9) [(.string (b2s ((((rows.getD j ByteArray.empty).data.toList).set c 35).set c 35)))] [b2s ((((rows.getD j ByteArray.empty).data.toList).set c 35).set c 35)] Tryd.underlying24 sz9 zr9 (by exact reps1 (by rfl)) (ones1 (by rfl)) rfl rfl rfl rfl (by decide) hX82.pins (fun u88 w89 ho90 hp91 hl92 hk93 => ?_))))))
 have hX94 := hX82.step hp91 hl92
 have ho95 := ho83.below hl92
 have hb97 := hb84.below hl92
 have hb98 := hb85.below hl92
 have ho103 : Own eStr 9 GL1 w89 w.heap.size u88 ([b2s ((((rows.getD j ByteArray.empty).data.toList).set c 35).set c 35)]) := ho90.weaken hX82.size
 refine q1 rfl rfl rfl (o_append (E := eStr) (v := ov) (u := u88) 16 Tryd.underlying24 ap9 (by decide) rfl rfl hX94.pins ho95 ho103.src (by first | omega | (rw [List.nil_append]; omega) | (rw [List.length_nil]; omega) | (rw [List.length_append]; omega) | (simp; done) | (simp; omega) | (simp only [List.length_append, List.length_cons, List.length_nil]; omega)) (by first | omega | (rw [List.nil_append]; omega) | (rw [List.length_nil]; omega) | (rw [List.length_append]; omega) | (simp; done) | (simp; omega) | (simp only [List.length_append, List.length_cons, List.length_nil]; omega)) (hX94.size) (fun u104 w105 ho106 hp107 hg108 hw109 => ?_))
 have hX110 := hX94.write hp107 hg108 ((lo_own ho95))
 have hb113 := hb97.keptA hg108 ha46.symm
 have hb114 := hb98.keptA hg108 ha47.symm
 have ha117 : Apart (some b14) u104.ownBlock := app_ne_box ha46.symm hw109 hb97.lt
 have ha118 : Apart (some b22) u104.ownBlock := app_ne_box ha47.symm hw109 hb98.lt
 have hm119 : (os ++ ([b2s ((((rows.getD j ByteArray.empty).data.toList).set c 35).set c 35)])).length = os.length + 1 := List.length_append
 refine qd rfl rfl rfl (r_fldp (k := 0) rfl Tryd.underlying26 rfl nz24 rfl) (q0 rfl rfl rfl (o_stp (cs' := [u104]) (us := [u104]) (v := u104) sz24 rfl rfl (cells1 ho106.one) (ones1 ho106.one) hX110.pins hb114 (Nat.le_of_ble_eq_true rfl) rfl (fun w120 hb121 hp122 hg123 hz124 => ?_)))
 have hX125 := hX110.write hp122 hg123 ((lo_box hlo31))
 have ho127 := ho106.keptA hg123 ha118.symm
 have hb128 := hb113.keptA hg123 ha30.symm
 refine qe (s_blkN (s_then (c_reg ?_)))
 refine qd rfl rfl rfl (r_add rfl rfl (by omega)) (qd rfl rfl rfl (r_move (v := (.int .i64 ((j : Int) + 1))) rfl) (qe (s_lopN (⟨_, ?_, _, rfl, _, j + 1, u104, os ++ ([b2s ((((rows.getD j ByteArray.empty).data.toList).set c 35).set c 35)]), GL1, (packS (x := 17) (packS (x := 16) (packS (x := 15) (packS (x := 9) (packS (x := 8) (packS (x := 3) (packS (x := 2) (pack1 (x := 1) rfl) rfl) rfl) rfl) rfl) rfl) rfl) rfl), rfl, hX125, hlek39, (by omega), (by rw [hos, List.range_succ, List.map_append]; congr 1; show [_] = [plRow rows r c true j]; unfold plRow; congr 1; congr 1; exact (by first | exact (pl_same (by omega) (by omega)).symm | exact (pl_same (by omega) (fun k => by cases k.1)).symm | exact (pl_t0 (by omega)).symm | exact (pl_t1 (by omega)).symm | exact (pl_f (by omega)).symm | (exfalso; omega))), (by simp [hol]), ho127, hb128, hb121, ha117.symm, ha118.symm⟩))))
 omega
 refine wp_skip (s_then (c_reg ?_))
 refine qd rfl rfl rfl (r_fldp (k := 0) rfl Tryd.underlying26 rfl nz24 rfl) (qd rfl rfl rfl (r_ldp1 (u := ov) ag24 rfl (hb73.cell (o := 0) rfl)) (qd rfl rfl rfl (r_move (v := u49) rfl) (qd rfl rfl rfl (r_b2s Tryd.underlying22 Tryd.underlying5 Tryd.underlying9 rfl ho74.read (Gadd.pins hX70.pins u49)) (q1 rfl rfl rfl (o_buildF (E := eStr) (e := 9) [(.string (b2s (((rows.getD j ByteArray.empty).data.toList).set c 35)))] [b2s (((rows.getD j ByteArray.empty).data.toList).set c 35)] Tryd.underlying24 sz9 zr9 (by exact reps1 (by rfl)) (ones1 (by rfl)) rfl rfl rfl rfl (by decide) hX70.pins (fun u129 w130 ho131 hp132 hl133 hk134 => ?_))))))
 have hX135 := hX70.step hp132 hl133
 have ho136 := ho71.below hl133
 have hb138 := hb72.below hl133
 have hb139 := hb73.below hl133
 have ho144 : Own eStr 9 GL1 w130 w.heap.size u129 ([b2s (((rows.getD j ByteArray.empty).data.toList).set c 35)]) := ho131.weaken hX70.size
 refine q1 rfl rfl rfl (o_append (E := eStr) (v := ov) (u := u129) 16 Tryd.underlying24 ap9 (by decide) rfl rfl hX135.pins ho136 ho144.src (by first | omega | (rw [List.nil_append]; omega) | (rw [List.length_nil]; omega) | (rw [List.length_append]; omega) | (simp; done) | (simp; omega) | (simp only [List.length_append, List.length_cons, List.length_nil]; omega)) (by first | omega | (rw [List.nil_append]; omega) | (rw [List.length_nil]; omega) | (rw [List.length_append]; omega) | (simp; done) | (simp; omega) | (simp only [List.length_append, List.length_cons, List.length_nil]; omega)) (hX135.size) (fun u145 w146 ho147 hp148 hg149 hw150 => ?_))
 have hX151 := hX135.write hp148 hg149 ((lo_own ho136))
 have hb154 := hb138.keptA hg149 ha46.symm
 have hb155 := hb139.keptA hg149 ha47.symm
 have ha158 : Apart (some b14) u145.ownBlock := app_ne_box ha46.symm hw150 hb138.lt
 have ha159 : Apart (some b22) u145.ownBlock := app_ne_box ha47.symm hw150 hb139.lt
 have hm160 : (os ++ ([b2s (((rows.getD j ByteArray.empty).data.toList).set c 35)])).length = os.length + 1 := List.length_append
 refine qd rfl rfl rfl (r_fldp (k := 0) rfl Tryd.underlying26 rfl nz24 rfl) (q0 rfl rfl rfl (o_stp (cs' := [u145]) (us := [u145]) (v := u145) sz24 rfl rfl (cells1 ho147.one) (ones1 ho147.one) hX151.pins hb155 (Nat.le_of_ble_eq_true rfl) rfl (fun w161 hb162 hp163 hg164 hz165 => ?_)))
 have hX166 := hX151.write hp163 hg164 ((lo_box hlo31))
 have ho168 := ho147.keptA hg164 ha159.symm
 have hb169 := hb154.keptA hg164 ha30.symm
 refine qe (s_blkN (s_then (c_reg ?_)))
 refine qd rfl rfl rfl (r_add rfl rfl (by omega)) (qd rfl rfl rfl (r_move (v := (.int .i64 ((j : Int) + 1))) rfl) (qe (s_lopN (⟨_, ?_, _, rfl, _, j + 1, u145, os ++ ([b2s (((rows.getD j ByteArray.empty).data.toList).set c 35)]), GL1, (packS (x := 17) (packS (x := 16) (packS (x := 15) (packS (x := 9) (packS (x := 8) (packS (x := 3) (packS (x := 2) (pack1 (x := 1) rfl) rfl) rfl) rfl) rfl) rfl) rfl) rfl), rfl, hX166, hlek39, (by omega), (by rw [hos, List.range_succ, List.map_append]; congr 1; show [_] = [plRow rows r c true j]; unfold plRow; congr 1; congr 1; exact (by first | exact (pl_same (by omega) (by omega)).symm | exact (pl_same (by omega) (fun k => by cases k.1)).symm | exact (pl_t0 (by omega)).symm | exact (pl_t1 (by omega)).symm | exact (pl_f (by omega)).symm | (exfalso; omega))), (by simp [hol]), ho168, hb169, hb162, ha158.symm, ha159.symm⟩))))
 omega
 refine wp_skip (s_then (s_seq (s_seq (c_reg ?_))))
 refine qd rfl rfl rfl (r_move (v := (.bool true)) rfl) (qd rfl rfl rfl (r_move (v := (.bool true)) rfl) (qdg rfl rfl rfl rfl rfl rfl (r_move (v := (.int .i64 (j : Int))) rfl) (qdg rfl rfl rfl rfl rfl rfl (r_move (v := (.int .i64 (r : Int))) rfl) (qdg rfl rfl rfl rfl rfl rfl (r_add rfl rfl (by omega)) (qdg rfl rfl rfl rfl rfl rfl (r_eql rfl rfl) (qd rfl rfl rfl (r_pickT (v := (.bool (decide (((j : Int) : Int) = ((r : Int) + 1))))) rfl rfl) (qe (s_then ?_))))))))
 refine c_ifd (p := ((j : Int) : Int) = ((r : Int) + 1)) rfl rfl (fun h170 => ?_) (fun h170 => ?_)
 refine c_reg (qd rfl rfl rfl (r_move (v := u49) rfl) (qd rfl rfl rfl (r_move (v := (.int .i64 (c : Int))) rfl) (qd rfl rfl rfl (run_idx Tryd.underlying22 sz5 (v := u49) rfl rfl ho62.read (by omega) (by omega)) (q0 rfl rfl rfl (o_setM (v := u49) (z := (c : Int)) (35) sz5 rfl (by exact rfl) hX55.pins ho62 (by omega) (by omega) (fun w171 ho172 hp173 hg174 hz175 => ?_))))))
 have hX176 := hX55.write hp173 hg174 ((lo_ownM ho62))
 have ho177 := ho56.keptA hg174 ha59.symm
 have hb178 := hb57.keptA hg174 ha60.symm
 have hb179 := hb58.keptA hg174 ha61.symm
 have ho180 : OwnM 5 GL1 w171 w.heap.size u49 (((rows.getD j ByteArray.empty).data.toList).set c 35) := ho172
 have hm181 : (((rows.getD j ByteArray.empty).data.toList).set c 35).length = ((rows.getD j ByteArray.empty).data.toList).length := List.length_set ..
 refine qe (s_then (c_reg ?_))
 refine qd rfl rfl rfl (r_fldp (k := 0) rfl Tryd.underlying26 rfl nz24 rfl) (qd rfl rfl rfl (r_ldp1 (u := ov) ag24 rfl (hb179.cell (o := 0) rfl)) (qd rfl rfl rfl (r_move (v := u49) rfl) (qd rfl rfl rfl (r_b2s Tryd.underlying22 Tryd.underlying5 Tryd.underlying9 rfl ho180.read (Gadd.pins hX176.pins u49)) (q1 rfl rfl rfl (o_buildF (E := eStr) (e := 9) [(.string (b2s (((rows.getD j ByteArray.empty).data.toList).set c 35)))] [b2s (((rows.getD j ByteArray.empty).data.toList).set c 35)] Tryd.underlying24 sz9 zr9 (by exact reps1 (by rfl)) (ones1 (by rfl)) rfl rfl rfl rfl (by decide) hX176.pins (fun u182 w183 ho184 hp185 hl186 hk187 => ?_))))))
 have hX188 := hX176.step hp185 hl186
 have ho189 := ho177.below hl186
 have hb191 := hb178.below hl186
 have hb192 := hb179.below hl186
 have ho197 : Own eStr 9 GL1 w183 w.heap.size u182 ([b2s (((rows.getD j ByteArray.empty).data.toList).set c 35)]) := ho184.weaken hX176.size
 refine q1 rfl rfl rfl (o_append (E := eStr) (v := ov) (u := u182) 16 Tryd.underlying24 ap9 (by decide) rfl rfl hX188.pins ho189 ho197.src (by first | omega | (rw [List.nil_append]; omega) | (rw [List.length_nil]; omega) | (rw [List.length_append]; omega) | (simp; done) | (simp; omega) | (simp only [List.length_append, List.length_cons, List.length_nil]; omega)) (by first | omega | (rw [List.nil_append]; omega) | (rw [List.length_nil]; omega) | (rw [List.length_append]; omega) | (simp; done) | (simp; omega) | (simp only [List.length_append, List.length_cons, List.length_nil]; omega)) (hX188.size) (fun u198 w199 ho200 hp201 hg202 hw203 => ?_))
 have hX204 := hX188.write hp201 hg202 ((lo_own ho189))
 have hb207 := hb191.keptA hg202 ha46.symm
 have hb208 := hb192.keptA hg202 ha47.symm
 have ha211 : Apart (some b14) u198.ownBlock := app_ne_box ha46.symm hw203 hb191.lt
 have ha212 : Apart (some b22) u198.ownBlock := app_ne_box ha47.symm hw203 hb192.lt
 have hm213 : (os ++ ([b2s (((rows.getD j ByteArray.empty).data.toList).set c 35)])).length = os.length + 1 := List.length_append
 refine qd rfl rfl rfl (r_fldp (k := 0) rfl Tryd.underlying26 rfl nz24 rfl) (q0 rfl rfl rfl (o_stp (cs' := [u198]) (us := [u198]) (v := u198) sz24 rfl rfl (cells1 ho200.one) (ones1 ho200.one) hX204.pins hb208 (Nat.le_of_ble_eq_true rfl) rfl (fun w214 hb215 hp216 hg217 hz218 => ?_)))
 have hX219 := hX204.write hp216 hg217 ((lo_box hlo31))
 have ho221 := ho200.keptA hg217 ha212.symm
 have hb222 := hb207.keptA hg217 ha30.symm
 refine qe (s_blkN (s_then (c_reg ?_)))
 refine qd rfl rfl rfl (r_add rfl rfl (by omega)) (qd rfl rfl rfl (r_move (v := (.int .i64 ((j : Int) + 1))) rfl) (qe (s_lopN (⟨_, ?_, _, rfl, _, j + 1, u198, os ++ ([b2s (((rows.getD j ByteArray.empty).data.toList).set c 35)]), GL1, (packS (x := 17) (packS (x := 16) (packS (x := 15) (packS (x := 9) (packS (x := 8) (packS (x := 3) (packS (x := 2) (pack1 (x := 1) rfl) rfl) rfl) rfl) rfl) rfl) rfl) rfl), rfl, hX219, hlek39, (by omega), (by rw [hos, List.range_succ, List.map_append]; congr 1; show [_] = [plRow rows r c true j]; unfold plRow; congr 1; congr 1; exact (by first | exact (pl_same (by omega) (by omega)).symm | exact (pl_same (by omega) (fun k => by cases k.1)).symm | exact (pl_t0 (by omega)).symm | exact (pl_t1 (by omega)).symm | exact (pl_f (by omega)).symm | (exfalso; omega))), (by simp [hol]), ho221, hb222, hb215, ha211.symm, ha212.symm⟩))))
 omega
 refine wp_skip (s_then (c_reg ?_))
 refine qd rfl rfl rfl (r_fldp (k := 0) rfl Tryd.underlying26 rfl nz24 rfl) (qd rfl rfl rfl (r_ldp1 (u := ov) ag24 rfl (hb58.cell (o := 0) rfl)) (qd rfl rfl rfl (r_move (v := u49) rfl) (qd rfl rfl rfl (r_b2s Tryd.underlying22 Tryd.underlying5 Tryd.underlying9 rfl ho62.read (Gadd.pins hX55.pins u49)) (q1 rfl rfl rfl (o_buildF (E := eStr) (e := 9) [(.string (b2s ((rows.getD j ByteArray.empty).data.toList)))] [b2s ((rows.getD j ByteArray.empty).data.toList)] Tryd.underlying24 sz9 zr9 (by exact reps1 (by rfl)) (ones1 (by rfl)) rfl rfl rfl rfl (by decide) hX55.pins (fun u223 w224 ho225 hp226 hl227 hk228 => ?_))))))
 have hX229 := hX55.step hp226 hl227
 have ho230 := ho56.below hl227
 have hb232 := hb57.below hl227
 have hb233 := hb58.below hl227
 have ho238 : Own eStr 9 GL1 w224 w.heap.size u223 ([b2s ((rows.getD j ByteArray.empty).data.toList)]) := ho225.weaken hX55.size
 refine q1 rfl rfl rfl (o_append (E := eStr) (v := ov) (u := u223) 16 Tryd.underlying24 ap9 (by decide) rfl rfl hX229.pins ho230 ho238.src (by first | omega | (rw [List.nil_append]; omega) | (rw [List.length_nil]; omega) | (rw [List.length_append]; omega) | (simp; done) | (simp; omega) | (simp only [List.length_append, List.length_cons, List.length_nil]; omega)) (by first | omega | (rw [List.nil_append]; omega) | (rw [List.length_nil]; omega) | (rw [List.length_append]; omega) | (simp; done) | (simp; omega) | (simp only [List.length_append, List.length_cons, List.length_nil]; omega)) (hX229.size) (fun u239 w240 ho241 hp242 hg243 hw244 => ?_))
 have hX245 := hX229.write hp242 hg243 ((lo_own ho230))
 have hb248 := hb232.keptA hg243 ha46.symm
 have hb249 := hb233.keptA hg243 ha47.symm
 have ha252 : Apart (some b14) u239.ownBlock := app_ne_box ha46.symm hw244 hb232.lt
 have ha253 : Apart (some b22) u239.ownBlock := app_ne_box ha47.symm hw244 hb233.lt
 have hm254 : (os ++ ([b2s ((rows.getD j ByteArray.empty).data.toList)])).length = os.length + 1 := List.length_append
 refine qd rfl rfl rfl (r_fldp (k := 0) rfl Tryd.underlying26 rfl nz24 rfl) (q0 rfl rfl rfl (o_stp (cs' := [u239]) (us := [u239]) (v := u239) sz24 rfl rfl (cells1 ho241.one) (ones1 ho241.one) hX245.pins hb249 (Nat.le_of_ble_eq_true rfl) rfl (fun w255 hb256 hp257 hg258 hz259 => ?_)))
 have hX260 := hX245.write hp257 hg258 ((lo_box hlo31))
 have ho262 := ho241.keptA hg258 ha253.symm
 have hb263 := hb248.keptA hg258 ha30.symm
 refine qe (s_blkN (s_then (c_reg ?_)))
 refine qd rfl rfl rfl (r_add rfl rfl (by omega)) (qd rfl rfl rfl (r_move (v := (.int .i64 ((j : Int) + 1))) rfl) (qe (s_lopN (⟨_, ?_, _, rfl, _, j + 1, u239, os ++ ([b2s ((rows.getD j ByteArray.empty).data.toList)]), GL1, (packS (x := 17) (packS (x := 16) (packS (x := 15) (packS (x := 9) (packS (x := 8) (packS (x := 3) (packS (x := 2) (pack1 (x := 1) rfl) rfl) rfl) rfl) rfl) rfl) rfl) rfl), rfl, hX260, hlek39, (by omega), (by rw [hos, List.range_succ, List.map_append]; congr 1; show [_] = [plRow rows r c true j]; unfold plRow; congr 1; congr 1; exact (by first | exact (pl_same (by omega) (by omega)).symm | exact (pl_same (by omega) (fun k => by cases k.1)).symm | exact (pl_t0 (by omega)).symm | exact (pl_t1 (by omega)).symm | exact (pl_f (by omega)).symm | (exfalso; omega))), (by simp [hol]), ho262, hb263, hb256, ha252.symm, ha253.symm⟩))))
 omega
 refine wp_exit (s_thenE (s_lopE (s_blkE (s_then (s_seq (c_reg ?_))))))
 refine qd rfl rfl rfl (r_ldpA (cs := [ov]) ag26 sz26 rfl (fun j u hj => hw45.cell (by simpa using hj))) (q0 rfl rfl rfl (o_stp (cs' := [ov]) (us := [ov]) (v := (.agg [ov].toArray)) sz26 rfl rfl rfl (ones1 hw43.one) hX42.pins hw44 (Nat.le_of_ble_eq_true rfl) rfl (fun w264 hb265 hp266 hg267 hz268 => ?_)))
 have hX269 := hX42.write hp266 hg267 ((lo_box hlo21))
 have ho270 := hw43.keptA hg267 ha46
 refine qe (s_then ?_)
 refine wp_ret (s_ret (c_retc (cs := [ov]) rfl rfl rfl ag26 sz26 (fun j u hj => by rw [Nat.zero_add]; exact hb265.cell hj) ?_))
 obtain ⟨G272, hle275, hX274, hr273, hf276⟩ := ho270.sealed hX269
 have hjn : j = rows.length := by omega
 subst hjn
 exact ⟨_, _, rfl, (by have e : placedM rows r c true = os := hos.symm; rw [e]; exact hr273), hX274⟩

theorem placed_false {w : World} {G : Pin} {v : Value} {rows : List ByteArray} (hP : Pins G w) (hv : RSl eStr G v rows) {r c : Nat} (g : GbP rows) (hrc : r + dR false < rows.length ∧ c + dC false < wdS rows) :
  Calls Tryd.prog 23 [(.agg [v].toArray), (.int .i64 (r : Int)), (.int .i64 (c : Int)), (.bool false)].toArray w fun e w' => ∃ (u : Value) (G' : Pin), e = .returned (.agg [u].toArray) ∧ RSl eStr G' u (placedM rows r c false) ∧ Ext noS G w G' w' := by
 refine s_enter (n := 55) Tryd.func23 Tryd.ntmps23 rfl rfl ?_
 have hX0 : Ext noS G w G w := Ext.refl hP
 have hm := hv.max
 have ghi := g.hi
 have gwd : 1 ≤ (rows.getD 0 ByteArray.empty).size ∧ (rows.getD 0 ByteArray.empty).size ≤ 8 := g.wd
 have geq : ∀ i, i < rows.length → (rows.getD i ByteArray.empty).size = (rows.getD 0 ByteArray.empty).size := g.eq
 have hr1 : r + 0 < rows.length := hrc.1
 have hc1 : c + 1 < (rows.getD 0 ByteArray.empty).size := hrc.2
 refine s_seq (c_reg ?_)
 refine q1 rfl rfl rfl (o_box [v] (v := (.agg [v].toArray)) rfl rfl hX0.pins (fun b1 w2 hk3 hb4 hp5 hl6 => ?_))
 have hX7 := hX0.step hp5 hl6
 have hlo8 : w.heap.size ≤ b1 := by have := hX0.size; omega
 obtain ⟨G9, hle10, hX11, hbp12, hf13⟩ := hb4.shut hX7 hlo8
 refine q1 rfl rfl rfl (o_alloc [(.slice none 0 0)] zr26 rfl hX11.pins (fun b14 w15 hk16 hb17 hp18 hl19 => ?_))
 have hX20 := hX11.step hp18 hl19
 have hlo21 : w.heap.size ≤ b14 := by have := hX11.size; omega
 refine qe (s_then (s_seq (c_reg ?_)))
 refine qd rfl rfl rfl (r_build [(.slice none 0 0)] [(.slice none 0 0)] [] Tryd.underlying26 zr26 rfl pl26 rfl (fun _ h => by cases h) rfl) (q1 rfl rfl rfl (o_alloc [(.slice none 0 0)] zr26 rfl hX20.pins (fun b22 w23 hk24 hb25 hp26 hl27 => ?_)))
 have hX28 := hX20.step hp26 hl27
 have hb29 := hb17.below hl27
 have ha30 : Apart (some b22) (some b14) := new_ne_box (congrArg some hk24) hb17.lt
 have hlo31 : w.heap.size ≤ b22 := by have := hX20.size; omega
 refine q0 rfl rfl rfl (o_stp (cs' := [(.slice none 0 0)]) (us := [(.slice none 0 0)]) (v := (.agg [(.slice none 0 0)].toArray)) sz26 rfl rfl rfl (ones1 (by rfl)) hX28.pins hb25 (Nat.le_of_ble_eq_true rfl) rfl (fun w32 hb33 hp34 hg35 hz36 => ?_))
 have hX37 := hX28.write hp34 hg35 ((lo_box hlo31))
 have hb38 := hb29.keptA hg35 ha30.symm
 refine qe (s_then (s_seq (s_seq (c_reg ?_))))
 refine qd rfl rfl rfl (r_fldp (k := 0) rfl Tryd.underlying26 rfl nz24 rfl) (qd rfl rfl rfl (r_ldp1 (u := v) ag24 rfl (hX37.pins _ _ _ (hbp12 0 _ rfl))) (qd rfl rfl rfl (run_len Tryd.underlying24 (v := v) rfl hv) (qd rfl rfl rfl (r_move (v := (.int .i64 0)) rfl) (qe (s_then ?_)))))
 refine s_blk (s_loop (fun (k : Nat) (en : Nat → Value) (W : World) => ∃ (env1 : Nat → Value) (j : Nat) (ov : Value) (os : List ByteArray) (GL1 : Pin), en = (upd (upd (upd (upd (upd (upd (upd (upd env1 1 (.int .i64 (r : Int))) 2 (.int .i64 (c : Int))) 3 (.bool false)) 8 (.pointer (some ⟨b14, 0, none⟩))) 9 (.pointer (some ⟨b22, 0, none⟩))) 15 v) 16 (.int .i64 (rows.length : Int))) 17 (.int .i64 (j : Int))) ∧ k = rows.length - j ∧ Ext noS G w GL1 W ∧ Pin.le G9 GL1 ∧ (j ≤ rows.length) ∧ (os = (List.range j).map (plRow rows r c false)) ∧ (os.length = j) ∧ (Own eStr 9 GL1 W w.heap.size ov (os)) ∧ (Bx GL1 W b14 [(.slice none 0 0)]) ∧ (Bx GL1 W b22 [ov]) ∧ (Apart ov.ownBlock (some b14)) ∧ (Apart ov.ownBlock (some b22))) _ ⟨_, 0, (.slice none 0 0), [], G9, (packS (x := 17) (packS (x := 16) (packS (x := 15) (packS (x := 9) (packS (x := 8) (packS (x := 3) (packS (x := 2) (pack1 (x := 1) rfl) rfl) rfl) rfl) rfl) rfl) rfl) rfl), rfl, hX37, Pin.le_refl _, Nat.zero_le _, rfl, rfl, (Own.nil _ _ _ _ _), hb38, hb33, apart_none, apart_none⟩ ?_)
 rintro k39 _ w40 ⟨env1, j, ov, os, GL1, rfl, hk41, hX42, hlek39, hj, hos, hol, hw43, hw44, hw45, ha46, ha47⟩
 refine s_seq (c_reg ?_)
 refine qd rfl rfl rfl (r_lss rfl rfl) (qe (s_then (s_seq ?_)))
 refine c_ifd (p := ((j : Int) : Int) < (rows.length : Int)) rfl rfl (fun h48 => ?_) (fun h48 => ?_)
 have hrj := geq j (by omega)
 refine wp_skip (s_then (s_seq ?_))
 refine s_blk (s_seq (c_reg ?_))
 refine qd rfl rfl rfl (r_move (v := (.int .i64 (j : Int))) rfl) (qd rfl rfl rfl (run_idx Tryd.underlying24 sz9 (v := v) rfl rfl hv (by omega) (by omega)) (qd rfl rfl rfl (run_load_str (r := rows.getD j ByteArray.empty) rfl ag9 (z := (j : Int)) rfl hv (Pins.of_le hX42.pins (Pin.le_trans hle10 hlek39)) (by omega) (by omega)) (qd rfl rfl rfl (r_assign (v := (.int .i64 (j : Int))) rfl) (qd rfl rfl rfl (r_assign (v := (.string (rows.getD j ByteArray.empty))) rfl) (qe (s_then (s_seq (c_reg ?_))))))))
 refine qd rfl rfl rfl (r_move (v := (.string (rows.getD j ByteArray.empty))) rfl) (q1 rfl rfl rfl (o_s2b (e := 5) Tryd.underlying9 Tryd.underlying22 Tryd.underlying5 rfl hX42.pins (by omega) (fun u49 w50 ho51 hp52 hl53 hk54 => ?_)))
 have hX55 := hX42.step hp52 hl53
 have ho56 := hw43.below hl53
 have hb57 := hw44.below hl53
 have hb58 := hw45.below hl53
 have ha59 : Apart u49.ownBlock ov.ownBlock := new_ne_own hk54 hw43.lt
 have ha60 : Apart u49.ownBlock (some b14) := new_ne_box hk54 hw44.lt
 have ha61 : Apart u49.ownBlock (some b22) := new_ne_box hk54 hw45.lt
 have ho62 : OwnM 5 GL1 w50 w.heap.size u49 ((rows.getD j ByteArray.empty).data.toList) := ho51.weaken hX42.size
 have hm63 : (rows.getD j ByteArray.empty).data.toList.length = (rows.getD j ByteArray.empty).size := rfl
 refine qd rfl rfl rfl (r_assign (v := u49) rfl) (qe (s_then (s_seq (s_seq (c_reg ?_)))))
 refine qd rfl rfl rfl (r_move (v := (.int .i64 (j : Int))) rfl) (qd rfl rfl rfl (r_move (v := (.int .i64 (r : Int))) rfl) (qd rfl rfl rfl (r_eql rfl rfl) (qe (s_then ?_))))
 refine c_ifd (p := ((j : Int) : Int) = (r : Int)) rfl rfl (fun h64 => ?_) (fun h64 => ?_)
 refine s_seq (c_reg ?_)
 refine qd rfl rfl rfl (r_move (v := u49) rfl) (qd rfl rfl rfl (r_move (v := (.int .i64 (c : Int))) rfl) (qd rfl rfl rfl (run_idx Tryd.underlying22 sz5 (v := u49) rfl rfl ho62.read (by omega) (by omega)) (q0 rfl rfl rfl (o_setM (v := u49) (z := (c : Int)) (35) sz5 rfl (by exact rfl) hX55.pins ho62 (by omega) (by omega) (fun w65 ho66 hp67 hg68 hz69 => ?_)))))
 have hX70 := hX55.write hp67 hg68 ((lo_ownM ho62))
 have ho71 := ho56.keptA hg68 ha59.symm
 have hb72 := hb57.keptA hg68 ha60.symm
 have hb73 := hb58.keptA hg68 ha61.symm
 have ho74 : OwnM 5 GL1 w65 w.heap.size u49 (((rows.getD j ByteArray.empty).data.toList).set c 35) := ho66
 have hm75 : (((rows.getD j ByteArray.empty).data.toList).set c 35).length = ((rows.getD j ByteArray.empty).data.toList).length := List.length_set ..
 refine qe (s_then (s_seq (c_reg ?_)))
 refine qd rfl rfl rfl (r_move (v := (.bool false)) rfl) (qd rfl rfl rfl (r_not rfl) (qe (s_then ?_)))
 refine c_ifT rfl rfl (c_reg (qd rfl rfl rfl (r_move (v := u49) rfl) (qd rfl rfl rfl (r_move (v := (.int .i64 (c : Int))) rfl) (qd rfl rfl rfl (r_add rfl rfl (by omega)) (qd rfl rfl rfl (run_idx Tryd.underlying22 sz5 (v := u49) rfl rfl ho74.read (by omega) (by omega)) (q0 rfl rfl rfl (o_setM (v := u49) (z := ((c : Int) + 1)) (35) sz5 rfl (by exact rfl) hX70.pins ho74 (by omega) (by omega) (fun w76 ho77 hp78 hg79 hz80 => ?_))))))))
 have hX81 := hX70.write hp78 hg79 ((lo_ownM ho74))
 have ho82 := ho71.keptA hg79 ha59.symm
 have hb83 := hb72.keptA hg79 ha60.symm
 have hb84 := hb73.keptA hg79 ha61.symm
 have ho85 : OwnM 5 GL1 w76 w.heap.size u49 ((((rows.getD j ByteArray.empty).data.toList).set c 35).set ((c : Int) + 1).toNat 35) := ho77
 have hm86 : ((((rows.getD j ByteArray.empty).data.toList).set c 35).set ((c : Int) + 1).toNat 35).length = (((rows.getD j ByteArray.empty).data.toList).set c 35).length := List.length_set ..
 refine qe (s_then (s_seq (s_seq (c_reg ?_))))
 refine qd rfl rfl rfl (r_move (v := (.bool false)) rfl) (qd rfl rfl rfl (r_move (v := (.bool false)) rfl) (qs rfl rfl rfl rfl rfl rfl (qs rfl rfl rfl rfl rfl rfl (qs rfl rfl rfl rfl rfl rfl (qs rfl rfl rfl rfl rfl rfl (qd rfl rfl rfl (r_pickF (v := (.bool false)) rfl rfl) (qe (s_then ?_))))))))
 refine c_ifF rfl rfl (wp_skip (s_then (c_reg ?_)))
 refine qd rfl rfl rfl (r_fldp (k := 0) rfl Tryd.underlying26 rfl nz24 rfl) (qd rfl rfl rfl (r_ldp1 (u := ov) ag24 rfl (hb84.cell (o := 0) rfl)) (qd rfl rfl rfl (r_move (v := u49) rfl) (qd rfl rfl rfl (r_b2s Tryd.underlying22 Tryd.underlying5 Tryd.underlying9 rfl ho85.read (Gadd.pins hX81.pins u49)) (q1 rfl rfl rfl (o_buildF (E := eStr) (e := 9) [(.string (b2s ((((rows.getD j ByteArray.empty).data.toList).set c 35).set ((c : Int) + 1).toNat 35)))] [b2s ((((rows.getD j ByteArray.empty).data.toList).set c 35).set ((c : Int) + 1).toNat 35)] Tryd.underlying24 sz9 zr9 (by exact reps1 (by rfl)) (ones1 (by rfl)) rfl rfl rfl rfl (by decide) hX81.pins (fun u87 w88 ho89 hp90 hl91 hk92 => ?_))))))
 have hX93 := hX81.step hp90 hl91
 have ho94 := ho82.below hl91
 have hb96 := hb83.below hl91
 have hb97 := hb84.below hl91
 have ho102 : Own eStr 9 GL1 w88 w.heap.size u87 ([b2s ((((rows.getD j ByteArray.empty).data.toList).set c 35).set ((c : Int) + 1).toNat 35)]) := ho89.weaken hX81.size
 refine q1 rfl rfl rfl (o_append (E := eStr) (v := ov) (u := u87) 16 Tryd.underlying24 ap9 (by decide) rfl rfl hX93.pins ho94 ho102.src (by first | omega | (rw [List.nil_append]; omega) | (rw [List.length_nil]; omega) | (rw [List.length_append]; omega) | (simp; done) | (simp; omega) | (simp only [List.length_append, List.length_cons, List.length_nil]; omega)) (by first | omega | (rw [List.nil_append]; omega) | (rw [List.length_nil]; omega) | (rw [List.length_append]; omega) | (simp; done) | (simp; omega) | (simp only [List.length_append, List.length_cons, List.length_nil]; omega)) (hX93.size) (fun u103 w104 ho105 hp106 hg107 hw108 => ?_))
 have hX109 := hX93.write hp106 hg107 ((lo_own ho94))
 have hb112 := hb96.keptA hg107 ha46.symm
 have hb113 := hb97.keptA hg107 ha47.symm
 have ha116 : Apart (some b14) u103.ownBlock := app_ne_box ha46.symm hw108 hb96.lt
 have ha117 : Apart (some b22) u103.ownBlock := app_ne_box ha47.symm hw108 hb97.lt
 have hm118 : (os ++ ([b2s ((((rows.getD j ByteArray.empty).data.toList).set c 35).set ((c : Int) + 1).toNat 35)])).length = os.length + 1 := List.length_append
 refine qd rfl rfl rfl (r_fldp (k := 0) rfl Tryd.underlying26 rfl nz24 rfl) (q0 rfl rfl rfl (o_stp (cs' := [u103]) (us := [u103]) (v := u103) sz24 rfl rfl (cells1 ho105.one) (ones1 ho105.one) hX109.pins hb113 (Nat.le_of_ble_eq_true rfl) rfl (fun w119 hb120 hp121 hg122 hz123 => ?_)))
 have hX124 := hX109.write hp121 hg122 ((lo_box hlo31))
 have ho126 := ho105.keptA hg122 ha117.symm
 have hb127 := hb112.keptA hg122 ha30.symm
 refine qe (s_blkN (s_then (c_reg ?_)))
 refine qd rfl rfl rfl (r_add rfl rfl (by omega)) (qd rfl rfl rfl (r_move (v := (.int .i64 ((j : Int) + 1))) rfl) (qe (s_lopN (⟨_, ?_, _, rfl, _, j + 1, u103, os ++ ([b2s ((((rows.getD j ByteArray.empty).data.toList).set c 35).set ((c : Int) + 1).toNat 35)]), GL1, (packS (x := 17) (packS (x := 16) (packS (x := 15) (packS (x := 9) (packS (x := 8) (packS (x := 3) (packS (x := 2) (pack1 (x := 1) rfl) rfl) rfl) rfl) rfl) rfl) rfl) rfl), rfl, hX124, hlek39, (by omega), (by rw [hos, List.range_succ, List.map_append]; congr 1; show [_] = [plRow rows r c false j]; unfold plRow; congr 1; congr 1; exact (by first | exact (pl_same (by omega) (by omega)).symm | exact (pl_same (by omega) (fun k => by cases k.1)).symm | exact (pl_t0 (by omega)).symm | exact (pl_t1 (by omega)).symm | exact (pl_f (by omega)).symm | (exfalso; omega))), (by simp [hol]), ho126, hb127, hb120, ha116.symm, ha117.symm⟩))))
 omega
 refine wp_skip (s_then (s_seq (s_seq (c_reg ?_))))
 refine qd rfl rfl rfl (r_move (v := (.bool false)) rfl) (qd rfl rfl rfl (r_move (v := (.bool false)) rfl) (qs rfl rfl rfl rfl rfl rfl (qs rfl rfl rfl rfl rfl rfl (qs rfl rfl rfl rfl rfl rfl (qs rfl rfl rfl rfl rfl rfl (qd rfl rfl rfl (r_pickF (v := (.bool false)) rfl rfl) (qe (s_then ?_))))))))
 refine c_ifF rfl rfl (wp_skip (s_then (c_reg ?_)))
 refine qd rfl rfl rfl (r_fldp (k := 0) rfl Tryd.underlying26 rfl nz24 rfl) (qd rfl rfl rfl (r_ldp1 (u := ov) ag24 rfl (hb58.cell (o := 0) rfl)) (qd rfl rfl rfl (r_move (v := u49) rfl) (qd rfl rfl rfl (r_b2s Tryd.underlying22 Tryd.underlying5 Tryd.underlying9 rfl ho62.read (Gadd.pins hX55.pins u49)) (q1 rfl rfl rfl (o_buildF (E := eStr) (e := 9) [(.string (b2s ((rows.getD j ByteArray.empty).data.toList)))] [b2s ((rows.getD j ByteArray.empty).data.toList)] Tryd.underlying24 sz9 zr9 (by exact reps1 (by rfl)) (ones1 (by rfl)) rfl rfl rfl rfl (by decide) hX55.pins (fun u128 w129 ho130 hp131 hl132 hk133 => ?_))))))
 have hX134 := hX55.step hp131 hl132
 have ho135 := ho56.below hl132
 have hb137 := hb57.below hl132
 have hb138 := hb58.below hl132
 have ho143 : Own eStr 9 GL1 w129 w.heap.size u128 ([b2s ((rows.getD j ByteArray.empty).data.toList)]) := ho130.weaken hX55.size
 refine q1 rfl rfl rfl (o_append (E := eStr) (v := ov) (u := u128) 16 Tryd.underlying24 ap9 (by decide) rfl rfl hX134.pins ho135 ho143.src (by first | omega | (rw [List.nil_append]; omega) | (rw [List.length_nil]; omega) | (rw [List.length_append]; omega) | (simp; done) | (simp; omega) | (simp only [List.length_append, List.length_cons, List.length_nil]; omega)) (by first | omega | (rw [List.nil_append]; omega) | (rw [List.length_nil]; omega) | (rw [List.length_append]; omega) | (simp; done) | (simp; omega) | (simp only [List.length_append, List.length_cons, List.length_nil]; omega)) (hX134.size) (fun u144 w145 ho146 hp147 hg148 hw149 => ?_))
 have hX150 := hX134.write hp147 hg148 ((lo_own ho135))
 have hb153 := hb137.keptA hg148 ha46.symm
 have hb154 := hb138.keptA hg148 ha47.symm
 have ha157 : Apart (some b14) u144.ownBlock := app_ne_box ha46.symm hw149 hb137.lt
 have ha158 : Apart (some b22) u144.ownBlock := app_ne_box ha47.symm hw149 hb138.lt
 have hm159 : (os ++ ([b2s ((rows.getD j ByteArray.empty).data.toList)])).length = os.length + 1 := List.length_append
 refine qd rfl rfl rfl (r_fldp (k := 0) rfl Tryd.underlying26 rfl nz24 rfl) (q0 rfl rfl rfl (o_stp (cs' := [u144]) (us := [u144]) (v := u144) sz24 rfl rfl (cells1 ho146.one) (ones1 ho146.one) hX150.pins hb154 (Nat.le_of_ble_eq_true rfl) rfl (fun w160 hb161 hp162 hg163 hz164 => ?_)))
 have hX165 := hX150.write hp162 hg163 ((lo_box hlo31))
 have ho167 := ho146.keptA hg163 ha158.symm
 have hb168 := hb153.keptA hg163 ha30.symm
 refine qe (s_blkN (s_then (c_reg ?_)))
 refine qd rfl rfl rfl (r_add rfl rfl (by omega)) (qd rfl rfl rfl (r_move (v := (.int .i64 ((j : Int) + 1))) rfl) (qe (s_lopN (⟨_, ?_, _, rfl, _, j + 1, u144, os ++ ([b2s ((rows.getD j ByteArray.empty).data.toList)]), GL1, (packS (x := 17) (packS (x := 16) (packS (x := 15) (packS (x := 9) (packS (x := 8) (packS (x := 3) (packS (x := 2) (pack1 (x := 1) rfl) rfl) rfl) rfl) rfl) rfl) rfl) rfl), rfl, hX165, hlek39, (by omega), (by rw [hos, List.range_succ, List.map_append]; congr 1; show [_] = [plRow rows r c false j]; unfold plRow; congr 1; congr 1; exact (by first | exact (pl_same (by omega) (by omega)).symm | exact (pl_same (by omega) (fun k => by cases k.1)).symm | exact (pl_t0 (by omega)).symm | exact (pl_t1 (by omega)).symm | exact (pl_f (by omega)).symm | (exfalso; omega))), (by simp [hol]), ho167, hb168, hb161, ha157.symm, ha158.symm⟩))))
 omega
 refine wp_exit (s_thenE (s_lopE (s_blkE (s_then (s_seq (c_reg ?_))))))
 refine qd rfl rfl rfl (r_ldpA (cs := [ov]) ag26 sz26 rfl (fun j u hj => hw45.cell (by simpa using hj))) (q0 rfl rfl rfl (o_stp (cs' := [ov]) (us := [ov]) (v := (.agg [ov].toArray)) sz26 rfl rfl rfl (ones1 hw43.one) hX42.pins hw44 (Nat.le_of_ble_eq_true rfl) rfl (fun w169 hb170 hp171 hg172 hz173 => ?_)))
 have hX174 := hX42.write hp171 hg172 ((lo_box hlo21))
 have ho175 := hw43.keptA hg172 ha46
 refine qe (s_then ?_)
 refine wp_ret (s_ret (c_retc (cs := [ov]) rfl rfl rfl ag26 sz26 (fun j u hj => by rw [Nat.zero_add]; exact hb170.cell hj) ?_))
 obtain ⟨G177, hle180, hX179, hr178, hf181⟩ := ho175.sealed hX174
 have hjn : j = rows.length := by omega
 subst hjn
 exact ⟨_, _, rfl, (by have e : placedM rows r c false = os := hos.symm; rw [e]; exact hr178), hX179⟩

end RM2
end Go.Proofs.YtajkbplgbikgdaaDoor

set_option maxRecDepth 20000
set_option maxHeartbeats 2000000
namespace Go.Proofs.YtajkbplgbikgdaaDoor
namespace RM3
open Go.RowKit Go.GL Go.Proofs
open RM1 RM2












theorem moves_true {w : World} {G : Pin} {v : Value} {rows : List ByteArray} (hP : Pins G w) (hv : RSl eStr G v rows) (g : GbP rows) :
  Calls Tryd.prog 13 [(.agg [v].toArray), (.bool true)].toArray w fun e w' => ∃ (u : Value) (G' : Pin), e = .returned u ∧ RSl (eSl eStr) G' u (dmM rows true) ∧ Ext noS G w G' w' := by
 refine s_enter (n := 59) Tryd.func13 Tryd.ntmps13 rfl rfl ?_
 have hX0 : Ext noS G w G w := Ext.refl hP
 have hm := hv.max
 have ghi := g.hi
 have gwd : 1 ≤ (rows.getD 0 ByteArray.empty).size ∧ (rows.getD 0 ByteArray.empty).size ≤ 8 := g.wd
 have geq : ∀ i, i < rows.length → (rows.getD i ByteArray.empty).size = (rows.getD 0 ByteArray.empty).size := g.eq
 refine s_seq (c_reg ?_)
 refine q1 rfl rfl rfl (o_box [v] (v := (.agg [v].toArray)) rfl rfl hX0.pins (fun b1 w2 hk3 hb4 hp5 hl6 => ?_))
 have hX7 := hX0.step hp5 hl6
 have hlo8 : w.heap.size ≤ b1 := by have := hX0.size; omega
 obtain ⟨G9, hle10, hX11, hbp12, hf13⟩ := hb4.shut hX7 hlo8
 refine qd rfl rfl rfl (r_assign (v := (.slice none 0 0)) rfl) (qe (s_then (s_seq (c_reg ?_))))
 refine q1 rfl rfl rfl (o_build0 (E := (eSl eStr)) (e := 26) Tryd.underlying29 sz26 hX11.pins (fun u14 w15 ho16 hp17 hl18 hk19 => ?_))
 have hX20 := hX11.step hp17 hl18
 have ho21 : Own (eSl eStr) 26 G9 w15 w.heap.size u14 ([]) := ho16.weaken hX11.size
 refine qd rfl rfl rfl (r_assign (v := u14) rfl) (qe (s_then (s_seq (s_seq (c_reg ?_)))))
 refine qd rfl rfl rfl (r_fldp (k := 0) rfl Tryd.underlying26 rfl nz24 rfl) (qd rfl rfl rfl (r_ldp1 (u := v) ag24 rfl (hX20.pins _ _ _ (hbp12 0 _ rfl))) (qd rfl rfl rfl (run_len Tryd.underlying24 (v := v) rfl hv) (qd rfl rfl rfl (r_move (v := (.int .i64 0)) rfl) (qe (s_then ?_)))))
 refine s_blk (s_loop (fun (k : Nat) (en : Nat → Value) (W : World) => ∃ (env1 : Nat → Value) (r : Nat) (ov : Value) (os : List (List ByteArray)) (GL1 : Pin), en = (upd (upd (upd (upd (upd (upd env1 1 (.bool true)) 2 (.pointer (some ⟨b1, 0, none⟩))) 4 (.slice none 0 0)) 5 ov) 11 (.int .i64 (rows.length : Int))) 12 (.int .i64 (r : Int))) ∧ k = rows.length - r ∧ Ext noS G w GL1 W ∧ Pin.le G9 GL1 ∧ (r ≤ rows.length) ∧ (os = dmAll rows true (fun r c => placedM rows r c true) r) ∧ (os.length ≤ 8 * r) ∧ (Own (eSl eStr) 26 GL1 W w.heap.size ov (os))) _ ⟨_, 0, u14, [], G9, (packS (x := 12) (packS (x := 11) (packS (x := 5) (packS (x := 4) (packS (x := 2) (pack1 (x := 1) rfl) rfl) rfl) rfl) rfl) rfl), rfl, hX20, Pin.le_refl _, Nat.zero_le _, rfl, (by simp), ho21⟩ ?_)
 rintro k22 _ w23 ⟨env1, r, ov, os, GL1, rfl, hk24, hX25, hlek22, hr, hos, hol, hw26⟩
 refine s_seq (c_reg ?_)
 refine qd rfl rfl rfl (r_lss rfl rfl) (qe (s_then (s_seq ?_)))
 refine c_ifd (p := ((r : Int) : Int) < (rows.length : Int)) rfl rfl (fun h27 => ?_) (fun h27 => ?_)
 have hrr := geq r (by omega)
 refine wp_skip (s_then (s_seq ?_))
 refine s_blk (s_seq (c_reg ?_))
 refine qd rfl rfl rfl (r_move (v := (.int .i64 (r : Int))) rfl) (qd rfl rfl rfl (r_assign (v := (.int .i64 (r : Int))) rfl) (qe (s_then (s_seq (c_reg ?_)))))
 refine qd rfl rfl rfl (r_fldp (k := 0) rfl Tryd.underlying26 rfl nz24 rfl) (qd rfl rfl rfl (r_ldp1 (u := v) ag24 rfl ((Pins.of_le hX25.pins hlek22) _ _ _ (hbp12 0 _ rfl))) (qd rfl rfl rfl (r_move (v := (.int .i64 (r : Int))) rfl) (qd rfl rfl rfl (run_idx Tryd.underlying24 sz9 (v := v) rfl rfl hv (by omega) (by omega)) (qd rfl rfl rfl (run_load_str (r := rows.getD r ByteArray.empty) rfl ag9 (z := (r : Int)) rfl hv (Pins.of_le hX25.pins (Pin.le_trans hle10 hlek22)) (by omega) (by omega)) (q1 rfl rfl rfl (o_range Tryd.underlying9 rfl hX25.pins (fun k28 w29 hk30 hit31 hp32 hl33 => ?_)))))))
 have hX34 := hX25.step hp32 hl33
 have ho35 := hw26.below hl33
 have hlo36 : w.heap.size ≤ k28 := by have := hX25.size; omega
 refine qe (s_then ?_)
 refine s_blk (s_loop (fun (k : Nat) (en : Nat → Value) (W : World) => ∃ (env1 : Nat → Value) (c : Nat) (ov2 : Value) (os2 : List (List ByteArray)) (GL2 : Pin), en = (upd (upd (upd (upd (upd (upd (upd (upd env1 1 (.bool true)) 2 (.pointer (some ⟨b1, 0, none⟩))) 4 (.slice none 0 0)) 5 ov2) 6 (.int .i64 (r : Int))) 11 (.int .i64 (rows.length : Int))) 12 (.int .i64 (r : Int))) 20 (.pointer (some ⟨k28, 0, none⟩))) ∧ k = (rows.getD r ByteArray.empty).size - c ∧ Ext noS G w GL2 W ∧ Pin.le GL1 GL2 ∧ (c ≤ (rows.getD r ByteArray.empty).size) ∧ (os2 = os ++ dmRow rows true (fun r c => placedM rows r c true) r c) ∧ (os2.length ≤ 8 * r + c) ∧ (Own (eSl eStr) 26 GL2 W w.heap.size ov2 (os2)) ∧ (It W k28 (rows.getD r ByteArray.empty) c)) _ ⟨_, 0, ov, os, GL1, (packS (x := 20) (packS (x := 12) (packS (x := 11) (packS (x := 6) (packS (x := 5) (packS (x := 4) (packS (x := 2) (pack1 (x := 1) rfl) rfl) rfl) rfl) rfl) rfl) rfl) rfl), rfl, hX34, Pin.le_refl _, Nat.zero_le _, (by simp [dmRow]), (by omega), ho35, hit31⟩ ?_)
 rintro k37 _ w38 ⟨env1, c, ov2, os2, GL2, rfl, hk39, hX40, hlek37, hc, hos2, hol2, hw41, hit42⟩
 refine s_seq (c_reg ?_)
 by_cases h43 : c < (rows.getD r ByteArray.empty).size
 refine q1 rfl rfl rfl (o_nextY rfl hit42 hX40.pins h43 (by have := g.ch r (by omega) c (by have := geq r (by omega); show c < (rows.getD 0 ByteArray.empty).size; omega); unfold rwS at this; omega) (fun w44 hit45 hp46 hg47 hz48 => ?_))
 have hX49 := hX40.write hp46 hg47 ((lo_box hlo36))
 have ho50 := hw41.keptA hg47 (hit42.ap_own hw41)
 refine qd rfl rfl rfl (r_extract (v := (.bool true)) rfl rfl) (qe (s_then (s_seq ?_)))
 refine c_ifT rfl rfl (wp_skip (s_then (s_blk (s_seq (c_reg ?_)))))
 refine qd rfl rfl rfl (r_extract (v := (.int .i64 (c : Int))) rfl rfl) (qd rfl rfl rfl (r_assign (v := (.int .i64 (c : Int))) rfl) (qe (s_then (s_seq (c_reg ?_)))))
 refine qd rfl rfl rfl (r_ldpA (cs := [v]) ag26 sz26 rfl (fun j u hj => (Pins.of_le hX49.pins (Pin.le_trans hlek22 hlek37)) _ _ _ (hbp12 _ _ (by simpa using hj)))) (qd rfl rfl rfl (r_move (v := (.int .i64 (r : Int))) rfl) (qd rfl rfl rfl (r_move (v := (.int .i64 (c : Int))) rfl) (q1 rfl rfl rfl (o_call (vs := [(.agg [v].toArray), (.int .i64 (r : Int)), (.int .i64 (c : Int))]) Tryd.func22 nm22 rfl rfl rfl ?_))))
 refine Calls.mono (free_spec (r := (r : Int)) (c := (c : Int)) hX49.pins (hv.mono (Pin.le_trans (Pin.le_trans hle10 hlek22) hlek37)) g) ?_
 rintro _ w52 ⟨G51, rfl, hx53⟩
 refine ⟨_, rfl, ?_⟩
 have hX54 := hX49.tr hx53
 have ho55 := ho50.ext hx53
 have hit56 := hit45.ext hx53
 refine qd rfl rfl rfl (r_move (v := (.bool (frI rows (r : Int) (c : Int)))) rfl) (qb (t := 28) rfl (fun h57 => ?_) (fun h57 => ?_))
 refine qdg rfl rfl rfl rfl rfl rfl (r_move (v := (.bool true)) rfl) (qdg rfl rfl rfl rfl rfl rfl (r_move (v := (.bool true)) rfl) (qdg rfl rfl rfl rfl rfl rfl (r_ldpA (cs := [v]) ag26 sz26 rfl (fun j u hj => (Pins.of_le hX54.pins (Pin.le_trans (Pin.le_trans hlek22 hlek37) hx53.le)) _ _ _ (hbp12 _ _ (by simpa using hj)))) (qdg rfl rfl rfl rfl rfl rfl (r_move (v := (.int .i64 (r : Int))) rfl) (qdg rfl rfl rfl rfl rfl rfl (r_add rfl rfl (by omega)) (qdg rfl rfl rfl rfl rfl rfl (r_move (v := (.int .i64 (c : Int))) rfl) (q1g rfl rfl rfl rfl rfl rfl (o_call (vs := [(.agg [v].toArray), (.int .i64 ((r : Int) + 1)), (.int .i64 (c : Int))]) Tryd.func22 nm22 rfl rfl rfl ?_)))))))
 refine Calls.mono (free_spec (r := ((r : Int) + 1)) (c := (c : Int)) hX54.pins (hv.mono (Pin.le_trans (Pin.le_trans (Pin.le_trans hle10 hlek22) hlek37) hx53.le)) g) ?_
 rintro _ w59 ⟨G58, rfl, hx60⟩
 refine ⟨_, rfl, ?_⟩
 have hX61 := hX54.tr hx60
 have ho62 := ho55.ext hx60
 have hit63 := hit56.ext hx60
 refine qdg rfl rfl rfl rfl rfl rfl (r_pickT (v := (.bool (frI rows ((r : Int) + 1) (c : Int)))) rfl rfl) (qdg rfl rfl rfl rfl rfl rfl (r_move (v := (.bool (frI rows ((r : Int) + 1) (c : Int)))) rfl) (qb (t := 37) rfl (fun h64 => ?_) (fun h64 => ?_)))
 refine qs rfl rfl rfl rfl rfl rfl (qs rfl rfl rfl rfl rfl rfl (qs rfl rfl rfl rfl rfl rfl (qsu rfl rfl rfl rfl rfl (qsu rfl rfl rfl rfl rfl (qsu rfl rfl rfl rfl rfl (qsu rfl rfl rfl rfl rfl (qsu rfl rfl rfl rfl rfl (qs rfl rfl rfl rfl rfl rfl (qdg rfl rfl rfl rfl rfl rfl (r_pickT (v := (.bool true)) rfl rfl) (qd rfl rfl rfl (r_pickT (v := (.bool true)) rfl rfl) (qe (s_then ?_))))))))))))
 refine c_ifT rfl rfl (c_reg (qd rfl rfl rfl (r_move (v := ov2) rfl) (qd rfl rfl rfl (r_ldpA (cs := [v]) ag26 sz26 rfl (fun j u hj => (Pins.of_le hX61.pins (Pin.le_trans (Pin.le_trans (Pin.le_trans hlek22 hlek37) hx53.le) hx60.le)) _ _ _ (hbp12 _ _ (by simpa using hj)))) (qd rfl rfl rfl (r_move (v := (.int .i64 (r : Int))) rfl) (qd rfl rfl rfl (r_move (v := (.int .i64 (c : Int))) rfl) (qd rfl rfl rfl (r_move (v := (.bool true)) rfl) (q1 rfl rfl rfl (o_call (vs := [(.agg [v].toArray), (.int .i64 (r : Int)), (.int .i64 (c : Int)), (.bool true)]) Tryd.func23 nm23 rfl rfl rfl ?_))))))))
 refine Calls.mono (placed_true (r := r) (c := c) hX61.pins (hv.mono (Pin.le_trans (Pin.le_trans (Pin.le_trans (Pin.le_trans hle10 hlek22) hlek37) hx53.le) hx60.le)) g (dm_in g (dm_t h57 h64))) ?_
 rintro _ w67 ⟨u65, G66, rfl, hr68, hx69⟩
 refine ⟨_, rfl, ?_⟩
 have hX70 := hX61.tr hx69
 have ho71 := ho62.ext hx69
 have hit72 := hit63.ext hx69
 refine q1 rfl rfl rfl (o_build1 (E := (eSl eStr)) (e := 26) [u65] (placedM rows r c true) Tryd.underlying29 sz26 zr26 ⟨_, rfl, hr68⟩ rfl (by decide) hX70.pins (fun u73 w74 ho75 hp76 hl77 hk78 => ?_))
 have hX79 := hX70.step hp76 hl77
 have ho80 := ho71.below hl77
 have hit81 := hit72.below hl77
 have ho83 : Own (eSl eStr) 26 G66 w74 w.heap.size u73 ([placedM rows r c true]) := ho75.weaken hX70.size
 refine q1 rfl rfl rfl (o_append (E := (eSl eStr)) (v := ov2) (u := u73) 24 Tryd.underlying29 ap26 (by decide) rfl rfl hX79.pins ho80 ho83.src (by first | omega | (rw [List.nil_append]; omega) | (rw [List.length_nil]; omega) | (rw [List.length_append]; omega) | (simp; done) | (simp; omega) | (simp only [List.length_append, List.length_cons, List.length_nil]; omega)) (by first | omega | (rw [List.nil_append]; omega) | (rw [List.length_nil]; omega) | (rw [List.length_append]; omega) | (simp; done) | (simp; omega) | (simp only [List.length_append, List.length_cons, List.length_nil]; omega)) (hX79.size) (fun u84 w85 ho86 hp87 hg88 hw89 => ?_))
 have hit90 := hit81.kept hg88 (hit81.ne_own ho80)
 have hX91 := hX79.write hp87 hg88 ((lo_own ho80))
 have hm94 : (os2 ++ ([placedM rows r c true])).length = os2.length + 1 := List.length_append
 refine qd rfl rfl rfl (r_assign (v := u84) rfl) (qe (s_blkN (s_lopN (⟨_, ?_, _, rfl, _, c + 1, u84, os2 ++ ([placedM rows r c true]), G66, (packS (x := 20) (packS (x := 12) (packS (x := 11) (packS (x := 6) (packS (x := 5) (packS (x := 4) (packS (x := 2) (pack1 (x := 1) rfl) rfl) rfl) rfl) rfl) rfl) rfl) rfl), rfl, hX91, (Pin.le_trans (Pin.le_trans (Pin.le_trans hlek37 hx53.le) hx60.le) hx69.le), (by omega), (by rw [dmRow_yes (dm_t h57 h64), hos2, List.append_assoc]), (by simp; omega), ho86, hit90⟩))))
 omega
 refine qdg rfl rfl rfl rfl rfl rfl (r_move (v := (.bool true)) rfl) (qdg rfl rfl rfl rfl rfl rfl (r_not rfl) (qdg rfl rfl rfl rfl rfl rfl (r_move (v := (.bool false)) rfl) (qs rfl rfl rfl rfl rfl rfl (qs rfl rfl rfl rfl rfl rfl (qs rfl rfl rfl rfl rfl rfl (qs rfl rfl rfl rfl rfl rfl (qs rfl rfl rfl rfl rfl rfl (qdg rfl rfl rfl rfl rfl rfl (r_pickF (v := (.bool false)) rfl rfl) (qdg rfl rfl rfl rfl rfl rfl (r_pickF (v := (.bool false)) rfl rfl) (qd rfl rfl rfl (r_pickT (v := (.bool false)) rfl rfl) (qe (s_then ?_))))))))))))
 refine c_ifF rfl rfl (wp_skip (s_blkN (s_lopN (⟨_, ?_, _, rfl, _, c + 1, ov2, os2, G58, (packS (x := 20) (packS (x := 12) (packS (x := 11) (packS (x := 6) (packS (x := 5) (packS (x := 4) (packS (x := 2) (pack1 (x := 1) rfl) rfl) rfl) rfl) rfl) rfl) rfl) rfl), rfl, hX61, (Pin.le_trans (Pin.le_trans hlek37 hx53.le) hx60.le), (by omega), (by rw [dmRow_no (dm_t h57 h64), hos2]), (by omega), ho62, hit63⟩))))
 omega
 refine qs rfl rfl rfl rfl rfl rfl (qs rfl rfl rfl rfl rfl rfl (qsu rfl rfl rfl rfl rfl (qsu rfl rfl rfl rfl rfl (qsu rfl rfl rfl rfl rfl (qsu rfl rfl rfl rfl rfl (qsu rfl rfl rfl rfl rfl (qs rfl rfl rfl rfl rfl rfl (qs rfl rfl rfl rfl rfl rfl (qsu rfl rfl rfl rfl rfl (qsu rfl rfl rfl rfl rfl (qsu rfl rfl rfl rfl rfl (qsu rfl rfl rfl rfl rfl (qsu rfl rfl rfl rfl rfl (qsu rfl rfl rfl rfl rfl (qsu rfl rfl rfl rfl rfl (qsu rfl rfl rfl rfl rfl (qsu rfl rfl rfl rfl rfl (qs rfl rfl rfl rfl rfl rfl (qd rfl rfl rfl (r_pickF (v := (.bool false)) rfl rfl) (qe (s_then ?_)))))))))))))))))))))
 refine c_ifF rfl rfl (wp_skip (s_blkN (s_lopN (⟨_, ?_, _, rfl, _, c + 1, ov2, os2, G51, (packS (x := 20) (packS (x := 12) (packS (x := 11) (packS (x := 6) (packS (x := 5) (packS (x := 4) (packS (x := 2) (pack1 (x := 1) rfl) rfl) rfl) rfl) rfl) rfl) rfl) rfl), rfl, hX54, (Pin.le_trans hlek37 hx53.le), (by omega), (by rw [dmRow_no (dm_0 h57), hos2]), (by omega), ho55, hit56⟩))))
 omega
 refine q1 rfl rfl rfl (o_nextN rfl hit42 h43 ?_)
 refine qd rfl rfl rfl (r_extract (v := (.bool false)) rfl rfl) (qe (s_then (s_seq ?_)))
 refine c_ifF rfl rfl (wp_exit (s_thenE (s_lopE (s_blkE (s_blkN (s_then (c_reg ?_)))))))
 refine qd rfl rfl rfl (r_add rfl rfl (by omega)) (qd rfl rfl rfl (r_move (v := (.int .i64 ((r : Int) + 1))) rfl) (qe (s_lopN (⟨_, ?_, _, rfl, _, r + 1, ov2, os2, GL2, (packS (x := 12) (packS (x := 11) (packS (x := 5) (packS (x := 4) (packS (x := 2) (pack1 (x := 1) rfl) rfl) rfl) rfl) rfl) rfl), rfl, hX40, (Pin.le_trans hlek22 hlek37), (by omega), (by rw [hos2, hos, dmAll_succ, show c = wdS rows by show c = (rows.getD 0 ByteArray.empty).size; omega]), (by omega), hw41⟩))))
 omega
 refine wp_exit (s_thenE (s_lopE (s_blkE (s_then (s_seq (c_reg ?_))))))
 refine qd rfl rfl rfl (r_move (v := ov) rfl) (qd rfl rfl rfl (r_assign (v := ov) rfl) (qe (s_then ?_)))
 refine wp_ret (s_ret (c_ret1 (v := ov) rfl rfl rfl ?_))
 obtain ⟨G95, hle98, hX97, hr96, hf99⟩ := hw26.sealed hX25
 have hrn : r = rows.length := by omega
 subst hrn
 exact ⟨_, _, rfl, (by rw [← placed_moves g, ← hos]; exact hr96), hX97⟩

theorem moves_false {w : World} {G : Pin} {v : Value} {rows : List ByteArray} (hP : Pins G w) (hv : RSl eStr G v rows) (g : GbP rows) :
  Calls Tryd.prog 13 [(.agg [v].toArray), (.bool false)].toArray w fun e w' => ∃ (u : Value) (G' : Pin), e = .returned u ∧ RSl (eSl eStr) G' u (dmM rows false) ∧ Ext noS G w G' w' := by
 refine s_enter (n := 59) Tryd.func13 Tryd.ntmps13 rfl rfl ?_
 have hX0 : Ext noS G w G w := Ext.refl hP
 have hm := hv.max
 have ghi := g.hi
 have gwd : 1 ≤ (rows.getD 0 ByteArray.empty).size ∧ (rows.getD 0 ByteArray.empty).size ≤ 8 := g.wd
 have geq : ∀ i, i < rows.length → (rows.getD i ByteArray.empty).size = (rows.getD 0 ByteArray.empty).size := g.eq
 refine s_seq (c_reg ?_)
 refine q1 rfl rfl rfl (o_box [v] (v := (.agg [v].toArray)) rfl rfl hX0.pins (fun b1 w2 hk3 hb4 hp5 hl6 => ?_))
 have hX7 := hX0.step hp5 hl6
 have hlo8 : w.heap.size ≤ b1 := by have := hX0.size; omega
 obtain ⟨G9, hle10, hX11, hbp12, hf13⟩ := hb4.shut hX7 hlo8
 refine qd rfl rfl rfl (r_assign (v := (.slice none 0 0)) rfl) (qe (s_then (s_seq (c_reg ?_))))
 refine q1 rfl rfl rfl (o_build0 (E := (eSl eStr)) (e := 26) Tryd.underlying29 sz26 hX11.pins (fun u14 w15 ho16 hp17 hl18 hk19 => ?_))
 have hX20 := hX11.step hp17 hl18
 have ho21 : Own (eSl eStr) 26 G9 w15 w.heap.size u14 ([]) := ho16.weaken hX11.size
 refine qd rfl rfl rfl (r_assign (v := u14) rfl) (qe (s_then (s_seq (s_seq (c_reg ?_)))))
 refine qd rfl rfl rfl (r_fldp (k := 0) rfl Tryd.underlying26 rfl nz24 rfl) (qd rfl rfl rfl (r_ldp1 (u := v) ag24 rfl (hX20.pins _ _ _ (hbp12 0 _ rfl))) (qd rfl rfl rfl (run_len Tryd.underlying24 (v := v) rfl hv) (qd rfl rfl rfl (r_move (v := (.int .i64 0)) rfl) (qe (s_then ?_)))))
 refine s_blk (s_loop (fun (k : Nat) (en : Nat → Value) (W : World) => ∃ (env1 : Nat → Value) (r : Nat) (ov : Value) (os : List (List ByteArray)) (GL1 : Pin), en = (upd (upd (upd (upd (upd (upd env1 1 (.bool false)) 2 (.pointer (some ⟨b1, 0, none⟩))) 4 (.slice none 0 0)) 5 ov) 11 (.int .i64 (rows.length : Int))) 12 (.int .i64 (r : Int))) ∧ k = rows.length - r ∧ Ext noS G w GL1 W ∧ Pin.le G9 GL1 ∧ (r ≤ rows.length) ∧ (os = dmAll rows false (fun r c => placedM rows r c false) r) ∧ (os.length ≤ 8 * r) ∧ (Own (eSl eStr) 26 GL1 W w.heap.size ov (os))) _ ⟨_, 0, u14, [], G9, (packS (x := 12) (packS (x := 11) (packS (x := 5) (packS (x := 4) (packS (x := 2) (pack1 (x := 1) rfl) rfl) rfl) rfl) rfl) rfl), rfl, hX20, Pin.le_refl _, Nat.zero_le _, rfl, (by simp), ho21⟩ ?_)
 rintro k22 _ w23 ⟨env1, r, ov, os, GL1, rfl, hk24, hX25, hlek22, hr, hos, hol, hw26⟩
 refine s_seq (c_reg ?_)
 refine qd rfl rfl rfl (r_lss rfl rfl) (qe (s_then (s_seq ?_)))
 refine c_ifd (p := ((r : Int) : Int) < (rows.length : Int)) rfl rfl (fun h27 => ?_) (fun h27 => ?_)
 have hrr := geq r (by omega)
 refine wp_skip (s_then (s_seq ?_))
 refine s_blk (s_seq (c_reg ?_))
 refine qd rfl rfl rfl (r_move (v := (.int .i64 (r : Int))) rfl) (qd rfl rfl rfl (r_assign (v := (.int .i64 (r : Int))) rfl) (qe (s_then (s_seq (c_reg ?_)))))
 refine qd rfl rfl rfl (r_fldp (k := 0) rfl Tryd.underlying26 rfl nz24 rfl) (qd rfl rfl rfl (r_ldp1 (u := v) ag24 rfl ((Pins.of_le hX25.pins hlek22) _ _ _ (hbp12 0 _ rfl))) (qd rfl rfl rfl (r_move (v := (.int .i64 (r : Int))) rfl) (qd rfl rfl rfl (run_idx Tryd.underlying24 sz9 (v := v) rfl rfl hv (by omega) (by omega)) (qd rfl rfl rfl (run_load_str (r := rows.getD r ByteArray.empty) rfl ag9 (z := (r : Int)) rfl hv (Pins.of_le hX25.pins (Pin.le_trans hle10 hlek22)) (by omega) (by omega)) (q1 rfl rfl rfl (o_range Tryd.underlying9 rfl hX25.pins (fun k28 w29 hk30 hit31 hp32 hl33 => ?_)))))))
 have hX34 := hX25.step hp32 hl33
 have ho35 := hw26.below hl33
 have hlo36 : w.heap.size ≤ k28 := by have := hX25.size; omega
 refine qe (s_then ?_)
 refine s_blk (s_loop (fun (k : Nat) (en : Nat → Value) (W : World) => ∃ (env1 : Nat → Value) (c : Nat) (ov2 : Value) (os2 : List (List ByteArray)) (GL2 : Pin), en = (upd (upd (upd (upd (upd (upd (upd (upd env1 1 (.bool false)) 2 (.pointer (some ⟨b1, 0, none⟩))) 4 (.slice none 0 0)) 5 ov2) 6 (.int .i64 (r : Int))) 11 (.int .i64 (rows.length : Int))) 12 (.int .i64 (r : Int))) 20 (.pointer (some ⟨k28, 0, none⟩))) ∧ k = (rows.getD r ByteArray.empty).size - c ∧ Ext noS G w GL2 W ∧ Pin.le GL1 GL2 ∧ (c ≤ (rows.getD r ByteArray.empty).size) ∧ (os2 = os ++ dmRow rows false (fun r c => placedM rows r c false) r c) ∧ (os2.length ≤ 8 * r + c) ∧ (Own (eSl eStr) 26 GL2 W w.heap.size ov2 (os2)) ∧ (It W k28 (rows.getD r ByteArray.empty) c)) _ ⟨_, 0, ov, os, GL1, (packS (x := 20) (packS (x := 12) (packS (x := 11) (packS (x := 6) (packS (x := 5) (packS (x := 4) (packS (x := 2) (pack1 (x := 1) rfl) rfl) rfl) rfl) rfl) rfl) rfl) rfl), rfl, hX34, Pin.le_refl _, Nat.zero_le _, (by simp [dmRow]), (by omega), ho35, hit31⟩ ?_)
 rintro k37 _ w38 ⟨env1, c, ov2, os2, GL2, rfl, hk39, hX40, hlek37, hc, hos2, hol2, hw41, hit42⟩
 refine s_seq (c_reg ?_)
 by_cases h43 : c < (rows.getD r ByteArray.empty).size
 refine q1 rfl rfl rfl (o_nextY rfl hit42 hX40.pins h43 (by have := g.ch r (by omega) c (by have := geq r (by omega); show c < (rows.getD 0 ByteArray.empty).size; omega); unfold rwS at this; omega) (fun w44 hit45 hp46 hg47 hz48 => ?_))
 have hX49 := hX40.write hp46 hg47 ((lo_box hlo36))
 have ho50 := hw41.keptA hg47 (hit42.ap_own hw41)
 refine qd rfl rfl rfl (r_extract (v := (.bool true)) rfl rfl) (qe (s_then (s_seq ?_)))
 refine c_ifT rfl rfl (wp_skip (s_then (s_blk (s_seq (c_reg ?_)))))
 refine qd rfl rfl rfl (r_extract (v := (.int .i64 (c : Int))) rfl rfl) (qd rfl rfl rfl (r_assign (v := (.int .i64 (c : Int))) rfl) (qe (s_then (s_seq (c_reg ?_)))))
 refine qd rfl rfl rfl (r_ldpA (cs := [v]) ag26 sz26 rfl (fun j u hj => (Pins.of_le hX49.pins (Pin.le_trans hlek22 hlek37)) _ _ _ (hbp12 _ _ (by simpa using hj)))) (qd rfl rfl rfl (r_move (v := (.int .i64 (r : Int))) rfl) (qd rfl rfl rfl (r_move (v := (.int .i64 (c : Int))) rfl) (q1 rfl rfl rfl (o_call (vs := [(.agg [v].toArray), (.int .i64 (r : Int)), (.int .i64 (c : Int))]) Tryd.func22 nm22 rfl rfl rfl ?_))))
 refine Calls.mono (free_spec (r := (r : Int)) (c := (c : Int)) hX49.pins (hv.mono (Pin.le_trans (Pin.le_trans hle10 hlek22) hlek37)) g) ?_
 rintro _ w52 ⟨G51, rfl, hx53⟩
 refine ⟨_, rfl, ?_⟩
 have hX54 := hX49.tr hx53
 have ho55 := ho50.ext hx53
 have hit56 := hit45.ext hx53
 refine qd rfl rfl rfl (r_move (v := (.bool (frI rows (r : Int) (c : Int)))) rfl) (qb (t := 28) rfl (fun h57 => ?_) (fun h57 => ?_))
 refine qdg rfl rfl rfl rfl rfl rfl (r_move (v := (.bool false)) rfl) (qdg rfl rfl rfl rfl rfl rfl (r_move (v := (.bool false)) rfl) (qs rfl rfl rfl rfl rfl rfl (qs rfl rfl rfl rfl rfl rfl (qs rfl rfl rfl rfl rfl rfl (qs rfl rfl rfl rfl rfl rfl (qs rfl rfl rfl rfl rfl rfl (qdg rfl rfl rfl rfl rfl rfl (r_pickF (v := (.bool false)) rfl rfl) (qdg rfl rfl rfl rfl rfl rfl (r_move (v := (.bool false)) rfl) (qdg rfl rfl rfl rfl rfl rfl (r_move (v := (.bool false)) rfl) (qdg rfl rfl rfl rfl rfl rfl (r_not rfl) (qdg rfl rfl rfl rfl rfl rfl (r_move (v := (.bool true)) rfl) (qdg rfl rfl rfl rfl rfl rfl (r_ldpA (cs := [v]) ag26 sz26 rfl (fun j u hj => (Pins.of_le hX54.pins (Pin.le_trans (Pin.le_trans hlek22 hlek37) hx53.le)) _ _ _ (hbp12 _ _ (by simpa using hj)))) (qdg rfl rfl rfl rfl rfl rfl (r_move (v := (.int .i64 (r : Int))) rfl) (qdg rfl rfl rfl rfl rfl rfl (r_move (v := (.int .i64 (c : Int))) rfl) (qdg rfl rfl rfl rfl rfl rfl (r_add rfl rfl (by omega)) (q1g rfl rfl rfl rfl rfl rfl (o_call (vs := [(.agg [v].toArray), (.int .i64 (r : Int)), (.int .i64 ((c : Int) + 1))]) Tryd.func22 nm22 rfl rfl rfl ?_)))))))))))))))))
 refine Calls.mono (free_spec (r := (r : Int)) (c := ((c : Int) + 1)) hX54.pins (hv.mono (Pin.le_trans (Pin.le_trans (Pin.le_trans hle10 hlek22) hlek37) hx53.le)) g) ?_
 rintro _ w59 ⟨G58, rfl, hx60⟩
 refine ⟨_, rfl, ?_⟩
 have hX61 := hX54.tr hx60
 have ho62 := ho55.ext hx60
 have hit63 := hit56.ext hx60
 refine qdg rfl rfl rfl rfl rfl rfl (r_pickT (v := (.bool (frI rows (r : Int) ((c : Int) + 1)))) rfl rfl) (qdg rfl rfl rfl rfl rfl rfl (r_pickF (v := (.bool (frI rows (r : Int) ((c : Int) + 1)))) rfl rfl) (qd rfl rfl rfl (r_pickT (v := (.bool (frI rows (r : Int) ((c : Int) + 1)))) rfl rfl) (qe (s_then ?_))))
 refine c_if rfl rfl (fun h64 => ?_) (fun h64 => ?_)
 refine c_reg (qd rfl rfl rfl (r_move (v := ov2) rfl) (qd rfl rfl rfl (r_ldpA (cs := [v]) ag26 sz26 rfl (fun j u hj => (Pins.of_le hX61.pins (Pin.le_trans (Pin.le_trans (Pin.le_trans hlek22 hlek37) hx53.le) hx60.le)) _ _ _ (hbp12 _ _ (by simpa using hj)))) (qd rfl rfl rfl (r_move (v := (.int .i64 (r : Int))) rfl) (qd rfl rfl rfl (r_move (v := (.int .i64 (c : Int))) rfl) (qd rfl rfl rfl (r_move (v := (.bool false)) rfl) (q1 rfl rfl rfl (o_call (vs := [(.agg [v].toArray), (.int .i64 (r : Int)), (.int .i64 (c : Int)), (.bool false)]) Tryd.func23 nm23 rfl rfl rfl ?_)))))))
 refine Calls.mono (placed_false (r := r) (c := c) hX61.pins (hv.mono (Pin.le_trans (Pin.le_trans (Pin.le_trans (Pin.le_trans hle10 hlek22) hlek37) hx53.le) hx60.le)) g (dm_in g (dm_f h57 h64))) ?_
 rintro _ w67 ⟨u65, G66, rfl, hr68, hx69⟩
 refine ⟨_, rfl, ?_⟩
 have hX70 := hX61.tr hx69
 have ho71 := ho62.ext hx69
 have hit72 := hit63.ext hx69
 refine q1 rfl rfl rfl (o_build1 (E := (eSl eStr)) (e := 26) [u65] (placedM rows r c false) Tryd.underlying29 sz26 zr26 ⟨_, rfl, hr68⟩ rfl (by decide) hX70.pins (fun u73 w74 ho75 hp76 hl77 hk78 => ?_))
 have hX79 := hX70.step hp76 hl77
 have ho80 := ho71.below hl77
 have hit81 := hit72.below hl77
 have ho83 : Own (eSl eStr) 26 G66 w74 w.heap.size u73 ([placedM rows r c false]) := ho75.weaken hX70.size
 refine q1 rfl rfl rfl (o_append (E := (eSl eStr)) (v := ov2) (u := u73) 24 Tryd.underlying29 ap26 (by decide) rfl rfl hX79.pins ho80 ho83.src (by first | omega | (rw [List.nil_append]; omega) | (rw [List.length_nil]; omega) | (rw [List.length_append]; omega) | (simp; done) | (simp; omega) | (simp only [List.length_append, List.length_cons, List.length_nil]; omega)) (by first | omega | (rw [List.nil_append]; omega) | (rw [List.length_nil]; omega) | (rw [List.length_append]; omega) | (simp; done) | (simp; omega) | (simp only [List.length_append, List.length_cons, List.length_nil]; omega)) (hX79.size) (fun u84 w85 ho86 hp87 hg88 hw89 => ?_))
 have hit90 := hit81.kept hg88 (hit81.ne_own ho80)
 have hX91 := hX79.write hp87 hg88 ((lo_own ho80))
 have hm94 : (os2 ++ ([placedM rows r c false])).length = os2.length + 1 := List.length_append
 refine qd rfl rfl rfl (r_assign (v := u84) rfl) (qe (s_blkN (s_lopN (⟨_, ?_, _, rfl, _, c + 1, u84, os2 ++ ([placedM rows r c false]), G66, (packS (x := 20) (packS (x := 12) (packS (x := 11) (packS (x := 6) (packS (x := 5) (packS (x := 4) (packS (x := 2) (pack1 (x := 1) rfl) rfl) rfl) rfl) rfl) rfl) rfl) rfl), rfl, hX91, (Pin.le_trans (Pin.le_trans (Pin.le_trans hlek37 hx53.le) hx60.le) hx69.le), (by omega), (by rw [dmRow_yes (dm_f h57 h64), hos2, List.append_assoc]), (by simp; omega), ho86, hit90⟩))))
 omega
 refine wp_skip (s_blkN (s_lopN (⟨_, ?_, _, rfl, _, c + 1, ov2, os2, G58, (packS (x := 20) (packS (x := 12) (packS (x := 11) (packS (x := 6) (packS (x := 5) (packS (x := 4) (packS (x := 2) (pack1 (x := 1) rfl) rfl) rfl) rfl) rfl) rfl) rfl) rfl), rfl, hX61, (Pin.le_trans (Pin.le_trans hlek37 hx53.le) hx60.le), (by omega), (by rw [dmRow_no (dm_f h57 h64), hos2]), (by omega), ho62, hit63⟩)))
 omega
 refine qs rfl rfl rfl rfl rfl rfl (qs rfl rfl rfl rfl rfl rfl (qsu rfl rfl rfl rfl rfl (qsu rfl rfl rfl rfl rfl (qsu rfl rfl rfl rfl rfl (qsu rfl rfl rfl rfl rfl (qsu rfl rfl rfl rfl rfl (qs rfl rfl rfl rfl rfl rfl (qs rfl rfl rfl rfl rfl rfl (qsu rfl rfl rfl rfl rfl (qsu rfl rfl rfl rfl rfl (qsu rfl rfl rfl rfl rfl (qsu rfl rfl rfl rfl rfl (qsu rfl rfl rfl rfl rfl (qsu rfl rfl rfl rfl rfl (qsu rfl rfl rfl rfl rfl (qsu rfl rfl rfl rfl rfl (qsu rfl rfl rfl rfl rfl (qs rfl rfl rfl rfl rfl rfl (qd rfl rfl rfl (r_pickF (v := (.bool false)) rfl rfl) (qe (s_then ?_)))))))))))))))))))))
 refine c_ifF rfl rfl (wp_skip (s_blkN (s_lopN (⟨_, ?_, _, rfl, _, c + 1, ov2, os2, G51, (packS (x := 20) (packS (x := 12) (packS (x := 11) (packS (x := 6) (packS (x := 5) (packS (x := 4) (packS (x := 2) (pack1 (x := 1) rfl) rfl) rfl) rfl) rfl) rfl) rfl) rfl), rfl, hX54, (Pin.le_trans hlek37 hx53.le), (by omega), (by rw [dmRow_no (dm_0 h57), hos2]), (by omega), ho55, hit56⟩))))
 omega
 refine q1 rfl rfl rfl (o_nextN rfl hit42 h43 ?_)
 refine qd rfl rfl rfl (r_extract (v := (.bool false)) rfl rfl) (qe (s_then (s_seq ?_)))
 refine c_ifF rfl rfl (wp_exit (s_thenE (s_lopE (s_blkE (s_blkN (s_then (c_reg ?_)))))))
 refine qd rfl rfl rfl (r_add rfl rfl (by omega)) (qd rfl rfl rfl (r_move (v := (.int .i64 ((r : Int) + 1))) rfl) (qe (s_lopN (⟨_, ?_, _, rfl, _, r + 1, ov2, os2, GL2, (packS (x := 12) (packS (x := 11) (packS (x := 5) (packS (x := 4) (packS (x := 2) (pack1 (x := 1) rfl) rfl) rfl) rfl) rfl) rfl), rfl, hX40, (Pin.le_trans hlek22 hlek37), (by omega), (by rw [hos2, hos, dmAll_succ, show c = wdS rows by show c = (rows.getD 0 ByteArray.empty).size; omega]), (by omega), hw41⟩))))
 omega
 refine wp_exit (s_thenE (s_lopE (s_blkE (s_then (s_seq (c_reg ?_))))))
 refine qd rfl rfl rfl (r_move (v := ov) rfl) (qd rfl rfl rfl (r_assign (v := ov) rfl) (qe (s_then ?_)))
 refine wp_ret (s_ret (c_ret1 (v := ov) rfl rfl rfl ?_))
 obtain ⟨G95, hle98, hX97, hr96, hf99⟩ := hw26.sealed hX25
 have hrn : r = rows.length := by omega
 subst hrn
 exact ⟨_, _, rfl, (by rw [← placed_moves g, ← hos]; exact hr96), hX97⟩

theorem moves_spec {w : World} {G : Pin} {v : Value} {rows : List ByteArray} (hP : Pins G w) (hv : RSl eStr G v rows) {left : Bool} (g : GbP rows) :
  Calls Tryd.prog 13 [(.agg [v].toArray), (.bool left)].toArray w fun e w' => ∃ (u : Value) (G' : Pin), e = .returned u ∧ RSl (eSl eStr) G' u (dmM rows left) ∧ Ext noS G w G' w' := by
 cases left with
 | true => exact moves_true hP hv g
 | false => exact moves_false hP hv g

theorem iDominoMoves_spec {w : World} {G : Pin} {v : Value} {rows : List ByteArray} (hP : Pins G w) (hv : RSl eStr G v rows) {left : Bool} (hz : ∀ i, i < rows.length → (rows.getD i ByteArray.empty).size ≤ 1048576) :
  Calls Tryd.prog 6 [(.agg [v].toArray), (.bool left)].toArray w fun e w' => ∃ (u : Value) (G' : Pin), e = .returned (.tuple #[u, .bool (gbB rows)]) ∧ RSl (eSl eStr) G' u (dmF rows left) ∧ Ext noS G w G' w' := by
 refine s_enter (n := 12) Tryd.func6 Tryd.ntmps6 rfl rfl ?_
 have hX0 : Ext noS G w G w := Ext.refl hP
 have hm := hv.max
 refine s_seq (c_reg ?_)
 refine q1 rfl rfl rfl (o_box [v] (v := (.agg [v].toArray)) rfl rfl hX0.pins (fun b1 w2 hk3 hb4 hp5 hl6 => ?_))
 have hX7 := hX0.step hp5 hl6
 have hlo8 : w.heap.size ≤ b1 := by have := hX0.size; omega
 obtain ⟨G9, hle10, hX11, hbp12, hf13⟩ := hb4.shut hX7 hlo8
 refine qd rfl rfl rfl (r_assign (v := (.slice none 0 0)) rfl) (qd rfl rfl rfl (r_assign (v := (.bool false)) rfl) (qe (s_then (s_seq (s_seq (c_reg ?_))))))
 refine qd rfl rfl rfl (r_ldpA (cs := [v]) ag26 sz26 rfl (fun j u hj => hX11.pins _ _ _ (hbp12 _ _ (by simpa using hj)))) (q1 rfl rfl rfl (o_call (vs := [(.agg [v].toArray)]) Tryd.func12 nm12 rfl rfl rfl ?_))
 refine Calls.mono (iGoodBoard_spec hX11.pins (hv.mono hle10) hz) ?_
 rintro _ w15 ⟨G14, rfl, hx16⟩
 refine ⟨_, rfl, ?_⟩
 have hX17 := hX11.tr hx16
 refine qd rfl rfl rfl (r_not rfl) (qe (s_then ?_))
 refine c_ifn rfl rfl (fun h18 => ?_) (fun h18 => ?_)
 refine wp_skip (s_then (s_seq (c_reg ?_)))
 refine qd rfl rfl rfl (r_ldpA (cs := [v]) ag26 sz26 rfl (fun j u hj => (Pins.of_le hX17.pins hx16.le) _ _ _ (hbp12 _ _ (by simpa using hj)))) (qd rfl rfl rfl (r_move (v := (.bool left)) rfl) (q1 rfl rfl rfl (o_call (vs := [(.agg [v].toArray), (.bool left)]) Tryd.func13 nm13 rfl rfl rfl ?_)))
 refine Calls.mono (moves_spec (left := left) hX17.pins (hv.mono (Pin.le_trans hle10 hx16.le)) (decP_true.1 h18)) ?_
 rintro _ w21 ⟨u19, G20, rfl, hr22, hx23⟩
 refine ⟨_, rfl, ?_⟩
 have hX24 := hX17.tr hx23
 refine qd rfl rfl rfl (r_assign (v := u19) rfl) (qd rfl rfl rfl (r_assign (v := (.bool true)) rfl) (qe (s_then ?_)))
 refine wp_ret (s_ret (c_ret2 (v := u19) (u := (.bool true)) rfl rfl rfl rfl rfl ?_))
 rw [h18, dmF_yes h18]
 exact ⟨_, _, rfl, hr22, hX24⟩
 refine s_seq (c_reg ?_)
 refine qd rfl rfl rfl (r_assign (v := (.slice none 0 0)) rfl) (qd rfl rfl rfl (r_assign (v := (.bool false)) rfl) (qe (s_then ?_)))
 refine wp_ret (s_ret (c_ret2 (v := (.slice none 0 0)) (u := (.bool false)) rfl rfl rfl rfl rfl ?_))
 rw [h18, dmF_no h18]
 exact ⟨_, _, rfl, (nil_reads _ _), hX17⟩

end RM3
end Go.Proofs.YtajkbplgbikgdaaDoor

set_option maxRecDepth 20000
set_option maxHeartbeats 2000000
namespace Go.Proofs.YtajkbplgbikgdaaDoor
namespace RM4
open Go.RowKit Go.GL Go.Proofs
open RM1 RM2 RM3









theorem pl26 : (Tryd.prog.underlying 26).bind (placesD Tryd.prog) = some [(0, 1)] := by kernel_rfl







theorem turn_spec {w : World} {G : Pin} {v : Value} {rows : List ByteArray} (hP : Pins G w) (hv : RSl eStr G v rows) (g : GbP rows) :
  Calls Tryd.prog 16 [(.agg [v].toArray)].toArray w fun e w' => ∃ (u : Value) (G' : Pin), e = .returned (.tuple #[(.agg [u].toArray), .bool true]) ∧ RSl eStr G' u (turnM rows) ∧ Ext noS G w G' w' := by
 refine s_enter (n := 47) Tryd.func16 Tryd.ntmps16 rfl rfl ?_
 have hX0 : Ext noS G w G w := Ext.refl hP
 have hm := hv.max
 have ghi := g.hi
 have gwd : 1 ≤ (rows.getD 0 ByteArray.empty).size ∧ (rows.getD 0 ByteArray.empty).size ≤ 8 := g.wd
 have geq : ∀ i, i < rows.length → (rows.getD i ByteArray.empty).size = (rows.getD 0 ByteArray.empty).size := g.eq
 refine s_seq (c_reg ?_)
 refine q1 rfl rfl rfl (o_box [v] (v := (.agg [v].toArray)) rfl rfl hX0.pins (fun b1 w2 hk3 hb4 hp5 hl6 => ?_))
 have hX7 := hX0.step hp5 hl6
 have hlo8 : w.heap.size ≤ b1 := by have := hX0.size; omega
 obtain ⟨G9, hle10, hX11, hbp12, hf13⟩ := hb4.shut hX7 hlo8
 refine q1 rfl rfl rfl (o_alloc [(.slice none 0 0)] zr26 rfl hX11.pins (fun b14 w15 hk16 hb17 hp18 hl19 => ?_))
 have hX20 := hX11.step hp18 hl19
 have hlo21 : w.heap.size ≤ b14 := by have := hX11.size; omega
 refine qd rfl rfl rfl (r_assign (v := (.bool false)) rfl) (qe (s_then (s_seq (s_seq (c_reg ?_)))))
 refine qd rfl rfl rfl (r_ldpA (cs := [v]) ag26 sz26 rfl (fun j u hj => hX20.pins _ _ _ (hbp12 _ _ (by simpa using hj)))) (q1 rfl rfl rfl (o_call (vs := [(.agg [v].toArray)]) Tryd.func12 nm12 rfl rfl rfl ?_))
 refine Calls.mono (iGoodBoard_spec hX20.pins (hv.mono hle10) (fun i hi => by have := geq i hi; omega)) ?_
 rintro _ w23 ⟨G22, rfl, hx24⟩
 refine ⟨_, rfl, ?_⟩
 have hX25 := hX20.tr hx24
 have hb26 := hb17.ext hx24
 refine qd rfl rfl rfl (r_not rfl) (qe (s_then ?_))
 refine c_ifn rfl rfl (fun h27 => ?_) (fun h27 => ?_)
 refine wp_skip (s_then (s_seq (c_reg ?_)))
 refine qd rfl rfl rfl (r_build [(.slice none 0 0)] [(.slice none 0 0)] [] Tryd.underlying26 zr26 rfl pl26 rfl (fun _ h => by cases h) rfl) (q1 rfl rfl rfl (o_alloc [(.slice none 0 0)] zr26 rfl hX25.pins (fun b28 w29 hk30 hb31 hp32 hl33 => ?_)))
 have hX34 := hX25.step hp32 hl33
 have hb35 := hb26.below hl33
 have ha36 : Apart (some b28) (some b14) := new_ne_box (congrArg some hk30) hb26.lt
 have hlo37 : w.heap.size ≤ b28 := by have := hX25.size; omega
 refine q0 rfl rfl rfl (o_stp (cs' := [(.slice none 0 0)]) (us := [(.slice none 0 0)]) (v := (.agg [(.slice none 0 0)].toArray)) sz26 rfl rfl rfl (ones1 (by rfl)) hX34.pins hb31 (Nat.le_of_ble_eq_true rfl) rfl (fun w38 hb39 hp40 hg41 hz42 => ?_))
 have hX43 := hX34.write hp40 hg41 ((lo_box hlo37))
 have hb44 := hb35.keptA hg41 ha36.symm
 refine qe (s_then (s_seq (s_seq (c_reg ?_))))
 refine qd rfl rfl rfl (r_fldp (k := 0) rfl Tryd.underlying26 rfl nz24 rfl) (qd rfl rfl rfl (r_ldp1 (u := v) ag24 rfl ((Pins.of_le hX43.pins hx24.le) _ _ _ (hbp12 0 _ rfl))) (qd rfl rfl rfl (run_idx Tryd.underlying24 sz9 (v := v) rfl rfl hv (by omega) (by omega)) (qd rfl rfl rfl (run_load_str (r := rows.getD 0 ByteArray.empty) rfl ag9 (z := 0) rfl hv (Pins.of_le hX43.pins (Pin.le_trans hle10 hx24.le)) (by omega) (by omega)) (q1 rfl rfl rfl (o_range Tryd.underlying9 rfl hX43.pins (fun k45 w46 hk47 hit48 hp49 hl50 => ?_))))))
 have hX51 := hX43.step hp49 hl50
 have hb52 := hb44.below hl50
 have hb53 := hb39.below hl50
 have hlo54 : w.heap.size ≤ k45 := by have := hX43.size; omega
 refine qe (s_then ?_)
 refine s_blk (s_loop (fun (k : Nat) (en : Nat → Value) (W : World) => ∃ (env1 : Nat → Value) (c : Nat) (ov : Value) (os : List ByteArray) (GL1 : Pin), en = (upd (upd (upd (upd (upd env1 1 (.pointer (some ⟨b1, 0, none⟩))) 2 (.pointer (some ⟨b14, 0, none⟩))) 3 (.bool false)) 4 (.pointer (some ⟨b28, 0, none⟩))) 17 (.pointer (some ⟨k45, 0, none⟩))) ∧ k = (rows.getD 0 ByteArray.empty).size - c ∧ Ext noS G w GL1 W ∧ Pin.le G22 GL1 ∧ (c ≤ (rows.getD 0 ByteArray.empty).size) ∧ (os = (List.range c).map fun c => b2s ((List.range rows.length).map fun r => sB (rows.getD r ByteArray.empty) c)) ∧ (os.length = c) ∧ (Own eStr 9 GL1 W w.heap.size ov (os)) ∧ (Bx GL1 W b14 [(.slice none 0 0)]) ∧ (Bx GL1 W b28 [ov]) ∧ (Apart ov.ownBlock (some b14)) ∧ (Apart ov.ownBlock (some b28)) ∧ (It W k45 (rows.getD 0 ByteArray.empty) c)) _ ⟨_, 0, (.slice none 0 0), [], G22, (packS (x := 17) (packS (x := 4) (packS (x := 3) (packS (x := 2) (pack1 (x := 1) rfl) rfl) rfl) rfl) rfl), rfl, hX51, Pin.le_refl _, Nat.zero_le _, rfl, rfl, (Own.nil _ _ _ _ _), hb52, hb53, apart_none, apart_none, hit48⟩ ?_)
 rintro k55 _ w56 ⟨env1, c, ov, os, GL1, rfl, hk57, hX58, hlek55, hc, hos, hol, hw59, hw60, hw61, ha62, ha63, hit64⟩
 refine s_seq (c_reg ?_)
 by_cases h65 : c < (rows.getD 0 ByteArray.empty).size
 refine q1 rfl rfl rfl (o_nextY rfl hit64 hX58.pins h65 (by have := g.ch 0 (by omega) c (by show c < (rows.getD 0 ByteArray.empty).size; omega); unfold rwS at this; omega) (fun w66 hit67 hp68 hg69 hz70 => ?_))
 have hX71 := hX58.write hp68 hg69 ((lo_box hlo54))
 have ho72 := hw59.keptA hg69 (hit64.ap_own hw59)
 have hb73 := hw60.keptA hg69 (hit64.ap_box hw60)
 have hb74 := hw61.keptA hg69 (hit64.ap_box hw61)
 refine qd rfl rfl rfl (r_extract (v := (.bool true)) rfl rfl) (qe (s_then (s_seq ?_)))
 refine c_ifT rfl rfl (wp_skip (s_then (s_blk (s_seq (c_reg ?_)))))
 refine qd rfl rfl rfl (r_extract (v := (.int .i64 (c : Int))) rfl rfl) (qd rfl rfl rfl (r_assign (v := (.int .i64 (c : Int))) rfl) (qe (s_then (s_seq (c_reg ?_)))))
 refine q1 rfl rfl rfl (o_build0 (E := eByte) (e := 5) Tryd.underlying22 sz5 hX71.pins (fun u75 w76 ho77 hp78 hl79 hk80 => ?_))
 have hX81 := hX71.step hp78 hl79
 have ho82 := ho72.below hl79
 have hb83 := hb73.below hl79
 have hb84 := hb74.below hl79
 have hit85 := hit67.below hl79
 have ha86 : Apart u75.ownBlock ov.ownBlock := new_ne_own hk80 ho72.lt
 have ha87 : Apart u75.ownBlock (some b14) := new_ne_box hk80 hb73.lt
 have ha88 : Apart u75.ownBlock (some b28) := new_ne_box hk80 hb74.lt
 have ho89 : Own eByte 5 GL1 w76 w.heap.size u75 ([]) := ho77.weaken hX71.size
 refine qd rfl rfl rfl (r_assign (v := u75) rfl) (qe (s_then (s_seq (s_seq (c_reg ?_)))))
 refine qd rfl rfl rfl (r_fldp (k := 0) rfl Tryd.underlying26 rfl nz24 rfl) (qd rfl rfl rfl (r_ldp1 (u := v) ag24 rfl ((Pins.of_le hX81.pins (Pin.le_trans hx24.le hlek55)) _ _ _ (hbp12 0 _ rfl))) (qd rfl rfl rfl (run_len Tryd.underlying24 (v := v) rfl hv) (qd rfl rfl rfl (r_move (v := (.int .i64 0)) rfl) (qe (s_then ?_)))))
 refine s_blk (s_loop (fun (k : Nat) (en : Nat → Value) (W : World) => ∃ (env1 : Nat → Value) (r : Nat) (yv : Value) (ys : List UInt8) (GL2 : Pin), en = (upd (upd (upd (upd (upd (upd (upd (upd (upd env1 1 (.pointer (some ⟨b1, 0, none⟩))) 2 (.pointer (some ⟨b14, 0, none⟩))) 3 (.bool false)) 4 (.pointer (some ⟨b28, 0, none⟩))) 5 (.int .i64 (c : Int))) 6 yv) 17 (.pointer (some ⟨k45, 0, none⟩))) 24 (.int .i64 (rows.length : Int))) 25 (.int .i64 (r : Int))) ∧ k = rows.length - r ∧ Ext noS G w GL2 W ∧ Pin.le GL1 GL2 ∧ (r ≤ rows.length) ∧ (ys = (List.range r).map fun r => sB (rows.getD r ByteArray.empty) c) ∧ (ys.length = r) ∧ (Own eByte 5 GL2 W w.heap.size yv (ys)) ∧ (Own eStr 9 GL2 W w.heap.size ov (os)) ∧ (Bx GL2 W b14 [(.slice none 0 0)]) ∧ (Bx GL2 W b28 [ov]) ∧ (Apart yv.ownBlock ov.ownBlock) ∧ (Apart yv.ownBlock (some b14)) ∧ (Apart yv.ownBlock (some b28)) ∧ (It W k45 (rows.getD 0 ByteArray.empty) (c + 1))) _ ⟨_, 0, u75, [], GL1, (packS (x := 25) (packS (x := 24) (packS (x := 17) (packS (x := 6) (packS (x := 5) (packS (x := 4) (packS (x := 3) (packS (x := 2) (pack1 (x := 1) rfl) rfl) rfl) rfl) rfl) rfl) rfl) rfl) rfl), rfl, hX81, Pin.le_refl _, Nat.zero_le _, rfl, rfl, ho89, ho82, hb83, hb84, ha86, ha87, ha88, hit85⟩ ?_)
 rintro k90 _ w91 ⟨env1, r, yv, ys, GL2, rfl, hk92, hX93, hlek90, hr, hys, hyl, hw94, hw95, hw96, hw97, ha98, ha99, ha100, hit101⟩
 refine s_seq (c_reg ?_)
 refine qd rfl rfl rfl (r_lss rfl rfl) (qe (s_then (s_seq ?_)))
 refine c_ifd (p := ((r : Int) : Int) < (rows.length : Int)) rfl rfl (fun h102 => ?_) (fun h102 => ?_)
 have hrr := geq r (by omega)
 refine wp_skip (s_then (s_seq ?_))
 refine s_blk (s_seq (c_reg ?_))
 refine qd rfl rfl rfl (r_move (v := (.int .i64 (r : Int))) rfl) (qd rfl rfl rfl (r_assign (v := (.int .i64 (r : Int))) rfl) (qe (s_then (c_reg ?_))))
 refine qd rfl rfl rfl (r_move (v := yv) rfl) (qd rfl rfl rfl (r_fldp (k := 0) rfl Tryd.underlying26 rfl nz24 rfl) (qd rfl rfl rfl (r_ldp1 (u := v) ag24 rfl ((Pins.of_le hX93.pins (Pin.le_trans (Pin.le_trans hx24.le hlek55) hlek90)) _ _ _ (hbp12 0 _ rfl))) (qd rfl rfl rfl (r_move (v := (.int .i64 (r : Int))) rfl) (qd rfl rfl rfl (run_idx Tryd.underlying24 sz9 (v := v) rfl rfl hv (by omega) (by omega)) (qd rfl rfl rfl (run_load_str (r := rows.getD r ByteArray.empty) rfl ag9 (z := (r : Int)) rfl hv (Pins.of_le hX93.pins (Pin.le_trans (Pin.le_trans (Pin.le_trans hle10 hx24.le) hlek55) hlek90)) (by omega) (by omega)) (qd rfl rfl rfl (r_move (v := (.int .i64 (c : Int))) rfl) (qd rfl rfl rfl (r_idxB Tryd.underlying9 rfl rfl (by omega) (by omega)) (q1 rfl rfl rfl (o_buildF (E := eByte) (e := 5) [(.int .u8 ((sB (rows.getD r ByteArray.empty) c).toNat : Int))] [sB (rows.getD r ByteArray.empty) c] Tryd.underlying22 sz5 zr5 (by exact reps1 (by rfl)) (ones1 (by rfl)) rfl rfl rfl rfl (by decide) hX93.pins (fun u103 w104 ho105 hp106 hl107 hk108 => ?_))))))))))
 have hX109 := hX93.step hp106 hl107
 have ho110 := hw94.below hl107
 have ho111 := hw95.below hl107
 have hb112 := hw96.below hl107
 have hb113 := hw97.below hl107
 have hit114 := hit101.below hl107
 have ho119 : Own eByte 5 GL2 w104 w.heap.size u103 ([sB (rows.getD r ByteArray.empty) c]) := ho105.weaken hX93.size
 refine q1 rfl rfl rfl (o_append (E := eByte) (v := yv) (u := u103) 1 Tryd.underlying22 ap5 (by decide) rfl rfl hX109.pins ho110 ho119.src (by first | omega | (rw [List.nil_append]; omega) | (rw [List.length_nil]; omega) | (rw [List.length_append]; omega) | (simp; done) | (simp; omega) | (simp only [List.length_append, List.length_cons, List.length_nil]; omega)) (by first | omega | (rw [List.nil_append]; omega) | (rw [List.length_nil]; omega) | (rw [List.length_append]; omega) | (simp; done) | (simp; omega) | (simp only [List.length_append, List.length_cons, List.length_nil]; omega)) (hX109.size) (fun u120 w121 ho122 hp123 hg124 hw125 => ?_))
 have hit126 := hit114.kept hg124 (hit114.ne_own ho110)
 have hX127 := hX109.write hp123 hg124 ((lo_own ho110))
 have ho128 := ho111.keptA hg124 ha98.symm
 have hb130 := hb112.keptA hg124 ha99.symm
 have hb131 := hb113.keptA hg124 ha100.symm
 have ha132 : Apart ov.ownBlock u120.ownBlock := app_ne_own ha98.symm hw125 ho111.lt
 have ha134 : Apart (some b14) u120.ownBlock := app_ne_box ha99.symm hw125 hb112.lt
 have ha135 : Apart (some b28) u120.ownBlock := app_ne_box ha100.symm hw125 hb113.lt
 have hm136 : (ys ++ ([sB (rows.getD r ByteArray.empty) c])).length = ys.length + 1 := List.length_append
 refine qd rfl rfl rfl (r_assign (v := u120) rfl) (qe (s_blkN (s_then (c_reg ?_))))
 refine qd rfl rfl rfl (r_add rfl rfl (by omega)) (qd rfl rfl rfl (r_move (v := (.int .i64 ((r : Int) + 1))) rfl) (qe (s_lopN (⟨_, ?_, _, rfl, _, r + 1, u120, ys ++ ([sB (rows.getD r ByteArray.empty) c]), GL2, (packS (x := 25) (packS (x := 24) (packS (x := 17) (packS (x := 6) (packS (x := 5) (packS (x := 4) (packS (x := 3) (packS (x := 2) (pack1 (x := 1) rfl) rfl) rfl) rfl) rfl) rfl) rfl) rfl) rfl), rfl, hX127, hlek90, (by omega), (by rw [hys, List.range_succ, List.map_append]; rfl), (by simp [hyl]), ho122, ho128, hb130, hb131, ha132.symm, ha134.symm, ha135.symm, hit126⟩))))
 omega
 refine wp_exit (s_thenE (s_lopE (s_blkE (s_then (c_reg ?_)))))
 refine qd rfl rfl rfl (r_fldp (k := 0) rfl Tryd.underlying26 rfl nz24 rfl) (qd rfl rfl rfl (r_ldp1 (u := ov) ag24 rfl (hw97.cell (o := 0) rfl)) (qd rfl rfl rfl (r_move (v := yv) rfl) (qd rfl rfl rfl (r_b2s Tryd.underlying22 Tryd.underlying5 Tryd.underlying9 rfl hw94.read (Gadd.pins hX93.pins yv)) (q1 rfl rfl rfl (o_buildF (E := eStr) (e := 9) [(.string (b2s ys))] [b2s ys] Tryd.underlying24 sz9 zr9 (by exact reps1 (by rfl)) (ones1 (by rfl)) rfl rfl rfl rfl (by decide) hX93.pins (fun u137 w138 ho139 hp140 hl141 hk142 => ?_))))))
 have hX143 := hX93.step hp140 hl141
 have ho145 := hw95.below hl141
 have hb146 := hw96.below hl141
 have hb147 := hw97.below hl141
 have hit148 := hit101.below hl141
 have ho153 : Own eStr 9 GL2 w138 w.heap.size u137 ([b2s ys]) := ho139.weaken hX93.size
 refine q1 rfl rfl rfl (o_append (E := eStr) (v := ov) (u := u137) 16 Tryd.underlying24 ap9 (by decide) rfl rfl hX143.pins ho145 ho153.src (by first | omega | (rw [List.nil_append]; omega) | (rw [List.length_nil]; omega) | (rw [List.length_append]; omega) | (simp; done) | (simp; omega) | (simp only [List.length_append, List.length_cons, List.length_nil]; omega)) (by first | omega | (rw [List.nil_append]; omega) | (rw [List.length_nil]; omega) | (rw [List.length_append]; omega) | (simp; done) | (simp; omega) | (simp only [List.length_append, List.length_cons, List.length_nil]; omega)) (hX143.size) (fun u154 w155 ho156 hp157 hg158 hw159 => ?_))
 have hit160 := hit148.kept hg158 (hit148.ne_own ho145)
 have hX161 := hX143.write hp157 hg158 ((lo_own ho145))
 have hb164 := hb146.keptA hg158 ha62.symm
 have hb165 := hb147.keptA hg158 ha63.symm
 have ha168 : Apart (some b14) u154.ownBlock := app_ne_box ha62.symm hw159 hb146.lt
 have ha169 : Apart (some b28) u154.ownBlock := app_ne_box ha63.symm hw159 hb147.lt
 have hm170 : (os ++ ([b2s ys])).length = os.length + 1 := List.length_append
 refine qd rfl rfl rfl (r_fldp (k := 0) rfl Tryd.underlying26 rfl nz24 rfl) (q0 rfl rfl rfl (o_stp (cs' := [u154]) (us := [u154]) (v := u154) sz24 rfl rfl (cells1 ho156.one) (ones1 ho156.one) hX161.pins hb165 (Nat.le_of_ble_eq_true rfl) rfl (fun w171 hb172 hp173 hg174 hz175 => ?_)))
 have hit176 := hit160.kept hg174 (hit160.ne_box hb165)
 have hX177 := hX161.write hp173 hg174 ((lo_box hlo37))
 have ho179 := ho156.keptA hg174 ha169.symm
 have hb180 := hb164.keptA hg174 ha36.symm
 refine qe (s_blkN (s_lopN (⟨_, ?_, _, rfl, _, c + 1, u154, os ++ ([b2s ys]), GL2, (packS (x := 17) (packS (x := 4) (packS (x := 3) (packS (x := 2) (pack1 (x := 1) rfl) rfl) rfl) rfl) rfl), rfl, hX177, (Pin.le_trans hlek55 hlek90), (by omega), (by rw [hos, List.range_succ, List.map_append]; congr 1; show [_] = [b2s _]; rw [hys, show r = rows.length by omega]), (by simp [hol]), ho179, hb180, hb172, ha168.symm, ha169.symm, hit176⟩)))
 omega
 refine q1 rfl rfl rfl (o_nextN rfl hit64 h65 ?_)
 refine qd rfl rfl rfl (r_extract (v := (.bool false)) rfl rfl) (qe (s_then (s_seq ?_)))
 refine c_ifF rfl rfl (wp_exit (s_thenE (s_lopE (s_blkE (s_then (s_seq (c_reg ?_)))))))
 refine qd rfl rfl rfl (r_ldpA (cs := [ov]) ag26 sz26 rfl (fun j u hj => hw61.cell (by simpa using hj))) (q0 rfl rfl rfl (o_stp (cs' := [ov]) (us := [ov]) (v := (.agg [ov].toArray)) sz26 rfl rfl rfl (ones1 hw59.one) hX58.pins hw60 (Nat.le_of_ble_eq_true rfl) rfl (fun w181 hb182 hp183 hg184 hz185 => ?_)))
 have hX187 := hX58.write hp183 hg184 ((lo_box hlo21))
 have ho188 := hw59.keptA hg184 ha62
 refine qd rfl rfl rfl (r_assign (v := (.bool true)) rfl) (qe (s_then ?_))
 refine wp_ret (s_ret (c_retct (cs := [ov]) (v := (.bool true)) rfl rfl rfl rfl rfl ag26 sz26 (fun j u hj => by rw [Nat.zero_add]; exact hb182.cell hj) ?_))
 obtain ⟨G190, hle193, hX192, hr191, hf194⟩ := ho188.sealed hX187
 have hcn : c = (rows.getD 0 ByteArray.empty).size := by omega
 have etm : turnM rows = os := by rw [hos, hcn]; rfl
 exact ⟨_, _, rfl, (by rw [etm]; exact hr191), hX192⟩
 refine s_seq (c_reg ?_)
 refine qd rfl rfl rfl (r_build [(.slice none 0 0)] [(.slice none 0 0)] [] Tryd.underlying26 zr26 rfl pl26 rfl (fun _ h => by cases h) rfl) (q0 rfl rfl rfl (o_stp (cs' := [(.slice none 0 0)]) (us := [(.slice none 0 0)]) (v := (.agg [(.slice none 0 0)].toArray)) sz26 rfl rfl rfl (ones1 (by rfl)) hX25.pins hb26 (Nat.le_of_ble_eq_true rfl) rfl (fun w197 hb198 hp199 hg200 hz201 => ?_)))
 refine qd rfl rfl rfl (r_assign (v := (.bool false)) rfl) (qe (s_then ?_))
 exact wp_ret (s_ret (c_retct (cs := [(.slice none 0 0)]) (v := (.bool false)) rfl rfl rfl rfl rfl ag26 sz26 (fun j u hj => by rw [Nat.zero_add]; exact hb198.cell hj) (absurd g (decP_false.1 h27))))

theorem room_spec {w : World} {G : Pin} {v : Value} {rows : List ByteArray} (hP : Pins G w) (hv : RSl eStr G v rows) {left : Bool} (hM : MxG 0 G) (hz : ∀ i, i < rows.length → (rows.getD i ByteArray.empty).size ≤ 1048576) :
  Calls Tryd.prog 8 [(.agg [v].toArray), (.bool left)].toArray w fun e w' => ∃ G', e = .returned (.tuple #[.int .i64 (rmF rows left), .bool (gbB rows)]) ∧ Ext noS G w G' w' := by
 refine s_enter (n := 42) Tryd.func8 Tryd.ntmps8 rfl rfl ?_
 have hX0 : Ext noS G w G w := Ext.refl hP
 have hm := hv.max
 refine s_seq (c_reg ?_)
 refine q1 rfl rfl rfl (o_box [v] (v := (.agg [v].toArray)) rfl rfl hX0.pins (fun b1 w2 hk3 hb4 hp5 hl6 => ?_))
 have hX7 := hX0.step hp5 hl6
 have hlo8 : w.heap.size ≤ b1 := by have := hX0.size; omega
 refine qd rfl rfl rfl (r_assign (v := (.int .i64 0)) rfl) (qd rfl rfl rfl (r_assign (v := (.bool false)) rfl) (qe (s_then (s_seq (s_seq (c_reg ?_))))))
 refine qd rfl rfl rfl (r_ldpA (cs := [v]) ag26 sz26 rfl (fun j u hj => hb4.cell (by simpa using hj))) (q1 rfl rfl rfl (o_call (vs := [(.agg [v].toArray)]) Tryd.func12 nm12 rfl rfl rfl ?_))
 refine Calls.mono (iGoodBoard_spec hX7.pins hv hz) ?_
 rintro _ w10 ⟨G9, rfl, hx11⟩
 refine ⟨_, rfl, ?_⟩
 have hX12 := hX7.tr hx11
 have hb13 := hb4.ext hx11
 refine qd rfl rfl rfl (r_not rfl) (qe (s_then ?_))
 refine c_ifn rfl rfl (fun h14 => ?_) (fun h14 => ?_)
 refine wp_skip (s_then (s_seq (s_seq (c_reg ?_))))
 have g := decP_true.1 h14
 have ghi := g.hi
 have gwd : 1 ≤ (rows.getD 0 ByteArray.empty).size ∧ (rows.getD 0 ByteArray.empty).size ≤ 8 := g.wd
 have geq : ∀ i, i < rows.length → (rows.getD i ByteArray.empty).size = (rows.getD 0 ByteArray.empty).size := g.eq
 refine qd rfl rfl rfl (r_move (v := (.bool left)) rfl) (qe (s_then ?_))
 refine c_if rfl rfl (fun h15 => ?_) (fun h15 => ?_)
 refine c_reg (qd rfl rfl rfl (r_ldpA (cs := [v]) ag26 sz26 rfl (fun j u hj => hb13.cell (by simpa using hj))) (q1 rfl rfl rfl (o_call (vs := [(.agg [v].toArray)]) Tryd.func16 nm16 rfl rfl rfl ?_)))
 refine Calls.mono (turn_spec hX12.pins (hv.mono hx11.le) g) ?_
 rintro _ w18 ⟨u16, G17, rfl, hr19, hx20⟩
 refine ⟨_, rfl, ?_⟩
 have hX21 := hX12.tr hx20
 have hb22 := hb13.ext hx20
 refine qd rfl rfl rfl (r_move (v := (.tuple #[(.agg [u16].toArray), (.bool true)])) rfl) (qd rfl rfl rfl (r_extract (v := (.agg [u16].toArray)) rfl rfl) (qd rfl rfl rfl (r_extract (v := (.bool true)) rfl rfl) (q0 rfl rfl rfl (o_stp (cs' := [u16]) (us := [u16]) (v := (.agg [u16].toArray)) sz26 rfl rfl rfl (ones1 hr19.one) hX21.pins hb22 (Nat.le_of_ble_eq_true rfl) rfl (fun w23 hb24 hp25 hg26 hz27 => ?_)))))
 have hX28 := hX21.write hp25 hg26 ((lo_box hlo8))
 refine qe (s_then (s_seq (c_reg ?_)))
 refine qd rfl rfl rfl (r_assign (v := (.int .i64 0)) rfl) (qe (s_then (s_seq (s_seq (c_reg ?_)))))
 refine qd rfl rfl rfl (r_fldp (k := 0) rfl Tryd.underlying26 rfl nz24 rfl) (qd rfl rfl rfl (r_ldp1 (u := u16) ag24 rfl (hb24.cell (o := 0) rfl)) (qd rfl rfl rfl (run_len Tryd.underlying24 (v := u16) rfl hr19) (qd rfl rfl rfl (r_move (v := (.int .i64 0)) rfl) (qe (s_then ?_)))))
 refine s_blk ?_
 have hxz : ∀ i, i < (turnM rows).length → ((turnM rows).getD i ByteArray.empty).size ≤ 8 := lines_size g true
 have hxl : (turnM rows).length ≤ 8 := lines_len g true
 refine s_loop (fun (k : Nat) (en : Nat → Value) (W : World) => ∃ (env1 : Nat → Value) (j : Nat) (m : Int) (GL1 : Pin), en = (upd (upd (upd (upd (upd (upd env1 4 (.int .i64 0)) 5 (.bool false)) 6 (.int .i64 m)) 21 u16) 22 (.int .i64 ((turnM rows).length : Int))) 23 (.int .i64 (j : Int))) ∧ k = (turnM rows).length - j ∧ Ext noS G w GL1 W ∧ Pin.le G17 GL1 ∧ (j ≤ (turnM rows).length) ∧ (rmSum (turnM rows) j ≤ 8 * j) ∧ (m = ((rmSum (turnM rows) j : Nat) : Int)) ∧ (Bx GL1 W b1 [u16])) _ ⟨_, 0, 0, G17, (packS (x := 23) (packS (x := 22) (packS (x := 21) (packS (x := 6) (packS (x := 5) (pack1 (x := 4) rfl) rfl) rfl) rfl) rfl) rfl), rfl, hX28, Pin.le_refl _, Nat.zero_le _, (by simp [rmSum]), (by simp [rmSum]), hb24⟩ ?_
 rintro k29 _ w30 ⟨env1, j, m, GL1, rfl, hk31, hX32, hlek29, hj, hjb, hmj, hw33⟩
 refine s_seq (c_reg ?_)
 refine qd rfl rfl rfl (r_lss rfl rfl) (qe (s_then (s_seq ?_)))
 refine c_ifd (p := ((j : Int) : Int) < ((turnM rows).length : Int)) rfl rfl (fun h34 => ?_) (fun h34 => ?_)
 have hxj := hxz j (by omega)
 have hrj := half_le ((turnM rows).getD j ByteArray.empty)
 refine wp_skip (s_then (s_seq ?_))
 refine s_blk (s_seq (c_reg ?_))
 refine qd rfl rfl rfl (run_idx Tryd.underlying24 sz9 (v := u16) rfl rfl hr19 (by omega) (by omega)) (qd rfl rfl rfl (run_load_str (r := (turnM rows).getD j ByteArray.empty) rfl ag9 (z := (j : Int)) rfl hr19 (Pins.of_le hX32.pins hlek29) (by omega) (by omega)) (qd rfl rfl rfl (r_assign (v := (.string ((turnM rows).getD j ByteArray.empty))) rfl) (qe (s_then (s_seq (c_reg ?_))))))
 refine qd rfl rfl rfl (r_move (v := (.string ((turnM rows).getD j ByteArray.empty))) rfl) (q1 rfl rfl rfl (o_call (vs := [(.string ((turnM rows).getD j ByteArray.empty)), (.string (⟨#[35]⟩ : ByteArray))]) Tryd.func17 nm17 rfl rfl rfl ?_))
 refine Calls.mono (split_spec (s := ((turnM rows).getD j ByteArray.empty)) (c := 35) hX32.pins (hM.le (Pin.le_trans (Pin.le_trans hx11.le hx20.le) hlek29)) (by omega)) ?_
 rintro _ w37 ⟨u35, G36, rfl, ho38, hx39⟩
 refine ⟨_, rfl, ?_⟩
 have hX40 := hX32.tr hx39
 have hb41 := hw33.ext hx39
 have ho43 : Own eStr 9 G36 w37 w.heap.size u35 (Lib.splitB ⟨#[35]⟩ 0 (Lib.countB ((turnM rows).getD j ByteArray.empty) ⟨#[35]⟩) ((turnM rows).getD j ByteArray.empty)) := ho38.weaken hX32.size
 refine qd rfl rfl rfl (run_len Tryd.underlying24 (v := u35) rfl ho43.read) (qd rfl rfl rfl (r_move (v := (.int .i64 0)) rfl) (qe (s_then ?_)))
 refine s_blk ?_
 have hsl := split_len ((turnM rows).getD j ByteArray.empty)
 refine s_loop (fun (k : Nat) (en : Nat → Value) (W : World) => ∃ (env1 : Nat → Value) (q : Nat) (m2 : Int) (GL2 : Pin), en = (upd (upd (upd (upd (upd (upd (upd (upd (upd env1 4 (.int .i64 0)) 5 (.bool false)) 6 (.int .i64 m2)) 21 u16) 22 (.int .i64 ((turnM rows).length : Int))) 23 (.int .i64 (j : Int))) 28 u35) 29 (.int .i64 ((Lib.splitB ⟨#[35]⟩ 0 (Lib.countB ((turnM rows).getD j ByteArray.empty) ⟨#[35]⟩) ((turnM rows).getD j ByteArray.empty)).length : Int))) 30 (.int .i64 (q : Int))) ∧ k = (Lib.splitB ⟨#[35]⟩ 0 (Lib.countB ((turnM rows).getD j ByteArray.empty) ⟨#[35]⟩) ((turnM rows).getD j ByteArray.empty)).length - q ∧ Ext noS G w GL2 W ∧ Pin.le G36 GL2 ∧ (q ≤ (Lib.splitB ⟨#[35]⟩ 0 (Lib.countB ((turnM rows).getD j ByteArray.empty) ⟨#[35]⟩) ((turnM rows).getD j ByteArray.empty)).length) ∧ (m2 = m + ((hfSum (Lib.splitB ⟨#[35]⟩ 0 (Lib.countB ((turnM rows).getD j ByteArray.empty) ⟨#[35]⟩) ((turnM rows).getD j ByteArray.empty)) q : Nat) : Int)) ∧ (hfSum (Lib.splitB ⟨#[35]⟩ 0 (Lib.countB ((turnM rows).getD j ByteArray.empty) ⟨#[35]⟩) ((turnM rows).getD j ByteArray.empty)) q ≤ rmS ((turnM rows).getD j ByteArray.empty)) ∧ (Own eStr 9 GL2 W w.heap.size u35 ((Lib.splitB ⟨#[35]⟩ 0 (Lib.countB ((turnM rows).getD j ByteArray.empty) ⟨#[35]⟩) ((turnM rows).getD j ByteArray.empty)))) ∧ (Bx GL2 W b1 [u16])) _ ⟨_, 0, m, G36, (packS (x := 30) (packS (x := 29) (packS (x := 28) (packS (x := 23) (packS (x := 22) (packS (x := 21) (packS (x := 6) (packS (x := 5) (pack1 (x := 4) rfl) rfl) rfl) rfl) rfl) rfl) rfl) rfl) rfl), rfl, hX40, Pin.le_refl _, Nat.zero_le _, (by simp [hfSum]), (by simp [hfSum]), ho43, hb41⟩ ?_
 rintro k44 _ w45 ⟨env1, q, m2, GL2, rfl, hk46, hX47, hlek44, hq, hm2, hqb, hw48, hw49⟩
 refine s_seq (c_reg ?_)
 refine qd rfl rfl rfl (r_lss rfl rfl) (qe (s_then (s_seq ?_)))
 refine c_ifd (p := ((q : Int) : Int) < ((Lib.splitB ⟨#[35]⟩ 0 (Lib.countB ((turnM rows).getD j ByteArray.empty) ⟨#[35]⟩) ((turnM rows).getD j ByteArray.empty)).length : Int)) rfl rfl (fun h50 => ?_) (fun h50 => ?_)
 have hpz := part_size ((turnM rows).getD j ByteArray.empty) (i := q) (by omega)
 refine wp_skip (s_then (s_seq ?_))
 refine s_blk (s_seq (c_reg ?_))
 refine qd rfl rfl rfl (run_idx Tryd.underlying24 sz9 (v := u35) rfl rfl hw48.read (by omega) (by omega)) (qd rfl rfl rfl (run_load_str (r := (Lib.splitB ⟨#[35]⟩ 0 (Lib.countB ((turnM rows).getD j ByteArray.empty) ⟨#[35]⟩) ((turnM rows).getD j ByteArray.empty)).getD q ByteArray.empty) rfl ag9 (z := (q : Int)) rfl hw48.read (Gadd.pins hX47.pins u35) (by omega) (by omega)) (qd rfl rfl rfl (r_assign (v := (.string ((Lib.splitB ⟨#[35]⟩ 0 (Lib.countB ((turnM rows).getD j ByteArray.empty) ⟨#[35]⟩) ((turnM rows).getD j ByteArray.empty)).getD q ByteArray.empty))) rfl) (qe (s_then (c_reg ?_)))))
 refine qd rfl rfl rfl (r_move (v := (.int .i64 m2)) rfl) (qd rfl rfl rfl (r_move (v := (.string ((Lib.splitB ⟨#[35]⟩ 0 (Lib.countB ((turnM rows).getD j ByteArray.empty) ⟨#[35]⟩) ((turnM rows).getD j ByteArray.empty)).getD q ByteArray.empty))) rfl) (qd rfl rfl rfl (r_lenS Tryd.underlying9 rfl) (qd rfl rfl rfl (r_quo rfl rfl (by omega) (by omega) (by omega)) (qd rfl rfl rfl (r_add rfl rfl (by omega)) (qd rfl rfl rfl (r_assign (v := (.int .i64 (m2 + ((((Lib.splitB ⟨#[35]⟩ 0 (Lib.countB ((turnM rows).getD j ByteArray.empty) ⟨#[35]⟩) ((turnM rows).getD j ByteArray.empty)).getD q ByteArray.empty).size : Int) / 2)))) rfl) (qe (s_blkN (s_then (c_reg ?_)))))))))
 refine qd rfl rfl rfl (r_add rfl rfl (by omega)) (qd rfl rfl rfl (r_move (v := (.int .i64 ((q : Int) + 1))) rfl) (qe (s_lopN (⟨_, ?_, _, rfl, _, q + 1, m2 + ((((Lib.splitB ⟨#[35]⟩ 0 (Lib.countB ((turnM rows).getD j ByteArray.empty) ⟨#[35]⟩) ((turnM rows).getD j ByteArray.empty)).getD q ByteArray.empty).size : Int) / 2), GL2, (packS (x := 30) (packS (x := 29) (packS (x := 28) (packS (x := 23) (packS (x := 22) (packS (x := 21) (packS (x := 6) (packS (x := 5) (pack1 (x := 4) rfl) rfl) rfl) rfl) rfl) rfl) rfl) rfl) rfl), rfl, hX47, hlek44, (by omega), (by rw [hf_next (by omega), hm2]; omega), (hf_le (by omega)), hw48, hw49⟩))))
 omega
 refine wp_exit (s_thenE (s_lopE (s_blkE (s_blkN (s_then (c_reg ?_))))))
 refine qd rfl rfl rfl (r_add rfl rfl (by omega)) (qd rfl rfl rfl (r_move (v := (.int .i64 ((j : Int) + 1))) rfl) (qe (s_lopN (⟨_, ?_, _, rfl, _, j + 1, m2, GL2, (packS (x := 23) (packS (x := 22) (packS (x := 21) (packS (x := 6) (packS (x := 5) (pack1 (x := 4) rfl) rfl) rfl) rfl) rfl) rfl), rfl, hX47, (Pin.le_trans (Pin.le_trans hlek29 hx39.le) hlek44), (by omega), (by rw [rm_next (by omega)]; omega), (by rw [rm_next (by omega), hm2, hf_all (by omega), hmj]; omega), hw49⟩))))
 omega
 refine wp_exit (s_thenE (s_lopE (s_blkE (s_then (s_seq (c_reg ?_))))))
 refine qd rfl rfl rfl (r_move (v := (.int .i64 m)) rfl) (qd rfl rfl rfl (r_assign (v := (.int .i64 m)) rfl) (qd rfl rfl rfl (r_assign (v := (.bool true)) rfl) (qe (s_then ?_))))
 refine wp_ret (s_ret (c_ret2 (v := (.int .i64 m)) (u := (.bool true)) rfl rfl rfl rfl rfl ?_))
 have hrm := rm_all g true (j := j) (by show (turnM rows).length ≤ j; omega)
 exact ⟨_, (by rw [h14, rmF_yes h14, h15, ← hrm, hmj]; rfl), hX32⟩
 refine wp_skip (s_then (s_seq (c_reg ?_)))
 refine qd rfl rfl rfl (r_assign (v := (.int .i64 0)) rfl) (qe (s_then (s_seq (s_seq (c_reg ?_)))))
 refine qd rfl rfl rfl (r_fldp (k := 0) rfl Tryd.underlying26 rfl nz24 rfl) (qd rfl rfl rfl (r_ldp1 (u := v) ag24 rfl (hb13.cell (o := 0) rfl)) (qd rfl rfl rfl (run_len Tryd.underlying24 (v := v) rfl hv) (qd rfl rfl rfl (r_move (v := (.int .i64 0)) rfl) (qe (s_then ?_)))))
 refine s_blk ?_
 have hxz : ∀ i, i < rows.length → (rows.getD i ByteArray.empty).size ≤ 8 := lines_size g false
 have hxl : rows.length ≤ 8 := lines_len g false
 refine s_loop (fun (k : Nat) (en : Nat → Value) (W : World) => ∃ (env1 : Nat → Value) (j : Nat) (m : Int) (GL1 : Pin), en = (upd (upd (upd (upd (upd (upd env1 4 (.int .i64 0)) 5 (.bool false)) 6 (.int .i64 m)) 21 v) 22 (.int .i64 (rows.length : Int))) 23 (.int .i64 (j : Int))) ∧ k = rows.length - j ∧ Ext noS G w GL1 W ∧ Pin.le G9 GL1 ∧ (j ≤ rows.length) ∧ (rmSum rows j ≤ 8 * j) ∧ (m = ((rmSum rows j : Nat) : Int)) ∧ (Bx GL1 W b1 [v])) _ ⟨_, 0, 0, G9, (packS (x := 23) (packS (x := 22) (packS (x := 21) (packS (x := 6) (packS (x := 5) (pack1 (x := 4) rfl) rfl) rfl) rfl) rfl) rfl), rfl, hX12, Pin.le_refl _, Nat.zero_le _, (by simp [rmSum]), (by simp [rmSum]), hb13⟩ ?_
 rintro k51 _ w52 ⟨env1, j, m, GL1, rfl, hk53, hX54, hlek51, hj, hjb, hmj, hw55⟩
 refine s_seq (c_reg ?_)
 refine qd rfl rfl rfl (r_lss rfl rfl) (qe (s_then (s_seq ?_)))
 refine c_ifd (p := ((j : Int) : Int) < (rows.length : Int)) rfl rfl (fun h56 => ?_) (fun h56 => ?_)
 have hxj := hxz j (by omega)
 have hrj := half_le (rows.getD j ByteArray.empty)
 refine wp_skip (s_then (s_seq ?_))
 refine s_blk (s_seq (c_reg ?_))
 refine qd rfl rfl rfl (run_idx Tryd.underlying24 sz9 (v := v) rfl rfl hv (by omega) (by omega)) (qd rfl rfl rfl (run_load_str (r := rows.getD j ByteArray.empty) rfl ag9 (z := (j : Int)) rfl hv (Pins.of_le hX54.pins (Pin.le_trans hx11.le hlek51)) (by omega) (by omega)) (qd rfl rfl rfl (r_assign (v := (.string (rows.getD j ByteArray.empty))) rfl) (qe (s_then (s_seq (c_reg ?_))))))
 refine qd rfl rfl rfl (r_move (v := (.string (rows.getD j ByteArray.empty))) rfl) (q1 rfl rfl rfl (o_call (vs := [(.string (rows.getD j ByteArray.empty)), (.string (⟨#[35]⟩ : ByteArray))]) Tryd.func17 nm17 rfl rfl rfl ?_))
 refine Calls.mono (split_spec (s := (rows.getD j ByteArray.empty)) (c := 35) hX54.pins (hM.le (Pin.le_trans hx11.le hlek51)) (by omega)) ?_
 rintro _ w59 ⟨u57, G58, rfl, ho60, hx61⟩
 refine ⟨_, rfl, ?_⟩
 have hX62 := hX54.tr hx61
 have hb63 := hw55.ext hx61
 have ho65 : Own eStr 9 G58 w59 w.heap.size u57 (Lib.splitB ⟨#[35]⟩ 0 (Lib.countB (rows.getD j ByteArray.empty) ⟨#[35]⟩) (rows.getD j ByteArray.empty)) := ho60.weaken hX54.size
 refine qd rfl rfl rfl (run_len Tryd.underlying24 (v := u57) rfl ho65.read) (qd rfl rfl rfl (r_move (v := (.int .i64 0)) rfl) (qe (s_then ?_)))
 refine s_blk ?_
 have hsl := split_len (rows.getD j ByteArray.empty)
 refine s_loop (fun (k : Nat) (en : Nat → Value) (W : World) => ∃ (env1 : Nat → Value) (q : Nat) (m2 : Int) (GL2 : Pin), en = (upd (upd (upd (upd (upd (upd (upd (upd (upd env1 4 (.int .i64 0)) 5 (.bool false)) 6 (.int .i64 m2)) 21 v) 22 (.int .i64 (rows.length : Int))) 23 (.int .i64 (j : Int))) 28 u57) 29 (.int .i64 ((Lib.splitB ⟨#[35]⟩ 0 (Lib.countB (rows.getD j ByteArray.empty) ⟨#[35]⟩) (rows.getD j ByteArray.empty)).length : Int))) 30 (.int .i64 (q : Int))) ∧ k = (Lib.splitB ⟨#[35]⟩ 0 (Lib.countB (rows.getD j ByteArray.empty) ⟨#[35]⟩) (rows.getD j ByteArray.empty)).length - q ∧ Ext noS G w GL2 W ∧ Pin.le G58 GL2 ∧ (q ≤ (Lib.splitB ⟨#[35]⟩ 0 (Lib.countB (rows.getD j ByteArray.empty) ⟨#[35]⟩) (rows.getD j ByteArray.empty)).length) ∧ (m2 = m + ((hfSum (Lib.splitB ⟨#[35]⟩ 0 (Lib.countB (rows.getD j ByteArray.empty) ⟨#[35]⟩) (rows.getD j ByteArray.empty)) q : Nat) : Int)) ∧ (hfSum (Lib.splitB ⟨#[35]⟩ 0 (Lib.countB (rows.getD j ByteArray.empty) ⟨#[35]⟩) (rows.getD j ByteArray.empty)) q ≤ rmS (rows.getD j ByteArray.empty)) ∧ (Own eStr 9 GL2 W w.heap.size u57 ((Lib.splitB ⟨#[35]⟩ 0 (Lib.countB (rows.getD j ByteArray.empty) ⟨#[35]⟩) (rows.getD j ByteArray.empty)))) ∧ (Bx GL2 W b1 [v])) _ ⟨_, 0, m, G58, (packS (x := 30) (packS (x := 29) (packS (x := 28) (packS (x := 23) (packS (x := 22) (packS (x := 21) (packS (x := 6) (packS (x := 5) (pack1 (x := 4) rfl) rfl) rfl) rfl) rfl) rfl) rfl) rfl) rfl), rfl, hX62, Pin.le_refl _, Nat.zero_le _, (by simp [hfSum]), (by simp [hfSum]), ho65, hb63⟩ ?_
 rintro k66 _ w67 ⟨env1, q, m2, GL2, rfl, hk68, hX69, hlek66, hq, hm2, hqb, hw70, hw71⟩
 refine s_seq (c_reg ?_)
 refine qd rfl rfl rfl (r_lss rfl rfl) (qe (s_then (s_seq ?_)))
 refine c_ifd (p := ((q : Int) : Int) < ((Lib.splitB ⟨#[35]⟩ 0 (Lib.countB (rows.getD j ByteArray.empty) ⟨#[35]⟩) (rows.getD j ByteArray.empty)).length : Int)) rfl rfl (fun h72 => ?_) (fun h72 => ?_)
 have hpz := part_size (rows.getD j ByteArray.empty) (i := q) (by omega)
 refine wp_skip (s_then (s_seq ?_))
 refine s_blk (s_seq (c_reg ?_))
 refine qd rfl rfl rfl (run_idx Tryd.underlying24 sz9 (v := u57) rfl rfl hw70.read (by omega) (by omega)) (qd rfl rfl rfl (run_load_str (r := (Lib.splitB ⟨#[35]⟩ 0 (Lib.countB (rows.getD j ByteArray.empty) ⟨#[35]⟩) (rows.getD j ByteArray.empty)).getD q ByteArray.empty) rfl ag9 (z := (q : Int)) rfl hw70.read (Gadd.pins hX69.pins u57) (by omega) (by omega)) (qd rfl rfl rfl (r_assign (v := (.string ((Lib.splitB ⟨#[35]⟩ 0 (Lib.countB (rows.getD j ByteArray.empty) ⟨#[35]⟩) (rows.getD j ByteArray.empty)).getD q ByteArray.empty))) rfl) (qe (s_then (c_reg ?_)))))
 refine qd rfl rfl rfl (r_move (v := (.int .i64 m2)) rfl) (qd rfl rfl rfl (r_move (v := (.string ((Lib.splitB ⟨#[35]⟩ 0 (Lib.countB (rows.getD j ByteArray.empty) ⟨#[35]⟩) (rows.getD j ByteArray.empty)).getD q ByteArray.empty))) rfl) (qd rfl rfl rfl (r_lenS Tryd.underlying9 rfl) (qd rfl rfl rfl (r_quo rfl rfl (by omega) (by omega) (by omega)) (qd rfl rfl rfl (r_add rfl rfl (by omega)) (qd rfl rfl rfl (r_assign (v := (.int .i64 (m2 + ((((Lib.splitB ⟨#[35]⟩ 0 (Lib.countB (rows.getD j ByteArray.empty) ⟨#[35]⟩) (rows.getD j ByteArray.empty)).getD q ByteArray.empty).size : Int) / 2)))) rfl) (qe (s_blkN (s_then (c_reg ?_)))))))))
 refine qd rfl rfl rfl (r_add rfl rfl (by omega)) (qd rfl rfl rfl (r_move (v := (.int .i64 ((q : Int) + 1))) rfl) (qe (s_lopN (⟨_, ?_, _, rfl, _, q + 1, m2 + ((((Lib.splitB ⟨#[35]⟩ 0 (Lib.countB (rows.getD j ByteArray.empty) ⟨#[35]⟩) (rows.getD j ByteArray.empty)).getD q ByteArray.empty).size : Int) / 2), GL2, (packS (x := 30) (packS (x := 29) (packS (x := 28) (packS (x := 23) (packS (x := 22) (packS (x := 21) (packS (x := 6) (packS (x := 5) (pack1 (x := 4) rfl) rfl) rfl) rfl) rfl) rfl) rfl) rfl) rfl), rfl, hX69, hlek66, (by omega), (by rw [hf_next (by omega), hm2]; omega), (hf_le (by omega)), hw70, hw71⟩))))
 omega
 refine wp_exit (s_thenE (s_lopE (s_blkE (s_blkN (s_then (c_reg ?_))))))
 refine qd rfl rfl rfl (r_add rfl rfl (by omega)) (qd rfl rfl rfl (r_move (v := (.int .i64 ((j : Int) + 1))) rfl) (qe (s_lopN (⟨_, ?_, _, rfl, _, j + 1, m2, GL2, (packS (x := 23) (packS (x := 22) (packS (x := 21) (packS (x := 6) (packS (x := 5) (pack1 (x := 4) rfl) rfl) rfl) rfl) rfl) rfl), rfl, hX69, (Pin.le_trans (Pin.le_trans hlek51 hx61.le) hlek66), (by omega), (by rw [rm_next (by omega)]; omega), (by rw [rm_next (by omega), hm2, hf_all (by omega), hmj]; omega), hw71⟩))))
 omega
 refine wp_exit (s_thenE (s_lopE (s_blkE (s_then (s_seq (c_reg ?_))))))
 refine qd rfl rfl rfl (r_move (v := (.int .i64 m)) rfl) (qd rfl rfl rfl (r_assign (v := (.int .i64 m)) rfl) (qd rfl rfl rfl (r_assign (v := (.bool true)) rfl) (qe (s_then ?_))))
 refine wp_ret (s_ret (c_ret2 (v := (.int .i64 m)) (u := (.bool true)) rfl rfl rfl rfl rfl ?_))
 have hrm := rm_all g false (j := j) (by show rows.length ≤ j; omega)
 exact ⟨_, (by rw [h14, rmF_yes h14, h15, ← hrm, hmj]; rfl), hX54⟩
 refine s_seq (c_reg ?_)
 refine qd rfl rfl rfl (r_assign (v := (.int .i64 0)) rfl) (qd rfl rfl rfl (r_assign (v := (.bool false)) rfl) (qe (s_then ?_)))
 refine wp_ret (s_ret (c_ret2 (v := (.int .i64 0)) (u := (.bool false)) rfl rfl rfl rfl rfl ?_))
 rw [h14, rmF_no h14]
 exact ⟨_, rfl, hX12⟩

end RM4
end Go.Proofs.YtajkbplgbikgdaaDoor
