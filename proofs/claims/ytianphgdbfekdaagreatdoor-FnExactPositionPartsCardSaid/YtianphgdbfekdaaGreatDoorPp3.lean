/- Texts of this claim in one file: Txt, Ptx, Pty, Byte, Ptq, Ptn, Str, Room, Deep, Text, Table, Part, Game, Den, Ord, Map, Key, Board, Trim, Pos, PosM, PosW, Iter, Shelf, PosL, Runs, Flood, Trm, Bps, Ppl, Wrap, PWL, Grid, S2, PT3. -/
import Derived.Test.YtianphgdbfekdaaGreatDoorPp2
import Derived.Lib.SplitLaws
import Derived.Lib.IndexBytes
import Derived.Lib.ItoaNum
import Derived.Lib.AtoiTie
import Derived.Lib.Join
import Derived.Lib.IndexMore
import Derived.Lib.SliceRun
import Derived.Carry
import Derived.MapKept
import Derived.Laws.BytesString
import Derived.Lib.SlTrimSet
import Derived.Lib.CutLaws
import Derived.Lib.CountLaws
import Derived.Lib.OthersKept
import Derived.Lib.ConvBytes
import Derived.Lib.AtoiErrMem
import Derived.Lib.FrozenHead
import Derived.Shelf.Strings.OnBuilder
import Derived.Shelf.LaysM
import Derived.Shelf.Strconv.Itoa3
import Derived.Shelf.Strings.Cut
import Derived.Shelf.Strings.Count
import Derived.Shelf.Strings.Split
import Derived.Shelf.Strings.SlTrimAscii
import Derived.Test.YtianphgdbfekdaaGreatDoorProg
import Derived.Test.YtianphgdbfekdaaGreatDoorChecked
namespace Go.GL
open Go Go.RowKit Go.Lib
def splL (c : UInt8) : List UInt8 → List (List UInt8)
 | [] => [[]]
 | b :: l => if b = c then [] :: splL c l else match splL c l with
  | [] => [[b]]
  | x :: r => (b :: x) :: r
theorem splL_ne (c : UInt8) : ∀ l, splL c l ≠ []
 | [] => by simp [splL]
 | b :: l => by
  unfold splL
  split
  ·simp
  ·split <;> simp
theorem splL_cons {b c : UInt8} (h : b ≠ c) {l x : List UInt8} {r : List (List UInt8)} (e : splL c l = x :: r) : splL c (b :: l) = (b :: x) :: r := by
 rw [splL, if_neg h, e]
theorem splitK_splL (c : UInt8) : ∀ l : List UInt8, splitK [c] 0 (l.count c) l = splL c l
 | [] => rfl
 | b :: l => by
  have ih := splitK_splL c l
  by_cases h : b = c
  ·subst h
   have e1 : (b :: l).count b = l.count b + 1 := List.count_cons_self
   have e2 : index (b :: l) [b] = 0 := by rw [index_one]; simp [indexByte]
   have e3 : splL b (b :: l) = [] :: splL b l := by rw [splL, if_pos rfl]
   rw [e1, splitK, e2, e3, ← ih]
   simp
  ·have e1 : (b :: l).count c = l.count c := List.count_cons_of_ne (fun e => h e)
   rw [e1]
   match hx : splL c l, splL_ne c l with
   | x :: r, _ =>
    rw [splL_cons h hx]
    rw [hx] at ih
    cases hn : l.count c with
    | zero =>
     rw [hn] at ih
     have ih' : [l] = x :: r := ih
     show [b :: l] = _
     obtain ⟨rfl, rfl⟩ := List.cons.inj ih'
     rfl
    | succ k =>
     rw [hn] at ih
     have hm : c ∈ l := List.count_pos_iff.1 (by omega)
     have hi : ∃ i : Nat, index l [c] = i := by
      rw [index_one]
      clear ih hx e1 hn h
      induction l with
      | nil => simp at hm
      | cons a l ih2 =>
       unfold indexByte
       by_cases ha : a = c
       ·exact ⟨0, by simp [ha]⟩
       ·obtain ⟨i, hi⟩ := ih2 (by simpa [Ne.symm ha] using hm)
        refine ⟨i + 1, ?_⟩
        simp [ha, hi]
     obtain ⟨i, hi⟩ := hi
     have hi2 : index (b :: l) [c] = ((i + 1 : Nat) : Int) := by
      rw [index, hi]
      have hp : [c].isPrefixOf (b :: l) = false := by simp [List.isPrefixOf, Ne.symm h]
      rw [hp]
      have : ¬ (((i : Int) == -1) = true) := by simp
      simp [this]
     rw [splitK, hi2] 
     rw [splitK, hi] at ih
     have n1 : ¬ ((((i + 1 : Nat) : Int) == -1) = true) := by simp; omega
     have n2 : ¬ (((i : Int) == -1) = true) := by simp
     rw [if_neg n1]
     rw [if_neg n2] at ih
     obtain ⟨a1, a2⟩ := List.cons.inj ih
     simp only [Int.toNat_natCast, Nat.add_zero, List.length_singleton] at a1 a2 ⊢
     rw [List.take_succ_cons, a1]
     congr 1
theorem splitB_splL (c : UInt8) (s : ByteArray) : (splitB ⟨#[c]⟩ 0 (countB s ⟨#[c]⟩) s).map (·.data.toList) = splL c s.data.toList := by
 have h := splitB_data ⟨#[c]⟩ 0 (countB s ⟨#[c]⟩) s
 rw [h]
 have e : countB s ⟨#[c]⟩ = s.data.toList.count c := by
  unfold countB
  exact count_one c _
 rw [e]
 exact splitK_splL c _
theorem own_lit {α : Type} {E : Elt α} {w : World} {G : Pin} {e n : Nat} (cells : List Value) (ys : List α) (hP : Pins G w) (hn : n = ys.length) (hm : n ≤ 1000000000) (hl : cells.length = n * E.size) (hr : ∀ i y, ys[i]? = some y → E.rep G ((cells.drop (i * E.size)).take E.size) y) :
  Own E e G (w.alloc (.cells cells.toArray e)) w.heap.size (.slice (some ⟨w.heap.size, 0, none⟩) n n) ys ∧ Pins G (w.alloc (.cells cells.toArray e)) ∧ Below w.heap.size w (w.alloc (.cells cells.toArray e)) := by
 have hfree : ∀ k, Value.ownBlock (.slice (some ⟨w.heap.size, 0, none⟩) n n) = some k → ∀ o u, ¬ G k o u := by
  intro k hk o u hG
  simp [Value.ownBlock] at hk
  have := block_lt (hP _ _ _ hG); omega
 have hb : Below w.heap.size w (w.alloc (.cells cells.toArray e)) := (Below.refl _ _).alloc (Nat.le_refl _) _
 have ho := World.ownsRow_lit (base := w.heap.size) (e := e) (size := E.size) w cells.toArray n (Nat.le_refl _) (by unfold maxLen; omega) (by simpa using hl)
 exact ⟨⟨⟨cells, by rw [← hn]; simpa using ho, hr⟩, hfree⟩, hP.below hb, hb⟩
theorem own_strs {w : World} {G : Pin} {e : Nat} (xs : List ByteArray) (hP : Pins G w) (hm : xs.length ≤ 1000000000) :
  Own eStr e G (w.alloc (.cells (xs.map Value.string).toArray e)) w.heap.size (.slice (some ⟨w.heap.size, 0, none⟩) xs.length xs.length) xs ∧ Pins G (w.alloc (.cells (xs.map Value.string).toArray e)) ∧ Below w.heap.size w (w.alloc (.cells (xs.map Value.string).toArray e)) :=
 own_lit (E := eStr) (xs.map Value.string) xs hP rfl hm (by simp [eStr]) fun i y hy => by
  have hi := (List.getElem?_eq_some_iff.1 hy)
  obtain ⟨h1, h2⟩ := hi
  show ((xs.map Value.string).drop (i * 1)).take 1 = [Value.string y]
  rw [Nat.mul_one, List.drop_eq_getElem_cons (by simpa using h1)]
  simp [h2]
end Go.GL

namespace Go.GL
open Go Go.RowKit Go.Lib
theorem ba_ext {a b : ByteArray} (h : a.data.toList = b.data.toList) : a = b := ByteArray.ext (Array.toList_inj.1 h)
theorem ba_app (a b : ByteArray) : (a ++ b).data.toList = a.data.toList ++ b.data.toList := by simp [ByteArray.data_append]

def numT (n : Int) : ByteArray := ⟨(Lib.itoa n).toArray⟩
def NumOk (n : Int) : Prop := 0 ≤ n ∧ n ≤ 999999
theorem numT_list {n : Int} (h : 0 ≤ n) : (numT n).data.toList = decDigits n.toNat := by
 unfold numT itoa
 rw [if_neg (by omega)]
theorem ofNat_toNat {k : Nat} (h : k < 256) : (UInt8.ofNat k).toNat = k := by
 rw [UInt8.toNat_ofNat']
 exact Nat.mod_eq_of_lt (by omega)
theorem ba_size (t : ByteArray) : t.data.toList.length = t.size := by rw [Array.length_toList]; rfl
theorem dec_dig (u : Nat) : ∀ c ∈ decDigits u, 48 ≤ c.toNat ∧ c.toNat ≤ 57 := fun c hc => by
 rw [decDigits] at hc
 split at hc
 ·rename_i h
  simp only [List.mem_singleton] at hc
  subst hc
  have e : (UInt8.ofNat (48 + u)).toNat = 48 + u := ofNat_toNat (by omega)
  omega
 ·rename_i h
  rcases List.mem_append.1 hc with h1 | h1
  ·exact dec_dig (u / 10) c h1
  ·simp only [List.mem_singleton] at h1
   subst h1
   have e : (UInt8.ofNat (48 + u % 10)).toNat = 48 + u % 10 := ofNat_toNat (by omega)
   omega
termination_by u
decreasing_by omega
theorem dec_size : ∀ (k u : Nat), u < 10 ^ (k + 1) → 1 ≤ (decDigits u).length ∧ (decDigits u).length ≤ k + 1
 | k, u => fun h => by
  rw [decDigits]
  split
  ·simp
  ·rename_i h10
   cases k with
   | zero => exact absurd h (by simpa using h10)
   | succ k =>
    have := dec_size k (u / 10) (by rw [Nat.pow_succ] at h; omega)
    simp only [List.length_append, List.length_singleton]
    omega
theorem decFrom_app : ∀ (a b : List UInt8) (acc : Nat), decFrom acc (a ++ b) = (decFrom acc a).bind fun m => decFrom m b
 | [], b, acc => rfl
 | x :: a, b, acc => by
  simp only [List.cons_append, decFrom]
  cases digitVal x with
  | none => rfl
  | some d => exact decFrom_app a b _
theorem digit_of {u : Nat} (h : u < 10) : digitVal (UInt8.ofNat (48 + u)) = some u := by
 have e : (UInt8.ofNat (48 + u)).toNat = 48 + u := ofNat_toNat (by omega)
 unfold digitVal
 rw [e, if_pos (by omega)]
 congr 1; omega
theorem dec_read (u : Nat) : decFrom 0 (decDigits u) = some u := by
 rw [decDigits]
 split
 ·rename_i h
  simp only [decFrom, digit_of h]
  congr 1; omega
 ·rename_i h
  rw [decFrom_app, dec_read (u / 10)]
  simp only [Option.bind_some, decFrom, digit_of (Nat.mod_lt u (by omega : 10 > 0))]
  congr 1; omega
termination_by u
decreasing_by omega
theorem numT_size {n : Int} (h : NumOk n) : 1 ≤ (numT n).size ∧ (numT n).size ≤ 6 := by
 have e : (numT n).size = (decDigits n.toNat).length := by rw [← numT_list h.1, ba_size]
 rw [e]
 exact dec_size 5 n.toNat (by have := h.1; have := h.2; omega)
theorem numT_dig {n : Int} (h : 0 ≤ n) : ∀ c ∈ (numT n).data.toList, 48 ≤ c.toNat ∧ c.toNat ≤ 57 := by rw [numT_list h]; exact dec_dig _
structure RdN (s : ByteArray) (n : Int) (ok : Bool) : Prop where
 all : ∀ m, NumOk m → numT m = s → n = m ∧ ok = true
 lo : -999999 ≤ n
 hi : n ≤ 999999

def joinC (c : UInt8) (xs : List ByteArray) : ByteArray := ⟨(Lib.join (xs.map (·.data.toList)) [c]).toArray⟩
theorem joinC_list (c : UInt8) (xs : List ByteArray) : (joinC c xs).data.toList = Lib.join (xs.map (·.data.toList)) [c] := rfl
theorem joinC_nil (c : UInt8) : joinC c [] = ⟨#[]⟩ := by unfold joinC; rw [List.map_nil, Lib.join_nil]
theorem joinC_one (c : UInt8) (x : ByteArray) : joinC c [x] = x := by
 apply ba_ext
 rw [joinC_list]
 simp [Lib.join_one]
theorem joinC_cons (c : UInt8) (x y : ByteArray) (xs : List ByteArray) : (joinC c (x :: y :: xs)).data.toList = x.data.toList ++ c :: (joinC c (y :: xs)).data.toList := by
 rw [joinC_list, joinC_list]
 simp only [List.map_cons, Lib.join_cons, Lib.joinTail]
 simp
theorem joinC_app (c : UInt8) : ∀ (xs : List ByteArray) (y : ByteArray), joinC c (xs ++ [y]) = (if 0 < xs.length then joinC c xs ++ (⟨#[c]⟩ : ByteArray) else joinC c xs) ++ y
 | [], y => by
  apply ba_ext
  rw [List.nil_append, joinC_one]
  simp [joinC_nil, ByteArray.data_append]
 | [x], y => by
  apply ba_ext
  rw [List.singleton_append, joinC_cons, joinC_one, joinC_one]
  simp [ByteArray.data_append]
 | x :: z :: xs, y => by
  have ih := joinC_app c (z :: xs) y
  apply ba_ext
  rw [List.cons_append, List.cons_append, joinC_cons, ← List.cons_append, ih]
  simp only [List.length_cons, Nat.zero_lt_succ, if_true, ba_app, joinC_cons, List.append_assoc, List.cons_append]
theorem map_data_inj : ∀ {xs ys : List ByteArray}, xs.map (·.data.toList) = ys.map (·.data.toList) → xs = ys
 | [], [], _ => rfl
 | [], _ :: _, h => by simp at h
 | _ :: _, [], h => by simp at h
 | x :: xs, y :: ys, h => by
  simp only [List.map_cons, List.cons.injEq] at h
  rw [ba_ext h.1, map_data_inj h.2]
def partsB (c : UInt8) (s : ByteArray) : List ByteArray := splitB ⟨#[c]⟩ 0 (countB s ⟨#[c]⟩) s
theorem parts_ne (c : UInt8) (s : ByteArray) : 1 ≤ (partsB c s).length := by
 have h := congrArg List.length (splitB_splL c s)
 rw [List.length_map] at h
 have h2 := splL_ne c s.data.toList
 have h3 : (splL c s.data.toList).length ≠ 0 := fun e => h2 (List.eq_nil_of_length_eq_zero e)
 unfold partsB; omega
theorem splL_len (c : UInt8) : ∀ l : List UInt8, (splL c l).length ≤ l.length + 1
 | [] => by simp [splL]
 | b :: l => by
  have ih := splL_len c l
  unfold splL
  split
  ·simp only [List.length_cons]; omega
  ·split
   ·simp
   ·rename_i x r e
    rw [e] at ih
    simp only [List.length_cons] at ih ⊢; omega
theorem splL_size (c : UInt8) : ∀ l : List UInt8, ∀ x ∈ splL c l, x.length ≤ l.length
 | [], x, hx => by simp [splL] at hx; simp [hx]
 | b :: l, x, hx => by
  have ih := splL_size c l
  unfold splL at hx
  split at hx
  ·rcases List.mem_cons.1 hx with h | h
   ·simp [h]
   ·have := ih x h; simp only [List.length_cons]; omega
  ·split at hx
   ·simp only [List.mem_singleton] at hx; subst hx; simp
   ·rename_i y r e
    rcases List.mem_cons.1 hx with h | h
    ·have := ih y (by rw [e]; simp); subst h; simp only [List.length_cons]; omega
    ·have := ih x (by rw [e]; simp [h]); simp only [List.length_cons]; omega
theorem parts_len (c : UInt8) (s : ByteArray) : (partsB c s).length ≤ s.size + 1 := by
 have h := congrArg List.length (splitB_splL c s)
 rw [List.length_map] at h
 have h2 := splL_len c s.data.toList
 have e : s.data.toList.length = s.size := ba_size s
 unfold partsB; omega
theorem parts_size (c : UInt8) (s : ByteArray) : ∀ x ∈ partsB c s, x.size ≤ s.size := fun x hx => by
 have h2 := splL_size c s.data.toList x.data.toList (by rw [← splitB_splL]; exact List.mem_map_of_mem hx)
 rw [ba_size, ba_size] at h2; exact h2
end Go.GL

namespace Go.GL
open Go Go.RowKit Go.Lib
theorem one_list (c : UInt8) : (⟨#[c]⟩ : ByteArray).data.toList = [c] := rfl


end Go.GL

namespace Go.GL
open Go Go.RowKit
def sB (s : ByteArray) (i : Nat) : UInt8 := s[i]?.getD 0
section
variable {P : Program} {ρ : Operand → Value} {w : World} {d : Option Nat} {t ty : Nat} {pos : String} {aft : Array Edge} {g : Option (Nat × Bool)} {x y : Operand}
theorem r_idxB {k : IntKind} {s : ByteArray} {i : Int} (ht : P.underlying t = some .string) (hx : ρ x = .string s) (hy : ρ y = .int k i) (h0 : 0 ≤ i) (h1 : i < s.size) : (execOp ρ ⟨d, .index t x y, ty, pos, aft, g⟩).run P w = .ok (.value (.int .u8 ((sB s i.toNat).toNat : Int))) w := by
 have e : s[i.toNat]? = some (sB s i.toNat) := by
  unfold sB
  rw [getElem?_pos s i.toNat (by omega)]
  rfl
 simp [execOp, hx, hy, Instr.index, asIntOf, run_underlying ht, h0, e]
theorem r_cutL {p : ByteArray} {j : Int} (ht : P.underlying t = some .string) (hx : ρ x = .string p) (hy : ρ y = .int .i64 j) (h0 : 0 ≤ j) (h1 : j ≤ p.size) :
  (execOp ρ ⟨d, .slice t x (some y) none none, ty, pos, aft, g⟩).run P w = .ok (.value (.string (p.extract j.toNat p.size))) w := by
 have h := run_slice_string_l (P := P) w t p ht .i64 j h0 h1
 simp [execOp, hx, hy, Instr.sliceAt, run_underlying ht, h]
theorem r_cutB {p : ByteArray} {z : Operand} {i j : Int} (ht : P.underlying t = some .string) (hx : ρ x = .string p) (hy : ρ y = .int .i64 i) (hz : ρ z = .int .i64 j) (h0 : 0 ≤ i) (h1 : i ≤ j) (h2 : j ≤ p.size) :
  (execOp ρ ⟨d, .slice t x (some y) (some z) none, ty, pos, aft, g⟩).run P w = .ok (.value (.string (p.extract i.toNat j.toNat))) w := by
 have h3 : 0 ≤ j := by omega
 have h4 : i ≤ (j.toNat : Int) := by omega
 have h : (Instr.slice t (.string p) (some (.int .i64 i)) (some (.int .i64 j)) none).run P w = .ok (.string (p.extract i.toNat j.toNat)) w := by
  have e1 := fun code => run_sliceBound (P := P) w .i64 i j.toNat code h0 h4
  simp [Instr.slice, run_underlying ht, Instr.sliceBounds, run_sliceBound, e1, h2, h3]
 simp [execOp, hx, hy, hz, Instr.sliceAt, run_underlying ht, h]
end
end Go.GL

namespace Go.GL
open Go Go.RowKit Go.Lib

section
variable {s : ByteArray} {v : Int}
theorem cut_app {c : UInt8} {x y : List UInt8} (h : c ∉ x) : Lib.cut (x ++ c :: y) [c] = (x, y, true) := by
 have hi : index (x ++ c :: y) [c] = (x.length : Int) := by
  rw [index_one]
  induction x with
  | nil => simp [indexByte]
  | cons b x ih =>
   have hb : (b == c) = false := by
    rw [beq_eq_false_iff_ne]; intro e; exact h (e ▸ List.mem_cons_self)
   have ih' := ih fun hx => h (List.mem_cons_of_mem _ hx)
   show (if b == c then 0 else if indexByte (x ++ c :: y) c == -1 then -1 else indexByte (x ++ c :: y) c + 1) = _
   rw [hb, ih']
   have : ((x.length : Int) == -1) = false := by rw [beq_eq_false_iff_ne]; omega
   rw [this]
   simp
 unfold Lib.cut
 rw [hi, if_pos (by omega)]
 simp
def cutA (c : UInt8) (s : ByteArray) : ByteArray := ⟨(Lib.cut s.data.toList [c]).1.toArray⟩
def cutZ (c : UInt8) (s : ByteArray) : ByteArray := ⟨(Lib.cut s.data.toList [c]).2.1.toArray⟩
def cutY (c : UInt8) (s : ByteArray) : Bool := (Lib.cut s.data.toList [c]).2.2
theorem ba_of_eq {a b : ByteArray} (h : (a.toList == b.toList) = true) : a = b := by
 have h2 := eq_of_beq h
 rw [ByteArray.toList_eq, ByteArray.toList_eq] at h2
 exact ByteArray.ext (Array.toList_inj.1 h2)
end
end Go.GL
namespace Go.GL
open Go Go.RowKit Go.Lib
theorem dig_ext : ∀ k, k < 10 → (⟨#[48, 49, 50, 51, 52, 53, 54, 55, 56, 57]⟩ : ByteArray).extract k (k + 1) = ⟨#[UInt8.ofNat (48 + k)]⟩ := by decide
theorem numT_dig1 {n : Int} (h : 0 ≤ n ∧ n < 10) : (⟨#[48, 49, 50, 51, 52, 53, 54, 55, 56, 57]⟩ : ByteArray).extract n.toNat (n + 1).toNat = numT n := by
 have e : (n + 1).toNat = n.toNat + 1 := by omega
 rw [e, dig_ext _ (by omega)]
 apply ba_ext
 rw [numT_list h.1, decDigits_one (by omega)]
theorem numT_step {n : Int} (h : 10 ≤ n) : numT (n / 10) ++ (⟨#[48, 49, 50, 51, 52, 53, 54, 55, 56, 57]⟩ : ByteArray).extract (n % 10).toNat (n % 10 + 1).toNat = numT n := by
 rw [numT_dig1 ⟨by omega, by omega⟩]
 apply ba_ext
 rw [ba_app, numT_list (n := n / 10) (by omega), numT_list (n := n % 10) (by omega), numT_list (n := n) (by omega), decDigits_one (i := (n % 10).toNat) (by omega)]
 conv => rhs; rw [decDigits]
 rw [dif_neg (by omega), show (n / 10).toNat = n.toNat / 10 by omega, show (n % 10).toNat = n.toNat % 10 by omega]
theorem numT_neg {n : Int} (h : n < 0) : (⟨#[45]⟩ : ByteArray) ++ numT (-n) = numT n := by
 apply ba_ext
 rw [ba_app, numT_list (by omega)]
 unfold numT itoa
 rw [if_pos h, show (-n).toNat = n.natAbs by omega]
 rfl
end Go.GL

namespace Go.GL
open Go Go.RowKit Go.Lib
theorem sB_list (s : ByteArray) {i : Nat} (h : i < s.size) : s.data.toList[i]? = some (sB s i) := by
 have h2 : i < s.data.toList.length := by rw [ba_size]; exact h
 rw [List.getElem?_eq_getElem h2]
 unfold sB
 rw [getElem?_pos s i h]
 rfl
theorem ba_extract (s : ByteArray) (a b : Nat) : (s.extract a b).data.toList = (s.data.toList.take b).drop a := by
 rw [ByteArray.data_extract, Array.toList_extract, List.extract_eq_take_drop, List.drop_take]
theorem take_snoc8 {l : List UInt8} {i : Nat} {b : UInt8} (h : l[i]? = some b) : l.take (i + 1) = l.take i ++ [b] := by
 obtain ⟨h1, h2⟩ := List.getElem?_eq_some_iff.1 h
 rw [List.take_succ_eq_append_getElem h1, h2]
theorem splL_snoc {c b : UInt8} : ∀ {l : List UInt8} {A : List (List UInt8)} {z : List UInt8}, splL c l = A ++ [z] → splL c (l ++ [b]) = if b = c then A ++ [z] ++ [[]] else A ++ [z ++ [b]]
 | [], A, z, h => by
  have h1 : A = [] ∧ z = [] := by
   cases A with
   | nil => simp [splL] at h; exact ⟨rfl, h⟩
   | cons x A => simp [splL] at h
  obtain ⟨rfl, rfl⟩ := h1
  by_cases e : b = c
  ·rw [if_pos e, List.nil_append, splL, if_pos e]; rfl
  ·rw [if_neg e, List.nil_append, splL, if_neg e]; rfl
 | a :: l, A, z, h => by
  by_cases ha : a = c
  ·rw [splL, if_pos ha] at h
   cases A with
   | nil =>
    simp only [List.nil_append, List.cons.injEq] at h
    exact absurd h.2 (splL_ne c l)
   | cons x A =>
    simp only [List.cons_append, List.cons.injEq] at h
    have ih := splL_snoc (b := b) h.2
    rw [List.cons_append, splL, if_pos ha, ih, h.1]
    split <;> simp
  ·match hx : splL c l, splL_ne c l with
   | x :: r, _ =>
    rw [splL_cons ha hx] at h
    cases A with
    | nil =>
     simp only [List.nil_append, List.cons.injEq] at h
     obtain ⟨h1, h2⟩ := h
     subst h2
     have ih := splL_snoc (b := b) (A := []) (z := x) hx
     rw [List.cons_append]
     by_cases e : b = c
     ·rw [if_pos e] at ih
      rw [splL_cons ha ih, if_pos e, h1]; rfl
     ·rw [if_neg e] at ih
      rw [splL_cons ha ih, if_neg e, ← h1]; rfl
    | cons y A =>
     simp only [List.cons_append, List.cons.injEq] at h
     obtain ⟨h1, h2⟩ := h
     have ih := splL_snoc (b := b) (A := x :: A) (z := z) (by rw [hx, h2]; rfl)
     rw [List.cons_append]
     by_cases e : b = c
     ·rw [if_pos e] at ih
      rw [splL_cons ha ih, if_pos e, h1]; rfl
     ·rw [if_neg e] at ih
      rw [splL_cons ha ih, if_neg e, h1]; rfl
structure SpI (s : ByteArray) (c : UInt8) (i f : Nat) (os : List ByteArray) : Prop where
 le : f ≤ i
 len : os.length ≤ i
 eq : splL c (s.data.toList.take i) = os.map (·.data.toList) ++ [(s.data.toList.take i).drop f]
section
variable {s : ByteArray} {c : UInt8} {i f : Nat} {os : List ByteArray}
theorem spI_zero : SpI s c 0 0 [] := ⟨Nat.le_refl _, Nat.le_refl _, by rw [List.take_zero]; rfl⟩
theorem spI_yes (h : SpI s c i f os) (hi : i < s.size) (hb : ((sB s i).toNat : Int) = (c.toNat : Int)) : SpI s c (i + 1) (i + 1) (os ++ [s.extract f i]) := by
 have hc : sB s i = c := UInt8.toNat_inj.1 (by omega)
 refine ⟨Nat.le_refl _, by rw [List.length_append]; have := h.len; simp only [List.length_singleton]; omega, ?_⟩
 have e := take_snoc8 (sB_list s hi)
 have hd : (s.data.toList.take (i + 1)).drop (i + 1) = [] := List.drop_eq_nil_of_le (by rw [List.length_take]; omega)
 rw [hd, e, splL_snoc h.eq, if_pos hc, List.map_append, List.map_cons, List.map_nil, ba_extract]
theorem spI_no (h : SpI s c i f os) (hi : i < s.size) (hb : ¬ ((sB s i).toNat : Int) = (c.toNat : Int)) : SpI s c (i + 1) f os := by
 have hc : ¬ sB s i = c := fun e => hb (by rw [e])
 have hl := h.le
 refine ⟨by omega, by have := h.len; omega, ?_⟩
 have e := take_snoc8 (sB_list s hi)
 have hlen : f ≤ (s.data.toList.take i).length := by rw [List.length_take, ba_size]; omega
 rw [e, splL_snoc h.eq, if_neg hc, List.drop_append_of_le_length hlen]
theorem spI_done (h : SpI s c i f os) (hi : i = s.size) : os ++ [s.extract f s.size] = partsB c s := by
 subst hi
 have hs := h.eq
 have ht : s.data.toList.take s.size = s.data.toList := List.take_of_length_le (by rw [ba_size]; exact Nat.le_refl _)
 apply map_data_inj
 have e2 : (partsB c s).map (·.data.toList) = splL c s.data.toList := splitB_splL c s
 rw [e2, List.map_append, List.map_cons, List.map_nil, ba_extract, ← hs, ht]
end

def pw10 : Nat → Int
 | 0 => 1
 | k + 1 => 10 * pw10 k
theorem pw10_le : ∀ {k : Nat}, k ≤ 6 → 1 ≤ pw10 k ∧ pw10 k ≤ 1000000 := by
 intro k hk
 have : k = 0 ∨ k = 1 ∨ k = 2 ∨ k = 3 ∨ k = 4 ∨ k = 5 ∨ k = 6 := by omega
 rcases this with rfl | rfl | rfl | rfl | rfl | rfl | rfl <;> decide
theorem pw10_next {k : Nat} (hk : k < 6) : pw10 (k + 1) = 10 * pw10 k ∧ 1 ≤ pw10 k ∧ pw10 k ≤ 100000 := by
 refine ⟨rfl, (pw10_le (by omega)).1, ?_⟩
 have : k = 0 ∨ k = 1 ∨ k = 2 ∨ k = 3 ∨ k = 4 ∨ k = 5 := by omega
 rcases this with rfl | rfl | rfl | rfl | rfl | rfl <;> decide
def RdD (s T : ByteArray) (j : Nat) (n : Int) : Prop := ∀ m, NumOk m → numT m = s → T = s ∧ decFrom 0 (T.data.toList.take j) = some n.toNat
section
variable {s T : ByteArray} {j : Nat} {n : Int}
theorem rdd_zero : RdD s s 0 0 := fun _ _ _ => ⟨rfl, by rw [List.take_zero]; rfl⟩
theorem num_byte {m : Int} (hm : NumOk m) (e : numT m = s) {i : Nat} (hi : i < s.size) : 48 ≤ (sB s i).toNat ∧ (sB s i).toNat ≤ 57 := by
 subst e
 exact numT_dig hm.1 _ (List.mem_of_getElem? (sB_list _ hi))
theorem rdd_neg (h : 1 < s.size) (hb : ((sB s 0).toNat : Int) = 45) : RdD s T j n := fun m hm e => by
 have := num_byte hm e (i := 0) (by omega); omega
theorem rdd_next (h : RdD s T j n) (h0 : 0 ≤ n) (hj : j < T.size) (h1 : 48 ≤ ((sB T j).toNat : Int)) (h2 : ((sB T j).toNat : Int) ≤ 57) : RdD s T (j + 1) (10 * n + (((sB T j).toNat : Int) - 48)) := fun m hm e => by
 obtain ⟨a, b⟩ := h m hm e
 refine ⟨a, ?_⟩
 have hd : digitVal (sB T j) = some ((sB T j).toNat - 48) := by unfold digitVal; rw [if_pos (by omega)]
 rw [decFrom_take _ j 0 n.toNat _ _ b (sB_list T hj) hd]
 congr 1; omega
theorem rdd_fail (h : RdD s T j n) (hj : j < T.size) (hb : ¬ (48 ≤ ((sB T j).toNat : Int) ∧ ((sB T j).toNat : Int) ≤ 57)) : RdN s 0 false :=
 ⟨fun m hm e => by
  obtain ⟨a, _⟩ := h m hm e
  subst a
  have := num_byte hm e hj
  exact absurd ⟨by omega, by omega⟩ hb, by omega, by omega⟩
theorem rdd_len (h : RdD s T j n) (hb : ¬ (1 ≤ T.size ∧ T.size ≤ 6)) : RdN s 0 false :=
 ⟨fun m hm e => by
  obtain ⟨a, _⟩ := h m hm e
  subst a
  have := numT_size hm
  rw [e] at this
  exact absurd this hb, by omega, by omega⟩
theorem rdd_is (h : RdD s T j n) (h0 : 0 ≤ n) (hj : T.size ≤ j) {m : Int} (hm : NumOk m) (e : numT m = s) : T = s ∧ n = m := by
 obtain ⟨a, b⟩ := h m hm e
 refine ⟨a, ?_⟩
 subst a
 rw [List.take_of_length_le (by rw [ba_size]; exact hj), ← e, numT_list hm.1, dec_read] at b
 have := Option.some.inj b
 have := hm.1
 omega
theorem rdd_no {n' : Int} (h : RdD s T j n) (h0 : 0 ≤ n) (hj : T.size ≤ j) (hn : T = s → n' = n) (hd : ((numT n').toList == s.toList) = false) : RdN s 0 false :=
 ⟨fun m hm e => by
  obtain ⟨a, b⟩ := rdd_is h h0 hj hm e
  rw [hn a, b, e] at hd
  simp at hd, by omega, by omega⟩
theorem rdd_yes {n' : Int} (h : RdD s T j n) (h0 : 0 ≤ n) (hj : T.size ≤ j) (hn : T = s → n' = n) (h1 : -999999 ≤ n') (h2 : n' ≤ 999999) : RdN s n' true :=
 ⟨fun m hm e => by
  obtain ⟨a, b⟩ := rdd_is h h0 hj hm e
  exact ⟨(hn a).trans b, rfl⟩, h1, h2⟩
end
end Go.GL
namespace Go.GL
open Go Go.RowKit
theorem r_sub8 {P : Program} {ρ : Operand → Value} {w : World} {d : Option Nat} {t ty t' : Nat} {pos : String} {aft : Array Edge} {g : Option (Nat × Bool)} {x y : Operand} {i j : Int} (hx : ρ x = .int .u8 i) (hy : ρ y = .int .u8 j) (h : 0 ≤ i - j ∧ i - j ≤ 255) : (execOp ρ ⟨d, .binOp .sub t x y t', ty, pos, aft, g⟩).run P w = .ok (.value (.int .u8 (i - j))) w := by
 simp [execOp, hx, hy, binOp, eqGuard, Op.intArith, IntWalk.u8_in _ h]
end Go.GL

namespace Go.GL
open Go Go.RowKit Go.Lib
def cB (s : ByteArray) (i : Int) : UInt8 := if 0 ≤ i ∧ i < (s.size : Int) then sB s i.toNat else 0
theorem cB_in {s : ByteArray} {i : Int} (h : 0 ≤ i ∧ i < (s.size : Int)) : cB s i = sB s i.toNat := if_pos h
theorem cB_out {s : ByteArray} {i : Int} (h : ¬ (0 ≤ i ∧ i < (s.size : Int))) : cB s i = 0 := if_neg h
def tx8 (l : List UInt8) : ByteArray := ⟨l.toArray⟩
theorem tx8_list (l : List UInt8) : (tx8 l).data.toList = l := rfl
def st1 (s : ByteArray) (i : Nat) (a : UInt8) : ByteArray := tx8 (s.data.toList.set i a)
def st2 (s : ByteArray) (i : Nat) (a : UInt8) (k : Nat) (b : UInt8) : ByteArray := tx8 ((s.data.toList.set i a).set k b)
theorem st1_st1 (s : ByteArray) (i : Nat) (a : UInt8) (k : Nat) (b : UInt8) : st1 (st1 s i a) k b = st2 s i a k b := rfl
theorem st2_same (s : ByteArray) (i : Nat) (a : UInt8) : st2 s i a i a = st1 s i a := by unfold st2 st1; rw [List.set_set]
theorem st1_size (s : ByteArray) (i : Nat) (a : UInt8) : (st1 s i a).size = s.size := by
 rw [← ba_size, ← ba_size]; unfold st1; rw [tx8_list, List.length_set]
theorem st1_cut {s : ByteArray} {i : Nat} (h : i < s.size) (c : UInt8) : (s.extract 0 i ++ (⟨#[c]⟩ : ByteArray)) ++ s.extract (i + 1) s.size = st1 s i c := by
 have ht : s.data.toList.take s.size = s.data.toList := List.take_of_length_le (by rw [ba_size]; exact Nat.le_refl _)
 apply ba_ext
 unfold st1
 rw [ba_app, ba_app, ba_extract, ba_extract, one_list, tx8_list, List.drop_zero, ht, List.append_assoc, List.singleton_append, List.set_eq_take_append_cons_drop, if_pos (by rw [ba_size]; exact h)]
def mineT (left : Bool) : UInt8 := if left = true then 84 else 70
def mineS (left : Bool) : UInt8 := if left = true then 76 else 82
def stpT (left : Bool) : Int := if left = true then 1 else -1
def toadAt (s : ByteArray) (left : Bool) (i : Nat) : List ByteArray :=
 if sB s i = mineT left then
  if cB s (i + stpT left) = 46 then [st2 s i 46 ((i : Int) + stpT left).toNat (mineT left)]
  else if cB s (i + stpT left) = mineT (!left) ∧ cB s (i + 2 * stpT left) = 46 then [st2 s i 46 ((i : Int) + 2 * stpT left).toNat (mineT left)] else []
 else []
def clobAt (s : ByteArray) (left : Bool) (i : Nat) : List ByteArray :=
 (if sB s i = mineS left ∧ cB s ((i : Int) - 1) = mineS (!left) then [st2 s i 46 ((i : Int) - 1).toNat (mineS left)] else []) ++
  (if sB s i = mineS left ∧ cB s ((i : Int) + 1) = mineS (!left) then [st2 s i 46 ((i : Int) + 1).toNat (mineS left)] else [])
def markAt (s : ByteArray) (mine bar : UInt8) (i : Nat) : List ByteArray :=
 if sB s i = 46 ∧ cB s ((i : Int) - 1) ≠ bar ∧ cB s ((i : Int) + 1) ≠ bar then [st1 s i mine] else []
def cellM (kind : Int) (s : ByteArray) (left : Bool) (i : Nat) : List ByteArray :=
 if kind = 0 then toadAt s left i else if kind = 1 then clobAt s left i else if kind = 2 then markAt s (mineS left) (mineS left) i else markAt s (mineS left) (mineS (!left)) i
def runM (f : Nat → List ByteArray) (n : Nat) : List ByteArray := (List.range n).flatMap f
theorem runM_succ (f : Nat → List ByteArray) (n : Nat) : runM f (n + 1) = runM f n ++ f n := by unfold runM; rw [List.range_succ, List.flatMap_append]; simp
theorem runM_len {f : Nat → List ByteArray} {k : Nat} (h : ∀ i, (f i).length ≤ k) : ∀ n, (runM f n).length ≤ k * n
 | 0 => Nat.zero_le _
 | n + 1 => by
  have := runM_len h n
  have := h n
  rw [runM_succ, List.length_append, Nat.mul_succ]; omega
def stripM (kind : Int) (s : ByteArray) (left : Bool) : List ByteArray := runM (cellM kind s left) s.size
end Go.GL
namespace Go.GL
open Go Go.RowKit Go.Lib
section
variable {s : ByteArray} {left : Bool} {i : Nat} {mine bar : UInt8}
theorem run_app {f : Nat → List ByteArray} {os ys : List ByteArray} {n : Nat} (h : os = runM f n) (e : f n = ys) : os ++ ys = runM f (n + 1) := by rw [runM_succ, h, e]
theorem run_nil {f : Nat → List ByteArray} {os : List ByteArray} {n : Nat} (h : os = runM f n) (e : f n = []) : os = runM f (n + 1) := by rw [runM_succ, ← h, e, List.append_nil]
theorem u8_eq {a b : UInt8} (h : (a.toNat : Int) = (b.toNat : Int)) : a = b := UInt8.toNat_inj.1 (by omega)
theorem u8_ne {a b : UInt8} (h : ¬ (a.toNat : Int) = (b.toNat : Int)) : ¬ a = b := fun e => h (by rw [e])
theorem cB_at {j : Int} (h : ((cB s j).toNat : Int) ≠ 0) : 0 ≤ j ∧ j < (s.size : Int) := by
 by_cases hj : 0 ≤ j ∧ j < (s.size : Int)
 ·exact hj
 ·rw [cB_out hj] at h; exact absurd rfl h
theorem toad_n (h : ¬ ((sB s i).toNat : Int) = ((mineT left).toNat : Int)) : toadAt s left i = [] := by unfold toadAt; rw [if_neg (u8_ne h)]
theorem toad_1 (h : ((sB s i).toNat : Int) = ((mineT left).toNat : Int)) (h1 : ((cB s ((i : Int) + stpT left)).toNat : Int) = ((46 : UInt8).toNat : Int)) : toadAt s left i = [st2 s i 46 ((i : Int) + stpT left).toNat (mineT left)] := by
 unfold toadAt; rw [if_pos (u8_eq h), if_pos (u8_eq h1)]
theorem toad_2 (h : ((sB s i).toNat : Int) = ((mineT left).toNat : Int)) (h1 : ¬ ((cB s ((i : Int) + stpT left)).toNat : Int) = ((46 : UInt8).toNat : Int)) (h2 : ((cB s ((i : Int) + stpT left)).toNat : Int) = ((mineT (!left)).toNat : Int)) (h3 : ((cB s ((i : Int) + 2 * stpT left)).toNat : Int) = ((46 : UInt8).toNat : Int)) :
  toadAt s left i = [st2 s i 46 ((i : Int) + 2 * stpT left).toNat (mineT left)] := by
 unfold toadAt; rw [if_pos (u8_eq h), if_neg (u8_ne h1), if_pos ⟨u8_eq h2, u8_eq h3⟩]
theorem toad_3 (h : ((sB s i).toNat : Int) = ((mineT left).toNat : Int)) (h1 : ¬ ((cB s ((i : Int) + stpT left)).toNat : Int) = ((46 : UInt8).toNat : Int)) (h2 : ¬ ((cB s ((i : Int) + stpT left)).toNat : Int) = ((mineT (!left)).toNat : Int)) : toadAt s left i = [] := by
 unfold toadAt; rw [if_pos (u8_eq h), if_neg (u8_ne h1), if_neg fun e => u8_ne h2 e.1]
theorem toad_4 (h1 : ¬ ((cB s ((i : Int) + stpT left)).toNat : Int) = ((46 : UInt8).toNat : Int)) (h3 : ¬ ((cB s ((i : Int) + 2 * stpT left)).toNat : Int) = ((46 : UInt8).toNat : Int)) : toadAt s left i = [] := by
 unfold toadAt
 split
 ·rw [if_neg (u8_ne h1), if_neg fun e => u8_ne h3 e.2]
 ·rfl
theorem mark_y (h : ((sB s i).toNat : Int) = ((46 : UInt8).toNat : Int)) (h1 : ¬ ((cB s ((i : Int) - 1)).toNat : Int) = (bar.toNat : Int)) (h2 : ¬ ((cB s ((i : Int) + 1)).toNat : Int) = (bar.toNat : Int)) : markAt s mine bar i = [st2 s i mine i mine] := by
 unfold markAt; rw [if_pos ⟨u8_eq h, u8_ne h1, u8_ne h2⟩, st2_same]
theorem mark_a (h : ¬ ((sB s i).toNat : Int) = ((46 : UInt8).toNat : Int)) : markAt s mine bar i = [] := by unfold markAt; rw [if_neg fun e => u8_ne h e.1]
theorem mark_b (h : ((cB s ((i : Int) - 1)).toNat : Int) = (bar.toNat : Int)) : markAt s mine bar i = [] := by unfold markAt; rw [if_neg fun e => e.2.1 (u8_eq h)]
theorem mark_c (h : ((cB s ((i : Int) + 1)).toNat : Int) = (bar.toNat : Int)) : markAt s mine bar i = [] := by unfold markAt; rw [if_neg fun e => e.2.2 (u8_eq h)]
end
end Go.GL
namespace Go.GL
def nbZ (i : Nat) (j : Nat) : Int := if j = 0 then (i : Int) - 1 else (i : Int) + 1
def clobP (s : ByteArray) (left : Bool) (i j : Nat) : List ByteArray := if sB s i = mineS left ∧ cB s (nbZ i j) = mineS (!left) then [st2 s i 46 (nbZ i j).toNat (mineS left)] else []
theorem clob_two (s : ByteArray) (left : Bool) (i : Nat) : runM (clobP s left i) 2 = clobAt s left i := by
 rw [runM_succ, runM_succ]; rfl
section
variable {s : ByteArray} {left : Bool} {i j : Nat}
theorem clob_y (h : ((sB s i).toNat : Int) = ((mineS left).toNat : Int)) (h1 : ((cB s (nbZ i j)).toNat : Int) = ((mineS (!left)).toNat : Int)) : clobP s left i j = [st2 s i 46 (nbZ i j).toNat (mineS left)] := by unfold clobP; rw [if_pos ⟨u8_eq h, u8_eq h1⟩]
theorem clob_a (h : ¬ ((sB s i).toNat : Int) = ((mineS left).toNat : Int)) : clobP s left i j = [] := by unfold clobP; rw [if_neg fun e => u8_ne h e.1]
theorem clob_b (h1 : ¬ ((cB s (nbZ i j)).toNat : Int) = ((mineS (!left)).toNat : Int)) : clobP s left i j = [] := by unfold clobP; rw [if_neg fun e => u8_ne h1 e.2]
theorem mineS_pos (left : Bool) : ((mineS left).toNat : Int) ≠ 0 := by cases left <;> decide
theorem run_join {f : Nat → List ByteArray} {os o2 ys : List ByteArray} {n : Nat} (h : os = runM f n) (e : o2 = os ++ ys) (h2 : f n = ys) : o2 = runM f (n + 1) := by rw [e]; exact run_app h h2
end
end Go.GL
namespace Go.GL
section
variable {s : ByteArray} {left : Bool} {kind : Int}
theorem strip_0 (h : kind = 0) : runM (toadAt s left) s.size = stripM kind s left := by subst h; rfl
theorem strip_1 (h : kind = 1) : runM (clobAt s left) s.size = stripM kind s left := by subst h; rfl
theorem strip_2 (h : kind = 2) : runM (markAt s (mineS left) (mineS left)) s.size = stripM kind s left := by subst h; rfl
theorem strip_3 (h0 : ¬ kind = 0) (h1 : ¬ kind = 1) (h2 : ¬ kind = 2) : runM (markAt s (mineS left) (mineS (!left))) s.size = stripM kind s left := by
 have e : cellM kind s left = markAt s (mineS left) (mineS (!left)) := by funext i; unfold cellM; rw [if_neg h0, if_neg h1, if_neg h2]
 unfold stripM; rw [e]
end
end Go.GL
namespace Go.GL
open Go Go.RowKit Go.Lib
def setX (s : ByteArray) (i : Nat) (t : ByteArray) : ByteArray := (s.extract 0 i ++ t) ++ s.extract (i + 1) s.size
theorem setX_one {s : ByteArray} {i : Nat} (h : i < s.size) (c : UInt8) : setX s i (⟨#[c]⟩ : ByteArray) = st1 s i c := st1_cut h c
theorem me_is {s : ByteArray} {i : Nat} (h : i < s.size) : s.extract i (i + 1) = (⟨#[sB s i]⟩ : ByteArray) := by
 apply ba_ext
 rw [ba_extract, take_snoc8 (sB_list s h), List.drop_append_of_le_length (by rw [List.length_take, ba_size]; omega), List.drop_eq_nil_of_le (by rw [List.length_take]; omega), one_list]
 rfl
end Go.GL
namespace Go.GL
section
variable {s : ByteArray} {i : Nat}
def frogM (s : ByteArray) (i : Nat) (stp : Int) (oth : UInt8) : List ByteArray :=
 (if cB s ((i : Int) + stp) = 46 then [st2 s i 46 ((i : Int) + stp).toNat (sB s i)] else []) ++
  (if cB s ((i : Int) + stp) = oth ∧ cB s ((i : Int) + 2 * stp) = 46 then [st2 s i 46 ((i : Int) + 2 * stp).toNat (sB s i)] else [])
theorem set_two {k : Int} (hi : i < s.size) (hk : 0 ≤ k ∧ k < (s.size : Int)) : setX (setX s i (⟨#[46]⟩ : ByteArray)) k.toNat (s.extract i (i + 1)) = st2 s i 46 k.toNat (sB s i) := by
 rw [me_is hi, setX_one hi, setX_one (by rw [st1_size]; omega), st1_st1]
theorem frog_toad {left : Bool} (h : sB s i = mineT left) : frogM s i (stpT left) (mineT (!left)) = toadAt s left i := by
 unfold frogM toadAt
 rw [if_pos h, h]
 by_cases h1 : cB s ((i : Int) + stpT left) = 46
 ·have hn : ¬ (cB s ((i : Int) + stpT left) = mineT (!left) ∧ cB s ((i : Int) + 2 * stpT left) = 46) := fun e => by
   have e1 := e.1
   rw [h1] at e1; revert e1; cases left <;> decide
  rw [if_pos h1, if_pos h1, if_neg hn]; rfl
 ·rw [if_neg h1, if_neg h1]; rfl
end
end Go.GL
namespace Go.GL
open Go Go.RowKit
theorem r_idx1 {P : Program} {ρ : Operand → Value} {w : World} {d : Option Nat} {t ty : Nat} {pos : String} {aft : Array Edge} {g : Option (Nat × Bool)} {x y : Operand} {k : IntKind} {c : UInt8} (ht : P.underlying t = some .string) (hx : ρ x = .string (⟨#[c]⟩ : ByteArray)) (hy : ρ y = .int k 0) :
  (execOp ρ ⟨d, .index t x y, ty, pos, aft, g⟩).run P w = .ok (.value (.int .u8 (c.toNat : Int))) w :=
 r_idxB (i := 0) ht hx hy (Int.le_refl _) (by show (0 : Int) < 1; omega)
section
variable {s : ByteArray} {left : Bool} {i j : Nat} {kind : Int}
theorem frog_len {stp : Int} {c : UInt8} : (frogM s i stp c).length ≤ 2 := by unfold frogM; rw [List.length_append]; split <;> split <;> simp
theorem frog_at (h0 : kind = 0) (h : ((sB s i).toNat : Int) = ((mineT left).toNat : Int)) : cellM kind s left i = frogM s i (stpT left) (mineT (!left)) := by
 rw [frog_toad (u8_eq h)]; unfold cellM; rw [if_pos h0]
theorem frog_no (h0 : kind = 0) (h : ¬ ((sB s i).toNat : Int) = ((mineT left).toNat : Int)) : cellM kind s left i = [] := by
 unfold cellM; rw [if_pos h0]; exact toad_n h
theorem clob_at (h1 : kind = 1) : cellM kind s left i = runM (clobP s left i) 2 := by
 unfold cellM; rw [if_neg (by omega), if_pos h1]; exact (clob_two s left i).symm
theorem clob_no (h1 : kind = 1) (h : ¬ ((sB s i).toNat : Int) = ((mineS left).toNat : Int)) (n : Nat) : runM (clobP s left i) n = cellM kind s left i := by
 have e : ∀ n, runM (clobP s left i) n = [] := fun n => by
  induction n with
  | zero => rfl
  | succ n ih => rw [runM_succ, ih, clob_a h]; rfl
 rw [clob_at h1, e, e]
theorem nb0 : nbZ i 0 = (i : Int) - 1 := rfl
theorem nb1 : nbZ i 1 = (i : Int) + 1 := rfl
theorem clobR_y {z : Int} (hz : z = nbZ i j) (h : ((sB s i).toNat : Int) = ((mineS left).toNat : Int)) (h1 : ((cB s z).toNat : Int) = ((mineS (!left)).toNat : Int)) : clobP s left i j = [st2 s i 46 z.toNat (mineS left)] := by subst hz; exact clob_y h h1
theorem clobR_b {z : Int} (hz : z = nbZ i j) (h1 : ¬ ((cB s z).toNat : Int) = ((mineS (!left)).toNat : Int)) : clobP s left i j = [] := by subst hz; exact clob_b h1
theorem setX_two {k : Int} {c : UInt8} (hi : i < s.size) (hk : 0 ≤ k ∧ k < (s.size : Int)) : setX (setX s i (⟨#[46]⟩ : ByteArray)) k.toNat (⟨#[c]⟩ : ByteArray) = st2 s i 46 k.toNat c := by
 rw [setX_one hi, setX_one (by rw [st1_size]; omega), st1_st1]
theorem mark_at {c : UInt8} (h0 : ¬ kind = 0) (h1 : ¬ kind = 1) (hb : (kind = 3 ∧ c = mineS (!left)) ∨ (kind = 2 ∧ c = mineS left)) : cellM kind s left i = markAt s (mineS left) c i := by
 unfold cellM
 rw [if_neg h0, if_neg h1]
 rcases hb with ⟨h, rfl⟩ | ⟨h, rfl⟩
 ·rw [if_neg (by omega)]
 ·rw [if_pos h]
theorem markX_y {c : UInt8} {bar : UInt8} (hi : i < s.size) (h : ((sB s i).toNat : Int) = ((46 : UInt8).toNat : Int)) (h1 : ¬ ((cB s ((i : Int) - 1)).toNat : Int) = (bar.toNat : Int)) (h2 : ¬ ((cB s ((i : Int) + 1)).toNat : Int) = (bar.toNat : Int)) : markAt s c bar i = [setX s i (⟨#[c]⟩ : ByteArray)] := by
 rw [mark_y h h1 h2, st2_same, setX_one hi]
end
end Go.GL

namespace Go.GL
open Go Go.RowKit

abbrev Cells := Nat → Nat → Bool
def lineC (n : Nat) (f : Nat → Bool) : List Bool := (List.range n).map f
def dR (left : Bool) : Nat := if left = true then 1 else 0
def dC (left : Bool) : Nat := if left = true then 0 else 1
def MvC (H W : Nat) (F : Cells) (left : Bool) (r c : Nat) : Prop := r + dR left < H ∧ c + dC left < W ∧ F r c = true ∧ F (r + dR left) (c + dC left) = true
def putC (F : Cells) (left : Bool) (r c : Nat) : Cells := fun i k => F i k && !decide (i = r ∧ k = c) && !decide (i = r + dR left ∧ k = c + dC left)
theorem lineC_len (n : Nat) (f : Nat → Bool) : (lineC n f).length = n := by simp [lineC]
theorem lineC_at {n : Nat} {f : Nat → Bool} {c : Nat} (h : c < n) : (lineC n f).getD c false = f c := by simp [lineC, List.getD, h]
end Go.GL

namespace Go.GL
open Go Go.RowKit

def eVal : Elt Value where
 size := 1
 rep := fun _ cs v => cs = [v] ∧ v.oneCell' = true
 mono := fun _ h => h
 len := fun h => by rw [h.1]; rfl
 one := fun h u hu => by rw [h.1] at hu; simp at hu; subst hu; exact h.2
def eVal2 : Elt (Value × Value) where
 size := 2
 rep := fun _ cs p => cs = [p.1, p.2] ∧ p.1.oneCell' = true ∧ p.2.oneCell' = true
 mono := fun _ h => h
 len := fun h => by rw [h.1]; rfl
 one := fun h u hu => by
  rw [h.1] at hu; simp at hu
  rcases hu with rfl | rfl
  ·exact h.2.1
  ·exact h.2.2
def Flat {α : Type} (E : Elt α) : Prop := ∀ {G G' : Pin} {cs : List Value} {x : α}, E.rep G cs x → E.rep G' cs x
theorem flat_val : Flat eVal := fun h => h
theorem Own.anti {α : Type} {E : Elt α} {e base : Nat} {G G' : Pin} {w : World} {v : Value} {xs : List α} (hE : Flat E) (h : Own E e G' w base v xs) (hg : Pin.le G G') : Own E e G w base v xs := by
 obtain ⟨cells, h1, h2⟩ := h.ex
 exact ⟨⟨cells, h1, fun i x hx => hE (h2 i x hx)⟩, fun k hk o u hu => h.free k hk o u (hg _ _ _ hu)⟩
theorem RSl.conv {α β : Type} {E : Elt α} {F : Elt β} {G : Pin} {v : Value} {xs : List α} {ys : List β} (h : RSl E G v xs) (hl : ys.length = xs.length) (hs : F.size = E.size) (hr : ∀ (i : Nat) x y cs, xs[i]? = some x → ys[i]? = some y → E.rep G cs x → F.rep G cs y) : RSl F G v ys := by
 refine ⟨?_, fun i y hy => ?_⟩
 ·obtain ⟨a, c, h1, h2, h3⟩ := h.sl
  exact ⟨a, c, by rw [hl]; exact h1, by rw [hl]; exact h2, h3⟩
 ·have hi : i < xs.length := by have := (List.getElem?_eq_some_iff.1 hy).1; omega
  obtain ⟨a, b, o, n, c, cs, h1, h2, h3, h4⟩ := h.at_ i _ (List.getElem?_eq_getElem hi)
  exact ⟨a, b, o, n, c, cs, h1, by rw [hs]; exact h2, hr i _ y cs (List.getElem?_eq_getElem hi) hy h3, h4⟩

abbrev Leaf := Value × List Int
structure Lvs (e : Nat) (G : Pin) (w : World) (lo hi : Nat) (L : List Leaf) : Prop where
 own : ∀ p ∈ L, Own eInt e G w lo p.1 p.2
 hi : ∀ p ∈ L, ∀ k, p.1.ownBlock = some k → k < hi
 ap : L.Pairwise fun p q => Apart p.1.ownBlock q.1.ownBlock
def ApL (L : List Leaf) (x : Option Nat) : Prop := ∀ p ∈ L, Apart p.1.ownBlock x
section
variable {e lo hi : Nat} {G G' : Pin} {w w' : World} {L L' : List Leaf}
theorem Lvs.map (h : Lvs e G w lo hi L) (f : ∀ p ∈ L, Own eInt e G w lo p.1 p.2 → Own eInt e G' w' lo p.1 p.2) : Lvs e G' w' lo hi L := ⟨fun p hp => f p hp (h.own p hp), h.hi, h.ap⟩
theorem Lvs.extS {S : Nat → Prop} (h : Lvs e G w lo hi L) (hx : Ext S G w G' w') (hS : ∀ k, lo ≤ k → k < hi → ¬ S k) : Lvs e G' w' lo hi L :=
 h.map fun p hp ho => ho.extS hx fun k hk => hS k (ho.lt k hk).1 (h.hi p hp k hk)
end


def lvN (ps : List (Value × Value)) (ns : List Nd) : List Leaf := (ps.zip ns).flatMap fun q => [(q.1.1, q.2.l), (q.1.2, q.2.r)]
structure DForm (en e : Nat) (G : Pin) (w : World) (lo hi : Nat) (v : Value) (ns : List Nd) : Prop where
 ex : ∃ ps, ps.length = ns.length ∧ Own eVal2 en G w lo v ps ∧ (∀ k, v.ownBlock = some k → k < hi) ∧ Lvs e G w lo hi (lvN ps ns) ∧ ApL (lvN ps ns) v.ownBlock




theorem Own.up {α : Type} {E : Elt α} {e base lo : Nat} {G : Pin} {w : World} {v : Value} {xs : List α} (h : Own E e G w base v xs) (hl : ∀ k, v.ownBlock = some k → lo ≤ k) : Own E e G w lo v xs := by
 obtain ⟨cells, ⟨hc, hown⟩, hr⟩ := h.ex
 refine ⟨⟨cells, ⟨hc, ?_⟩, hr⟩, h.free⟩
 rcases hown with hn | ⟨g, cap, cur, h1, h2, h3⟩
 ·exact .inl hn
 ·exact .inr ⟨g, cap, cur, h1, hl g (by rw [h1]; rfl), h3⟩
def inR (lo hi : Nat) (k : Nat) : Prop := lo ≤ k ∧ k < hi
theorem c_retct {P : Program} {n : Nat} {env : Nat → Value} {w : World} {fn : Func} {R : Ending → World → Prop} {s t b i : Nat} {cs : List Value} {v : Value} (hr : fn.results = #[.cell s t, .tmp i]) (hs : Nat.blt s n = true) (hi : Nat.blt i n = true) (hv : env s = .pointer (some ⟨b, 0, none⟩)) (hiv : env i = v) (ha : (P.underlying t).map aggD = some true) (hz : (P.info? t).map (·.size) = some cs.length)
  (hc : ∀ j u, cs[j]? = some u → w.cell? ⟨b, 0 + j, none⟩ = some u) (h : R (.returned (.tuple #[.agg cs.toArray, v])) w) : bodyPost P fn R .ret (F n env) w := by
 have h2 : s < n := by simpa [Nat.blt_eq] using hs
 have h3 : i < n := by simpa [Nat.blt_eq] using hi
 have hcell : ∀ j u, cs[j]? = some u → w.cell? ((⟨b, 0, none⟩ : Addr).add j) = some u := fun j u hj => by
  have := hc j u hj
  simp only [Addr.add]
  split
  ·simp_all
  ·exact this
 have hlv : (loadVar t ⟨b, 0, none⟩).run P w = .ok (.agg cs.toArray) w := by
  unfold loadVar
  simp only [Sem.run_bind, run_isAgg ha, Result.andThen_ok, if_true, run_sizeOf hz, run_loadCells_list (P := P) w ⟨b, 0, none⟩ cs hcell, Sem.run_pure]
 refine bodyPost_ret (v := .tuple #[.agg cs.toArray, v]) ?_ rfl h
 have he : (F n env).tmps[s]?.getD undef = .pointer (some ⟨b, 0, none⟩) := by simp [F, h2, hv]
 have he2 : (F n env).tmps[i]?.getD undef = v := by simp [F, h3, hiv]
 simp [results, hr, he, he2, asAddr, hlv]


def inV (us : List Value) (k : Nat) : Prop := ∃ u ∈ us, u.ownBlock = some k
theorem Ext.shrink {S : Nat → Prop} {G G' : Pin} {w w' : World} (h : Ext S G w G' w') : Ext S G w G w' :=
 ⟨Pin.le_refl _, fun b o u hu => h.pins b o u (h.le _ _ _ hu), fun _ _ _ hu => Or.inl hu, h.os, h.tape, h.output, h.size, h.block⟩


theorem Ext.promise {S : Nat → Prop} {A G G' : Pin} {w0 w : World} {lo : Nat} (h : Ext S A w0 G w) (hl : Pin.le G G') (hp : Pins G' w) (hf : ∀ b o x, G' b o x → G b o x ∨ lo ≤ b) (hlo : w0.heap.size ≤ lo) : Ext S A w0 G' w :=
 ⟨Pin.le_trans h.le hl, hp, fun b o u hu => by
  rcases hf b o u hu with a | a
  ·exact h.fresh b o u a
  ·exact Or.inr (Nat.le_trans hlo a), h.os, h.tape, h.output, h.size, h.block⟩
end Go.GL

namespace Go.GL
open Go Go.RowKit

section
variable {P : Program} {ρ : Operand → Value} {w : World} {d : Option Nat} {t e ty : Nat} {pos : String} {aft : Array Edge} {g : Option (Nat × Bool)} {x y : Operand}
theorem r_cutS {p : ByteArray} {j : Int} (ht : P.underlying t = some .string) (hx : ρ x = .string p) (hy : ρ y = .int .i64 j) (h0 : 0 ≤ j) (h1 : j ≤ p.size) :
  (execOp ρ ⟨d, .slice t x none (some y) none, ty, pos, aft, g⟩).run P w = .ok (.value (.string (p.extract 0 j.toNat))) w := by
 have h := run_slice_string_h (P := P) w t p ht .i64 j h0 h1
 simp [execOp, hx, hy, Instr.sliceAt, run_underlying ht, h]
theorem r_neqS_same {t' : Nat} {p : ByteArray} (hx : ρ x = .string p) (hy : ρ y = .string p) : (execOp ρ ⟨d, .binOp .neq t x y t', ty, pos, aft, g⟩).run P w = .ok (.value (.bool false)) w := by
 rw [r_neqS hx hy]; simp
theorem r_neqB_same {t' : Nat} {p : Bool} (ht : P.underlying t = some .bool) (hx : ρ x = .bool p) (hy : ρ y = .bool p) : (execOp ρ ⟨d, .binOp .neq t x y t', ty, pos, aft, g⟩).run P w = .ok (.value (.bool false)) w := by
 rw [r_neqB ht hx hy]; simp
def RunsIndex (vs : List Value) (z : Int) (u : Value) : Prop :=
 ∀ {P : Program} {w : World} {d : Option Nat} {t e ty n : Nat} {pos : String} {aft : Array Edge} {g : Option (Nat × Bool)} {x y : Operand} {ρ : Operand → Value}
  (_ : P.underlying t = some (.array n e)) (_ : n = vs.length) (_ : (P.info? e).map (·.size) = some 1) (_ : (P.underlying e).map aggD = some false) (_ : ρ x = .agg vs.toArray) (_ : ρ y = .int .i64 z),
  (execOp ρ ⟨d, .index t x y, ty, pos, aft, g⟩).run P w = .ok (.value u) w
theorem runs_index {vs : List Value} {z : Int} {u : Value} (h0 : 0 ≤ z) (hu : vs[z.toNat]? = some u) : RunsIndex vs z u := by
 intro P w d t e ty n pos aft g x y ρ ht hn hs ha hx hy
 have hlt : z.toNat < vs.length := (List.getElem?_eq_some_iff.1 hu).1
 have h2 : 0 ≤ z ∧ z < (n : Int) := ⟨h0, by omega⟩
 have hp : (part e vs.toArray (z.toNat * 1)).run P w = .ok u w := by
  unfold part
  simp only [Sem.run_bind, run_isAgg ha, Result.andThen_ok]
  simp [hu]
 simp only [execOp, hx, hy, Instr.index, asIntOf, Sem.run_bind, Sem.run_pure, Result.andThen_ok, run_underlying ht, h2, if_true, run_sizeOf hs, and_self]
 rw [hp]; rfl
theorem r_buildA {parts : Array (Nat × Operand)} {n m : Nat} {z : Value} (zs cs : List Value) (ps : List (Nat × Value × List Value)) (ht : P.underlying t = some (.array n e)) (hz : (P.info? t).bind (·.zero) = some z) (hzc : z.cells.toList = zs)
  (he : (P.info? e).map (·.size) = some m) (hpt : (parts.toList.map fun (i, x) => (i, ρ x)) = ps.map fun p => (p.1, p.2.1)) (hc : ∀ p ∈ ps, p.2.1.cells = p.2.2.toArray)
  (hf : fillL (fun i => some (i * m, m)) zs (ps.map fun p => (p.1, p.2.2)) = some cs) :
  (execOp ρ ⟨d, .build t parts, ty, pos, aft, g⟩).run P w = .ok (.value (.agg cs.toArray)) w := by
 obtain ⟨it, hit, hzz⟩ := Option.bind_eq_some_iff.1 hz
 obtain ⟨ie, hie, hm⟩ := Option.map_eq_some_iff.1 he
 subst hm
 have hb : P.built t (parts.map fun (i, x) => (i, ρ x)).toList = some cs.toArray := by
  unfold Program.built
  rw [hit, ht]
  simp only [hzz, hie]
  rw [Array.toList_map, hpt]
  have := fill_parts hc hf
  rw [← hzc] at this
  exact this
 have := Go.run_build (P := P) w t (parts.map fun (i, x) => (i, ρ x)) cs.toArray hb
 simp [execOp, this]
end




theorem RSl.strs {G : Pin} {w : World} {v : Value} {xs : List ByteArray} (h : RSl eStr G v xs) (hP : Pins G w) (hne : 0 < xs.length) :
  ∃ b o c, v = .slice (some ⟨b, o, none⟩) xs.length c ∧ xs.length ≤ c ∧ b < w.heap.size ∧ ∀ (j : Nat) x, xs[j]? = some x → w.cell? ⟨b, o + j, none⟩ = some (.string x) := by
 obtain ⟨a, c, rfl, hc, _⟩ := h.sl
 obtain ⟨a', b, o, n, c', cs, hv, hk, hr, hg⟩ := h.at_ 0 _ (List.getElem?_eq_getElem hne)
 simp only [Value.slice.injEq] at hv
 obtain ⟨rfl, rfl, rfl⟩ := hv
 have h0 : a' = ⟨b, o, none⟩ := by
  have := hk 0
  simpa [Addr.add] using this
 subst h0
 have hcell : ∀ (j : Nat) x, xs[j]? = some x → w.cell? ⟨b, o + j, none⟩ = some (.string x) := fun j x hx => by
  obtain ⟨a', b', o', n', c', cs', hv, hk', hr', hg'⟩ := h.at_ j x hx
  simp only [Value.slice.injEq, Option.some.injEq] at hv
  obtain ⟨rfl, _, _⟩ := hv
  have e := hk' 0
  have hcs : cs' = [.string x] := hr'
  subst hcs
  have h3 := hP _ _ _ (hg' 0 _ rfl)
  have hsz : eStr.size = 1 := rfl
  rw [hsz, Nat.mul_one, Nat.add_zero] at e
  have e2 : (⟨b, o, none⟩ : Addr).add j = ⟨b, o + j, none⟩ := by
   simp only [Addr.add]
   split
   ·rename_i h; subst h; rfl
   ·rfl
  rw [e2] at e
  rw [e]; exact h3
 refine ⟨b, o, c, rfl, hc, ?_, hcell⟩
 have h2 := hcell 0 _ (List.getElem?_eq_getElem hne)
 cases hb : w.heap[b]? with
 | none => simp [World.cell?, hb] at h2
 | some B => exact (Array.getElem?_eq_some_iff.1 hb).1


end Go.GL

namespace Go.GL
open Go Go.RowKit


section
variable {en e lo hi : Nat} {G G' : Pin} {w w' : World} {v : Value} {ns : List Nd}
theorem DForm.extS {S : Nat → Prop} (h : DForm en e G w lo hi v ns) (hx : Ext S G w G' w') (hS : ∀ k, lo ≤ k → k < hi → ¬ S k) : DForm en e G' w' lo hi v ns := by
 obtain ⟨ps, h1, h2, h3, h4, h5⟩ := h.ex
 exact ⟨⟨ps, h1, h2.extS hx (fun k hk => hS k (h2.lt k hk).1 (h3 k hk)), h3, h4.extS hx hS, h5⟩⟩
end


def DCh (en e : Nat) (G : Pin) (w : World) (R : Option Nat) : Nat → Nat → List Value → List (List Nd) → Prop
 | lo, hi, [], [] => lo ≤ hi
 | lo, hi, u :: us, f :: fs => ∃ l m, lo ≤ l ∧ l ≤ m ∧ (∀ b, R = some b → m ≤ b ∨ b < l) ∧ DForm en e G w l m u f ∧ DCh en e G w R m hi us fs
 | _, _, _, _ => False
section
variable {en e : Nat} {G G' : Pin} {w w' : World} {R R' : Option Nat}
theorem DCh.le : ∀ {lo hi : Nat} {us : List Value} {fs : List (List Nd)}, DCh en e G w R lo hi us fs → lo ≤ hi
 | _, _, [], [], h => h
 | _, _, _ :: _, _ :: _, ⟨_, _, h1, h2, _, _, h3⟩ => Nat.le_trans (Nat.le_trans h1 h2) h3.le
 | _, _, [], _ :: _, h => h.elim
 | _, _, _ :: _, [], h => h.elim
theorem DCh.map : ∀ {lo hi : Nat} {us : List Value} {fs : List (List Nd)}, DCh en e G w R lo hi us fs → (∀ l m u f, lo ≤ l → m ≤ hi → (∀ b, R = some b → m ≤ b ∨ b < l) → DForm en e G w l m u f → DForm en e G' w' l m u f) → DCh en e G' w' R lo hi us fs
 | _, _, [], [], h, _ => h
 | lo, hi, u :: us, f :: fs, ⟨l, m, h1, h0, hr, h2, h3⟩, hf => ⟨l, m, h1, h0, hr, hf _ _ _ _ h1 h3.le hr h2, h3.map fun l k u f hl hk hd => hf l k u f (by omega) hk hd⟩
 | _, _, [], _ :: _, h, _ => h.elim
 | _, _, _ :: _, [], h, _ => h.elim
end






section
variable {en ef e lo hi lo' hi' : Nat} {G G' : Pin} {w w' : World} {v : Value} {ns : List Nd} {us : List Value} {fs : List (List Nd)} {R : Option Nat}
theorem DCh.at : ∀ {lo hi j : Nat} {us : List Value} {fs : List (List Nd)}, DCh en e G w R lo hi us fs → j < fs.length → ∃ l m, lo ≤ l ∧ m ≤ hi ∧ (∀ b, R = some b → m ≤ b ∨ b < l) ∧ DForm en e G w l m (us.getD j default) (fs.getD j []) ∧
  ∀ {w' : World} {f' : List Nd}, Ext (inR l m) G w G w' → DForm en e G w' l m (us.getD j default) f' → DCh en e G w' R lo hi us (fs.set j f')
 | lo, hi, 0, u :: us, f :: fs, ⟨l, m, h1, h0, hr, h2, h3⟩, _ => ⟨l, m, h1, h3.le, hr, h2, fun hx hd => ⟨l, m, h1, h0, hr, hd, h3.map fun _ _ _ _ hl _ _ hq => hq.extS hx fun k h5 _ h7 => by have := h7.2; omega⟩⟩
 | lo, hi, j + 1, u :: us, f :: fs, ⟨l0, m0, h1, h0, hr, h2, h3⟩, hj => by
  obtain ⟨l, k, a1, a2, a3, a4, a5⟩ := h3.at (j := j) (by simpa using hj)
  exact ⟨l, k, by omega, a2, a3, by simpa using a4, fun hx hd => ⟨l0, m0, h1, h0, hr, h2.extS hx fun q _ h6 h7 => by have := h7.1; omega, a5 hx (by simpa using hd)⟩⟩
 | _, _, _, [], [], _, hj => (by simp at hj)
 | _, _, _, [], _ :: _, h, _ => h.elim
 | _, _, _, _ :: _, [], h, _ => h.elim
end

end Go.GL

namespace Go.GL





end Go.GL

namespace Go.GL




end Go.GL

namespace Go.GL

end Go.GL

namespace Go.GL
open Go Go.RowKit
def inO (x : Option Nat) (k : Nat) : Prop := x = some k

end Go.GL

namespace Go.GL
open Go Go.RowKit






section
variable {P : Program} {ρ : Operand → Value} {w : World} {K : Value → World → Prop} {d : Option Nat} {t kt et ty : Nat} {pos : String} {aft : Array Edge} {g : Option (Nat × Bool)} {x y z : Operand} {G : Pin}
 {κ ν : Type} [DecidableEq κ] {enc : κ → Value} {val : ν → Value} {m : Nat} {l : List (κ × ν)}
end
end Go.GL

namespace Go.GL
open Go Go.RowKit
section
variable {P : Program} {ρ : Operand → Value} {w : World} {d : Option Nat} {t ty t' : Nat} {pos : String} {aft : Array Edge} {g : Option (Nat × Bool)} {x y c : Operand}
 {v u : Value} {i j : Int} {k : IntKind} {G : Pin} {K : Value → World → Prop}
theorem wrapI {n : Int} (h : -9223372036854775808 ≤ n ∧ n ≤ 9223372036854775807) : IntKind.i64.wrap n = n := by
 simp [IntWalk.i64_in n h]
theorem r_conv {t2 : Nat} {k2 : IntKind} {td : TypeDesc} (hs : P.underlying t = some td) (hd : P.underlying t2 = some (.int k2)) (hx : ρ x = .int k i) (hw : k2.wrap i = j) : (execOp ρ ⟨d, .convert t t2 x, ty, pos, aft, g⟩).run P w = .ok (.value (.int k2 j)) w := by
 subst hw
 simp [execOp, hx, convert, run_underlying hs, run_underlying hd, Conv.intToInt]



def b2s (l : List UInt8) : ByteArray := ⟨l.toArray⟩
theorem fold_push : ∀ (l : List UInt8) (s : ByteArray), (l.map fun x => (x.toNat : Int)).foldl (fun r n => r.push (UInt8.ofNat n.toNat)) s = ⟨(s.data.toList ++ l).toArray⟩
 | [], s => by cases s; simp
 | x :: l, s => by
  rw [List.map_cons, List.foldl_cons, fold_push l]
  simp [ByteArray.push]
theorem r_b2s {e : Nat} {xs : List UInt8} (ht : P.underlying t = some (.slice e)) (he : P.underlying e = some (.int .u8)) (hs : P.underlying t' = some .string) (hx : ρ x = v) (hv : RSl eByte G v xs) (hP : Pins G w) :
  (execOp ρ ⟨d, .convert t t' x, ty, pos, aft, g⟩).run P w = .ok (.value (.string (b2s xs))) w := by
 obtain ⟨a, cp, rfl, _, _⟩ := hv.sl
 have key : (Conv.bytesToString (.slice a xs.length cp)).run P w = .ok (.string (b2s xs)) w := by
  cases a with
  | none =>
   have h0 : xs = [] := by
    cases xs with
    | nil => rfl
    | cons q r =>
     obtain ⟨a', _, _, _, _, _, h1, _⟩ := hv.at_ 0 q rfl
     cases h1
   subst h0; rfl
  | some a =>
   have hcell : ∀ j q, (xs.map fun x => Value.int .u8 (x.toNat : Int))[j]? = some q → w.cell? (a.add j) = some q := fun j q hj => by
    rw [List.getElem?_map] at hj
    obtain ⟨y, hy, rfl⟩ := Option.map_eq_some_iff.1 hj
    obtain ⟨a', b, o, n, c', cs, h1, h2, h3, h4⟩ := hv.at_ j y hy
    simp only [Value.slice.injEq, Option.some.injEq] at h1
    obtain ⟨rfl, _, _⟩ := h1
    have h5 := h2 0
    simp only [eByte, Nat.mul_one, Nat.add_zero] at h5 h3
    rw [h5]
    exact hP _ _ _ (by have := h4 0 _ (by rw [h3]; rfl); simpa using this)
   have hl := run_loadCells_list (P := P) w a (xs.map fun x => Value.int .u8 (x.toNat : Int)) hcell
   rw [List.length_map] at hl
   have e0 : (xs.map fun x => Value.int .u8 (x.toNat : Int)) = (xs.map fun x => (x.toNat : Int)).map (Value.int .u8) := by rw [List.map_map]; rfl
   rw [e0] at hl
   rw [run_bytesToString w a xs.length cp _ hl, fold_push]
   simp [b2s]
 simp only [execOp, hx, convert, Sem.run_bind, run_underlying ht, run_underlying hs, Result.andThen_ok, run_underlying he, key]
 rfl

end


end Go.GL

namespace Go.GL
open Go Go.RowKit Go.Lib
def rwS (rows : List ByteArray) (r : Nat) : ByteArray := rows.getD r ByteArray.empty
def frB (rows : List ByteArray) (r c : Nat) : Bool := decide (((sB (rwS rows r) c).toNat : Int) = 46)
def wdS (rows : List ByteArray) : Nat := (rwS rows 0).size
structure GbP (rows : List ByteArray) : Prop where
 hi : 1 ≤ rows.length ∧ rows.length ≤ 8
 wd : 1 ≤ wdS rows ∧ wdS rows ≤ 8
 eq : ∀ i, i < rows.length → (rwS rows i).size = wdS rows
 ch : ∀ i, i < rows.length → ∀ k, k < wdS rows → ((sB (rwS rows i) k).toNat : Int) = 46 ∨ ((sB (rwS rows i) k).toNat : Int) = 35
theorem sB_out {s : ByteArray} {i : Nat} (h : ¬ i < s.size) : sB s i = 0 := by
 unfold sB
 rw [getElem?_neg s i h]; rfl
theorem sB_data {s : ByteArray} {i : Nat} : sB s i = s.data.toList.getD i 0 := by
 unfold sB
 by_cases h : i < s.size
 ·rw [getElem?_pos s i h, List.getD]
  have h2 : i < s.data.toList.length := by simpa using h
  rw [List.getElem?_eq_getElem h2]
  simp [ByteArray.getElem_eq_getElem_data]
 ·rw [getElem?_neg s i h, List.getD]
  have h2 : ¬ i < s.data.toList.length := by simpa using h
  rw [List.getElem?_eq_none (by omega)]
  try rfl
theorem rwS_out {rows : List ByteArray} {r : Nat} (h : ¬ r < rows.length) : rwS rows r = ByteArray.empty := by
 unfold rwS
 rw [List.getD, List.getElem?_eq_none (by omega)]; rfl
theorem fr_rowout {rows : List ByteArray} {r c : Nat} (h : ¬ r < rows.length) : frB rows r c = false := by
 unfold frB
 rw [rwS_out h, sB_out (by show ¬ c < 0; omega)]
 decide
theorem fr_colout {rows : List ByteArray} {r c : Nat} (h : ¬ c < (rwS rows r).size) : frB rows r c = false := by
 unfold frB
 rw [sB_out h]
 decide

def byB (b : Bool) : UInt8 := if b = true then 46 else 35
def rowM (l : List Bool) : ByteArray := b2s (l.map byB)
def bdM (cells : List (List Bool)) : List ByteArray := cells.map rowM
def cellsM (rows : List ByteArray) : List (List Bool) := (List.range rows.length).map fun i => lineC (rwS rows i).size (frB rows i)
def setC (cells : List (List Bool)) (r c : Nat) : List (List Bool) := cells.set r ((cells.getD r []).set c false)
def nextC (rows : List ByteArray) (left : Bool) (r c : Nat) : List (List Bool) := setC (setC (cellsM rows) r c) (r + dR left) (c + dC left)
theorem b2s_list (l : List UInt8) : (b2s l).data.toList = l := by unfold b2s; simp
theorem b2s_size (l : List UInt8) : (b2s l).size = l.length := by unfold b2s; simp [ByteArray.size]
theorem sB_b2s (l : List UInt8) (k : Nat) : sB (b2s l) k = l.getD k 0 := by rw [sB_data, b2s_list]
theorem b2s_ext {l m : List UInt8} (h : l.length = m.length) (k : ∀ i, i < l.length → l.getD i 0 = m.getD i 0) : b2s l = b2s m := by
 congr 1
 apply List.ext_getElem h
 intro i h1 h2
 have := k i h1
 simpa [List.getD, h1, h2] using this
theorem lineC_succ (n : Nat) (f : Nat → Bool) : lineC (n + 1) f = lineC n f ++ [f n] := by unfold lineC; rw [List.range_succ]; simp
section
variable {rows : List ByteArray} {left : Bool} {r c : Nat}
theorem cells_len : (cellsM rows).length = rows.length := by simp [cellsM]
theorem cells_at {i : Nat} (h : i < rows.length) : (cellsM rows).getD i [] = lineC (rwS rows i).size (frB rows i) := by simp [cellsM, List.getD, h]
theorem set_at (cells : List (List Bool)) (r c i k : Nat) : ((setC cells r c).getD i []).getD k false = ((cells.getD i []).getD k false && !decide (i = r ∧ k = c)) := by
 unfold setC
 by_cases hi : i = r
 ·subst hi
  by_cases hl : i < cells.length
  ·have e : (cells.set i ((cells.getD i []).set c false)).getD i [] = (cells.getD i []).set c false := by simp [List.getD, hl]
   rw [e]
   by_cases hk : k = c
   ·subst hk
    by_cases hk2 : k < (cells.getD i []).length
    ·have : ((cells.getD i []).set k false).getD k false = false := by
      simp only [List.getD]; rw [List.getElem?_set_self (by simpa [List.getD] using hk2)]; rfl
     rw [this]; simp
    ·have : ((cells.getD i []).set k false).getD k false = false := by
      rw [List.getD, List.getElem?_eq_none (by simpa using Nat.le_of_not_lt hk2)]; rfl
     rw [this]; simp
   ·have : ((cells.getD i []).set c false).getD k false = (cells.getD i []).getD k false := by
     simp only [List.getD]; rw [List.getElem?_set_ne (Ne.symm hk)]
    rw [this]; simp [hk]
  ·have e1 : cells.getD i [] = [] := by rw [List.getD, List.getElem?_eq_none (by omega)]; rfl
   rw [e1]
   have e2 : (cells.set i (([] : List Bool).set c false)).getD i [] = [] := by rw [List.getD, List.getElem?_eq_none (by simp; omega)]; rfl
   rw [e2]; simp
 ·have : (cells.set r ((cells.getD r []).set c false)).getD i [] = cells.getD i [] := by
   simp only [List.getD]; rw [List.getElem?_set_ne (Ne.symm hi)]
  rw [this]; simp [hi]
theorem set_len (cells : List (List Bool)) (r c : Nat) : (setC cells r c).length = cells.length := by unfold setC; simp
theorem set_row (cells : List (List Bool)) (r c i : Nat) : ((setC cells r c).getD i []).length = (cells.getD i []).length := by
 unfold setC
 by_cases hi : i = r
 ·subst hi
  by_cases hl : i < cells.length
  ·have e : (cells.set i ((cells.getD i []).set c false)).getD i [] = (cells.getD i []).set c false := by simp [List.getD, hl]
   rw [e]; simp
  ·have e1 : cells.getD i [] = [] := by rw [List.getD, List.getElem?_eq_none (by omega)]; rfl
   rw [e1]
   have e2 : (cells.set i (([] : List Bool).set c false)).getD i [] = [] := by rw [List.getD, List.getElem?_eq_none (by simp; omega)]; rfl
   rw [e2]
 ·have : (cells.set r ((cells.getD r []).set c false)).getD i [] = cells.getD i [] := by
   simp only [List.getD]; rw [List.getElem?_set_ne (Ne.symm hi)]
  rw [this]
theorem next_len : (nextC rows left r c).length = rows.length := by unfold nextC; rw [set_len, set_len, cells_len]
theorem next_row (g : GbP rows) {i : Nat} (h : i < rows.length) : ((nextC rows left r c).getD i []).length = wdS rows := by
 unfold nextC; rw [set_row, set_row, cells_at h, lineC_len, g.eq i h]
theorem next_at (g : GbP rows) {i k : Nat} (h : i < rows.length) (hk : k < wdS rows) : ((nextC rows left r c).getD i []).getD k false = putC (frB rows) left r c i k := by
 unfold nextC
 rw [set_at, set_at, cells_at h, lineC_at (by rw [g.eq i h]; exact hk)]
 rfl
theorem bd_row (cells : List (List Bool)) {i : Nat} (h : i < cells.length) : rwS (bdM cells) i = rowM (cells.getD i []) := by
 unfold rwS bdM; simp [List.getD, h]
theorem row_at (l : List Bool) {k : Nat} (h : k < l.length) : sB (rowM l) k = byB (l.getD k false) := by
 unfold rowM; rw [sB_b2s]; simp [List.getD, h]
theorem row_size (l : List Bool) : (rowM l).size = l.length := by unfold rowM; rw [b2s_size]; simp
theorem by_46 (b : Bool) : decide (((byB b).toNat : Int) = 46) = b := by cases b <;> decide
theorem by_ch (b : Bool) : ((byB b).toNat : Int) = 46 ∨ ((byB b).toNat : Int) = 35 := by cases b <;> decide

def plL (l : List UInt8) (i r c : Nat) (left : Bool) : List UInt8 :=
 if left = true ∧ i = r + 1 then (if i = r then (if left = true then l.set c 35 else (l.set c 35).set (c + 1) 35) else l).set c 35
 else if i = r then (if left = true then l.set c 35 else (l.set c 35).set (c + 1) 35) else l
def placedM (rows : List ByteArray) (r c : Nat) (left : Bool) : List ByteArray := (List.range rows.length).map fun i => b2s (plL (rwS rows i).data.toList i r c left)
theorem setU_at (l : List UInt8) (c k : Nat) : (l.set c 35).getD k 0 = if k = c ∧ k < l.length then 35 else l.getD k 0 := by
 by_cases h : k = c
 ·subst h
  by_cases hl : k < l.length
  ·rw [if_pos ⟨rfl, hl⟩]; simp [List.getD, hl]
  ·rw [if_neg (fun h => hl h.2), List.getD, List.getD, List.getElem?_eq_none (by simpa using Nat.le_of_not_lt hl), List.getElem?_eq_none (by omega)]
 ·rw [if_neg (fun e => h e.1)]; simp only [List.getD]; rw [List.getElem?_set_ne (Ne.symm h)]
theorem pl_len (l : List UInt8) (i r c : Nat) (left : Bool) : (plL l i r c left).length = l.length := by
 unfold plL; split <;> (try split) <;> (try split) <;> simp
theorem pl_at (l : List UInt8) (i r c k : Nat) (left : Bool) (hk : k < l.length) : (plL l i r c left).getD k 0 = if (i = r ∧ k = c) ∨ (i = r + dR left ∧ k = c + dC left) then 35 else l.getD k 0 := by
 unfold plL
 cases left with
 | true =>
  have e1 : dR true = 1 := rfl
  have e2 : dC true = 0 := rfl
  rw [e1, e2]
  by_cases h1 : i = r + 1
  ·rw [if_pos ⟨rfl, h1⟩, if_neg (show ¬ i = r by omega), setU_at]
   by_cases h2 : k = c
   ·rw [if_pos ⟨h2, hk⟩, if_pos (Or.inr ⟨h1, h2⟩)]
   ·rw [if_neg (fun h => h2 h.1), if_neg (by omega)]
  ·rw [if_neg (fun h => h1 h.2)]
   by_cases h2 : i = r
   ·rw [if_pos h2, if_pos rfl, setU_at]
    by_cases h3 : k = c
    ·rw [if_pos ⟨h3, hk⟩, if_pos (Or.inl ⟨h2, h3⟩)]
    ·rw [if_neg (fun h => h3 h.1), if_neg (by omega)]
   ·rw [if_neg h2, if_neg (by omega)]
 | false =>
  have e1 : dR false = 0 := rfl
  have e2 : dC false = 1 := rfl
  rw [e1, e2, if_neg (fun h => by cases h.1)]
  by_cases h2 : i = r
  ·rw [if_pos h2, if_neg (by decide), setU_at, setU_at]
   by_cases h3 : k = c + 1
   ·rw [if_pos ⟨h3, by simpa using hk⟩, if_pos (Or.inr ⟨by omega, h3⟩)]
   ·rw [if_neg (fun h => h3 h.1)]
    by_cases h4 : k = c
    ·rw [if_pos ⟨h4, hk⟩, if_pos (Or.inl ⟨h2, h4⟩)]
    ·rw [if_neg (fun h => h4 h.1), if_neg (by omega)]
  ·rw [if_neg h2, if_neg (by omega)]
theorem placed_eq (g : GbP rows) : placedM rows r c left = bdM (nextC rows left r c) := by
 apply List.ext_getElem
 ·simp [placedM, bdM, next_len]
 ·intro i h1 h2
  have hi : i < rows.length := by simpa [placedM] using h1
  have hn : i < (nextC rows left r c).length := by rw [next_len]; exact hi
  have e1 : (bdM (nextC rows left r c))[i] = rowM ((nextC rows left r c).getD i []) := by simp [bdM, List.getD, hn]
  have e2 : (placedM rows r c left)[i] = b2s (plL (rwS rows i).data.toList i r c left) := by simp [placedM]
  have hsz : (rwS rows i).data.toList.length = wdS rows := g.eq i hi
  rw [e1, e2]
  unfold rowM
  refine b2s_ext (by rw [pl_len, hsz, List.length_map, next_row g hi]) fun k hk => ?_
  rw [pl_len, hsz] at hk
  have hk2 : k < ((nextC rows left r c).getD i []).length := by rw [next_row g hi]; exact hk
  have e3 : (((nextC rows left r c).getD i []).map byB).getD k 0 = byB (((nextC rows left r c).getD i []).getD k false) := by generalize (nextC rows left r c).getD i [] = L at hk2; simp [List.getD, hk2]
  rw [e3, next_at g hi hk, pl_at _ _ _ _ _ _ (by rw [hsz]; exact hk), ← sB_data]
  unfold putC
  by_cases h : (i = r ∧ k = c) ∨ (i = r + dR left ∧ k = c + dC left)
  ·rw [if_pos h]
   rcases h with h | h
   ·simp [h, byB]
   ·simp [h, byB]
  ·rw [if_neg h]
   have n1 : ¬ (i = r ∧ k = c) := fun e => h (Or.inl e)
   have n2 : ¬ (i = r + dR left ∧ k = c + dC left) := fun e => h (Or.inr e)
   rw [decide_eq_false n1, decide_eq_false n2]
   unfold frB
   rcases g.ch i hi k hk with e | e
   ·rw [decide_eq_true e]
    have : (sB (rwS rows i) k) = 46 := UInt8.toNat_inj.1 (by have : (46 : UInt8).toNat = 46 := rfl; omega)
    rw [this]; rfl
   ·rw [decide_eq_false (by omega)]
    have : (sB (rwS rows i) k) = 35 := UInt8.toNat_inj.1 (by have : (35 : UInt8).toNat = 35 := rfl; omega)
    rw [this]; rfl
end

def dmB (rows : List ByteArray) (left : Bool) (r c : Nat) : Bool := frB rows r c && frB rows (r + dR left) (c + dC left)
def dmRow {α : Type} (rows : List ByteArray) (left : Bool) (F : Nat → Nat → α) (r n : Nat) : List α := (List.range n).flatMap fun c => if dmB rows left r c = true then [F r c] else []
def dmAll {α : Type} (rows : List ByteArray) (left : Bool) (F : Nat → Nat → α) (n : Nat) : List α := (List.range n).flatMap fun r => dmRow rows left F r (wdS rows)
def dmM (rows : List ByteArray) (left : Bool) : List (List ByteArray) := dmAll rows left (fun r c => bdM (nextC rows left r c)) rows.length
section
variable {α : Type} {rows : List ByteArray} {left : Bool} {F : Nat → Nat → α} {r n : Nat}
theorem dmRow_yes (h : dmB rows left r n = true) : dmRow rows left F r (n + 1) = dmRow rows left F r n ++ [F r n] := by
 unfold dmRow; rw [List.range_succ, List.flatMap_append]; simp [h]
theorem dmRow_no (h : dmB rows left r n = false) : dmRow rows left F r (n + 1) = dmRow rows left F r n := by
 unfold dmRow; rw [List.range_succ, List.flatMap_append]; simp [h]
theorem dmAll_succ : dmAll rows left F (n + 1) = dmAll rows left F n ++ dmRow rows left F n (wdS rows) := by
 unfold dmAll; rw [List.range_succ, List.flatMap_append]; simp
theorem dmAll_congr {F' : Nat → Nat → α} (h : ∀ r c, F r c = F' r c) : dmAll rows left F n = dmAll rows left F' n := by
 have : F = F' := funext fun r => funext fun c => h r c
 rw [this]
theorem placed_moves (g : GbP rows) : dmAll rows left (fun r c => placedM rows r c left) rows.length = dmM rows left := dmAll_congr fun _ _ => placed_eq g
theorem dmB_iff (g : GbP rows) {c : Nat} : dmB rows left r c = true ↔ MvC rows.length (wdS rows) (frB rows) left r c := by
 unfold dmB MvC
 rw [Bool.and_eq_true]
 have key : ∀ i k, frB rows i k = true → i < rows.length ∧ k < wdS rows := fun i k h => by
  have h1 : i < rows.length := Classical.byContradiction fun hn => by rw [fr_rowout hn] at h; cases h
  have h2 : k < (rwS rows i).size := Classical.byContradiction fun hn => by rw [fr_colout hn] at h; cases h
  rw [g.eq i h1] at h2
  exact ⟨h1, h2⟩
 constructor
 ·rintro ⟨h1, h2⟩
  exact ⟨(key _ _ h2).1, (key _ _ h2).2, h1, h2⟩
 ·rintro ⟨_, _, h1, h2⟩
  exact ⟨h1, h2⟩
end

theorem data_line (s : ByteArray) : s.data.toList = (List.range s.size).map (sB s) := by
 apply List.ext_getElem
 ·rw [List.length_map, List.length_range]; rfl
 ·intro i h1 h2
  simp only [List.getElem_map, List.getElem_range]
  rw [sB_data, List.getD, List.getElem?_eq_getElem h1]; rfl
end Go.GL

namespace Go.GL
open Go Go.RowKit Go.Lib
theorem dw_nil {p : UInt8 → Bool} : ∀ {l : List UInt8}, l.dropWhile p = [] ↔ ∀ x ∈ l, p x = true
 | [] => by simp
 | a :: l => by
  rw [List.dropWhile_cons]
  cases h : p a with
  | true => simp [h, dw_nil (l := l)]
  | false => simp [h]
theorem tw_mem {p : UInt8 → Bool} {b : UInt8} : ∀ {l : List UInt8}, b ∈ l.takeWhile p → p b = true
 | [], h => by simp at h
 | a :: l, h => by
  rw [List.takeWhile_cons] at h
  cases ha : p a with
  | true =>
   rw [ha] at h
   rcases List.mem_cons.1 h with rfl | h
   ·exact ha
   ·exact tw_mem h
  | false => rw [ha] at h; simp at h
theorem trimS_nil {l cs : List UInt8} : trimS l cs = [] ↔ ∀ b ∈ l, b ∈ cs := by
 unfold trimS trimLeftS trimRightS
 rw [dw_nil]
 constructor
 ·intro h b hb
  have e := List.takeWhile_append_dropWhile (p := fun x => cs.contains x) (l := l.reverse)
  have hb2 : b ∈ l.reverse := List.mem_reverse.2 hb
  rw [← e] at hb2
  rcases List.mem_append.1 hb2 with h1 | h1
  ·have := tw_mem h1
   simpa using this
  ·have := h b (List.mem_reverse.2 h1)
   simpa using this
 ·intro h b hb
  have h1 := List.mem_reverse.1 hb
  have h2 := (List.dropWhile_sublist _).mem h1
  have := h b (List.mem_reverse.1 h2)
  simpa using this
def trimM (s : ByteArray) (cs : List UInt8) : ByteArray := ⟨(trimS s.data.toList cs).toArray⟩
theorem bytes_nil {s : ByteArray} : (s.toList == (⟨#[]⟩ : ByteArray).toList) = true ↔ s.data.toList = [] := by
 rw [ByteArray.toList_eq, ByteArray.toList_eq, beq_iff_eq]
theorem mem_sB {s : ByteArray} {P : UInt8 → Prop} : (∀ b ∈ s.data.toList, P b) ↔ ∀ k, k < s.size → P (sB s k) := by
 constructor
 ·intro h k hk
  rw [sB_data]
  exact h _ (getD_mem (show k < s.data.toList.length from hk))
 ·intro h b hb
  obtain ⟨k, hk, e⟩ := List.getElem_of_mem hb
  have := h k hk
  rw [sB_data, List.getD, List.getElem?_eq_getElem hk, e] at this
  exact this
theorem trim_yes {s : ByteArray} {cs : List UInt8} (h : ((trimM s cs).toList == (⟨#[]⟩ : ByteArray).toList) = true) : ∀ k, k < s.size → sB s k ∈ cs := by
 have h1 := bytes_nil.1 h
 unfold trimM at h1
 rw [List.toList_toArray] at h1
 exact mem_sB.1 (trimS_nil.1 h1)
theorem trim_no {s : ByteArray} {cs : List UInt8} (h : ((trimM s cs).toList == (⟨#[]⟩ : ByteArray).toList) = false) : ¬ ∀ k, k < s.size → sB s k ∈ cs := fun k => by
 have : ((trimM s cs).toList == (⟨#[]⟩ : ByteArray).toList) = true := by
  apply bytes_nil.2
  unfold trimM
  rw [List.toList_toArray]
  exact trimS_nil.2 (mem_sB.2 k)
 rw [h] at this; cases this

def RowOk (s : ByteArray) (n : Nat) : Prop := s.size = n ∧ ∀ k, k < s.size → ((sB s k).toNat : Int) = 46 ∨ ((sB s k).toNat : Int) = 35
theorem in_dots {b : UInt8} : b ∈ [46, 35] ↔ ((b.toNat : Int) = 46 ∨ (b.toNat : Int) = 35) := by
 have e1 : (46 : UInt8).toNat = 46 := rfl
 have e2 : (35 : UInt8).toNat = 35 := rfl
 rw [List.mem_cons, List.mem_singleton]
 constructor
 ·rintro (h | h)
  ·subst h; left; rfl
  ·subst h; right; rfl
 ·rintro (h | h)
  ·left; exact UInt8.toNat_inj.1 (by omega)
  ·right; exact UInt8.toNat_inj.1 (by omega)
noncomputable def gbB (rows : List ByteArray) : Bool := decP (GbP rows)
theorem gb_done {rows : List ByteArray} (h1 : 1 ≤ rows.length ∧ rows.length ≤ 8) (h2 : 1 ≤ wdS rows ∧ wdS rows ≤ 8) (h : ∀ i, i < rows.length → RowOk (rwS rows i) (wdS rows)) : gbB rows = true :=
 decP_true.2 ⟨h1, h2, fun i hi => (h i hi).1, fun i hi k hk => (h i hi).2 k (by rw [(h i hi).1]; exact hk)⟩
theorem gb_row {rows : List ByteArray} {i : Nat} (hi : i < rows.length) (h : ¬ RowOk (rwS rows i) (wdS rows)) : gbB rows = false :=
 decP_false.2 fun g => h ⟨g.eq i hi, fun k hk => g.ch i hi k (by rw [← g.eq i hi]; exact hk)⟩
theorem gb_hi {rows : List ByteArray} (h : ¬ (1 ≤ rows.length ∧ rows.length ≤ 8)) : gbB rows = false := decP_false.2 fun g => h g.hi
theorem gb_wd {rows : List ByteArray} (h : ¬ (1 ≤ wdS rows ∧ wdS rows ≤ 8)) : gbB rows = false := decP_false.2 fun g => h g.wd
theorem row_trim {s : ByteArray} {n : Nat} (h1 : s.size = n) (h : ((trimM s [46, 35]).toList == (⟨#[]⟩ : ByteArray).toList) = true) : RowOk s n := ⟨h1, fun k hk => in_dots.1 (trim_yes h k hk)⟩
theorem row_not {s : ByteArray} {n : Nat} (h : ((trimM s [46, 35]).toList == (⟨#[]⟩ : ByteArray).toList) = false) : ¬ RowOk s n := fun k => trim_no h fun i hi => in_dots.2 (k.2 i hi)
end Go.GL
namespace Go.GL
open Go Go.RowKit Go.Lib
def frI (rows : List ByteArray) (r c : Int) : Bool := decide (0 ≤ r) && (decide (0 ≤ c) && frB rows r.toNat c.toNat)
section
variable {rows : List ByteArray} {r c : Int}
theorem frI_nr (h : ¬ 0 ≤ r) : frI rows r c = false := by unfold frI; rw [decide_eq_false h]; rfl
theorem frI_nc (h : ¬ 0 ≤ c) : frI rows r c = false := by unfold frI; rw [decide_eq_false h]; simp
theorem frI_or (h0 : 0 ≤ r) (h : ¬ r < (rows.length : Int)) : frI rows r c = false := by unfold frI; rw [fr_rowout (by omega)]; simp
theorem frI_oc (g : GbP rows) (h0 : 0 ≤ c) (h1 : 0 ≤ r) (h2 : r < (rows.length : Int)) (h : ¬ c < (wdS rows : Int)) : frI rows r c = false := by
 unfold frI; rw [fr_colout (by rw [g.eq _ (by omega)]; omega)]; simp
theorem frI_in (h0 : 0 ≤ r) (h1 : 0 ≤ c) : frI rows r c = decide (((sB (rows.getD r.toNat ByteArray.empty) c.toNat).toNat : Int) = 46) := by
 unfold frI; rw [decide_eq_true h0, decide_eq_true h1]; rfl
theorem frI_nat (i k : Nat) : frI rows (i : Int) (k : Int) = frB rows i k := by
 unfold frI; rw [decide_eq_true (by omega), decide_eq_true (by omega)]; rfl
end
section
variable {rows : List ByteArray} {r c : Nat} {b : Bool}
theorem dm_0 {left : Bool} (h : frI rows (r : Int) (c : Int) = false) : dmB rows left r c = false := by
 rw [frI_nat] at h; unfold dmB; rw [h]; rfl
theorem dm_t (h : frI rows (r : Int) (c : Int) = true) (k : frI rows ((r : Int) + 1) (c : Int) = b) : dmB rows true r c = b := by
 rw [frI_nat] at h
 rw [show ((r : Int) + 1) = ((r + 1 : Nat) : Int) by omega, frI_nat] at k
 unfold dmB; rw [h, ← k]; rfl
theorem dm_f (h : frI rows (r : Int) (c : Int) = true) (k : frI rows (r : Int) ((c : Int) + 1) = b) : dmB rows false r c = b := by
 rw [frI_nat] at h
 rw [show ((c : Int) + 1) = ((c + 1 : Nat) : Int) by omega, frI_nat] at k
 unfold dmB; rw [h, ← k]; rfl
theorem dm_in (g : GbP rows) {left : Bool} (h : dmB rows left r c = true) : r + dR left < rows.length ∧ c + dC left < wdS rows := ⟨((dmB_iff g).1 h).1, ((dmB_iff g).1 h).2.1⟩
def plRow (rows : List ByteArray) (r c : Nat) (left : Bool) (i : Nat) : ByteArray := b2s (plL (rows.getD i ByteArray.empty).data.toList i r c left)
theorem pl_same {l : List UInt8} {i r c : Nat} {left : Bool} (h : i ≠ r) (k : ¬ (left = true ∧ i = r + 1)) : plL l i r c left = l := by unfold plL; rw [if_neg k, if_neg h]
theorem pl_t0 {l : List UInt8} {i r c : Nat} (h : i = r) : plL l i r c true = l.set c 35 := by unfold plL; rw [if_neg (by omega), if_pos h, if_pos rfl]
theorem pl_t1 {l : List UInt8} {i r c : Nat} (h : i = r + 1) : plL l i r c true = l.set c 35 := by unfold plL; rw [if_pos ⟨rfl, h⟩, if_neg (by omega)]
theorem pl_f {l : List UInt8} {i r c : Nat} (h : i = r) : plL l i r c false = (l.set c 35).set (c + 1) 35 := by unfold plL; rw [if_neg (fun e => by cases e.1), if_pos h, if_neg (by decide)]
end
def MxG (b : Nat) (G : Pin) : Prop := ∃ m, G b 0 (.int .i64 m)
theorem MxG.le {b : Nat} {G G' : Pin} (h : MxG b G) (hl : Pin.le G G') : MxG b G' := h.imp fun _ hm => hl _ _ _ hm
end Go.GL
namespace Go.GL
open Go Go.RowKit Go.Lib
end Go.GL
namespace Go.GL
open Go Go.RowKit Go.Lib
section
variable {rows : List ByteArray} {i k : Nat} {b : Bool}
theorem cell_fr (g : GbP rows) (hi : i < rows.length) (hk : k < wdS rows) : ((cellsM rows).getD i []).getD k false = frB rows i k := by rw [cells_at hi, lineC_at (by rw [g.eq i hi]; exact hk)]
theorem dms_0 (g : GbP rows) {left : Bool} (hi : i < rows.length) (hk : k < wdS rows) (h : ((cellsM rows).getD i []).getD k false = false) : dmB rows left i k = false := by
 rw [cell_fr g hi hk] at h; unfold dmB; rw [h]; rfl
theorem dms_t (g : GbP rows) (hi : i < rows.length) (hk : k < wdS rows) (h : ((cellsM rows).getD i []).getD k false = true) (e : frI rows ((i : Int) + 1) ((k : Int) + 0) = b) : dmB rows true i k = b := by
 rw [cell_fr g hi hk, ← frI_nat] at h
 exact dm_t h (by rw [Int.add_zero] at e; exact e)
theorem dms_f (g : GbP rows) (hi : i < rows.length) (hk : k < wdS rows) (h : ((cellsM rows).getD i []).getD k false = true) (e : frI rows ((i : Int) + 0) ((k : Int) + 1) = b) : dmB rows false i k = b := by
 rw [cell_fr g hi hk, ← frI_nat] at h
 exact dm_f h (by rw [Int.add_zero] at e; exact e)
theorem cells_wd (g : GbP rows) (hi : i < rows.length) : ((cellsM rows).getD i []).length = wdS rows := by rw [cells_at hi, lineC_len, g.eq i hi]
theorem is_in (g : GbP rows) {r c : Int} (h0 : 0 ≤ r) (h1 : r < (rows.length : Int)) (h2 : 0 ≤ c) (h3 : c < (wdS rows : Int)) : ((cellsM rows).getD r.toNat []).getD c.toNat false = frI rows r c := by
 rw [cell_fr g (by omega) (by omega)]
 unfold frI; rw [decide_eq_true h0, decide_eq_true h2]; rfl
end
theorem rowM_snoc (l : List Bool) (b : Bool) : rowM (l ++ [b]) = rowM l ++ (⟨#[byB b]⟩ : ByteArray) := by
 unfold rowM b2s
 apply ByteArray.ext
 simp
theorem row_step {l : List Bool} {k : Nat} {s : ByteArray} (h : k < l.length) (hs : s = rowM (l.take k)) {b : Bool} (hb : l.getD k false = b) : s ++ (⟨#[byB b]⟩ : ByteArray) = rowM (l.take (k + 1)) := by
 rw [hs, ← rowM_snoc, ← hb]
 congr 1
 rw [List.take_add_one, List.getElem?_eq_getElem h]
 simp [List.getD, h]
theorem bd_range (cells : List (List Bool)) : (List.range cells.length).map (fun i => rowM (cells.getD i [])) = bdM cells := by
 unfold bdM
 apply List.ext_getElem
 ·simp
 ·intro i h1 h2
  have hi : i < cells.length := by simpa using h1
  simp [List.getD, hi]
theorem ap_range {u : Value} {y : Option Nat} {lo hi : Nat} (h1 : ∀ k, u.ownBlock = some k → lo ≤ k ∧ k < hi) (h2 : ∀ k, y = some k → hi ≤ k ∨ k < lo) : Apart u.ownBlock y := fun k hk hy => by
 have := h1 k hk; have := h2 k hy; omega
end Go.GL
namespace Go.GL
open Go Go.RowKit Go.Lib
theorem frI_out1 {rows : List ByteArray} {r c : Int} (h : ¬ ((0 : Int) ≤ r ∧ r ≤ (rows.length : Int) - 1)) : frI rows r c = false := by
 by_cases h0 : 0 ≤ r
 ·exact frI_or h0 (by omega)
 ·exact frI_nr h0
theorem frI_out2 {rows : List ByteArray} {r c : Int} (g : GbP rows) (h1 : (0 : Int) ≤ r ∧ r ≤ (rows.length : Int) - 1) (h : ¬ ((0 : Int) ≤ c ∧ c ≤ (wdS rows : Int) - 1)) : frI rows r c = false := by
 by_cases h0 : 0 ≤ c
 ·exact frI_oc g h0 h1.1 (by omega) (by omega)
 ·exact frI_nc h0
end Go.GL
namespace Go.GL
open Go Go.RowKit Go.Lib
end Go.GL
namespace Go.GL
end Go.GL

namespace Go.GL
open Go Go.RowKit Go.Lib
abbrev psB3 : ByteArray := ⟨#[32, 43, 32]⟩
abbrev noneB : ByteArray := ⟨#[110, 111, 110, 101]⟩
abbrev spB : ByteArray := ⟨#[32]⟩
def wordsP (s : ByteArray) : List ByteArray := splitB psB3 0 (countB s psB3) s
theorem words_hit {s : ByteArray} {i : Nat} (h : indexB s psB3 = i) : wordsP s = s.extract 0 i :: wordsP (s.extract (i + 3) s.size) := by
 unfold wordsP
 rw [countB_hit s psB3 i (by decide) h, Nat.add_comm, splitB_hit _ _ _ _ _ h]; rfl
theorem words_miss {s : ByteArray} (h : indexB s psB3 = -1) : wordsP s = [s] := by
 unfold wordsP
 rw [countB_miss s psB3 h]; rfl
theorem extract_all (s : ByteArray) : s.extract 0 s.size = s := by
 apply ba_ext; rw [ba_extract, List.drop_zero, List.take_of_length_le (by rw [ba_size]; exact Nat.le_refl _)]
theorem ext_ext {s : ByteArray} {f i n : Nat} (hf : f ≤ i) (_ : i + n ≤ s.size) : (s.extract f s.size).extract (i - f) (i - f + n) = s.extract i (i + n) := by
 apply ba_ext
 rw [ba_extract, ba_extract, ba_extract, List.take_of_length_le (l := s.data.toList) (i := s.size) (by rw [ba_size]; exact Nat.le_refl _), List.drop_take, List.drop_take, List.drop_drop]
 rw [show f + (i - f) = i by omega, show i - f + n - (i - f) = i + n - i by omega]
theorem ext_tail {s : ByteArray} {f i : Nat} (hf : f ≤ i) (h : i ≤ s.size) : (s.extract f s.size).extract (i - f) (s.extract f s.size).size = s.extract i s.size := by
 have hz : (s.extract f s.size).size = s.size - f := by rw [ByteArray.size_extract]; omega
 have := ext_ext (s := s) (n := s.size - i) hf (by omega)
 rw [hz, show s.size - f = i - f + (s.size - i) by omega, this, show i + (s.size - i) = s.size by omega]
theorem ext_head {s : ByteArray} {f i : Nat} (hf : f ≤ i) (h : i ≤ s.size) : (s.extract f s.size).extract 0 (i - f) = s.extract f i := by
 have := ext_ext (s := s) (f := f) (i := f) (n := i - f) (Nat.le_refl _) (by omega)
 rw [Nat.sub_self, Nat.zero_add, show f + (i - f) = i by omega] at this
 exact this
structure SqI (s : ByteArray) (i f : Nat) (os : List ByteArray) : Prop where
 le : f ≤ s.size
 eq : wordsP s = os ++ wordsP (s.extract f s.size)
 no : ∀ j, f ≤ j → j < i → j + 3 ≤ s.size → ((s.extract j (j + 3)).toList == psB3.toList) = false
section
variable {s : ByteArray} {i f : Nat} {os : List ByteArray}
theorem sqI_zero : SqI s 0 0 [] := ⟨Nat.zero_le _, by rw [extract_all]; rfl, fun _ _ h => absurd h (Nat.not_lt_zero _)⟩
theorem sqI_skip (h : SqI s i f os) (hi : i < f) : SqI s (i + 1) f os := ⟨h.le, h.eq, fun j a b _ => by omega⟩
theorem sqI_end (h : SqI s i f os) (hi : s.size < i + 3) : SqI s (i + 1) f os := ⟨h.le, h.eq, fun j a b c => h.no j a (by omega) c⟩
theorem sqI_no (h : SqI s i f os) (hn : ((s.extract i (i + 3)).toList == psB3.toList) = false) : SqI s (i + 1) f os := ⟨h.le, h.eq, fun j a b c => by
 by_cases e : j = i
 ·rw [e]; exact hn
 ·exact h.no j a (by omega) c⟩
theorem sqI_free (h : SqI s i f os) : NoOccB (s.extract f s.size) psB3 (i - f) := fun j hj => by
 have hz : (s.extract f s.size).size = s.size - f := by rw [ByteArray.size_extract]; have := h.le; omega
 cases hc : occAt (s.extract f s.size).data.toList psB3.data.toList j with
 | false => rfl
 | true =>
  have hr := occAt_room hc
  rw [ba_size (s.extract f s.size), hz] at hr
  have hle := h.le
  have hr2 : j + 3 ≤ s.size - f := by
   rcases hr with hr | hr
   ·have h3 : psB3.data.toList.length = 3 := rfl
    omega
   ·exact absurd hr (by decide)
  have ho := occ_of_piece (s.extract f s.size) psB3 j (by rw [hz]; exact hr2)
  have hn := h.no (f + j) (by omega) (by omega) (by omega)
  have he := ext_ext (s := s) (f := f) (i := f + j) (n := 3) (by omega) (by omega)
  rw [show f + j - f = j by omega] at he
  have h4 : psB3.size = 3 := rfl
  rw [h4, he, hn] at ho
  rw [ho] at hc; cases hc
theorem sqI_yes (h : SqI s i f os) (hf : f ≤ i) (hi : i + 3 ≤ s.size) (hy : ((s.extract i (i + 3)).toList == psB3.toList) = true) : SqI s (i + 1) (i + 3) (os ++ [s.extract f i]) := by
 have hz : (s.extract f s.size).size = s.size - f := by rw [ByteArray.size_extract]; have := h.le; omega
 have hx := hit (s.extract f s.size) psB3 (i - f) (sqI_free h) (by rw [hz]; show i - f + 3 ≤ _; omega) (by show ((ByteArray.extract _ _ (i - f + 3)).toList == _) = true; rw [ext_ext hf hi]; exact hy)
 refine ⟨hi, ?_, fun j a b _ => by omega⟩
 have e2 : (s.extract f s.size).extract (i - f + 3) (s.extract f s.size).size = s.extract (i + 3) s.size := by
  have := ext_tail (s := s) (f := f) (i := i + 3) (by omega) hi
  rw [show i + 3 - f = i - f + 3 by omega] at this; exact this
 rw [h.eq, words_hit hx, ext_head hf (by omega), e2, List.append_assoc]; rfl
theorem sqI_done (h : SqI s i f os) (hi : s.size ≤ i) : wordsP s = os ++ [s.extract f s.size] := by
 have hz : (s.extract f s.size).size = s.size - f := by rw [ByteArray.size_extract]; have := h.le; omega
 rw [h.eq, words_miss (past _ _ (i - f) (sqI_free h) (by decide) (by rw [hz]; show _ < i - f + 3; omega))]
end
def SqJ (s : ByteArray) (i f : Nat) (os : List ByteArray) : Prop := (i ≤ s.size ∧ SqI s i f os) ∨ (i = s.size + 1 ∧ wordsP s = os)
theorem words_ne (s : ByteArray) : 1 ≤ (wordsP s).length := by
 rcases indexB_cases s psB3 with h | ⟨i, h, _⟩
 ·rw [words_miss h]; exact Nat.le_refl _
 ·rw [words_hit h]; simp
theorem words_len (s : ByteArray) : (wordsP s).length ≤ s.size + 1 := by
 have := countB_le psB3 (by decide) s.size s (Nat.le_refl _)
 unfold wordsP
 rw [splitB_all psB3 (by decide) 0 _ s rfl]; omega
theorem words_size : ∀ (n : Nat) (s : ByteArray), s.size ≤ n → s.size + 3 = ((wordsP s).map fun w => w.size + 3).sum ∧ ∀ w ∈ wordsP s, w.size ≤ s.size
 | n, s, hn => by
  rcases indexB_cases s psB3 with h | ⟨i, h, hr⟩
  ·rw [words_miss h]; exact ⟨by simp, fun w hw => by rw [List.mem_singleton.1 hw]; exact Nat.le_refl _⟩
  ·have h3 : psB3.size = 3 := rfl
   rw [h3] at hr
   have hz : (s.extract (i + 3) s.size).size = s.size - (i + 3) := by rw [ByteArray.size_extract]; omega
   have hy : (s.extract 0 i).size = i := by rw [ByteArray.size_extract]; omega
   match n, hn with
   | 0, hn => omega
   | n + 1, hn =>
    obtain ⟨h1, h2⟩ := words_size n (s.extract (i + 3) s.size) (by omega)
    rw [words_hit h, List.map_cons, List.sum_cons, ← h1, hz, hy]
    refine ⟨by omega, fun w hw => ?_⟩
    rcases List.mem_cons.1 hw with rfl | hw
    ·omega
    ·have := h2 w hw; omega

theorem cut_list {w : ByteArray} (h : cutY 32 w = true) : w.data.toList = (cutA 32 w).data.toList ++ 32 :: (cutZ 32 w).data.toList ∧ 32 ∉ (cutA 32 w).data.toList := by
 rcases indexB_cases w spB with hi | ⟨i, hi, hr⟩
 ·have := (cutB_miss w spB hi).2.2
  unfold cutY at h
  have e : Lib.cut w.data.toList [32] = Lib.cut w.data.toList spB.data.toList := rfl
  rw [e, this] at h; cases h
 ·obtain ⟨h1, h2, _⟩ := cutB_hit w spB i hi
  have e1 : cutA 32 w = w.extract 0 i := h1
  have e2 : cutZ 32 w = w.extract (i + 1) w.size := h2
  have hr2 : i + 1 ≤ w.size := hr
  have hix : index w.data.toList [32] = (i : Int) := hi
  rw [index_one] at hix
  have key : ∀ (l : List UInt8) (i : Nat), indexByte l 32 = (i : Int) → l = l.take i ++ 32 :: l.drop (i + 1) ∧ 32 ∉ l.take i := by
   intro l
   induction l with
   | nil => intro i hi; simp [indexByte] at hi
   | cons b l ih =>
    intro i hi
    unfold indexByte at hi
    by_cases hb : b = 32
    ·subst hb
     have : i = 0 := by simp at hi; omega
     subst this; simp
    ·have hb' : (b == 32) = false := by simpa using hb
     rw [hb'] at hi
     have hge := indexByte_ge l 32
     by_cases hm : indexByte l 32 = -1
     ·simp [hm] at hi
     ·have hm' : (indexByte l 32 == -1) = false := by simpa using hm
      rw [hm'] at hi
      simp at hi
      obtain ⟨j, rfl⟩ : ∃ j, i = j + 1 := ⟨i - 1, by omega⟩
      obtain ⟨a1, a2⟩ := ih j (by omega)
      refine ⟨by rw [List.take_succ_cons, List.drop_succ_cons, List.cons_append, ← a1], ?_⟩
      rw [List.take_succ_cons]
      intro hm
      rcases List.mem_cons.1 hm with e | e
      ·exact hb e.symm
      ·exact a2 e
  obtain ⟨a1, a2⟩ := key _ _ hix
  have e3 : (w.extract 0 i).data.toList = w.data.toList.take i := by rw [ba_extract, List.drop_zero]
  have e4 : (w.extract (i + 1) w.size).data.toList = w.data.toList.drop (i + 1) := by rw [ba_extract, List.take_of_length_le (by rw [ba_size]; exact Nat.le_refl _)]
  rw [e1, e2, e3, e4]
  exact ⟨a1, a2⟩
def txW (c : ByteArray × ByteArray) : ByteArray := (c.1 ++ spB) ++ c.2
def prW (w : ByteArray) : ByteArray × ByteArray := (cutA 32 w, cutZ 32 w)
theorem tx_pr {w : ByteArray} (h : cutY 32 w = true) : txW (prW w) = w := by
 apply ba_ext
 unfold txW prW
 rw [ba_app, ba_app, (cut_list h).1, List.append_assoc]; rfl
theorem cut_of {w v t : ByteArray} (h : w.data.toList = v.data.toList ++ 32 :: t.data.toList) (hv : 32 ∉ v.data.toList) : cutA 32 w = v ∧ cutZ 32 w = t ∧ cutY 32 w = true := by
 have := cut_app (y := t.data.toList) hv
 unfold cutA cutZ cutY
 rw [h, this]
 exact ⟨ba_ext rfl, ba_ext rfl, rfl⟩

def VB : List ByteArray := [⟨#[116, 111, 97, 100, 115]⟩, ⟨#[99, 108, 111, 98]⟩, ⟨#[117, 110, 108, 105, 107, 101]⟩, ⟨#[97, 108, 105, 107, 101]⟩, ⟨#[100, 111, 109]⟩, ⟨#[115, 116, 97, 108, 107]⟩, ⟨#[110, 105, 109]⟩]
def vbI (k : ByteArray) : Int :=
 if k = ⟨#[116, 111, 97, 100, 115]⟩ then 0 else if k = ⟨#[99, 108, 111, 98]⟩ then 1 else if k = ⟨#[117, 110, 108, 105, 107, 101]⟩ then 2 else if k = ⟨#[97, 108, 105, 107, 101]⟩ then 3 else
  if k = ⟨#[100, 111, 109]⟩ then 4 else if k = ⟨#[115, 116, 97, 108, 107]⟩ then 5 else if k = ⟨#[110, 105, 109]⟩ then 6 else -1
theorem vb_at : ∀ i, i < 7 → vbI (VB.getD i ByteArray.empty) = (i : Int) ∧ 32 ∉ (VB.getD i ByteArray.empty).data.toList := by decide
theorem vb_none {k : ByteArray} (h : ∀ i, i < 7 → k ≠ VB.getD i ByteArray.empty) : vbI k = -1 := by
 have h0 := h 0 (by omega); have h1 := h 1 (by omega); have h2 := h 2 (by omega); have h3 := h 3 (by omega); have h4 := h 4 (by omega); have h5 := h 5 (by omega); have h6 := h 6 (by omega)
 show (if k = VB.getD 0 ByteArray.empty then (0 : Int) else if k = VB.getD 1 ByteArray.empty then 1 else if k = VB.getD 2 ByteArray.empty then 2 else if k = VB.getD 3 ByteArray.empty then 3 else if k = VB.getD 4 ByteArray.empty then 4 else if k = VB.getD 5 ByteArray.empty then 5 else if k = VB.getD 6 ByteArray.empty then 6 else -1) = -1
 rw [if_neg h0, if_neg h1, if_neg h2, if_neg h3, if_neg h4, if_neg h5, if_neg h6]
theorem vb_is {k : ByteArray} : vbI k = -1 ∨ ∃ i : Nat, i < 7 ∧ k = VB.getD i ByteArray.empty ∧ vbI k = (i : Int) := by
 by_cases h : ∃ i, i < 7 ∧ k = VB.getD i ByteArray.empty
 ·obtain ⟨i, hi, rfl⟩ := h
  exact Or.inr ⟨i, hi, rfl, (vb_at i hi).1⟩
 ·exact Or.inl (vb_none fun i hi e => h ⟨i, hi, e⟩)
def kdI (w : ByteArray) : Int := if cutY 32 w = true then vbI (cutA 32 w) else -1
def tlB (w : ByteArray) : ByteArray := if kdI w < 0 then ⟨#[]⟩ else cutZ 32 w
def HitV (w : ByteArray) (i : Nat) : Prop := cutY 32 w = true ∧ cutA 32 w = VB.getD i ByteArray.empty
section
variable {w : ByteArray} {i : Nat}
theorem hit_y (hi : i < 7) (h1 : (VB.getD i ByteArray.empty).size < w.size) (h2 : ((w.extract 0 (VB.getD i ByteArray.empty).size).toList == (VB.getD i ByteArray.empty).toList) = true) (h3 : ((sB w (VB.getD i ByteArray.empty).size).toNat : Int) = 32) :
  kdI w = (i : Int) ∧ tlB w = w.extract ((VB.getD i ByteArray.empty).size + 1) w.size := by
 obtain ⟨hv, hc⟩ := vb_at i hi
 generalize VB.getD i ByteArray.empty = v at *
 have e := ba_of_eq h2
 have hb : sB w v.size = 32 := UInt8.toNat_inj.1 (by have : (32 : UInt8).toNat = 32 := rfl; omega)
 have hl : w.data.toList = v.data.toList ++ 32 :: (w.extract (v.size + 1) w.size).data.toList := by
  have e1 : v.data.toList = w.data.toList.take v.size := by conv => lhs; rw [← e, ba_extract, List.drop_zero]
  have e2 : (w.extract (v.size + 1) w.size).data.toList = w.data.toList.drop (v.size + 1) := by rw [ba_extract, List.take_of_length_le (by rw [ba_size]; exact Nat.le_refl _)]
  have hlt : v.size < w.data.toList.length := by rw [ba_size]; exact h1
  have hg : w.data.toList[v.size] = 32 := by
   have := sB_list w h1
   rw [List.getElem?_eq_getElem hlt, hb] at this
   exact Option.some.inj this
  have e3 : w.data.toList.drop v.size = 32 :: w.data.toList.drop (v.size + 1) := by rw [List.drop_eq_getElem_cons hlt, hg]
  rw [e2, e1, ← e3, List.take_append_drop]
 obtain ⟨a1, a2, a3⟩ := cut_of hl hc
 have hk : kdI w = (i : Int) := by unfold kdI; rw [if_pos a3, a1, hv]
 exact ⟨hk, by unfold tlB; rw [if_neg (by rw [hk]; omega), a2]⟩
theorem hitV_is (h : HitV w i) : (VB.getD i ByteArray.empty).size < w.size ∧ ((w.extract 0 (VB.getD i ByteArray.empty).size).toList == (VB.getD i ByteArray.empty).toList) = true ∧ ((sB w (VB.getD i ByteArray.empty).size).toNat : Int) = 32 := by
 obtain ⟨hl, _⟩ := cut_list h.1
 rw [h.2] at hl
 generalize VB.getD i ByteArray.empty = v at *
 have hz : w.size = v.size + (1 + (cutZ 32 w).size) := by
  rw [← ba_size w, ← ba_size v, ← ba_size (cutZ 32 w), hl, List.length_append, List.length_cons]; omega
 refine ⟨by omega, ?_, ?_⟩
 ·have : w.extract 0 v.size = v := by
   apply ba_ext
   rw [ba_extract, List.drop_zero, hl, List.take_append_of_le_length (by rw [ba_size]; exact Nat.le_refl _), List.take_of_length_le (by rw [ba_size]; exact Nat.le_refl _)]
  rw [this]; exact beq_self_eq_true _
 ·have := sB_list w (i := v.size) (by omega)
  rw [hl, List.getElem?_append_right (by rw [ba_size]; exact Nat.le_refl _), ba_size, Nat.sub_self] at this
  have := Option.some.inj this
  rw [← this]; rfl
theorem kd_none (h : ∀ j, j < 7 → ¬ HitV w j) : kdI w = -1 ∧ tlB w = ⟨#[]⟩ := by
 have hk : kdI w = -1 := by
  unfold kdI
  split
  ·rename_i hc
   exact vb_none fun j hj e => h j hj ⟨hc, e⟩
  ·rfl
 exact ⟨hk, by unfold tlB; rw [hk]; rfl⟩
theorem kd_pos (h : 0 ≤ kdI w) : cutY 32 w = true ∧ kdI w = vbI (cutA 32 w) ∧ tlB w = cutZ 32 w := by
 unfold tlB
 rw [if_neg (by omega)]
 unfold kdI at h ⊢
 split at h
 ·rename_i hc; exact ⟨hc, if_pos hc, rfl⟩
 ·omega
theorem kd_join (h : 0 ≤ kdI w) : w = (VB.getD (kdI w).toNat ByteArray.empty ++ spB) ++ tlB w := by
 obtain ⟨h1, h2, h3⟩ := kd_pos h
 rcases vb_is (k := cutA 32 w) with e | ⟨i, hi, e1, e2⟩
 ·omega
 ·have e3 : (kdI w).toNat = i := by omega
  rw [e3, ← e1, h3]
  exact (tx_pr h1).symm
end
end Go.GL

namespace Go.GL
open Go Go.RowKit Go.Lib

def stpC (k : Int) : List UInt8 := if k = 0 then [84, 70, 46] else [76, 82, 46]
def StpP (k : Int) (s : ByteArray) : Prop := ∀ i, i < s.size → sB s i ∈ stpC k
def MarkP (s : ByteArray) : Prop := ∀ i, i < s.size → sB s i ∈ ([76, 82] : List UInt8)
structure GsP (k : Int) (s : ByteArray) : Prop where
 kd : 0 ≤ k ∧ k ≤ 3
 sz : s.size ≤ 12
 ch : StpP k s
def dotN (s : ByteArray) : Nat := s.data.toList.count 46
structure BdP (t : ByteArray) : Prop where
 g : GbP (partsB 47 t)
 n : dotN t ≤ 9
structure DigP (t : ByteArray) : Prop where
 sz : t.size = 1
 d : 48 ≤ ((sB t 0).toNat : Int) ∧ ((sB t 0).toNat : Int) ≤ 55
structure AgP (k : Int) (t : ByteArray) : Prop where
 hi : k ≤ 6
 strip : k ≤ 3 → GsP k t ∧ t.size ≤ 7
 dom : k = 4 → BdP t
 stalk : k = 5 → MarkP t ∧ t.size ≤ 8
 nim : k = 6 → DigP t
def SgP (w : ByteArray) : Prop := 0 ≤ kdI w ∧ AgP (kdI w) (tlB w)
theorem ag_pos {k : Int} {t : ByteArray} (h : AgP k t) : 0 ≤ k := by
 by_cases h0 : k ≤ 3
 ·exact (h.strip h0).1.kd.1
 ·omega
theorem sg_iff {w : ByteArray} : SgP w ↔ cutY 32 w = true ∧ AgP (vbI (cutA 32 w)) (cutZ 32 w) := by
 constructor
 ·rintro ⟨h0, h⟩
  obtain ⟨h1, h2, h3⟩ := kd_pos h0
  rw [h2, h3] at h
  exact ⟨h1, h⟩
 ·rintro ⟨h1, h⟩
  have h0 := ag_pos h
  have hk : kdI w = vbI (cutA 32 w) := by unfold kdI; rw [if_pos h1]
  obtain ⟨_, _, h3⟩ := kd_pos (w := w) (by rw [hk]; exact h0)
  exact ⟨by rw [hk]; exact h0, by rw [hk, h3]; exact h⟩
noncomputable def agB (k : Int) (t : ByteArray) : Bool := decP (AgP k t)
noncomputable def sgB (w : ByteArray) : Bool := decP (SgP w)
noncomputable def gsB (k : Int) (s : ByteArray) : Bool := decP (GsP k s)
noncomputable def rdB9 (t : ByteArray) : Bool := gbB (partsB 47 t)
noncomputable def rdF9 (t : ByteArray) : List ByteArray := if rdB9 t = true then partsB 47 t else []
noncomputable def hpI (t : ByteArray) : Int := if decP (DigP t) = true then ((sB t 0).toNat : Int) - 48 else -1
def skI (k : ByteArray) : Int := if vbI k ≤ 3 then vbI k else -1

theorem splL_sum (c : UInt8) : ∀ l : List UInt8, ((splL c l).map fun x => x.length + 1).sum = l.length + 1
 | [] => by simp [splL]
 | b :: l => by
  have ih := splL_sum c l
  by_cases h : b = c
  ·subst h
   have e : splL b (b :: l) = [] :: splL b l := by rw [splL, if_pos rfl]
   rw [e, List.map_cons, List.sum_cons, ih]; simp; omega
  ·match hx : splL c l, splL_ne c l with
   | x :: r, _ =>
    rw [splL_cons h hx]
    rw [hx] at ih
    rw [List.map_cons, List.sum_cons] at ih ⊢
    simp only [List.length_cons]; omega
theorem splL_count {c d : UInt8} (hd : d ≠ c) : ∀ l : List UInt8, ((splL c l).map (List.count d)).sum = l.count d
 | [] => by simp [splL]
 | b :: l => by
  have ih := splL_count hd l
  by_cases h : b = c
  ·subst h
   have e : splL b (b :: l) = [] :: splL b l := by rw [splL, if_pos rfl]
   rw [e, List.map_cons, List.sum_cons, ih, List.count_cons_of_ne (fun e => hd e.symm)]; simp
  ·match hx : splL c l, splL_ne c l with
   | x :: r, _ =>
    rw [splL_cons h hx]
    rw [hx] at ih
    rw [List.map_cons, List.sum_cons] at ih ⊢
    rw [List.count_cons, List.count_cons]; omega
theorem parts_list (c : UInt8) (s : ByteArray) : (partsB c s).map (·.data.toList) = splL c s.data.toList := splitB_splL c s
theorem parts_sum (c : UInt8) (s : ByteArray) : ((partsB c s).map fun x => x.size + 1).sum = s.size + 1 := by
 have h := splL_sum c s.data.toList
 rw [← parts_list, List.map_map, ba_size] at h
 exact h
theorem parts_dots (s : ByteArray) : ((partsB 47 s).map dotN).sum = dotN s := by
 have h := splL_count (c := 47) (d := 46) (by decide) s.data.toList
 rw [← parts_list, List.map_map] at h
 exact h
theorem sum_le {α : Type} {f : α → Nat} {m : Nat} : ∀ {l : List α}, (∀ x ∈ l, f x ≤ m) → (l.map f).sum ≤ m * l.length
 | [], _ => by simp
 | a :: l, h => by
  have h1 := h a List.mem_cons_self
  have h2 := sum_le (l := l) fun x hx => h x (List.mem_cons_of_mem _ hx)
  rw [List.map_cons, List.sum_cons, List.length_cons, Nat.mul_succ]; omega
theorem gb_mem {rows : List ByteArray} (g : GbP rows) {x : ByteArray} (hx : x ∈ rows) : x.size ≤ 8 := by
 obtain ⟨i, hi, rfl⟩ := List.getElem_of_mem hx
 have h1 := g.eq i hi
 have h2 := g.wd
 have e : rwS rows i = rows[i] := by unfold rwS; simp [List.getD, hi]
 rw [e] at h1; omega
theorem bd_size {t : ByteArray} (g : GbP (partsB 47 t)) : t.size ≤ 71 := by
 have h1 := parts_sum 47 t
 have h2 := sum_le (f := fun x : ByteArray => x.size + 1) (m := 9) (l := partsB 47 t) fun x hx => by have := gb_mem g hx; show x.size + 1 ≤ 9; omega
 have h3 := g.hi.2
 omega
theorem join_sum (c : UInt8) : ∀ xs : List ByteArray, (joinC c xs).size ≤ (xs.map fun x => x.size + 1).sum
 | [] => by rw [joinC_nil]; exact Nat.zero_le _
 | [x] => by rw [joinC_one]; simp
 | x :: y :: xs => by
  have ih := join_sum c (y :: xs)
  have h := congrArg List.length (joinC_cons c x y xs)
  rw [List.length_append, List.length_cons, ba_size, ba_size, ba_size] at h
  rw [List.map_cons, List.sum_cons]; omega
theorem bdt_size {rows : List ByteArray} (g : GbP rows) : (joinC 47 rows).size ≤ 72 := by
 have h1 := join_sum 47 rows
 have h2 := sum_le (f := fun x : ByteArray => x.size + 1) (m := 9) (l := rows) fun x hx => by have := gb_mem g hx; show x.size + 1 ≤ 9; omega
 have h3 := g.hi.2
 omega

def dgN (t : ByteArray) : Nat := (sB t 0).toNat - 48
theorem flat_len {α β : Type} {f : α → List β} {m : Nat} : ∀ {l : List α}, (∀ x ∈ l, (f x).length ≤ m) → (l.flatMap f).length ≤ m * l.length
 | [], _ => by simp
 | a :: l, h => by
  have h1 := h a List.mem_cons_self
  have h2 := flat_len (l := l) fun x hx => h x (List.mem_cons_of_mem _ hx)
  rw [List.flatMap_cons, List.length_append, List.length_cons, Nat.mul_succ]; omega
theorem dm_len {rows : List ByteArray} {left : Bool} (g : GbP rows) : (dmM rows left).length ≤ 64 := by
 unfold dmM dmAll
 have h := flat_len (f := fun r => dmRow rows left (fun r c => bdM (nextC rows left r c)) r (wdS rows)) (m := 8) (l := List.range rows.length) fun r _ => by
  unfold dmRow
  have := flat_len (f := fun c => if dmB rows left r c = true then [bdM (nextC rows left r c)] else []) (m := 1) (l := List.range (wdS rows)) fun c _ => by split <;> simp
  have h2 := g.wd.2
  rw [List.length_range] at this
  exact Nat.le_trans this (by omega)
 have h2 := g.hi.2
 rw [List.length_range] at h; omega
section
variable {k : Int} {t : ByteArray} {left : Bool}
theorem dg_le (h : DigP t) : dgN t ≤ 7 := by have := h.d; unfold dgN; omega
theorem run_mem {f : Nat → List ByteArray} {P : ByteArray → Prop} (h : ∀ i, ∀ x ∈ f i, P x) {n : Nat} : ∀ x ∈ runM f n, P x := fun x hx => by
 unfold runM at hx
 obtain ⟨i, _, hi⟩ := List.mem_flatMap.1 hx
 exact h i x hi
end

theorem tk_next {xs : List ByteArray} {k : Nat} (h : k < xs.length) : xs.take (k + 1) = xs.take k ++ [xs.getD k ByteArray.empty] := by
 rw [List.take_add_one, List.getElem?_eq_getElem h]
 simp [List.getD, h]

theorem vb_size : ∀ i, i < 7 → (VB.getD i ByteArray.empty).size ≤ 6 := by decide
theorem ag_size {k : Int} {t : ByteArray} (h : AgP k t) : t.size ≤ 71 := by
 by_cases h0 : k ≤ 3
 ·have := (h.strip h0).2; omega
 ·by_cases h4 : k = 4
  ·exact bd_size (h.dom h4).g
  ·by_cases h5 : k = 5
   ·have := (h.stalk h5).2; omega
   ·have := (h.nim (by have := h.hi; omega)).sz; omega
theorem sg_size {w : ByteArray} (h : SgP w) : w.size ≤ 78 := by
 have e := kd_join h.1
 have h1 := ag_size h.2
 have h2 := vb_size (kdI w).toNat (by have := h.2.hi; have := h.1; omega)
 have h3 := congrArg ByteArray.size e
 rw [ByteArray.size_append, ByteArray.size_append] at h3
 have h4 : spB.size = 1 := rfl
 omega
def psW (s : ByteArray) : List ByteArray := if s = noneB then [] else wordsP s
def PsP (s : ByteArray) : Prop := s = noneB ∨ ((wordsP s).length ≤ 6 ∧ ∀ w ∈ wordsP s, SgP w)
theorem ps_size {s : ByteArray} (h : PsP s) : s.size ≤ 600 := by
 rcases h with rfl | ⟨h1, h2⟩
 ·decide
 ·have h3 := (words_size s.size s (Nat.le_refl _)).1
  have h4 := sum_le (f := fun w : ByteArray => w.size + 3) (m := 81) (l := wordsP s) fun w hw => by have := sg_size (h2 w hw); show w.size + 3 ≤ 81; omega
  omega
theorem ps_words {s : ByteArray} (h : PsP s) : (psW s).length ≤ 6 ∧ ∀ w ∈ psW s, SgP w := by
 unfold psW
 split
 ·exact ⟨by simp, fun w hw => by cases hw⟩
 ·rename_i hn
  exact h.resolve_left hn
noncomputable def psB (s : ByteArray) : Bool := decP (PsP s)
noncomputable def psF (s : ByteArray) : List ByteArray := if psB s = true then psW s else []
noncomputable def psC (s : ByteArray) : List (ByteArray × ByteArray) := (psF s).map prW
theorem psF_all {s : ByteArray} : (psF s).length ≤ 6 ∧ ∀ w ∈ psF s, SgP w := by
 unfold psF
 split
 ·rename_i h; exact ps_words (decP_true.1 h)
 ·exact ⟨by simp, fun w hw => by cases hw⟩
def CgP (c : ByteArray × ByteArray) : Prop := AgP (vbI c.1) c.2
theorem psC_all {s : ByteArray} : (psC s).length ≤ 6 ∧ ∀ k, k < (psC s).length → CgP ((psC s).getD k default) := by
 unfold psC
 rw [List.length_map]
 refine ⟨psF_all.1, fun k hk => ?_⟩
 have hg : ((psF s).map prW).getD k default = prW ((psF s).getD k ByteArray.empty) := by simp [List.getD, hk]
 rw [hg]
 exact (sg_iff.1 (psF_all.2 _ (getD_mem hk))).2
end Go.GL

namespace Go.GL
open Go Go.RowKit Go.Lib
theorem drewN_bel (w : World) (n : Nat) : Below w.heap.size w (w.drewN n) := ⟨rfl, rfl, rfl, Nat.le_refl _, fun _ _ => rfl⟩
section
variable {s t a : ByteArray} {k : Int} {i : Nat}

theorem u8i {b c : UInt8} (h : (b.toNat : Int) = (c.toNat : Int)) : b = c := UInt8.toNat_inj.1 (by omega)
theorem in_three {b x y z : UInt8} : b ∈ [x, y, z] ↔ ((b.toNat : Int) = (x.toNat : Int) ∨ (b.toNat : Int) = (y.toNat : Int) ∨ (b.toNat : Int) = (z.toNat : Int)) := by
 simp only [List.mem_cons, List.not_mem_nil, or_false]
 exact ⟨fun h => by rcases h with h | h | h <;> (subst h; simp), fun h => by rcases h with h | h | h <;> (have := u8i h; subst this; simp)⟩
theorem in_two {b x y : UInt8} : b ∈ [x, y] ↔ ((b.toNat : Int) = (x.toNat : Int) ∨ (b.toNat : Int) = (y.toNat : Int)) := by
 simp only [List.mem_cons, List.not_mem_nil, or_false]
 exact ⟨fun h => by rcases h with h | h <;> (subst h; simp), fun h => by rcases h with h | h <;> (have := u8i h; subst this; simp)⟩
theorem stp_T {b : UInt8} (h : k = 0) : b ∈ stpC k ↔ ((b.toNat : Int) = 84 ∨ (b.toNat : Int) = 70 ∨ (b.toNat : Int) = 46) := by unfold stpC; rw [if_pos h]; exact in_three
theorem stp_L {b : UInt8} (h : ¬ k = 0) : b ∈ stpC k ↔ ((b.toNat : Int) = 76 ∨ (b.toNat : Int) = 82 ∨ (b.toNat : Int) = 46) := by unfold stpC; rw [if_neg h]; exact in_three
theorem mk_in {b : UInt8} : b ∈ ([76, 82] : List UInt8) ↔ ((b.toNat : Int) = 76 ∨ (b.toNat : Int) = 82) := in_two
theorem gs_no (h : ¬ GsP k s) : false = gsB k s := (decP_false.2 h).symm
theorem gs_yes (h : GsP k s) : true = gsB k s := (decP_true.2 h).symm
theorem gs_trim {cs : List UInt8} (h : 0 ≤ k ∧ k ≤ 3) (hz : s.size ≤ 12) (e : stpC k = cs) : ((trimM s cs).toList == (⟨#[]⟩ : ByteArray).toList) = gsB k s := by
 cases hc : ((trimM s cs).toList == (⟨#[]⟩ : ByteArray).toList) with
 | true => exact gs_yes ⟨h, hz, fun i hi => by rw [e]; exact trim_yes hc i hi⟩
 | false => exact gs_no fun g => trim_no hc fun i hi => by rw [← e]; exact g.ch i hi
theorem stpC_T (h : k = 0) : stpC k = [84, 70, 46] := if_pos h
theorem stpC_L (h : ¬ k = 0) : stpC k = [76, 82, 46] := if_neg h
noncomputable def mkB (s : ByteArray) : Bool := decP (MarkP s)
theorem mk_trim : ((trimM s [76, 82]).toList == (⟨#[]⟩ : ByteArray).toList) = mkB s := by
 cases hc : ((trimM s [76, 82]).toList == (⟨#[]⟩ : ByteArray).toList) with
 | true => exact (decP_true.2 (trim_yes hc)).symm
 | false => exact (decP_false.2 (trim_no hc)).symm
def SmP (s : ByteArray) (m : Int) : Prop := MarkP s ∧ (s.size : Int) ≤ m
theorem sm_done {m : Int} (h : ∀ i, i < s.size → sB s i ∈ ([76, 82] : List UInt8)) : decide ((s.size : Int) ≤ m) = decP (SmP s m) := by
 by_cases hm : (s.size : Int) ≤ m
 ·rw [decide_eq_true hm]; exact (decP_true.2 ⟨h, hm⟩).symm
 ·rw [decide_eq_false hm]; exact (decP_false.2 fun g => hm g.2).symm
theorem all_next {P : Nat → Prop} {n : Nat} (h : ∀ i, i < n → P i) (hn : P n) : ∀ i, i < n + 1 → P i := fun i hi => if e : i = n then e ▸ hn else h i (by omega)
theorem all_none {P : Nat → Prop} : ∀ i, i < 0 → P i := fun i hi => absurd hi (Nat.not_lt_zero i)

theorem hp_no (h : ¬ DigP t) : (-1 : Int) = hpI t := by unfold hpI; rw [decP_false.2 h]; rfl
theorem hp_yes (h : DigP t) : ((sB t 0).toNat : Int) - 48 = hpI t := by unfold hpI; rw [if_pos (decP_true.2 h)]
theorem hp_pos : 0 ≤ hpI t ↔ DigP t := by
 constructor
 ·intro h
  by_cases hd : DigP t
  ·exact hd
  ·rw [← hp_no hd] at h; omega
 ·intro hd
  rw [← hp_yes hd]; have := hd.d; omega

theorem vb_y (i : Nat) (hi : i < 7) (h : (a.toList == (VB.getD i ByteArray.empty).toList) = true) : vbI a = (i : Int) := by
 rw [ba_of_eq h]; exact (vb_at i hi).1
theorem vb_n (i : Nat) (hi : i < 7) (h : (a.toList == (VB.getD i ByteArray.empty).toList) = false) : vbI a ≠ (i : Int) := fun e => by
 rcases vb_is (k := a) with e1 | ⟨j, hj, e1, e2⟩
 ·omega
 ·have : j = i := by omega
  subst this
  rw [e1] at h
  simp at h
theorem vb_rng : -1 ≤ vbI a ∧ vbI a ≤ 6 := by
 rcases vb_is (k := a) with e1 | ⟨j, hj, e1, e2⟩ <;> omega
theorem sk_of (h : vbI a ≤ 3) : skI a = vbI a := if_pos h

theorem rd_long (h : 71 < t.size) : rdB9 t = false := decP_false.2 fun g => by have := bd_size g; omega
theorem rdF_yes (h : rdB9 t = true) : rdF9 t = partsB 47 t := if_pos h
theorem rdF_no (h : rdB9 t = false) : rdF9 t = [] := by unfold rdF9; rw [h]; rfl
theorem rd_gb (h : rdB9 t = true) : GbP (partsB 47 t) := decP_true.1 h
def cntT (l : List Bool) : Nat := l.count true
def frN (cells : List (List Bool)) (i : Nat) : Nat := ((cells.take i).map cntT).sum
theorem frN_next {cells : List (List Bool)} (h : i < cells.length) : frN cells (i + 1) = frN cells i + cntT (cells.getD i []) := by
 unfold frN
 rw [List.take_add_one, List.getElem?_eq_getElem h, List.map_append, List.sum_append]
 simp [List.getD, h]
theorem cnt_next {l : List Bool} {q : Nat} {b : Bool} (h : q < l.length) (e : l.getD q false = b) : cntT (l.take (q + 1)) = cntT (l.take q) + (if b = true then 1 else 0) := by
 unfold cntT
 rw [List.take_add_one, List.getElem?_eq_getElem h, List.count_append]
 have e2 : l[q] = b := by rw [← e]; simp [List.getD, h]
 rw [e2]; cases b <;> simp
theorem cnt_le (l : List Bool) : cntT l ≤ l.length := List.count_le_length
theorem cnt_line {s : ByteArray} : ∀ {l : List UInt8}, (l.map fun b => decide ((b.toNat : Int) = 46)).count true = l.count 46
 | [] => rfl
 | b :: l => by
  rw [List.map_cons, List.count_cons, List.count_cons, cnt_line (s := s)]
  congr 1
  by_cases h : b = 46
  ·subst h; rfl
  ·have : ¬ (b.toNat : Int) = 46 := fun e => h (u8i (show (b.toNat : Int) = ((46 : UInt8).toNat : Int) from e))
   simp [h, this]
theorem cnt_row {rows : List ByteArray} (hi : i < rows.length) : cntT ((cellsM rows).getD i []) = dotN (rwS rows i) := by
 rw [cells_at hi]
 unfold cntT dotN
 rw [← cnt_line (s := rwS rows i), data_line, List.map_map]
 rfl
theorem fr_all {rows : List ByteArray} : frN (cellsM rows) rows.length = (rows.map dotN).sum := by
 unfold frN
 rw [List.take_of_length_le (by rw [cells_len]; exact Nat.le_refl _)]
 congr 1
 apply List.ext_getElem
 ·rw [List.length_map, List.length_map, cells_len]
 ·intro j h1 h2
  have hj : j < rows.length := by simpa using h2
  have hc : j < (cellsM rows).length := by rw [cells_len]; exact hj
  rw [List.getElem_map, List.getElem_map]
  have h := cnt_row hj
  have e1 : (cellsM rows).getD j [] = (cellsM rows)[j] := by simp [List.getD, hc]
  have e2 : rwS rows j = rows[j] := by unfold rwS; simp [List.getD, hj]
  rw [e1, e2] at h; exact h
theorem fr_text {t : ByteArray} : frN (cellsM (partsB 47 t)) (partsB 47 t).length = dotN t := by rw [fr_all, parts_dots]
theorem joinC_next {rows : List ByteArray} {c : UInt8} (h : i < rows.length) : joinC c (rows.take (i + 1)) = (if 0 < i then joinC c (rows.take i) ++ (⟨#[c]⟩ : ByteArray) else joinC c (rows.take i)) ++ rows.getD i ByteArray.empty := by
 have hl : (rows.take i).length = i := by rw [List.length_take]; omega
 rw [tk_next h, joinC_app, hl]
theorem jn_A {rows : List ByteArray} {c : UInt8} {o : ByteArray} (h : i < rows.length) (ho : o = joinC c (rows.take i)) (h0 : 0 < (i : Int)) : (o ++ (⟨#[c]⟩ : ByteArray)) ++ rows.getD i ByteArray.empty = joinC c (rows.take (i + 1)) := by rw [joinC_next h, if_pos (by omega), ho]
theorem jn_B {rows : List ByteArray} {c : UInt8} {o : ByteArray} (h : i < rows.length) (ho : o = joinC c (rows.take i)) (h0 : ¬ 0 < (i : Int)) : o ++ rows.getD i ByteArray.empty = joinC c (rows.take (i + 1)) := by rw [joinC_next h, if_neg (by omega), ho]
theorem mapF_next {α : Type} [Inhabited α] {xs : List α} {f : α → ByteArray} {os : List ByteArray} (h : i < xs.length) (ho : os = (xs.take i).map f) : os ++ [f (xs.getD i default)] = (xs.take (i + 1)).map f := by
 rw [List.take_add_one, List.getElem?_eq_getElem h, List.map_append, ← ho]
 simp [List.getD, h]
theorem map_done {α : Type} {xs : List α} {f : α → ByteArray} {os : List ByteArray} (h : xs.length ≤ i) (ho : os = (xs.take i).map f) : os = xs.map f := by rw [ho, List.take_of_length_le h]
theorem jc_small {rows : List ByteArray} {c : UInt8} (hl : rows.length ≤ 1000) (hz : ∀ i, i < rows.length → (rows.getD i ByteArray.empty).size ≤ 8) : (joinC c rows).size ≤ 100000 ∧ rows.length ≤ 1048576 := by
 have h1 := join_sum c rows
 have h2 := sum_le (f := fun x : ByteArray => x.size + 1) (m := 9) (l := rows) fun x hx => by
  obtain ⟨i, hi, rfl⟩ := List.getElem_of_mem hx
  have := hz i hi
  have e : rows.getD i ByteArray.empty = rows[i] := by simp [List.getD, hi]
  rw [e] at this
  show rows[i].size + 1 ≤ 9; omega
 exact ⟨by omega, by omega⟩
theorem gx_small {rows : List ByteArray} (g : GbP rows) : rows.length ≤ 1000 := by have := g.hi; omega
theorem gx_rows {rows : List ByteArray} (g : GbP rows) : ∀ i, i < rows.length → (rows.getD i ByteArray.empty).size ≤ 8 := fun _ hi => gb_mem g (getD_mem hi)

theorem psF_no {s : ByteArray} (h : psB s = false) : psF s = [] := by unfold psF; rw [h]; rfl
theorem psC_no {s : ByteArray} (h : psB s = false) : psC s = [] := by unfold psC; rw [psF_no h]; rfl
theorem ps_none {s : ByteArray} (h : (s.toList == noneB.toList) = true) : psB s = true ∧ psF s = [] := by
 have e := ba_of_eq h
 have hp : psB s = true := decP_true.2 (Or.inl e)
 refine ⟨hp, ?_⟩
 unfold psF psW
 rw [if_pos hp, if_pos e]
theorem ps_word {s : ByteArray} (h : PsP s) (hn : (s.toList == noneB.toList) = false) : (wordsP s).length ≤ 6 ∧ ∀ w ∈ wordsP s, SgP w := by
 refine h.resolve_left fun e => ?_
 rw [e] at hn; simp at hn
theorem ps_long {s : ByteArray} (h : 600 < s.size) : psB s = false := decP_false.2 fun g => by have := ps_size g; omega
theorem ps_many {s : ByteArray} (hn : (s.toList == noneB.toList) = false) (h : 6 < (wordsP s).length) : psB s = false := decP_false.2 fun g => by have := (ps_word g hn).1; omega
theorem ps_bad {s : ByteArray} (hn : (s.toList == noneB.toList) = false) {w : ByteArray} (hw : w ∈ wordsP s) (h : ¬ SgP w) : psB s = false := decP_false.2 fun g => h ((ps_word g hn).2 w hw)
theorem ps_good {s : ByteArray} (hn : (s.toList == noneB.toList) = false) (hl : (wordsP s).length ≤ 6) (h : ∀ w ∈ wordsP s, SgP w) : psB s = true ∧ psF s = wordsP s := by
 have hp : psB s = true := decP_true.2 (Or.inr ⟨hl, h⟩)
 refine ⟨hp, ?_⟩
 have e : s ≠ noneB := fun e => by rw [e] at hn; simp at hn
 unfold psF psW
 rw [if_pos hp, if_neg e]
theorem sg_no1 {w : ByteArray} (h : cutY 32 w = false) : ¬ SgP w := fun g => by have := (sg_iff.1 g).1; rw [h] at this; cases this
theorem sg_no2 {w : ByteArray} (h : agB (vbI (cutA 32 w)) (cutZ 32 w) = false) : ¬ SgP w := fun g => decP_false.1 h (sg_iff.1 g).2
theorem sg_ok {w : ByteArray} (h1 : cutY 32 w = true) (h : agB (vbI (cutA 32 w)) (cutZ 32 w) = true) : SgP w := sg_iff.2 ⟨h1, decP_true.1 h⟩
theorem mem_all {P : ByteArray → Prop} {ws : List ByteArray} {n : Nat} (h : ∀ i, i < n → P (ws.getD i ByteArray.empty)) (hn : ws.length ≤ n) : ∀ w ∈ ws, P w := fun w hw => by
 obtain ⟨i, hi, rfl⟩ := List.getElem_of_mem hw
 have := h i (by omega)
 have e : ws.getD i ByteArray.empty = ws[i] := by simp [List.getD, hi]
 rw [e] at this; exact this
theorem pr_next9 {ws : List ByteArray} {os : List (ByteArray × ByteArray)} {x y : ByteArray} (h : i < ws.length) (ho : os = (ws.take i).map prW) (e1 : x = cutA 32 (ws.getD i ByteArray.empty)) (e2 : y = cutZ 32 (ws.getD i ByteArray.empty)) : os ++ [(x, y)] = (ws.take (i + 1)).map prW := by
 rw [tk_next h, List.map_append, ← ho, e1, e2]; rfl
def CsZ (cs : List (ByteArray × ByteArray)) : Prop := ∀ i, i < cs.length → (cs.getD i default).1.size ≤ 100 ∧ (cs.getD i default).2.size ≤ 100
theorem cg_size {c : ByteArray × ByteArray} (h : CgP c) : c.1.size ≤ 6 ∧ c.2.size ≤ 71 := by
 refine ⟨?_, ag_size h⟩
 rcases vb_is (k := c.1) with e | ⟨j, hj, e1, e2⟩
 ·have := ag_pos h; omega
 ·rw [e1]; exact vb_size j hj


theorem ag_4 (h : vbI a = 4) : agB (vbI a) t = (rdB9 t && decide ((dotN t : Int) ≤ 9)) := by
 cases hr : rdB9 t with
 | false => exact decP_false.2 fun g => decP_false.1 hr (g.dom h).g
 | true =>
  by_cases hd : (dotN t : Int) ≤ 9
  ·rw [decide_eq_true hd]; exact decP_true.2 ⟨by omega, fun h => by omega, fun _ => ⟨decP_true.1 hr, by omega⟩, fun h => by omega, fun h => by omega⟩
  ·rw [decide_eq_false hd]; exact decP_false.2 fun g => hd (by have := (g.dom h).n; omega)
theorem ag_5 (h : vbI a = 5) : agB (vbI a) t = (decide ((t.size : Int) ≤ 8) && mkB t) := by
 by_cases hd : (t.size : Int) ≤ 8
 ·rw [decide_eq_true hd]
  cases hm : mkB t with
  | false => exact decP_false.2 fun g => decP_false.1 hm (g.stalk h).1
  | true => exact decP_true.2 ⟨by omega, fun h => by omega, fun h => by omega, fun _ => ⟨decP_true.1 hm, by omega⟩, fun h => by omega⟩
 ·rw [decide_eq_false hd]; exact decP_false.2 fun g => hd (by have := (g.stalk h).2; omega)
theorem ag_6 (h : vbI a = 6) : agB (vbI a) t = decide (0 ≤ hpI t) := by
 by_cases hd : 0 ≤ hpI t
 ·rw [decide_eq_true hd]; exact decP_true.2 ⟨by omega, fun h => by omega, fun h => by omega, fun h => by omega, fun _ => hp_pos.1 hd⟩
 ·rw [decide_eq_false hd]; exact decP_false.2 fun g => hd (hp_pos.2 (g.nim h))
theorem ag_3 (h : vbI a ≤ 3) : agB (vbI a) t = (decide (0 ≤ skI a) && (gsB (skI a) t && decide ((t.size : Int) ≤ 7))) := by
 rw [sk_of h]
 by_cases h0 : 0 ≤ vbI a
 ·rw [decide_eq_true h0]
  cases hg : gsB (vbI a) t with
  | false => exact decP_false.2 fun g => decP_false.1 hg (g.strip h).1
  | true =>
   by_cases hd : (t.size : Int) ≤ 7
   ·rw [decide_eq_true hd]; exact decP_true.2 ⟨by omega, fun _ => ⟨decP_true.1 hg, by omega⟩, fun h => by omega, fun h => by omega, fun h => by omega⟩
   ·rw [decide_eq_false hd]; exact decP_false.2 fun g => hd (by have := (g.strip h).2; omega)
 ·rw [decide_eq_false h0]; exact decP_false.2 fun g => h0 (ag_pos g)
theorem cut_size (w : ByteArray) : (cutA 32 w).size ≤ w.size ∧ (cutZ 32 w).size ≤ w.size := by
 cases h : cutY 32 w with
 | true =>
  have e := congrArg List.length (cut_list h).1
  rw [List.length_append, List.length_cons, ba_size, ba_size, ba_size] at e
  omega
 | false =>
  rcases indexB_cases w spB with hi | ⟨i, hi, hr⟩
  ·obtain ⟨h1, h2, _⟩ := cutB_miss w spB hi
   have e1 : cutA 32 w = w := h1
   have e2 : cutZ 32 w = ByteArray.empty := h2
   rw [e1, e2]; exact ⟨Nat.le_refl _, Nat.zero_le _⟩
  ·have h3 : cutY 32 w = true := (cutB_hit w spB i hi).2.2
   rw [h] at h3; cases h3
theorem map_doneC {ws : List ByteArray} {os : List (ByteArray × ByteArray)} (h : ws.length ≤ i) (ho : os = (ws.take i).map prW) : os = ws.map prW := by rw [ho, List.take_of_length_le h]

theorem dig_num {n : Int} (h : 0 ≤ n ∧ n < 10) : numT n = (⟨#[UInt8.ofNat (48 + n.toNat)]⟩ : ByteArray) := by
 apply ba_ext
 rw [numT_list h.1, decDigits_one (by omega)]
theorem num_dig {n : Int} (h : 0 ≤ n ∧ n ≤ 7) (e : numT n = t) : DigP t := by
 rw [← e, dig_num ⟨h.1, by omega⟩]
 refine ⟨rfl, ?_⟩
 have : sB (⟨#[UInt8.ofNat (48 + n.toNat)]⟩ : ByteArray) 0 = UInt8.ofNat (48 + n.toNat) := rfl
 rw [this, ofNat_toNat (by omega)]; omega
theorem dig_of (h : DigP t) : numT (dgN t : Int) = t := by
 have hd := h.d
 have hg : ((dgN t : Nat) : Int) = ((sB t 0).toNat : Int) - 48 := by unfold dgN; omega
 rw [dig_num ⟨by omega, by omega⟩]
 have e : 48 + ((dgN t : Nat) : Int).toNat = (sB t 0).toNat := by omega
 rw [e]
 apply ba_ext
 have hl : t.data.toList.length = 1 := by rw [ba_size]; exact h.sz
 have h0 := sB_list t (i := 0) (by rw [h.sz]; omega)
 match hx : t.data.toList, hl with
 | [b], _ =>
  rw [hx] at h0
  have : b = sB t 0 := Option.some.inj h0
  subst this
  show [UInt8.ofNat (sB t 0).toNat] = [sB t 0]
  rw [UInt8.ofNat_toNat]
def fV (n : Nat) (q : ByteArray) : ByteArray := (VB.getD n ByteArray.empty ++ spB) ++ q
theorem sqJ_in {f : Nat} {os : List ByteArray} (h : SqJ s i f os) (hi : i ≤ s.size) : SqI s i f os := by
 rcases h with h | h
 ·exact h.2
 ·omega
theorem sqJ_out {f : Nat} {os : List ByteArray} (h : SqJ s i f os) (hi : ¬ i ≤ s.size) : wordsP s = os := by
 rcases h with h | h
 ·omega
 ·exact h.2
theorem sq_memY {f : Nat} {os : List ByteArray} (h : SqI s i f os) (hf : f ≤ i) (hi : i + 3 ≤ s.size) (hy : ((s.extract i (i + 3)).toList == psB3.toList) = true) : s.extract f i ∈ wordsP s ∧ os.length + 1 < (wordsP s).length + 1 := by
 have e := (sqI_yes h hf hi hy).eq
 rw [e]
 exact ⟨by simp, by simp⟩
theorem sq_memE {f : Nat} {os : List ByteArray} (h : SqI s i f os) (hi : i = s.size) : s.extract f i ∈ wordsP s ∧ os.length + 1 < (wordsP s).length + 1 := by
 have e := sqI_done h (by omega)
 rw [e, hi]
 exact ⟨by simp, by simp⟩
theorem sgB_n (h : kdI s < 0) : false = sgB s := (decP_false.2 fun g => by have := g.1; omega).symm
theorem sg_t {b : Bool} (h0 : 0 ≤ kdI s) (h : agB (kdI s) (tlB s) = b) : b = sgB s := by
 cases b with
 | true => exact (decP_true.2 ⟨h0, decP_true.1 h⟩).symm
 | false => exact (decP_false.2 fun g => decP_false.1 h g.2).symm
theorem agk_3 (h0 : 0 ≤ k) (h : k ≤ 3) : agB k t = (gsB k t && decide ((t.size : Int) ≤ 7)) := by
 cases hg : gsB k t with
 | false => exact decP_false.2 fun g => decP_false.1 hg (g.strip h).1
 | true =>
  by_cases hd : (t.size : Int) ≤ 7
  ·rw [decide_eq_true hd]; exact decP_true.2 ⟨by omega, fun _ => ⟨decP_true.1 hg, by omega⟩, fun h => by omega, fun h => by omega, fun h => by omega⟩
  ·rw [decide_eq_false hd]; exact decP_false.2 fun g => hd (by have := (g.strip h).2; omega)
theorem agk_4n (h : k = 4) (hr : rdB9 t = false) : agB k t = false := decP_false.2 fun g => decP_false.1 hr (g.dom h).g
theorem agk_4 (h : k = 4) (hr : rdB9 t = true) : agB k t = decide (((frN (cellsM (partsB 47 t)) (partsB 47 t).length : Nat) : Int) ≤ 9) := by
 rw [fr_text]
 by_cases hd : (dotN t : Int) ≤ 9
 ·rw [decide_eq_true hd]; exact decP_true.2 ⟨by omega, fun h => by omega, fun _ => ⟨decP_true.1 hr, by omega⟩, fun h => by omega, fun h => by omega⟩
 ·rw [decide_eq_false hd]; exact decP_false.2 fun g => hd (by have := (g.dom h).n; omega)
theorem agk_5 (h : k = 5) : agB k t = decP (SmP t 8) := by
 by_cases hd : SmP t 8
 ·rw [decP_true.2 hd]; exact decP_true.2 ⟨by omega, fun h => by omega, fun h => by omega, fun _ => ⟨hd.1, by have := hd.2; omega⟩, fun h => by omega⟩
 ·rw [decP_false.2 hd]; exact decP_false.2 fun g => hd ⟨(g.stalk h).1, by have := (g.stalk h).2; omega⟩
theorem agk_6 (h : k = 6) {n : Int} {ok : Bool} (hr : RdN t n ok) (he : ok = true → numT n = t) : agB k t = (ok && decide (0 ≤ n ∧ n ≤ 7)) := by
 cases ok with
 | false =>
  refine decP_false.2 fun g => ?_
  have hd := g.nim h
  have h7 := dg_le hd
  have := (hr.all (dgN t : Int) ⟨by omega, by omega⟩ (dig_of hd)).2
  cases this
 | true =>
  by_cases hd : 0 ≤ n ∧ n ≤ 7
  ·rw [decide_eq_true hd]; exact decP_true.2 ⟨by omega, fun h => by omega, fun h => by omega, fun h => by omega, fun _ => num_dig hd (he rfl)⟩
  ·rw [decide_eq_false hd]
   refine decP_false.2 fun g => hd ?_
   have hd := g.nim h
   have h7 := dg_le hd
   have := (hr.all (dgN t : Int) ⟨by omega, by omega⟩ (dig_of hd)).1
   omega
theorem kd_rng (w : ByteArray) : -1 ≤ kdI w ∧ kdI w ≤ 6 := by
 have := vb_rng (a := cutA 32 w)
 unfold kdI; split <;> omega
theorem tl_size (w : ByteArray) : (tlB w).size ≤ w.size := by
 unfold tlB
 split
 ·exact Nat.zero_le _
 ·exact (cut_size w).2
theorem snocP {P : ByteArray → Prop} {os : List ByteArray} {x : ByteArray} (h : ∀ y ∈ os, P y) (hx : P x) : ∀ y ∈ os ++ [x], P y := fun y hy => by
 rcases List.mem_append.1 hy with hy | hy
 ·exact h y hy
 ·rw [List.mem_singleton.1 hy]; exact hx
end
end Go.GL

namespace Go.GL
open Go Go.RowKit Go.Lib
structure It (w : World) (k : Nat) (s : ByteArray) (p : Nat) : Prop where
 heap : w.heap[k]? = some (.stringIter s p)
section
variable {w w' : World} {k p : Nat} {s : ByteArray} {G G' : Pin}
theorem It.lt (h : It w k s p) : k < w.heap.size := (Array.getElem?_eq_some_iff.1 h.heap).1
theorem It.kept {row : Option Nat} (h : It w k s p) (hg : w.grownBy w' row) (hn : some k ≠ row) : It w' k s p := ⟨by rw [hg.block k h.lt hn]; exact h.heap⟩
theorem It.below (h : It w k s p) (hb : Below w.heap.size w w') : It w' k s p := h.kept (Below.grownBy hb none) (by simp)
theorem It.extS {S : Nat → Prop} (h : It w k s p) (hx : Ext S G w G' w') (hS : ¬ S k) : It w' k s p := ⟨by rw [hx.block k h.lt hS]; exact h.heap⟩
theorem It.ext (h : It w k s p) (hx : Ext noS G w G' w') : It w' k s p := h.extS hx id
theorem It.ne_row (h : It w k s p) {b : Nat} {c : Array Value} {e : Nat} {fz : Nat × Nat} (hb : w.heap[b]? = some (.cells c e fz)) : b ≠ k := fun e2 => by
 subst e2; rw [h.heap] at hb; cases hb
theorem It.ne_own (h : It w k s p) {α : Type} {E : Elt α} {e base : Nat} {v : Value} {xs : List α} (ho : Own E e G w base v xs) : some k ≠ v.ownBlock := fun hk => by
 obtain ⟨cells, hown, _⟩ := ho.ex
 rcases hown.2 with ⟨rfl, _⟩ | ⟨g, cap, cur, rfl, _, hg, _⟩
 ·simp [Value.ownBlock] at hk
 ·simp [Value.ownBlock] at hk
  exact h.ne_row hg hk.symm
theorem It.ne_box (h : It w k s p) {b : Nat} {cs : List Value} (hb : Bx G w b cs) : some k ≠ some b := fun e => by
 obtain ⟨T, hT⟩ := hb.heap
 exact h.ne_row hT (Option.some.inj e).symm
theorem It.ap_own (h : It w k s p) {α : Type} {E : Elt α} {e base : Nat} {v : Value} {xs : List α} (ho : Own E e G w base v xs) : Apart v.ownBlock (some k) := fun j hj hk => h.ne_own ho (by rw [hj, ← hk])
theorem It.ap_box (h : It w k s p) {b : Nat} {cs : List Value} (hb : Bx G w b cs) : Apart (some b) (some k) := fun j hj hk => h.ne_box hb (by rw [hj, ← hk])
theorem It.free (h : It w k s p) (hP : Pins G w) : ∀ o u, ¬ G k o u := fun o u hu => by
 have := hP k o u hu
 simp [World.cell?, h.heap] at this
theorem It.step (h : It w k s p) (hP : Pins G w) (p' : Nat) : It (w.iterAt k s p') k s p' ∧ Pins G (w.iterAt k s p') ∧ w.grownBy (w.iterAt k s p') (some k) ∧ (w.iterAt k s p').heap.size = w.heap.size := by
 have hg : w.grownBy (w.iterAt k s p') (some k) := ⟨rfl, rfl, rfl, by rw [iterAt_size]; exact Nat.le_refl _, fun j _ hj => iterAt_other w k j s p' (fun e => hj (by rw [e]))⟩
 exact ⟨⟨iterAt_heap w k s p p' h.heap⟩, fun b o u hu => hg.cell (hP b o u hu) (fun e => h.free hP o u (by cases e; exact hu)), hg, iterAt_size ..⟩
end
section
variable {P : Program} {ρ : Operand → Value} {w : World} {K : Value → World → Prop} {d : Option Nat} {t ty : Nat} {pos : String} {aft : Array Edge} {g : Option (Nat × Bool)} {x : Operand} {G : Pin} {s : ByteArray}
theorem o_range (ht : P.underlying t = some .string) (hx : ρ x = .string s) (hP : Pins G w)
  (h : ∀ k w', k = w.heap.size → It w' k s 0 → Pins G w' → Below w.heap.size w w' → K (.pointer (some ⟨k, 0, none⟩)) w') : EO P ρ ⟨d, .range t x, ty, pos, aft, g⟩ w K := by
 have hb : Below w.heap.size w (w.iter s 0) := (Below.refl _ _).alloc (Nat.le_refl _) _
 refine EO.run (v := .pointer (some ⟨w.heap.size, 0, none⟩)) (w' := w.iter s 0) ?_ (h _ _ rfl ⟨World.iter_heap w s 0⟩ (hP.below hb) hb)
 simp only [execOp, hx, Sem.run_bind, run_range_string w t s ht, Result.andThen_ok]
 rfl
theorem o_nextY {k p : Nat} (hx : ρ x = .pointer (some ⟨k, 0, none⟩)) (hi : It w k s p) (hP : Pins G w) (h1 : p < s.size) (ha : (sB s p).toNat < 128)
  (h : ∀ w', It w' k s (p + 1) → Pins G w' → w.grownBy w' (some k) → w'.heap.size = w.heap.size → K (.tuple #[.bool true, .int .i64 (p : Int), .int .i32 ((sB s p).toNat : Int)]) w') : EO P ρ ⟨d, .next x true, ty, pos, aft, g⟩ w K := by
 have e : sB s p = s[p] := by unfold sB; rw [getElem?_pos s p h1]; rfl
 rw [e] at ha h
 obtain ⟨a1, a2, a3, a4⟩ := hi.step hP (p + 1)
 refine EO.run (w' := w.iterAt k s (p + 1)) ?_ (h _ a1 a2 a3 a4)
 simp only [execOp, hx, Sem.run_bind, run_next_ascii_at w k s p ty hi.heap h1 ha, Result.andThen_ok]
 rfl
theorem o_nextN {k p : Nat} (hx : ρ x = .pointer (some ⟨k, 0, none⟩)) (hi : It w k s p) (h1 : ¬ p < s.size) (h : K (.tuple #[.bool false]) w) : EO P ρ ⟨d, .next x true, ty, pos, aft, g⟩ w K := by
 refine EO.run (w' := w) ?_ h
 simp only [execOp, hx, Sem.run_bind, run_next_end_at w k s p ty hi.heap h1, Result.andThen_ok]
 rfl
end

structure OwnM (e : Nat) (G : Pin) (w : World) (base : Nat) (v : Value) (xs : List UInt8) : Prop where
 ex : ∃ g cap cur fz, v = .slice (some ⟨g, 0, none⟩) xs.length cap ∧ base ≤ g ∧ w.heap[g]? = some (.cells cur e fz) ∧ cur.size ≤ fz.1 ∧ xs.length ≤ cap ∧ cap ≤ maxLen ∧ cur.size = cap ∧ cur.toList.take xs.length = xs.map fun b => Value.int .u8 b.toNat
 free : ∀ k, v.ownBlock = some k → ∀ o u, ¬ G k o u
section
variable {e base : Nat} {G G' : Pin} {w w' : World} {v : Value} {xs : List UInt8}
theorem OwnM.lt (h : OwnM e G w base v xs) : ∀ k, v.ownBlock = some k → base ≤ k ∧ k < w.heap.size := fun k hk => by
 obtain ⟨g, cap, cur, fz, rfl, hb, hg, _⟩ := h.ex
 simp [Value.ownBlock] at hk
 subst hk
 exact ⟨hb, (Array.getElem?_eq_some_iff.1 hg).1⟩
theorem lo_ownM {S : Nat → Prop} {w0 : World} (h : OwnM e G w w0.heap.size v xs) : Lo w0 S v.ownBlock := fun k hk => Or.inl (h.lt k hk).1
theorem OwnM.keptA {row : Option Nat} (h : OwnM e G w base v xs) (hg : w.grownBy w' row) (hn : Apart v.ownBlock row) : OwnM e G w' base v xs := by
 obtain ⟨g, cap, cur, fz, rfl, hb, hgg, rest⟩ := h.ex
 refine ⟨⟨g, cap, cur, fz, rfl, hb, ?_, rest⟩, h.free⟩
 rw [hg.block g (Array.getElem?_eq_some_iff.1 hgg).1 (fun e => hn g rfl e.symm)]
 exact hgg
theorem OwnM.below (h : OwnM e G w base v xs) (hb : Below w.heap.size w w') : OwnM e G w' base v xs := h.keptA (Below.grownBy hb none) fun _ _ h => by cases h
theorem OwnM.read (h : OwnM e G w base v xs) : RSl eByte (Gadd G w v) v xs := by
 obtain ⟨g, cap, cur, fz, rfl, hb, hg, hf, hn, hm, hc, ht⟩ := h.ex
 refine ⟨⟨some ⟨g, 0, none⟩, cap, rfl, hn, hm⟩, fun i b hi => ?_⟩
 obtain ⟨hi1, hi2⟩ := List.getElem?_eq_some_iff.1 hi
 refine ⟨⟨g, 0, none⟩, g, i, xs.length, cap, [.int .u8 b.toNat], rfl, fun j => ?_, rfl, fun j u hu => ?_⟩
 ·show (⟨g, 0, none⟩ : Addr).add (i * 1 + j) = _
  simp only [Addr.add]; split <;> simp_all
 ·have hj : j = 0 := by have := (List.getElem?_eq_some_iff.1 hu).1; simpa using this
  subst hj
  have hu' : Value.int .u8 b.toNat = u := by simpa using hu
  refine Or.inr ⟨rfl, ?_⟩
  have h3 : cur.toList[i]? = some (Value.int .u8 b.toNat) := by
   have : (cur.toList.take xs.length)[i]? = some (Value.int .u8 b.toNat) := by rw [ht]; simp [hi]
   rw [List.getElem?_take, if_pos hi1] at this
   exact this
  simp only [World.cell?, hg]
  rw [← hu']
  simpa using h3
end
section
variable {e base : Nat} {G G' : Pin} {w w' : World} {v : Value} {xs : List UInt8}
theorem OwnM.weaken {base' : Nat} (h : OwnM e G w base v xs) (hb : base' ≤ base) : OwnM e G w base' v xs := by
 obtain ⟨g, cap, cur, fz, rfl, hb2, rest⟩ := h.ex
 exact ⟨⟨g, cap, cur, fz, rfl, Nat.le_trans hb hb2, rest⟩, h.free⟩
theorem OwnM.setAt (h : OwnM e G w base v xs) {z : Int} (h0 : 0 ≤ z) (h1 : z < xs.length) (q : UInt8) (hP : Pins G w) {P : Program} :
  ∃ g w', v.ownBlock = some g ∧ eptr v z 1 0 = .pointer (some ⟨g, z.toNat, none⟩) ∧ (store ⟨g, z.toNat, none⟩ (.int .u8 q.toNat)).run P w = .ok () w' ∧
   OwnM e G w' base v (xs.set z.toNat q) ∧ Pins G w' ∧ w.grownBy w' v.ownBlock ∧ w'.heap.size = w.heap.size := by
 have hfree := h.free
 obtain ⟨g, cap, cur, fz, rfl, hb, hg, hf, hn, hm, hc, ht⟩ := h.ex
 have hz : z.toNat < xs.length := by omega
 have hi : z.toNat < cur.size := by omega
 have hcell : w.cell? ⟨g, z.toNat, none⟩ = some cur[z.toNat] := by simp [World.cell?, hg, hi]
 have hfro : w.frozen? ⟨g, z.toNat, none⟩ = false := by
  obtain ⟨lo, hi'⟩ := fz
  simp only [World.frozen?, hg, Bool.and_eq_false_iff, decide_eq_false_iff_not]
  left
  simp only at hf
  omega
 have hst : (store ⟨g, z.toNat, none⟩ (.int .u8 q.toNat)).run P w = .ok () (w.setRow g (cur.setIfInBounds z.toNat (.int .u8 q.toNat))) := by
  rw [run_store P w _ _ _ rfl, hcell]
  simp [hfro, setCell_eq_setRow w g z.toNat cur e fz _ hg]
 have hgrow : w.grownBy (w.setRow g (cur.setIfInBounds z.toNat (.int .u8 q.toNat))) (some g) :=
  ⟨rfl, rfl, rfl, by simp [World.setRow], fun k _ hk => setRow_other w g k _ (fun e => hk (by simp [e]))⟩
 refine ⟨g, _, rfl, ?_, hst, ⟨⟨g, cap, _, fz, by rw [List.length_set], hb, setRow_heap w g cur _ e fz hg, by simpa using hf, by rw [List.length_set]; exact hn, hm, by simpa using hc, ?_⟩, hfree⟩, fun b o u hu => hgrow.cell (hP b o u hu) (fun e => hfree g rfl o u (by cases e; exact hu)), hgrow, by simp [World.setRow]⟩
 ·simp only [eptr, Addr.add]; split <;> simp_all
 ·rw [List.length_set, List.map_set, ← ht]
  apply List.ext_getElem?
  intro j
  simp only [Array.toList_setIfInBounds, List.getElem?_take, List.getElem?_set, List.length_take]
  by_cases hj : j < xs.length
  ·rw [if_pos hj]
   by_cases hj2 : z.toNat = j
   ·subst hj2
    simp [hi]
    omega
   ·rw [if_neg hj2, if_neg hj2, if_pos hj]
  ·rw [if_neg hj]
   by_cases hj2 : z.toNat = j
   ·omega
   ·rw [if_neg hj2, if_neg hj]
end
theorem ownM_conv {w : World} {G : Pin} {e : Nat} (s : ByteArray) (hP : Pins G w) (hs : s.size ≤ 1000000) : OwnM e G (bytesWorld w e s) w.heap.size (.slice (some ⟨w.heap.size, 0, none⟩) s.size (grownCap w s.size 0 e)) s.data.toList ∧ Pins G (bytesWorld w e s) ∧ Below w.heap.size w (bytesWorld w e s) := by
 have hb : Below w.heap.size w (bytesWorld w e s) := bytesWorld_below w e s
 have hsz : (bytesCells w e s).size = grownCap w s.size 0 e := by
  have := grownCap_ge w s.size 0 e
  have h2 : s.data.size = s.size := rfl
  unfold bytesCells
  simp [h2]
  omega
 refine ⟨⟨⟨w.heap.size, _, _, _, rfl, Nat.le_refl _, bytesWorld_at_new w e s, Nat.le_refl _, grownCap_ge w s.size 0 e, grownCap_le_maxLen w s.size 0 e (by unfold maxLen; omega), hsz, ?_⟩, fun k hk o u hG => ?_⟩, hP.below hb, hb⟩
 ·unfold bytesCells
  have h2 : s.data.toList.length = s.size := rfl
  simp [h2]
 ·simp [Value.ownBlock] at hk
  have := block_lt (hP _ _ _ hG); omega
section
variable {P : Program} {ρ : Operand → Value} {w : World} {K : Value → World → Prop} {d : Option Nat} {t ty e : Nat} {pos : String} {aft : Array Edge} {g : Option (Nat × Bool)} {x y : Operand} {G : Pin} {s : ByteArray} {v : Value}
theorem o_s2b {src dst : Nat} (hs : P.underlying src = some .string) (hd : P.underlying dst = some (.slice e)) (he : P.underlying e = some (.int .u8)) (hx : ρ x = .string s) (hP : Pins G w) (hl : s.size ≤ 1000000)
  (h : ∀ v w', OwnM e G w' w.heap.size v s.data.toList → Pins G w' → Below w.heap.size w w' → v.ownBlock = some w.heap.size → K v w') : EO P ρ ⟨d, .convert src dst x, ty, pos, aft, g⟩ w K := by
 obtain ⟨a1, a2, a3⟩ := ownM_conv (e := e) s hP hl
 refine EO.run ?_ (h _ _ a1 a2 a3 rfl)
 simp only [execOp, hx, Sem.run_bind]
 rw [Go.Lib.run_convert_string_bytes w src dst e s hs hd he]
 rfl
theorem o_setM {base : Nat} {xs : List UInt8} {z : Int} (q : UInt8) (hs : (P.info? t).map (·.size) = some 1) (hx : ρ x = eptr v z 1 0) (hy : ρ y = .int .u8 q.toNat) (hP : Pins G w) (hv : OwnM e G w base v xs) (h0 : 0 ≤ z) (h1 : z < xs.length)
  (h : ∀ w', OwnM e G w' base v (xs.set z.toNat q) → Pins G w' → w.grownBy w' v.ownBlock → w'.heap.size = w.heap.size → K undef w') : EO P ρ ⟨d, .store t x y, ty, pos, aft, g⟩ w K := by
 obtain ⟨b, w', hb, hp, hst, a1, a2, a3, a4⟩ := hv.setAt h0 h1 q hP (P := P)
 refine EO.skip (w' := w') ?_ (h w' a1 a2 a3 a4)
 rw [hp] at hx
 have hlv : (storeVar t ⟨b, z.toNat, none⟩ (.int .u8 q.toNat)).run P w = .ok () w' := by
  unfold storeVar
  have hc2 : (Value.int .u8 (q.toNat : Int)).cells = #[.int .u8 (q.toNat : Int)] := rfl
  simp only [Sem.run_bind, run_sizeOf hs, Result.andThen_ok, hc2]
  simp only [List.size_toArray, List.length_cons, List.length_nil, Nat.zero_add, ne_eq, not_true_eq_false, if_false, storeCells]
  have had : (⟨b, z.toNat, none⟩ : Addr).add 0 = ⟨b, z.toNat, none⟩ := by unfold Addr.add; split <;> simp_all
  simp only [Sem.run_bind, had, hst, Result.andThen_ok]
  rfl
 simp only [execOp, hx, hy, Instr.storeAt, Instr.sureAddr, Sem.run_bind, Sem.run_pure, Result.andThen_ok, hlv]
end
end Go.GL

namespace Go.Proofs
open Go.Shelf
def Tryz.lays156_ren : Go.Shelf.Ren := ⟨fun | 156 => 61 | 165 => 94 | 166 => 95 | 169 => 96 | 240 => 114 | 241 => 115 | 276 => 126 | 277 => 127 | n => n, fun | 31 => 22 | 9 => 9 | 3 => 3 | 4 => 4 | 0 => 0 | 20 => 20 | 72 => 103 | 76 => 107 | 70 => 101 | 37 => 47 | 75 => 106 | 127 => 125 | 164 => 137 | 5 => 5 | 80 => 37 | n => n, fun | n => n⟩
theorem Tryz.lays156 : Go.Proofs.Lays.n156 Tryz.prog Tryz.lays156_ren := {
 mixed := by kernel_rfl
 f156 := Tryz.func61.trans (congrArg some (by kernel_rfl))
 f165 := Tryz.func94.trans (congrArg some (by kernel_rfl))
 f166 := Tryz.func95.trans (congrArg some (by kernel_rfl))
 f169 := Tryz.func96.trans (congrArg some (by kernel_rfl))
 f240 := Tryz.func114.trans (congrArg some (by kernel_rfl))
 f241 := Tryz.func115.trans (congrArg some (by kernel_rfl))
 f276 := Tryz.func126.trans (congrArg some (by kernel_rfl))
 f277 := Tryz.func127.trans (congrArg some (by kernel_rfl))
 t0 := Tryz.underlying0
 a0 := Tryz.isAgg0
 z0 := Tryz.sizeOf0
 v0 := Tryz.zeroValue0
 t3 := Tryz.underlying3
 a3 := Tryz.isAgg3
 z3 := Tryz.sizeOf3
 v3 := Tryz.zeroValue3
 t4 := Tryz.underlying4
 a4 := Tryz.isAgg4
 z4 := Tryz.sizeOf4
 v4 := Tryz.zeroValue4
 t9 := Tryz.underlying9
 a9 := Tryz.isAgg9
 z9 := Tryz.sizeOf9
 v9 := Tryz.zeroValue9
 t20 := Tryz.underlying20
 a20 := Tryz.isAgg20
 z20 := Tryz.sizeOf20
 v20 := Tryz.zeroValue20
 t31 := Tryz.underlying22
 a31 := Tryz.isAgg22
 z31 := Tryz.sizeOf22
 v31 := Tryz.zeroValue22
 t37 := Tryz.underlying47
 a37 := Tryz.isAgg47
 z37 := Tryz.sizeOf47
 v37 := Tryz.zeroValue47
 t70 := Tryz.underlying101
 a70 := Tryz.isAgg101
 z70 := Tryz.sizeOf101
 v70 := Tryz.zeroValue101
 t72 := Tryz.underlying103
 a72 := Tryz.isAgg103
 z72 := Tryz.sizeOf103
 v72 := Tryz.zeroValue103
 t75 := Tryz.underlying106
 a75 := Tryz.isAgg106
 z75 := Tryz.sizeOf106
 v75 := Tryz.zeroValue106
 t76 := Tryz.underlying107
 a76 := Tryz.isAgg107
 z76 := Tryz.sizeOf107
 v76 := Tryz.zeroValue107
 t127 := Tryz.underlying125
 a127 := Tryz.isAgg125
 z127 := Tryz.sizeOf125
 v127 := Tryz.zeroValue125
 t164 := Tryz.underlying137
 a164 := Tryz.isAgg137
 z164 := Tryz.sizeOf137
 v164 := Tryz.zeroValue137 }
theorem Tryz.Builder_Extra_156 : Builder.Extra Tryz.prog Tryz.lays156_ren := {
 sizeBuilder := by kernel_rfl
 liesBuilder := by kernel_rfl
 t5 := Tryz.underlying5
 a5 := Tryz.isAgg5
 z5 := Tryz.sizeOf5
 v5 := Tryz.zeroValue5
 infoByte := by kernel_rfl
 cellsByte := by kernel_rfl
 sizeByte := by kernel_rfl
 neB5 := by decide }
open Go.RowKit in
theorem Tryz.strings_Join_none (a : Option Addr) (c : Nat) (sep : ByteArray) (w : World) :
  Calls Tryz.prog 61 #[.slice a 0 c, .string sep] w fun e w' => e = .returned (.string ⟨#[]⟩) ∧ w' = w := Any.strings_Join_none Tryz.lays156 Tryz.Builder_Extra_156 a c sep w
open Go.RowKit in
theorem Tryz.strings_Join (bk o c : Nat) (xs : List ByteArray) (sep : ByteArray) (w : World) (hcells : ∀ (j : Nat) x, xs[j]? = some x → w.cell? ⟨bk, o + j, none⟩ = some (.string x)) (hbk : bk < w.heap.size) (hN : xs.length ≤ 140737488355328) (hcap : xs.length ≤ c) (hlen : (Lib.join (xs.map (·.data.toList)) sep.data.toList).length ≤ 140737488355328) :
  Calls Tryz.prog 61 #[.slice (some ⟨bk, o, none⟩) xs.length c, .string sep] w fun e w' => e = .returned (.string ⟨(Lib.join (xs.map (·.data.toList)) sep.data.toList).toArray⟩) ∧ Below w.heap.size w w' := Any.strings_Join Tryz.lays156 Tryz.Builder_Extra_156 bk o c xs sep w hcells hbk hN hcap hlen
def Tryz.lays145_ren : Go.Shelf.Ren := ⟨fun | 145 => 23 | 220 => 43 | 219 => 73 | 217 => 100 | 225 => 101 | 224 => 102 | 267 => 103 | 266 => 117 | 314 => 118 | n => n, fun | 9 => 9 | 4 => 4 | 59 => 43 | 3 => 3 | 5 => 5 | 46 => 113 | 146 => 127 | 51 => 126 | n => n, fun | 1 => 0 | n => n⟩
theorem Tryz.lays145 : Go.Proofs.Lays.n145 Tryz.prog Tryz.lays145_ren := {
 mixed := by kernel_rfl
 f145 := Tryz.func23.trans (congrArg some (by kernel_rfl))
 f217 := Tryz.func100.trans (congrArg some (by kernel_rfl))
 f219 := Tryz.func73.trans (congrArg some (by kernel_rfl))
 f220 := Tryz.func43.trans (congrArg some (by kernel_rfl))
 f224 := Tryz.func102.trans (congrArg some (by kernel_rfl))
 f225 := Tryz.func101.trans (congrArg some (by kernel_rfl))
 f266 := Tryz.func117.trans (congrArg some (by kernel_rfl))
 f267 := Tryz.func103.trans (congrArg some (by kernel_rfl))
 f314 := Tryz.func118.trans (congrArg some (by kernel_rfl))
 t3 := Tryz.underlying3
 a3 := Tryz.isAgg3
 z3 := Tryz.sizeOf3
 v3 := Tryz.zeroValue3
 t4 := Tryz.underlying4
 a4 := Tryz.isAgg4
 z4 := Tryz.sizeOf4
 v4 := Tryz.zeroValue4
 t5 := Tryz.underlying5
 a5 := Tryz.isAgg5
 z5 := Tryz.sizeOf5
 v5 := Tryz.zeroValue5
 t9 := Tryz.underlying9
 a9 := Tryz.isAgg9
 z9 := Tryz.sizeOf9
 v9 := Tryz.zeroValue9
 t46 := Tryz.underlying113
 a46 := Tryz.isAgg113
 z46 := Tryz.sizeOf113
 v46 := Tryz.zeroValue113
 t51 := Tryz.underlying126
 a51 := Tryz.isAgg126
 z51 := Tryz.sizeOf126
 v51 := Tryz.zeroValue126
 t59 := Tryz.underlying43
 a59 := Tryz.isAgg43
 z59 := Tryz.sizeOf43
 v59 := Tryz.zeroValue43
 t146 := Tryz.underlying127
 a146 := Tryz.isAgg127
 z146 := Tryz.sizeOf127
 v146 := Tryz.zeroValue127
 g1 := by kernel_rfl }
open Go.RowKit Go.Lib in
theorem Tryz.strings_Cut (s sep : ByteArray) (m : Int) (w : World) (hs : s.size < 4294967281) (hm : w.cell? ⟨0, 0, none⟩ = some (.int .i64 m)) :
  Calls Tryz.prog 23 #[.string s, .string sep] w fun e w' => e = .returned (.tuple #[.string ⟨(Lib.cut s.data.toList sep.data.toList).1.toArray⟩, .string ⟨(Lib.cut s.data.toList sep.data.toList).2.1.toArray⟩, .bool (Lib.cut s.data.toList sep.data.toList).2.2]) ∧ ∃ n, w' = w.drewN n := Any.strings_Cut Tryz.lays145 s sep m w hs hm
def Tryz.lays138_ren : Go.Shelf.Ren := ⟨fun | 138 => 45 | 195 => 75 | 218 => 76 | 143 => 72 | 219 => 73 | 217 => 100 | 225 => 101 | 224 => 102 | 267 => 103 | 266 => 117 | 314 => 118 | n => n, fun | 9 => 9 | 3 => 3 | 4 => 4 | 5 => 5 | 0 => 0 | 46 => 113 | 146 => 127 | 51 => 126 | n => n, fun | 1 => 0 | n => n⟩
theorem Tryz.lays138 : Go.Proofs.Lays.n138 Tryz.prog Tryz.lays138_ren := {
 mixed := by kernel_rfl
 f138 := Tryz.func45.trans (congrArg some (by kernel_rfl))
 f143 := Tryz.func72.trans (congrArg some (by kernel_rfl))
 f195 := Tryz.func75.trans (congrArg some (by kernel_rfl))
 f217 := Tryz.func100.trans (congrArg some (by kernel_rfl))
 f218 := Tryz.func76.trans (congrArg some (by kernel_rfl))
 f219 := Tryz.func73.trans (congrArg some (by kernel_rfl))
 f224 := Tryz.func102.trans (congrArg some (by kernel_rfl))
 f225 := Tryz.func101.trans (congrArg some (by kernel_rfl))
 f266 := Tryz.func117.trans (congrArg some (by kernel_rfl))
 f267 := Tryz.func103.trans (congrArg some (by kernel_rfl))
 f314 := Tryz.func118.trans (congrArg some (by kernel_rfl))
 t0 := Tryz.underlying0
 a0 := Tryz.isAgg0
 z0 := Tryz.sizeOf0
 v0 := Tryz.zeroValue0
 t3 := Tryz.underlying3
 a3 := Tryz.isAgg3
 z3 := Tryz.sizeOf3
 v3 := Tryz.zeroValue3
 t4 := Tryz.underlying4
 a4 := Tryz.isAgg4
 z4 := Tryz.sizeOf4
 v4 := Tryz.zeroValue4
 t5 := Tryz.underlying5
 a5 := Tryz.isAgg5
 z5 := Tryz.sizeOf5
 v5 := Tryz.zeroValue5
 t9 := Tryz.underlying9
 a9 := Tryz.isAgg9
 z9 := Tryz.sizeOf9
 v9 := Tryz.zeroValue9
 t46 := Tryz.underlying113
 a46 := Tryz.isAgg113
 z46 := Tryz.sizeOf113
 v46 := Tryz.zeroValue113
 t51 := Tryz.underlying126
 a51 := Tryz.isAgg126
 z51 := Tryz.sizeOf126
 v51 := Tryz.zeroValue126
 t146 := Tryz.underlying127
 a146 := Tryz.isAgg127
 z146 := Tryz.sizeOf127
 v146 := Tryz.zeroValue127
 g1 := by kernel_rfl }
open Go.RowKit Go.Lib in
theorem Tryz.strings_Count_one (s : ByteArray) (c : UInt8) (w : World) :
  Calls Tryz.prog 45 #[.string s, .string ⟨#[c]⟩] w fun e w' => e = .returned (.int .i64 (Lib.countByte s.data.toList c)) ∧ w' = w := Any.strings_Count_one Tryz.lays138 s c w
def Tryz.lays146_ren : Go.Shelf.Ren := ⟨fun | 146 => 22 | 221 => 42 | 268 => 71 | 138 => 45 | 143 => 72 | 195 => 75 | 197 => 99 | 218 => 76 | 219 => 73 | 260 => 116 | 217 => 100 | 225 => 101 | 224 => 102 | 267 => 103 | 266 => 117 | 314 => 118 | n => n, fun | 9 => 9 | 31 => 22 | 3 => 3 | 4 => 4 | 0 => 0 | 105 => 110 | 21 => 21 | 5 => 5 | 46 => 113 | 119 => 140 | 139 => 143 | 138 => 142 | 146 => 127 | 51 => 126 | n => n, fun | 1 => 0 | 3 => 1 | 4 => 2 | n => n⟩
theorem Tryz.lays146 : Go.Proofs.Lays.n146 Tryz.prog Tryz.lays146_ren := {
 mixed := by kernel_rfl
 f138 := Tryz.func45.trans (congrArg some (by kernel_rfl))
 f143 := Tryz.func72.trans (congrArg some (by kernel_rfl))
 f146 := Tryz.func22.trans (congrArg some (by kernel_rfl))
 f195 := Tryz.func75.trans (congrArg some (by kernel_rfl))
 f197 := Tryz.func99.trans (congrArg some (by kernel_rfl))
 f217 := Tryz.func100.trans (congrArg some (by kernel_rfl))
 f218 := Tryz.func76.trans (congrArg some (by kernel_rfl))
 f219 := Tryz.func73.trans (congrArg some (by kernel_rfl))
 f221 := Tryz.func42.trans (congrArg some (by kernel_rfl))
 f224 := Tryz.func102.trans (congrArg some (by kernel_rfl))
 f225 := Tryz.func101.trans (congrArg some (by kernel_rfl))
 f260 := Tryz.func116.trans (congrArg some (by kernel_rfl))
 f266 := Tryz.func117.trans (congrArg some (by kernel_rfl))
 f267 := Tryz.func103.trans (congrArg some (by kernel_rfl))
 f268 := Tryz.func71.trans (congrArg some (by kernel_rfl))
 f314 := Tryz.func118.trans (congrArg some (by kernel_rfl))
 t0 := Tryz.underlying0
 a0 := Tryz.isAgg0
 z0 := Tryz.sizeOf0
 v0 := Tryz.zeroValue0
 t3 := Tryz.underlying3
 a3 := Tryz.isAgg3
 z3 := Tryz.sizeOf3
 v3 := Tryz.zeroValue3
 t4 := Tryz.underlying4
 a4 := Tryz.isAgg4
 z4 := Tryz.sizeOf4
 v4 := Tryz.zeroValue4
 t5 := Tryz.underlying5
 a5 := Tryz.isAgg5
 z5 := Tryz.sizeOf5
 v5 := Tryz.zeroValue5
 t9 := Tryz.underlying9
 a9 := Tryz.isAgg9
 z9 := Tryz.sizeOf9
 v9 := Tryz.zeroValue9
 t21 := Tryz.underlying21
 a21 := Tryz.isAgg21
 z21 := Tryz.sizeOf21
 v21 := Tryz.zeroValue21
 t31 := Tryz.underlying22
 a31 := Tryz.isAgg22
 z31 := Tryz.sizeOf22
 v31 := Tryz.zeroValue22
 t46 := Tryz.underlying113
 a46 := Tryz.isAgg113
 z46 := Tryz.sizeOf113
 v46 := Tryz.zeroValue113
 t51 := Tryz.underlying126
 a51 := Tryz.isAgg126
 z51 := Tryz.sizeOf126
 v51 := Tryz.zeroValue126
 t105 := Tryz.underlying110
 a105 := Tryz.isAgg110
 z105 := Tryz.sizeOf110
 v105 := Tryz.zeroValue110
 t119 := Tryz.underlying140
 a119 := Tryz.isAgg140
 z119 := Tryz.sizeOf140
 t138 := Tryz.underlying142
 a138 := Tryz.isAgg142
 z138 := Tryz.sizeOf142
 v138 := Tryz.zeroValue142
 t139 := Tryz.underlying143
 a139 := Tryz.isAgg143
 z139 := Tryz.sizeOf143
 v139 := Tryz.zeroValue143
 t146 := Tryz.underlying127
 a146 := Tryz.isAgg127
 z146 := Tryz.sizeOf127
 v146 := Tryz.zeroValue127
 g1 := by kernel_rfl
 g3 := by kernel_rfl
 g4 := by kernel_rfl }
open Go.RowKit Go.Lib in
theorem Tryz.strings_Split (s sep : ByteArray) (m : Int) (w : World) (hs : s.size < 4294967281) (hm : w.cell? ⟨0, 0, none⟩ = some (.int .i64 m)) (h1 : 1 ≤ sep.size) :
  Calls Tryz.prog 22 #[.string s, .string sep] w fun e w' =>
   e = .returned (.slice (some ⟨w.heap.size, 0, none⟩) (Lib.countB s sep + 1) (Lib.countB s sep + 1)) ∧ w' = w.alloc (.cells ((Lib.splitB sep 0 (Lib.countB s sep) s).map Value.string).toArray 9) := Any.strings_Split Tryz.lays146 (by kernel_rfl) s sep m w hs hm h1
def Tryz.lays160_ren : Go.Shelf.Ren := ⟨fun | 160 => 77 | 232 => 105 | 231 => 104 | 227 => 106 | 234 => 108 | 233 => 107 | 236 => 110 | 235 => 109 | 228 => 119 | 271 => 121 | 151 => 120 | 197 => 99 | 120 => 129 | 152 => 128 | 260 => 116 | 137 => 135 | 119 => 136 | 224 => 102 | 225 => 101 | 217 => 100 | 266 => 117 | n => n, fun | 9 => 9 | 4 => 4 | 3 => 3 | 5 => 5 | 117 => 117 | 116 => 116 | 0 => 0 | 124 => 120 | 21 => 21 | 105 => 110 | 46 => 113 | 119 => 140 | 139 => 143 | 138 => 142 | n => n, fun | 3 => 1 | 4 => 2 | n => n⟩
theorem Tryz.lays160 : Go.Proofs.Lays.n160 Tryz.prog Tryz.lays160_ren := {
 mixed := by kernel_rfl
 f119 := Tryz.func136.trans (congrArg some (by kernel_rfl))
 f120 := Tryz.func129.trans (congrArg some (by kernel_rfl))
 f137 := Tryz.func135.trans (congrArg some (by kernel_rfl))
 f151 := Tryz.func120.trans (congrArg some (by kernel_rfl))
 f152 := Tryz.func128.trans (congrArg some (by kernel_rfl))
 f160 := Tryz.func77.trans (congrArg some (by kernel_rfl))
 f197 := Tryz.func99.trans (congrArg some (by kernel_rfl))
 f217 := Tryz.func100.trans (congrArg some (by kernel_rfl))
 f224 := Tryz.func102.trans (congrArg some (by kernel_rfl))
 f225 := Tryz.func101.trans (congrArg some (by kernel_rfl))
 f227 := Tryz.func106.trans (congrArg some (by kernel_rfl))
 f228 := Tryz.func119.trans (congrArg some (by kernel_rfl))
 f231 := Tryz.func104.trans (congrArg some (by kernel_rfl))
 f232 := Tryz.func105.trans (congrArg some (by kernel_rfl))
 f233 := Tryz.func107.trans (congrArg some (by kernel_rfl))
 f234 := Tryz.func108.trans (congrArg some (by kernel_rfl))
 f235 := Tryz.func109.trans (congrArg some (by kernel_rfl))
 f236 := Tryz.func110.trans (congrArg some (by kernel_rfl))
 f260 := Tryz.func116.trans (congrArg some (by kernel_rfl))
 f266 := Tryz.func117.trans (congrArg some (by kernel_rfl))
 f271 := Tryz.func121.trans (congrArg some (by kernel_rfl))
 t0 := Tryz.underlying0
 a0 := Tryz.isAgg0
 z0 := Tryz.sizeOf0
 v0 := Tryz.zeroValue0
 t3 := Tryz.underlying3
 a3 := Tryz.isAgg3
 z3 := Tryz.sizeOf3
 v3 := Tryz.zeroValue3
 t4 := Tryz.underlying4
 a4 := Tryz.isAgg4
 z4 := Tryz.sizeOf4
 v4 := Tryz.zeroValue4
 t5 := Tryz.underlying5
 a5 := Tryz.isAgg5
 z5 := Tryz.sizeOf5
 v5 := Tryz.zeroValue5
 t9 := Tryz.underlying9
 a9 := Tryz.isAgg9
 z9 := Tryz.sizeOf9
 v9 := Tryz.zeroValue9
 t21 := Tryz.underlying21
 a21 := Tryz.isAgg21
 z21 := Tryz.sizeOf21
 v21 := Tryz.zeroValue21
 t46 := Tryz.underlying113
 a46 := Tryz.isAgg113
 z46 := Tryz.sizeOf113
 v46 := Tryz.zeroValue113
 t105 := Tryz.underlying110
 a105 := Tryz.isAgg110
 z105 := Tryz.sizeOf110
 v105 := Tryz.zeroValue110
 t116 := Tryz.underlying116
 a116 := Tryz.isAgg116
 z116 := Tryz.sizeOf116
 t117 := Tryz.underlying117
 a117 := Tryz.isAgg117
 z117 := Tryz.sizeOf117
 v117 := Tryz.zeroValue117
 t119 := Tryz.underlying140
 a119 := Tryz.isAgg140
 z119 := Tryz.sizeOf140
 t124 := Tryz.underlying120
 a124 := Tryz.isAgg120
 z124 := Tryz.sizeOf120
 v124 := Tryz.zeroValue120
 t138 := Tryz.underlying142
 a138 := Tryz.isAgg142
 z138 := Tryz.sizeOf142
 v138 := Tryz.zeroValue142
 t139 := Tryz.underlying143
 a139 := Tryz.isAgg143
 z139 := Tryz.sizeOf143
 v139 := Tryz.zeroValue143
 g3 := by kernel_rfl
 g4 := by kernel_rfl }
open Go.RowKit Go.Lib in
theorem Tryz.strings_Trim (s cutset : ByteArray) (w : World) (hs : s.size ≤ 9223372036854775807) (hcs : cutset.size < 4294967281) (hascii : ∀ (j : Nat) b, cutset.data.toList[j]? = some b → b.toNat < 128) :
  Calls Tryz.prog 77 #[.string s, .string cutset] w fun e w' => e = .returned (.string ⟨(Lib.trimS s.data.toList cutset.data.toList).toArray⟩) ∧ Below w.heap.size w w' := Any.strings_Trim_laid Tryz.lays160 (by kernel_rfl) s cutset w hs hcs hascii
end Go.Proofs

namespace Go.GL
open Go Go.RowKit Go.Lib
def mkR : Nat → ByteArray → ByteArray
 | 0, o => o
 | n + 1, o => mkR ((n + 1) / 10) (b2s [UInt8.ofNat (48 + ((n + 1 : Nat) : Int) % 10).toNat] ++ o)
termination_by n => n
decreasing_by omega
def mkT (k : Int) : ByteArray := (⟨#[109]⟩ : ByteArray) ++ mkR k.toNat (⟨#[]⟩ : ByteArray)
theorem mkR_zero (o : ByteArray) : mkR 0 o = o := by rw [mkR]
theorem mkR_step {n : Nat} {o X : ByteArray} (h : 0 < (n : Int)) (e : mkR n o = X) : mkR (n / 10) (b2s [UInt8.ofNat (48 + (n : Int) % 10).toNat] ++ o) = X := by
 obtain ⟨m, rfl⟩ : ∃ m, n = m + 1 := ⟨n - 1, by omega⟩
 rw [mkR] at e; exact e
def mkTs (kz : Int) (n : Nat) : List ByteArray := (List.range n).map fun i : Nat => mkT (kz + (i : Int))
def mkPt (kz : Int) (xs : List ByteArray) (j : Nat) : List ByteArray := mkTs kz j ++ xs.drop j
theorem mkTs_len (kz : Int) (n : Nat) : (mkTs kz n).length = n := by simp [mkTs]
theorem mkTs_at {kz : Int} {n j : Nat} (h : j < n) : (mkTs kz n).getD j ByteArray.empty = mkT (kz + (j : Int)) := by simp [mkTs, List.getD, h]
theorem mkPt_next {kz q : Int} {xs : List ByteArray} {j : Nat} (h : j < xs.length) (hq : q = kz + (j : Int)) : (mkPt kz xs j).set j (mkT q) = mkPt kz xs (j + 1) := by
 unfold mkPt
 have hl := mkTs_len kz j
 rw [List.set_append_right _ _ (by omega), hl, Nat.sub_self, List.drop_eq_getElem_cons h, List.set_cons_zero, hq]
 unfold mkTs
 rw [List.range_succ, List.map_append, List.append_assoc]; rfl
theorem mkPt_end {kz : Int} {xs : List ByteArray} {j : Nat} (h : j = xs.length) : mkPt kz xs j = mkTs kz xs.length := by
 unfold mkPt; rw [h, List.drop_eq_nil_of_le (Nat.le_refl _), List.append_nil]
theorem inV_O9 {G G' : Pin} {w w' : World} {v : Value} (h : Ext (inV [v]) G w G' w') : Ext (inO v.ownBlock) G w G' w' :=
 ⟨h.le, h.pins, h.fresh, h.os, h.tape, h.output, h.size, fun k hk hs => h.block k hk fun ⟨u, hu, e⟩ => hs (by cases List.mem_singleton.1 hu; exact e)⟩
end Go.GL

namespace Go.GL
open Go Go.RowKit Go.Lib
def endG (t : ByteArray) : Nat → Nat → Nat
 | 0, i => i
 | n + 1, i => if i < t.size ∧ sB t i = 46 then endG t n (i + 1) else i
def endR (t : ByteArray) (i : Nat) : Nat := endG t (t.size - i) i
section
variable {t : ByteArray} {i e : Nat} {k : Int} {os : List ByteArray}
theorem endG_of : ∀ (n i : Nat), i ≤ e → e ≤ i + n → e ≤ t.size → (∀ j, i ≤ j → j < e → sB t j = 46) → (e < t.size → sB t e ≠ 46) → endG t n i = e
 | 0, i, h0, h1, _, _, _ => by unfold endG; omega
 | n + 1, i, h0, h1, h2, h3, h4 => by
  unfold endG
  by_cases he : i = e
  ·subst he
   rw [if_neg fun h => h4 h.1 h.2]
  ·rw [if_pos ⟨by omega, h3 i (Nat.le_refl _) (by omega)⟩]
   exact endG_of n (i + 1) (by omega) (by omega) h2 (fun j a b => h3 j (by omega) b) h4
theorem endR_of (h0 : i ≤ e) (h2 : e ≤ t.size) (h3 : ∀ j, i ≤ j → j < e → sB t j = 46) (h4 : e < t.size → sB t e ≠ 46) : endR t i = e := endG_of _ i h0 (by omega) h2 h3 h4
def runAt (t : ByteArray) (i : Nat) : List ByteArray := if sB t i = 46 ∧ (i = 0 ∨ sB t (i - 1) ≠ 46) then [t.extract (i - 1) (min (endR t i + 1) t.size)] else []
def runsM (t : ByteArray) : List ByteArray := runM (runAt t) t.size
theorem run_yes (h : ((sB t i).toNat : Int) = 46) (hp : i = 0 ∨ ¬ ((sB t (i - 1)).toNat : Int) = 46) (h0 : i ≤ e) (h2 : e ≤ t.size) (h3 : ∀ j, i ≤ j → j < e → sB t j = 46) (h4 : e < t.size → sB t e ≠ 46) : runAt t i = [t.extract (i - 1) (min (e + 1) t.size)] := by
 have hb : sB t i = 46 := u8i (show ((sB t i).toNat : Int) = ((46 : UInt8).toNat : Int) from h)
 unfold runAt
 rw [if_pos ⟨hb, hp.imp id fun hn e => hn (by rw [e]; rfl)⟩, endR_of h0 h2 h3 h4]
theorem run_no1 (h : ¬ ((sB t i).toNat : Int) = 46) : runAt t i = [] := by
 unfold runAt; rw [if_neg fun e => h (by rw [e.1]; rfl)]
theorem run_no2 (h0 : 0 < i) (h : ((sB t (i - 1)).toNat : Int) = 46) : runAt t i = [] := by
 have hb : sB t (i - 1) = 46 := u8i (show ((sB t (i - 1)).toNat : Int) = ((46 : UInt8).toNat : Int) from h)
 unfold runAt
 rw [if_neg fun e => by rcases e.2 with e2 | e2; omega; exact e2 hb]
theorem run_skip {xs : List ByteArray} (ho : os = runM (runAt t) i) (hx : runAt t i = xs) (h0 : i < e) (h3 : ∀ j, i ≤ j → j < e → sB t j = 46) : os ++ xs = runM (runAt t) e := by
 have key : ∀ n, i + 1 + n ≤ e → runM (runAt t) (i + 1 + n) = os ++ xs := by
  intro n
  induction n with
  | zero => intro _; rw [Nat.add_zero, runM_succ, hx, ho]
  | succ n ih =>
   intro hn
   rw [show i + 1 + (n + 1) = (i + 1 + n) + 1 by omega, runM_succ, ih (by omega), run_no2 (by omega) (by rw [h3 (i + 1 + n - 1) (by omega) (by omega)]; rfl), List.append_nil]
 have := key (e - (i + 1)) (by omega)
 rw [show i + 1 + (e - (i + 1)) = e by omega] at this
 exact this.symm
theorem nohead {P : Prop} (hen : e < t.size → sB t e ≠ 46) (h : ((sB t e).toNat : Int) = 46) : P := by
 exfalso
 by_cases he : e < t.size
 ·exact hen he (u8i (show ((sB t e).toNat : Int) = ((46 : UInt8).toNat : Int) from h))
 ·rw [sB_out he] at h; exact absurd h (by decide)
theorem run_full (ho : os = runM (runAt t) i) (h : ((sB t i).toNat : Int) = 46) (hp : i = 0 ∨ ¬ ((sB t (i - 1)).toNat : Int) = 46) (h0 : i ≤ e) (h2 : e ≤ t.size) (h3 : ∀ j, i ≤ j → j < e → sB t j = 46) (h4 : e < t.size → sB t e ≠ 46) : os ++ [t.extract (i - 1) (min (e + 1) t.size)] = runM (runAt t) e := by
 have hne : i ≠ e := fun h9 => by subst h9; exact nohead h4 h
 exact run_skip ho (run_yes h hp h0 h2 h3 h4) (by omega) h3
theorem run_lt (h0 : i ≤ e) (h : ((sB t i).toNat : Int) = 46) (h4 : e < t.size → sB t e ≠ 46) : i < e := by
 have hne : i ≠ e := fun h9 => by subst h9; exact nohead h4 h
 omega
theorem b46 {b : UInt8} (h : (b.toNat : Int) = 46) : b = 46 := u8i (show (b.toNat : Int) = ((46 : UInt8).toNat : Int) from h)
theorem b46n {b : UInt8} (h : ¬ (b.toNat : Int) = 46) : b ≠ 46 := fun e => h (by rw [e]; rfl)
def rawK (k : Int) (t : ByteArray) : List ByteArray := if k = 0 then [t] else if k = 1 then partsB 46 t else runsM t
def ovB (k : Int) (t : ByteArray) : Bool := decide (((stripM k t true).length : Int) = 0) && decide (((stripM k t false).length : Int) = 0)
def spA (k : Int) (t : ByteArray) : List ByteArray := (rawK k t).filter fun x => !ovB k x
theorem run_mem2 : ∀ x ∈ runsM t, x.size ≤ t.size := run_mem fun i x hx => by
 unfold runAt at hx
 split at hx
 ·rw [List.mem_singleton.1 hx, ByteArray.size_extract]; omega
 ·cases hx
theorem raw_mem : ∀ x ∈ rawK k t, x.size ≤ t.size := fun x hx => by
 unfold rawK at hx
 split at hx
 ·rw [List.mem_singleton.1 hx]; exact Nat.le_refl _
 ·split at hx
  ·exact parts_size 46 t x hx
  ·exact run_mem2 x hx
theorem raw_len : (rawK k t).length ≤ t.size + 1 := by
 unfold rawK
 split
 ·simp
 ·split
  ·exact parts_len 46 t
  ·have := runM_len (f := runAt t) (k := 1) (fun i => by unfold runAt; split <;> simp) t.size
   unfold runsM; omega
theorem ov_f (h : ¬ ((stripM k t true).length : Int) = 0) : false = ovB k t := by unfold ovB; rw [decide_eq_false h]; rfl
theorem ov_t (h : ((stripM k t true).length : Int) = 0) : decide (((stripM k t false).length : Int) = 0) = ovB k t := by unfold ovB; rw [decide_eq_true h]; rfl
theorem fil_y {xs : List ByteArray} {f : ByteArray → Bool} {q : Nat} (h : q < xs.length) (ho : os = (xs.take q).filter fun x => !f x) (hf : f (xs.getD q ByteArray.empty) = false) : os ++ [xs.getD q ByteArray.empty] = (xs.take (q + 1)).filter fun x => !f x := by
 rw [tk_next h, List.filter_append, ho]
 generalize xs.getD q ByteArray.empty = x at *
 simp [hf]
theorem fil_n {xs : List ByteArray} {f : ByteArray → Bool} {q : Nat} (h : q < xs.length) (ho : os = (xs.take q).filter fun x => !f x) (hf : f (xs.getD q ByteArray.empty) = true) : os = (xs.take (q + 1)).filter fun x => !f x := by
 rw [tk_next h, List.filter_append, ho]
 generalize xs.getD q ByteArray.empty = x at *
 simp [hf]
theorem fil_done {xs : List ByteArray} {f : ByteArray → Bool} {q : Nat} (h : xs.length ≤ q) (ho : os = (xs.take q).filter fun x => !f x) : os = xs.filter fun x => !f x := by rw [ho, List.take_of_length_le h]
theorem raw_0 (h : k = 0) : rawK k t = [t] := if_pos h
theorem raw_1 (h : k = 1) : rawK k t = partsB 46 t := by unfold rawK; rw [if_neg (by omega), if_pos h]
theorem raw_2 (h0 : ¬ k = 0) (h1 : ¬ k = 1) : rawK k t = runsM t := by unfold rawK; rw [if_neg h0, if_neg h1]
theorem sp_mem : ∀ x ∈ spA k t, x.size ≤ t.size := fun x hx => raw_mem x (List.mem_filter.1 hx).1
theorem sp_len : (spA k t).length ≤ t.size + 1 := Nat.le_trans (List.length_filter_le _ _) raw_len
end
end Go.GL

namespace Go.GL
open Go Go.RowKit
def Adj4 (r c r' c' : Int) : Prop := (r' = r - 1 ∧ c' = c) ∨ (r' = r + 1 ∧ c' = c) ∨ (r' = r ∧ c' = c - 1) ∨ (r' = r ∧ c' = c + 1)
theorem Adj4.symm {r c r' c' : Int} (h : Adj4 r c r' c') : Adj4 r' c' r c := by unfold Adj4 at *; omega
inductive Rch (F : Int → Int → Prop) (a b : Int) : Int → Int → Prop
 | base : F a b → Rch F a b a b
 | step {r c r' c' : Int} : Rch F a b r c → Adj4 r c r' c' → F r' c' → Rch F a b r' c'
section
variable {F F' : Int → Int → Prop} {a b r c r' c' : Int}
theorem Rch.on (h : Rch F a b r c) : F r c := by
 cases h with
 | base h => exact h
 | step _ _ h => exact h
theorem Rch.from (h : Rch F a b r c) : F a b := by
 induction h with
 | base h => exact h
 | step _ _ _ ih => exact ih
theorem Rch.trans (h : Rch F a b r c) (k : Rch F r c r' c') : Rch F a b r' c' := by
 induction k with
 | base _ => exact h
 | step _ ha hf ih => exact ih.step ha hf
theorem Rch.head (h : F a b) (ha : Adj4 a b r c) (k : Rch F r c r' c') : Rch F a b r' c' := ((Rch.base h).step ha k.from).trans k
theorem Rch.mono (hF : ∀ r c, F r c → F' r c) (h : Rch F a b r c) : Rch F' a b r c := by
 induction h with
 | base h => exact Rch.base (hF _ _ h)
 | step _ ha hf ih => exact ih.step ha (hF _ _ hf)
theorem Rch.within {S : Int → Int → Prop} (h : Rch F a b r c) (hS : ∀ r c r' c', ¬ S r c → F r c → Adj4 r c r' c' → F r' c' → ¬ S r' c') (h0 : ¬ S a b) : Rch (fun r c => F r c ∧ ¬ S r c) a b r c := by
 induction h with
 | base h => exact Rch.base ⟨h, h0⟩
 | step h ha hf ih => exact ih.step ha ⟨hf, hS _ _ _ _ ih.on.2 h.on ha hf⟩
end

def gI (M : List (List Bool)) (r c : Int) : Bool := decide (0 ≤ r) && (decide (0 ≤ c) && (M.getD r.toNat []).getD c.toNat false)
def setT (M : List (List Bool)) (r c : Nat) : List (List Bool) := M.set r ((M.getD r []).set c true)
theorem gI_nat (M : List (List Bool)) (i k : Nat) : gI M (i : Int) (k : Int) = (M.getD i []).getD k false := by
 unfold gI; rw [decide_eq_true (by omega), decide_eq_true (by omega)]; rfl
theorem gI_pos {M : List (List Bool)} {r c : Int} (h : gI M r c = true) : 0 ≤ r ∧ 0 ≤ c := by
 unfold gI at h
 simp only [Bool.and_eq_true, decide_eq_true_eq] at h
 exact ⟨h.1, h.2.1⟩
theorem setT_at {M : List (List Bool)} {r c : Nat} (hr : r < M.length) (hc : c < (M.getD r []).length) (i k : Nat) : ((setT M r c).getD i []).getD k false = ((M.getD i []).getD k false || decide (i = r ∧ k = c)) := by
 unfold setT
 by_cases hi : i = r
 ·subst hi
  have e : (M.set i ((M.getD i []).set c true)).getD i [] = (M.getD i []).set c true := by simp [List.getD, hr]
  rw [e]
  by_cases hk : k = c
  ·subst hk
   have : ((M.getD i []).set k true).getD k false = true := by simp only [List.getD]; rw [List.getElem?_set_self (by simpa [List.getD] using hc)]; rfl
   rw [this]; simp
  ·have : ((M.getD i []).set c true).getD k false = (M.getD i []).getD k false := by simp only [List.getD]; rw [List.getElem?_set_ne (Ne.symm hk)]
   rw [this]; simp [hk]
 ·have : (M.set r ((M.getD r []).set c true)).getD i [] = M.getD i [] := by simp only [List.getD]; rw [List.getElem?_set_ne (Ne.symm hi)]
  rw [this]; simp [hi]
structure SameS (M M' : List (List Bool)) : Prop where
 len : M'.length = M.length
 row : ∀ i, (M'.getD i []).length = (M.getD i []).length
theorem SameS.refl (M : List (List Bool)) : SameS M M := ⟨rfl, fun _ => rfl⟩
theorem SameS.trans {A B C : List (List Bool)} (h : SameS A B) (k : SameS B C) : SameS A C := ⟨k.len.trans h.len, fun i => (k.row i).trans (h.row i)⟩
theorem setT_shape (M : List (List Bool)) (r c : Nat) : SameS M (setT M r c) := ⟨by simp [setT], fun i => by
 unfold setT
 by_cases hi : i = r
 ·subst hi
  by_cases hl : i < M.length
  ·have e : (M.set i ((M.getD i []).set c true)).getD i [] = (M.getD i []).set c true := by simp [List.getD, hl]
   rw [e]; simp
  ·have e1 : M.getD i [] = [] := by rw [List.getD, List.getElem?_eq_none (by omega)]; rfl
   have e2 : (M.set i ((M.getD i []).set c true)).getD i [] = [] := by rw [List.getD, List.getElem?_eq_none (by simp; omega)]; rfl
   rw [e2, e1]
 ·have : (M.set r ((M.getD r []).set c true)).getD i [] = M.getD i [] := by simp only [List.getD]; rw [List.getElem?_set_ne (Ne.symm hi)]
  rw [this]⟩
structure FldP (F : Int → Int → Prop) (M : List (List Bool)) (a b : Int) (M' : List (List Bool)) : Prop where
 sh : SameS M M'
 up : ∀ r c, gI M r c = true → gI M' r c = true
 new : ∀ r c, gI M' r c = true → gI M r c = true ∨ Rch F a b r c
 has : F a b → gI M' a b = true
 clo : ∀ r c r' c', gI M' r c = true → ¬ gI M r c = true → Adj4 r c r' c' → F r' c' → gI M' r' c' = true
section
variable {F : Int → Int → Prop} {M M1 M2 M3 M4 : List (List Bool)} {a b : Int}
theorem fl_no (h : ¬ F a b) : FldP F M a b M := ⟨SameS.refl M, fun _ _ h => h, fun _ _ h => Or.inl h, fun k => absurd k h, fun _ _ _ _ h k => absurd h k⟩
theorem fl_mk (h : gI M a b = true) : FldP F M a b M := ⟨SameS.refl M, fun _ _ h => h, fun _ _ h => Or.inl h, fun _ => h, fun _ _ _ _ h k => absurd h k⟩
theorem setT_gI {r c : Nat} (hr : r < M.length) (hc : c < (M.getD r []).length) (x y : Int) : gI (setT M r c) x y = (gI M x y || decide (x = (r : Int) ∧ y = (c : Int))) := by
 by_cases h0 : 0 ≤ x
 ·by_cases h1 : 0 ≤ y
  ·obtain ⟨i, rfl⟩ : ∃ i : Nat, x = (i : Int) := ⟨x.toNat, by omega⟩
   obtain ⟨k, rfl⟩ : ∃ k : Nat, y = (k : Int) := ⟨y.toNat, by omega⟩
   rw [gI_nat, gI_nat, setT_at hr hc]
   congr 1
   exact decide_eq_decide.2 (by omega)
  ·have e : decide (x = (r : Int) ∧ y = (c : Int)) = false := decide_eq_false (by omega)
   rw [e]; unfold gI; rw [decide_eq_false h1]; simp
 ·have e : decide (x = (r : Int) ∧ y = (c : Int)) = false := decide_eq_false (by omega)
  rw [e]; unfold gI; rw [decide_eq_false h0]; simp
theorem fl_go {r c : Nat} (hr : r < M.length) (hc : c < (M.getD r []).length) (hF : F (r : Int) (c : Int)) (h1 : FldP F (setT M r c) ((r : Int) - 1) (c : Int) M1) (h2 : FldP F M1 ((r : Int) + 1) (c : Int) M2) (h3 : FldP F M2 (r : Int) ((c : Int) - 1) M3) (h4 : FldP F M3 (r : Int) ((c : Int) + 1) M4) :
  FldP F M (r : Int) (c : Int) M4 := by
 have e0 := setT_gI hr hc
 have u1 : ∀ x y, gI (setT M r c) x y = true → gI M4 x y = true := fun x y h => h4.up _ _ (h3.up _ _ (h2.up _ _ (h1.up _ _ h)))
 have hx : gI (setT M r c) (r : Int) (c : Int) = true := by rw [e0]; simp
 refine ⟨(setT_shape M r c).trans (h1.sh.trans (h2.sh.trans (h3.sh.trans h4.sh))), fun x y h => u1 x y (by rw [e0, h]; rfl), fun x y h => ?_, fun _ => u1 _ _ hx, fun x y x' y' h hn ha hf => ?_⟩
 ·rcases h4.new x y h with h | h
  ·rcases h3.new x y h with h | h
   ·rcases h2.new x y h with h | h
    ·rcases h1.new x y h with h | h
     ·rw [e0] at h
      rcases Bool.or_eq_true_iff.1 h with h | h
      ·exact Or.inl h
      ·have := of_decide_eq_true h
       obtain ⟨rfl, rfl⟩ := this
       exact Or.inr (Rch.base hF)
     ·exact Or.inr (Rch.head hF (Or.inl ⟨rfl, rfl⟩) h)
    ·exact Or.inr (Rch.head hF (Or.inr (Or.inl ⟨rfl, rfl⟩)) h)
   ·exact Or.inr (Rch.head hF (Or.inr (Or.inr (Or.inl ⟨rfl, rfl⟩))) h)
  ·exact Or.inr (Rch.head hF (Or.inr (Or.inr (Or.inr ⟨rfl, rfl⟩))) h)
 ·by_cases k3 : gI M3 x y = true
  ·by_cases k2 : gI M2 x y = true
   ·by_cases k1 : gI M1 x y = true
    ·by_cases k0 : gI (setT M r c) x y = true
     ·rw [e0] at k0
      rcases Bool.or_eq_true_iff.1 k0 with k | k
      ·exact absurd k hn
      ·obtain ⟨rfl, rfl⟩ := of_decide_eq_true k
       rcases ha with ⟨rfl, rfl⟩ | ⟨rfl, rfl⟩ | ⟨rfl, rfl⟩ | ⟨rfl, rfl⟩
       ·exact h4.up _ _ (h3.up _ _ (h2.up _ _ (h1.has hf)))
       ·exact h4.up _ _ (h3.up _ _ (h2.has hf))
       ·exact h4.up _ _ (h3.has hf)
       ·exact h4.has hf
     ·exact h4.up _ _ (h3.up _ _ (h2.up _ _ (h1.clo _ _ _ _ k1 k0 ha hf)))
    ·exact h4.up _ _ (h3.up _ _ (h2.clo _ _ _ _ k2 k1 ha hf))
   ·exact h4.up _ _ (h3.clo _ _ _ _ k3 k2 ha hf)
  ·exact h4.clo _ _ _ _ h k3 ha hf

def cntF (M : List (List Bool)) : Nat := (M.map fun l => l.count false).sum
theorem count_mono : ∀ {l l' : List Bool}, l'.length = l.length → (∀ k, l.getD k false = true → l'.getD k false = true) → l'.count false ≤ l.count false
 | [], [], _, _ => Nat.le_refl _
 | [], _ :: _, h, _ => by simp at h
 | _ :: _, [], h, _ => by simp at h
 | x :: l, y :: l', h, hk => by
  have ih := count_mono (l := l) (l' := l') (by simpa using h) fun k hk' => by have := hk (k + 1) (by simpa [List.getD] using hk'); simpa [List.getD] using this
  have h0 : x = true → y = true := fun e => by have := hk 0 (by simpa [List.getD] using e); simpa [List.getD] using this
  rw [List.count_cons, List.count_cons]
  cases x <;> cases y <;> simp_all <;> omega
theorem cntF_mono : ∀ {M M' : List (List Bool)}, M'.length = M.length → (∀ i, (M'.getD i []).length = (M.getD i []).length) → (∀ i k, (M.getD i []).getD k false = true → (M'.getD i []).getD k false = true) → cntF M' ≤ cntF M
 | [], [], _, _, _ => Nat.le_refl _
 | [], _ :: _, h, _, _ => by simp at h
 | _ :: _, [], h, _, _ => by simp at h
 | x :: l, y :: l', h, hr, hk => by
  have ih := cntF_mono (M := l) (M' := l') (by simpa using h) (fun i => by have := hr (i + 1); simpa [List.getD] using this) fun i k hk' => by have := hk (i + 1) k (by simpa [List.getD] using hk'); simpa [List.getD] using this
  have h0 := count_mono (l := x) (l' := y) (by have := hr 0; simpa [List.getD] using this) fun k hk' => by have := hk 0 k (by simpa [List.getD] using hk'); simpa [List.getD] using this
  unfold cntF at *
  rw [List.map_cons, List.sum_cons, List.map_cons, List.sum_cons]; omega
theorem count_set : ∀ {l : List Bool} {c : Nat}, c < l.length → l.getD c false = false → (l.set c true).count false + 1 = l.count false
 | x :: l, 0, _, h => by
  have : x = false := by simpa [List.getD] using h
  subst this; simp
 | x :: l, c + 1, hc, h => by
  have ih := count_set (l := l) (c := c) (by simpa using hc) (by simpa [List.getD] using h)
  rw [List.set_cons_succ, List.count_cons, List.count_cons]; omega
theorem cntF_set : ∀ {M : List (List Bool)} {r c : Nat}, r < M.length → c < (M.getD r []).length → (M.getD r []).getD c false = false → cntF (setT M r c) + 1 = cntF M
 | x :: M, 0, c, _, hc, h => by
  have e := count_set (l := x) (c := c) (by simpa [List.getD] using hc) (by simpa [List.getD] using h)
  unfold cntF setT
  simp only [List.getD_cons_zero, List.set_cons_zero, List.map_cons, List.sum_cons]; omega
 | x :: M, r + 1, c, hr, hc, h => by
  have ih := cntF_set (M := M) (r := r) (c := c) (by simpa using hr) (by simpa [List.getD] using hc) (by simpa [List.getD] using h)
  have e : setT (x :: M) (r + 1) c = x :: setT M r c := by unfold setT; simp [List.getD]
  rw [e]; unfold cntF at *
  rw [List.map_cons, List.sum_cons, List.map_cons, List.sum_cons]; omega
theorem FldP.less (h : FldP F M a b M1) : cntF M1 ≤ cntF M := cntF_mono h.sh.len h.sh.row fun i k hk => by
 have := h.up (i : Int) (k : Int) (by rw [gI_nat]; exact hk)
 rwa [gI_nat] at this

def CloP (F : Int → Int → Prop) (M : List (List Bool)) : Prop := ∀ r c r' c', gI M r c = true → Adj4 r c r' c' → F r' c' → gI M r' c' = true
theorem FldP.all (h : FldP F M a b M1) (hc : CloP F M) (r c : Int) : gI M1 r c = true ↔ gI M r c = true ∨ Rch F a b r c := by
 constructor
 ·exact h.new r c
 ·rintro (k | k)
  ·exact h.up r c k
  ·induction k with
   | base hf => exact h.has hf
   | step k ha hf ih =>
    rename_i x y x' y'
    by_cases hm : gI M x y = true
    ·exact h.up _ _ (hc _ _ _ _ hm ha hf)
    ·exact h.clo _ _ _ _ ih hm ha hf
end
end Go.GL

namespace Go.GL
open Go Go.RowKit Go.Lib
structure BoxP (rows : List ByteArray) (a b c d : Nat) : Prop where
 all : ∀ r k, frB rows r k = true → a ≤ r ∧ r ≤ b ∧ c ≤ k ∧ k ≤ d
 t : ∃ k, frB rows a k = true
 u : ∃ k, frB rows b k = true
 l : ∃ r, frB rows r c = true
 r : ∃ r, frB rows r d = true
def cutM (rows : List ByteArray) (a b c d : Nat) : List ByteArray := ((rows.take (b + 1)).drop a).map fun x => x.extract c (d + 1)
section
variable {rows : List ByteArray} {a b c d a' b' c' d' : Nat}
theorem BoxP.same (h : BoxP rows a b c d) (h' : BoxP rows a' b' c' d') : a = a' ∧ b = b' ∧ c = c' ∧ d = d' := by
 obtain ⟨k1, e1⟩ := h.t; obtain ⟨k2, e2⟩ := h.u; obtain ⟨k3, e3⟩ := h.l; obtain ⟨k4, e4⟩ := h.r
 obtain ⟨m1, f1⟩ := h'.t; obtain ⟨m2, f2⟩ := h'.u; obtain ⟨m3, f3⟩ := h'.l; obtain ⟨m4, f4⟩ := h'.r
 have := h'.all _ _ e1; have := h'.all _ _ e2; have := h'.all _ _ e3; have := h'.all _ _ e4
 have := h.all _ _ f1; have := h.all _ _ f2; have := h.all _ _ f3; have := h.all _ _ f4
 omega
open Classical in
noncomputable def trM (rows : List ByteArray) : List ByteArray :=
 if h : ∃ q : (Nat × Nat) × (Nat × Nat), BoxP rows q.1.1 q.1.2 q.2.1 q.2.2 then cutM rows h.choose.1.1 h.choose.1.2 h.choose.2.1 h.choose.2.2 else [⟨#[35]⟩]
theorem trM_of (h : BoxP rows a b c d) : trM rows = cutM rows a b c d := by
 have hx : ∃ q : (Nat × Nat) × (Nat × Nat), BoxP rows q.1.1 q.1.2 q.2.1 q.2.2 := ⟨((a, b), (c, d)), h⟩
 unfold trM
 rw [dif_pos hx]
 obtain ⟨e1, e2, e3, e4⟩ := h.same hx.choose_spec
 rw [← e1, ← e2, ← e3, ← e4]
theorem trM_no (h : ∀ r k, frB rows r k = false) : trM rows = [⟨#[35]⟩] := by
 unfold trM
 rw [dif_neg]
 rintro ⟨q, hq⟩
 obtain ⟨k, e⟩ := hq.t
 rw [h] at e; cases e
structure BxI (rows : List ByteArray) (i k : Nat) (I J r0 r1 c0 c1 : Int) : Prop where
 all : ∀ r q : Nat, (r < i ∨ (r = i ∧ q < k)) → frB rows r q = true → r0 ≤ (r : Int) ∧ (r : Int) ≤ r1 ∧ c0 ≤ (q : Int) ∧ (q : Int) ≤ c1
 e : (r0 = I ∧ r1 = -1 ∧ c0 = J ∧ c1 = -1) ∨ ((0 ≤ r0 ∧ 0 ≤ r1 ∧ 0 ≤ c0 ∧ 0 ≤ c1) ∧ (∃ q, frB rows r0.toNat q = true) ∧ (∃ q, frB rows r1.toNat q = true) ∧ (∃ r, frB rows r c0.toNat = true) ∧ (∃ r, frB rows r c1.toNat = true))
variable {i k : Nat} {I J r0 r1 c0 c1 : Int}
theorem bxI_zero : BxI rows 0 0 I J I (-1) J (-1) := ⟨fun r q h => by omega, Or.inl ⟨rfl, rfl, rfl, rfl⟩⟩
theorem bxI_no (h : BxI rows i k I J r0 r1 c0 c1) (hf : frB rows i k = false) : BxI rows i (k + 1) I J r0 r1 c0 c1 :=
 ⟨fun r q hv hr => by
  by_cases e : r = i ∧ q = k
  ·rw [e.1, e.2, hf] at hr; cases hr
  ·exact h.all r q (by omega) hr, h.e⟩
theorem bxI_row {K : Nat} (h : BxI rows i k I J r0 r1 c0 c1) (hk : K ≤ k) (hw : ∀ q, frB rows i q = true → q < K) : BxI rows (i + 1) 0 I J r0 r1 c0 c1 :=
 ⟨fun r q hv hr => by
  by_cases e : r = i
  ·exact h.all r q (Or.inr ⟨e, by have := hw q (e ▸ hr); omega⟩) hr
  ·exact h.all r q (by omega) hr, h.e⟩
theorem mm_case {x : Int} {i : Nat} {P : Nat → Prop} (_ : 0 ≤ x) (h : P x.toNat) (hi : P i) : P (min x (i : Int)).toNat ∧ P (max x (i : Int)).toNat := by
 constructor
 ·by_cases e : x ≤ (i : Int)
  ·rw [Int.min_eq_left e]; exact h
  ·rw [Int.min_eq_right (by omega)]; simpa using hi
 ·by_cases e : x ≤ (i : Int)
  ·rw [Int.max_eq_right e]; simpa using hi
  ·rw [Int.max_eq_left (by omega)]; exact h
theorem bxI_yes (h : BxI rows i k I J r0 r1 c0 c1) (hf : frB rows i k = true) (hi : (i : Int) ≤ I) (hk : (k : Int) ≤ J) : BxI rows i (k + 1) I J (min r0 (i : Int)) (max r1 (i : Int)) (min c0 (k : Int)) (max c1 (k : Int)) := by
 refine ⟨fun r q hv hr => ?_, Or.inr ?_⟩
 ·by_cases e : r = i ∧ q = k
  ·omega
  ·have := h.all r q (by omega) hr; omega
 ·rcases h.e with ⟨rfl, rfl, rfl, rfl⟩ | ⟨h0, ⟨q0, h1⟩, ⟨q1, h2⟩, ⟨q2, h3⟩, ⟨q3, h4⟩⟩
  ·have e1 : (min r0 (i : Int)).toNat = i := by omega
   have e2 : (max (-1) (i : Int)).toNat = i := by omega
   have e3 : (min c0 (k : Int)).toNat = k := by omega
   have e4 : (max (-1) (k : Int)).toNat = k := by omega
   rw [e1, e2, e3, e4]
   exact ⟨by omega, ⟨k, hf⟩, ⟨k, hf⟩, ⟨i, hf⟩, ⟨i, hf⟩⟩
  ·refine ⟨by omega, (mm_case (P := fun n => ∃ q, frB rows n q = true) h0.1 ⟨q0, h1⟩ ⟨k, hf⟩).1, (mm_case (P := fun n => ∃ q, frB rows n q = true) h0.2.1 ⟨q1, h2⟩ ⟨k, hf⟩).2, (mm_case (P := fun n => ∃ r, frB rows r n = true) h0.2.2.1 ⟨q2, h3⟩ ⟨i, hf⟩).1, (mm_case (P := fun n => ∃ r, frB rows r n = true) h0.2.2.2 ⟨q3, h4⟩ ⟨i, hf⟩).2⟩
theorem bxI_none (h : BxI rows i k I J r0 r1 c0 c1) (hi : rows.length ≤ i) (h1 : r1 < 0) : trM rows = [⟨#[35]⟩] := trM_no fun r q => by
 cases hr : frB rows r q with
 | false => rfl
 | true =>
  have hl : r < rows.length := Classical.byContradiction fun hn => by rw [fr_rowout hn] at hr; cases hr
  have := h.all r q (Or.inl (by omega)) hr
  omega
theorem bxI_box (h : BxI rows i k I J r0 r1 c0 c1) (hi : rows.length ≤ i) (h1 : ¬ r1 < 0) : ∃ a b c d : Nat, r0 = (a : Int) ∧ r1 = (b : Int) ∧ c0 = (c : Int) ∧ c1 = (d : Int) ∧ BoxP rows a b c d := by
 rcases h.e with ⟨e1, e2, e3, e4⟩ | ⟨h0, h2, h3, h4, h5⟩
 ·omega
 ·refine ⟨r0.toNat, r1.toNat, c0.toNat, c1.toNat, by omega, by omega, by omega, by omega, fun r q hr => ?_, h2, h3, h4, h5⟩
  have hl : r < rows.length := Classical.byContradiction fun hn => by rw [fr_rowout hn] at hr; cases hr
  have := h.all r q (Or.inl (by omega)) hr
  omega
theorem box_in (g : GbP rows) (h : BoxP rows a b c d) : a ≤ b ∧ b < rows.length ∧ c ≤ d ∧ d < wdS rows := by
 obtain ⟨k1, e1⟩ := h.t; obtain ⟨k2, e2⟩ := h.u; obtain ⟨k4, e4⟩ := h.r
 have key : ∀ i k, frB rows i k = true → i < rows.length ∧ k < wdS rows := fun i k hk => by
  have h1 : i < rows.length := Classical.byContradiction fun hn => by rw [fr_rowout hn] at hk; cases hk
  have h2 : k < (rwS rows i).size := Classical.byContradiction fun hn => by rw [fr_colout hn] at hk; cases hk
  rw [g.eq i h1] at h2
  exact ⟨h1, h2⟩
 have := h.all _ _ e2; have := h.all _ _ e4; have := key _ _ e2; have := key _ _ e4
 omega
theorem cut_take {j : Nat} (h : j < ((rows.take (b + 1)).drop a).length) : ((((rows.take (b + 1)).drop a).take j).map fun x => x.extract c (d + 1)) ++ [(((rows.take (b + 1)).drop a).getD j ByteArray.empty).extract c (d + 1)] = (((rows.take (b + 1)).drop a).take (j + 1)).map fun x => x.extract c (d + 1) := by
 rw [tk_next h, List.map_append]; rfl
theorem cutM_at {j : Nat} (hb : b < rows.length) (hj : a + j ≤ b) : ((rows.take (b + 1)).drop a).getD j ByteArray.empty = rows.getD (a + j) ByteArray.empty ∧ j < ((rows.take (b + 1)).drop a).length := by
 have hl : j < ((rows.take (b + 1)).drop a).length := by rw [List.length_drop, List.length_take]; omega
 refine ⟨?_, hl⟩
 simp only [List.getD]
 rw [List.getElem?_drop, List.getElem?_take, if_pos (by omega)]
theorem cut_len (hb : b < rows.length) : ((rows.take (b + 1)).drop a).length = b + 1 - a := by rw [List.length_drop, List.length_take]; omega
end

def frP (rows : List ByteArray) (r c : Int) : Prop := frI rows r c = true
structure GmP (rows : List ByteArray) (M : List (List Bool)) : Prop where
 len : M.length = rows.length
 row : ∀ i, i < rows.length → (M.getD i []).length = wdS rows
section
variable {rows : List ByteArray} {M M' : List (List Bool)} {a b : Int}
theorem GmP.same (h : GmP rows M) (k : SameS M M') : GmP rows M' := ⟨k.len.trans h.len, fun i hi => (k.row i).trans (h.row i hi)⟩
theorem fr_rng (g : GbP rows) {r c : Int} (h : frP rows r c) : (0 ≤ r ∧ r < (rows.length : Int)) ∧ 0 ≤ c ∧ c < (wdS rows : Int) := by
 unfold frP at h
 have h0 : 0 ≤ r := Classical.byContradiction fun hn => by rw [frI_nr hn] at h; cases h
 have h1 : 0 ≤ c := Classical.byContradiction fun hn => by rw [frI_nc hn] at h; cases h
 have h2 : r < (rows.length : Int) := Classical.byContradiction fun hn => by rw [frI_or h0 hn] at h; cases h
 have h3 : c < (wdS rows : Int) := Classical.byContradiction fun hn => by rw [frI_oc g h1 h0 h2 hn] at h; cases h
 omega
theorem gI_rng (hm : GmP rows M) {r c : Int} (h : gI M r c = true) : (0 ≤ r ∧ r < (rows.length : Int)) ∧ 0 ≤ c ∧ c < (wdS rows : Int) := by
 obtain ⟨h0, h1⟩ := gI_pos h
 obtain ⟨i, rfl⟩ : ∃ i : Nat, r = (i : Int) := ⟨r.toNat, by omega⟩
 obtain ⟨k, rfl⟩ : ∃ k : Nat, c = (k : Int) := ⟨c.toNat, by omega⟩
 rw [gI_nat] at h
 have h2 : i < M.length := Classical.byContradiction fun hn => by
  rw [show M.getD i [] = [] by rw [List.getD, List.getElem?_eq_none (by omega)]; rfl] at h
  cases h
 rw [hm.len] at h2
 have h3 : k < (M.getD i []).length := Classical.byContradiction fun hn => by
  have e : (M.getD i []).getD k false = false := by rw [List.getD, List.getElem?_eq_none (by omega)]; rfl
  rw [e] at h; cases h
 rw [hm.row i h2] at h3
 omega
noncomputable def gdM (rows : List ByteArray) (P : Nat → Nat → Prop) : List (List Bool) := (List.range rows.length).map fun i => lineC (wdS rows) fun k => decP (P i k)
theorem gdM_gm (P : Nat → Nat → Prop) : GmP rows (gdM rows P) := by
 refine ⟨by simp [gdM], fun i hi => ?_⟩
 have : (gdM rows P).getD i [] = lineC (wdS rows) fun k => decP (P i k) := by simp [gdM, List.getD, hi]
 rw [this, lineC_len]
theorem gdM_at {P : Nat → Nat → Prop} {i k : Nat} (hi : i < rows.length) (hk : k < wdS rows) : ((gdM rows P).getD i []).getD k false = decP (P i k) := by
 have : (gdM rows P).getD i [] = lineC (wdS rows) fun k => decP (P i k) := by simp [gdM, List.getD, hi]
 rw [this, lineC_at hk]
theorem list_ext8 {l l' : List Bool} (h : l.length = l'.length) (k : ∀ i, i < l.length → l.getD i false = l'.getD i false) : l = l' := by
 apply List.ext_getElem h
 intro i h1 h2
 have := k i h1
 simpa [List.getD, h1, h2] using this
theorem gm_ext (h : GmP rows M) (h' : GmP rows M') (k : ∀ i k : Nat, i < rows.length → k < wdS rows → gI M (i : Int) (k : Int) = gI M' (i : Int) (k : Int)) : M = M' := by
 apply List.ext_getElem (h.len.trans h'.len.symm)
 intro i h1 h2
 have hi : i < rows.length := by rw [← h.len]; exact h1
 have e1 : M[i] = M.getD i [] := by simp [List.getD, h1]
 have e2 : M'[i] = M'.getD i [] := by simp [List.getD, h2]
 rw [e1, e2]
 refine list_ext8 ((h.row i hi).trans (h'.row i hi).symm) fun q hq => ?_
 have := k i q hi (by rw [← h.row i hi]; exact hq)
 rwa [gI_nat, gI_nat] at this
theorem gdM_of {P : Nat → Nat → Prop} (h : GmP rows M) (k : ∀ i k : Nat, i < rows.length → k < wdS rows → (gI M (i : Int) (k : Int) = true ↔ P i k)) : M = gdM rows P := gm_ext h (gdM_gm P) fun i q hi hq => by
 rw [gI_nat (gdM rows P), gdM_at hi hq]
 cases hg : gI M (i : Int) (q : Int) with
 | true => exact (decP_true.2 ((k i q hi hq).1 hg)).symm
 | false => exact (decP_false.2 fun hp => by rw [(k i q hi hq).2 hp] at hg; cases hg).symm
noncomputable def fldM (rows : List ByteArray) (a b : Int) : List (List Bool) := gdM rows fun i k => Rch (frP rows) a b (i : Int) (k : Int)
noncomputable def pbM (rows : List ByteArray) (r c : Nat) : List ByteArray := trM (bdM (fldM rows (r : Int) (c : Int)))
def zeroG (rows : List ByteArray) : List (List Bool) := (List.range rows.length).map fun i => List.replicate (rwS rows i).size false
theorem zero_gm (g : GbP rows) : GmP rows (zeroG rows) := ⟨by simp [zeroG], fun i hi => by
 have : (zeroG rows).getD i [] = List.replicate (rwS rows i).size false := by simp [zeroG, List.getD, hi]
 rw [this, List.length_replicate, g.eq i hi]⟩
theorem zero_gI (r c : Int) : gI (zeroG rows) r c = false := by
 unfold gI
 have : ((zeroG rows).getD r.toNat []).getD c.toNat false = false := by
  by_cases hi : r.toNat < rows.length
  ·have : (zeroG rows).getD r.toNat [] = List.replicate (rwS rows r.toNat).size false := by simp [zeroG, List.getD, hi]
   rw [this]
   by_cases hk : c.toNat < (rwS rows r.toNat).size
   ·simp [List.getD, hk]
   ·rw [List.getD, List.getElem?_eq_none (by simp; omega)]; rfl
  ·have : (zeroG rows).getD r.toNat [] = [] := by rw [List.getD, List.getElem?_eq_none (by simp [zeroG]; omega)]; rfl
   rw [this]; rfl
 rw [this]; simp
theorem zero_clo {F : Int → Int → Prop} : CloP F (zeroG rows) := fun r c _ _ h => by rw [zero_gI] at h; cases h
theorem fld_is (g : GbP rows) (h : FldP (frP rows) (zeroG rows) a b M) : M = fldM rows a b := gdM_of ((zero_gm g).same h.sh) fun i k _ _ => by
 rw [h.all zero_clo, zero_gI]
 exact ⟨fun h => h.elim (fun h => by cases h) id, Or.inr⟩
theorem fld_free {i k : Nat} (hi : i < rows.length) (hk : k < wdS rows) (h : ((fldM rows a b).getD i []).getD k false = true) : frB rows i k = true := by
 unfold fldM at h
 rw [gdM_at hi hk] at h
 have := (decP_true.1 h).on
 unfold frP at this
 rwa [frI_nat] at this
theorem bdG_good (g : GbP rows) (h : GmP rows M) : GbP (bdM M) ∧ (bdM M).length = rows.length ∧ wdS (bdM M) = wdS rows ∧ ∀ i k, i < rows.length → k < wdS rows → frB (bdM M) i k = (M.getD i []).getD k false := by
 have hl : (bdM M).length = rows.length := by unfold bdM; rw [List.length_map, h.len]
 have hs : ∀ i, i < rows.length → (rwS (bdM M) i).size = wdS rows := fun i hi => by
  rw [bd_row _ (by rw [h.len]; exact hi), row_size, h.row i hi]
 have hw : wdS (bdM M) = wdS rows := hs 0 (by have := g.hi; omega)
 refine ⟨⟨by rw [hl]; exact g.hi, by rw [hw]; exact g.wd, fun i hi => by rw [hw]; exact hs i (by omega), fun i hi k hk => ?_⟩, hl, hw, fun i k hi hk => ?_⟩
 ·rw [hl] at hi; rw [hw] at hk
  rw [bd_row _ (by rw [h.len]; exact hi), row_at _ (by rw [h.row i hi]; exact hk)]
  exact by_ch _
 ·unfold frB
  rw [bd_row _ (by rw [h.len]; exact hi), row_at _ (by rw [h.row i hi]; exact hk), by_46]
def OnP (row : ByteArray) (m : List Bool) (k : Nat) (ys : List UInt8) : Prop := ys.length = row.size ∧ ∀ j, j < row.size → ys.getD j 0 = if j < k then byB (m.getD j false) else sB row j
theorem on_zero {row : ByteArray} {m : List Bool} : OnP row m 0 row.data.toList := ⟨ba_size row, fun j _ => by rw [if_neg (Nat.not_lt_zero j), sB_data]⟩
theorem on_step {row : ByteArray} {m : List Bool} {k : Nat} {ys : List UInt8} (h : OnP row m k ys) (hk : k < row.size) (hm : m.getD k false = false) : OnP row m (k + 1) (ys.set k 35) := ⟨by rw [List.length_set]; exact h.1, fun j hj => by
 have h1 := h.1
 by_cases e : j = k
 ·subst e
  rw [if_pos (Nat.lt_succ_self j), hm]
  simp only [List.getD]; rw [List.getElem?_set_self (by omega)]; rfl
 ·have : (ys.set k 35).getD j 0 = ys.getD j 0 := by simp only [List.getD]; rw [List.getElem?_set_ne (Ne.symm e)]
  rw [this, h.2 j hj]
  by_cases hjk : j < k
  ·rw [if_pos hjk, if_pos (by omega)]
  ·rw [if_neg hjk, if_neg (by omega)]⟩
theorem on_keep {row : ByteArray} {m : List Bool} {k : Nat} {ys : List UInt8} (h : OnP row m k ys) (hm : m.getD k false = true) (hf : ((sB row k).toNat : Int) = 46) : OnP row m (k + 1) ys := ⟨h.1, fun j hj => by
 rw [h.2 j hj]
 by_cases e : j = k
 ·subst e
  rw [if_neg (Nat.lt_irrefl j), if_pos (Nat.lt_succ_self j), hm]
  exact u8i (show ((sB row j).toNat : Int) = (((46 : UInt8).toNat : Nat) : Int) from hf)
 ·by_cases hjk : j < k
  ·rw [if_pos hjk, if_pos (by omega)]
  ·rw [if_neg hjk, if_neg (by omega)]⟩
theorem on_done {row : ByteArray} {m : List Bool} {k : Nat} {ys : List UInt8} (h : OnP row m k ys) (hk : row.size ≤ k) (hl : m.length = row.size) : b2s ys = rowM m := by
 unfold rowM
 refine b2s_ext (by rw [h.1, List.length_map, hl]) fun j hj => ?_
 rw [h.1] at hj
 rw [h.2 j hj, if_pos (by omega)]
 simp [List.getD, show j < m.length by omega]
theorem fr46 {i k : Nat} (h : frB rows i k = true) : ((sB (rows.getD i ByteArray.empty) k).toNat : Int) = 46 := of_decide_eq_true h
theorem fr_lt {i k : Nat} (h : frB rows i k = true) : k < (rows.getD i ByteArray.empty).size := Classical.byContradiction fun hn => by
 have := fr_colout (rows := rows) (r := i) (c := k) hn
 rw [this] at h; cases h
theorem fr_of {i k : Nat} {b : Bool} (h : frI rows (i : Int) (k : Int) = b) : frB rows i k = b := by rw [frI_nat] at h; exact h
theorem gI_in {r c : Int} (h0 : 0 ≤ r) (h1 : 0 ≤ c) : (M.getD r.toNat []).getD c.toNat false = gI M r c := by unfold gI; rw [decide_eq_true h0, decide_eq_true h1]; rfl
theorem gI_out (hm : GmP rows M) {r c : Int} (h : ¬ ((0 ≤ r ∧ r < (rows.length : Int)) ∧ 0 ≤ c ∧ c < (wdS rows : Int))) : false = gI M r c := by
 cases hg : gI M r c with
 | false => rfl
 | true => exact absurd (gI_rng hm hg) h
end
end Go.GL
namespace Go.GL
def Sep (lo hi lo2 hi2 : Nat) : Prop := hi ≤ lo2 ∨ hi2 ≤ lo
theorem Sep.symm {lo hi lo2 hi2 : Nat} (h : Sep lo hi lo2 hi2) : Sep lo2 hi2 lo hi := Or.symm h
theorem g_out {lo hi lo2 hi2 k : Nat} (h : Sep lo hi lo2 hi2) (h1 : lo ≤ k ∧ k < hi) (h2 : inR lo2 hi2 k) : False := by unfold Sep at h; have := h2.1; have := h2.2; omega
end Go.GL

namespace Go.GL
open Go Go.RowKit Go.Lib
abbrev BefN (i k r c : Nat) : Prop := i < r ∨ (i = r ∧ k < c)
def RaB (rows : List ByteArray) (r c : Nat) (x y : Int) : Prop := ∃ i k : Nat, BefN i k r c ∧ Rch (frP rows) (i : Int) (k : Int) x y
structure SeenP (rows : List ByteArray) (r c : Nat) (S : List (List Bool)) : Prop where
 gm : GmP rows S
 all : ∀ x y, gI S x y = true ↔ RaB rows r c x y
noncomputable def fstB (rows : List ByteArray) (r c : Nat) : Bool := frB rows r c && !decP (RaB rows r c (r : Int) (c : Int))
noncomputable def bpRow (rows : List ByteArray) (r n : Nat) : List (List ByteArray) := (List.range n).flatMap fun c => if fstB rows r c = true then [pbM rows r c] else []
noncomputable def bpAll (rows : List ByteArray) (n : Nat) : List (List ByteArray) := (List.range n).flatMap fun r => bpRow rows r (wdS rows)
noncomputable def bpM (rows : List ByteArray) : List (List ByteArray) := bpAll rows rows.length
section
variable {rows : List ByteArray} {r c : Nat} {S S' C P D : List (List Bool)}
theorem bpRow_yes {n : Nat} (h : fstB rows r n = true) : bpRow rows r (n + 1) = bpRow rows r n ++ [pbM rows r n] := by
 unfold bpRow; rw [List.range_succ, List.flatMap_append]; simp [h]
theorem bpRow_no {n : Nat} (h : fstB rows r n = false) : bpRow rows r (n + 1) = bpRow rows r n := by
 unfold bpRow; rw [List.range_succ, List.flatMap_append]; simp [h]
theorem bpAll_succ {n : Nat} : bpAll rows (n + 1) = bpAll rows n ++ bpRow rows n (wdS rows) := by
 unfold bpAll; rw [List.range_succ, List.flatMap_append]; simp
theorem frP_nat (i k : Nat) : frP rows (i : Int) (k : Int) ↔ frB rows i k = true := by unfold frP; rw [frI_nat]
theorem ra_next {x y : Int} : RaB rows r (c + 1) x y ↔ RaB rows r c x y ∨ Rch (frP rows) (r : Int) (c : Int) x y := by
 constructor
 ·rintro ⟨i, k, hb, h⟩
  by_cases e : i = r ∧ k = c
  ·obtain ⟨rfl, rfl⟩ := e; exact Or.inr h
  ·exact Or.inl ⟨i, k, by unfold BefN at *; omega, h⟩
 ·rintro (⟨i, k, hb, h⟩ | h)
  ·exact ⟨i, k, by unfold BefN at *; omega, h⟩
  ·exact ⟨r, c, Or.inr ⟨rfl, Nat.lt_succ_self c⟩, h⟩
theorem ra_same (h : frB rows r c = false ∨ RaB rows r c (r : Int) (c : Int)) (x y : Int) : RaB rows r (c + 1) x y ↔ RaB rows r c x y := by
 rw [ra_next]
 refine ⟨fun k => k.elim id fun k => ?_, Or.inl⟩
 rcases h with h | ⟨i, q, hb, h⟩
 ·have := (frP_nat r c).1 k.from
  rw [h] at this; cases this
 ·exact ⟨i, q, hb, h.trans k⟩
theorem ra_row (g : GbP rows) (hc : wdS rows ≤ c) (x y : Int) : RaB rows (r + 1) 0 x y ↔ RaB rows r c x y := by
 constructor
 ·rintro ⟨i, k, hb, h⟩
  have := (fr_rng g h.from).2.2
  exact ⟨i, k, by unfold BefN at *; omega, h⟩
 ·rintro ⟨i, k, hb, h⟩
  exact ⟨i, k, by unfold BefN at *; omega, h⟩
theorem ra_zero (x y : Int) : ¬ RaB rows 0 0 x y := by
 rintro ⟨i, k, hb, _⟩
 unfold BefN at hb; omega
theorem ra_step {x y x' y' : Int} (h : RaB rows r c x y) (ha : Adj4 x y x' y') (hf : frP rows x' y') : RaB rows r c x' y' := by
 obtain ⟨i, k, hb, h⟩ := h
 exact ⟨i, k, hb, h.step ha hf⟩

theorem seen_zero (g : GbP rows) : SeenP rows 0 0 (zeroG rows) := ⟨zero_gm g, fun x y => by
 rw [zero_gI]
 exact ⟨fun h => (by cases h), fun h => absurd h (ra_zero x y)⟩⟩
theorem seen_clo (h : SeenP rows r c S) : CloP (frP rows) S := fun x y x' y' hm ha hf => (h.all x' y').2 (ra_step ((h.all x y).1 hm) ha hf)
theorem seen_no (h : SeenP rows r c S) (hf : frB rows r c = false) : SeenP rows r (c + 1) S := ⟨h.gm, fun x y => by rw [ra_same (Or.inl hf)]; exact h.all x y⟩
theorem seen_old (h : SeenP rows r c S) (hs : (S.getD r []).getD c false = true) : SeenP rows r (c + 1) S := ⟨h.gm, fun x y => by
 rw [ra_same (Or.inr ((h.all _ _).1 (by rw [gI_nat]; exact hs)))]; exact h.all x y⟩
theorem seen_new (h : SeenP rows r c S) (hf : FldP (frP rows) S (r : Int) (c : Int) S') : SeenP rows r (c + 1) S' := ⟨h.gm.same hf.sh, fun x y => by rw [ra_next, hf.all (seen_clo h), h.all]⟩
theorem seen_row (g : GbP rows) (h : SeenP rows r c S) (hc : wdS rows ≤ c) : SeenP rows (r + 1) 0 S := ⟨h.gm, fun x y => by rw [ra_row g hc]; exact h.all x y⟩
theorem fst_no1 (hf : frB rows r c = false) : fstB rows r c = false := by unfold fstB; rw [hf]; rfl
theorem fst_no2 (h : SeenP rows r c S) (hs : (S.getD r []).getD c false = true) : fstB rows r c = false := by
 unfold fstB
 rw [decP_true.2 ((h.all _ _).1 (by rw [gI_nat]; exact hs))]; simp
theorem fst_yes (h : SeenP rows r c S) (hf : frB rows r c = true) (hs : (S.getD r []).getD c false = false) : fstB rows r c = true := by
 unfold fstB
 rw [hf, decP_false.2 fun k => by rw [← h.all, gI_nat, hs] at k; cases k]; rfl

structure CelP (rows : List ByteArray) (r c : Nat) (C : List (List Bool)) : Prop where
 gm : GmP rows C
 all : ∀ x y, gI C x y = true ↔ frP rows x y ∧ ¬ RaB rows r c x y
theorem cells_gm (g : GbP rows) : GmP rows (cellsM rows) := ⟨cells_len, fun _ hi => cells_wd g hi⟩
theorem cells_gI (g : GbP rows) (x y : Int) : gI (cellsM rows) x y = true ↔ frP rows x y := by
 constructor
 ·intro h
  have hr := gI_rng (cells_gm g) h
  obtain ⟨i, rfl⟩ : ∃ i : Nat, x = (i : Int) := ⟨x.toNat, by omega⟩
  obtain ⟨k, rfl⟩ : ∃ k : Nat, y = (k : Int) := ⟨y.toNat, by omega⟩
  rw [gI_nat, cell_fr g (by omega) (by omega)] at h
  exact (frP_nat i k).2 h
 ·intro h
  have hr := fr_rng g h
  obtain ⟨i, rfl⟩ : ∃ i : Nat, x = (i : Int) := ⟨x.toNat, by omega⟩
  obtain ⟨k, rfl⟩ : ∃ k : Nat, y = (k : Int) := ⟨y.toNat, by omega⟩
  rw [gI_nat, cell_fr g (by omega) (by omega)]
  exact (frP_nat i k).1 h
theorem cel_zero (g : GbP rows) : CelP rows 0 0 (cellsM rows) := ⟨cells_gm g, fun x y => by
 rw [cells_gI g]
 exact ⟨fun h => ⟨h, ra_zero x y⟩, fun h => h.1⟩⟩
theorem cel_no (h : CelP rows r c C) (hc : (C.getD r []).getD c false = false) : CelP rows r (c + 1) C := ⟨h.gm, fun x y => by
 have hn : frB rows r c = false ∨ RaB rows r c (r : Int) (c : Int) := by
  cases hf : frB rows r c with
  | false => exact Or.inl rfl
  | true =>
   refine Or.inr (Classical.byContradiction fun hr => ?_)
   have := (h.all (r : Int) (c : Int)).2 ⟨(frP_nat r c).2 hf, hr⟩
   rw [gI_nat, hc] at this; cases this
 rw [ra_same hn]; exact h.all x y⟩
theorem cel_row (g : GbP rows) (h : CelP rows r c C) (hc : wdS rows ≤ c) : CelP rows (r + 1) 0 C := ⟨h.gm, fun x y => by rw [ra_row g hc]; exact h.all x y⟩
theorem fst_cel {b : Bool} (h : CelP rows r c C) (hc : (C.getD r []).getD c false = b) : fstB rows r c = b := by
 have e := h.all (r : Int) (c : Int)
 rw [gI_nat, hc, frP_nat] at e
 unfold fstB
 cases b with
 | true =>
  obtain ⟨h1, h2⟩ := e.1 rfl
  rw [h1, decP_false.2 h2]; rfl
 | false =>
  cases hf : frB rows r c with
  | false => rfl
  | true =>
   have : RaB rows r c (r : Int) (c : Int) := Classical.byContradiction fun hn => by have := e.2 ⟨hf, hn⟩; cases this
   rw [decP_true.2 this]; rfl
def zeroC (C : List (List Bool)) : List (List Bool) := (List.range C.length).map fun i => List.replicate (C.getD i []).length false
theorem zeroC_is (g : GbP rows) (h : GmP rows C) : zeroC C = zeroG rows := by
 unfold zeroC zeroG
 rw [h.len]
 refine List.map_congr_left fun i hi => ?_
 have hi := List.mem_range.1 hi
 rw [h.row i hi, g.eq i hi]
theorem part_is (g : GbP rows) (h : CelP rows r c C) (hc : (C.getD r []).getD c false = true) (hf : FldP (fun r c => gI C r c = true) (zeroC C) (r : Int) (c : Int) P) : P = fldM rows (r : Int) (c : Int) := by
 rw [zeroC_is g h.gm] at hf
 refine gdM_of ((zero_gm g).same hf.sh) fun i k _ _ => ?_
 rw [hf.all zero_clo, zero_gI]
 have h0 := (h.all (r : Int) (c : Int)).1 (by rw [gI_nat]; exact hc)
 constructor
 ·rintro (k9 | k9)
  ·cases k9
  ·exact k9.mono fun x y hx => ((h.all x y).1 hx).1
 ·intro k9
  refine Or.inr ((k9.within (S := RaB rows r c) (fun x y x' y' hn hf1 ha hf2 hs => hn (ra_step hs ha.symm hf1)) h0.2).mono fun x y hx => (h.all x y).2 hx)
structure UpP (C P : List (List Bool)) (i q : Nat) (D : List (List Bool)) : Prop where
 sh : SameS C D
 at_ : ∀ x k : Nat, (D.getD x []).getD k false = if BefN x k i q then ((C.getD x []).getD k false && !(P.getD x []).getD k false) else (C.getD x []).getD k false
theorem up_zero : UpP C P 0 0 C := ⟨SameS.refl C, fun x k => by rw [if_neg]; unfold BefN; omega⟩
theorem setV_at {M : List (List Bool)} {r c : Nat} {b : Bool} (hr : r < M.length) (hc : c < (M.getD r []).length) (i k : Nat) : ((M.set r ((M.getD r []).set c b)).getD i []).getD k false = if i = r ∧ k = c then b else (M.getD i []).getD k false := by
 by_cases hi : i = r
 ·subst hi
  have e : (M.set i ((M.getD i []).set c b)).getD i [] = (M.getD i []).set c b := by simp [List.getD, hr]
  rw [e]
  by_cases hk : k = c
  ·subst hk
   rw [if_pos ⟨rfl, rfl⟩]
   simp only [List.getD]; rw [List.getElem?_set_self (by simpa [List.getD] using hc)]; rfl
  ·rw [if_neg fun h => hk h.2]
   simp only [List.getD]; rw [List.getElem?_set_ne (Ne.symm hk)]
 ·rw [if_neg fun h => hi h.1]
  have : (M.set r ((M.getD r []).set c b)).getD i [] = M.getD i [] := by simp only [List.getD]; rw [List.getElem?_set_ne (Ne.symm hi)]
  rw [this]
theorem setV_shape (M : List (List Bool)) (r c : Nat) (b : Bool) : SameS M (M.set r ((M.getD r []).set c b)) := ⟨by simp, fun i => by
 by_cases hi : i = r
 ·subst hi
  by_cases hl : i < M.length
  ·have e : (M.set i ((M.getD i []).set c b)).getD i [] = (M.getD i []).set c b := by simp [List.getD, hl]
   rw [e]; simp
  ·have e1 : M.getD i [] = [] := by rw [List.getD, List.getElem?_eq_none (by omega)]; rfl
   have e2 : (M.set i ((M.getD i []).set c b)).getD i [] = [] := by rw [List.getD, List.getElem?_eq_none (by simp; omega)]; rfl
   rw [e2, e1]
 ·have : (M.set r ((M.getD r []).set c b)).getD i [] = M.getD i [] := by simp only [List.getD]; rw [List.getElem?_set_ne (Ne.symm hi)]
  rw [this]⟩
theorem up_next {i q : Nat} {b : Bool} (h : UpP C P i q D) (hi : i < D.length) (hq : q < (D.getD i []).length) (hb : b = ((D.getD i []).getD q false && !(P.getD i []).getD q false)) : UpP C P i (q + 1) (D.set i ((D.getD i []).set q b)) := ⟨h.sh.trans (setV_shape D i q b), fun x k => by
 rw [setV_at hi hq]
 by_cases e : x = i ∧ k = q
 ·obtain ⟨rfl, rfl⟩ := e
  rw [if_pos ⟨rfl, rfl⟩, if_pos (show BefN x k x (k + 1) from Or.inr ⟨rfl, Nat.lt_succ_self k⟩), hb, h.at_, if_neg (show ¬ BefN x k x k by unfold BefN; omega)]
 ·rw [if_neg e, h.at_]
  by_cases hb2 : BefN x k i q
  ·rw [if_pos hb2, if_pos (by unfold BefN at *; omega)]
  ·rw [if_neg hb2, if_neg (by unfold BefN at *; omega)]⟩
theorem up_row {i q : Nat} (h : UpP C P i q D) (hq : (C.getD i []).length ≤ q) : UpP C P (i + 1) 0 D := ⟨h.sh, fun x k => by
 rw [h.at_]
 by_cases hb : BefN x k i q
 ·rw [if_pos hb, if_pos (by unfold BefN at *; omega)]
 ·rw [if_neg hb]
  by_cases hb2 : BefN x k (i + 1) 0
  ·have hx : x = i := by unfold BefN at *; omega
   have hk : (C.getD x []).length ≤ k := by subst hx; unfold BefN at hb; omega
   have e : (C.getD x []).getD k false = false := by rw [List.getD, List.getElem?_eq_none (by omega)]; rfl
   rw [if_pos hb2, e]; rfl
  ·rw [if_neg hb2]⟩
theorem up_done {i : Nat} (h : UpP C P i 0 D) (hi : C.length ≤ i) (hc : CelP rows r c C) (hP : P = fldM rows (r : Int) (c : Int)) : CelP rows r (c + 1) D := by
 have hgm := hc.gm.same h.sh
 refine ⟨hgm, fun x y => ?_⟩
 have key : gI D x y = true ↔ gI C x y = true ∧ ¬ Rch (frP rows) (r : Int) (c : Int) x y := by
  by_cases hin : (0 ≤ x ∧ x < (rows.length : Int)) ∧ 0 ≤ y ∧ y < (wdS rows : Int)
  ·obtain ⟨i9, rfl⟩ : ∃ i : Nat, x = (i : Int) := ⟨x.toNat, by omega⟩
   obtain ⟨k9, rfl⟩ : ∃ k : Nat, y = (k : Int) := ⟨y.toNat, by omega⟩
   have hl := hc.gm.len
   rw [gI_nat, gI_nat, h.at_, if_pos (show BefN i9 k9 i 0 from Or.inl (by omega)), hP]
   unfold fldM
   rw [gdM_at (by omega) (by omega)]
   simp only [Bool.and_eq_true, Bool.not_eq_true', decP_false]
  ·constructor
   ·intro hd; exact absurd (gI_rng hgm hd) hin
   ·intro hd; exact absurd (gI_rng hc.gm hd.1) hin
 rw [key, hc.all, ra_next]
 exact ⟨fun ⟨⟨h1, h2⟩, h3⟩ => ⟨h1, fun k => k.elim h2 h3⟩, fun ⟨h1, h2⟩ => ⟨⟨h1, fun k => h2 (Or.inl k)⟩, fun k => h2 (Or.inr k)⟩⟩
end
end Go.GL

namespace Go.GL
open Go Go.RowKit Go.Lib
theorem sB_ext9 {s : ByteArray} {c d k : Nat} (h : c + k < d) (hd : d ≤ s.size) : sB (s.extract c d) k = sB s (c + k) := by
 have h2 : k < (s.extract c d).size := by rw [ByteArray.size_extract]; omega
 unfold sB
 rw [getElem?_pos _ k h2, getElem?_pos s (c + k) (by omega)]
 simp [ByteArray.getElem_extract]
section
variable {rows : List ByteArray} {a b c d : Nat}
theorem cut_good (g : GbP rows) (h : BoxP rows a b c d) : GbP (cutM rows a b c d) := by
 obtain ⟨h1, h2, h3, h4⟩ := box_in g h
 have hl : (cutM rows a b c d).length = b + 1 - a := by unfold cutM; rw [List.length_map, cut_len h2]
 have hr : ∀ i, i < b + 1 - a → rwS (cutM rows a b c d) i = (rwS rows (a + i)).extract c (d + 1) := fun i hi => by
  obtain ⟨e1, e2⟩ := cutM_at (rows := rows) (a := a) (b := b) (j := i) h2 (by omega)
  have e3 : (cutM rows a b c d).getD i ByteArray.empty = (((rows.take (b + 1)).drop a).getD i ByteArray.empty).extract c (d + 1) := by
   unfold cutM
   simp only [List.getD]
   rw [List.getElem?_map, List.getElem?_eq_getElem e2]; rfl
  show (cutM rows a b c d).getD i ByteArray.empty = _
  rw [e3, e1]; rfl
 have hz : ∀ i, i < b + 1 - a → (rwS (cutM rows a b c d) i).size = d + 1 - c := fun i hi => by
  have := g.eq (a + i) (by omega)
  rw [hr i hi, ByteArray.size_extract]; omega
 have hw : wdS (cutM rows a b c d) = d + 1 - c := hz 0 (by omega)
 have := g.hi; have := g.wd
 refine ⟨by omega, by omega, fun i hi => by rw [hw]; exact hz i (by omega), fun i hi k hk => ?_⟩
 have h9 := g.eq (a + i) (by omega)
 rw [hr i (by omega), sB_ext9 (by omega) (by omega)]
 exact g.ch (a + i) (by omega) (c + k) (by omega)
theorem one_good : GbP [⟨#[35]⟩] := by
 refine ⟨by decide, by decide, fun i hi => ?_, fun i hi k hk => ?_⟩
 ·have : i = 0 := by simpa using hi
  subst this; rfl
 ·have : i = 0 := by simpa using hi
  subst this
  have hk : k < 1 := hk
  have : k = 0 := by omega
  subst this
  exact Or.inr (by decide)
theorem tr_good (g : GbP rows) : GbP (trM rows) := by
 by_cases h : ∃ q : (Nat × Nat) × (Nat × Nat), BoxP rows q.1.1 q.1.2 q.2.1 q.2.2
 ·obtain ⟨q, hq⟩ := h
  rw [trM_of hq]; exact cut_good g hq
 ·unfold trM
  rw [dif_neg h]; exact one_good
theorem pb_good (g : GbP rows) (r c : Nat) : GbP (pbM rows r c) := tr_good (bdG_good g (gdM_gm _)).1
theorem bp_mem (g : GbP rows) {x : List ByteArray} (hx : x ∈ bpM rows) : GbP x := by
 unfold bpM bpAll bpRow at hx
 obtain ⟨r, _, hx⟩ := List.mem_flatMap.1 hx
 obtain ⟨c, _, hx⟩ := List.mem_flatMap.1 hx
 split at hx
 ·rw [List.mem_singleton.1 hx]; exact pb_good g r c
 ·cases hx
theorem bp_len (g : GbP rows) : (bpM rows).length ≤ 64 := by
 unfold bpM bpAll
 have h := flat_len (f := fun r => bpRow rows r (wdS rows)) (m := 8) (l := List.range rows.length) fun r _ => by
  unfold bpRow
  have := flat_len (f := fun c => if fstB rows r c = true then [pbM rows r c] else []) (m := 1) (l := List.range (wdS rows)) fun c _ => by split <;> simp
  have h2 := g.wd.2
  rw [List.length_range] at this
  exact Nat.le_trans this (by omega)
 have h2 := g.hi.2
 rw [List.length_range] at h; omega
end
def mvN (x : List ByteArray) : Bool := decide (0 < ((dmM x true).length : Int) + ((dmM x false).length : Int))
noncomputable def partsA (k : Int) (t : ByteArray) : List ByteArray :=
 if k ≤ 3 then spA k t else if k = 4 then ((bpM (partsB 47 t)).filter mvN).map (joinC 47)
 else if k = 5 then (if (t.toList == (⟨#[]⟩ : ByteArray).toList) = true then [] else [t]) else (if (t.toList == (⟨#[48]⟩ : ByteArray).toList) = true then [] else [t])
noncomputable def partsC (c : ByteArray × ByteArray) : List (ByteArray × ByteArray) := (partsA (vbI c.1) c.2).map fun x => (c.1, x)
noncomputable def partsT (w : ByteArray) : List ByteArray := (partsA (kdI w) (tlB w)).map (fV (kdI w).toNat)
noncomputable def posP (s : ByteArray) : List ByteArray := (psF s).flatMap partsT
section
variable {k : Int} {t : ByteArray}
theorem pa_3 (h : k ≤ 3) : partsA k t = spA k t := if_pos h
theorem pa_4 (h : k = 4) : partsA k t = ((bpM (partsB 47 t)).filter mvN).map (joinC 47) := by unfold partsA; rw [if_neg (by omega), if_pos h]
theorem pa_5y (h : k = 5) (h2 : (t.toList == (⟨#[]⟩ : ByteArray).toList) = true) : partsA k t = [] := by unfold partsA; rw [if_neg (by omega), if_neg (by omega), if_pos h, if_pos h2]
theorem pa_5n (h : k = 5) (h2 : (t.toList == (⟨#[]⟩ : ByteArray).toList) = false) : partsA k t = [t] := by unfold partsA; rw [if_neg (by omega), if_neg (by omega), if_pos h, h2]; rfl
theorem pa_6y (h : k = 6) (h2 : (t.toList == (⟨#[48]⟩ : ByteArray).toList) = true) : partsA k t = [] := by unfold partsA; rw [if_neg (by omega), if_neg (by omega), if_neg (by omega), if_pos h2]
theorem pa_6n (h : k = 6) (h2 : (t.toList == (⟨#[48]⟩ : ByteArray).toList) = false) : partsA k t = [t] := by unfold partsA; rw [if_neg (by omega), if_neg (by omega), if_neg (by omega), h2]; rfl
theorem pa_len (g : AgP k t) : (partsA k t).length ≤ 64 := by
 by_cases h3 : k ≤ 3
 ·rw [pa_3 h3]; have := sp_len (k := k) (t := t); have := (g.strip h3).2; omega
 by_cases h4 : k = 4
 ·rw [pa_4 h4, List.length_map]; exact Nat.le_trans (List.length_filter_le _ _) (bp_len (g.dom h4).g)
 by_cases h5 : k = 5
 ·cases e : (t.toList == (⟨#[]⟩ : ByteArray).toList) with
  | true => rw [pa_5y h5 e]; simp
  | false => rw [pa_5n h5 e]; simp
 have h6 : k = 6 := by have := g.hi; omega
 cases e : (t.toList == (⟨#[48]⟩ : ByteArray).toList) with
 | true => rw [pa_6y h6 e]; simp
 | false => rw [pa_6n h6 e]; simp
theorem pa_mem (g : AgP k t) : ∀ x ∈ partsA k t, x.size ≤ 72 := fun x hx => by
 have hz := ag_size g
 by_cases h3 : k ≤ 3
 ·rw [pa_3 h3] at hx; have := sp_mem x hx; omega
 by_cases h4 : k = 4
 ·rw [pa_4 h4] at hx
  obtain ⟨y, hy, rfl⟩ := List.mem_map.1 hx
  exact bdt_size (bp_mem (g.dom h4).g (List.mem_filter.1 hy).1)
 have hm : x ∈ [t] := by
  by_cases h5 : k = 5
  ·cases e : (t.toList == (⟨#[]⟩ : ByteArray).toList) with
   | true => rw [pa_5y h5 e] at hx; cases hx
   | false => rw [pa_5n h5 e] at hx; exact hx
  have h6 : k = 6 := by have := g.hi; omega
  cases e : (t.toList == (⟨#[48]⟩ : ByteArray).toList) with
  | true => rw [pa_6y h6 e] at hx; cases hx
  | false => rw [pa_6n h6 e] at hx; exact hx
 rw [List.mem_singleton.1 hm]; omega
end
theorem fm_next {α β : Type} [Inhabited α] {xs : List α} {f : α → List β} {os : List β} {i : Nat} (h : i < xs.length) (ho : os = (xs.take i).flatMap f) : os ++ f (xs.getD i default) = (xs.take (i + 1)).flatMap f := by
 rw [ho, List.take_add_one, List.flatMap_append, List.getD, List.getElem?_eq_getElem h]; simp
theorem fm_done {α β : Type} {xs : List α} {f : α → List β} {os : List β} {i : Nat} (h : xs.length ≤ i) (ho : os = (xs.take i).flatMap f) : os = xs.flatMap f := by rw [ho, List.take_of_length_le h]
theorem fg_y {α β : Type} [Inhabited α] {xs : List α} {p : α → Bool} {f : α → β} {os : List β} {i : Nat} (h : i < xs.length) (ho : os = ((xs.take i).filter p).map f) (hp : p (xs.getD i default) = true) : os ++ [f (xs.getD i default)] = ((xs.take (i + 1)).filter p).map f := by
 have e : xs[i]? = some (xs.getD i default) := by rw [List.getD, List.getElem?_eq_getElem h]; rfl
 rw [ho, List.take_add_one, e]; simp only [Option.toList_some, List.filter_append, List.map_append]
 rw [List.filter_cons_of_pos hp]; rfl
theorem fg_n {α β : Type} [Inhabited α] {xs : List α} {p : α → Bool} {f : α → β} {os : List β} {i : Nat} (h : i < xs.length) (ho : os = ((xs.take i).filter p).map f) (hp : p (xs.getD i default) = false) : os = ((xs.take (i + 1)).filter p).map f := by
 have e : xs[i]? = some (xs.getD i default) := by rw [List.getD, List.getElem?_eq_getElem h]; rfl
 rw [ho, List.take_add_one, e]; simp only [Option.toList_some, List.filter_append, List.map_append]
 rw [List.filter_cons_of_neg (by rw [hp]; exact Bool.false_ne_true)]; simp
theorem mv_y {x : List ByteArray} (h : 0 < ((dmM x true).length : Int) + ((dmM x false).length : Int)) : mvN x = true := decide_eq_true h
theorem mv_n {x : List ByteArray} (h : ¬ 0 < ((dmM x true).length : Int) + ((dmM x false).length : Int)) : mvN x = false := decide_eq_false h
theorem pc_len {c : ByteArray × ByteArray} (g : CgP c) : (partsC c).length ≤ 64 := by unfold partsC; rw [List.length_map]; exact pa_len g
theorem pos_text {s : ByteArray} : ((psC s).flatMap partsC).map txW = posP s := by
 unfold psC posP
 have key : ∀ ws : List ByteArray, (∀ w ∈ ws, SgP w) → ((ws.map prW).flatMap partsC).map txW = ws.flatMap partsT := by
  intro ws
  induction ws with
  | nil => intro _; rfl
  | cons w ws ih =>
   intro hg
   obtain ⟨h1, h2, h3⟩ := kd_pos (hg w List.mem_cons_self).1
   rw [List.map_cons, List.flatMap_cons, List.flatMap_cons, List.map_append, ih fun x hx => hg x (List.mem_cons_of_mem _ hx)]
   congr 1
   unfold partsC partsT
   rw [List.map_map]
   show (partsA (vbI (cutA 32 w)) (cutZ 32 w)).map _ = _
   rw [← h2, ← h3]
   refine List.map_congr_left fun x _ => ?_
   show (cutA 32 w ++ spB) ++ x = _
   rcases vb_is (k := cutA 32 w) with e | ⟨i, hi, e1, e2⟩
   ·have := (hg w List.mem_cons_self).1; omega
   ·have e3 : (kdI w).toNat = i := by omega
    unfold fV
    rw [e3, ← e1]
 exact key _ psF_all.2
theorem cs_len {s : ByteArray} : ((psC s).flatMap partsC).length ≤ 384 := by
 have h := psC_all (s := s)
 have := flat_len (f := partsC) (m := 64) (l := psC s) fun c hc => by
  obtain ⟨k, hk, e⟩ := List.getElem_of_mem hc
  have := h.2 k hk
  rw [show (psC s).getD k default = c by rw [List.getD, List.getElem?_eq_getElem hk, ← e]; rfl] at this
  exact pc_len this
 omega
theorem posP_len {s : ByteArray} : (posP s).length ≤ 384 := by rw [← pos_text, List.length_map]; exact cs_len
theorem cs_size {s : ByteArray} : CsZ ((psC s).flatMap partsC) := fun i hi => by
 have hm : ((psC s).flatMap partsC).getD i default ∈ (psC s).flatMap partsC := by rw [List.getD, List.getElem?_eq_getElem hi]; exact List.getElem_mem hi
 obtain ⟨c, hc, hx⟩ := List.mem_flatMap.1 hm
 obtain ⟨k, hk, e⟩ := List.getElem_of_mem hc
 have g := psC_all.2 k hk
 rw [show (psC s).getD k default = c by rw [List.getD, List.getElem?_eq_getElem hk, ← e]; rfl] at g
 obtain ⟨x, hx, e2⟩ := List.mem_map.1 (show _ ∈ (partsA (vbI c.1) c.2).map (fun x => (c.1, x)) from hx)
 rw [← e2]
 have := cg_size g
 have := pa_mem g x hx
 exact ⟨by show c.1.size ≤ 100; omega, by show x.size ≤ 100; omega⟩
theorem posP_no {s : ByteArray} (h : psB s = false) : posP s = [] := by unfold posP; rw [psF_no h]; rfl
theorem pt_len {w : ByteArray} (g : SgP w) : (partsT w).length ≤ 64 := by unfold partsT; rw [List.length_map]; exact pa_len g.2
theorem vb_lit {a : ByteArray} {i : Nat} (hi : i < 7) (h : vbI a = (i : Int)) : VB.getD i ByteArray.empty = a := by
 rcases vb_is (k := a) with e | ⟨j, hj, e1, e2⟩
 ·omega
 ·rw [show i = j by omega]; exact e1.symm
theorem fV_self {w : ByteArray} (h : SgP w) : fV (kdI w).toNat (tlB w) = w := (kd_join h.1).symm
section
variable {a t s : ByteArray} {j : Nat}
theorem mp_next {α β : Type} [Inhabited α] {xs : List α} {f : α → β} {os : List β} {i : Nat} (h : i < xs.length) (ho : os = (xs.take i).map f) : os ++ [f (xs.getD i default)] = (xs.take (i + 1)).map f := by
 rw [ho, List.take_add_one, List.map_append, List.getD, List.getElem?_eq_getElem h]; rfl
theorem pc_3 {os : List (ByteArray × ByteArray)} (h : vbI a ≤ 3) (hj : (spA (vbI a) t).length ≤ j) (ho : os = ((spA (vbI a) t).take j).map fun x => (a, x)) : partsC (a, t) = os := by
 unfold partsC
 rw [ho, List.take_of_length_le hj, pa_3 h]
theorem pc_4 {os : List (ByteArray × ByteArray)} (h : vbI a = 4) (hj : (bpM (partsB 47 t)).length ≤ j) (ho : os = (((bpM (partsB 47 t)).take j).filter mvN).map fun x => ((⟨#[100, 111, 109]⟩ : ByteArray), joinC 47 x)) : partsC (a, t) = os := by
 have e : (⟨#[100, 111, 109]⟩ : ByteArray) = a := vb_lit (i := 4) (by omega) (by omega)
 rw [e] at ho
 unfold partsC
 rw [ho, List.take_of_length_le hj, pa_4 h, List.map_map]; rfl
theorem pc_5y (h : vbI a = 5) (h2 : (t.toList == (⟨#[]⟩ : ByteArray).toList) = true) : partsC (a, t) = [] := by unfold partsC; rw [pa_5y h h2]; rfl
theorem pc_5n (h : vbI a = 5) (h2 : (t.toList == (⟨#[]⟩ : ByteArray).toList) = false) : partsC (a, t) = [(a, t)] := by unfold partsC; rw [pa_5n h h2]; rfl
theorem pc_6y (h : vbI a = 6) (h2 : (t.toList == (⟨#[48]⟩ : ByteArray).toList) = true) : partsC (a, t) = [] := by unfold partsC; rw [pa_6y h h2]; rfl
theorem pc_6n (h : vbI a = 6) (h2 : (t.toList == (⟨#[48]⟩ : ByteArray).toList) = false) : partsC (a, t) = [(a, t)] := by unfold partsC; rw [pa_6n h h2]; rfl
theorem pt_3 {os : List ByteArray} (h : kdI s ≤ 3) (hj : (spA (kdI s) (tlB s)).length ≤ j) (ho : os = ((spA (kdI s) (tlB s)).take j).map (fV (kdI s).toNat)) : partsT s = os := by
 unfold partsT
 rw [ho, List.take_of_length_le hj, pa_3 h]
theorem pt_4 {os : List ByteArray} (h : kdI s = 4) (hj : (bpM (partsB 47 (tlB s))).length ≤ j) (ho : os = (((bpM (partsB 47 (tlB s))).take j).filter mvN).map fun x => fV 4 (joinC 47 x)) : partsT s = os := by
 unfold partsT
 rw [ho, List.take_of_length_le hj, pa_4 h, List.map_map, h]; rfl
theorem pt_5y (h : kdI s = 5) (h2 : ((tlB s).toList == (⟨#[]⟩ : ByteArray).toList) = true) : partsT s = [] := by unfold partsT; rw [pa_5y h h2]; rfl
theorem pt_5n (g : SgP s) (h : kdI s = 5) (h2 : ((tlB s).toList == (⟨#[]⟩ : ByteArray).toList) = false) : partsT s = [s] := by
 have e := fV_self g
 unfold partsT; rw [pa_5n h h2]; show [fV _ _] = [s]; rw [e]
theorem pt_6y (h : kdI s = 6) (h2 : ((tlB s).toList == (⟨#[48]⟩ : ByteArray).toList) = true) : partsT s = [] := by unfold partsT; rw [pa_6y h h2]; rfl
theorem pt_6n (g : SgP s) (h : kdI s = 6) (h2 : ((tlB s).toList == (⟨#[48]⟩ : ByteArray).toList) = false) : partsT s = [s] := by
 have e := fV_self g
 unfold partsT; rw [pa_6n h h2]; show [fV _ _] = [s]; rw [e]
end
end Go.GL

namespace Go.GL
open Go Go.RowKit
theorem u8_of {n : Int} (h : 0 ≤ n ∧ n < 256) : n = ((UInt8.ofNat n.toNat).toNat : Int) := by
 rw [UInt8.toNat_ofNat']; omega
theorem wrapB {n : Int} (h : 0 ≤ n ∧ n < 256) : IntKind.u8.wrap n = n := by
 unfold IntKind.wrap
 simp only [IntKind.bits, IntKind.signed]
 simp
 omega
end Go.GL

set_option maxRecDepth 20000
set_option maxHeartbeats 2000000
namespace Go.Proofs.YtianphgdbfekdaaGreatDoor
namespace PWL
open Go.RowKit Go.GL Go.Proofs
end PWL
section
open Go.RowKit Go.GL Go.Proofs
theorem ag22 : (Tryz.prog.underlying 22).map aggD = some false := by kernel_rfl
theorem ag3 : (Tryz.prog.underlying 3).map aggD = some false := by kernel_rfl
theorem ag36 : (Tryz.prog.underlying 36).map aggD = some true := by kernel_rfl
theorem ag4 : (Tryz.prog.underlying 4).map aggD = some false := by kernel_rfl
theorem ag56 : (Tryz.prog.underlying 56).map aggD = some true := by kernel_rfl
theorem ag82 : (Tryz.prog.underlying 82).map aggD = some false := by kernel_rfl
theorem ag9 : (Tryz.prog.underlying 9).map aggD = some false := by kernel_rfl
theorem ap36 : (Tryz.prog.info? 36).map (fun i => (i.size, i.bytes, (i.zero.map (·.cells.size)))) = some (2, 32, some 2) := by kernel_rfl
theorem ap4 : (Tryz.prog.info? 4).map (fun i => (i.size, i.bytes, (i.zero.map (·.cells.size)))) = some (1, 1, some 1) := by kernel_rfl
theorem ap56 : (Tryz.prog.info? 56).map (fun i => (i.size, i.bytes, (i.zero.map (·.cells.size)))) = some (1, 24, some 1) := by kernel_rfl
theorem ap82 : (Tryz.prog.info? 82).map (fun i => (i.size, i.bytes, (i.zero.map (·.cells.size)))) = some (1, 24, some 1) := by kernel_rfl
theorem ap9 : (Tryz.prog.info? 9).map (fun i => (i.size, i.bytes, (i.zero.map (·.cells.size)))) = some (1, 16, some 1) := by kernel_rfl
theorem nm112 : (Tryz.f112.name == "runtime.NumGoroutine") = false := by kernel_rfl
theorem nm113 : (Tryz.f113.name == "runtime.NumGoroutine") = false := by kernel_rfl
theorem nm12 : (Tryz.f12.name == "runtime.NumGoroutine") = false := by kernel_rfl
theorem nm13 : (Tryz.f13.name == "runtime.NumGoroutine") = false := by kernel_rfl
theorem nm14 : (Tryz.f14.name == "runtime.NumGoroutine") = false := by kernel_rfl
theorem nm15 : (Tryz.f15.name == "runtime.NumGoroutine") = false := by kernel_rfl
theorem nm16 : (Tryz.f16.name == "runtime.NumGoroutine") = false := by kernel_rfl
theorem nm17 : (Tryz.f17.name == "runtime.NumGoroutine") = false := by kernel_rfl
theorem nm20 : (Tryz.f20.name == "runtime.NumGoroutine") = false := by kernel_rfl
theorem nm21 : (Tryz.f21.name == "runtime.NumGoroutine") = false := by kernel_rfl
theorem nm22 : (Tryz.f22.name == "runtime.NumGoroutine") = false := by kernel_rfl
theorem nm23 : (Tryz.f23.name == "runtime.NumGoroutine") = false := by kernel_rfl
theorem nm24 : (Tryz.f24.name == "runtime.NumGoroutine") = false := by kernel_rfl
theorem nm25 : (Tryz.f25.name == "runtime.NumGoroutine") = false := by kernel_rfl
theorem nm30 : (Tryz.f30.name == "runtime.NumGoroutine") = false := by kernel_rfl
theorem nm31 : (Tryz.f31.name == "runtime.NumGoroutine") = false := by kernel_rfl
theorem nm32 : (Tryz.f32.name == "runtime.NumGoroutine") = false := by kernel_rfl
theorem nm33 : (Tryz.f33.name == "runtime.NumGoroutine") = false := by kernel_rfl
theorem nm34 : (Tryz.f34.name == "runtime.NumGoroutine") = false := by kernel_rfl
theorem nm35 : (Tryz.f35.name == "runtime.NumGoroutine") = false := by kernel_rfl
theorem nm36 : (Tryz.f36.name == "runtime.NumGoroutine") = false := by kernel_rfl
theorem nm37 : (Tryz.f37.name == "runtime.NumGoroutine") = false := by kernel_rfl
theorem nm38 : (Tryz.f38.name == "runtime.NumGoroutine") = false := by kernel_rfl
theorem nm39 : (Tryz.f39.name == "runtime.NumGoroutine") = false := by kernel_rfl
theorem nm40 : (Tryz.f40.name == "runtime.NumGoroutine") = false := by kernel_rfl
theorem nm41 : (Tryz.f41.name == "runtime.NumGoroutine") = false := by kernel_rfl
theorem nm44 : (Tryz.f44.name == "runtime.NumGoroutine") = false := by kernel_rfl
theorem nm45 : (Tryz.f45.name == "runtime.NumGoroutine") = false := by kernel_rfl
theorem nm46 : (Tryz.f46.name == "runtime.NumGoroutine") = false := by kernel_rfl
theorem nm47 : (Tryz.f47.name == "runtime.NumGoroutine") = false := by kernel_rfl
theorem nm48 : (Tryz.f48.name == "runtime.NumGoroutine") = false := by kernel_rfl
theorem nm49 : (Tryz.f49.name == "runtime.NumGoroutine") = false := by kernel_rfl
theorem nm5 : (Tryz.f5.name == "runtime.NumGoroutine") = false := by kernel_rfl
theorem nm50 : (Tryz.f50.name == "runtime.NumGoroutine") = false := by kernel_rfl
theorem nm51 : (Tryz.f51.name == "runtime.NumGoroutine") = false := by kernel_rfl
theorem nm52 : (Tryz.f52.name == "runtime.NumGoroutine") = false := by kernel_rfl
theorem nm53 : (Tryz.f53.name == "runtime.NumGoroutine") = false := by kernel_rfl
theorem nm54 : (Tryz.f54.name == "runtime.NumGoroutine") = false := by kernel_rfl
theorem nm55 : (Tryz.f55.name == "runtime.NumGoroutine") = false := by kernel_rfl
theorem nm56 : (Tryz.f56.name == "runtime.NumGoroutine") = false := by kernel_rfl
theorem nm6 : (Tryz.f6.name == "runtime.NumGoroutine") = false := by kernel_rfl
theorem nm60 : (Tryz.f60.name == "runtime.NumGoroutine") = false := by kernel_rfl
theorem nm61 : (Tryz.f61.name == "runtime.NumGoroutine") = false := by kernel_rfl
theorem nm62 : (Tryz.f62.name == "runtime.NumGoroutine") = false := by kernel_rfl
theorem nm63 : (Tryz.f63.name == "runtime.NumGoroutine") = false := by kernel_rfl
theorem nm64 : (Tryz.f64.name == "runtime.NumGoroutine") = false := by kernel_rfl
theorem nm65 : (Tryz.f65.name == "runtime.NumGoroutine") = false := by kernel_rfl
theorem nm66 : (Tryz.f66.name == "runtime.NumGoroutine") = false := by kernel_rfl
theorem nm67 : (Tryz.f67.name == "runtime.NumGoroutine") = false := by kernel_rfl
theorem nm68 : (Tryz.f68.name == "runtime.NumGoroutine") = false := by kernel_rfl
theorem nm69 : (Tryz.f69.name == "runtime.NumGoroutine") = false := by kernel_rfl
theorem nm7 : (Tryz.f7.name == "runtime.NumGoroutine") = false := by kernel_rfl
theorem nm70 : (Tryz.f70.name == "runtime.NumGoroutine") = false := by kernel_rfl
theorem nm74 : (Tryz.f74.name == "runtime.NumGoroutine") = false := by kernel_rfl
theorem nm77 : (Tryz.f77.name == "runtime.NumGoroutine") = false := by kernel_rfl
theorem nm78 : (Tryz.f78.name == "runtime.NumGoroutine") = false := by kernel_rfl
theorem nm79 : (Tryz.f79.name == "runtime.NumGoroutine") = false := by kernel_rfl
theorem nm8 : (Tryz.f8.name == "runtime.NumGoroutine") = false := by kernel_rfl
theorem nm80 : (Tryz.f80.name == "runtime.NumGoroutine") = false := by kernel_rfl
theorem nm81 : (Tryz.f81.name == "runtime.NumGoroutine") = false := by kernel_rfl
theorem nm82 : (Tryz.f82.name == "runtime.NumGoroutine") = false := by kernel_rfl
theorem nm83 : (Tryz.f83.name == "runtime.NumGoroutine") = false := by kernel_rfl
theorem nm84 : (Tryz.f84.name == "runtime.NumGoroutine") = false := by kernel_rfl
theorem nm85 : (Tryz.f85.name == "runtime.NumGoroutine") = false := by kernel_rfl
theorem nm86 : (Tryz.f86.name == "runtime.NumGoroutine") = false := by kernel_rfl
theorem nm87 : (Tryz.f87.name == "runtime.NumGoroutine") = false := by kernel_rfl
theorem nm88 : (Tryz.f88.name == "runtime.NumGoroutine") = false := by kernel_rfl
theorem nm9 : (Tryz.f9.name == "runtime.NumGoroutine") = false := by kernel_rfl
theorem nm90 : (Tryz.f90.name == "runtime.NumGoroutine") = false := by kernel_rfl
theorem nm91 : (Tryz.f91.name == "runtime.NumGoroutine") = false := by kernel_rfl
theorem nm92 : (Tryz.f92.name == "runtime.NumGoroutine") = false := by kernel_rfl
theorem nm93 : (Tryz.f93.name == "runtime.NumGoroutine") = false := by kernel_rfl
theorem nm97 : (Tryz.f97.name == "runtime.NumGoroutine") = false := by kernel_rfl
theorem nm98 : (Tryz.f98.name == "runtime.NumGoroutine") = false := by kernel_rfl
theorem nz22 : (Tryz.prog.info? 22).map (·.size == 0) = some false := by kernel_rfl
theorem nz9 : (Tryz.prog.info? 9).map (·.size == 0) = some false := by kernel_rfl
theorem sz22 : (Tryz.prog.info? 22).map (·.size) = some 1 := by kernel_rfl
theorem sz3 : (Tryz.prog.info? 3).map (·.size) = some 1 := by kernel_rfl
theorem sz36 : (Tryz.prog.info? 36).map (·.size) = some 2 := by kernel_rfl
theorem sz4 : (Tryz.prog.info? 4).map (·.size) = some 1 := by kernel_rfl
theorem sz5 : (Tryz.prog.info? 5).map (·.size) = some 1 := by kernel_rfl
theorem sz56 : (Tryz.prog.info? 56).map (·.size) = some 1 := by kernel_rfl
theorem sz82 : (Tryz.prog.info? 82).map (·.size) = some 1 := by kernel_rfl
theorem sz9 : (Tryz.prog.info? 9).map (·.size) = some 1 := by kernel_rfl
theorem zr124 : (Tryz.prog.info? 124).bind (·.zero) = some (.agg #[(.int .i64 0), (.int .i64 0)]) := by kernel_rfl
theorem zr36 : (Tryz.prog.info? 36).bind (·.zero) = some (.agg #[(.string ByteArray.empty), (.string ByteArray.empty)]) := by kernel_rfl
theorem zr4 : (Tryz.prog.info? 4).bind (·.zero) = some (.bool false) := by kernel_rfl
theorem zr5 : (Tryz.prog.info? 5).bind (·.zero) = some (.int .u8 0) := by kernel_rfl
theorem zr56 : (Tryz.prog.info? 56).bind (·.zero) = some (.agg #[(.slice none 0 0)]) := by kernel_rfl
theorem zr82 : (Tryz.prog.info? 82).bind (·.zero) = some (.slice none 0 0) := by kernel_rfl
theorem zr9 : (Tryz.prog.info? 9).bind (·.zero) = some (.string ByteArray.empty) := by kernel_rfl
end
namespace PWL
open Go.RowKit Go.GL Go.Proofs




theorem markTextN_spec {w : World} {G : Pin} {kn : Nat} (hP : Pins G w) (hk : 0 < kn ∧ kn ≤ 1099511627776) :
  Calls Tryz.prog 17 [(.int .i64 ((kn : Nat) : Int))].toArray w fun e w' => e = .returned (.string (mkT ((kn : Nat) : Int))) ∧ Ext noS G w G w' := by
 refine s_enter (n := 20) Tryz.func17 Tryz.ntmps17 rfl rfl ?_
 have hX0 : Ext noS G w G w := Ext.refl hP
 refine s_seq (c_reg ?_)
 refine qd rfl rfl rfl (r_assign (v := (.string (⟨#[]⟩ : ByteArray))) rfl) (qe (s_then (s_seq (s_seq (c_reg ?_)))))
 refine qd rfl rfl rfl (r_move (v := (.int .i64 ((kn : Nat) : Int))) rfl) (qd rfl rfl rfl (r_leq rfl rfl) (qe (s_then ?_)))
 refine c_ifd (p := (((kn : Nat) : Int) : Int) ≤ 0) rfl rfl (fun h1 => ?_) (fun h1 => ?_)
 refine s_seq (c_reg ?_)
 refine qd rfl rfl rfl (r_assign (v := (.string (⟨#[109, 48]⟩ : ByteArray))) rfl) (qe (s_then ?_))
 refine wp_ret (s_ret (c_ret1 (v := (.string (⟨#[109, 48]⟩ : ByteArray))) rfl rfl rfl ?_))
 exfalso
 omega
 refine wp_skip (s_then (s_seq (c_reg ?_)))
 refine qd rfl rfl rfl (r_assign (v := (.string (⟨#[]⟩ : ByteArray))) rfl) (qe (s_then (s_seq ?_)))
 refine s_blk (s_loop (fun (k : Nat) (en : Nat → Value) (W : World) => ∃ (env1 : Nat → Value) (n9 : Nat) (o9 : ByteArray) (GL1 : Pin), en = (upd (upd (upd env1 0 (.int .i64 (n9 : Int))) 2 (.string (⟨#[]⟩ : ByteArray))) 3 (.string o9)) ∧ k = n9 ∧ Ext noS G w GL1 W ∧ Pin.le G GL1 ∧ (mkR n9 o9 = mkR kn (⟨#[]⟩ : ByteArray)) ∧ (o9.size + n9 ≤ kn)) _ ⟨_, kn, (⟨#[]⟩ : ByteArray), G, (packS (x := 3) (packS (x := 2) (pack1 (x := 0) rfl) rfl) rfl), rfl, hX0, Pin.le_refl _, rfl, (by show 0 + _ ≤ _; omega)⟩ ?_)
 rintro k2 _ w3 ⟨env1, n9, o9, GL1, rfl, hk4, hX5, hlek2, hmk, hoz⟩
 have h1b : ∀ x : UInt8, (b2s [x]).size = 1 := fun x => rfl
 refine s_seq (s_seq (c_reg ?_))
 refine qd rfl rfl rfl (r_move (v := (.int .i64 (n9 : Int))) rfl) (qd rfl rfl rfl (r_gtr rfl rfl) (qe (s_then ?_)))
 refine c_ifd (p := (0 : Int) < (n9 : Int)) rfl rfl (fun h6 => ?_) (fun h6 => ?_)
 refine wp_skip (s_then (s_blk (s_seq (c_reg ?_))))
 refine qd rfl rfl rfl (r_move (v := (.int .i64 (n9 : Int))) rfl) (qd rfl rfl rfl (r_rem rfl rfl (by omega) (by omega)) (qd rfl rfl rfl (r_add rfl rfl (by omega)) (qd rfl rfl rfl (r_conv (j := 48 + ((n9 : Int) % 10)) Tryz.underlying3 Tryz.underlying5 rfl (wrapB (by omega))) (q1 rfl rfl rfl (o_buildF (E := eByte) (e := 5) [(.int .u8 (48 + ((n9 : Int) % 10)))] [(UInt8.ofNat (48 + ((n9 : Int) % 10)).toNat)] Tryz.underlying47 sz5 zr5 (by exact reps1 (congrArg (fun z => [Value.int .u8 z]) (u8_of (by omega)))) (ones1 (by rfl)) rfl rfl rfl rfl (by decide) hX5.pins (fun u7 w8 ho9 hp10 hl11 hk12 => ?_))))))
 have hX13 := hX5.step hp10 hl11
 have ho14 : Own eByte 5 GL1 w8 w.heap.size u7 ([(UInt8.ofNat (48 + ((n9 : Int) % 10)).toNat)]) := ho9.weaken hX5.size
 refine qd rfl rfl rfl (r_b2s Tryz.underlying47 Tryz.underlying5 Tryz.underlying9 rfl ho14.read (Gadd.pins hX13.pins u7)) (qd rfl rfl rfl (r_move (v := (.string o9)) rfl) ?_)
 have h1c := h1b (UInt8.ofNat (48 + (n9 : Int) % 10).toNat)
 have hm15 : ((b2s ([(UInt8.ofNat (48 + ((n9 : Int) % 10)).toNat)])) ++ o9).size = (b2s ([(UInt8.ofNat (48 + ((n9 : Int) % 10)).toNat)])).size + o9.size := ByteArray.size_append
 refine qd rfl rfl rfl (r_addS rfl rfl (by omega)) (qd rfl rfl rfl (r_assign (v := (.string ((b2s ([(UInt8.ofNat (48 + ((n9 : Int) % 10)).toNat)])) ++ o9))) rfl) (qe (s_then (c_reg ?_))))
 refine qd rfl rfl rfl (r_move (v := (.int .i64 (n9 : Int))) rfl) (qd rfl rfl rfl (r_quo rfl rfl (by omega) (by omega) (by omega)) (qd rfl rfl rfl (r_assign (v := (.int .i64 ((n9 : Int) / 10))) rfl) (qe (s_blkN (s_lopN (⟨_, ?_, _, rfl, _, n9 / 10, b2s [UInt8.ofNat (48 + (n9 : Int) % 10).toNat] ++ o9, GL1, (packS (x := 3) (packS (x := 2) (pack1 (x := 0) rfl) rfl) rfl), rfl, hX13, hlek2, (mkR_step (by omega) hmk), (by rw [ByteArray.size_append, h1b]; omega)⟩))))))
 omega
 refine wp_exit (s_thenE (s_lopE (s_blkE (s_then (s_seq (c_reg ?_))))))
 refine qd rfl rfl rfl (r_move (v := (.string o9)) rfl) ?_
 have hm16 : (⟨#[109]⟩ : ByteArray).size = 1 := rfl
 have hm17 : ((⟨#[109]⟩ : ByteArray) ++ o9).size = (⟨#[109]⟩ : ByteArray).size + o9.size := ByteArray.size_append
 refine qd rfl rfl rfl (r_addS rfl rfl (by omega)) (qd rfl rfl rfl (r_assign (v := (.string ((⟨#[109]⟩ : ByteArray) ++ o9))) rfl) (qe (s_then ?_)))
 refine wp_ret (s_ret (c_ret1 (v := (.string ((⟨#[109]⟩ : ByteArray) ++ o9))) rfl rfl rfl ?_))
 have hn0 : n9 = 0 := by omega
 subst hn0
 rw [mkR_zero] at hmk
 exact ⟨congrArg (fun z => Ending.returned (Value.string z)) (by unfold mkT; rw [Int.toNat_natCast, ← hmk]), hX5.shrink⟩

theorem markText_spec {w : World} {G : Pin} {kz : Int} (hP : Pins G w) (hk : 0 < kz ∧ kz ≤ 1099511627776) :
  Calls Tryz.prog 17 [.int .i64 kz].toArray w fun e w' => e = .returned (.string (mkT kz)) ∧ Ext noS G w G w' := by
 obtain ⟨kn, rfl⟩ : ∃ n : Nat, kz = (n : Int) := ⟨kz.toNat, by omega⟩
 exact markTextN_spec hP (by omega)

theorem eqStringS_same {w : World} {G : Pin} {u v : Value} {xs : List ByteArray} (hP : Pins G w) (hu : RSl eStr G u xs) (hv : RSl eStr G v xs) :
  Calls Tryz.prog 7 [u, v].toArray w fun e w' => e = .returned (.bool true) ∧ Ext noS G w G w' := by
 refine s_enter (n := 26) Tryz.func7 Tryz.ntmps7 rfl rfl ?_
 have hX0 : Ext noS G w G w := Ext.refl hP
 have hm := hu.max
 refine s_seq (c_reg ?_)
 refine qd rfl rfl rfl (r_assign (v := (.bool false)) rfl) (qe (s_then (s_seq (s_seq (c_reg ?_)))))
 refine qd rfl rfl rfl (r_move (v := u) rfl) (qd rfl rfl rfl (run_len Tryz.underlying22 (v := u) rfl hu) (qd rfl rfl rfl (r_move (v := v) rfl) (qd rfl rfl rfl (run_len Tryz.underlying22 (v := v) rfl hv) (qd rfl rfl rfl (r_neq rfl rfl) (qe (s_then ?_))))))
 refine c_ifd (p := ((xs.length : Int) : Int) ≠ (xs.length : Int)) rfl rfl (fun h1 => ?_) (fun h1 => ?_)
 refine s_seq (c_reg ?_)
 refine qd rfl rfl rfl (r_assign (v := (.bool false)) rfl) (qe (s_then ?_))
 refine wp_ret (s_ret (c_ret1 (v := (.bool false)) rfl rfl rfl ?_))
 exfalso
 omega
 refine wp_skip (s_then (s_seq (s_seq (c_reg ?_))))
 refine qd rfl rfl rfl (r_assign (v := (.int .i64 0)) rfl) (qe (s_then ?_))
 refine s_blk (s_loop (fun (k : Nat) (en : Nat → Value) (W : World) => ∃ (env1 : Nat → Value) (j : Nat), en = (upd (upd (upd env1 0 u) 1 v) 5 (.int .i64 (j : Int))) ∧ k = xs.length - j ∧ Ext noS G w G W ∧ (j ≤ xs.length)) _ ⟨_, 0, (packS (x := 5) (packS (x := 1) (pack1 (x := 0) rfl) rfl) rfl), rfl, hX0, Nat.zero_le _⟩ ?_)
 rintro k2 _ w3 ⟨env1, j, rfl, hk4, hX5, hj⟩
 refine s_seq (s_seq (c_reg ?_))
 refine qd rfl rfl rfl (r_move (v := (.int .i64 (j : Int))) rfl) (qd rfl rfl rfl (r_move (v := u) rfl) (qd rfl rfl rfl (run_len Tryz.underlying22 (v := u) rfl hu) (qd rfl rfl rfl (r_lss rfl rfl) (qe (s_then ?_)))))
 refine c_ifd (p := ((j : Int) : Int) < (xs.length : Int)) rfl rfl (fun h6 => ?_) (fun h6 => ?_)
 refine wp_skip (s_then (s_seq ?_))
 refine s_blk (s_seq (c_draw (S := fun wz => Pins G wz) (last := 9) (by kernel_rfl) rfl ?_))
 have hl7 : Below w3.heap.size w3 w3.drew := (Below.refl _ _).drew
 have hp8 := hX5.pins.below hl7
 have hX9 := hX5.step hp8 hl7
 refine dr_take (i := 0) rfl rfl rfl (want_none rfl _) (by kernel_rfl) (fun _ _ => r_move (v := u) rfl) hX9.pins (dr_take (i := 1) rfl rfl rfl (want_none rfl _) (by kernel_rfl) (fun _ _ => r_move (v := (.int .i64 (j : Int))) rfl) hX9.pins (dr_take (i := 2) rfl rfl rfl (want_none rfl _) (by kernel_rfl) (fun _ _ => run_idx Tryz.underlying22 sz9 (v := u) rfl rfl hu (by omega) (by omega)) hX9.pins (dr_take (i := 3) rfl rfl rfl (want_none rfl _) (by kernel_rfl) (fun _ hS => run_load_str (r := xs.getD j ByteArray.empty) rfl ag9 (z := (j : Int)) rfl hu hS (by omega) (by omega)) hX9.pins (dr_take (i := 4) rfl rfl rfl (want_none rfl _) (by kernel_rfl) (fun _ _ => r_move (v := v) rfl) hX9.pins (dr_take (i := 5) rfl rfl rfl (want_none rfl _) (by kernel_rfl) (fun _ _ => r_move (v := (.int .i64 (j : Int))) rfl) hX9.pins (dr_take (i := 6) rfl rfl rfl (want_none rfl _) (by kernel_rfl) (fun _ _ => run_idx Tryz.underlying22 sz9 (v := v) rfl rfl hv (by omega) (by omega)) hX9.pins (dr_take (i := 7) rfl rfl rfl (want_none rfl _) (by kernel_rfl) (fun _ hS => run_load_str (r := xs.getD j ByteArray.empty) rfl ag9 (z := (j : Int)) rfl hv hS (by omega) (by omega)) hX9.pins (dr_take (i := 8) rfl rfl rfl (want_none rfl _) (by kernel_rfl) (fun _ _ => r_neqS_same rfl rfl) hX9.pins (dr_end (by kernel_rfl) (s_then (c_ifF rfl rfl (wp_skip (s_blkN (s_then (c_reg ?_)))))))))))))))
 refine qd rfl rfl rfl (r_move (v := (.int .i64 (j : Int))) rfl) (qd rfl rfl rfl (r_add rfl rfl (by omega)) (qd rfl rfl rfl (r_assign (v := (.int .i64 ((j : Int) + 1))) rfl) (qe (s_lopN (⟨_, ?_, _, rfl, _, j + 1, (packS (x := 5) (packS (x := 1) (pack1 (x := 0) rfl) rfl) rfl), rfl, hX9, (by omega)⟩)))))
 omega
 refine wp_exit (s_thenE (s_lopE (s_blkE (s_then (s_seq (c_reg ?_))))))
 refine qd rfl rfl rfl (r_assign (v := (.bool true)) rfl) (qe (s_then ?_))
 exact wp_ret (s_ret (c_ret1 (v := (.bool true)) rfl rfl rfl (⟨rfl, hX5⟩)))

theorem markStringS_spec {w : World} {G : Pin} {v : Value} {xs : List ByteArray} {kz : Int} (hP : Pins G w) (ho : Own eStr 9 G w 0 v xs) (hk : 0 < kz ∧ kz ≤ 1000000) (hx : xs.length ≤ 1048576) :
  Calls Tryz.prog 8 [v, (.int .i64 kz)].toArray w fun e w' => e = .returned (.int .i64 (kz + xs.length)) ∧ Own eStr 9 G w' 0 v (mkTs kz xs.length) ∧ Ext (inV [v]) G w G w' := by
 refine s_enter (n := 20) Tryz.func8 Tryz.ntmps8 rfl rfl ?_
 have hX0 : Ext (inV [v]) G w G w := Ext.refl hP
 have hlo : Lo w (inV [v]) v.ownBlock := fun k hk => Or.inr ⟨v, List.mem_singleton_self _, hk⟩
 refine s_seq (c_reg ?_)
 refine qd rfl rfl rfl (r_assign (v := (.int .i64 0)) rfl) (qe (s_then (s_seq (s_seq (c_reg ?_)))))
 refine qd rfl rfl rfl (r_assign (v := (.int .i64 0)) rfl) (qe (s_then ?_))
 refine s_blk (s_loop (fun (k : Nat) (en : Nat → Value) (W : World) => ∃ (env1 : Nat → Value) (j : Nat) (q : Int) (ys : List ByteArray), en = (upd (upd (upd (upd env1 0 v) 1 (.int .i64 q)) 4 (.int .i64 0)) 5 (.int .i64 (j : Int))) ∧ k = xs.length - j ∧ Ext (inV [v]) G w G W ∧ (j ≤ xs.length) ∧ (q = kz + (j : Int)) ∧ (ys = mkPt kz xs j) ∧ (ys.length = xs.length) ∧ (Own eStr 9 G W 0 v (ys))) _ ⟨_, 0, kz, xs, (packS (x := 5) (packS (x := 4) (packS (x := 1) (pack1 (x := 0) rfl) rfl) rfl) rfl), rfl, hX0, Nat.zero_le _, (by omega), rfl, rfl, ho⟩ ?_)
 rintro k1 _ w2 ⟨env1, j, q, ys, rfl, hk3, hX4, hj, hq, hys, hyl, hw5⟩
 refine s_seq (s_seq (c_reg ?_))
 refine qd rfl rfl rfl (r_move (v := (.int .i64 (j : Int))) rfl) (qd rfl rfl rfl (r_move (v := v) rfl) (qd rfl rfl rfl (run_len Tryz.underlying22 (v := v) rfl hw5.read) (qd rfl rfl rfl (r_lss rfl rfl) (qe (s_then ?_)))))
 refine c_ifd (p := ((j : Int) : Int) < (ys.length : Int)) rfl rfl (fun h6 => ?_) (fun h6 => ?_)
 refine wp_skip (s_then (s_seq ?_))
 refine s_blk (s_seq (c_reg ?_))
 refine qd rfl rfl rfl (r_move (v := v) rfl) (qd rfl rfl rfl (r_move (v := (.int .i64 (j : Int))) rfl) (qd rfl rfl rfl (r_move (v := (.int .i64 q)) rfl) (q1 rfl rfl rfl (o_call (vs := [(.int .i64 q)]) Tryz.func17 nm17 rfl rfl rfl ?_))))
 refine Calls.mono (markText_spec (kz := q) hX4.pins (by omega)) ?_
 rintro _ w7 ⟨rfl, hx8⟩
 refine ⟨_, rfl, ?_⟩
 have hX9 := hX4.step hx8.pins hx8.below
 have ho10 := hw5.below hx8.below
 refine qd rfl rfl rfl (run_idx Tryz.underlying22 sz9 (v := v) rfl rfl ho10.read (by omega) (by omega)) (q0 rfl rfl rfl (o_set (E := eStr) (v := v) (u := (.string (mkT q))) (z := (j : Int)) (mkT q) sz9 rfl rfl rfl rfl hX9.pins ho10 (by omega) (by omega) (fun w11 ho12 hp13 hg14 hz15 => ?_)))
 have hX16 := hX9.write hp13 hg14 (hlo)
 have ho17 : Own eStr 9 G w11 0 v ((ys).set j (mkT q)) := ho12
 have hm18 : ((ys).set j (mkT q)).length = ys.length := List.length_set ..
 refine qe (s_then (c_reg ?_))
 refine qd rfl rfl rfl (r_move (v := (.int .i64 q)) rfl) (qd rfl rfl rfl (r_add rfl rfl (by omega)) (qd rfl rfl rfl (r_assign (v := (.int .i64 (q + 1))) rfl) (qe (s_blkN (s_then (c_reg ?_))))))
 refine qd rfl rfl rfl (r_move (v := (.int .i64 (j : Int))) rfl) (qd rfl rfl rfl (r_add rfl rfl (by omega)) (qd rfl rfl rfl (r_assign (v := (.int .i64 ((j : Int) + 1))) rfl) (qe (s_lopN (⟨_, ?_, _, rfl, _, j + 1, q + 1, ys.set j (mkT q), (packS (x := 5) (packS (x := 4) (packS (x := 1) (pack1 (x := 0) rfl) rfl) rfl) rfl), rfl, hX16, (by omega), (by omega), (by rw [hys]; exact mkPt_next (by omega) hq), ((List.length_set ..).trans hyl), ho17⟩)))))
 omega
 refine wp_exit (s_thenE (s_lopE (s_blkE (s_then (s_seq (c_reg ?_))))))
 refine qd rfl rfl rfl (r_move (v := (.int .i64 q)) rfl) (qd rfl rfl rfl (r_assign (v := (.int .i64 q)) rfl) (qe (s_then ?_)))
 refine wp_ret (s_ret (c_ret1 (v := (.int .i64 q)) rfl rfl rfl ?_))
 rw [hys, mkPt_end (by omega)] at hw5
 exact ⟨congrArg (fun z => Ending.returned (Value.int .i64 z)) (by omega), hw5, hX4⟩

theorem heldStringS_spec {w : World} {G : Pin} {v : Value} {kz : Int} {n : Nat} (hP : Pins G w) (hv : RSl eStr G v (mkTs kz n)) (hk : 0 < kz ∧ kz ≤ 1000000) (hn : n ≤ 1048576) :
  Calls Tryz.prog 9 [v, (.int .i64 kz)].toArray w fun e w' => e = .returned (.int .i64 (kz + n)) ∧ Ext noS G w G w' := by
 refine s_enter (n := 22) Tryz.func9 Tryz.ntmps9 rfl rfl ?_
 have hX0 : Ext noS G w G w := Ext.refl hP
 have hul := mkTs_len kz n
 refine s_seq (c_reg ?_)
 refine qd rfl rfl rfl (r_assign (v := (.int .i64 0)) rfl) (qe (s_then (s_seq (s_seq (c_reg ?_)))))
 refine qd rfl rfl rfl (r_assign (v := (.int .i64 0)) rfl) (qe (s_then ?_))
 refine s_blk (s_loop (fun (k : Nat) (en : Nat → Value) (W : World) => ∃ (env1 : Nat → Value) (j : Nat) (q : Int), en = (upd (upd (upd env1 0 v) 1 (.int .i64 q)) 5 (.int .i64 (j : Int))) ∧ k = n - j ∧ Ext noS G w G W ∧ (j ≤ n) ∧ (q = kz + (j : Int))) _ ⟨_, 0, kz, (packS (x := 5) (packS (x := 1) (pack1 (x := 0) rfl) rfl) rfl), rfl, hX0, Nat.zero_le _, (by omega)⟩ ?_)
 rintro k1 _ w2 ⟨env1, j, q, rfl, hk3, hX4, hj, hq⟩
 refine s_seq (s_seq (c_reg ?_))
 refine qd rfl rfl rfl (r_move (v := (.int .i64 (j : Int))) rfl) (qd rfl rfl rfl (r_move (v := v) rfl) (qd rfl rfl rfl (run_len Tryz.underlying22 (v := v) rfl hv) (qd rfl rfl rfl (r_lss rfl rfl) (qe (s_then ?_)))))
 refine c_ifd (p := ((j : Int) : Int) < ((mkTs kz n).length : Int)) rfl rfl (fun h5 => ?_) (fun h5 => ?_)
 have hge := mkTs_at (kz := kz) (n := n) (j := j) (by omega)
 refine wp_skip (s_then (s_seq ?_))
 refine s_blk (s_seq (s_seq ?_))
 refine c_draw (S := fun wz => Pins G wz) (last := 7) (by kernel_rfl) rfl ?_
 have hl6 : Below w2.heap.size w2 w2.drew := (Below.refl _ _).drew
 have hp7 := hX4.pins.below hl6
 have hX8 := hX4.step hp7 hl6
 refine dr_take (i := 0) rfl rfl rfl (want_none rfl _) (by kernel_rfl) (fun _ _ => r_move (v := v) rfl) hX8.pins (dr_take (i := 1) rfl rfl rfl (want_none rfl _) (by kernel_rfl) (fun _ _ => r_move (v := (.int .i64 (j : Int))) rfl) hX8.pins (dr_take (i := 2) rfl rfl rfl (want_none rfl _) (by kernel_rfl) (fun _ _ => run_idx Tryz.underlying22 sz9 (v := v) rfl rfl hv (by omega) (by omega)) hX8.pins (dr_take (i := 3) rfl rfl rfl (want_none rfl _) (by kernel_rfl) (fun _ hS => run_load_str (r := (mkTs kz n).getD j ByteArray.empty) rfl ag9 (z := (j : Int)) rfl hv hS (by omega) (by omega)) hX8.pins (dr_take (i := 4) rfl rfl rfl (want_none rfl _) (by kernel_rfl) (fun _ _ => r_move (v := (.int .i64 q)) rfl) hX8.pins (dr_one (i := 5) (by kernel_rfl) (drOp1 (i := 5) rfl rfl rfl (want_none rfl _) (o_call (vs := [(.int .i64 q)]) Tryz.func17 nm17 rfl rfl rfl ?_)))))))
 refine Calls.mono (markText_spec (kz := q) hX8.pins (by omega)) ?_
 rintro _ w9 ⟨rfl, hx10⟩
 refine ⟨_, rfl, ?_⟩
 have hX11 := hX8.step hx10.pins hx10.below
 refine ⟨fun _ => hX11.pins, ?_⟩
 refine dr_take (i := 6) rfl rfl rfl (want_none rfl _) (by kernel_rfl) (fun _ _ => r_neqS rfl rfl) hX11.pins (dr_end (by kernel_rfl) (s_then (c_ifn rfl rfl (fun h12 => ?_) (fun h12 => ?_))))
 refine wp_skip (s_then (c_reg ?_))
 refine qd rfl rfl rfl (r_move (v := (.int .i64 q)) rfl) (qd rfl rfl rfl (r_add rfl rfl (by omega)) (qd rfl rfl rfl (r_assign (v := (.int .i64 (q + 1))) rfl) (qe (s_blkN (s_then (c_reg ?_))))))
 refine qd rfl rfl rfl (r_move (v := (.int .i64 (j : Int))) rfl) (qd rfl rfl rfl (r_add rfl rfl (by omega)) (qd rfl rfl rfl (r_assign (v := (.int .i64 ((j : Int) + 1))) rfl) (qe (s_lopN (⟨_, ?_, _, rfl, _, j + 1, q + 1, (packS (x := 5) (packS (x := 1) (pack1 (x := 0) rfl) rfl) rfl), rfl, hX11, (by omega), (by omega)⟩)))))
 omega
 refine s_seq (c_reg ?_)
 refine qd rfl rfl rfl (r_assign (v := (.int .i64 (-1))) rfl) (qe (s_then ?_))
 refine wp_ret (s_ret (c_ret1 (v := (.int .i64 (-1))) rfl rfl rfl ?_))
 exfalso
 rw [hge, hq] at h12
 simp at h12
 refine wp_exit (s_thenE (s_lopE (s_blkE (s_then (s_seq (c_reg ?_))))))
 refine qd rfl rfl rfl (r_move (v := (.int .i64 q)) rfl) (qd rfl rfl rfl (r_assign (v := (.int .i64 q)) rfl) (qe (s_then ?_)))
 exact wp_ret (s_ret (c_ret1 (v := (.int .i64 q)) rfl rfl rfl (⟨congrArg (fun z => Ending.returned (Value.int .i64 z)) (by omega), hX4⟩)))

end PWL
end Go.Proofs.YtianphgdbfekdaaGreatDoor

namespace Go.GL
open Go Go.RowKit
theorem flat_bool : Flat eBool := fun h => h
abbrev LeafB := Value × List Bool
structure LvsB (e : Nat) (G : Pin) (w : World) (lo hi : Nat) (L : List LeafB) : Prop where
 own : ∀ p ∈ L, Own eBool e G w lo p.1 p.2
 hi : ∀ p ∈ L, ∀ k, p.1.ownBlock = some k → k < hi
 ap : L.Pairwise fun p q => Apart p.1.ownBlock q.1.ownBlock
def ApLB (L : List LeafB) (x : Option Nat) : Prop := ∀ p ∈ L, Apart p.1.ownBlock x
section
variable {e lo hi : Nat} {G G' : Pin} {w w' : World} {L L' : List LeafB}
theorem LvsB.nil : LvsB e G w lo hi [] := ⟨fun _ hp => (List.not_mem_nil hp).elim, fun _ hp => (List.not_mem_nil hp).elim, List.Pairwise.nil⟩
theorem LvsB.ge (h : LvsB e G w lo hi L) : ∀ p ∈ L, ∀ k, p.1.ownBlock = some k → lo ≤ k ∧ k < w.heap.size := fun p hp k hk => (h.own p hp).lt k hk
theorem LvsB.map (h : LvsB e G w lo hi L) (f : ∀ p ∈ L, Own eBool e G w lo p.1 p.2 → Own eBool e G' w' lo p.1 p.2) : LvsB e G' w' lo hi L := ⟨fun p hp => f p hp (h.own p hp), h.hi, h.ap⟩
theorem LvsB.below (h : LvsB e G w lo hi L) (hb : Below w.heap.size w w') : LvsB e G w' lo hi L := h.map fun _ _ ho => ho.below hb
theorem LvsB.ext (h : LvsB e G w lo hi L) (hx : Ext noS G w G' w') : LvsB e G' w' lo hi L := h.map fun _ _ ho => ho.ext hx
theorem LvsB.extS {S : Nat → Prop} (h : LvsB e G w lo hi L) (hx : Ext S G w G' w') (hS : ∀ k, lo ≤ k → k < hi → ¬ S k) : LvsB e G' w' lo hi L :=
 h.map fun p hp ho => ho.extS hx fun k hk => hS k (ho.lt k hk).1 (h.hi p hp k hk)
theorem LvsB.kept {row : Option Nat} (h : LvsB e G w lo hi L) (hg : w.grownBy w' row) (ha : ApLB L row) : LvsB e G w' lo hi L := h.map fun p hp ho => ho.keptA hg (ha p hp)
theorem LvsB.more {b : Nat} (h : LvsB e G w lo hi L) (hl : Pin.le G G') (hf : ∀ k o u, G' k o u → G k o u ∨ k = b) (ha : ApLB L (some b)) : LvsB e G' w lo hi L := h.map fun p hp ho => ho.moreA hl hf (ha p hp)
theorem LvsB.moreO {v : Value} (h : LvsB e G w lo hi L) (hl : Pin.le G G') (hf : ∀ k o u, G' k o u → G k o u ∨ v.ownBlock = some k) (ha : ApLB L v.ownBlock) : LvsB e G' w lo hi L := h.map fun p hp ho => ho.moreO hl hf (ha p hp)
theorem LvsB.anti (h : LvsB e G' w lo hi L) (hg : Pin.le G G') : LvsB e G w lo hi L := h.map fun _ _ ho => ho.anti flat_bool hg
theorem LvsB.top (h : LvsB e G w lo hi L) : LvsB e G w lo w.heap.size L := ⟨h.own, fun p hp k hk => ((h.own p hp).lt k hk).2, h.ap⟩
theorem LvsB.add {u : Value} {xs : List Bool} (h : LvsB e G w lo w.heap.size L) (ho : Own eBool e G w lo u xs) (ha : ApLB L u.ownBlock) : LvsB e G w lo w.heap.size (L ++ [(u, xs)]) := by
 refine ⟨fun p hp => ?_, fun p hp k hk => ?_, ?_⟩
 ·rcases List.mem_append.1 hp with h1 | h1
  ·exact h.own p h1
  ·simp at h1; subst h1; exact ho
 ·rcases List.mem_append.1 hp with h1 | h1
  ·exact h.hi p h1 k hk
  ·simp at h1; subst h1; exact (ho.lt k hk).2
 ·refine List.pairwise_append.2 ⟨h.ap, by simp, fun a ha' b hb => ?_⟩
  simp at hb; subst hb; exact ha a ha'
theorem ApLB.add {u : Value} {xs : List Bool} {x : Option Nat} (h : ApLB L x) (hu : Apart u.ownBlock x) : ApLB (L ++ [(u, xs)]) x := fun p hp => by
 rcases List.mem_append.1 hp with h1 | h1
 ·exact h p h1
 ·simp at h1; subst h1; exact hu
theorem ApLB.fresh {x : Option Nat} (h : LvsB e G w lo hi L) (hx : ∀ k, x = some k → w.heap.size ≤ k) : ApLB L x := fun p hp k hk hk' => by
 have h1 := ((h.own p hp).lt k hk).2; have h2 := hx k hk'; omega
theorem ApLB.app {u v : Value} (h : LvsB e G w lo hi L) (ha : ApLB L u.ownBlock) (hw : v.ownBlock = u.ownBlock ∨ ∃ k, v.ownBlock = some k ∧ w.heap.size ≤ k) : ApLB L v.ownBlock := fun p hp =>
 app_ne_own (ha p hp) hw (fun k hk => (h.own p hp).lt k hk)
theorem LvsB.step {A B : List LeafB} {u : Value} {xs ys : List Bool} (h : LvsB e G w lo hi (A ++ (u, xs) :: B)) (ho : Own eBool e G w' lo u ys) (hg : w.grownBy w' u.ownBlock) : LvsB e G w' lo hi (A ++ (u, ys) :: B) := by
 have hp := List.pairwise_append.1 h.ap
 have hq := List.pairwise_cons.1 hp.2.1
 refine ⟨fun p hm => ?_, fun p hm k hk => ?_, ?_⟩
 ·rcases List.mem_append.1 hm with h1 | h1
  ·exact (h.own p (List.mem_append_left _ h1)).keptA hg (hp.2.2 p h1 _ List.mem_cons_self)
  ·rcases List.mem_cons.1 h1 with rfl | h2
   ·exact ho
   ·exact (h.own p (List.mem_append_right _ (List.mem_cons_of_mem _ h2))).keptA hg (hq.1 p h2).symm
 ·rcases List.mem_append.1 hm with h1 | h1
  ·exact h.hi p (List.mem_append_left _ h1) k hk
  ·rcases List.mem_cons.1 h1 with rfl | h2
   ·exact h.hi (u, xs) (List.mem_append_right _ List.mem_cons_self) k hk
   ·exact h.hi p (List.mem_append_right _ (List.mem_cons_of_mem _ h2)) k hk
 ·refine List.pairwise_append.2 ⟨hp.1, List.pairwise_cons.2 ⟨hq.1, hq.2⟩, fun a ha b hb => ?_⟩
  rcases List.mem_cons.1 hb with rfl | h2
  ·exact hp.2.2 a ha (u, xs) List.mem_cons_self
  ·exact hp.2.2 a ha b (List.mem_cons_of_mem _ h2)
def GLvB (G : Pin) (w : World) (L : List LeafB) : Pin := fun b o u => G b o u ∨ ((∃ p ∈ L, p.1.ownBlock = some b) ∧ w.cell? ⟨b, o, none⟩ = some u)
theorem GLvB.le : Pin.le G (GLvB G w L) := fun _ _ _ h => Or.inl h
theorem GLvB.pins (h : Pins G w) : Pins (GLvB G w L) w := fun b o u hu => by
 rcases hu with hu | hu
 ·exact h b o u hu
 ·exact hu.2
theorem LvsB.read (h : LvsB e G w lo hi L) {p : LeafB} (hp : p ∈ L) : RSl eBool (GLvB G w L) p.1 p.2 :=
 (h.own p hp).read.mono fun b o u hu => by
  rcases hu with h1 | h1
  ·exact Or.inl h1
  ·exact Or.inr ⟨⟨p, hp, h1.1⟩, h1.2⟩
end

def lvG (us : List Value) (rows : List (List Bool)) : List LeafB := us.zip rows
theorem lvG_snoc {us : List Value} {rows : List (List Bool)} (u : Value) (r : List Bool) (h : us.length = rows.length) : lvG (us ++ [u]) (rows ++ [r]) = lvG us rows ++ [(u, r)] := by
 unfold lvG; rw [List.zip_append h]; rfl
structure DGrid (en e : Nat) (G : Pin) (w : World) (lo hi : Nat) (v : Value) (rows : List (List Bool)) : Prop where
 ex : ∃ us, us.length = rows.length ∧ Own eVal en G w lo v us ∧ (∀ k, v.ownBlock = some k → k < hi) ∧ LvsB e G w lo hi (lvG us rows) ∧ ApLB (lvG us rows) v.ownBlock
section
variable {en e lo hi : Nat} {G G' : Pin} {w w' : World} {v : Value} {rows : List (List Bool)}
theorem DGrid.below (h : DGrid en e G w lo hi v rows) (hb : Below w.heap.size w w') : DGrid en e G w' lo hi v rows := by
 obtain ⟨ps, h1, h2, h3, h4, h5⟩ := h.ex
 exact ⟨⟨ps, h1, h2.below hb, h3, h4.below hb, h5⟩⟩
theorem DGrid.ext (h : DGrid en e G w lo hi v rows) (hx : Ext noS G w G' w') : DGrid en e G' w' lo hi v rows := by
 obtain ⟨ps, h1, h2, h3, h4, h5⟩ := h.ex
 exact ⟨⟨ps, h1, h2.ext hx, h3, h4.ext hx, h5⟩⟩
theorem DGrid.extS {S : Nat → Prop} (h : DGrid en e G w lo hi v rows) (hx : Ext S G w G' w') (hS : ∀ k, lo ≤ k → k < hi → ¬ S k) : DGrid en e G' w' lo hi v rows := by
 obtain ⟨ps, h1, h2, h3, h4, h5⟩ := h.ex
 exact ⟨⟨ps, h1, h2.extS hx (fun k hk => hS k (h2.lt k hk).1 (h3 k hk)), h3, h4.extS hx hS, h5⟩⟩
theorem DGrid.more {b : Nat} (h : DGrid en e G w lo hi v rows) (hl : Pin.le G G') (hf : ∀ k o u, G' k o u → G k o u ∨ k = b) (hb : hi ≤ b ∨ b < lo) : DGrid en e G' w lo hi v rows := by
 obtain ⟨ps, h1, h2, h3, h4, h5⟩ := h.ex
 exact ⟨⟨ps, h1, h2.moreA hl hf (fun k a c => by cases c; have := h3 _ a; have := (h2.lt _ a).1; omega), h3, h4.more hl hf (fun p hp k a c => by cases c; have := h4.hi p hp _ a; have := (h4.ge p hp _ a).1; omega), h5⟩⟩
theorem DGrid.kept {b : Nat} (h : DGrid en e G w lo hi v rows) (hg : w.grownBy w' (some b)) (hb : hi ≤ b ∨ b < lo) : DGrid en e G w' lo hi v rows := by
 obtain ⟨ps, h1, h2, h3, h4, h5⟩ := h.ex
 exact ⟨⟨ps, h1, h2.keptA hg (fun k a c => by cases c; have := h3 _ a; have := (h2.lt _ a).1; omega), h3, h4.kept hg (fun p hp k a c => by cases c; have := h4.hi p hp _ a; have := (h4.ge p hp _ a).1; omega), h5⟩⟩
theorem DGrid.keptO {u : Value} (h : DGrid en e G w lo hi v rows) (hg : w.grownBy w' u.ownBlock) (hb : ∀ b, u.ownBlock = some b → hi ≤ b ∨ b < lo) : DGrid en e G w' lo hi v rows := by
 obtain ⟨ps, h1, h2, h3, h4, h5⟩ := h.ex
 exact ⟨⟨ps, h1, h2.keptA hg (fun k a c => by have := hb k c; have := h3 _ a; have := (h2.lt _ a).1; omega), h3, h4.kept hg (fun p hp k a c => by have := hb k c; have := h4.hi p hp _ a; have := (h4.ge p hp _ a).1; omega), h5⟩⟩
theorem DGrid.one (h : DGrid en e G w lo hi v rows) : v.oneCell' = true := by
 obtain ⟨ps, h1, h2, h3, h4, h5⟩ := h.ex
 exact h2.one
theorem DGrid.anti (h : DGrid en e G' w lo hi v rows) (hg : Pin.le G G') : DGrid en e G w lo hi v rows := by
 obtain ⟨ps, h1, h2, h3, h4, h5⟩ := h.ex
 exact ⟨⟨ps, h1, h2.anti flat_val hg, h3, h4.anti hg, h5⟩⟩
theorem DGrid.read (h : DGrid en e G w lo hi v rows) (hP : Pins G w) : ∃ G', Pin.le G G' ∧ Pins G' w ∧ RSl (eSl eBool) G' v rows ∧ ∀ b o x, G' b o x → G b o x ∨ lo ≤ b := by
 obtain ⟨us, h1, h2, h3, h4, h5⟩ := h.ex
 refine ⟨GLvB (Gadd G w v) w (lvG us rows), Pin.le_trans (Gadd.le _ _ _) GLvB.le, GLvB.pins (Gadd.pins hP v), (h2.read.mono GLvB.le).conv h1.symm rfl fun i u r cs hp hn hr => ?_, fun b o x hx => ?_⟩
 rotate_left
 ·rcases hx with (a | a) | a
  ·exact Or.inl a
  ·exact Or.inr (h2.lt b a.1).1
  ·obtain ⟨⟨p, hp, hk⟩, _⟩ := a
   exact Or.inr ((h4.own p hp).lt b hk).1
 have hm : (u, r) ∈ lvG us rows := List.mem_of_getElem? (i := i) (by unfold lvG; rw [List.getElem?_zip_eq_some]; exact ⟨hp, hn⟩)
 obtain ⟨rfl, _⟩ := hr
 exact ⟨_, rfl, (h4.read hm).mono fun b o u hu => by
   rcases hu with a | a
   ·exact Or.inl (Or.inl a)
   ·exact Or.inr a⟩
theorem DGrid.give (h : DGrid en e G' w' w.heap.size w'.heap.size v rows) (hx : Ext noS G w G' w') : ∃ G2, RSl (eSl eBool) G2 v rows ∧ Ext noS G w G2 w' := by
 obtain ⟨G2, hl, hp, hr, hf⟩ := h.read hx.pins
 exact ⟨G2, hr, hx.promise hl hp hf (Nat.le_refl _)⟩
theorem DGrid.leaf (h : DGrid en e G w lo hi v rows) {i : Nat} (hi' : i < rows.length) : ∃ us, us.length = rows.length ∧ Own eVal en G w lo v us ∧ Own eBool e G w lo (us.getD i default) (rows.getD i []) ∧ (∀ k, (us.getD i default).ownBlock = some k → lo ≤ k ∧ k < hi) ∧
  ∀ {w' : World} {ys : List Bool}, Own eBool e G w' lo (us.getD i default) ys → w.grownBy w' (us.getD i default).ownBlock → DGrid en e G w' lo hi v (rows.set i ys) := by
 obtain ⟨us, h1, h2, h3, h4, h5⟩ := h.ex
 have hu : i < us.length := by omega
 have e1 : us.getD i default = us[i] := by simp [List.getD, hu]
 have e2 : rows.getD i [] = rows[i] := by simp [List.getD, hi']
 have hm : (us[i], rows[i]) ∈ lvG us rows := List.mem_of_getElem? (i := i) (by unfold lvG; rw [List.getElem?_zip_eq_some]; exact ⟨List.getElem?_eq_getElem hu, List.getElem?_eq_getElem hi'⟩)
 have hown := h4.own _ hm
 refine ⟨us, h1, h2, by rw [e1, e2]; exact hown, fun k hk => by rw [e1] at hk; exact ⟨(hown.lt k hk).1, h4.hi _ hm k hk⟩, fun {w'} {ys} ho hg => ?_⟩
 rw [e1] at ho hg
 have hs : lvG us rows = lvG (us.take i) (rows.take i) ++ (us[i], rows[i]) :: lvG (us.drop (i + 1)) (rows.drop (i + 1)) := by
  unfold lvG
  conv => lhs; rw [← List.take_append_drop i us, ← List.take_append_drop i rows]
  rw [List.zip_append (by simp; omega), List.drop_eq_getElem_cons hu, List.drop_eq_getElem_cons hi']
  rfl
 have hs2 : lvG us (rows.set i ys) = lvG (us.take i) (rows.take i) ++ (us[i], ys) :: lvG (us.drop (i + 1)) (rows.drop (i + 1)) := by
  unfold lvG
  have e3 : rows.set i ys = rows.take i ++ ys :: rows.drop (i + 1) := List.set_eq_take_append_cons_drop .. |>.trans (if_pos hi')
  rw [e3]
  conv => lhs; rw [← List.take_append_drop i us]
  rw [List.zip_append (by simp; omega), List.drop_eq_getElem_cons hu]
  rfl
 rw [hs] at h4 h5
 refine ⟨us, by simp [h1], h2.keptA hg (h5 _ (List.mem_append_right _ List.mem_cons_self)).symm, h3, by rw [hs2]; exact h4.step ho hg, fun p hp => ?_⟩
 rw [hs2] at hp
 rcases List.mem_append.1 hp with hp | hp
 ·exact h5 p (List.mem_append_left _ hp)
 ·rcases List.mem_cons.1 hp with rfl | hp
  ·exact h5 (us[i], rows[i]) (List.mem_append_right _ List.mem_cons_self)
  ·exact h5 p (List.mem_append_right _ (List.mem_cons_of_mem _ hp))
theorem DGrid.make {us : List Value} (h1 : us.length = rows.length) (h2 : Own eVal en G w lo v us) (h4 : LvsB e G w lo w.heap.size (lvG us rows)) (h5 : ApLB (lvG us rows) v.ownBlock) : DGrid en e G w lo w.heap.size v rows := ⟨⟨us, h1, h2, fun k hk => (h2.lt k hk).2, h4, h5⟩⟩
end
end Go.GL

namespace Go.GL
open Go Go.RowKit
def eS2 : Elt (ByteArray × ByteArray) where
 size := 2
 rep := fun _ cs n => cs = [.string n.1, .string n.2]
 mono := fun _ h => h
 len := fun h => by rw [h]; rfl
 one := fun h x hx => by rw [h] at hx; simp at hx; rcases hx with rfl | rfl <;> rfl
end Go.GL

set_option maxRecDepth 20000
set_option maxHeartbeats 2000000
namespace Go.Proofs.YtianphgdbfekdaaGreatDoor
namespace PT3
open Go.RowKit Go.GL Go.Proofs

theorem l1In_spec {w : World} {G : Pin} {x a b : Int} (hP : Pins G w) :
  Calls Tryz.prog 36 [(.int .i64 x), (.int .i64 a), (.int .i64 b)].toArray w fun e w' => e = .returned (.bool (decide (a ≤ x ∧ x ≤ b))) ∧ w' = w := by
 refine s_enter (n := 15) Tryz.func36 Tryz.ntmps36 rfl rfl ?_
 have hX0 : Ext noS G w G w := Ext.refl hP
 refine s_seq (c_reg ?_)
 refine qd rfl rfl rfl (r_assign (v := (.bool false)) rfl) (qe (s_then (s_seq (c_reg ?_))))
 refine qd rfl rfl rfl (r_move (v := (.int .i64 x)) rfl) (qd rfl rfl rfl (r_move (v := (.int .i64 a)) rfl) (qd rfl rfl rfl (r_geq rfl rfl) (qd rfl rfl rfl (r_move (v := (.bool (decide ((a : Int) ≤ x)))) rfl) (qbd (p := (a : Int) ≤ x) (t := 10) rfl (fun h1 => ?_) (fun h1 => ?_)))))
 refine qdg rfl rfl rfl rfl rfl rfl (r_move (v := (.int .i64 x)) rfl) (qdg rfl rfl rfl rfl rfl rfl (r_move (v := (.int .i64 b)) rfl) (qdg rfl rfl rfl rfl rfl rfl (r_leq rfl rfl) (qd rfl rfl rfl (r_pickT (v := (.bool (decide ((x : Int) ≤ b)))) rfl rfl) (qd rfl rfl rfl (r_assign (v := (.bool (decide ((x : Int) ≤ b)))) rfl) (qe (s_then ?_))))))
 exact wp_ret (s_ret (c_ret1 (v := (.bool (decide ((x : Int) ≤ b)))) rfl rfl rfl (⟨congrArg (fun z => Ending.returned (Value.bool z)) (decide_eq_decide.2 (by omega)), rfl⟩)))
 refine qs rfl rfl rfl rfl rfl rfl (qs rfl rfl rfl rfl rfl rfl (qs rfl rfl rfl rfl rfl rfl (qd rfl rfl rfl (r_pickF (v := (.bool false)) rfl rfl) (qd rfl rfl rfl (r_assign (v := (.bool false)) rfl) (qe (s_then ?_))))))
 exact wp_ret (s_ret (c_ret1 (v := (.bool false)) rfl rfl rfl (⟨congrArg (fun z => Ending.returned (Value.bool z)) ((decide_eq_false (by omega)).symm), rfl⟩)))

def NuP (n : Int) : Prop := ∀ {w : World} {G : Pin}, Pins G w → Calls Tryz.prog 56 [.int .i64 n].toArray w fun e w' => ∃ G', e = .returned (.string (numT n)) ∧ Ext noS G w G' w'

theorem l1Num_step {w : World} {G : Pin} {n : Int} (hP : Pins G w) (h0 : 0 ≤ n ∧ n ≤ 999999) (ih : ∀ m : Int, 0 ≤ m → m < n → NuP m) :
  Calls Tryz.prog 56 [(.int .i64 n)].toArray w fun e w' => ∃ G', e = .returned (.string (numT n)) ∧ Ext noS G w G' w' := by
 refine s_enter (n := 25) Tryz.func56 Tryz.ntmps56 rfl rfl ?_
 have hX0 : Ext noS G w G w := Ext.refl hP
 have hdz : (⟨#[48, 49, 50, 51, 52, 53, 54, 55, 56, 57]⟩ : ByteArray).size = 10 := rfl
 have hnz := (numT_size (n := n / 10) ⟨by omega, by omega⟩).2
 refine s_seq (c_reg ?_)
 refine qd rfl rfl rfl (r_assign (v := (.string (⟨#[]⟩ : ByteArray))) rfl) (qe (s_then (s_seq (s_seq (c_reg ?_)))))
 refine qd rfl rfl rfl (r_move (v := (.int .i64 n)) rfl) (qd rfl rfl rfl (r_lss rfl rfl) (qe (s_then ?_)))
 refine c_ifd (p := (n : Int) < 0) rfl rfl (fun h1 => ?_) (fun h1 => ?_)
 refine s_seq (c_reg ?_)
 refine qd rfl rfl rfl (r_move (v := (.int .i64 n)) rfl) (qd rfl rfl rfl (r_neg rfl (by omega)) (q1 rfl rfl rfl (o_call (vs := [(.int .i64 (-n))]) Tryz.func56 nm56 rfl rfl rfl ?_)))
 refine Calls.mono (ih (-n) (by omega) (by omega) hX0.pins) ?_
 rintro _ w3 ⟨G2, rfl, hx4⟩
 refine ⟨_, rfl, ?_⟩
 have hX5 := hX0.tr hx4
 have hm6 : (⟨#[45]⟩ : ByteArray).size = 1 := rfl
 have hm7 : ((⟨#[45]⟩ : ByteArray) ++ (numT (-n))).size = (⟨#[45]⟩ : ByteArray).size + (numT (-n)).size := ByteArray.size_append
 refine qd rfl rfl rfl (r_addS rfl rfl (by omega)) (qd rfl rfl rfl (r_assign (v := (.string ((⟨#[45]⟩ : ByteArray) ++ (numT (-n))))) rfl) (qe (s_then ?_)))
 exact wp_ret (s_ret (c_ret1 (v := (.string ((⟨#[45]⟩ : ByteArray) ++ (numT (-n))))) rfl rfl rfl (⟨_, congrArg (fun z => Ending.returned (Value.string z)) ((by exfalso; omega)), hX5⟩)))
 refine wp_skip (s_then (s_seq (s_seq (c_reg ?_))))
 refine qd rfl rfl rfl (r_move (v := (.int .i64 n)) rfl) (qd rfl rfl rfl (r_lss rfl rfl) (qe (s_then ?_)))
 refine c_ifd (p := (n : Int) < 10) rfl rfl (fun h8 => ?_) (fun h8 => ?_)
 refine s_seq (c_reg ?_)
 refine qd rfl rfl rfl (r_move (v := (.int .i64 n)) rfl) (qd rfl rfl rfl (r_move (v := (.int .i64 n)) rfl) (qd rfl rfl rfl (r_add rfl rfl (by omega)) ?_))
 have hm9 : ((⟨#[48, 49, 50, 51, 52, 53, 54, 55, 56, 57]⟩ : ByteArray).extract (n).toNat (n + 1).toNat).size = min (n + 1).toNat (⟨#[48, 49, 50, 51, 52, 53, 54, 55, 56, 57]⟩ : ByteArray).size - (n).toNat := ByteArray.size_extract
 refine qd rfl rfl rfl (r_cutB Tryz.underlying9 rfl rfl rfl (by omega) (by omega) (by omega)) (qd rfl rfl rfl (r_assign (v := (.string ((⟨#[48, 49, 50, 51, 52, 53, 54, 55, 56, 57]⟩ : ByteArray).extract (n).toNat (n + 1).toNat))) rfl) (qe (s_then ?_)))
 exact wp_ret (s_ret (c_ret1 (v := (.string ((⟨#[48, 49, 50, 51, 52, 53, 54, 55, 56, 57]⟩ : ByteArray).extract (n).toNat (n + 1).toNat))) rfl rfl rfl (⟨_, congrArg (fun z => Ending.returned (Value.string z)) (numT_dig1 ⟨by omega, by omega⟩), hX0⟩)))
 refine wp_skip (s_then (s_seq ?_))
 refine c_draw (S := fun wz => Pins G wz) (last := 11) (by kernel_rfl) rfl ?_
 have hl10 : Below w.heap.size w w.drew := (Below.refl _ _).drew
 have hp11 := hX0.pins.below hl10
 have hX12 := hX0.step hp11 hl10
 refine dr_take (i := 0) rfl rfl rfl (want_none rfl _) (by kernel_rfl) (fun _ _ => r_move (v := (.int .i64 n)) rfl) hX12.pins (dr_take (i := 1) rfl rfl rfl (want_none rfl _) (by kernel_rfl) (fun _ _ => r_quo rfl rfl (by omega) (by omega) (by omega)) hX12.pins (dr_take (i := 3) rfl rfl rfl (want_none rfl _) (by kernel_rfl) (fun _ _ => r_move (v := (.int .i64 n)) rfl) hX12.pins (dr_take (i := 4) rfl rfl rfl (want_none rfl _) (by kernel_rfl) (fun _ _ => r_rem rfl rfl (by omega) (by omega)) hX12.pins (dr_take (i := 5) rfl rfl rfl (want_none rfl _) (by kernel_rfl) (fun _ _ => r_move (v := (.int .i64 n)) rfl) hX12.pins (dr_take (i := 6) rfl rfl rfl (want_none rfl _) (by kernel_rfl) (fun _ _ => r_rem rfl rfl (by omega) (by omega)) hX12.pins (dr_take (i := 7) rfl rfl rfl (want_none rfl _) (by kernel_rfl) (fun _ _ => r_add rfl rfl (by omega)) hX12.pins ?_))))))
 have hm13 : ((⟨#[48, 49, 50, 51, 52, 53, 54, 55, 56, 57]⟩ : ByteArray).extract (n % 10).toNat ((n % 10) + 1).toNat).size = min ((n % 10) + 1).toNat (⟨#[48, 49, 50, 51, 52, 53, 54, 55, 56, 57]⟩ : ByteArray).size - (n % 10).toNat := ByteArray.size_extract
 refine dr_take (i := 8) rfl rfl rfl (want_none rfl _) (by kernel_rfl) (fun _ _ => r_cutB Tryz.underlying9 rfl rfl rfl (by omega) (by omega) (by omega)) hX12.pins (dr_one (i := 2) (by kernel_rfl) (drOp1 (i := 2) rfl rfl rfl (want_none rfl _) (o_call (vs := [(.int .i64 (n / 10))]) Tryz.func56 nm56 rfl rfl rfl ?_)))
 refine Calls.mono (ih (n / 10) (by omega) (by omega) hX12.pins) ?_
 rintro _ w15 ⟨G14, rfl, hx16⟩
 refine ⟨_, rfl, ?_⟩
 have hX17 := hX12.tr hx16
 refine ⟨fun _ => (Pins.of_le hX17.pins hx16.le), ?_⟩
 have hm18 : ((numT (n / 10)) ++ ((⟨#[48, 49, 50, 51, 52, 53, 54, 55, 56, 57]⟩ : ByteArray).extract (n % 10).toNat ((n % 10) + 1).toNat)).size = (numT (n / 10)).size + ((⟨#[48, 49, 50, 51, 52, 53, 54, 55, 56, 57]⟩ : ByteArray).extract (n % 10).toNat ((n % 10) + 1).toNat).size := ByteArray.size_append
 exact dr_take (i := 9) rfl rfl rfl (want_none rfl _) (by kernel_rfl) (fun _ _ => r_addS rfl rfl (by omega)) (Pins.of_le hX17.pins hx16.le) (dr_take (i := 10) rfl rfl rfl (want_none rfl _) (by kernel_rfl) (fun _ _ => r_assign (v := (.string ((numT (n / 10)) ++ ((⟨#[48, 49, 50, 51, 52, 53, 54, 55, 56, 57]⟩ : ByteArray).extract (n % 10).toNat ((n % 10) + 1).toNat)))) rfl) (Pins.of_le hX17.pins hx16.le) (dr_end (by kernel_rfl) (s_then (wp_ret (s_ret (c_ret1 (v := (.string ((numT (n / 10)) ++ ((⟨#[48, 49, 50, 51, 52, 53, 54, 55, 56, 57]⟩ : ByteArray).extract (n % 10).toNat ((n % 10) + 1).toNat)))) rfl rfl rfl (⟨_, congrArg (fun z => Ending.returned (Value.string z)) (numT_step (by omega)), hX17⟩)))))))

theorem l1Num_pos : ∀ (k : Nat) (n : Int), n ≤ k → 0 ≤ n → n ≤ 999999 → NuP n
 | 0, n, hk, h0, h1 => fun hP => l1Num_step hP ⟨h0, h1⟩ fun m hm hn => by omega
 | k + 1, n, hk, h0, h1 => fun hP => l1Num_step hP ⟨h0, h1⟩ fun m hm hn => l1Num_pos k m (by omega) hm (by omega)
theorem l1Num_nn (n : Int) (h0 : 0 ≤ n) (h1 : n ≤ 999999) : NuP n := l1Num_pos n.toNat n (by omega) h0 h1

theorem l1Num_neg {w : World} {G : Pin} {n : Int} (hP : Pins G w) (h0 : -999999 ≤ n ∧ n < 0) :
  Calls Tryz.prog 56 [(.int .i64 n)].toArray w fun e w' => ∃ G', e = .returned (.string (numT n)) ∧ Ext noS G w G' w' := by
 refine s_enter (n := 25) Tryz.func56 Tryz.ntmps56 rfl rfl ?_
 have hX0 : Ext noS G w G w := Ext.refl hP
 have hdz : (⟨#[48, 49, 50, 51, 52, 53, 54, 55, 56, 57]⟩ : ByteArray).size = 10 := rfl
 have hnz := (numT_size (n := -n) ⟨by omega, by omega⟩).2
 refine s_seq (c_reg ?_)
 refine qd rfl rfl rfl (r_assign (v := (.string (⟨#[]⟩ : ByteArray))) rfl) (qe (s_then (s_seq (s_seq (c_reg ?_)))))
 refine qd rfl rfl rfl (r_move (v := (.int .i64 n)) rfl) (qd rfl rfl rfl (r_lss rfl rfl) (qe (s_then ?_)))
 refine c_ifd (p := (n : Int) < 0) rfl rfl (fun h1 => ?_) (fun h1 => ?_)
 refine s_seq (c_reg ?_)
 refine qd rfl rfl rfl (r_move (v := (.int .i64 n)) rfl) (qd rfl rfl rfl (r_neg rfl (by omega)) (q1 rfl rfl rfl (o_call (vs := [(.int .i64 (-n))]) Tryz.func56 nm56 rfl rfl rfl ?_)))
 refine Calls.mono (l1Num_nn (-n) (by omega) (by omega) hX0.pins) ?_
 rintro _ w3 ⟨G2, rfl, hx4⟩
 refine ⟨_, rfl, ?_⟩
 have hX5 := hX0.tr hx4
 have hm6 : (⟨#[45]⟩ : ByteArray).size = 1 := rfl
 have hm7 : ((⟨#[45]⟩ : ByteArray) ++ (numT (-n))).size = (⟨#[45]⟩ : ByteArray).size + (numT (-n)).size := ByteArray.size_append
 refine qd rfl rfl rfl (r_addS rfl rfl (by omega)) (qd rfl rfl rfl (r_assign (v := (.string ((⟨#[45]⟩ : ByteArray) ++ (numT (-n))))) rfl) (qe (s_then ?_)))
 exact wp_ret (s_ret (c_ret1 (v := (.string ((⟨#[45]⟩ : ByteArray) ++ (numT (-n))))) rfl rfl rfl (⟨_, congrArg (fun z => Ending.returned (Value.string z)) (by first | exact numT_neg (by omega) | (exfalso; omega)), hX5⟩)))
 refine wp_skip (s_then (s_seq (s_seq (c_reg ?_))))
 refine qd rfl rfl rfl (r_move (v := (.int .i64 n)) rfl) (qd rfl rfl rfl (r_lss rfl rfl) (qe (s_then ?_)))
 refine c_ifd (p := (n : Int) < 10) rfl rfl (fun h8 => ?_) (fun h8 => ?_)
 refine s_seq (c_reg ?_)
 refine qd rfl rfl rfl (r_move (v := (.int .i64 n)) rfl) (qd rfl rfl rfl (r_move (v := (.int .i64 n)) rfl) (qd rfl rfl rfl (r_add rfl rfl (by omega)) ?_))
 have hm9 : ((⟨#[48, 49, 50, 51, 52, 53, 54, 55, 56, 57]⟩ : ByteArray).extract (n).toNat (n + 1).toNat).size = min (n + 1).toNat (⟨#[48, 49, 50, 51, 52, 53, 54, 55, 56, 57]⟩ : ByteArray).size - (n).toNat := ByteArray.size_extract
 refine qd rfl rfl rfl (r_cutB Tryz.underlying9 rfl rfl rfl (by omega) (by omega) (by omega)) (qd rfl rfl rfl (r_assign (v := (.string ((⟨#[48, 49, 50, 51, 52, 53, 54, 55, 56, 57]⟩ : ByteArray).extract (n).toNat (n + 1).toNat))) rfl) (qe (s_then ?_)))
 exact wp_ret (s_ret (c_ret1 (v := (.string ((⟨#[48, 49, 50, 51, 52, 53, 54, 55, 56, 57]⟩ : ByteArray).extract (n).toNat (n + 1).toNat))) rfl rfl rfl (⟨_, congrArg (fun z => Ending.returned (Value.string z)) (by first | exact numT_neg (by omega) | (exfalso; omega)), hX0⟩)))
 refine wp_skip (s_then (s_seq ?_))
 refine c_draw (S := fun wz => Pins G wz) (last := 11) (by kernel_rfl) rfl ?_
 have hl10 : Below w.heap.size w w.drew := (Below.refl _ _).drew
 have hp11 := hX0.pins.below hl10
 have hX12 := hX0.step hp11 hl10
 refine dr_take (i := 0) rfl rfl rfl (want_none rfl _) (by kernel_rfl) (fun _ _ => r_move (v := (.int .i64 n)) rfl) hX12.pins (dr_take (i := 1) rfl rfl rfl (want_none rfl _) (by kernel_rfl) (fun _ _ => r_quo rfl rfl (by omega) (by omega) (by omega)) hX12.pins (dr_take (i := 3) rfl rfl rfl (want_none rfl _) (by kernel_rfl) (fun _ _ => r_move (v := (.int .i64 n)) rfl) hX12.pins (dr_take (i := 4) rfl rfl rfl (want_none rfl _) (by kernel_rfl) (fun _ _ => r_rem rfl rfl (by omega) (by omega)) hX12.pins (dr_take (i := 5) rfl rfl rfl (want_none rfl _) (by kernel_rfl) (fun _ _ => r_move (v := (.int .i64 n)) rfl) hX12.pins (dr_take (i := 6) rfl rfl rfl (want_none rfl _) (by kernel_rfl) (fun _ _ => r_rem rfl rfl (by omega) (by omega)) hX12.pins (dr_take (i := 7) rfl rfl rfl (want_none rfl _) (by kernel_rfl) (fun _ _ => r_add rfl rfl (by omega)) hX12.pins ?_))))))
 have hm13 : ((⟨#[48, 49, 50, 51, 52, 53, 54, 55, 56, 57]⟩ : ByteArray).extract (n % 10).toNat ((n % 10) + 1).toNat).size = min ((n % 10) + 1).toNat (⟨#[48, 49, 50, 51, 52, 53, 54, 55, 56, 57]⟩ : ByteArray).size - (n % 10).toNat := ByteArray.size_extract
 refine dr_take (i := 8) rfl rfl rfl (want_none rfl _) (by kernel_rfl) (fun _ _ => r_cutB Tryz.underlying9 rfl rfl rfl (by omega) (by omega) (by omega)) hX12.pins (dr_one (i := 2) (by kernel_rfl) (drOp1 (i := 2) rfl rfl rfl (want_none rfl _) (o_call (vs := [(.int .i64 (n / 10))]) Tryz.func56 nm56 rfl rfl rfl ?_)))
 refine Calls.mono (l1Num_nn (n / 10) (by omega) (by omega) hX12.pins) ?_
 rintro _ w15 ⟨G14, rfl, hx16⟩
 refine ⟨_, rfl, ?_⟩
 have hX17 := hX12.tr hx16
 refine ⟨fun _ => (Pins.of_le hX17.pins hx16.le), ?_⟩
 have hm18 : ((numT (n / 10)) ++ ((⟨#[48, 49, 50, 51, 52, 53, 54, 55, 56, 57]⟩ : ByteArray).extract (n % 10).toNat ((n % 10) + 1).toNat)).size = (numT (n / 10)).size + ((⟨#[48, 49, 50, 51, 52, 53, 54, 55, 56, 57]⟩ : ByteArray).extract (n % 10).toNat ((n % 10) + 1).toNat).size := ByteArray.size_append
 exact dr_take (i := 9) rfl rfl rfl (want_none rfl _) (by kernel_rfl) (fun _ _ => r_addS rfl rfl (by omega)) (Pins.of_le hX17.pins hx16.le) (dr_take (i := 10) rfl rfl rfl (want_none rfl _) (by kernel_rfl) (fun _ _ => r_assign (v := (.string ((numT (n / 10)) ++ ((⟨#[48, 49, 50, 51, 52, 53, 54, 55, 56, 57]⟩ : ByteArray).extract (n % 10).toNat ((n % 10) + 1).toNat)))) rfl) (Pins.of_le hX17.pins hx16.le) (dr_end (by kernel_rfl) (s_then (wp_ret (s_ret (c_ret1 (v := (.string ((numT (n / 10)) ++ ((⟨#[48, 49, 50, 51, 52, 53, 54, 55, 56, 57]⟩ : ByteArray).extract (n % 10).toNat ((n % 10) + 1).toNat)))) rfl rfl rfl (⟨_, congrArg (fun z => Ending.returned (Value.string z)) (by first | exact numT_neg (by omega) | (exfalso; omega)), hX17⟩)))))))

theorem l1Num_spec (n : Int) (h0 : -999999 ≤ n) (h1 : n ≤ 999999) : NuP n := fun hP => by
 by_cases h : n < 0
 ·exact l1Num_neg hP ⟨h0, h⟩
 ·exact l1Num_nn n (by omega) h1 hP

end PT3
end Go.Proofs.YtianphgdbfekdaaGreatDoor
