/- Marks of forms, exactly; rows of forms of the call's own; tables and their moves. -/
import Derived.Test.YtndhhpaldhlghaaDoorDeep
import Derived.Test.YtndhhpaldhlghaaDoorText
namespace Go.GL
open Go Go.RowKit

/-! ### forms that are marked -/
def totN : List Nd → Int
  | [] => 0
  | n :: r => (n.l.length : Int) + (n.r.length : Int) + totN r
def markN : Int → List Nd → List Nd
  | _, [] => []
  | k, n :: r => ⟨upL k n.l.length, upL (k + (n.l.length : Int)) n.r.length⟩ :: markN (k + (n.l.length : Int) + (n.r.length : Int)) r
theorem markN_length : ∀ (k : Int) (l : List Nd), (markN k l).length = l.length
  | _, [] => rfl
  | k, x :: r => by simp [markN, markN_length]
theorem totN_nonneg : ∀ (l : List Nd), 0 ≤ totN l
  | [] => Int.le_refl _
  | x :: r => by have := totN_nonneg r; unfold totN; omega
theorem totN_next {l : List Nd} {j : Nat} (h : j < l.length) : totN (l.drop j) = ((l.getD j default).l.length : Int) + ((l.getD j default).r.length : Int) + totN (l.drop (j + 1)) := by
  rw [drop_getD l default h]; rfl
theorem totN_end {l : List Nd} {j : Nat} (h : l.length ≤ j) : totN (l.drop j) = 0 := by
  rw [List.drop_eq_nil_of_le h]; rfl
theorem lvN_next {ps : List (Value × Value)} {l : List Nd} {j : Nat} (hu : j < ps.length) (hl : j < l.length) :
    lvN (ps.drop j) (l.drop j) = ((ps.getD j default).1, (l.getD j default).l) :: ((ps.getD j default).2, (l.getD j default).r) :: lvN (ps.drop (j + 1)) (l.drop (j + 1)) := by
  rw [drop_getD ps default hu, drop_getD l default hl]; rfl
theorem lvN_markN {ps : List (Value × Value)} {k : Int} {l : List Nd} {j : Nat} (hu : j < ps.length) (hl : j < l.length) :
    lvN (ps.drop j) (markN k (l.drop j)) = ((ps.getD j default).1, upL k (l.getD j default).l.length) :: ((ps.getD j default).2, upL (k + ((l.getD j default).l.length : Int)) (l.getD j default).r.length) ::
      lvN (ps.drop (j + 1)) (markN (k + ((l.getD j default).l.length : Int) + ((l.getD j default).r.length : Int)) (l.drop (j + 1))) := by
  rw [drop_getD ps default hu, drop_getD l default hl]; rfl
theorem lvN_end {ps : List (Value × Value)} {l : List Nd} {j : Nat} (h : ps.length ≤ j) : lvN (ps.drop j) l = [] := by
  rw [List.drop_eq_nil_of_le h]; rfl
section
variable {en e lo hi : Nat} {G G' : Pin} {w w' : World} {v : Value} {ns : List Nd}
theorem DForm.mark (h : DForm en e G w lo hi v ns) : ∃ ps, Own eVal2 en G w 0 v ps ∧ ps.length = ns.length ∧ (∀ a ∈ leafV ps, Apart a.ownBlock v.ownBlock) ∧ Lvs e G w lo hi (lvN ps ns) ∧ (∀ k, inV (leafV ps) k → inR lo hi k) ∧
    ∀ {w' : World} {ns' : List Nd}, ns'.length = ns.length → Lvs e G w' lo hi (lvN ps ns') → Ext (inV (leafV ps)) G w G w' → DForm en e G w' lo hi v ns' := by
  obtain ⟨ps, h1, h2, h3, h4, h5⟩ := h.ex
  have hav : ∀ a ∈ leafV ps, Apart a.ownBlock v.ownBlock := apl_fst h5 (lvN_fst h1)
  refine ⟨ps, h2.weaken (Nat.zero_le _), h1, hav, h4, h4.inR fun u hu => by rw [lvN_fst h1]; exact hu, fun hl hL hx => ?_⟩
  have h1' := h1.trans hl.symm
  exact ⟨ps, h1', h2.extV hx hav, h3, hL, apl_of hav (lvN_fst h1')⟩
theorem DForm.extS {S : Nat → Prop} (h : DForm en e G w lo hi v ns) (hx : Ext S G w G' w') (hS : ∀ k, lo ≤ k → k < hi → ¬ S k) : DForm en e G' w' lo hi v ns := by
  obtain ⟨ps, h1, h2, h3, h4, h5⟩ := h.ex
  exact ⟨⟨ps, h1, h2.extS hx (fun k hk => hS k (h2.lt k hk).1 (h3 k hk)), h3, h4.extS hx hS, h5⟩⟩
theorem DForm.anti (h : DForm en e G' w lo hi v ns) (hg : Pin.le G G') : DForm en e G w lo hi v ns := by
  obtain ⟨ps, h1, h2, h3, h4, h5⟩ := h.ex
  exact ⟨⟨ps, h1, h2.anti flat_val2 hg, h3, h4.anti hg, h5⟩⟩
end

/-! ### rows of forms -/
/-- Blocks from lo on, below hi, but for the row's. -/
def inNR (R : Option Nat) (lo hi k : Nat) : Prop := lo ≤ k ∧ k < hi ∧ R ≠ some k
/-- Forms, each in blocks of its own, none of them the row's. -/
def DCh (en e : Nat) (G : Pin) (w : World) (R : Option Nat) : Nat → Nat → List Value → List (List Nd) → Prop
  | lo, hi, [], [] => lo ≤ hi
  | lo, hi, u :: us, f :: fs => ∃ l m, lo ≤ l ∧ l ≤ m ∧ (∀ b, R = some b → m ≤ b ∨ b < l) ∧ DForm en e G w l m u f ∧ DCh en e G w R m hi us fs
  | _, _, _, _ => False
section
variable {en e : Nat} {G G' : Pin} {w w' : World} {R R' : Option Nat}
theorem DCh.le : ∀ {lo hi : Nat} {us : List Value} {fs : List (List Nd)}, DCh en e G w R lo hi us fs → lo ≤ hi
  | _, _, [], [], h => h
  | _, _, _ :: _, _ :: _, ⟨_, _, h1, h2, _, _, h3⟩ => Nat.le_trans (Nat.le_trans h1 h2) h3.le
  | _, _, [], _ :: _, h => h.elim
  | _, _, _ :: _, [], h => h.elim
theorem DCh.len : ∀ {lo hi : Nat} {us : List Value} {fs : List (List Nd)}, DCh en e G w R lo hi us fs → us.length = fs.length
  | _, _, [], [], _ => rfl
  | _, _, _ :: _, _ :: _, ⟨_, _, _, _, _, _, h3⟩ => by simp [h3.len]
  | _, _, [], _ :: _, h => h.elim
  | _, _, _ :: _, [], h => h.elim
theorem DCh.map : ∀ {lo hi : Nat} {us : List Value} {fs : List (List Nd)}, DCh en e G w R lo hi us fs → (∀ l m u f, lo ≤ l → m ≤ hi → (∀ b, R = some b → m ≤ b ∨ b < l) → DForm en e G w l m u f → DForm en e G' w' l m u f) → DCh en e G' w' R lo hi us fs
  | _, _, [], [], h, _ => h
  | lo, hi, u :: us, f :: fs, ⟨l, m, h1, h0, hr, h2, h3⟩, hf => ⟨l, m, h1, h0, hr, hf _ _ _ _ h1 h3.le hr h2, h3.map fun l k u f hl hk hd => hf l k u f (by omega) hk hd⟩
  | _, _, [], _ :: _, h, _ => h.elim
  | _, _, _ :: _, [], h, _ => h.elim
theorem DCh.top : ∀ {lo hi hi' : Nat} {us : List Value} {fs : List (List Nd)}, DCh en e G w R lo hi us fs → hi ≤ hi' → DCh en e G w R lo hi' us fs
  | _, _, _, [], [], h, hh => Nat.le_trans h hh
  | _, _, _, _ :: _, _ :: _, ⟨l, m, h1, h0, hr, h2, h3⟩, hh => ⟨l, m, h1, h0, hr, h2, h3.top hh⟩
  | _, _, _, [], _ :: _, h, _ => h.elim
  | _, _, _, _ :: _, [], h, _ => h.elim
theorem DCh.down : ∀ {lo lo' hi : Nat} {us : List Value} {fs : List (List Nd)}, DCh en e G w R lo hi us fs → lo' ≤ lo → DCh en e G w R lo' hi us fs
  | _, _, _, [], [], h, hh => Nat.le_trans hh h
  | _, _, _, _ :: _, _ :: _, ⟨l, m, h1, h0, hr, h2, h3⟩, hh => ⟨l, m, Nat.le_trans hh h1, h0, hr, h2, h3⟩
  | _, _, _, [], _ :: _, h, _ => h.elim
  | _, _, _, _ :: _, [], h, _ => h.elim
/-- The row lies elsewhere: where it was, or behind all forms. -/
theorem DCh.row : ∀ {lo hi : Nat} {us : List Value} {fs : List (List Nd)}, DCh en e G w R lo hi us fs → (R' = R ∨ ∃ k, R' = some k ∧ hi ≤ k) → DCh en e G w R' lo hi us fs
  | _, _, [], [], h, _ => h
  | lo, hi, u :: us, f :: fs, ⟨l, m, h1, h0, hr, h2, h3⟩, hR => ⟨l, m, h1, h0, fun b hb => by
      rcases hR with hR | ⟨k, hk, hk'⟩
      · subst hR; exact hr b hb
      · rw [hk] at hb; cases hb; have := h3.le; omega, h2, h3.row hR⟩
  | _, _, [], _ :: _, h, _ => h.elim
  | _, _, _ :: _, [], h, _ => h.elim
theorem DCh.snoc : ∀ {lo m m' hi : Nat} {us : List Value} {fs : List (List Nd)} {u : Value} {f : List Nd}, DCh en e G w R lo m us fs → DForm en e G w m' hi u f → m ≤ m' → m' ≤ hi → (∀ b, R = some b → hi ≤ b ∨ b < m') → DCh en e G w R lo hi (us ++ [u]) (fs ++ [f])
  | _, _, _, _, [], [], _, _, h, hd, hm, hh, hr => ⟨_, _, Nat.le_trans h hm, hh, hr, hd, Nat.le_refl _⟩
  | _, _, _, _, _ :: _, _ :: _, _, _, ⟨l, k, h1, h0, hr', h2, h3⟩, hd, hm, hh, hr => ⟨l, k, h1, h0, hr', h2, h3.snoc hd hm hh hr⟩
  | _, _, _, _, [], _ :: _, _, _, h, _, _, _, _ => h.elim
  | _, _, _, _, _ :: _, [], _, _, h, _, _, _, _ => h.elim
/-- All forms of a row, read. -/
theorem DCh.read : ∀ {lo hi : Nat} {us : List Value} {fs : List (List Nd)} {G0 : Pin}, DCh en e G w R lo hi us fs → Pin.le G0 G → Pins G0 w → ∃ G', Pin.le G0 G' ∧ Pins G' w ∧ (∀ (i : Nat) u f, us[i]? = some u → fs[i]? = some f → RSl eNode G' u f) ∧ ∀ b o x, G' b o x → G0 b o x ∨ lo ≤ b
  | _, _, [], [], G0, _, _, hP => ⟨G0, Pin.le_refl _, hP, fun i u f hu => by simp at hu, fun b o x h => Or.inl h⟩
  | lo, hi, u :: us, f :: fs, G0, ⟨l, m, h1, h0, _, h2, h3⟩, hg, hP => by
    obtain ⟨G1, a1, a2, a3, a4⟩ := h3.read hg hP
    obtain ⟨G2, b1, b2, b3, b4⟩ := (h2.anti hg).read hP
    refine ⟨fun b o x => G1 b o x ∨ G2 b o x, fun b o x h => Or.inl (a1 _ _ _ h), fun b o x h => h.elim (a2 b o x) (b2 b o x), fun i y g hy hf => ?_, fun b o x h => ?_⟩
    · match i with
      | 0 => simp at hy hf; subst hy hf; exact b3.mono fun _ _ _ h => Or.inr h
      | i + 1 => simp at hy hf; exact (a3 i y g hy hf).mono fun _ _ _ h => Or.inl h
    · rcases h with h | h
      · rcases a4 b o x h with h | h
        · exact Or.inl h
        · exact Or.inr (by omega)
      · rcases b4 b o x h with h | h
        · exact Or.inl h
        · exact Or.inr (by omega)
  | _, _, [], _ :: _, _, h, _, _ => h.elim
  | _, _, _ :: _, [], _, h, _, _ => h.elim
end
structure DForms (en ef e : Nat) (G : Pin) (w : World) (lo hi : Nat) (v : Value) (fs : List (List Nd)) : Prop where
  ex : ∃ us, Own eVal ef G w lo v us ∧ (∀ k, v.ownBlock = some k → k < hi) ∧ DCh en e G w v.ownBlock lo hi us fs
section
variable {en ef e lo hi lo' hi' : Nat} {G G' : Pin} {w w' : World} {v : Value} {fs : List (List Nd)}
theorem DForms.below (h : DForms en ef e G w lo hi v fs) (hb : Below w.heap.size w w') : DForms en ef e G w' lo hi v fs := by
  obtain ⟨us, h2, h3, h4⟩ := h.ex
  exact ⟨⟨us, h2.below hb, h3, h4.map fun _ _ _ _ _ _ _ hd => hd.below hb⟩⟩
theorem DForms.ext (h : DForms en ef e G w lo hi v fs) (hx : Ext noS G w G' w') : DForms en ef e G' w' lo hi v fs := by
  obtain ⟨us, h2, h3, h4⟩ := h.ex
  exact ⟨⟨us, h2.ext hx, h3, h4.map fun _ _ _ _ _ _ _ hd => hd.ext hx⟩⟩
theorem DForms.extS {S : Nat → Prop} (h : DForms en ef e G w lo hi v fs) (hx : Ext S G w G' w') (hS : ∀ k, lo ≤ k → k < hi → ¬ S k) : DForms en ef e G' w' lo hi v fs := by
  obtain ⟨us, h2, h3, h4⟩ := h.ex
  exact ⟨⟨us, h2.extS hx (fun k hk => hS k (h2.lt k hk).1 (h3 k hk)), h3, h4.map fun l k _ _ hl hk _ hd => hd.extS hx fun q h5 h6 => hS q (by omega) (by omega)⟩⟩
theorem DForms.anti (h : DForms en ef e G' w lo hi v fs) (hg : Pin.le G G') : DForms en ef e G w lo hi v fs := by
  obtain ⟨us, h2, h3, h4⟩ := h.ex
  exact ⟨⟨us, h2.anti flat_val hg, h3, h4.map fun _ _ _ _ _ _ _ hd => hd.anti hg⟩⟩
theorem DForms.wide (h : DForms en ef e G w lo hi v fs) (hl : lo' ≤ lo) (hh : hi ≤ hi') : DForms en ef e G w lo' hi' v fs := by
  obtain ⟨us, h2, h3, h4⟩ := h.ex
  exact ⟨⟨us, h2.weaken hl, fun k hk => Nat.lt_of_lt_of_le (h3 k hk) hh, (h4.top hh).down hl⟩⟩
theorem DForms.one (h : DForms en ef e G w lo hi v fs) : v.oneCell' = true := by
  obtain ⟨us, h2, h3, h4⟩ := h.ex
  exact h2.one
theorem DForms.more {b : Nat} (h : DForms en ef e G w lo hi v fs) (hl : Pin.le G G') (hf : ∀ k o u, G' k o u → G k o u ∨ k = b) (hb : hi ≤ b ∨ b < lo) : DForms en ef e G' w lo hi v fs := by
  obtain ⟨us, h2, h3, h4⟩ := h.ex
  exact ⟨⟨us, h2.moreA hl hf (fun k a c => by cases c; have := h3 _ a; have := (h2.lt _ a).1; omega), h3, h4.map fun l k _ _ hl' hk _ hd => hd.more hl hf (by omega)⟩⟩
theorem DForms.kept {b : Nat} (h : DForms en ef e G w lo hi v fs) (hg : w.grownBy w' (some b)) (hb : hi ≤ b ∨ b < lo) : DForms en ef e G w' lo hi v fs := by
  obtain ⟨us, h2, h3, h4⟩ := h.ex
  exact ⟨⟨us, h2.keptA hg (fun k a c => by cases c; have := h3 _ a; have := (h2.lt _ a).1; omega), h3, h4.map fun l k _ _ hl' hk _ hd => hd.kept hg (by omega)⟩⟩
theorem DForms.read (h : DForms en ef e G w lo hi v fs) (hP : Pins G w) : ∃ G', Pin.le G G' ∧ Pins G' w ∧ RSl (eSl eNode) G' v fs ∧ ∀ b o x, G' b o x → G b o x ∨ lo ≤ b := by
  obtain ⟨us, h2, h3, h4⟩ := h.ex
  obtain ⟨G1, a1, a2, a3, a4⟩ := h4.read (Pin.le_refl _) hP
  refine ⟨fun b o x => G1 b o x ∨ Gadd G w v b o x, fun b o x h => Or.inl (a1 _ _ _ h), fun b o x h => h.elim (a2 b o x) (Gadd.pins hP v b o x), ?_, fun b o x h => ?_⟩
  · refine (h2.read.mono fun _ _ _ h => Or.inr h).conv h4.len.symm rfl fun i u f cs hu hf hr => ?_
    obtain ⟨rfl, _⟩ := hr
    exact ⟨u, rfl, (a3 i u f hu hf).mono fun _ _ _ h => Or.inl h⟩
  · rcases h with h | h | h
    · rcases a4 b o x h with h | h
      · exact Or.inl h
      · exact Or.inr (by omega)
    · exact Or.inl h
    · exact Or.inr (h2.lt b h.1).1
end

/-! ### sizes of rows of forms -/
def totF : List (List Nd) → Int
  | [] => 0
  | f :: r => totN f + totF r
structure SmallF (fs : List (List Nd)) : Prop where
  len : fs.length ≤ 1048576
  small : ∀ i, i < fs.length → Small (fs.getD i [])
  tot : totF fs ≤ 1048576
theorem totF_next {l : List (List Nd)} {j : Nat} (h : j < l.length) : totF (l.drop j) = totN (l.getD j []) + totF (l.drop (j + 1)) := by
  rw [drop_getD l [] h]; rfl
theorem totF_end {l : List (List Nd)} {j : Nat} (h : l.length ≤ j) : totF (l.drop j) = 0 := by
  rw [List.drop_eq_nil_of_le h]; rfl
theorem totF_nonneg : ∀ (l : List (List Nd)), 0 ≤ totF l
  | [] => Int.le_refl _
  | x :: r => by have := totF_nonneg r; have := totN_nonneg x; unfold totF; omega
theorem szGo_tot {left : Int} : ∀ {ns : List Nd}, 0 ≤ szGo ns left → szGo ns left = left - totN ns
  | [], _ => by simp [szGo, totN]
  | n :: r, h => by
    unfold szGo at h ⊢
    split at h
    · omega
    · rename_i h1
      have ih := szGo_tot h
      rw [if_neg h1, ih]
      have e : szNd n left = left - n.l.length - n.r.length := by
        unfold szNd at h1 ⊢
        split at h1
        · omega
        · rename_i h2
          have a1 := szInts_le (xs := n.l) (left := left) (by omega)
          split at h1
          · omega
          · rename_i h3
            have a2 := szInts_le (xs := n.r) (left := szInts n.l left) (by omega)
            rw [if_neg h2, if_neg h3]; omega
      simp only [totN]
      omega
theorem szNds_tot {ns : List Nd} {left : Int} (h : ¬ szNds ns left < 0) : szNds ns left = left - ns.length - totN ns := by
  unfold szNds at h ⊢
  split at h
  · omega
  · rename_i h1
    rw [if_neg h1]
    have := szGo_tot (ns := ns) (left := left - ns.length) (by omega)
    omega

/-! ### moves -/
def lastN (ns : List Nd) : Nd := ns.getD (ns.length - 1) default
def optL (left : Bool) (ns : List Nd) : List Int := if left = true then (lastN ns).l else (lastN ns).r
def movesL (left : Bool) (fs : List (List Nd)) (k : Nat) : List (Int × Int) := (List.range k).flatMap fun i : Nat => (List.range (optL left (fs.getD i [])).length).map fun q : Nat => ((i : Int), (q : Int))
def mvRow (i n : Nat) : List (Int × Int) := (List.range n).map fun q : Nat => ((i : Int), (q : Int))
theorem mvRow_next (i n : Nat) : mvRow i n ++ [((i : Int), (n : Int))] = mvRow i (n + 1) := by simp [mvRow, List.range_succ]
theorem movesL_next (left : Bool) (fs : List (List Nd)) (k : Nat) : movesL left fs (k + 1) = movesL left fs k ++ mvRow k (optL left (fs.getD k [])).length := by
  unfold movesL mvRow; rw [List.range_succ, List.flatMap_append]; simp
theorem mvRow_length (i n : Nat) : (mvRow i n).length = n := by simp [mvRow]
noncomputable def goodT (fs : List (List Nd)) : Bool := decP (fs.length ≤ 6 ∧ ∀ i, i < fs.length → goodB (fs.getD i []) = true)
noncomputable def mvL (left : Bool) (fs : List (List Nd)) : List (Int × Int) := if goodT fs = true then movesL left fs fs.length else []
theorem mv_no {left : Bool} {fs : List (List Nd)} (h : goodT fs = false) : mvL left fs = [] := by unfold mvL; rw [if_neg (by rw [h]; decide)]
theorem mv_yes {left : Bool} {fs : List (List Nd)} (h : goodT fs = true) : mvL left fs = movesL left fs fs.length := by unfold mvL; rw [if_pos h]
theorem optL_len {left : Bool} {ns : List Nd} (hg : GoodP ns) : (optL left ns).length ≤ 24 := by
  have := hg.lo
  unfold optL lastN
  split
  · exact hg.lenl (by omega)
  · exact hg.lenr (by omega)
theorem movesL_len {left : Bool} {fs : List (List Nd)} : ∀ {k : Nat}, (∀ i, i < k → goodB (fs.getD i []) = true) → (movesL left fs k).length ≤ 24 * k
  | 0, _ => Nat.zero_le _
  | k + 1, h => by
    have ih := movesL_len (left := left) (k := k) fun i hi => h i (by omega)
    have := optL_len (left := left) (goodB_true.1 (h k (by omega)))
    rw [movesL_next, List.length_append, mvRow_length]; omega
theorem mvL_len (left : Bool) (fs : List (List Nd)) : (mvL left fs).length ≤ 144 := by
  unfold mvL
  split
  · rename_i h
    have hp := decP_true.1 h
    have := movesL_len (left := left) (fs := fs) (k := fs.length) hp.2
    omega
  · simp
/-- The reference's part of a form. -/
def partS (ns : List Nd) (i : Int) : List Nd := formM (addM [] [] ns).2.1 (addM [] [] ns).2.2 ((addM [] [] ns).1.getD i.toNat 0).toNat
def optsS (ns : List Nd) (l : List Int) : List (List Nd) := l.map (partS ns)
def sideS (left : Bool) (ns : List Nd) : List (List Nd) := optsS ns (optL left ns)
theorem good_form {ns : List Nd} (hg : GoodP ns) : FormOk ns := formOk_of (good_iff.2 hg).fits (good_iff.2 hg).rise

/-! ### pairs that are marked -/
def markPP : Int → List (Int × Int) → List (Int × Int)
  | _, [] => []
  | k, _ :: r => (k, k + 1) :: markPP (k + 2) r
theorem markPP_length : ∀ (k : Int) (l : List (Int × Int)), (markPP k l).length = l.length
  | _, [] => rfl
  | k, x :: r => by simp [markPP, markPP_length]
theorem markPP_next {k : Int} {l : List (Int × Int)} {j : Nat} (h : j < l.length) : markPP k (l.drop j) = (k, k + 1) :: markPP (k + 2) (l.drop (j + 1)) := by
  rw [drop_getD l default h]; rfl
theorem markPP_getD : ∀ {l : List (Int × Int)} {k : Int} {j : Nat}, j < l.length → (markPP k l).getD j default = (k + 2 * (j : Int), k + 2 * (j : Int) + 1)
  | x :: r, k, 0, _ => by simp [markPP, List.getD]
  | x :: r, k, j + 1, h => by
    have := markPP_getD (l := r) (k := k + 2) (j := j) (by simpa using h)
    have e : (markPP k (x :: r)).getD (j + 1) default = (markPP (k + 2) r).getD j default := by simp [markPP, List.getD]
    rw [e, this]
    congr 1 <;> simp <;> omega
section
variable {P : Program} {ρ : Operand → Value} {w : World} {K : Value → World → Prop} {d : Option Nat} {t ty e : Nat} {pos : String} {aft : Array Edge} {g : Option (Nat × Bool)} {x y : Operand} {G : Pin} {v : Value}
theorem run_setP {base : Nat} {xs : List (Int × Int)} {z q : Int} (f : Nat) (hf : f < 2) (hs : (P.info? t).map (·.size) = some 1) (hx : ρ x = eptr v z 2 f) (hy : ρ y = .int .i64 q) (hP : Pins G w) (hv : Own eP2 e G w base v xs) (h0 : 0 ≤ z) (h1 : z < xs.length) :
    ∃ w', (execOp ρ ⟨d, .store t x y, ty, pos, aft, g⟩).run P w = .ok .skip w' ∧ Own eP2 e G w' base v (xs.set z.toNat (if f = 0 then (q, (xs.getD z.toNat default).2) else ((xs.getD z.toNat default).1, q))) ∧ Pins G w' ∧ w.grownBy w' v.ownBlock ∧ w'.heap.size = w.heap.size := by
  have hz : z.toNat < xs.length := by omega
  obtain ⟨cells, hown, hr⟩ := hv.ex
  obtain ⟨gb, w', hb, hp, hrun, a1, a2, a3, a4⟩ := hv.setAt (P := P) h0 h1 (q := if f = 0 then (q, (xs.getD z.toNat default).2) else ((xs.getD z.toNat default).1, q)) (cs := [Value.int .i64 (if f = 0 then (q, (xs.getD z.toNat default).2) else ((xs.getD z.toNat default).1, q)).1, Value.int .i64 (if f = 0 then (q, (xs.getD z.toNat default).2) else ((xs.getD z.toNat default).1, q)).2]) rfl hP
  rcases hown.2 with ⟨rfl, hl0⟩ | ⟨g', cap, cur, rfl, hbg, hg, hnc, hcm, hcs, htake⟩
  · omega
  · have hgb : gb = g' := by simpa [Value.ownBlock] using hb.symm
    subst hgb
    have e2 : eP2.size = 2 := rfl
    rw [e2] at hrun hcs htake hr hp
    have hle1 : z.toNat * 2 + 2 ≤ cur.size := by omega
    have hel := hr z.toNat _ (List.getElem?_eq_getElem hz)
    have hx1 : xs[z.toNat] = xs.getD z.toNat default := by simp [List.getD, hz]
    rw [hx1, ← htake] at hel
    have hc : ∀ k u, ([Value.int .i64 (xs.getD z.toNat default).1, .int .i64 (xs.getD z.toNat default).2] : List Value)[k]? = some u → cur.toList[z.toNat * 2 + k]? = some u := fun k u hu => by
      have hk : k < 2 := by have := (List.getElem?_eq_some_iff.1 hu).1; simpa using this
      have h3 : ((((cur.toList.take (xs.length * 2)).drop (z.toNat * 2)).take 2)[k]?) = some u := by rw [show ((cur.toList.take (xs.length * 2)).drop (z.toNat * 2)).take 2 = _ from hel]; exact hu
      rw [List.getElem?_take, if_pos hk, List.getElem?_drop, List.getElem?_take, if_pos (by omega)] at h3
      exact h3
    have c0 := hc 0 _ rfl
    have c1 := hc 1 _ rfl
    rw [Nat.add_zero] at c0
    have r1 := run_storeCells_at P gb (z.toNat * 2) e [.int .i64 (if f = 0 then (q, (xs.getD z.toNat default).2) else ((xs.getD z.toNat default).1, q)).1, .int .i64 (if f = 0 then (q, (xs.getD z.toNat default).2) else ((xs.getD z.toNat default).1, q)).2] 0 cur w hg (by simpa using hle1) (by intro u hu; simp at hu; rcases hu with rfl | rfl <;> rfl)
    have r2 := run_storeCells_at P gb (z.toNat * 2 + f) e [.int .i64 q] 0 cur w hg (by simp; omega) (by intro u hu; simp at hu; subst hu; rfl)
    simp only [Nat.add_zero] at r1 r2
    have hw : w' = w.setRow gb (cur.toList.take (z.toNat * 2 + f) ++ [Value.int .i64 q] ++ cur.toList.drop (z.toNat * 2 + f + [Value.int .i64 q].length)).toArray := by
      rw [hrun] at r1
      have hw1 := (Result.ok.inj r1).2
      rw [hw1]
      congr 2
      have hd0 : cur.toList.drop (z.toNat * 2) = .int .i64 (xs.getD z.toNat default).1 :: .int .i64 (xs.getD z.toNat default).2 :: cur.toList.drop (z.toNat * 2 + 2) := by
        obtain ⟨h5, h6⟩ := List.getElem?_eq_some_iff.1 c0
        obtain ⟨h7, h8⟩ := List.getElem?_eq_some_iff.1 c1
        rw [List.drop_eq_getElem_cons h5, List.drop_eq_getElem_cons h7, h6, h8]
      match f, hf with
      | 0, _ =>
        have : cur.toList.drop (z.toNat * 2 + 1) = .int .i64 (xs.getD z.toNat default).2 :: cur.toList.drop (z.toNat * 2 + 2) := by
          have := congrArg (List.drop 1) hd0
          rw [List.drop_drop] at this
          simpa using this
        simp [this]
      | 1, _ =>
        have : cur.toList.take (z.toNat * 2 + 1) = cur.toList.take (z.toNat * 2) ++ [.int .i64 (xs.getD z.toNat default).1] := by
          rw [List.take_add_one, c0]; rfl
        simp [this]
    have hpt : eptr (.slice (some ⟨gb, 0, none⟩) xs.length cap) z 2 f = .pointer (some ⟨gb, z.toNat * 2 + f, none⟩) := by
      clear hx hrun r1 r2 hw hr hc hel hp a1 hv hown
      simp only [eptr, Addr.add]; split <;> simp_all
    rw [hpt] at hx
    refine ⟨w', ?_, a1, a2, a3, a4⟩
    have hlv : (storeVar t ⟨gb, z.toNat * 2 + f, none⟩ (.int .i64 q)).run P w = .ok () w' := by
      unfold storeVar
      simp only [Sem.run_bind, run_sizeOf hs, Result.andThen_ok]
      have : (Value.int .i64 q).cells.size = 1 := rfl
      simp only [this, ne_eq, not_true_eq_false, if_false]
      have hc2 : (Value.int .i64 q).cells.toList = [.int .i64 q] := rfl
      rw [hc2, r2, hw]
    simp only [execOp, hx, hy, Instr.storeAt, Instr.sureAddr, Sem.run_bind, Sem.run_pure, Result.andThen_ok, hlv]
/-- One number of a pair in a row of the call's own is written. -/
theorem o_setP {base : Nat} {xs : List (Int × Int)} {z q : Int} (f : Nat) (hf : f < 2) (hs : (P.info? t).map (·.size) = some 1) (hx : ρ x = eptr v z 2 f) (hy : ρ y = .int .i64 q) (hP : Pins G w) (hv : Own eP2 e G w base v xs) (h0 : 0 ≤ z) (h1 : z < xs.length)
    (h : ∀ w', Own eP2 e G w' base v (xs.set z.toNat (if f = 0 then (q, (xs.getD z.toNat default).2) else ((xs.getD z.toNat default).1, q))) → Pins G w' → w.grownBy w' v.ownBlock → w'.heap.size = w.heap.size → K undef w') :
    EO P ρ ⟨d, .store t x y, ty, pos, aft, g⟩ w K := by
  obtain ⟨w', h2, h3, h4, h5, h6⟩ := run_setP (d := d) (ty := ty) (pos := pos) (aft := aft) (g := g) f hf hs hx hy hP hv h0 h1
  exact EO.skip h2 (h w' h3 h4 h5 h6)
end

/-! ### more on rows of forms -/
theorem flat_p2 : Flat eP2 := fun h => h
section
variable {en ef e lo hi lo' hi' : Nat} {G G' : Pin} {w w' : World} {v : Value} {ns : List Nd} {us : List Value} {fs : List (List Nd)} {R : Option Nat}
theorem DForm.keptO {row : Option Nat} (h : DForm en e G w lo hi v ns) (hg : w.grownBy w' row) (hb : ∀ b, row = some b → hi ≤ b ∨ b < lo) : DForm en e G w' lo hi v ns := by
  obtain ⟨ps, h1, h2, h3, h4, h5⟩ := h.ex
  exact ⟨⟨ps, h1, h2.keptA hg (fun k a c => by have := h3 _ a; have := (h2.lt _ a).1; have := hb _ c; omega), h3, h4.kept hg (fun p hp k a c => by have := h4.hi p hp _ a; have := (h4.ge p hp _ a).1; have := hb _ c; omega), h5⟩⟩
theorem DCh.below (h : DCh en e G w R lo hi us fs) (hb : Below w.heap.size w w') : DCh en e G w' R lo hi us fs := h.map fun _ _ _ _ _ _ _ hd => hd.below hb
theorem DCh.ext (h : DCh en e G w R lo hi us fs) (hx : Ext noS G w G' w') : DCh en e G' w' R lo hi us fs := h.map fun _ _ _ _ _ _ _ hd => hd.ext hx
theorem DCh.anti (h : DCh en e G' w R lo hi us fs) (hg : Pin.le G G') : DCh en e G w R lo hi us fs := h.map fun _ _ _ _ _ _ _ hd => hd.anti hg
/-- The row itself is written. -/
theorem DCh.keptR (h : DCh en e G w R lo hi us fs) (hg : w.grownBy w' R) : DCh en e G w' R lo hi us fs :=
  h.map fun _ _ _ _ _ _ hr hd => hd.keptO hg hr
theorem DCh.more {b : Nat} (h : DCh en e G w R lo hi us fs) (hl : Pin.le G G') (hf : ∀ k o u, G' k o u → G k o u ∨ k = b) (hb : hi ≤ b ∨ b < lo) : DCh en e G' w R lo hi us fs :=
  h.map fun l k _ _ hl' hk _ hd => hd.more hl hf (by omega)
theorem DCh.at : ∀ {lo hi j : Nat} {us : List Value} {fs : List (List Nd)}, DCh en e G w R lo hi us fs → j < fs.length → ∃ l m, lo ≤ l ∧ m ≤ hi ∧ (∀ b, R = some b → m ≤ b ∨ b < l) ∧ DForm en e G w l m (us.getD j default) (fs.getD j []) ∧
    ∀ {w' : World} {f' : List Nd}, Ext (inR l m) G w G w' → DForm en e G w' l m (us.getD j default) f' → DCh en e G w' R lo hi us (fs.set j f')
  | lo, hi, 0, u :: us, f :: fs, ⟨l, m, h1, h0, hr, h2, h3⟩, _ => ⟨l, m, h1, h3.le, hr, h2, fun hx hd => ⟨l, m, h1, h0, hr, hd, h3.map fun _ _ _ _ hl _ _ hq => hq.extS hx fun k h5 _ h7 => by have := h7.2; omega⟩⟩
  | lo, hi, j + 1, u :: us, f :: fs, ⟨l0, m0, h1, h0, hr, h2, h3⟩, hj => by
    obtain ⟨l, k, a1, a2, a3, a4, a5⟩ := h3.at (j := j) (by simpa using hj)
    exact ⟨l, k, by omega, a2, a3, by simpa using a4, fun hx hd => ⟨l0, m0, h1, h0, hr, h2.extS hx fun q _ h6 h7 => by have := h7.1; omega, a5 hx (by simpa using hd)⟩⟩
  | _, _, _, [], [], _, hj => (by simp at hj)
  | _, _, _, [], _ :: _, h, _ => h.elim
  | _, _, _, _ :: _, [], h, _ => h.elim
theorem DForms.mark (h : DForms en ef e G w lo hi v fs) : ∃ us, Own eVal ef G w 0 v us ∧ us.length = fs.length ∧ DCh en e G w v.ownBlock lo hi us fs ∧
    ∀ {w' : World} {fs' : List (List Nd)}, DCh en e G w' v.ownBlock lo hi us fs' → Ext (inNR v.ownBlock lo hi) G w G w' → DForms en ef e G w' lo hi v fs' := by
  obtain ⟨us, h2, h3, h4⟩ := h.ex
  exact ⟨us, h2.weaken (Nat.zero_le _), h4.len, h4, fun hC hx => ⟨us, h2.extS hx (fun k hk hS => hS.2.2 hk), h3, hC⟩⟩
theorem DForms.give (h : DForms en ef e G' w' w.heap.size w'.heap.size v fs) (hx : Ext noS G w G' w') : ∃ G'', RSl (eSl eNode) G'' v fs ∧ Ext noS G w G'' w' := by
  obtain ⟨G'', h1, h2, h3, h4⟩ := h.read hx.pins
  refine ⟨G'', h3, Pin.le_trans hx.le h1, h2, fun b o x hb => ?_, hx.os, hx.tape, hx.output, hx.size, hx.block⟩
  rcases h4 b o x hb with a | a
  · exact hx.fresh b o x a
  · exact Or.inr a
end
def markF : Int → List (List Nd) → List (List Nd)
  | _, [] => []
  | k, f :: r => markN k f :: markF (k + totN f) r
theorem markF_length : ∀ (k : Int) (l : List (List Nd)), (markF k l).length = l.length
  | _, [] => rfl
  | k, x :: r => by simp [markF, markF_length]
theorem markF_at {kz q : Int} {fs : List (List Nd)} {j : Nat} (h : j < fs.length) (hm : (markF kz fs).drop j = markF q (fs.drop j)) : (markF kz fs).getD j [] = markN q (fs.getD j []) ∧ (markF kz fs).drop (j + 1) = markF (q + totN (fs.getD j [])) (fs.drop (j + 1)) := by
  have hl := markF_length kz fs
  rw [drop_getD fs [] h, drop_getD (markF kz fs) [] (by omega)] at hm
  exact ⟨(List.cons.inj hm).1, (List.cons.inj hm).2⟩
theorem cur_at {α : Type} {A B : List α} {j : Nat} (d : α) (hl : A.length = B.length) (h : j < B.length) : (A.take j ++ B.drop j).getD j d = B.getD j d := by
  simp [List.getD, List.getElem?_append, show min j A.length = j by omega]
theorem cur_set {α : Type} {A B : List α} {j : Nat} {x : α} (d : α) (hl : A.length = B.length) (h : j < B.length) (hx : A.getD j d = x) : (A.take j ++ B.drop j).set j x = A.take (j + 1) ++ B.drop (j + 1) := by
  subst hx
  rw [List.set_append_right _ _ (by simp; omega), drop_getD B d h, take_snoc A d (by omega), show j - (List.take j A).length = 0 by simp; omega, List.set_cons_zero, List.append_assoc]; rfl
theorem cur_end {α : Type} {A B : List α} {j : Nat} (hl : A.length = B.length) (h : B.length ≤ j) : A.take j ++ B.drop j = A := by
  rw [List.drop_eq_nil_of_le h, List.append_nil, List.take_of_length_le (by omega)]

/-! ### a row of the call's own, in blocks from lo on, below hi -/
structure DRow {α : Type} (E : Elt α) (e : Nat) (G : Pin) (w : World) (lo hi : Nat) (v : Value) (xs : List α) : Prop where
  row : Own E e G w lo v xs
  top : ∀ k, v.ownBlock = some k → k < hi
section
variable {α : Type} {E : Elt α} {e lo hi lo' hi' : Nat} {G G' : Pin} {w w' : World} {v : Value} {xs : List α}
theorem DRow.below (h : DRow E e G w lo hi v xs) (hb : Below w.heap.size w w') : DRow E e G w' lo hi v xs := ⟨h.row.below hb, h.top⟩
theorem DRow.ext (h : DRow E e G w lo hi v xs) (hx : Ext noS G w G' w') : DRow E e G' w' lo hi v xs := ⟨h.row.ext hx, h.top⟩
theorem DRow.extS {S : Nat → Prop} (h : DRow E e G w lo hi v xs) (hx : Ext S G w G' w') (hS : ∀ k, lo ≤ k → k < hi → ¬ S k) : DRow E e G' w' lo hi v xs := ⟨h.row.extS hx fun k hk => hS k (h.row.lt k hk).1 (h.top k hk), h.top⟩
theorem DRow.more {b : Nat} (h : DRow E e G w lo hi v xs) (hl : Pin.le G G') (hf : ∀ k o u, G' k o u → G k o u ∨ k = b) (hb : hi ≤ b ∨ b < lo) : DRow E e G' w lo hi v xs :=
  ⟨h.row.moreA hl hf (fun k a c => by cases c; have := h.top _ a; have := (h.row.lt _ a).1; omega), h.top⟩
theorem DRow.kept {b : Nat} (h : DRow E e G w lo hi v xs) (hg : w.grownBy w' (some b)) (hb : hi ≤ b ∨ b < lo) : DRow E e G w' lo hi v xs :=
  ⟨h.row.keptA hg (fun k a c => by cases c; have := h.top _ a; have := (h.row.lt _ a).1; omega), h.top⟩
theorem DRow.one (h : DRow E e G w lo hi v xs) : v.oneCell' = true := h.row.one
theorem DRow.read (h : DRow E e G w lo hi v xs) (hP : Pins G w) : ∃ G', Pin.le G G' ∧ Pins G' w ∧ RSl E G' v xs ∧ ∀ b o x, G' b o x → G b o x ∨ lo ≤ b :=
  ⟨Gadd G w v, Gadd.le _ _ _, Gadd.pins hP v, h.row.read, fun b _ _ hx => hx.elim Or.inl fun a => Or.inr (h.row.lt b a.1).1⟩
end
/-- A fresh row, promised. -/
theorem row_give {α : Type} {E : Elt α} {e : Nat} {G G' : Pin} {w w' : World} {v : Value} {xs : List α} (h : Own E e G' w' w.heap.size v xs) (hx : Ext noS G w G' w') : ∃ G'', RSl E G'' v xs ∧ Ext noS G w G'' w' :=
  ⟨Gadd G' w' v, h.read, Pin.le_trans hx.le (Gadd.le _ _ _), Gadd.pins hx.pins v, fun b o x hb => by
    rcases hb with a | a
    · exact hx.fresh b o x a
    · exact Or.inr (h.lt b a.1).1, hx.os, hx.tape, hx.output, hx.size, hx.block⟩
theorem markPP_end {kz : Int} {xs : List (Int × Int)} {j : Nat} (h : xs.length ≤ j) : (markPP kz xs).take j ++ xs.drop j = markPP kz xs := cur_end (markPP_length kz xs) h
theorem markPP_step {kz q : Int} {xs ys : List (Int × Int)} {j : Nat} (h : j < xs.length) (hy : ys = (markPP kz xs).take j ++ xs.drop j) (hq : q = kz + 2 * (j : Int)) :
    (ys.set j (q, (ys.getD j default).2)).set j (((ys.set j (q, (ys.getD j default).2)).getD j default).1, q + 1) = (markPP kz xs).take (j + 1) ++ xs.drop (j + 1) := by
  have hl := markPP_length kz xs
  have hyl : ys.length = xs.length := by rw [hy]; simp; omega
  have e1 : (ys.set j (q, (ys.getD j default).2)).getD j default = (q, (ys.getD j default).2) := by simp [List.getD, hyl, h]
  rw [e1, List.set_set, hy]
  refine cur_set default hl h ?_
  rw [markPP_getD h, hq]
section
variable {P : Program} {ρ : Operand → Value} {w : World} {K : Value → World → Prop} {d : Option Nat} {t ty e : Nat} {pos : String} {aft : Array Edge} {g : Option (Nat × Bool)} {x y : Operand} {G : Pin} {v : Value}
theorem o_setP0 {base : Nat} {xs : List (Int × Int)} {z q : Int} (hs : (P.info? t).map (·.size) = some 1) (hx : ρ x = eptr v z 2 0) (hy : ρ y = .int .i64 q) (hP : Pins G w) (hv : Own eP2 e G w base v xs) (h0 : 0 ≤ z) (h1 : z < xs.length)
    (h : ∀ w', Own eP2 e G w' base v (xs.set z.toNat (q, (xs.getD z.toNat default).2)) → Pins G w' → w.grownBy w' v.ownBlock → w'.heap.size = w.heap.size → K undef w') : EO P ρ ⟨d, .store t x y, ty, pos, aft, g⟩ w K :=
  o_setP 0 (by omega) hs hx hy hP hv h0 h1 (by simpa using h)
theorem o_setP1 {base : Nat} {xs : List (Int × Int)} {z q : Int} (hs : (P.info? t).map (·.size) = some 1) (hx : ρ x = eptr v z 2 1) (hy : ρ y = .int .i64 q) (hP : Pins G w) (hv : Own eP2 e G w base v xs) (h0 : 0 ≤ z) (h1 : z < xs.length)
    (h : ∀ w', Own eP2 e G w' base v (xs.set z.toNat ((xs.getD z.toNat default).1, q)) → Pins G w' → w.grownBy w' v.ownBlock → w'.heap.size = w.heap.size → K undef w') : EO P ρ ⟨d, .store t x y, ty, pos, aft, g⟩ w K :=
  o_setP 1 (by omega) hs hx hy hP hv h0 h1 (by simpa using h)
end
theorem set_take {α : Type} {os : List α} {n j : Nat} {u : α} (hl : os.length = n) (hj : j < n) : (os.set j u).take (j + 1) = os.take j ++ [u] := by
  rw [take_snoc (os.set j u) u (by simp; omega), List.take_set_of_le (Nat.le_refl _)]
  simp [List.getD, show j < os.length by omega]
theorem sideS_len (left : Bool) (ns : List Nd) : (sideS left ns).length = (optL left ns).length := by simp [sideS, optsS]
theorem goodT_of {fs : List (List Nd)} : goodT fs = decP (((fs.length : Int) ≤ 6) ∧ ∀ i, i < fs.length → GoodS (fs.getD i [])) := by
  unfold goodT
  refine decP_iff ⟨fun h => ⟨by omega, fun i hi => good_iff.2 (goodB_true.1 (h.2 i hi))⟩, fun h => ⟨by omega, fun i hi => goodB_true.2 (good_iff.1 (h.2 i hi))⟩⟩
theorem optsS_next {ns : List Nd} {l : List Int} {j : Nat} (h : j < l.length) : optsS ns (l.take j) ++ [partS ns (l.getD j 0)] = optsS ns (l.take (j + 1)) := by
  unfold optsS; rw [take_snoc l 0 h, List.map_append]; rfl
theorem optL_at {ns : List Nd} (hg : GoodP ns) (left : Bool) : ∀ i, i < (optL left ns).length → 0 ≤ (optL left ns).getD i 0 ∧ (optL left ns).getD i 0 < ns.length := fun i hi => by
  have h1 := hg.lo
  have ho := opts_ok hg.opts
  have hk : ns.length - 1 < ns.length := by omega
  unfold optL lastN at hi ⊢
  split at hi <;> rename_i hl
  · rw [if_pos hl]; have := ho.left hk hi; omega
  · rw [if_neg hl]; have := ho.right hk hi; omega
end Go.GL
