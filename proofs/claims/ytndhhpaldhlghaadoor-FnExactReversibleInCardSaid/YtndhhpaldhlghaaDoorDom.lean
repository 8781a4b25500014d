/- Dominated options, reversible options. -/
import Derived.Test.YtndhhpaldhlghaaDoorGreat
import Derived.Test.YtndhhpaldhlghaaDoorUniq
import Derived.Test.YtndhhpaldhlghaaDoorTable
namespace Go.GL
open Go Go.RowKit
/-- At least, for Left; at most, for Right. -/
def geD (lf : Bool) (a b : Nat) : Prop := if lf = true then geG a b else geG b a
theorem geD_t {lf : Bool} {a b : Nat} (h : lf = true) : geD lf a b ↔ geG a b := by unfold geD; rw [if_pos h]
theorem geD_f {lf : Bool} {a b : Nat} (h : lf = false) : geD lf a b ↔ geG b a := by unfold geD; rw [if_neg (by rw [h]; exact Bool.false_ne_true)]
/-- Option i is dominated by option k. -/
def domP (g : Nat → Nat) (lf : Bool) (i k : Nat) : Prop := (k : Int) ≠ (i : Int) ∧ geD lf (g k) (g i) ∧ (¬ geD lf (g i) (g k) ∨ (k : Int) < (i : Int))
noncomputable def domB (g : Nat → Nat) (lf : Bool) (i n : Nat) : Bool := decP (∃ k, k < n ∧ domP g lf i k)
noncomputable def domL (g : Nat → Nat) (lf : Bool) (n : Nat) : Nat → List Int
  | 0 => []
  | i + 1 => if domB g lf i n = true then domL g lf n i ++ [(i : Int)] else domL g lf n i
theorem dom_hit {g : Nat → Nat} {lf : Bool} {i j n : Nat} (hj : j < n) (h : domP g lf i j) : domL g lf n (i + 1) = domL g lf n i ++ [(i : Int)] := if_pos (decP_true.2 ⟨j, hj, h⟩)
theorem dom_miss {g : Nat → Nat} {lf : Bool} {i n : Nat} (h : ∀ x, x < n → ¬ domP g lf i x) : domL g lf n (i + 1) = domL g lf n i := if_neg fun e => by
  obtain ⟨k, hk, hp⟩ := decP_true.1 e
  exact h k hk hp
theorem dom_len {g : Nat → Nat} {lf : Bool} {n : Nat} : ∀ i, (domL g lf n i).length ≤ i ∧ ∀ z ∈ domL g lf n i, z < (i : Int)
  | 0 => ⟨Nat.le_refl 0, fun z hz => by cases hz⟩
  | i + 1 => by
    obtain ⟨h1, h2⟩ := dom_len (g := g) (lf := lf) (n := n) i
    unfold domL
    split
    · refine ⟨by rw [List.length_append, List.length_singleton]; omega, fun z hz => ?_⟩
      rcases List.mem_append.1 hz with hz | hz
      · have := h2 z hz; omega
      · simp at hz; omega
    · exact ⟨by omega, fun z hz => by have := h2 z hz; omega⟩
theorem dom_congr {g h : Nat → Nat} {lf : Bool} {n : Nat} (e : ∀ k, k < n → g k = h k) : ∀ i, i ≤ n → domL g lf n i = domL h lf n i
  | 0, _ => rfl
  | i + 1, hi => by
    have hb : domB g lf i n = domB h lf i n := decP_iff ⟨fun ⟨k, hk, p⟩ => ⟨k, hk, by unfold domP at p ⊢; rw [← e k hk, ← e i (by omega)]; exact p⟩, fun ⟨k, hk, p⟩ => ⟨k, hk, by unfold domP at p ⊢; rw [e k hk, e i (by omega)]; exact p⟩⟩
    unfold domL
    rw [hb, dom_congr e i (by omega)]
/-- The reference's row while option i is looked at. -/
def domI (D : List Int) (b : Bool) (i : Int) : List Int := if b = true then D ++ [i] else D
theorem domI_start {g : Nat → Nat} {lf : Bool} {D : List Int} {i : Nat} : D = domI D (domB g lf i 0) i := by
  have : domB g lf i 0 = false := decP_false.2 fun ⟨k, hk, _⟩ => absurd hk (Nat.not_lt_zero k)
  rw [this]; rfl
theorem domI_no {g : Nat → Nat} {lf : Bool} {D O : List Int} {i j : Nat} (h : O = domI D (domB g lf i j) i) (hn : ¬ domP g lf i j) : O = domI D (domB g lf i (j + 1)) i := by
  have : domB g lf i (j + 1) = domB g lf i j := decP_iff ⟨fun ⟨k, hk, p⟩ => ⟨k, by
    by_cases he : k = j
    · exact absurd (he ▸ p) hn
    · omega, p⟩, fun ⟨k, hk, p⟩ => ⟨k, by omega, p⟩⟩
  rw [this]; exact h
theorem putL_high : ∀ {D : List Int} {i : Int}, (∀ z ∈ D, z < i) → putL D i = D ++ [i]
  | [], _, _ => rfl
  | x :: r, i, h => by
    unfold putL
    rw [if_pos (h x List.mem_cons_self), putL_high fun z hz => h z (List.mem_cons_of_mem _ hz)]; rfl
theorem putL_twice : ∀ {D : List Int} {i : Int}, (∀ z ∈ D, z < i) → putL (D ++ [i]) i = D ++ [i]
  | [], i, _ => by simp [putL]
  | x :: r, i, h => by
    show putL (x :: (r ++ [i])) i = _
    unfold putL
    rw [if_pos (h x List.mem_cons_self), putL_twice fun z hz => h z (List.mem_cons_of_mem _ hz)]; rfl
theorem domI_yes {g : Nat → Nat} {lf : Bool} {D O : List Int} {i j : Nat} (h : O = domI D (domB g lf i j) i) (hD : ∀ z ∈ D, z < (i : Int)) (hy : domP g lf i j) : putL O i = domI D (domB g lf i (j + 1)) i := by
  have : domB g lf i (j + 1) = true := decP_true.2 ⟨j, Nat.lt_succ_self j, hy⟩
  rw [this, h]
  unfold domI
  rw [if_pos rfl]
  split
  · exact putL_twice hD
  · exact putL_high hD
theorem domI_len {D : List Int} {b : Bool} {i : Int} : (domI D b i).length ≤ D.length + 1 := by
  unfold domI; split
  · rw [List.length_append]; exact Nat.le_refl _
  · omega
theorem domI_end {g : Nat → Nat} {lf : Bool} {n i : Nat} {O : List Int} (h : O = domI (domL g lf n i) (domB g lf i n) i) : O = domL g lf n (i + 1) := h
/-- The table may be asked for any pair. -/
def KAll (ns : List Nd) (ks : List Int) : Prop := ks.length = ns.length * ns.length ∧ ∀ m, KOk ns ks m
theorem KAll.res {ns : List Nd} {ks k1 : List Int} {m : Nat} (h : KAll ns ks) (k : KRes ns ks k1 m) : KAll ns k1 := by
  refine ⟨k.len.trans h.1, fun m' i j hi hj hs => ?_⟩
  by_cases hlt : i + j < m
  · exact k.ok i j hi hj hlt
  · rw [k.same i j hi hj (by omega)]; exact h.2 m' i j hi hj hs
theorem KAll.zero {ns : List Nd} : KAll ns (List.replicate (ns.length * ns.length) 0) := ⟨by simp, fun _ => KOk.zero⟩
def gX (q : PSt) (xs : List Int) (i : Nat) : Nat := pd q (xs.getD i 0)
def gN (ns : List Nd) (xs : List Int) (i : Nat) : Nat := den ns (xs.getD i 0).toNat
/-- A row that is only read is as it was behind a call that turns other blocks. -/
theorem Gadd.turn {S : Nat → Prop} {G0 G G' : Pin} {w0 w w' : World} {v : Value} (h : Pins (Gadd G0 w0 v) w) (hP : Pins G0 w') (hx : Ext S G w G' w') (hS : ∀ k, v.ownBlock = some k → ¬ S k) : Pins (Gadd G0 w0 v) w' := fun b o u hu => by
  rcases hu with hu | hu
  · exact hP b o u hu
  · have h1 := h b o u (Or.inr hu)
    have h2 := hx.block b (block_lt h1) (hS b hu.1)
    unfold World.cell? at h1 ⊢
    simp only [h2]; exact h1
/-- What loaded tells: the game's place and its options' places in the form's order. -/
structure LoadedOk (fs : List Nd) (q : PSt) (z : Int) (xs ys : List Int) : Prop where
  at_ : PlaceOk q z ∧ pd q z = gOf fs
  l : xs.length = (lastN fs).l.length ∧ ∀ i, i < xs.length → PlaceOk q (xs.getD i 0) ∧ gX q xs i = gN fs (lastN fs).l i
  r : ys.length = (lastN fs).r.length ∧ ∀ i, i < ys.length → PlaceOk q (ys.getD i 0) ∧ gX q ys i = gN fs (lastN fs).r i
theorem LdOk.loaded {fs : List Nd} {q q2 : PSt} {ats : List Int} (h : LdOk fs q q2 fs.length ats) (hf : FormOk fs) (h1 : 1 ≤ fs.length) : LoadedOk fs q2 (ats.getD (fs.length - 1) 0) (atL ats (lastN fs).l) (atL ats (lastN fs).r) := by
  have oo := optsAt hf.opts (show fs.length - 1 < fs.length by omega)
  have side : ∀ l : List Int, (∀ o ∈ l, 0 ≤ o ∧ o < ((fs.length - 1 : Nat) : Int)) → (atL ats l).length = l.length ∧ ∀ i, i < (atL ats l).length → PlaceOk q2 ((atL ats l).getD i 0) ∧ gX q2 (atL ats l) i = gN fs l i := fun l hl => by
    refine ⟨at_length, fun i hi => ?_⟩
    rw [at_length] at hi
    have := hl _ (getD_mem (d := (0 : Int)) hi)
    have hp := h.pl (l.getD i 0).toNat (by omega)
    unfold gX gN
    rw [at_getD hi]
    exact hp
  exact ⟨h.root h1, side _ oo.1, side _ oo.2⟩
theorem LoadedOk.same {fs : List Nd} {q q2 : PSt} {z : Int} {xs ys : List Int} (h : LoadedOk fs q z xs ys) (hn : q2.ns = q.ns ∧ q2.bs = q.bs) : LoadedOk fs q2 z xs ys :=
  ⟨⟨h.at_.1.same hn, (pd_same hn).trans h.at_.2⟩, ⟨h.l.1, fun i hi => ⟨(h.l.2 i hi).1.same hn, (pd_same hn).trans (h.l.2 i hi).2⟩⟩, ⟨h.r.1, fun i hi => ⟨(h.r.2 i hi).1.same hn, (pd_same hn).trans (h.r.2 i hi).2⟩⟩⟩
noncomputable def doL (fs : List Nd) : List Int := if goodB fs = true then domL (gN fs (lastN fs).l) true (lastN fs).l.length (lastN fs).l.length else []
noncomputable def doR (fs : List Nd) : List Int := if goodB fs = true then domL (gN fs (lastN fs).r) false (lastN fs).r.length (lastN fs).r.length else []
theorem do_bad {fs : List Nd} (h : goodB fs = false) : doL fs = [] ∧ doR fs = [] := ⟨if_neg (by rw [h]; exact Bool.false_ne_true), if_neg (by rw [h]; exact Bool.false_ne_true)⟩
theorem do_good {fs : List Nd} (h : goodB fs = true) : doL fs = domL (gN fs (lastN fs).l) true (lastN fs).l.length (lastN fs).l.length ∧ doR fs = domL (gN fs (lastN fs).r) false (lastN fs).r.length (lastN fs).r.length := ⟨if_pos h, if_pos h⟩
theorem LoadedOk.doL {fs : List Nd} {q : PSt} {z : Int} {xs ys : List Int} (h : LoadedOk fs q z xs ys) (hg : goodB fs = true) : domL (gX q xs) true xs.length xs.length = GL.doL fs := by
  rw [(do_good hg).1, dom_congr (fun k hk => (h.l.2 k hk).2) _ (Nat.le_refl _), h.l.1]
theorem LoadedOk.doR {fs : List Nd} {q : PSt} {z : Int} {xs ys : List Int} (h : LoadedOk fs q z xs ys) (hg : goodB fs = true) : domL (gX q ys) false ys.length ys.length = GL.doR fs := by
  rw [(do_good hg).2, dom_congr (fun k hk => (h.r.2 k hk).2) _ (Nat.le_refl _), h.r.1]
theorem inV_O {G G' : Pin} {w w' : World} {v : Value} (h : Ext (inV [v]) G w G' w') : Ext (inO v.ownBlock) G w G' w' :=
  ⟨h.le, h.pins, h.fresh, h.os, h.tape, h.output, h.size, fun k hk hs => h.block k hk fun ⟨u, hu, e⟩ => hs (by cases List.mem_singleton.1 hu; exact e)⟩
/-- A good form is its own book. -/
theorem self_book {fs : List Nd} (h : GoodP fs) : addM [] [] fs = (idx fs.length, fs, births fs) ∧ rootM [] [] fs = ((fs.length - 1 : Nat) : Int) ∧ BookOk fs (births fs) ∧ 1 ≤ fs.length := by
  have sg := good_sg h
  have e := addM_self sg.wf sg.diff
  have hb := (addM_all book_empty (good_form h) (by have := h.hi; simp; omega)).book
  rw [e] at hb
  exact ⟨e, root_self sg.wf sg.diff h.lo, hb, h.lo⟩
theorem last_bounds {fs : List Nd} (h : GoodP fs) : ((lastN fs).l.length ≤ 1048576 ∧ ∀ i, i < (lastN fs).l.length → 0 ≤ (lastN fs).l.getD i 0 ∧ (lastN fs).l.getD i 0 < fs.length) ∧ ((lastN fs).r.length ≤ 1048576 ∧ ∀ i, i < (lastN fs).r.length → 0 ≤ (lastN fs).r.getD i 0 ∧ (lastN fs).r.getD i 0 < fs.length) := by
  have hf := good_form h
  have h1 := h.lo
  have oo : (∀ o ∈ (lastN fs).l, 0 ≤ o ∧ o < ((fs.length - 1 : Nat) : Int)) ∧ (∀ o ∈ (lastN fs).r, 0 ≤ o ∧ o < ((fs.length - 1 : Nat) : Int)) := optsAt hf.opts (show fs.length - 1 < fs.length by omega)
  have hl : (lastN fs).l.length ≤ 1048576 ∧ (lastN fs).r.length ≤ 1048576 := hf.lens (fs.length - 1) (by omega)
  exact ⟨⟨hl.1, fun i hi => by have := oo.1 _ (getD_mem (d := (0 : Int)) hi); omega⟩, ⟨hl.2, fun i hi => by have := oo.2 _ (getD_mem (d := (0 : Int)) hi); omega⟩⟩
theorem do_len {fs : List Nd} : (doL fs).length ≤ 1048576 ∧ (doR fs).length ≤ 1048576 := by
  cases h : goodB fs
  · rw [(do_bad h).1, (do_bad h).2]; exact ⟨Nat.zero_le _, Nat.zero_le _⟩
  · have hb := last_bounds (goodB_true.1 h)
    rw [(do_good h).1, (do_good h).2]
    exact ⟨Nat.le_trans (dom_len _).1 hb.1.1, Nat.le_trans (dom_len _).1 hb.2.1⟩
/-! ### reversible options -/
/-- Option o of game g is reversible. -/
def revP (lf : Bool) (g o : Nat) : Prop := if lf = true then ∃ x, roG o x ∧ geG g x else ∃ x, loG o x ∧ geG x g
theorem rev_t {g o : Nat} : revP true g o ↔ ∃ x, roG o x ∧ geG g x := by unfold revP; rw [if_pos rfl]
theorem rev_f {g o : Nat} : revP false g o ↔ ∃ x, loG o x ∧ geG x g := by unfold revP; rw [if_neg Bool.false_ne_true]
noncomputable def revL (g : Nat → Nat) (f : Nat) (lf : Bool) : Nat → List Int
  | 0 => []
  | i + 1 => if decP (revP lf f (g i)) = true then revL g f lf i ++ [(i : Int)] else revL g f lf i
theorem rev_len {g : Nat → Nat} {f : Nat} {lf : Bool} : ∀ i, (revL g f lf i).length ≤ i
  | 0 => Nat.le_refl 0
  | i + 1 => by
    have := rev_len (g := g) (f := f) (lf := lf) i
    unfold revL
    split
    · rw [List.length_append, List.length_singleton]; omega
    · omega
theorem rev_hit {g : Nat → Nat} {f : Nat} {lf : Bool} {i : Nat} (h : revP lf f (g i)) : revL g f lf (i + 1) = revL g f lf i ++ [(i : Int)] := if_pos (decP_true.2 h)
theorem rev_miss {g : Nat → Nat} {f : Nat} {lf : Bool} {i : Nat} (h : ¬ revP lf f (g i)) : revL g f lf (i + 1) = revL g f lf i := if_neg fun e => h (decP_true.1 e)
theorem rev_congr {g h : Nat → Nat} {f : Nat} {lf : Bool} : ∀ n, (∀ k, k < n → g k = h k) → revL g f lf n = revL h f lf n
  | 0, _ => rfl
  | i + 1, e => by
    unfold revL
    rw [e i (Nat.lt_succ_self i), rev_congr i fun k hk => e k (by omega)]
noncomputable def reL (fs : List Nd) : List Int := if goodB fs = true then revL (gN fs (lastN fs).l) (gOf fs) true (lastN fs).l.length else []
noncomputable def reR (fs : List Nd) : List Int := if goodB fs = true then revL (gN fs (lastN fs).r) (gOf fs) false (lastN fs).r.length else []
theorem re_bad {fs : List Nd} (h : goodB fs = false) : reL fs = [] ∧ reR fs = [] := ⟨if_neg (by rw [h]; exact Bool.false_ne_true), if_neg (by rw [h]; exact Bool.false_ne_true)⟩
theorem re_good {fs : List Nd} (h : goodB fs = true) : reL fs = revL (gN fs (lastN fs).l) (gOf fs) true (lastN fs).l.length ∧ reR fs = revL (gN fs (lastN fs).r) (gOf fs) false (lastN fs).r.length := ⟨if_pos h, if_pos h⟩
theorem re_len {fs : List Nd} : (reL fs).length ≤ 1048576 ∧ (reR fs).length ≤ 1048576 := by
  cases h : goodB fs
  · rw [(re_bad h).1, (re_bad h).2]; exact ⟨Nat.zero_le _, Nat.zero_le _⟩
  · have hb := last_bounds (goodB_true.1 h)
    rw [(re_good h).1, (re_good h).2]
    exact ⟨Nat.le_trans (rev_len _) hb.1.1, Nat.le_trans (rev_len _) hb.2.1⟩
theorem LoadedOk.reL {fs : List Nd} {q : PSt} {z : Int} {xs ys : List Int} (h : LoadedOk fs q z xs ys) (hg : goodB fs = true) : revL (gX q xs) (pd q z) true xs.length = GL.reL fs := by
  rw [(re_good hg).1, rev_congr _ (fun k hk => (h.l.2 k hk).2), h.l.1, h.at_.2]
theorem LoadedOk.reR {fs : List Nd} {q : PSt} {z : Int} {xs ys : List Int} (h : LoadedOk fs q z xs ys) (hg : goodB fs = true) : revL (gX q ys) (pd q z) false ys.length = GL.reR fs := by
  rw [(re_good hg).2, rev_congr _ (fun k hk => (h.r.2 k hk).2), h.r.1, h.at_.2]
/-- What a look through the options of an option at place o tells: a place there, or -1. -/
def thrP (ns : List Nd) (lf : Bool) (f o t : Int) : Prop := (0 ≤ t ↔ revP lf (den ns f.toNat) (den ns o.toNat)) ∧ (0 ≤ t ∨ t = -1)
theorem thr_hit {ns : List Nd} (ho : OptsOk ns) {lf : Bool} {f o t : Int} (hp : 0 ≤ o ∧ o < ns.length) (h : (lf = true ∧ t ∈ (ns.getD o.toNat default).r ∧ geB ns f t = true) ∨ (lf = false ∧ t ∈ (ns.getD o.toNat default).l ∧ geB ns t f = true)) : thrP ns lf f o t := by
  have oo := optsAt ho (show o.toNat < ns.length by omega)
  rcases h with ⟨rfl, h1, h2⟩ | ⟨rfl, h1, h2⟩
  · have h0 := (oo.2 t h1).1
    exact ⟨⟨fun _ => rev_t.2 ⟨_, (ro_den ho (by omega)).2 ⟨t, h1, rfl⟩, decP_true.1 h2⟩, fun _ => h0⟩, Or.inl h0⟩
  · have h0 := (oo.1 t h1).1
    exact ⟨⟨fun _ => rev_f.2 ⟨_, (lo_den ho (by omega)).2 ⟨t, h1, rfl⟩, decP_true.1 h2⟩, fun _ => h0⟩, Or.inl h0⟩
theorem thr_none_t {ns : List Nd} (ho : OptsOk ns) {f o : Int} (hp : 0 ≤ o ∧ o < ns.length) (h : ∀ i, i < (ns.getD o.toNat default).r.length → geB ns f ((ns.getD o.toNat default).r.getD i 0) = false) : thrP ns true f o (-1) := by
  refine ⟨⟨fun h => absurd h (by decide), fun hr => ?_⟩, Or.inr rfl⟩
  obtain ⟨x, hx, hg⟩ := rev_t.1 hr
  obtain ⟨z, hz, rfl⟩ := (ro_den ho (by omega)).1 hx
  obtain ⟨i, hi, rfl⟩ := List.getElem_of_mem hz
  have e : (ns.getD o.toNat default).r.getD i 0 = (ns.getD o.toNat default).r[i] := by rw [List.getD, List.getElem?_eq_getElem hi]; rfl
  have := h i hi
  rw [e] at this
  exact absurd hg (decP_false.1 this)
theorem thr_none_f {ns : List Nd} (ho : OptsOk ns) {f o : Int} (hp : 0 ≤ o ∧ o < ns.length) (h : ∀ i, i < (ns.getD o.toNat default).l.length → geB ns ((ns.getD o.toNat default).l.getD i 0) f = false) : thrP ns false f o (-1) := by
  refine ⟨⟨fun h => absurd h (by decide), fun hr => ?_⟩, Or.inr rfl⟩
  obtain ⟨x, hx, hg⟩ := rev_f.1 hr
  obtain ⟨z, hz, rfl⟩ := (lo_den ho (by omega)).1 hx
  obtain ⟨i, hi, rfl⟩ := List.getElem_of_mem hz
  have e : (ns.getD o.toNat default).l.getD i 0 = (ns.getD o.toNat default).l[i] := by rw [List.getD, List.getElem?_eq_getElem hi]; rfl
  have := h i hi
  rw [e] at this
  exact absurd hg (decP_false.1 this)
end Go.GL
