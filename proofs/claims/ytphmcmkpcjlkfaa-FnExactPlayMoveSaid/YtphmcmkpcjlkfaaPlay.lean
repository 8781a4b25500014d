/- What PlayMove answers, and what its walks lean on. -/
import Derived.Test.YtphmcmkpcjlkfaaOpts
namespace Go.GL
open Go Go.RowKit
/-! ### a class of worlds that grows narrower on the way -/
theorem dr_weak {P : Program} {md : Region.Mode} {ops : Array Oper} {Q : Exit → Act → World → Prop} {S S' : World → Prop} {last : Nat} (hS : ∀ w, S' w → S w) : ∀ (fuel : Nat) (listed : Array Bool) (a : Act) (w : World), dr P md ops Q S' last fuel listed a w → dr P md ops Q S last fuel listed a w
  | 0, _, _, _, h => h
  | fuel + 1, _, _, _, h => ⟨h.1, fun i hi => wpOp_mono (fun a' w' h' => ⟨fun hne => hS _ (h'.1 hne), dr_weak hS fuel _ a' w' h'.2⟩) (h.2 i hi)⟩
theorem dr_more {P : Program} {ops : Array Oper} {Q : Exit → Act → World → Prop} {S' S : World → Prop} {last fuel : Nat} {listed : Array Bool} {a : Act} {w : World} (hS : ∀ w, S' w → S w) (h : DR P ops Q S' last fuel listed a w) : DR P ops Q S last fuel listed a w :=
  ⟨dr_weak hS _ _ _ _ h.out⟩
theorem DForm.give {en e : Nat} {G G' : Pin} {w w' : World} {v : Value} {ns : List Nd} (h : DForm en e G' w' w.heap.size w'.heap.size v ns) (hx : Ext noS G w G' w') : ∃ G'', RSl eNode G'' v ns ∧ Ext noS G w G'' w' := by
  obtain ⟨G'', h1, h2, h3, h4⟩ := h.read hx.pins
  refine ⟨G'', h3, Pin.le_trans hx.le h1, h2, fun b o x hb => ?_, hx.os, hx.tape, hx.output, hx.size, hx.block⟩
  rcases h4 b o x hb with a | a
  · exact hx.fresh b o x a
  · exact Or.inr a
/-- A box that is apart from all forms is written. -/
theorem DCh.keptB {en e lo hi b : Nat} {G : Pin} {w w' : World} {R : Option Nat} {us : List Value} {fs : List (List Nd)} (h : DCh en e G w R lo hi us fs) (hg : w.grownBy w' (some b)) (hb : hi ≤ b ∨ b < lo) : DCh en e G w' R lo hi us fs :=
  h.map fun l m _ _ h1 h2 _ hd => hd.kept hg (by omega)
/-! ### what PlayMove answers -/
def playAt (lf : Bool) (fs : List (List Nd)) (p o : Int) (i : Nat) : List Nd := if (i : Int) = p then partS (fs.getD i []) ((optL lf (fs.getD i [])).getD o.toNat 0) else fs.getD i []
def playF (lf : Bool) (fs : List (List Nd)) (p o : Int) (k : Nat) : List (List Nd) := (List.range k).map (playAt lf fs p o)
theorem playF_next (lf : Bool) (fs : List (List Nd)) (p o : Int) (k : Nat) : playF lf fs p o k ++ [playAt lf fs p o k] = playF lf fs p o (k + 1) := by simp [playF, List.range_succ]
theorem playF_length (lf : Bool) (fs : List (List Nd)) (p o : Int) (k : Nat) : (playF lf fs p o k).length = k := by simp [playF]
theorem play_yes {lf : Bool} {fs : List (List Nd)} {p o : Int} {i : Nat} (h : (i : Int) = p) : playAt lf fs p o i = partS (fs.getD i []) ((optL lf (fs.getD i [])).getD o.toNat 0) := if_pos h
theorem play_no {lf : Bool} {fs : List (List Nd)} {p o : Int} {i : Nat} (h : ¬ (i : Int) = p) : playAt lf fs p o i = fs.getD i [] := if_neg h
theorem side_at {lf : Bool} {ns : List Nd} {o : Int} (h : o.toNat < (optL lf ns).length) : (sideS lf ns).getD o.toNat [] = partS ns ((optL lf ns).getD o.toNat 0) := by simp [sideS, optsS, List.getD, h]
structure PlayP (lf : Bool) (fs : List (List Nd)) (p o : Int) : Prop where
  len : fs.length ≤ 6
  good : ∀ i, i < fs.length → goodB (fs.getD i []) = true
  part : 0 ≤ p ∧ p < fs.length
  opt : 0 ≤ o ∧ o < (optL lf (fs.getD p.toNat [])).length
noncomputable def plOk (lf : Bool) (fs : List (List Nd)) (p o : Int) : Bool := decP (PlayP lf fs p o)
noncomputable def plL (lf : Bool) (fs : List (List Nd)) (p o : Int) : List (List Nd) := if plOk lf fs p o = true then playF lf fs p o fs.length else []
noncomputable def plB (lf : Bool) (fs : List (List Nd)) (p o : Int) : Bool := if plOk lf fs p o = true then !lf else false
theorem pl_no {lf : Bool} {fs : List (List Nd)} {p o : Int} (h : ¬ PlayP lf fs p o) : plOk lf fs p o = false ∧ plL lf fs p o = [] ∧ plB lf fs p o = false := by
  have e : plOk lf fs p o = false := decP_false.2 h
  refine ⟨e, ?_, ?_⟩
  · unfold plL; rw [e]; rfl
  · unfold plB; rw [e]; rfl
theorem pl_yes {lf : Bool} {fs : List (List Nd)} {p o : Int} (h : PlayP lf fs p o) : plOk lf fs p o = true ∧ plL lf fs p o = playF lf fs p o fs.length ∧ plB lf fs p o = !lf := by
  have e : plOk lf fs p o = true := decP_true.2 h
  refine ⟨e, ?_, ?_⟩
  · unfold plL; rw [e]; rfl
  · unfold plB; rw [e]; rfl
theorem PlayP.hgt {lf : Bool} {fs : List (List Nd)} {p o : Int} (h : PlayP lf fs p o) : goodT fs = true := decP_true.2 ⟨h.len, h.good⟩
theorem playP_of {lf : Bool} {fs : List (List Nd)} {p o : Int} (h : goodT fs = true) (h1 : 0 ≤ p ∧ p < fs.length) (h2 : 0 ≤ o ∧ o < (optL lf (fs.getD p.toNat [])).length) : PlayP lf fs p o :=
  ⟨(decP_true.1 h).1, (decP_true.1 h).2, h1, h2⟩
theorem good_lens {ns : List Nd} (g : GoodP ns) : ns.length ≤ 120 ∧ ∀ n ∈ ns, n.l.length ≤ 24 ∧ n.r.length ≤ 24 := by
  refine ⟨g.hi, fun n hn => ?_⟩
  obtain ⟨i, hi, rfl⟩ := List.getElem_of_mem hn
  have a := g.lenl hi; have b := g.lenr hi
  have e : ns.getD i default = ns[i] := by simp [List.getD, hi]
  rw [e] at a b; exact ⟨a, b⟩
theorem pl_small (lf : Bool) (fs : List (List Nd)) (p o : Int) : SmallF (plL lf fs p o) := by
  by_cases h : PlayP lf fs p o
  · obtain ⟨_, e, _⟩ := pl_yes h
    rw [e]
    have hl := h.len
    refine smallF_lens (by rw [playF_length]; omega) fun f hf => ?_
    unfold playF at hf
    obtain ⟨i, hi, rfl⟩ := List.mem_map.1 hf
    have hi' := List.mem_range.1 hi
    have g := goodB_true.1 (h.good i hi')
    by_cases he : (i : Int) = p
    · rw [play_yes he]
      have ho := h.opt
      have hp : p.toNat = i := by omega
      rw [hp] at ho
      have h1 := optL_at g lf o.toNat (by omega)
      rw [part_eq g h1]
      exact part_lens g (by omega)
    · rw [play_no he]; exact good_lens g
  · obtain ⟨_, e, _⟩ := pl_no h
    rw [e]
    exact ⟨by simp, fun i hi => by simp at hi, by decide⟩
theorem play_small {lf : Bool} {fs : List (List Nd)} {p o : Int} (h : PlayP lf fs p o) {i : Nat} (hi : i < fs.length) : Small (playAt lf fs p o i) := by
  have hs := pl_small lf fs p o
  obtain ⟨_, e, _⟩ := pl_yes h
  rw [e] at hs
  have h1 := hs.small i (by rw [playF_length]; exact hi)
  have e2 : (playF lf fs p o fs.length).getD i [] = playAt lf fs p o i := by simp [playF, List.getD, hi]
  rwa [e2] at h1
theorem goodT_lo {fs : List (List Nd)} (h : goodT fs = true) {i : Nat} (hi : i < fs.length) : GoodP (fs.getD i []) := goodB_true.1 ((decP_true.1 h).2 i hi)
theorem copy_leaf {ps : List (Value × Value)} {ns : List Nd} {j : Nat} {LV : List Leaf} {u v : Value} (h : LV = lvN ps (ns.take j)) (hj : j < ns.length) (hl : ps.length = j) :
    LV ++ [(u, (ns.getD j default).l)] ++ [(v, (ns.getD j default).r)] = lvN (ps ++ [(u, v)]) (ns.take (j + 1)) := by
  subst h
  rw [take_snoc ns default hj, lvN_snoc _ _ _ _ (by simp; omega)]
end Go.GL
