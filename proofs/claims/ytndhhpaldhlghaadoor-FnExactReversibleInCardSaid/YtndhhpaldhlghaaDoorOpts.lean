/- Parts of forms in memory: what the walks of OptionsOf lean on. -/
import Derived.Test.YtndhhpaldhlghaaDoorPart
namespace Go.GL
open Go Go.RowKit
theorem markN_at {kz q : Int} {ns : List Nd} {j : Nat} (h : j < ns.length) (hm : (markN kz ns).drop j = markN q (ns.drop j)) :
    ((markN kz ns).getD j default).l = upL q (ns.getD j default).l.length ∧ ((markN kz ns).getD j default).r = upL (q + ((ns.getD j default).l.length : Int)) (ns.getD j default).r.length ∧
    (markN kz ns).drop (j + 1) = markN (q + ((ns.getD j default).l.length : Int) + ((ns.getD j default).r.length : Int)) (ns.drop (j + 1)) := by
  have hl := markN_length kz ns
  rw [drop_getD ns default h, drop_getD (markN kz ns) default (by omega)] at hm
  have h1 := (List.cons.inj hm).1
  exact ⟨by rw [h1], by rw [h1], (List.cons.inj hm).2⟩
/-- Two promises that are wider, in one. -/
theorem join_pins {G G1 G2 : Pin} {w : World} {lo1 lo2 : Nat} (h1 : Pin.le G G1) (p1 : Pins G1 w) (p2 : Pins G2 w) (f1 : ∀ b o x, G1 b o x → G b o x ∨ lo1 ≤ b) (f2 : ∀ b o x, G2 b o x → G b o x ∨ lo2 ≤ b) :
    ∃ G3, Pin.le G G3 ∧ Pin.le G1 G3 ∧ Pin.le G2 G3 ∧ Pins G3 w ∧ ∀ b o x, G3 b o x → G b o x ∨ min lo1 lo2 ≤ b :=
  ⟨fun b o x => G1 b o x ∨ G2 b o x, fun b o x h => Or.inl (h1 b o x h), fun _ _ _ h => Or.inl h, fun _ _ _ h => Or.inr h, fun b o x h => h.elim (p1 b o x) (p2 b o x), fun b o x h => by
    rcases h with h | h
    · rcases f1 b o x h with h | h
      · exact Or.inl h
      · exact Or.inr (by omega)
    · rcases f2 b o x h with h | h
      · exact Or.inl h
      · exact Or.inr (by omega)⟩
theorem at_getD {a l : List Int} {i : Nat} (h : i < l.length) : (atL a l).getD i 0 = a.getD (l.getD i 0).toNat 0 := by simp [atL, List.getD, h]
theorem part_leaf {u : Nat → Bool} {ns : List Nd} {j : Nat} {ps : List (Value × Value)} {LV : List Leaf} {names : List Int} {x y : Value} {n : Nd} (hn : n = ns.getD j default) (h : LV = lvN ps (partN u ns j)) (hp : ps.length = posU u j) (hu : u j = true) (ho : PartOk u (j + 1) names)
    (hl : ∀ z ∈ (ns.getD j default).l, 0 ≤ z ∧ z < ((j + 1 : Nat) : Int) ∧ u z.toNat = true) (hr : ∀ z ∈ (ns.getD j default).r, 0 ≤ z ∧ z < ((j + 1 : Nat) : Int) ∧ u z.toNat = true) :
    LV ++ [(x, atL names n.l)] ++ [(y, atL names n.r)] = lvN (ps ++ [(x, y)]) (partN u ns (j + 1)) := by
  subst hn
  rw [partN_yes hu, lvN_snoc _ _ _ _ (by rw [partN_length]; exact hp), part_ren ho hl, part_ren ho hr, h]
  rfl
theorem part_opts {ns : List Nd} {m j : Nat} (h : GoodP ns) (hm : m < ns.length) (hj : j ≤ m) (hu : useU ns m j = true) : (∀ z ∈ (ns.getD j default).l, 0 ≤ z ∧ z < ((j + 1 : Nat) : Int) ∧ useU ns m z.toNat = true) ∧ (∀ z ∈ (ns.getD j default).r, 0 ≤ z ∧ z < ((j + 1 : Nat) : Int) ∧ useU ns m z.toNat = true) := by
  obtain ⟨w, _, _⟩ := wf_good h
  have o := w.opts (k := j) (by omega)
  have c := used_closed w.ok.opts hm hj hu
  exact ⟨fun z hz => ⟨(o.1 z hz).1, by have := (o.1 z hz).2; omega, c.1 z hz⟩, fun z hz => ⟨(o.2 z hz).1, by have := (o.2 z hz).2; omega, c.2 z hz⟩⟩
def optsI (ns : List Nd) (l : List Int) : List (List Nd) := l.map fun z => partS ns z
theorem opts_eq (ns : List Nd) (l : List Int) : optsI ns l = optsS ns l := rfl
/-! ### what OptionsOf answers -/
noncomputable def opL (ns : List Nd) : List (List Nd) := if goodB ns = true then optsS ns (lastN ns).l else []
noncomputable def opR (ns : List Nd) : List (List Nd) := if goodB ns = true then optsS ns (lastN ns).r else []
theorem op_no {ns : List Nd} (h : goodB ns = false) : opL ns = [] ∧ opR ns = [] := by unfold opL opR; rw [h]; exact ⟨rfl, rfl⟩
theorem op_yes {ns : List Nd} (h : goodB ns = true) : opL ns = optsS ns (lastN ns).l ∧ opR ns = optsS ns (lastN ns).r := by unfold opL opR; rw [h]; exact ⟨rfl, rfl⟩
theorem renL_len (u : Nat → Bool) (l : List Int) : (renL u l).length = l.length := by simp [renL]
theorem part_lens {ns : List Nd} (h : GoodP ns) {m : Nat} (hm : m < ns.length) : (partI ns m).length ≤ 120 ∧ ∀ n ∈ partI ns m, n.l.length ≤ 24 ∧ n.r.length ≤ 24 := by
  refine ⟨by have := partI_len ns m; have := h.hi; omega, fun n hn => ?_⟩
  unfold partI partN at hn
  obtain ⟨z, hz, rfl⟩ := List.mem_map.1 hn
  have h1 := List.mem_range.1 (List.mem_filter.1 hz).1
  unfold nodeU
  rw [renL_len, renL_len]
  exact ⟨h.lenl (by omega), h.lenr (by omega)⟩
theorem small_lens {ns : List Nd} (h : ns.length ≤ 120 ∧ ∀ n ∈ ns, n.l.length ≤ 24 ∧ n.r.length ≤ 24) : Small ns ∧ totN ns ≤ 48 * (ns.length : Int) := by
  refine ⟨⟨by omega, fun i hi => ?_⟩, ?_⟩
  · have := h.2 _ (getD_mem (d := default) hi); omega
  · have key : ∀ l : List Nd, (∀ n ∈ l, n.l.length ≤ 24 ∧ n.r.length ≤ 24) → totN l ≤ 48 * (l.length : Int) := by
      intro l
      induction l with
      | nil => intro _; exact Int.le_refl _
      | cons x r ih =>
        intro hl
        have h1 := ih fun n hn => hl n (List.mem_cons_of_mem _ hn)
        have h2 := hl x List.mem_cons_self
        simp only [totN, List.length_cons]
        omega
    exact key ns h.2
theorem smallF_lens {fs : List (List Nd)} (hl : fs.length ≤ 24) (h : ∀ f ∈ fs, f.length ≤ 120 ∧ ∀ n ∈ f, n.l.length ≤ 24 ∧ n.r.length ≤ 24) : SmallF fs := by
  have key : ∀ l : List (List Nd), (∀ f ∈ l, f.length ≤ 120 ∧ ∀ n ∈ f, n.l.length ≤ 24 ∧ n.r.length ≤ 24) → totF l ≤ 5760 * (l.length : Int) := by
    intro l
    induction l with
    | nil => intro _; exact Int.le_refl _
    | cons x r ih =>
      intro hl
      have h1 := ih fun n hn => hl n (List.mem_cons_of_mem _ hn)
      have h2 := hl x List.mem_cons_self
      have h3 := (small_lens h2).2
      simp only [totF, List.length_cons]
      omega
  refine ⟨by omega, fun i hi => (small_lens (h _ (getD_mem hi))).1, by have := key fs h; omega⟩
theorem op_small (ns : List Nd) : SmallF (opL ns) ∧ SmallF (opR ns) := by
  by_cases hg : goodB ns = true
  · have g := goodB_true.1 hg
    have hh := g.hi
    obtain ⟨e1, e2⟩ := op_yes hg
    rw [e1, e2]
    have key : ∀ b, SmallF (optsS ns (optL b ns)) := fun b => by
      have hl := optL_len (left := b) g
      refine smallF_lens (by simpa [optsS] using hl) fun f hf => ?_
      unfold optsS at hf
      obtain ⟨z, hz, rfl⟩ := List.mem_map.1 hf
      obtain ⟨i, hi, rfl⟩ := List.getElem_of_mem hz
      have h1 := optL_at g b i hi
      have e : (optL b ns).getD i 0 = (optL b ns)[i] := by simp [List.getD, hi]
      rw [e] at h1
      rw [part_eq g h1]
      exact part_lens g (by omega)
    exact ⟨key true, key false⟩
  · obtain ⟨e1, e2⟩ := op_no (by simpa using hg)
    rw [e1, e2]
    have : SmallF [] := ⟨by simp, fun i hi => by simp at hi, by decide⟩
    exact ⟨this, this⟩
theorem row_avoid {R R' : Option Nat} {lo hi sz : Nat} (hw : R' = R ∨ ∃ k, R' = some k ∧ sz ≤ k) (hlt : ∀ b, R = some b → b < lo) (hs : hi ≤ sz) : ∀ b, R' = some b → hi ≤ b ∨ b < lo := fun b hb => by
  rcases hw with h | ⟨k, h, h2⟩
  · rw [h] at hb; exact Or.inr (hlt b hb)
  · rw [h] at hb; cases hb; exact Or.inl (Nat.le_trans hs h2)
theorem DForms.nil {en ef e lo hi : Nat} {G : Pin} {w : World} {v : Value} (ho : Own eVal ef G w lo v []) (hh : ∀ k, v.ownBlock = some k → k < hi) (hl : lo ≤ hi) : DForms en ef e G w lo hi v [] := ⟨⟨[], ho, hh, hl⟩⟩
end Go.GL
