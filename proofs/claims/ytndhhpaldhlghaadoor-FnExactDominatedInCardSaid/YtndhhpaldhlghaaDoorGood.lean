/- Plain law: the reference's good forms are just the program's. No program in sight. -/
import Derived.Test.YtndhhpaldhlghaaDoorGo
namespace Go.GL
theorem idx_neg {l : List Bool} {j : Int} : (∀ i, i < l.length → l.getD i false = true) → idxFrom false j l = -1 := by
  induction l generalizing j with
  | nil => intro _; rfl
  | cons x r ih =>
    intro h
    have h0 := h 0 (by simp)
    have e : x = true := by simpa [List.getD] using h0
    unfold idxFrom
    rw [e, if_neg (by decide)]
    exact ih fun i hi => by have := h (i + 1) (by simpa using hi); simpa [List.getD] using this
theorem idx_all {l : List Bool} {j : Int} (hj : 0 ≤ j) (h : idxFrom false j l < 0) : ∀ i, i < l.length → l.getD i false = true := by
  induction l generalizing j with
  | nil => intro i hi; simp at hi
  | cons x r ih =>
    unfold idxFrom at h
    cases x with
    | false => rw [if_pos rfl] at h; omega
    | true =>
      rw [if_neg (by decide)] at h
      intro i hi
      match i with
      | 0 => rfl
      | i + 1 => have := ih (by omega) h i (by simpa using hi); simpa [List.getD] using this
theorem reach_used {ns : List Nd} (h : 1 ≤ ns.length) : reachM ns (ns.length - 1) = usedM ns (ns.length - 1) := by
  unfold reachM usedM
  rw [show ns.length - 1 + 1 = ns.length by omega]
theorem nd_self {ns : List Nd} (w : Wf ns) {k : Nat} (hk : k < ns.length) {a : List Int} (ha : ∀ i, i < k → a.getD i 0 = i) : ndAt a (ns.getD k default) = ns.getD k default := by
  have h := self_at w hk ha
  unfold ndAt
  rw [h.1, h.2]
  exact self_nd w hk
theorem root_self {ns : List Nd} (w : Wf ns) (hd : Diff ns) (h : 1 ≤ ns.length) : rootM [] [] ns = ((ns.length - 1 : Nat) : Int) := by
  unfold rootM
  rw [addM_self w hd]
  simp only [idx_length]
  exact idx_getD (by omega)
theorem good_to {ns : List Nd} (h : GoodS ns) : GoodP ns := by
  have w : Wf ns := ⟨formOk_of h.fits h.rise, h.rise⟩
  have hlim := h.fits.lim
  have hao := addM_all book_empty w.ok (by simp; omega)
  have hroot := root_lt hao hlim.1
  have hsame := h.same
  have hcount := congrArg List.length hsame
  unfold formM at hcount
  rw [go_count] at hcount
  have hle := List.countP_le_length (p := fun j => (reachM (addM [] [] ns).2.1 (rootM [] [] ns).toNat).getD j false && decide (0 ≤ (addM [] [] ns).2.2.getD j 0 ∧ (addM [] [] ns).2.2.getD j 0 < (((addM [] [] ns).2.2.getD (rootM [] [] ns).toNat 0).toNat + 1 : Nat))) (l := List.range ((rootM [] [] ns).toNat + 1))
  rw [hcount, List.length_range] at hle
  have hd : Diff ns := addM_diff w (by omega)
  rw [root_self w hd hlim.1, addM_self w hd] at hsame
  simp only [Int.toNat_natCast] at hsame
  unfold formM at hsame
  rw [show ns.length - 1 + 1 = ns.length by omega] at hsame
  have hcnt := congrArg List.length hsame
  rw [go_count] at hcnt
  have hall := List.countP_eq_length.1 (hcnt.trans List.length_range.symm)
  obtain ⟨fa, go⟩ := go_ok (need := reachM ns (ns.length - 1)) (lower_births w.ok.opts) (Nat.le_refl ns.length) (((births ns).getD (ns.length - 1) 0).toNat + 1)
  have hpr : ∀ j, j < ns.length → (reachM ns (ns.length - 1)).getD j false = true ∧ 0 ≤ (births ns).getD j 0 ∧ (births ns).getD j 0 < (((births ns).getD (ns.length - 1) 0).toNat + 1 : Nat) := fun j hj => by
    have := hall j (List.mem_range.2 hj)
    simp only [Bool.and_eq_true, decide_eq_true_eq] at this
    exact ⟨this.1, this.2.1, this.2.2⟩
  generalize hs : formGo ns (births ns) (reachM ns (ns.length - 1)) ns.length (((births ns).getD (ns.length - 1) 0).toNat + 1) = s at go hsame
  have hmap : ns = fa.map (ndz ns s.1) := hsame.symm.trans go.map
  have hlen : fa.length = ns.length := by have := congrArg List.length hmap; simpa using this.symm
  have hget : ∀ p, p < ns.length → ns.getD p default = ndz ns s.1 (fa.getD p 0) := fun p hp => by
    have e : (fa.map (ndz ns s.1)).getD p default = ndz ns s.1 (fa.getD p 0) := by simp [List.getD, hlen, hp]
    rw [← hmap] at e
    exact e
  have hfind : ∀ k, k < ns.length → ∃ p, p < ns.length ∧ fa.getD p 0 = k ∧ s.1.getD k 0 = p := fun k hk => by
    have hp := hpr k hk
    obtain ⟨p, hp1, hp2⟩ := List.getElem_of_mem (go.all k hk hp.1 hp.2.1 hp.2.2)
    have e : fa.getD p 0 = k := by simp [List.getD, hp1, hp2]
    have := go.pos p hp1
    rw [e] at this
    exact ⟨p, by omega, e, by simpa using this⟩
  have hid : ∀ k, k < ns.length → s.1.getD k 0 = k := by
    intro k
    induction k using Nat.strongRecOn with
    | _ k ih =>
      intro hk
      obtain ⟨p, hp, e1, e2⟩ := hfind k hk
      have e3 := hget p hp
      rw [e1] at e3
      have e4 : ndz ns s.1 (k : Int) = ns.getD k default := nd_self w hk fun i hi => ih i hi (by omega)
      rw [e4] at e3
      have : p = k := by
        by_cases h1 : p < k
        · exact absurd e3 (hd p k h1 hk)
        · by_cases h2 : k < p
          · exact absurd e3.symm (hd k p h2 hp)
          · omega
      rw [e2, this]
  have hfa : ∀ p, p < ns.length → fa.getD p 0 = p := fun p hp => by
    obtain ⟨q, hq, e1, e2⟩ := hfind p hp
    have := hid p hp
    have : q = p := by omega
    subst this; exact e1
  refine ⟨hlim.1, hlim.2, fun i hi => ?_, fun i h1 h2 => ?_, ?_⟩
  · have := h.fits.opts i hi
    exact ⟨goodOpts_iff.2 ⟨this.1, (h.rise i hi).1⟩, goodOpts_iff.2 ⟨this.2, (h.rise i hi).2⟩⟩
  · rw [pair_lt]
    have ho := List.pairwise_iff_getElem.1 go.order (i - 1) i (by omega) (by omega) (by omega)
    have e1 : fa[i - 1]'(by omega) = ((i - 1 : Nat) : Int) := by have := hfa (i - 1) (by omega); simpa [List.getD, show i - 1 < fa.length by omega] using this
    have e2 : fa[i]'(by omega) = (i : Int) := by have := hfa i h2; simpa [List.getD, show i < fa.length by omega] using this
    rw [e1, e2] at ho
    have n1 : ndz ns s.1 ((i - 1 : Nat) : Int) = ns.getD (i - 1) default := nd_self w (by omega) fun j hj => hid j (by omega)
    have n2 : ndz ns s.1 (i : Int) = ns.getD i default := nd_self w h2 fun j hj => hid j (by omega)
    rw [n1, n2] at ho
    simp only [Int.toNat_natCast] at ho
    rcases ho with ho | ⟨ho, ho'⟩
    · exact Or.inl ho
    · refine Or.inr ⟨ho, ?_⟩
      have : aheadI (ns.getD (i - 1) default) (ns.getD i default) ≠ 0 := fun e => hd (i - 1) i (by omega) h2 (ahead_zero.1 e)
      omega
  · unfold idxB
    rw [idx_neg fun i hi => ?_]
    · omega
    · rw [← reach_used hlim.1] at hi ⊢
      rw [reach_length] at hi
      exact (hpr i (by omega)).1
end Go.GL
