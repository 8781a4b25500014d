/- Plain law: the program's good forms are just the reference's. No program in sight. -/
import Derived.Test.YtndhhpaldhlghaaDoorGood
namespace Go.GL
theorem asc_idx {l : List Int} (h1 : l.Pairwise (· < ·)) (h2 : ∀ z ∈ l, 0 ≤ z) (h3 : ∀ z ∈ l, ∀ y : Int, 0 ≤ y → y < z → y ∈ l) : ∀ i, i < l.length → l.getD i 0 = i := by
  intro i
  induction i using Nat.strongRecOn with
  | _ i ih =>
    intro hi
    have hp := List.pairwise_iff_getElem.1 h1
    have e : ∀ j (hj : j < l.length), l.getD j 0 = l[j] := fun j hj => by simp [List.getD, hj]
    have hge : (i : Int) ≤ l.getD i 0 := by
      match i with
      | 0 => have := h2 _ (getD_mem (d := (0 : Int)) hi); omega
      | i + 1 =>
        have a := ih i (by omega) (by omega)
        have b := hp i (i + 1) (by omega) hi (by omega)
        rw [e _ hi]; rw [e _ (by omega)] at a; omega
    by_cases hlt : (i : Int) < l.getD i 0
    · have hm := h3 _ (getD_mem (d := (0 : Int)) hi) i (by omega) hlt
      obtain ⟨j, hj1, hj2⟩ := List.getElem_of_mem hm
      by_cases hji : j < i
      · have a := ih j hji hj1
        rw [e _ hj1, hj2] at a; omega
      · by_cases hji' : j = i
        · subst hji'; rw [e _ hi, hj2] at hlt; omega
        · have b := hp i j hi hj1 (by omega)
          rw [e _ hi] at hlt; omega
    · omega
/-- Strictly sorted, all pairs. -/
def SortedB (ns : List Nd) (bs : List Int) : Prop := ∀ i j, i < j → j < ns.length → bs.getD i 0 < bs.getD j 0 ∨ (bs.getD i 0 = bs.getD j 0 ∧ aheadI (ns.getD i default) (ns.getD j default) < 0)
theorem sorted_all {ns : List Nd} {bs : List Int} (h : ∀ i, 1 ≤ i → i < ns.length → pairC ns bs i < 0) : SortedB ns bs := by
  intro i j hij
  induction j with
  | zero => omega
  | succ j ih =>
    intro hj
    have h1 := pair_lt.1 (h (j + 1) (by omega) hj)
    simp only [Nat.add_sub_cancel] at h1
    by_cases he : i = j
    · subst he; exact h1
    · have h2 := ih (by omega) (by omega)
      rcases h1 with h1 | ⟨h1, h1'⟩ <;> rcases h2 with h2 | ⟨h2, h2'⟩
      · exact Or.inl (by omega)
      · exact Or.inl (by omega)
      · exact Or.inl (by omega)
      · exact Or.inr ⟨by omega, ahead_trans h2' h1'⟩
theorem map_idx {ns : List Nd} {s : Nat} (h : s ≤ ns.length) {l : List Int} (hl : l.length = s) (hi : ∀ i, i < s → l.getD i 0 = i) {f : Int → Nd} (hf : ∀ i : Nat, i < s → f i = ns.getD i default) : l.map f = ns.take s := by
  apply List.ext_getElem
  · simp; omega
  · intro i h1 h2
    simp at h1
    have a := hi i (by omega)
    have b := hf i (by omega)
    have e : l[i] = (i : Int) := by simpa [List.getD, h1] using a
    simp only [List.getElem_map, List.getElem_take, e, b]
    simp [List.getD, show i < ns.length by omega]
theorem go_id {ns : List Nd} {need : List Bool} (w : Wf ns) (hn : ∀ j, j < ns.length → need.getD j false = true) (hs : SortedB ns (births ns)) : ∀ q : Nat, ∃ s, s ≤ ns.length ∧ (formGo ns (births ns) need ns.length q).2 = ns.take s ∧
    (∀ k, k < s → (formGo ns (births ns) need ns.length q).1.getD k 0 = k) ∧ (∀ k, k < ns.length → ((births ns).getD k 0 < q ↔ k < s)) := by
  intro q
  induction q with
  | zero => exact ⟨0, Nat.zero_le _, rfl, fun k hk => absurd hk (Nat.not_lt_zero k), fun k hk => by have := births_nonneg w.ok.opts hk; omega⟩
  | succ q ih =>
    obtain ⟨s, hsl, ho, ha, hb⟩ := ih
    rw [form_next]
    unfold formStep
    have hlen := go_len (ns := ns) (bs := births ns) (need := need) (m := ns.length) q
    generalize hg : formGo ns (births ns) need ns.length q = t at ho ha hlen
    obtain ⟨a, o⟩ := t
    simp only at ho ha hlen ⊢
    have lv := lv_ok (ns := ns) (bs := births ns) (need := need) (a := a) (b := (q : Int)) ns.length
    have ll := lv_len (ns := ns) (bs := births ns) (need := need) (a := a) (b := (q : Int)) (k := ns.length)
    generalize hr : lvM ns (births ns) need a q ns.length = t at lv ll
    obtain ⟨ls, fr⟩ := t
    have lm : ls = fr.map (ndz ns a) := lv.map
    have lmem : ∀ z ∈ fr, 0 ≤ z ∧ z < ns.length ∧ (births ns).getD z.toNat 0 = q := fun z hz => by have := lv.mem z hz; exact ⟨this.1, this.2.1, this.2.2.2⟩
    have lall : ∀ j : Nat, j < ns.length → (births ns).getD j 0 = q → (j : Int) ∈ fr := fun j hj h => lv.all j hj (hn j hj) h
    have lnd : fr.Nodup := lv.nodup
    have lso : ls.Pairwise (fun x y => aheadI x y ≤ 0) := lv.sorted
    simp only at ll ⊢
    have hlow := lower_births w.ok.opts
    have hnd : ∀ z ∈ fr, ndz ns a z = ns.getD z.toNat default := fun z hz => by
      have h1 := lmem z hz
      have h2 := hlow z.toNat (by omega)
      unfold ndz ndAt
      rw [atL_id fun x hx => by have h3 := h2.1 x hx; have h4 := ha x.toNat ((hb x.toNat (by omega)).1 (by omega)); exact ⟨h3.1, by rw [h4]; omega⟩,
        atL_id fun x hx => by have h3 := h2.2 x hx; have h4 := ha x.toNat ((hb x.toNat (by omega)).1 (by omega)); exact ⟨h3.1, by rw [h4]; omega⟩]
      exact self_nd w (by omega)
    have hasc : fr.Pairwise (· < ·) := by
      rw [lm, List.pairwise_map] at lso
      refine (lso.and lnd).imp_of_mem fun {x y} hx hy h => ?_
      have a1 := lmem x hx; have a2 := lmem y hy
      rw [hnd x hx, hnd y hy] at h
      by_cases hxy : x < y
      · exact hxy
      · exfalso
        have hne : x ≠ y := h.2
        rcases hs y.toNat x.toNat (by omega) (by omega) with h3 | ⟨_, h3⟩
        · omega
        · have := ahead_neg (ns.getD x.toNat default) (ns.getD y.toNat default); have := h.1; omega
    have hge : ∀ z ∈ fr, (s : Int) ≤ z := fun z hz => by
      have h1 := lmem z hz
      have h2 := hb z.toNat (by omega)
      by_cases h3 : (s : Int) ≤ z
      · exact h3
      · have := h2.2 (by omega); omega
    have hidx : ∀ i, i < (idx s ++ fr).length → (idx s ++ fr).getD i 0 = i := by
      refine asc_idx ?_ (fun z hz => ?_) (fun z hz y h0 hy => ?_)
      · refine List.pairwise_append.2 ⟨?_, hasc, fun x hx y hy => ?_⟩
        · refine List.pairwise_iff_getElem.2 fun i j h1 h2 h3 => ?_
          simp [idx]; omega
        · have := hge y hy
          simp only [idx, List.mem_map, List.mem_range] at hx
          obtain ⟨i, hi, rfl⟩ := hx
          have : Int.ofNat i = (i : Int) := rfl
          omega
      · rcases List.mem_append.1 hz with hz | hz
        · simp only [idx, List.mem_map] at hz
          obtain ⟨i, _, rfl⟩ := hz
          exact Int.natCast_nonneg i
        · exact (lmem z hz).1
      · have hin : y < s → y ∈ idx s ++ fr := fun h => List.mem_append.2 (Or.inl (by
          simp only [idx, List.mem_map, List.mem_range]
          exact ⟨y.toNat, by omega, by have : Int.ofNat y.toNat = (y.toNat : Int) := rfl; omega⟩))
        by_cases hys : y < s
        · exact hin hys
        · rcases List.mem_append.1 hz with hz | hz
          · simp only [idx, List.mem_map, List.mem_range] at hz
            obtain ⟨i, hi, rfl⟩ := hz
            have : Int.ofNat i = (i : Int) := rfl
            exact absurd hy (by omega)
          · have h1 := lmem z hz
            have h2 := hb y.toNat (by omega)
            have h3 := hs y.toNat z.toNat (by omega) (by omega)
            have h4 : (births ns).getD y.toNat 0 = q := by
              have : ¬ (births ns).getD y.toNat 0 < q := fun h => hys (by have := h2.1 h; omega)
              rcases h3 with h3 | ⟨h3, _⟩ <;> omega
            have := lall y.toNat (by omega) h4
            exact List.mem_append.2 (Or.inr (by rwa [show ((y.toNat : Nat) : Int) = y by omega] at this))
    have hfi : ∀ i, i < fr.length → fr.getD i 0 = ((s + i : Nat) : Int) := fun i hi => by
      have := hidx (s + i) (by simp [idx_length]; omega)
      simpa [List.getD, List.getElem?_append_right, idx_length] using this
    have hs' : s + fr.length ≤ ns.length := by
      by_cases h0 : fr.length = 0
      · omega
      · have h1 := hfi (fr.length - 1) (by omega)
        have h2 := lmem _ (getD_mem (d := (0 : Int)) (l := fr) (j := fr.length - 1) (by omega))
        omega
    refine ⟨s + fr.length, hs', ?_, fun k hk => ?_, fun k hk => ?_⟩
    · rw [place_out ll, ho, lm]
      have e0 : idx s ++ fr = idx s ++ fr := rfl
      have e1 : (idx s ++ fr).map (fun z => ns.getD z.toNat default) = ns.take (s + fr.length) := map_idx hs' (by simp [idx_length]) (fun i hi => hidx i (by simp [idx_length]; omega)) (fun i _ => by simp)
      have e2 : (idx s).map (fun z => ns.getD z.toNat default) = ns.take s := map_idx hsl (idx_length s) (fun i hi => idx_getD hi) (fun i _ => by simp)
      rw [← e1, List.map_append, e2, List.map_congr_left hnd]
    · by_cases hks : k < s
      · rw [place_other fun z hz he => by have := hge z hz; omega]
        exact ha k hks
      · have h1 := hfi (k - s) (by omega)
        have h2 := place_at (o := o) (a := a) ll lnd (fun z hz => by have := lmem z hz; omega) (i := k - s) (by omega)
        rw [h1] at h2
        have h3 : o.length = s := by rw [ho]; simp; omega
        rw [show ((s + (k - s) : Nat) : Int).toNat = k by omega] at h2
        rw [h2, h3]; omega
    · have h1 := hb k hk
      constructor
      · intro h
        by_cases h2 : (births ns).getD k 0 < q
        · have := h1.1 h2; omega
        · have h3 := lall k hk (by omega)
          obtain ⟨i, hi1, hi2⟩ := List.getElem_of_mem h3
          have h4 := hfi i hi1
          have : fr.getD i 0 = k := by simp [List.getD, hi1, hi2]
          omega
      · intro h
        by_cases h2 : k < s
        · have := h1.2 h2; omega
        · have h3 := hfi (k - s) (by omega)
          have h4 := lmem _ (getD_mem (d := (0 : Int)) (l := fr) (j := k - s) (by omega))
          rw [h3] at h4
          rw [show ((s + (k - s) : Nat) : Int).toNat = k by omega] at h4
          omega
theorem good_from {ns : List Nd} (h : GoodP ns) : GoodS ns := by
  have hg : ∀ i, i < ns.length → ((ns.getD i default).l.length ≤ 24 ∧ Rise (ns.getD i default).l 0 ((i : Int) - 1)) ∧ ((ns.getD i default).r.length ≤ 24 ∧ Rise (ns.getD i default).r 0 ((i : Int) - 1)) := fun i hi => ⟨goodOpts_iff.1 (h.opts i hi).1, goodOpts_iff.1 (h.opts i hi).2⟩
  have hfit : FitsP ns := ⟨⟨h.lo, h.hi⟩, fun k hk => ⟨(hg k hk).1.1, (hg k hk).2.1⟩⟩
  have hrise : ∀ i, i < ns.length → Rise (ns.getD i default).l 0 ((i : Int) - 1) ∧ Rise (ns.getD i default).r 0 ((i : Int) - 1) := fun i hi => ⟨(hg i hi).1.2, (hg i hi).2.2⟩
  have w : Wf ns := ⟨formOk_of hfit hrise, hrise⟩
  have hs := sorted_all h.sorted
  have hd : Diff ns := fun i j hij hj he => by
    have hb := births_of w.ok.opts
    rcases hs i j hij hj with h1 | ⟨_, h1⟩
    · rw [hb.2 i (by omega), hb.2 j hj, he] at h1; omega
    · rw [ahead_zero.2 he] at h1; omega
  refine ⟨hfit, hrise, ?_⟩
  have hlo := h.lo
  rw [root_self w hd h.lo, addM_self w hd]
  simp only [Int.toNat_natCast]
  unfold formM
  rw [show ns.length - 1 + 1 = ns.length by omega]
  have hu : ∀ j, j < ns.length → (reachM ns (ns.length - 1)).getD j false = true := fun j hj => by
    have h1 := h.used
    rw [← reach_used h.lo] at h1
    exact idx_all (Int.le_refl 0) h1 j (by rw [reach_length]; omega)
  obtain ⟨s, hsl, ho, _, hb⟩ := go_id w hu hs (((births ns).getD (ns.length - 1) 0).toNat + 1)
  rw [ho]
  have h1 := (hb (ns.length - 1) (by omega)).1 (by omega)
  exact List.take_of_length_le (by omega)
theorem good_iff {ns : List Nd} : GoodS ns ↔ GoodP ns := ⟨good_to, good_from⟩
theorem good_eq (ns : List Nd) : decP (GoodS ns) = goodB ns := decP_iff good_iff
end Go.GL
