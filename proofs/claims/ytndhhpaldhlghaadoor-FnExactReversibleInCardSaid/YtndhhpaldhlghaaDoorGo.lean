/- Plain lemmas: the form at a place, level by level. No program in sight. -/
import Derived.Test.YtndhhpaldhlghaaDoorForm
namespace Go.GL
section
variable {ns : List Nd} {bs : List Int} {need : List Bool} {m : Nat}
theorem lv_len {a : List Int} {b : Int} {k : Nat} : (lvM ns bs need a b k).1.length = (lvM ns bs need a b k).2.length := by rw [(lv_ok k).map]; simp
theorem count_split (q : Nat) : ∀ l : List Nat, l.countP (fun j => need.getD j false && decide (0 ≤ bs.getD j 0 ∧ bs.getD j 0 < ((q + 1 : Nat) : Int))) =
    l.countP (fun j => need.getD j false && decide (0 ≤ bs.getD j 0 ∧ bs.getD j 0 < (q : Int))) + l.countP (fun j => need.getD j false && decide (bs.getD j 0 = (q : Int)))
  | [] => rfl
  | j :: l => by
    have ih := count_split q l
    simp only [List.countP_cons, ih]
    by_cases h : need.getD j false = true
    · simp only [h, Bool.true_and, decide_eq_true_eq]
      by_cases h1 : bs.getD j 0 = (q : Int)
      · rw [if_pos (by omega), if_neg (by omega), if_pos h1]; omega
      · by_cases h2 : 0 ≤ bs.getD j 0 ∧ bs.getD j 0 < (q : Int)
        · rw [if_pos (by omega), if_pos h2, if_neg h1]; omega
        · rw [if_neg (by omega), if_neg h2, if_neg h1]; omega
    · have h' : need.getD j false = false := by simpa using h
      simp only [h', Bool.false_and]
      simp
theorem go_count : ∀ q : Nat, (formGo ns bs need m q).2.length = (List.range m).countP fun j => need.getD j false && decide (0 ≤ bs.getD j 0 ∧ bs.getD j 0 < (q : Int)) := by
  intro q
  induction q with
  | zero =>
    refine (List.countP_eq_zero.2 fun j _ => ?_).symm
    intro h
    simp only [Bool.and_eq_true, decide_eq_true_eq] at h
    omega
  | succ q ih =>
    rw [form_next, count_split, ← ih]
    unfold formStep
    rw [place_out lv_len, List.length_append, lv_len, (lv_ok m).count]
theorem go_len : ∀ q : Nat, (formGo ns bs need m q).1.length = m := by
  intro q
  induction q with
  | zero => simp [formGo]
  | succ q ih => rw [form_next]; unfold formStep; rw [place_len]; exact ih
/-- The nodes' options are born earlier. -/
def Lower (ns : List Nd) (bs : List Int) : Prop := ∀ z, z < ns.length → (∀ o ∈ (ns.getD z default).l, 0 ≤ o ∧ o < z ∧ bs.getD o.toNat 0 < bs.getD z 0) ∧ (∀ o ∈ (ns.getD z default).r, 0 ≤ o ∧ o < z ∧ bs.getD o.toNat 0 < bs.getD z 0)
theorem nd_stable {a a' : List Int} {z : Int} (h1 : ∀ o ∈ (ns.getD z.toNat default).l, a.getD o.toNat 0 = a'.getD o.toNat 0) (h2 : ∀ o ∈ (ns.getD z.toNat default).r, a.getD o.toNat 0 = a'.getD o.toNat 0) : ndz ns a z = ndz ns a' z := by
  unfold ndz ndAt atL
  rw [List.map_congr_left h1, List.map_congr_left h2]
structure GoOk (ns : List Nd) (bs : List Int) (need : List Bool) (m q : Nat) (fa : List Int) (s : List Int × List Nd) : Prop where
  map : s.2 = fa.map (ndz ns s.1)
  pos : ∀ p, p < fa.length → s.1.getD (fa.getD p 0).toNat 0 = p
  mem : ∀ z ∈ fa, 0 ≤ z ∧ z < m ∧ 0 ≤ bs.getD z.toNat 0 ∧ bs.getD z.toNat 0 < q
  all : ∀ j, j < m → need.getD j false = true → 0 ≤ bs.getD j 0 → bs.getD j 0 < q → (j : Int) ∈ fa
  order : fa.Pairwise fun i j => bs.getD i.toNat 0 < bs.getD j.toNat 0 ∨ (bs.getD i.toNat 0 = bs.getD j.toNat 0 ∧ aheadI (ndz ns s.1 i) (ndz ns s.1 j) ≤ 0)
  nd : ∀ z ∈ fa, need.getD z.toNat false = true
theorem go_ok (hl : Lower ns bs) (hm : m ≤ ns.length) : ∀ q : Nat, ∃ fa, GoOk ns bs need m q fa (formGo ns bs need m q) := by
  intro q
  induction q with
  | zero => exact ⟨[], rfl, fun p hp => absurd hp (Nat.not_lt_zero p), fun z hz => (by cases hz), fun j _ _ h0 h1 => (by omega), List.Pairwise.nil, fun z hz => (by cases hz)⟩
  | succ q ih =>
    obtain ⟨fa, ih⟩ := ih
    rw [form_next]
    unfold formStep
    have hlen := go_len (ns := ns) (bs := bs) (need := need) (m := m) q
    generalize hs : formGo ns bs need m q = s at ih hlen
    obtain ⟨a, o⟩ := s
    simp only at ih hlen ⊢
    have lv := lv_ok (ns := ns) (bs := bs) (need := need) (a := a) (b := (q : Int)) m
    have ll := lv_len (ns := ns) (bs := bs) (need := need) (a := a) (b := (q : Int)) (k := m)
    generalize hr : lvM ns bs need a q m = t at lv ll
    obtain ⟨ls, fr⟩ := t
    simp only at lv ll ⊢
    have hmem : ∀ z ∈ fr, 0 ≤ z ∧ z < m ∧ bs.getD z.toNat 0 = q := fun z hz => by have := lv.mem z hz; exact ⟨this.1, this.2.1, this.2.2.2⟩
    have hoth : ∀ z : Nat, bs.getD z 0 < q → (placeM ls fr a o).1.getD z 0 = a.getD z 0 := fun z hz => place_other fun k hk he => by have := (hmem k hk).2.2; rw [he] at this; omega
    have hst : ∀ z : Int, 0 ≤ z → z < m → bs.getD z.toNat 0 ≤ q → ndz ns (placeM ls fr a o).1 z = ndz ns a z := fun z h0 h1 h2 => by
      have h3 := hl z.toNat (by omega)
      exact nd_stable (fun x hx => hoth _ (by have := h3.1 x hx; omega)) (fun x hx => hoth _ (by have := h3.2 x hx; omega))
    have im : o = fa.map (ndz ns a) := ih.map
    have lm : ls = fr.map (ndz ns a) := lv.map
    have hol : o.length = fa.length := by have := congrArg List.length im; simpa using this
    have e1 : fa.map (ndz ns (placeM ls fr a o).1) = o := (List.map_congr_left fun z hz => by have := ih.mem z hz; exact hst z this.1 this.2.1 (by omega)).trans im.symm
    have e2 : fr.map (ndz ns (placeM ls fr a o).1) = ls := (List.map_congr_left fun z hz => by have := hmem z hz; exact hst z this.1 this.2.1 (by omega)).trans lm.symm
    refine ⟨fa ++ fr, ?_, fun p hp => ?_, fun z hz => ?_, fun j hj h1 h2 h3 => ?_, ?_, fun z hz => (List.mem_append.1 hz).elim (ih.nd z) fun h => (lv.mem z h).2.2.1⟩
    · rw [place_out ll, List.map_append, e1, e2]
    · by_cases hp' : p < fa.length
      · rw [getD_append_left hp']
        have h4 : fa.getD p 0 ∈ fa := getD_mem hp'
        rw [hoth _ (by have := ih.mem _ h4; omega)]
        exact ih.pos p hp'
      · have e : (fa ++ fr).getD p 0 = fr.getD (p - fa.length) 0 := by simp [List.getD, List.getElem?_append_right (Nat.le_of_not_lt hp')]
        rw [List.length_append] at hp
        rw [e, place_at ll lv.nodup (fun k hk => by have := hmem k hk; omega) (by omega), hol]
        omega
    · rcases List.mem_append.1 hz with hz | hz
      · have := ih.mem z hz; omega
      · have := hmem z hz; omega
    · by_cases he : bs.getD j 0 = q
      · exact List.mem_append.2 (Or.inr (lv.all j hj h1 he))
      · exact List.mem_append.2 (Or.inl (ih.all j hj h1 h2 (by omega)))
    · refine List.pairwise_append.2 ⟨?_, ?_, fun x hx y hy => ?_⟩
      · refine ih.order.imp_of_mem fun {x y} hx hy h => ?_
        have a1 := ih.mem x hx; have a2 := ih.mem y hy
        rw [hst x a1.1 a1.2.1 (by omega), hst y a2.1 a2.2.1 (by omega)]; exact h
      · have h5 := lv.sorted
        simp only at h5
        rw [lm, List.pairwise_map] at h5
        refine h5.imp_of_mem fun {x y} hx hy h => ?_
        have a1 := hmem x hx; have a2 := hmem y hy
        rw [hst x a1.1 a1.2.1 (by omega), hst y a2.1 a2.2.1 (by omega)]
        exact Or.inr ⟨by omega, h⟩
      · have a1 := ih.mem x hx; have a2 := hmem y hy
        exact Or.inl (by omega)
end
theorem born_ge {bs : List Int} : ∀ {l : List Int} {b : Int}, b ≤ bornOf bs l b ∧ ∀ o ∈ l, bs.getD o.toNat 0 + 1 ≤ bornOf bs l b
  | [], b => ⟨Int.le_refl _, fun o ho => (by cases ho)⟩
  | k :: l, b => by
    have ih := born_ge (bs := bs) (l := l) (b := max b (bs.getD k.toNat 0 + 1))
    have e : bornOf bs (k :: l) b = bornOf bs l (max b (bs.getD k.toNat 0 + 1)) := rfl
    rw [e]
    refine ⟨by omega, fun o ho => ?_⟩
    cases ho with
    | head => omega
    | tail _ ho => exact ih.2 o ho
theorem lower_births {ns : List Nd} (ho : OptsOk ns) : Lower ns (births ns) := fun z hz => by
  have hb := (births_of ho).2 z hz
  have o := optsAt ho hz
  have h1 := born_ge (bs := births ns) (l := (ns.getD z default).r) (b := bornOf (births ns) (ns.getD z default).l 0)
  have h2 := born_ge (bs := births ns) (l := (ns.getD z default).l) (b := 0)
  unfold putBorn at hb
  exact ⟨fun x hx => by have := o.1 x hx; have := h2.2 x hx; omega, fun x hx => by have := o.2 x hx; have := h1.2 x hx; omega⟩
theorem births_nonneg {ns : List Nd} (ho : OptsOk ns) {z : Nat} (hz : z < ns.length) : 0 ≤ (births ns).getD z 0 := by
  have hb := (births_of ho).2 z hz
  have h1 := born_ge (bs := births ns) (l := (ns.getD z default).r) (b := bornOf (births ns) (ns.getD z default).l 0)
  have h2 := born_ge (bs := births ns) (l := (ns.getD z default).l) (b := 0)
  unfold putBorn at hb
  omega
end Go.GL
