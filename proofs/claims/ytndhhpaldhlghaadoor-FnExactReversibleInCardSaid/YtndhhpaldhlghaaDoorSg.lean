/- Forms in order: the form at a place of a book is in order and is its game's; there is no other one. No program in sight. -/
import Derived.Test.YtndhhpaldhlghaaDoorDen
namespace Go.GL
/-- A form in order, whatever its size. -/
structure SG (ns : List Nd) : Prop where
  lo : 1 ≤ ns.length
  wf : Wf ns
  srt : SortedB ns (births ns)
  last : ∀ k : Nat, k + 1 < ns.length → ∃ j, k < j ∧ j < ns.length ∧ ((k : Int) ∈ (ns.getD j default).l ∨ (k : Int) ∈ (ns.getD j default).r)
theorem rise_pw {l : List Int} {hi : Int} (h : l.Pairwise (· < ·)) (hb : ∀ z ∈ l, 0 ≤ z ∧ z ≤ hi) : Rise l 0 hi := fun i hi' => by
  refine ⟨hb _ (getD_mem hi'), fun h0 => ?_⟩
  have := List.pairwise_iff_getElem.1 h (i - 1) i (by omega) hi' (by omega)
  simpa [List.getD, hi', show i - 1 < l.length by omega] using this
theorem pw_rise {l : List Int} {lo hi : Int} (h : Rise l lo hi) : l.Pairwise (· < ·) := by
  rw [List.pairwise_iff_getElem]
  intro i j hi hj hij
  have key : ∀ j, i < j → j < l.length → l.getD i 0 < l.getD j 0 := by
    intro j
    induction j with
    | zero => intro h0; omega
    | succ j ih =>
      intro h1 h2
      have a := (h (j + 1) h2).2 (by omega)
      simp only [Nat.add_sub_cancel] at a
      by_cases he : i = j
      · subst he; exact a
      · have := ih (by omega) (by omega); omega
  have := key j hij hj
  simpa [List.getD, hi, hj] using this
theorem SG.opts {ns : List Nd} (h : SG ns) : OptsOk ns := h.wf.ok.opts
theorem SG.pw {ns : List Nd} (h : SG ns) : ∀ i, i < ns.length → (ns.getD i default).l.Pairwise (· < ·) ∧ (ns.getD i default).r.Pairwise (· < ·) := fun i hi => ⟨pw_rise (h.wf.rise i hi).1, pw_rise (h.wf.rise i hi).2⟩
theorem SG.diff {ns : List Nd} (h : SG ns) : Diff ns := fun i j hij hj he => by
  have hb := births_of h.opts
  rcases h.srt i j hij hj with h1 | ⟨_, h1⟩
  · rw [hb.2 i (by omega), hb.2 j hj, he] at h1; omega
  · rw [ahead_zero.2 he] at h1; omega
theorem SG.inj {ns : List Nd} (h : SG ns) {i j : Nat} (hi : i < ns.length) (hj : j < ns.length) (he : den ns i = den ns j) : i = j := den_inj_n h.opts h.pw h.diff _ i j (Nat.le_refl _) hi hj he

/-! ### marks come from options -/
theorem setAll_from {k : Nat} : ∀ {l : List Int} {is : List Bool}, (setAll is l).getD k false = true → is.getD k false = true ∨ ∃ z ∈ l, z.toNat = k
  | [], _, h => Or.inl h
  | x :: l, is, h => by
    rcases setAll_from (l := l) (is := is.set x.toNat true) h with h1 | ⟨z, hz, e⟩
    · by_cases he : x.toNat = k
      · exact Or.inr ⟨x, List.mem_cons_self, he⟩
      · rw [set_getD_ne he] at h1; exact Or.inl h1
    · exact Or.inr ⟨z, List.mem_cons_of_mem _ hz, e⟩
theorem ugo_from {ns : List Nd} {k : Nat} : ∀ {q : Nat} {is : List Bool}, (ugo ns q is).getD k false = true → is.getD k false = true ∨ ∃ j, j < q ∧ (ugo ns q is).getD j false = true ∧ ∃ z, (z ∈ (ns.getD j default).l ∨ z ∈ (ns.getD j default).r) ∧ z.toNat = k
  | 0, _, h => Or.inl h
  | q + 1, is, h => by
    rcases ugo_from (q := q) (is := ustep ns is q) h with h1 | ⟨j, hj, h2, h3⟩
    · by_cases hq : is.getD q false = true
      · rw [ustep_yes hq] at h1
        have hm : (ugo ns (q + 1) is).getD q false = true := ugo_mono hq
        rcases setAll_from h1 with h1 | ⟨z, hz, e⟩
        · rcases setAll_from h1 with h1 | ⟨z, hz, e⟩
          · exact Or.inl h1
          · exact Or.inr ⟨q, by omega, hm, z, Or.inl hz, e⟩
        · exact Or.inr ⟨q, by omega, hm, z, Or.inr hz, e⟩
      · rw [ustep_no (by simpa using hq)] at h1; exact Or.inl h1
    · exact Or.inr ⟨j, by omega, h2, h3⟩
theorem reach_from {ns : List Nd} {m k : Nat} (h : (reachM ns m).getD k false = true) : k = m ∨ ∃ j, j ≤ m ∧ (reachM ns m).getD j false = true ∧ ∃ z, (z ∈ (ns.getD j default).l ∨ z ∈ (ns.getD j default).r) ∧ z.toNat = k := by
  unfold reachM at h ⊢
  rcases ugo_from h with h1 | ⟨j, hj, h2⟩
  · left
    by_cases he : m = k
    · exact he.symm
    · rw [set_getD_ne he] at h1
      simp [List.getD, List.getElem?_replicate] at h1
      split at h1 <;> simp at h1
  · exact Or.inr ⟨j, by omega, h2⟩
theorem reach_self {ns : List Nd} {m : Nat} : (reachM ns m).getD m false = true := by
  unfold reachM
  exact ugo_mono (by simp [List.getD])
theorem reach_closed {ns : List Nd} (ho : OptsOk ns) {m : Nat} (hm : m < ns.length) {z : Nat} (hz : z ≤ m) (hu : (reachM ns m).getD z false = true) :
    (∀ o ∈ (ns.getD z default).l, (reachM ns m).getD o.toNat false = true) ∧ (∀ o ∈ (ns.getD z default).r, (reachM ns m).getD o.toNat false = true) :=
  ugo_closed ho (by omega) (by simp) z (by omega) hu
theorem lower_of {ns : List Nd} {bs : List Int} (ho : OptsOk ns) (hb : BirthsOf ns bs) : Lower ns bs := fun z hz => by
  have hb := hb.2 z hz
  have o := optsAt ho hz
  have h1 := born_ge (bs := bs) (l := (ns.getD z default).r) (b := bornOf bs (ns.getD z default).l 0)
  have h2 := born_ge (bs := bs) (l := (ns.getD z default).l) (b := 0)
  unfold putBorn at hb
  exact ⟨fun x hx => by have := o.1 x hx; have := h2.2 x hx; omega, fun x hx => by have := o.2 x hx; have := h1.2 x hx; omega⟩
theorem born_nn {ns : List Nd} {bs : List Int} (hb : BirthsOf ns bs) {z : Nat} (hz : z < ns.length) : 0 ≤ bs.getD z 0 := by
  rw [hb.2 z hz]
  exact (putBorn_le.1 (Int.le_refl _)).1
theorem bornOf_at {bs bs' A : List Int} : ∀ {l : List Int} {b : Int}, (∀ o ∈ l, bs'.getD (A.getD o.toNat 0).toNat 0 = bs.getD o.toNat 0) → bornOf bs' (atL A l) b = bornOf bs l b
  | [], _, _ => rfl
  | x :: l, b, h => by
    show bornOf bs' (atL A l) (max b (bs'.getD (A.getD x.toNat 0).toNat 0 + 1)) = bornOf bs l (max b (bs.getD x.toNat 0 + 1))
    rw [h x List.mem_cons_self]
    exact bornOf_at fun o ho => h o (List.mem_cons_of_mem _ ho)
theorem mem_atL {A l : List Int} {x : Int} : x ∈ atL A l ↔ ∃ o ∈ l, A.getD o.toNat 0 = x := by simp [atL]
/-- The form at a place of a book. -/
theorem form_sg {ns : List Nd} {bs : List Int} (h : Ar ns bs) {m : Nat} (hm : m < ns.length) : SG (formM ns bs m) ∧ gOf (formM ns bs m) = den ns m ∧ (formM ns bs m).length ≤ m + 1 := by
  have ho := h.opts
  have hlw := lower_of ho h.born
  have hlen : (formM ns bs m).length ≤ m + 1 := by
    unfold formM
    rw [go_count]
    exact Nat.le_trans List.countP_le_length (by simp)
  have hlim := h.ok.lim
  obtain ⟨fa, go⟩ := go_ok (need := reachM ns m) hlw (show m + 1 ≤ ns.length by omega) ((bs.getD m 0).toNat + 1)
  have hbm := born_nn h.born hm
  unfold formM at hlen ⊢
  generalize formGo ns bs (reachM ns m) (m + 1) ((bs.getD m 0).toNat + 1) = s at go hlen
  obtain ⟨A, out⟩ := s
  have hmap : out = fa.map (ndz ns A) := go.map
  have hpos : ∀ p, p < fa.length → A.getD (fa.getD p 0).toNat 0 = p := go.pos
  have hN : out.length = fa.length := by rw [hmap]; simp
  simp only at hlen ⊢
  have hget : ∀ p, p < fa.length → out.getD p default = ndz ns A (fa.getD p 0) := fun p hp => by rw [hmap]; simp [List.getD, hp]
  have hmem : ∀ p, p < fa.length → 0 ≤ fa.getD p 0 ∧ fa.getD p 0 ≤ m ∧ (reachM ns m).getD (fa.getD p 0).toNat false = true ∧ bs.getD (fa.getD p 0).toNat 0 ≤ bs.getD m 0 := fun p hp => by
    have h1 := go.mem _ (getD_mem (d := (0 : Int)) hp)
    exact ⟨h1.1, by omega, go.nd _ (getD_mem hp), by omega⟩
  -- a place that is reached and not born too late stands in the list
  have hfind : ∀ z : Nat, z ≤ m → (reachM ns m).getD z false = true → bs.getD z 0 ≤ bs.getD m 0 → ∃ p, p < fa.length ∧ fa.getD p 0 = z ∧ A.getD z 0 = p := fun z hz h1 h2 => by
    obtain ⟨p, hp, e⟩ := List.getElem_of_mem (go.all z (by omega) h1 (born_nn h.born (by omega)) (by omega))
    have e2 : fa.getD p 0 = z := by simp [List.getD, hp, e]
    have := hpos p hp
    rw [e2] at this
    exact ⟨p, hp, e2, by simpa using this⟩
  have hord : ∀ p p', p < p' → p' < fa.length → bs.getD (fa.getD p 0).toNat 0 < bs.getD (fa.getD p' 0).toNat 0 ∨ (bs.getD (fa.getD p 0).toNat 0 = bs.getD (fa.getD p' 0).toNat 0 ∧ aheadI (ndz ns A (fa.getD p 0)) (ndz ns A (fa.getD p' 0)) ≤ 0) := fun p p' hpp hp' => by
    have := List.pairwise_iff_getElem.1 go.order p p' (by omega) hp' hpp
    simpa [List.getD, hp', show p < fa.length by omega] using this
  -- options stand ahead
  have hopt : ∀ p, p < fa.length → (∀ o ∈ (ns.getD (fa.getD p 0).toNat default).l, 0 ≤ o ∧ ∃ p', p' < p ∧ fa.getD p' 0 = o ∧ A.getD o.toNat 0 = p') ∧ (∀ o ∈ (ns.getD (fa.getD p 0).toNat default).r, 0 ≤ o ∧ ∃ p', p' < p ∧ fa.getD p' 0 = o ∧ A.getD o.toNat 0 = p') := fun p hp => by
    have hm1 := hmem p hp
    have hl1 := hlw (fa.getD p 0).toNat (by omega)
    have hc := reach_closed ho hm (z := (fa.getD p 0).toNat) (by omega) hm1.2.2.1
    have key : ∀ o : Int, 0 ≤ o → o < (fa.getD p 0).toNat → bs.getD o.toNat 0 < bs.getD (fa.getD p 0).toNat 0 → (reachM ns m).getD o.toNat false = true → ∃ p', p' < p ∧ fa.getD p' 0 = o ∧ A.getD o.toNat 0 = p' := fun o h0 h1 h2 h3 => by
      obtain ⟨p', hp', e1, e2⟩ := hfind o.toNat (by omega) h3 (by omega)
      have e1' : fa.getD p' 0 = o := by omega
      refine ⟨p', ?_, e1', e2⟩
      by_cases hlt : p' < p
      · exact hlt
      · by_cases he : p' = p
        · subst he; omega
        · rcases hord p p' (by omega) hp' with h4 | ⟨h4, _⟩ <;> rw [e1'] at h4 <;> omega
    exact ⟨fun o hox => by have := hl1.1 o hox; exact ⟨this.1, key o this.1 this.2.1 this.2.2 (hc.1 o hox)⟩, fun o hox => by have := hl1.2 o hox; exact ⟨this.1, key o this.1 this.2.1 this.2.2 (hc.2 o hox)⟩⟩
  have hlists : ∀ p, p < fa.length → (out.getD p default).l = sortL (atL A (ns.getD (fa.getD p 0).toNat default).l) ∧ (out.getD p default).r = sortL (atL A (ns.getD (fa.getD p 0).toNat default).r) := fun p hp => by
    rw [hget p hp]; exact ⟨rfl, rfl⟩
  have hbnd : ∀ p, p < fa.length → (∀ z ∈ (out.getD p default).l, 0 ≤ z ∧ z < (p : Int)) ∧ (∀ z ∈ (out.getD p default).r, 0 ≤ z ∧ z < (p : Int)) := fun p hp => by
    have h1 := hopt p hp
    rw [(hlists p hp).1, (hlists p hp).2]
    constructor
    · intro z hz
      obtain ⟨o, hox, e⟩ := mem_atL.1 (mem_sortL.1 hz)
      obtain ⟨_, p', h2, _, e2⟩ := h1.1 o hox
      omega
    · intro z hz
      obtain ⟨o, hox, e⟩ := mem_atL.1 (mem_sortL.1 hz)
      obtain ⟨_, p', h2, _, e2⟩ := h1.2 o hox
      omega
  have hoo : OptsOk out := fun i n hn => by
    obtain ⟨hi, rfl⟩ := List.getElem?_eq_some_iff.1 hn
    have := hbnd i (by omega)
    have e : out.getD i default = out[i] := by simp [List.getD, hi]
    rw [e] at this; exact this
  have hlens : ∀ i, i < out.length → (out.getD i default).l.length ≤ 1048576 ∧ (out.getD i default).r.length ≤ 1048576 := fun i hi => by
    have hm1 := hmem i (by omega)
    have hl1 := h.ok.lens (fa.getD i 0).toNat (by omega)
    rw [(hlists i (by omega)).1, (hlists i (by omega)).2]
    exact ⟨Nat.le_trans sort_length (by rw [at_length]; exact hl1.1), Nat.le_trans sort_length (by rw [at_length]; exact hl1.2)⟩
  have wf : Wf out := ⟨⟨by omega, hoo, hlens⟩, fun i hi => by
    have h1 := hbnd i (by omega)
    refine ⟨rise_pw ?_ fun z hz => by have := h1.1 z hz; omega, rise_pw ?_ fun z hz => by have := h1.2 z hz; omega⟩
    · rw [(hlists i (by omega)).1]; exact sortL_rise _
    · rw [(hlists i (by omega)).2]; exact sortL_rise _⟩
  -- games
  have hden : ∀ p, p < fa.length → den out p = den ns (fa.getD p 0).toNat := by
    intro p
    induction p using Nat.strongRecOn with
    | _ p ih =>
      intro hp
      have h1 := hopt p hp
      have hm1 := hmem p hp
      rw [den_at (by omega) (hbnd p hp).1 (hbnd p hp).2, den_opt ho (show (fa.getD p 0).toNat < ns.length by omega), (hlists p hp).1, (hlists p hp).2]
      have key : ∀ l : List Int, (∀ o ∈ l, 0 ≤ o ∧ ∃ p', p' < p ∧ fa.getD p' 0 = o ∧ A.getD o.toNat 0 = p') → ∀ i, i ∈ (sortL (atL A l)).map (fun z => den out z.toNat) ↔ i ∈ l.map fun z => den ns z.toNat := fun l hl i => by
        rw [List.mem_map, List.mem_map]
        constructor
        · rintro ⟨z, hz, rfl⟩
          obtain ⟨o, hox, e⟩ := mem_atL.1 (mem_sortL.1 hz)
          obtain ⟨_, p', h2, e1, e2⟩ := hl o hox
          refine ⟨o, hox, ?_⟩
          have : z.toNat = p' := by omega
          rw [this, ih p' h2 (by omega), e1]
        · rintro ⟨o, hox, rfl⟩
          obtain ⟨_, p', h2, e1, e2⟩ := hl o hox
          refine ⟨(p' : Int), mem_sortL.2 (mem_atL.2 ⟨o, hox, e2⟩), ?_⟩
          rw [Int.toNat_natCast, ih p' h2 (by omega), e1]
      exact mk_congr (key _ h1.1) (key _ h1.2)
  have hborn : ∀ p, p < fa.length → (births out).getD p 0 = bs.getD (fa.getD p 0).toNat 0 := by
    intro p
    induction p using Nat.strongRecOn with
    | _ p ih =>
      intro hp
      have h1 := hopt p hp
      have hm1 := hmem p hp
      rw [(births_of hoo).2 p (by omega), (hlists p hp).1, (hlists p hp).2, putBorn_sort, h.born.2 _ (show (fa.getD p 0).toNat < ns.length by omega)]
      have key : ∀ o : Int, (∃ p', p' < p ∧ fa.getD p' 0 = o ∧ A.getD o.toNat 0 = p') → (births out).getD (A.getD o.toNat 0).toNat 0 = bs.getD o.toNat 0 := fun o ⟨p', h2, e1, e2⟩ => by
        rw [e2, Int.toNat_natCast, ih p' h2 (by omega), e1]
      unfold putBorn
      rw [bornOf_at fun o hox => key o (h1.2 o hox).2, bornOf_at fun o hox => key o (h1.1 o hox).2]
  have srt : SortedB out (births out) := fun i j hij hj => by
    rw [hborn i (by omega), hborn j (by omega), hget i (by omega), hget j (by omega)]
    rcases hord i j hij (by omega) with h1 | ⟨h1, h2⟩
    · exact Or.inl h1
    · refine Or.inr ⟨h1, ?_⟩
      have hne : aheadI (ndz ns A (fa.getD i 0)) (ndz ns A (fa.getD j 0)) ≠ 0 := fun e => by
        have e1 := ahead_zero.1 e
        rw [← hget i (by omega), ← hget j (by omega)] at e1
        have d1 : den out i = den out j := by
          rw [den_opt hoo (show i < out.length by omega), den_opt hoo (show j < out.length by omega), e1]
        rw [hden i (by omega), hden j (by omega)] at d1
        have m1 := hmem i (by omega); have m2 := hmem j (by omega)
        have e3 := h.inj (by omega) (by omega) d1
        have p1 := hpos i (by omega); have p2 := hpos j (by omega)
        rw [e3] at p1; omega
      omega
  -- the root stands last
  obtain ⟨pm, hpm, em, _⟩ := hfind m (Nat.le_refl _) reach_self (Int.le_refl _)
  have hroot : ∀ p, p < fa.length → fa.getD p 0 ≠ m → ∃ p', p < p' ∧ p' < fa.length ∧ ((p : Int) ∈ (out.getD p' default).l ∨ (p : Int) ∈ (out.getD p' default).r) := fun p hp hne => by
    have m1 := hmem p hp
    rcases reach_from m1.2.2.1 with h1 | ⟨j, hj, hr, z, hz, ez⟩
    · omega
    · have hz0 : 0 ≤ z := by
        have := optsAt ho (show j < ns.length by omega)
        rcases hz with hz | hz
        · exact (this.1 z hz).1
        · exact (this.2 z hz).1
      have ez' : z = fa.getD p 0 := by omega
      subst ez'
      have hle : bs.getD j 0 ≤ bs.getD m 0 := by
        -- what is reached is not born later than the root
        have : ∀ n j : Nat, m - j ≤ n → j ≤ m → (reachM ns m).getD j false = true → bs.getD j 0 ≤ bs.getD m 0 := by
          intro n
          induction n with
          | zero => intro j h1 h2 _; have : j = m := by omega
                    rw [this]; exact Int.le_refl _
          | succ n ih =>
            intro j h1 h2 h3
            rcases reach_from h3 with h4 | ⟨i, hi, hri, y, hy, ey⟩
            · rw [h4]; exact Int.le_refl _
            · have hl := hlw i (by omega)
              have hyb : 0 ≤ y ∧ y < i ∧ bs.getD y.toNat 0 < bs.getD i 0 := by rcases hy with hy | hy; exact hl.1 y hy; exact hl.2 y hy
              have := ih i (by omega) hi hri
              rw [ey] at hyb; omega
        exact this m j (by omega) hj hr
      obtain ⟨p', hp', e1, e2⟩ := hfind j hj hr hle
      have h1 := hopt p' hp'
      rw [e1] at h1
      simp only [Int.toNat_natCast] at h1
      have hp1 := hpos p hp
      refine ⟨p', ?_, hp', ?_⟩
      · rcases hz with hz | hz
        · obtain ⟨_, q, h2, e3, e4⟩ := h1.1 _ hz; omega
        · obtain ⟨_, q, h2, e3, e4⟩ := h1.2 _ hz; omega
      · rw [(hlists p' hp').1, (hlists p' hp').2, e1]
        simp only [Int.toNat_natCast]
        rcases hz with hz | hz
        · exact Or.inl (mem_sortL.2 (mem_atL.2 ⟨_, hz, hp1⟩))
        · exact Or.inr (mem_sortL.2 (mem_atL.2 ⟨_, hz, hp1⟩))
  have hlast : fa.getD (fa.length - 1) 0 = m := by
    apply Classical.byContradiction
    intro hne
    obtain ⟨p', h1, h2, _⟩ := hroot (fa.length - 1) (by omega) hne
    omega
  refine ⟨⟨by omega, wf, srt, fun k hk => ?_⟩, ?_, hlen⟩
  · have hne : fa.getD k 0 ≠ m := fun e => by
      have p1 := hpos k (by omega); have p2 := hpos (fa.length - 1) (by omega)
      rw [e] at p1; rw [hlast] at p2; omega
    obtain ⟨p', h1, h2, h3⟩ := hroot k (by omega) hne
    exact ⟨p', h1, by omega, h3⟩
  · unfold gOf
    rw [hN, hden _ (by omega), hlast, Int.toNat_natCast]
end Go.GL
