/- Two forms in order of one game are the same form. No program in sight. -/
import Derived.Test.YtndhhpaldhlghaaDoorSg
namespace Go.GL
/-- Options of two nodes, all among the first n places, where both forms are alike. -/
theorem opts_same {a b : List Nd} (ha : SG a) (hb : SG b) {n i j : Nat} (hi : i < a.length) (hj : j < b.length) (hpre : ∀ k, k < n → k < a.length ∧ k < b.length ∧ den a k = den b k)
    (hai : (∀ z ∈ (a.getD i default).l, z < (n : Int)) ∧ (∀ z ∈ (a.getD i default).r, z < (n : Int))) (hbj : (∀ z ∈ (b.getD j default).l, z < (n : Int)) ∧ (∀ z ∈ (b.getD j default).r, z < (n : Int)))
    (he : den a i = den b j) : a.getD i default = b.getD j default := by
  have oa := optsAt ha.opts hi
  have ob := optsAt hb.opts hj
  refine nd_ext (asc_ext (ha.pw i hi).1 (hb.pw j hj).1 fun z => ⟨fun hz => ?_, fun hz => ?_⟩) (asc_ext (ha.pw i hi).2 (hb.pw j hj).2 fun z => ⟨fun hz => ?_, fun hz => ?_⟩)
  · have h1 : loG (den a i) (den a z.toNat) := (lo_den ha.opts hi).2 ⟨z, hz, rfl⟩
    rw [he] at h1
    obtain ⟨y, hy, e⟩ := (lo_den hb.opts hj).1 h1
    have z1 := oa.1 z hz; have z2 := hai.1 z hz; have y1 := ob.1 y hy; have y2 := hbj.1 y hy
    have p1 := hpre z.toNat (by omega); have p2 := hpre y.toNat (by omega)
    have := ha.inj (i := z.toNat) (j := y.toNat) (by omega) (by omega) (by rw [e, p2.2.2])
    have : z = y := by omega
    rwa [this]
  · have h1 : loG (den b j) (den b z.toNat) := (lo_den hb.opts hj).2 ⟨z, hz, rfl⟩
    rw [← he] at h1
    obtain ⟨y, hy, e⟩ := (lo_den ha.opts hi).1 h1
    have z1 := ob.1 z hz; have z2 := hbj.1 z hz; have y1 := oa.1 y hy; have y2 := hai.1 y hy
    have p1 := hpre z.toNat (by omega); have p2 := hpre y.toNat (by omega)
    have := ha.inj (i := z.toNat) (j := y.toNat) (by omega) (by omega) (by rw [← e, p1.2.2])
    have : z = y := by omega
    rwa [this]
  · have h1 : roG (den a i) (den a z.toNat) := (ro_den ha.opts hi).2 ⟨z, hz, rfl⟩
    rw [he] at h1
    obtain ⟨y, hy, e⟩ := (ro_den hb.opts hj).1 h1
    have z1 := oa.2 z hz; have z2 := hai.2 z hz; have y1 := ob.2 y hy; have y2 := hbj.2 y hy
    have p1 := hpre z.toNat (by omega); have p2 := hpre y.toNat (by omega)
    have := ha.inj (i := z.toNat) (j := y.toNat) (by omega) (by omega) (by rw [e, p2.2.2])
    have : z = y := by omega
    rwa [this]
  · have h1 : roG (den b j) (den b z.toNat) := (ro_den hb.opts hj).2 ⟨z, hz, rfl⟩
    rw [← he] at h1
    obtain ⟨y, hy, e⟩ := (ro_den ha.opts hi).1 h1
    have z1 := ob.2 z hz; have z2 := hbj.2 z hz; have y1 := oa.2 y hy; have y2 := hai.2 y hy
    have p1 := hpre z.toNat (by omega); have p2 := hpre y.toNat (by omega)
    have := ha.inj (i := z.toNat) (j := y.toNat) (by omega) (by omega) (by rw [← e, p1.2.2])
    have : z = y := by omega
    rwa [this]
/-- Births are told by games. -/
theorem births_den {a b : List Nd} (ha : OptsOk a) (hb : OptsOk b) : ∀ (n i j : Nat), i + j ≤ n → i < a.length → j < b.length → den a i = den b j → (births a).getD i 0 ≤ (births b).getD j 0
  | _, i, j, _, hi, hj, he => by
    have oa := optsAt ha hi
    have ob := optsAt hb hj
    rw [(births_of ha).2 i hi, putBorn_le]
    have hbj := (births_of hb).2 j hj
    have hb2 := putBorn_le.1 (Int.le_of_eq hbj.symm)
    refine ⟨born_nn (births_of hb) hj, fun z hz => ?_, fun z hz => ?_⟩
    · have h1 : loG (den a i) (den a z.toNat) := (lo_den ha hi).2 ⟨z, hz, rfl⟩
      rw [he] at h1
      obtain ⟨y, hy, e⟩ := (lo_den hb hj).1 h1
      have z1 := oa.1 z hz; have y1 := ob.1 y hy
      have := births_den ha hb (z.toNat + y.toNat) z.toNat y.toNat (Nat.le_refl _) (by omega) (by omega) e
      have := hb2.2.1 y hy
      omega
    · have h1 : roG (den a i) (den a z.toNat) := (ro_den ha hi).2 ⟨z, hz, rfl⟩
      rw [he] at h1
      obtain ⟨y, hy, e⟩ := (ro_den hb hj).1 h1
      have z1 := oa.2 z hz; have y1 := ob.2 y hy
      have := births_den ha hb (z.toNat + y.toNat) z.toNat y.toNat (Nat.le_refl _) (by omega) (by omega) e
      have := hb2.2.2 y hy
      omega
termination_by _ i j => i + j
decreasing_by all_goals omega
theorem births_eq {a b : List Nd} (ha : OptsOk a) (hb : OptsOk b) {i j : Nat} (hi : i < a.length) (hj : j < b.length) (he : den a i = den b j) : (births a).getD i 0 = (births b).getD j 0 :=
  Int.le_antisymm (births_den ha hb _ i j (Nat.le_refl _) hi hj he) (births_den hb ha _ j i (Nat.le_refl _) hj hi he.symm)
/-- Each game of the one stands in the other. -/
theorem SG.sub {a b : List Nd} (ha : SG a) (hb : SG b) (he : gOf a = gOf b) : ∀ k, k < a.length → ∃ j, j < b.length ∧ den b j = den a k := by
  have key : ∀ n k, a.length - k ≤ n → k < a.length → ∃ j, j < b.length ∧ den b j = den a k := by
    intro n
    induction n with
    | zero => intro k h1 h2; omega
    | succ n ih =>
      intro k h1 h2
      by_cases hk : k + 1 < a.length
      · obtain ⟨i, hki, hi, hz⟩ := ha.last k hk
        obtain ⟨j, hj, e⟩ := ih i (by omega) hi
        rcases hz with hz | hz
        · have h3 : loG (den a i) (den a (k : Int).toNat) := (lo_den ha.opts hi).2 ⟨_, hz, rfl⟩
          rw [← e] at h3
          obtain ⟨y, hy, e2⟩ := (lo_den hb.opts hj).1 h3
          have := (optsAt hb.opts hj).1 y hy
          exact ⟨y.toNat, by omega, by rw [← e2]; rfl⟩
        · have h3 : roG (den a i) (den a (k : Int).toNat) := (ro_den ha.opts hi).2 ⟨_, hz, rfl⟩
          rw [← e] at h3
          obtain ⟨y, hy, e2⟩ := (ro_den hb.opts hj).1 h3
          have := (optsAt hb.opts hj).2 y hy
          exact ⟨y.toNat, by omega, by rw [← e2]; rfl⟩
      · have hb1 := hb.lo
        refine ⟨b.length - 1, by omega, ?_⟩
        have : k = a.length - 1 := by omega
        rw [this]; exact he.symm
  exact fun k hk => key _ k (Nat.le_refl _) hk
/-- What is born earlier than a place stands ahead of it. -/
theorem SG.low {a : List Nd} (ha : SG a) {n i : Nat} (hi : i < a.length) (hb : (births a).getD i 0 ≤ (births a).getD n 0) (hn : n < a.length) : (∀ z ∈ (a.getD i default).l, z < (n : Int)) ∧ (∀ z ∈ (a.getD i default).r, z < (n : Int)) := by
  have hl := lower_births ha.opts i hi
  have key : ∀ z : Int, 0 ≤ z → z < i → (births a).getD z.toNat 0 < (births a).getD i 0 → z < (n : Int) := fun z h0 h1 h2 => by
    by_cases hlt : z < (n : Int)
    · exact hlt
    · by_cases he : n = z.toNat
      · subst he; omega
      · rcases ha.srt n z.toNat (by omega) (by omega) with h3 | ⟨h3, _⟩ <;> omega
  exact ⟨fun z hz => by have := hl.1 z hz; exact key z this.1 this.2.1 this.2.2, fun z hz => by have := hl.2 z hz; exact key z this.1 this.2.1 this.2.2⟩
theorem sg_prefix {a b : List Nd} (ha : SG a) (hb : SG b) (he : gOf a = gOf b) : ∀ n, n ≤ a.length → n ≤ b.length ∧ ∀ k, k < n → a.getD k default = b.getD k default ∧ den a k = den b k := by
  intro n
  induction n with
  | zero => intro _; exact ⟨Nat.zero_le _, fun k hk => absurd hk (Nat.not_lt_zero k)⟩
  | succ n ih =>
    intro hn
    obtain ⟨hnb, hpre⟩ := ih (by omega)
    obtain ⟨j, hj, ej⟩ := ha.sub hb he n (by omega)
    have hjn : n ≤ j := by
      apply Classical.byContradiction
      intro hlt
      have := (hpre j (by omega)).2
      have := ha.inj (i := j) (j := n) (by omega) (by omega) (by rw [this, ej])
      omega
    have hbn : n < b.length := by omega
    obtain ⟨i, hi, ei⟩ := hb.sub ha he.symm n hbn
    have hin : n ≤ i := by
      apply Classical.byContradiction
      intro hlt
      have := (hpre i (by omega)).2
      have := hb.inj (i := i) (j := n) (by omega) (by omega) (by rw [← this, ei])
      omega
    have hp : ∀ k, k < n → k < a.length ∧ k < b.length ∧ den a k = den b k := fun k hk => ⟨by omega, by omega, (hpre k hk).2⟩
    have hgh : den a n = den b n := by
      by_cases hjn' : j = n
      · rw [hjn'] at ej; exact ej.symm
      · have hin' : i ≠ n := fun e => by
          rw [e] at ei
          exact hjn' (hb.inj hj hbn (by rw [ej, ei]))
        exfalso
        have s1 := hb.srt n j (by omega) hj
        have s2 := ha.srt n i (by omega) hi
        have b1 := births_eq ha.opts hb.opts (show n < a.length by omega) hj ej.symm
        have b2 := births_eq ha.opts hb.opts hi hbn ei
        have a1 := ha.low (n := n) (i := n) (by omega) (Int.le_refl _) (by omega)
        have hle : (births a).getD i 0 ≤ (births a).getD n 0 := by rcases s1 with s1 | ⟨s1, _⟩ <;> omega
        have a2 := ha.low (n := n) (i := i) hi hle (by omega)
        have c1 := hb.low (n := n) (i := n) hbn (Int.le_refl _) hbn
        have hle2 : (births b).getD j 0 ≤ (births b).getD n 0 := by rcases s2 with s2 | ⟨s2, _⟩ <;> omega
        have c2 := hb.low (n := n) (i := j) hj hle2 hbn
        have e1 := opts_same ha hb (n := n) hi hbn hp a2 c1 ei
        have e2 := opts_same ha hb (n := n) (show n < a.length by omega) hj hp a1 c2 ej.symm
        have x1 : aheadI (b.getD n default) (b.getD j default) < 0 := by rcases s1 with s1 | ⟨_, s1⟩; omega; exact s1
        have x2 : aheadI (a.getD n default) (a.getD i default) < 0 := by rcases s2 with s2 | ⟨_, s2⟩; omega; exact s2
        rw [e1, e2, ahead_neg] at x2
        omega
    refine ⟨hbn, fun k hk => ?_⟩
    by_cases hk' : k < n
    · exact hpre k hk'
    · have : k = n := by omega
      subst this
      exact ⟨opts_same ha hb (n := k) (by omega) hbn hp (ha.low (by omega) (Int.le_refl _) (by omega)) (hb.low hbn (Int.le_refl _) hbn) hgh, hgh⟩
theorem sg_unique {a b : List Nd} (ha : SG a) (hb : SG b) (he : gOf a = gOf b) : a = b := by
  have h1 := sg_prefix ha hb he a.length (Nat.le_refl _)
  have h2 := sg_prefix hb ha he.symm b.length (Nat.le_refl _)
  exact eqdoneN (by omega) (Nat.le_refl _) fun i hi => (h1.2 i hi).1

/-! ### good forms -/
theorem good_sg {ns : List Nd} (h : GoodP ns) : SG ns := by
  obtain ⟨w, hs, hd⟩ := wf_good h
  have hlo := h.lo
  refine ⟨hlo, w, hs, fun k hk => ?_⟩
  have hu : (reachM ns (ns.length - 1)).getD k false = true := by
    rw [reach_used hlo]
    exact idx_all (j := 0) (Int.le_refl _) h.used k (by unfold usedM; rw [ugo_length]; simp; omega)
  rcases reach_from hu with h1 | ⟨j, hj, _, z, hz, ez⟩
  · omega
  · have oo := optsAt w.ok.opts (show j < ns.length by omega)
    refine ⟨j, ?_, by omega, ?_⟩
    · rcases hz with hz | hz
      · have := oo.1 z hz; omega
      · have := oo.2 z hz; omega
    · rcases hz with hz | hz
      · have := oo.1 z hz; left; rwa [show (k : Int) = z by omega]
      · have := oo.2 z hz; right; rwa [show (k : Int) = z by omega]
theorem sg_good {ns : List Nd} (h : SG ns) (hf : FitsP ns) : GoodP ns := by
  refine good_iff.1 ⟨hf, h.wf.rise, ?_⟩
  have ha := Ar.empty.add h.wf.ok (by have := h.wf.ok.len; simp; omega)
  have hr := Ar.empty.root h.wf.ok h.lo (by have := h.wf.ok.len; simp; omega)
  have hao := addM_all book_empty h.wf.ok (by have := h.wf.ok.len; simp; omega)
  have hlt := root_lt hao h.lo
  obtain ⟨h1, h2, _⟩ := form_sg ha.ar (m := (rootM [] [] ns).toNat) (by omega)
  exact sg_unique h1 h (h2.trans hr)
/-- The form in order of a game. -/
def IsForm (g : Nat) (ns : List Nd) : Prop := SG ns ∧ gOf ns = g
theorem IsForm.unique {g : Nat} {a b : List Nd} (ha : IsForm g a) (hb : IsForm g b) : a = b := sg_unique ha.1 hb.1 (ha.2.trans hb.2.symm)
end Go.GL
