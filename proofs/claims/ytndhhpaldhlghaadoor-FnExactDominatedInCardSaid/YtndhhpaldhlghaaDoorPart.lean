/- Plain law: the program's part of a form is the reference's. No program in sight. -/
import Derived.Test.YtndhhpaldhlghaaDoorTable
namespace Go.GL
/-! ### what is used, closed under options -/
theorem setAll_mono {l : List Int} {k : Nat} : ∀ {is : List Bool}, is.getD k false = true → (setAll is l).getD k false = true := by
  induction l with
  | nil => intro is h; exact h
  | cons x r ih =>
    intro is h
    refine ih (is := is.set x.toNat true) ?_
    rw [List.getD, List.getElem?_set]
    split
    · split
      · rfl
      · rename_i h1 h2; subst h1; simp [List.getD, Nat.le_of_not_lt h2] at h
    · exact h
theorem setAll_mem {l : List Int} {k : Int} : ∀ {is : List Bool}, k ∈ l → k.toNat < is.length → (setAll is l).getD k.toNat false = true := by
  induction l with
  | nil => intro is h; cases h
  | cons x r ih =>
    intro is h hk
    cases h with
    | head => exact setAll_mono (is := is.set k.toNat true) (by simp [List.getD, hk])
    | tail _ h => exact ih (is := is.set x.toNat true) h (by simpa using hk)
theorem setAll_other {l : List Int} {z : Nat} : ∀ {is : List Bool}, (∀ k ∈ l, k.toNat ≠ z) → (setAll is l).getD z false = is.getD z false := by
  induction l with
  | nil => intro is _; rfl
  | cons x r ih =>
    intro is h
    have h1 := ih (is := is.set x.toNat true) fun k hk => h k (List.mem_cons_of_mem _ hk)
    have h2 := h x List.mem_cons_self
    refine h1.trans ?_
    simp [List.getD, List.getElem?_set_ne h2]
theorem setAll_app {l : List Int} {B : List Bool} : ∀ {A : List Bool}, (∀ k ∈ l, k.toNat < A.length) → setAll (A ++ B) l = setAll A l ++ B := by
  induction l with
  | nil => intro A _; rfl
  | cons x r ih =>
    intro A h
    have h1 : (A ++ B).set x.toNat true = A.set x.toNat true ++ B := List.set_append_left _ _ (h x List.mem_cons_self)
    show setAll ((A ++ B).set x.toNat true) r = setAll (A.set x.toNat true) r ++ B
    rw [h1]
    exact ih fun k hk => by rw [List.length_set]; exact h k (List.mem_cons_of_mem _ hk)
theorem ustep_mono {ns : List Nd} {is : List Bool} {i k : Nat} (h : is.getD k false = true) : (ustep ns is i).getD k false = true := by
  unfold ustep; split
  · exact setAll_mono (setAll_mono h)
  · exact h
theorem ugo_mono {ns : List Nd} : ∀ {q : Nat} {is : List Bool} {k : Nat}, is.getD k false = true → (ugo ns q is).getD k false = true
  | 0, _, _, h => h
  | q + 1, is, _, h => ugo_mono (q := q) (is := ustep ns is q) (ustep_mono h)
section
variable {ns : List Nd} (ho : OptsOk ns)
include ho
theorem ustep_keep {is : List Bool} {i z : Nat} (hi : i < ns.length) (hz : i ≤ z) : (ustep ns is i).getD z false = is.getD z false := by
  have o := optsAt ho hi
  unfold ustep; split
  · rw [setAll_other fun k hk => by have := o.2 k hk; omega, setAll_other fun k hk => by have := o.1 k hk; omega]
  · rfl
theorem ugo_keep : ∀ {q : Nat} {is : List Bool} {z : Nat}, q ≤ ns.length → q ≤ z + 1 → (ugo ns q is).getD z false = is.getD z false
  | 0, _, _, _, _ => rfl
  | q + 1, is, z, h, hz => (ugo_keep (q := q) (is := ustep ns is q) (by omega) (by omega)).trans (ustep_keep ho (by omega) (by omega))
theorem ugo_closed : ∀ {q : Nat} {is : List Bool}, q ≤ ns.length → q ≤ is.length → ∀ z, z < q → (ugo ns q is).getD z false = true →
    (∀ o ∈ (ns.getD z default).l, (ugo ns q is).getD o.toNat false = true) ∧ (∀ o ∈ (ns.getD z default).r, (ugo ns q is).getD o.toNat false = true)
  | 0, _, _, _, z, hz, _ => absurd hz (Nat.not_lt_zero z)
  | q + 1, is, h, hl, z, hz, hu => by
    have hul : (ustep ns is q).length = is.length := by
      unfold ustep; split
      · rw [setAll_length, setAll_length]
      · rfl
    by_cases he : z = q
    · subst he
      have hu2 : is.getD z false = true := by
        rw [← ustep_keep ho (i := z) (z := z) (is := is) (by omega) (Nat.le_refl _), ← ugo_keep ho (q := z) (is := ustep ns is z) (by omega) (by omega)]
        exact hu
      have o := optsAt ho (k := z) (by omega)
      have e : ustep ns is z = setAll (setAll is (ns.getD z default).l) (ns.getD z default).r := ustep_yes hu2
      refine ⟨fun x hx => ugo_mono (q := z) (is := ustep ns is z) ?_, fun x hx => ugo_mono (q := z) (is := ustep ns is z) ?_⟩
      · rw [e]; exact setAll_mono (setAll_mem hx (by have := o.1 x hx; omega))
      · rw [e]; exact setAll_mem hx (by rw [setAll_length]; have := o.2 x hx; omega)
    · exact ugo_closed (q := q) (is := ustep ns is q) (by omega) (by omega) z (by omega) hu
theorem ustep_app {A B : List Bool} {i : Nat} (hi : i < ns.length) (hA : i < A.length) : ustep ns (A ++ B) i = ustep ns A i ++ B := by
  have o := optsAt ho hi
  have e : (A ++ B).getD i false = A.getD i false := by simp [List.getD, List.getElem?_append_left hA]
  unfold ustep
  rw [e]; split
  · rw [setAll_app fun k hk => by have := o.1 k hk; omega, setAll_app fun k hk => by rw [setAll_length]; have := o.2 k hk; omega]
  · rfl
theorem ugo_app : ∀ {q : Nat} {A B : List Bool}, q ≤ ns.length → q ≤ A.length → ugo ns q (A ++ B) = ugo ns q A ++ B
  | 0, _, _, _, _ => rfl
  | q + 1, A, B, h, hA => by
    have hul : (ustep ns A q).length = A.length := by
      unfold ustep; split
      · rw [setAll_length, setAll_length]
      · rfl
    show ugo ns q (ustep ns (A ++ B) q) = ugo ns q (ustep ns A q) ++ B
    rw [ustep_app ho (by omega) (by omega)]
    exact ugo_app (by omega) (by omega)
theorem used_reach {m : Nat} (hm : m < ns.length) {z : Nat} (hz : z ≤ m) : (usedM ns m).getD z false = (reachM ns m).getD z false := by
  have e : (List.replicate ns.length false).set m true = (List.replicate (m + 1) false).set m true ++ List.replicate (ns.length - (m + 1)) false := by
    rw [← List.set_append_left _ _ (by simp), List.replicate_append_replicate]
    congr 2; omega
  unfold usedM reachM
  rw [e, ugo_app ho (by omega) (by simp)]
  have hl : z < (ugo ns (m + 1) ((List.replicate (m + 1) false).set m true)).length := by rw [ugo_length]; simp; omega
  simp [List.getD, List.getElem?_append_left hl]
theorem used_closed {m : Nat} (hm : m < ns.length) {z : Nat} (hz : z ≤ m) (hu : (usedM ns m).getD z false = true) :
    (∀ o ∈ (ns.getD z default).l, (usedM ns m).getD o.toNat false = true) ∧ (∀ o ∈ (ns.getD z default).r, (usedM ns m).getD o.toNat false = true) :=
  ugo_closed ho (by omega) (by simp; omega) z (by omega) hu
end
theorem used_self {ns : List Nd} {m : Nat} (hm : m < ns.length) : (usedM ns m).getD m false = true := by
  unfold usedM
  refine ugo_mono ?_
  simp [List.getD, hm]

/-! ### places among those that are used -/
def posU (u : Nat → Bool) (z : Nat) : Nat := (List.range z).countP u
def renL (u : Nat → Bool) (l : List Int) : List Int := l.map fun k => (posU u k.toNat : Int)
def nodeU (u : Nat → Bool) (ns : List Nd) (z : Nat) : Nd := ⟨renL u (ns.getD z default).l, renL u (ns.getD z default).r⟩
def partN (u : Nat → Bool) (ns : List Nd) (k : Nat) : List Nd := ((List.range k).filter u).map (nodeU u ns)
theorem posU_succ (u : Nat → Bool) (z : Nat) : posU u (z + 1) = posU u z + (if u z = true then 1 else 0) := by
  unfold posU; rw [List.range_succ, List.countP_append]; simp [List.countP_cons]
theorem posU_le {u : Nat → Bool} {x y : Nat} (h : x ≤ y) : posU u x ≤ posU u y := by
  induction y with
  | zero => rw [Nat.le_zero.1 h]; exact Nat.le_refl _
  | succ y ih =>
    by_cases he : x = y + 1
    · rw [he]; exact Nat.le_refl _
    · have := ih (by omega); rw [posU_succ]; omega
theorem posU_lt {u : Nat → Bool} {x y : Nat} (h : x < y) (hu : u x = true) : posU u x < posU u y := by
  have h1 := posU_succ u x
  rw [if_pos hu] at h1
  have := posU_le (u := u) (show x + 1 ≤ y by omega)
  omega
theorem posU_lower (u : Nat → Bool) (z : Nat) : posU u z ≤ z := by
  have := List.countP_le_length (p := u) (l := List.range z)
  simpa [posU] using this
theorem partN_length (u : Nat → Bool) (ns : List Nd) (k : Nat) : (partN u ns k).length = posU u k := by
  unfold partN posU; rw [List.length_map, List.countP_eq_length_filter]
theorem partN_no {u : Nat → Bool} {ns : List Nd} {k : Nat} (h : u k = false) : partN u ns (k + 1) = partN u ns k := by
  unfold partN; rw [List.range_succ, List.filter_append]; simp [h]
theorem partN_yes {u : Nat → Bool} {ns : List Nd} {k : Nat} (h : u k = true) : partN u ns (k + 1) = partN u ns k ++ [nodeU u ns k] := by
  unfold partN; rw [List.range_succ, List.filter_append]; simp [h]
theorem sel_pos {u : Nat → Bool} : ∀ n i, i < ((List.range n).filter u).length → posU u (((List.range n).filter u).getD i 0) = i := by
  intro n
  induction n with
  | zero => intro i hi; simp at hi
  | succ n ih =>
    intro i hi
    rw [List.range_succ, List.filter_append] at hi ⊢
    have hln : ((List.range n).filter u).length = posU u n := (List.countP_eq_length_filter ..).symm
    by_cases h : i < ((List.range n).filter u).length
    · have e : ((List.range n).filter u ++ [n].filter u).getD i 0 = ((List.range n).filter u).getD i 0 := by simp only [List.getD, List.getElem?_append_left h]
      rw [e]; exact ih i h
    · by_cases hu : u n = true
      · have e1 : [n].filter u = [n] := by simp [hu]
        rw [e1] at hi ⊢
        have hi2 : i = ((List.range n).filter u).length := by rw [List.length_append] at hi; simp only [List.length_cons, List.length_nil] at hi; omega
        have e : ((List.range n).filter u ++ [n]).getD i 0 = n := by rw [hi2]; simp [List.getD]
        rw [e, hi2, hln]
      · have e1 : [n].filter u = [] := by simp [hu]
        rw [e1, List.append_nil] at hi; exact absurd hi h
/-! ### renaming keeps the order -/
theorem cmpL_ren {u : Nat → Bool} : ∀ {a b : List Int}, (∀ x ∈ a, 0 ≤ x ∧ u x.toNat = true) → (∀ x ∈ b, 0 ≤ x ∧ u x.toNat = true) → cmpL (renL u a) (renL u b) = cmpL a b
  | [], [], _, _ => rfl
  | [], _ :: _, _, _ => rfl
  | _ :: _, [], _, _ => rfl
  | x :: a, y :: b, ha, hb => by
    have ih := cmpL_ren (a := a) (b := b) (fun z hz => ha z (List.mem_cons_of_mem _ hz)) (fun z hz => hb z (List.mem_cons_of_mem _ hz))
    have hx := ha x List.mem_cons_self; have hy := hb y List.mem_cons_self
    have e : cmpI (posU u x.toNat : Int) (posU u y.toNat : Int) = cmpI x y := by
      by_cases h1 : x < y
      · have := posU_lt (u := u) (show x.toNat < y.toNat by omega) hx.2
        unfold cmpI; rw [if_pos (by omega), if_pos h1]
      · by_cases h2 : y < x
        · have := posU_lt (u := u) (show y.toNat < x.toNat by omega) hy.2
          unfold cmpI; rw [if_neg (by omega), if_pos (by omega), if_neg h1, if_pos h2]
        · have : x = y := by omega
          subst this
          rw [cmpI_zero.2 rfl, cmpI_zero.2 rfl]
    show cmpL ((posU u x.toNat : Int) :: renL u a) ((posU u y.toNat : Int) :: renL u b) = _
    rw [cmpL, cmpL, e, ih]
theorem ahead_ren {u : Nat → Bool} {ns : List Nd} {x y : Nat} (hx : (∀ o ∈ (ns.getD x default).l, 0 ≤ o ∧ u o.toNat = true) ∧ (∀ o ∈ (ns.getD x default).r, 0 ≤ o ∧ u o.toNat = true))
    (hy : (∀ o ∈ (ns.getD y default).l, 0 ≤ o ∧ u o.toNat = true) ∧ (∀ o ∈ (ns.getD y default).r, 0 ≤ o ∧ u o.toNat = true)) : aheadI (nodeU u ns x) (nodeU u ns y) = aheadI (ns.getD x default) (ns.getD y default) := by
  unfold aheadI nodeU
  simp only [cmpL_ren hx.1 hy.1, cmpL_ren hx.2 hy.2]
theorem renL_rise {u : Nat → Bool} {l : List Int} {hi : Int} (hr : Rise l 0 hi) (hu : ∀ x ∈ l, u x.toNat = true) : Rise (renL u l) 0 hi := fun i h => by
  have hl : i < l.length := by simpa [renL] using h
  have e : ∀ j, j < l.length → (renL u l).getD j 0 = (posU u (l.getD j 0).toNat : Int) := fun j hj => by simp [renL, List.getD, hj]
  have h1 := hr i hl
  have h2 := posU_lower u (l.getD i 0).toNat
  rw [e i hl]
  refine ⟨⟨by omega, by omega⟩, fun h0 => ?_⟩
  have h3 := h1.2 h0
  have h4 := hr (i - 1) (by omega)
  rw [e (i - 1) (by omega)]
  have := posU_lt (u := u) (show (l.getD (i - 1) 0).toNat < (l.getD i 0).toNat by omega) (hu _ (getD_mem (by omega)))
  omega
/-! ### rising lists with the same members -/
theorem asc_ext : ∀ {a b : List Int}, a.Pairwise (· < ·) → b.Pairwise (· < ·) → (∀ z, z ∈ a ↔ z ∈ b) → a = b
  | [], [], _, _, _ => rfl
  | [], y :: b, _, _, h => by have := (h y).2 List.mem_cons_self; cases this
  | x :: a, [], _, _, h => by have := (h x).1 List.mem_cons_self; cases this
  | x :: a, y :: b, ha, hb, h => by
    have ha' := List.pairwise_cons.1 ha; have hb' := List.pairwise_cons.1 hb
    have e : x = y := by
      have h1 := (h x).1 List.mem_cons_self; have h2 := (h y).2 List.mem_cons_self
      cases h1 with
      | head => rfl
      | tail _ h1 =>
        cases h2 with
        | head => rfl
        | tail _ h2 => have := ha'.1 y h2; have := hb'.1 x h1; omega
    subst e
    congr 1
    refine asc_ext ha'.2 hb'.2 fun z => ⟨fun hz => ?_, fun hz => ?_⟩
    · have := (h z).1 (List.mem_cons_of_mem _ hz)
      cases this with
      | head => have := ha'.1 _ hz; omega
      | tail _ h1 => exact h1
    · have := (h z).2 (List.mem_cons_of_mem _ hz)
      cases this with
      | head => have := hb'.1 _ hz; omega
      | tail _ h1 => exact h1
theorem threshold {p : Nat → Prop} : ∀ {n : Nat}, (∀ i j, i < j → j < n → p j → p i) → ∃ s, s ≤ n ∧ ∀ k, k < n → (p k ↔ k < s)
  | 0, _ => ⟨0, Nat.le_refl _, fun k hk => absurd hk (Nat.not_lt_zero k)⟩
  | n + 1, h => by
    obtain ⟨s, h1, h2⟩ := threshold (n := n) fun i j hi hj => h i j hi (by omega)
    by_cases hp : p n
    · refine ⟨n + 1, Nat.le_refl _, fun k hk => ⟨fun _ => hk, fun _ => ?_⟩⟩
      by_cases he : k = n
      · subst he; exact hp
      · exact h k n (by omega) (by omega) hp
    · refine ⟨s, by omega, fun k hk => ?_⟩
      by_cases he : k = n
      · subst he; exact ⟨fun h3 => absurd h3 hp, fun h3 => by omega⟩
      · exact h2 k (by omega)
/-- The form at a place of a good form: what is reached, renamed. -/
theorem go_part {ns : List Nd} {need : List Bool} {u : Nat → Bool} {m : Nat} (w : Wf ns) (hs : SortedB ns (births ns)) (hm : m < ns.length) (hu : ∀ z, z ≤ m → need.getD z false = u z)
    (hc : ∀ z, z ≤ m → u z = true → (∀ o ∈ (ns.getD z default).l, u o.toNat = true) ∧ (∀ o ∈ (ns.getD z default).r, u o.toNat = true)) :
    ∀ q : Nat, ∃ s, s ≤ m + 1 ∧ (formGo ns (births ns) need (m + 1) q).2 = partN u ns s ∧ (∀ k, k < s → u k = true → (formGo ns (births ns) need (m + 1) q).1.getD k 0 = posU u k) ∧ (∀ k, k < m + 1 → ((births ns).getD k 0 < q ↔ k < s)) := by
  intro q
  induction q with
  | zero => exact ⟨0, Nat.zero_le _, rfl, fun k hk => absurd hk (Nat.not_lt_zero k), fun k hk => by have := births_nonneg w.ok.opts (show k < ns.length by omega); omega⟩
  | succ q ih =>
    obtain ⟨s, hsl, ho, ha, hb⟩ := ih
    rw [form_next]
    unfold formStep
    have hlen := go_len (ns := ns) (bs := births ns) (need := need) (m := m + 1) q
    generalize hg : formGo ns (births ns) need (m + 1) q = t at ho ha hlen
    obtain ⟨a, o⟩ := t
    simp only at ho ha hlen ⊢
    have lv := lv_ok (ns := ns) (bs := births ns) (need := need) (a := a) (b := (q : Int)) (m + 1)
    have ll := lv_len (ns := ns) (bs := births ns) (need := need) (a := a) (b := (q : Int)) (k := m + 1)
    generalize hr : lvM ns (births ns) need a q (m + 1) = t at lv ll
    obtain ⟨ls, fr⟩ := t
    have lm : ls = fr.map (ndz ns a) := lv.map
    have lmem : ∀ z ∈ fr, 0 ≤ z ∧ z.toNat ≤ m ∧ u z.toNat = true ∧ (births ns).getD z.toNat 0 = q := fun z hz => by
      have := lv.mem z hz; exact ⟨this.1, by omega, by rw [← hu z.toNat (by omega)]; exact this.2.2.1, this.2.2.2⟩
    have lall : ∀ j : Nat, j ≤ m → u j = true → (births ns).getD j 0 = q → (j : Int) ∈ fr := fun j hj h1 h => lv.all j (by omega) (by rw [hu j hj]; exact h1) h
    have lnd : fr.Nodup := lv.nodup
    have lso : ls.Pairwise (fun x y => aheadI x y ≤ 0) := lv.sorted
    simp only at ll ⊢
    have hlow := lower_births w.ok.opts
    have hcl : ∀ z, z ≤ m → u z = true → (∀ x ∈ (ns.getD z default).l, 0 ≤ x ∧ u x.toNat = true) ∧ (∀ x ∈ (ns.getD z default).r, 0 ≤ x ∧ u x.toNat = true) := fun z hz h => by
      have h1 := hc z hz h; have h2 := hlow z (by omega)
      exact ⟨fun x hx => ⟨(h2.1 x hx).1, h1.1 x hx⟩, fun x hx => ⟨(h2.2 x hx).1, h1.2 x hx⟩⟩
    have hnd : ∀ z ∈ fr, ndz ns a z = nodeU u ns z.toNat := fun z hz => by
      have h1 := lmem z hz
      have h2 := hlow z.toNat (by omega)
      have h3 := hc z.toNat h1.2.1 h1.2.2.1
      have hri := w.rise z.toNat (by omega)
      have key : ∀ l : List Int, Rise l 0 ((z.toNat : Int) - 1) → (∀ x ∈ l, u x.toNat = true) → (∀ x ∈ l, 0 ≤ x ∧ x < z.toNat ∧ (births ns).getD x.toNat 0 < (births ns).getD z.toNat 0) → sortL (atL a l) = renL u l := fun l hr' hul hll => by
        have e : atL a l = renL u l := by
          unfold atL renL
          refine List.map_congr_left fun x hx => ?_
          have h4 := hll x hx
          exact ha x.toNat ((hb x.toNat (by omega)).1 (by omega)) (hul x hx)
        rw [e]; exact sort_rise (renL_rise hr' hul)
      unfold ndz ndAt nodeU
      rw [key _ hri.1 h3.1 h2.1, key _ hri.2 h3.2 h2.2]
    have hasc : fr.Pairwise (· < ·) := by
      rw [lm, List.pairwise_map] at lso
      refine (lso.and lnd).imp_of_mem fun {x y} hx hy h => ?_
      have a1 := lmem x hx; have a2 := lmem y hy
      rw [hnd x hx, hnd y hy, ahead_ren (hcl _ a1.2.1 a1.2.2.1) (hcl _ a2.2.1 a2.2.2.1)] at h
      by_cases hxy : x < y
      · exact hxy
      · exfalso
        have hne : x ≠ y := h.2
        rcases hs y.toNat x.toNat (by omega) (by omega) with h3 | ⟨_, h3⟩
        · omega
        · have := ahead_neg (ns.getD x.toNat default) (ns.getD y.toNat default); have := h.1; omega
    have hmono : ∀ i j, i < j → j < m + 1 → (births ns).getD j 0 < ((q + 1 : Nat) : Int) → (births ns).getD i 0 < ((q + 1 : Nat) : Int) := fun i j hij hj h => by
      rcases hs i j hij (by omega) with h1 | ⟨h1, _⟩ <;> omega
    obtain ⟨s', hs1, hs2⟩ := threshold hmono
    have hss : s ≤ s' := by
      by_cases h : s ≤ s'
      · exact h
      · have h1 := (hb s' (by omega)).2 (by omega)
        have h2 := (hs2 s' (by omega)).1 (by omega)
        omega
    have hrange : List.range s' = List.range s ++ List.range' s (s' - s) := by
      rw [List.range_eq_range', List.range_eq_range']
      have := List.range'_append_1 (s := 0) (m := s) (n := s' - s)
      rw [Nat.zero_add, show s + (s' - s) = s' by omega] at this
      exact this.symm
    have hfr : fr = ((List.range' s (s' - s)).filter u).map fun z : Nat => (z : Int) := by
      refine asc_ext hasc ?_ fun z => ?_
      · rw [List.pairwise_map]
        exact ((List.pairwise_lt_range' ..).filter _).imp fun h => by omega
      · rw [List.mem_map]
        constructor
        · intro hz
          have h1 := lmem z hz
          refine ⟨z.toNat, List.mem_filter.2 ⟨List.mem_range'_1.2 ?_, h1.2.2.1⟩, by omega⟩
          have h2 := hb z.toNat (by omega)
          have h3 := (hs2 z.toNat (by omega)).1 (by omega)
          refine ⟨?_, by omega⟩
          by_cases h4 : s ≤ z.toNat
          · exact h4
          · have := h2.2 (by omega); omega
        · rintro ⟨x, hx, rfl⟩
          have h1 := List.mem_filter.1 hx
          have h2 := List.mem_range'_1.1 h1.1
          have h3 := hb x (by omega)
          have h4 := (hs2 x (by omega)).2 (by omega)
          refine lall x (by omega) h1.2 ?_
          have : ¬ (births ns).getD x 0 < q := fun h => by have := h3.1 h; omega
          omega
    have hpart : partN u ns s' = partN u ns s ++ ls := by
      have e : ls = ((List.range' s (s' - s)).filter u).map (nodeU u ns) := by
        rw [lm, List.map_congr_left hnd, hfr, List.map_map]; rfl
      rw [e]; unfold partN
      rw [hrange, List.filter_append, List.map_append]
    refine ⟨s', hs1, ?_, fun k hk huk => ?_, hs2⟩
    · rw [place_out ll, ho, hpart]
    · by_cases hks : k < s
      · rw [place_other fun z hz he => by have h1 := lmem z hz; have h2 := (hb k (by omega)).2 hks; rw [he] at h1; omega]
        exact ha k hks huk
      · have hkm : k ∈ (List.range' s (s' - s)).filter u := List.mem_filter.2 ⟨List.mem_range'_1.2 ⟨by omega, by omega⟩, huk⟩
        obtain ⟨i, hi, hik⟩ := List.getElem_of_mem hkm
        have hfi : fr.getD i 0 = (k : Int) := by rw [hfr]; simp [List.getD, hi, hik]
        have hil : i < fr.length := by rw [hfr]; simpa using hi
        have h2 := place_at (o := o) (a := a) ll lnd (fun z hz => by have := lmem z hz; omega) hil
        rw [hfi] at h2
        have h3 : o.length = posU u s := by rw [ho, partN_length]
        rw [show ((k : Int)).toNat = k by omega] at h2
        rw [h2, h3]
        have hsel := sel_pos (u := u) s' (posU u s + i) (by
          rw [hrange, List.filter_append, List.length_append, ← List.countP_eq_length_filter]
          exact Nat.add_lt_add_left hi _)
        have e : ((List.range s').filter u).getD (posU u s + i) 0 = k := by
          rw [hrange, List.filter_append]
          have hl : ((List.range s).filter u).length = posU u s := (List.countP_eq_length_filter ..).symm
          rw [List.getD, List.getElem?_append_right (by omega), hl]
          simp [hi, hik]
        rw [e] at hsel
        omega
noncomputable def useU (ns : List Nd) (m : Nat) : Nat → Bool := fun j => (usedM ns m).getD j false
noncomputable def partI (ns : List Nd) (m : Nat) : List Nd := partN (useU ns m) ns (m + 1)
theorem wf_good {ns : List Nd} (h : GoodP ns) : Wf ns ∧ SortedB ns (births ns) ∧ Diff ns := by
  have hg := good_iff.2 h
  have w : Wf ns := ⟨formOk_of hg.fits hg.rise, hg.rise⟩
  have hs := sorted_all h.sorted
  refine ⟨w, hs, fun i j hij hj he => ?_⟩
  have hb := births_of w.ok.opts
  rcases hs i j hij hj with h1 | ⟨_, h1⟩
  · rw [hb.2 i (by omega), hb.2 j hj, he] at h1; omega
  · rw [ahead_zero.2 he] at h1; omega
theorem part_form {ns : List Nd} (h : GoodP ns) {m : Nat} (hm : m < ns.length) : formM ns (births ns) m = partI ns m := by
  obtain ⟨w, hs, hd⟩ := wf_good h
  obtain ⟨s, h1, h2, _, h4⟩ := go_part (u := useU ns m) w hs hm (fun z hz => (used_reach w.ok.opts hm hz).symm) (fun z hz hu => used_closed w.ok.opts hm hz hu) (((births ns).getD m 0).toNat + 1)
  have hn := births_nonneg w.ok.opts hm
  have h5 := (h4 m (by omega)).1 (by omega)
  unfold formM partI
  rw [h2, show s = m + 1 by omega]
theorem part_eq {ns : List Nd} (h : GoodP ns) {z : Int} (hz : 0 ≤ z ∧ z < ns.length) : partS ns z = partI ns z.toNat := by
  obtain ⟨w, hs, hd⟩ := wf_good h
  unfold partS
  rw [addM_self w hd]
  simp only
  rw [idx_getD (show z.toNat < ns.length by omega), show ((z.toNat : Int)).toNat = z.toNat by omega]
  exact part_form h (by omega)
/-! ### for the walk -/
structure PartOk (u : Nat → Bool) (j : Nat) (names : List Int) : Prop where
  at_ : ∀ k, k < j → u k = true → names.getD k 0 = posU u k
theorem part_ren {u : Nat → Bool} {j : Nat} {names l : List Int} (h : PartOk u j names) (hl : ∀ x ∈ l, 0 ≤ x ∧ x < j ∧ u x.toNat = true) : atL names l = renL u l := by
  unfold atL renL
  refine List.map_congr_left fun x hx => ?_
  have := hl x hx
  exact h.at_ x.toNat (by omega) this.2.2
theorem PartOk.step {u : Nat → Bool} {j : Nat} {names : List Int} {z : Int} (h : PartOk u j names) (hj : j < names.length) (hz : z = posU u j) : PartOk u (j + 1) (names.set j z) := ⟨fun k hk hu => by
  by_cases he : k = j
  · subst he; simp [List.getD, hj, hz]
  · have := h.at_ k (by omega) hu
    simpa [List.getD, List.getElem?_set_ne (Ne.symm he)] using this⟩
theorem PartOk.skip {u : Nat → Bool} {j : Nat} {names : List Int} (h : PartOk u j names) (hu : u j = false) : PartOk u (j + 1) names := ⟨fun k hk h1 => by
  by_cases he : k = j
  · subst he; rw [hu] at h1; cases h1
  · exact h.at_ k (by omega) h1⟩
theorem partI_len (ns : List Nd) (m : Nat) : (partI ns m).length ≤ m + 1 := by
  unfold partI; rw [partN_length]; exact posU_lower _ _
end Go.GL
