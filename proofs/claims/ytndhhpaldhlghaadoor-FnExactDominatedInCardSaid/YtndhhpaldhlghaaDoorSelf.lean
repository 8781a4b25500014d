/- Plain lemmas: when putting a form into an empty book gives the form itself. No program in sight. -/
import Derived.Test.YtndhhpaldhlghaaDoorBirths
namespace Go.GL
structure Wf (ns : List Nd) : Prop where
  ok : FormOk ns
  rise : ∀ i, i < ns.length → Rise (ns.getD i default).l 0 ((i : Int) - 1) ∧ Rise (ns.getD i default).r 0 ((i : Int) - 1)
def Diff (ns : List Nd) : Prop := ∀ i j, i < j → j < ns.length → ns.getD i default ≠ ns.getD j default
theorem getD_take {α : Type} {l : List α} {d : α} {i k : Nat} (h : i < k) : (l.take k).getD i d = l.getD i d := by
  simp [List.getD, h]
theorem take_snoc {α : Type} (l : List α) (d : α) {k : Nat} (h : k < l.length) : l.take (k + 1) = l.take k ++ [l.getD k d] := by
  rw [List.take_succ_eq_append_getElem h]; simp [List.getD, h]
theorem Wf.opts {ns : List Nd} (h : Wf ns) {k : Nat} (hk : k < ns.length) : (∀ o ∈ (ns.getD k default).l, 0 ≤ o ∧ o < k) ∧ (∀ o ∈ (ns.getD k default).r, 0 ≤ o ∧ o < k) := optsAt h.ok.opts hk
theorem self_nd {ns : List Nd} (h : Wf ns) {k : Nat} (hk : k < ns.length) : putNd (ns.getD k default).l (ns.getD k default).r = ns.getD k default := by
  unfold putNd
  rw [sort_rise (h.rise k hk).1, sort_rise (h.rise k hk).2]
theorem self_at {ns : List Nd} (h : Wf ns) {k : Nat} (hk : k < ns.length) {a : List Int} (ha : ∀ i, i < k → a.getD i 0 = i) : atL a (ns.getD k default).l = (ns.getD k default).l ∧ atL a (ns.getD k default).r = (ns.getD k default).r :=
  ⟨atL_id fun o ho => by have := (h.opts hk).1 o ho; rw [ha o.toNat (by omega)]; omega, atL_id fun o ho => by have := (h.opts hk).2 o ho; rw [ha o.toNat (by omega)]; omega⟩
theorem self_born {ns : List Nd} (h : Wf ns) {k : Nat} (hk : k < ns.length) : putBorn ((births ns).take k) (ns.getD k default).l (ns.getD k default).r = (births ns).getD k 0 := by
  rw [(births_of h.ok.opts).2 k hk]
  exact putBorn_congr (fun o ho => getD_take (by have := (h.opts hk).1 o ho; omega)) (fun o ho => getD_take (by have := (h.opts hk).2 o ho; omega))
theorem step_new {ns : List Nd} (h : Wf ns) {k : Nat} (hk : k < ns.length) (hd : ∀ i, i < k → ns.getD i default ≠ ns.getD k default) :
    addStep (idx k, ns.take k, (births ns).take k) (ns.getD k default) = (idx (k + 1), ns.take (k + 1), (births ns).take (k + 1)) := by
  have ha := self_at h hk (a := idx k) fun i hi => idx_getD hi
  have hl : (births ns).length = ns.length := births_length ns
  have hf : findK (ns.take k) ((births ns).take k) (putNd (ns.getD k default).l (ns.getD k default).r) (putBorn ((births ns).take k) (ns.getD k default).l (ns.getD k default).r) = none := by
    refine find_none (j := k) (by simp; omega) fun i hi g => ?_
    rw [self_nd h hk, getD_take (l := ns) hi] at g
    exact hd i hi (nd_ext g.2.1 g.2.2)
  unfold addStep
  simp only [ha.1, ha.2]
  unfold putK putN putB
  rw [hf]
  simp only [self_nd h hk, self_born h hk]
  rw [idx_succ, take_snoc ns default hk, take_snoc (births ns) 0 (by omega)]
  simp; omega
theorem step_old {ns : List Nd} (h : Wf ns) {k : Nat} (hk : k < ns.length) {i : Nat} (hi : i < k) (hd : ns.getD i default = ns.getD k default) :
    (addStep (idx k, ns.take k, (births ns).take k) (ns.getD k default)).2.1 = ns.take k := by
  have ha := self_at h hk (a := idx k) fun i hi => idx_getD hi
  unfold addStep
  simp only [ha.1, ha.2]
  unfold putN
  cases hf : findK (ns.take k) ((births ns).take k) (putNd (ns.getD k default).l (ns.getD k default).r) (putBorn ((births ns).take k) (ns.getD k default).l (ns.getD k default).r) with
  | some j => rfl
  | none =>
    exfalso
    unfold findK at hf
    rw [List.find?_eq_none] at hf
    have h1 := hf i (by simp; omega)
    apply h1
    refine decide_eq_true ?_
    rw [self_nd h hk, self_born h hk, getD_take hi, getD_take hi, hd]
    refine ⟨?_, rfl, rfl⟩
    rw [(births_of h.ok.opts).2 k hk, (births_of h.ok.opts).2 i (by omega), hd]
theorem putN_le {ns : List Nd} {bs l r : List Int} : (putN ns bs l r).length ≤ ns.length + 1 := by
  unfold putN; split <;> simp
theorem addM_grow {ns : List Nd} {k : Nat} (hk : k ≤ ns.length) : (addM [] [] ns).2.1.length ≤ (addM [] [] (ns.take k)).2.1.length + (ns.length - k) := by
  by_cases he : k = ns.length
  · subst he; rw [List.take_length]; omega
  · have h1 := addM_grow (ns := ns) (k := k + 1) (by omega)
    rw [addM_next (by omega)] at h1
    have h2 := putN_le (ns := (addM [] [] (ns.take k)).2.1) (bs := (addM [] [] (ns.take k)).2.2) (l := atL (addM [] [] (ns.take k)).1 (ns.getD k default).l) (r := atL (addM [] [] (ns.take k)).1 (ns.getD k default).r)
    simp only [addStep] at h1
    omega
termination_by ns.length - k
theorem addM_prefix {ns : List Nd} (h : Wf ns) (hn : Diff ns) : ∀ k, k ≤ ns.length → addM [] [] (ns.take k) = (idx k, ns.take k, (births ns).take k) := by
  intro k
  induction k with
  | zero => intro _; rfl
  | succ k ih => intro hk; rw [addM_next (by omega), ih (by omega), step_new h (by omega) fun i hi => hn i k hi (by omega)]
theorem addM_self {ns : List Nd} (h : Wf ns) (hn : Diff ns) : addM [] [] ns = (idx ns.length, ns, births ns) := by
  have := addM_prefix h hn ns.length (Nat.le_refl _)
  rw [List.take_length, List.take_of_length_le (by rw [births_length]; exact Nat.le_refl _)] at this
  exact this
theorem addM_diff {ns : List Nd} (h : Wf ns) (hl : ns.length ≤ (addM [] [] ns).2.1.length) : Diff ns := by
  have key : ∀ k, k ≤ ns.length → addM [] [] (ns.take k) = (idx k, ns.take k, (births ns).take k) ∧ ∀ i j, i < j → j < k → ns.getD i default ≠ ns.getD j default := by
    intro k
    induction k with
    | zero => intro _; exact ⟨rfl, fun i j _ hj => absurd hj (Nat.not_lt_zero j)⟩
    | succ k ih =>
      intro hk
      have hh := ih (by omega)
      have hd : ∀ i, i < k → ns.getD i default ≠ ns.getD k default := fun i hi he => by
        have h1 := addM_grow (ns := ns) (k := k + 1) (by omega)
        rw [addM_next (by omega), hh.1, step_old h (by omega) hi he] at h1
        simp at h1; omega
      refine ⟨by rw [addM_next (by omega), hh.1, step_new h (by omega) hd], fun i j hi hj => ?_⟩
      by_cases he : j = k
      · subst he; exact hd i hi
      · exact hh.2 i j hi (by omega)
  exact fun i j hi hj => (key ns.length (Nat.le_refl _)).2 i j hi hj
end Go.GL
