/- The plain law of texts: what impl's FormText reckons is what the reference's does. No program in sight. -/
import Derived.Test.YtpninmgcgmpmoaaText
namespace Go.GL
def txtA (ns : List Nd) (i : Nat) : ByteArray := (txts ns ns.length).getD i ByteArray.empty
theorem txtA_size (ns : List Nd) (i : Nat) : (txtA ns i).size ≤ 4001 := txts_ok ns ns.length i
theorem txtA_eq {ns : List Nd} {i : Nat} (h : i < ns.length) : txtA ns i = cutT (nodeT (txts ns i) (ns.getD i default)) := txts_get ns h
theorem txts_A {ns : List Nd} {j k : Nat} (h : k < j) (hj : j ≤ ns.length) : (txts ns j).getD k ByteArray.empty = txtA ns k := by
  rw [txts_get ns h]; exact (txtA_eq (by omega)).symm
def fA (ns : List Nd) (k : Int) : ByteArray := txtA ns k.toNat
def sz1 (ns : List Nd) (v k : Int) : Int := min 4001 (v + ((fA ns k).size : Int))
def szL (ns : List Nd) (v : Int) (l : List Int) : Int := l.foldl (sz1 ns) v
def szC (l : List Int) : Int := max 0 ((l.length : Int) - 1)
def sz2 (ns : List Nd) (n : Nd) : Nat → Int
  | 0 => 3
  | s + 1 => szL ns (sz2 ns n s + szC (pick2 s n.l n.r)) (pick2 s n.l n.r)
theorem szL_next {ns : List Nd} {v : Int} {l : List Int} {q : Nat} (h : q < l.length) : szL ns v (l.drop q) = szL ns (sz1 ns v (l.getD q 0)) (l.drop (q + 1)) := by
  rw [drop_getD l 0 h]; rfl
theorem szL_end {ns : List Nd} {v : Int} {l : List Int} {q : Nat} (h : l.length ≤ q) : szL ns v (l.drop q) = v := by
  rw [List.drop_eq_nil_of_le h]; rfl

/-! ### sizes -/
def sumS (ns : List Nd) (l : List Int) : Int := (l.map fun k => ((fA ns k).size : Int)).sum
theorem szL_sum {ns : List Nd} : ∀ {l : List Int} {v : Int}, 0 ≤ v → min 4001 (szL ns v l) = min 4001 (v + sumS ns l) ∧ (l ≠ [] → szL ns v l ≤ 4001) ∧ 0 ≤ szL ns v l
  | [], v, h => ⟨by simp [szL, sumS], fun h => absurd rfl h, h⟩
  | k :: r, v, h => by
    have hk : (0 : Int) ≤ ((fA ns k).size : Int) := by omega
    have h1 : 0 ≤ sz1 ns v k := by unfold sz1; omega
    obtain ⟨a, b, c⟩ := szL_sum (ns := ns) (l := r) h1
    have hS : sumS ns (k :: r) = ((fA ns k).size : Int) + sumS ns r := by simp [sumS]
    have hr : 0 ≤ sumS ns r := by
      unfold sumS
      have : ∀ l : List Int, 0 ≤ (l.map fun k => ((fA ns k).size : Int)).sum := by
        intro l
        induction l with
        | nil => exact Int.le_refl 0
        | cons x t ih => rw [List.map_cons, List.sum_cons]; omega
      exact this r
    have hL : szL ns v (k :: r) = szL ns (sz1 ns v k) r := rfl
    have hle : szL ns (sz1 ns v k) r ≤ 4001 := by
      match r, b with
      | [], _ => show sz1 ns v k ≤ 4001; unfold sz1; omega
      | x :: t, b => exact b (by simp)
    refine ⟨?_, fun _ => by rw [hL]; exact hle, by rw [hL]; exact c⟩
    rw [hL, a, hS]
    unfold sz1
    omega
theorem joinW_size (ns : List Nd) (l : List Int) : ((joinW (l.map (fA ns))).size : Int) = szC l + sumS ns l := by
  have key : ∀ n, n ≤ l.length → ((joinW ((l.take n).map (fA ns))).size : Int) = szC (l.take n) + sumS ns (l.take n) := by
    intro n
    induction n with
    | zero => intro _; rfl
    | succ n ih =>
      intro h
      have ih := ih (by omega)
      have hl : l.take (n + 1) = l.take n ++ [l.getD n 0] := by
        rw [List.take_add_one, List.getElem?_eq_getElem (by omega : n < l.length)]
        simp [List.getD, List.getElem?_eq_getElem (by omega : n < l.length)]
      have hn : (l.take n).length = n := by simp; omega
      rw [hl, List.map_append, List.map_cons, List.map_nil, joinW_app, ByteArray.size_append, List.length_map, hn]
      have hS : sumS ns (l.take n ++ [l.getD n 0]) = sumS ns (l.take n) + ((fA ns (l.getD n 0)).size : Int) := by simp [sumS]
      have hC : szC (l.take n ++ [l.getD n 0]) = n := by unfold szC; rw [List.length_append, hn]; simp only [List.length_singleton]; omega
      have hC2 : szC (l.take n) = max 0 ((n : Int) - 1) := by unfold szC; rw [hn]
      rw [hS, hC]
      split
      · rw [ByteArray.size_append]
        have h1 : (⟨#[44]⟩ : ByteArray).size = 1 := rfl
        omega
      · omega
  have := key l.length (Nat.le_refl _)
  rwa [List.take_length] at this
/-- Where all options lie ahead, the texts of a list are those of the form. -/
theorem join_A {ns : List Nd} {l : List Int} {j : Nat} (hj : j ≤ ns.length) (h : ∀ q, q < l.length → 0 ≤ l.getD q 0 ∧ l.getD q 0 < j) : joinW (l.map (fA ns)) = joinP (txts ns j) l := by
  rw [← joinP_words]
  congr 1
  apply List.map_congr_left
  intro k hk
  obtain ⟨q, hq, rfl⟩ := List.getElem_of_mem hk
  have := h q hq
  have e : l.getD q 0 = l[q] := by simp [List.getD, hq]
  rw [e] at this
  exact (txts_A (by omega) hj).symm
theorem pick2_at {ns : List Nd} (hg : GoodP ns) {j s : Nat} (hj : j < ns.length) {q : Nat} (hq : q < (pick2 s (ns.getD j default).l (ns.getD j default).r).length) :
    0 ≤ (pick2 s (ns.getD j default).l (ns.getD j default).r).getD q 0 ∧ (pick2 s (ns.getD j default).l (ns.getD j default).r).getD q 0 < j := by
  unfold pick2 at hq ⊢
  split at hq
  · rename_i h; simp only [if_pos h]; exact hg.optsOk.left hj hq
  · rename_i h; simp only [if_neg h]; exact hg.optsOk.right hj hq
theorem pick2_len {ns : List Nd} (hg : GoodP ns) {j : Nat} (s : Nat) (hj : j < ns.length) : (pick2 s (ns.getD j default).l (ns.getD j default).r).length ≤ 24 := by
  unfold pick2; split
  · exact hg.lenl hj
  · exact hg.lenr hj
theorem sz2_size {ns : List Nd} (hg : GoodP ns) {j : Nat} (hj : j < ns.length) : sz2 ns (ns.getD j default) 2 = ((txtA ns j).size : Int) := by
  have hl := hg.lenl hj; have hr := hg.lenr hj
  rw [txtA_eq hj, cutT_size]
  have el : ((joinP (txts ns j) (ns.getD j default).l).size : Int) = szC (ns.getD j default).l + sumS ns (ns.getD j default).l := by
    rw [← join_A (by omega) (fun q hq => hg.optsOk.left hj hq)]; exact joinW_size ns _
  have er : ((joinP (txts ns j) (ns.getD j default).r).size : Int) = szC (ns.getD j default).r + sumS ns (ns.getD j default).r := by
    rw [← join_A (by omega) (fun q hq => hg.optsOk.right hj hq)]; exact joinW_size ns _
  have eN : ((nodeT (txts ns j) (ns.getD j default)).size : Int) = 3 + (szC (ns.getD j default).l + sumS ns (ns.getD j default).l) + (szC (ns.getD j default).r + sumS ns (ns.getD j default).r) := by
    unfold nodeT
    have a1 : (⟨#[123]⟩ : ByteArray).size = 1 := rfl
    have a2 : (⟨#[124]⟩ : ByteArray).size = 1 := rfl
    have a3 : (⟨#[125]⟩ : ByteArray).size = 1 := rfl
    simp only [ByteArray.size_append]
    omega
  have hcl : 0 ≤ szC (ns.getD j default).l := by unfold szC; omega
  have hcr : 0 ≤ szC (ns.getD j default).r := by unfold szC; omega
  have s1 : sz2 ns (ns.getD j default) 1 = szL ns (3 + szC (ns.getD j default).l) (ns.getD j default).l := rfl
  have s2 : sz2 ns (ns.getD j default) 2 = szL ns (sz2 ns (ns.getD j default) 1 + szC (ns.getD j default).r) (ns.getD j default).r := rfl
  obtain ⟨a, b, c⟩ := szL_sum (ns := ns) (l := (ns.getD j default).l) (v := 3 + szC (ns.getD j default).l) (by omega)
  rw [← s1] at a b c
  obtain ⟨a', b', c'⟩ := szL_sum (ns := ns) (l := (ns.getD j default).r) (v := sz2 ns (ns.getD j default) 1 + szC (ns.getD j default).r) (by omega)
  rw [← s2] at a' b' c'
  have hle1 : sz2 ns (ns.getD j default) 1 ≤ 4001 := by
    by_cases h : (ns.getD j default).l = []
    · rw [s1, h]; exact (by decide : (3 : Int) + szC [] ≤ 4001)
    · exact b h
  have hle2 : sz2 ns (ns.getD j default) 2 ≤ 4001 := by
    by_cases h : (ns.getD j default).r = []
    · rw [s2, h, show szC [] = 0 by decide, Int.add_zero]; exact hle1
    · exact b' h
  have hsr : 0 ≤ sumS ns (ns.getD j default).r := by
    have := @joinW_size ns (ns.getD j default).r
    by_cases h : (ns.getD j default).r = []
    · rw [h]; exact Int.le_refl 0
    · have : ∀ l : List Int, 0 ≤ (l.map fun k => ((fA ns k).size : Int)).sum := by
        intro l
        induction l with
        | nil => exact Int.le_refl 0
        | cons x t ih => rw [List.map_cons, List.sum_cons]; omega
      exact this _
  have eM : ((min 4001 (nodeT (txts ns j) (ns.getD j default)).size : Nat) : Int) = min 4001 ((nodeT (txts ns j) (ns.getD j default)).size : Int) := by omega
  rw [eM]
  omega

/-! ### a long text makes the last one long -/
theorem sum_mem {ns : List Nd} {l : List Int} {k : Int} (hk : k ∈ l) : ((fA ns k).size : Int) ≤ sumS ns l := by
  have nn : ∀ l : List Int, 0 ≤ (l.map fun k => ((fA ns k).size : Int)).sum := by
    intro l
    induction l with
    | nil => exact Int.le_refl 0
    | cons x t ih => rw [List.map_cons, List.sum_cons]; omega
  unfold sumS
  induction l with
  | nil => cases hk
  | cons x t ih =>
    rw [List.map_cons, List.sum_cons]
    cases hk with
    | head => have := nn t; omega
    | tail _ h => have := ih h; omega
theorem txt_part {ns : List Nd} (hg : GoodP ns) {i : Nat} (hi : i < ns.length) {k : Int} (hk : k ∈ (ns.getD i default).l ∨ k ∈ (ns.getD i default).r) (hb : 4000 < (txtA ns k.toNat).size) : 4000 < (txtA ns i).size := by
  have h2 := sz2_size hg hi
  rw [txtA_eq hi, cutT_size]
  have el : ((joinP (txts ns i) (ns.getD i default).l).size : Int) = szC (ns.getD i default).l + sumS ns (ns.getD i default).l := by
    rw [← join_A (by omega) (fun q hq => hg.optsOk.left hi hq)]; exact joinW_size ns _
  have er : ((joinP (txts ns i) (ns.getD i default).r).size : Int) = szC (ns.getD i default).r + sumS ns (ns.getD i default).r := by
    rw [← join_A (by omega) (fun q hq => hg.optsOk.right hi hq)]; exact joinW_size ns _
  have hcl : 0 ≤ szC (ns.getD i default).l := by unfold szC; omega
  have hcr : 0 ≤ szC (ns.getD i default).r := by unfold szC; omega
  have eN : (nodeT (txts ns i) (ns.getD i default)).size = 3 + (joinP (txts ns i) (ns.getD i default).l).size + (joinP (txts ns i) (ns.getD i default).r).size := by
    unfold nodeT
    have a1 : (⟨#[123]⟩ : ByteArray).size = 1 := rfl
    have a2 : (⟨#[124]⟩ : ByteArray).size = 1 := rfl
    have a3 : (⟨#[125]⟩ : ByteArray).size = 1 := rfl
    simp only [ByteArray.size_append]
    omega
  rcases hk with hk | hk
  · have := sum_mem (ns := ns) hk
    unfold fA at this
    omega
  · have := sum_mem (ns := ns) hk
    unfold fA at this
    omega
theorem setAll_ind {P : Nat → Prop} : ∀ {l : List Int} {is : List Bool}, (∀ i, is.getD i false = true → P i) → (∀ k ∈ l, P k.toNat) → ∀ i, (setAll is l).getD i false = true → P i
  | [], is, h, _, i, hi => h i hi
  | k :: r, is, h, hl, i, hi => by
    refine setAll_ind (l := r) (is := is.set k.toNat true) (fun i hi => ?_) (fun x hx => hl x (List.mem_cons_of_mem _ hx)) i hi
    by_cases he : i = k.toNat
    · subst he; exact hl k List.mem_cons_self
    · refine h i ?_
      have : (is.set k.toNat true).getD i false = is.getD i false := by simp [List.getD, List.getElem?_set_ne (Ne.symm he)]
      rwa [this] at hi
theorem ugo_ind {P : Nat → Prop} {ns : List Nd} (hstep : ∀ i, P i → (∀ k ∈ (ns.getD i default).l, P k.toNat) ∧ ∀ k ∈ (ns.getD i default).r, P k.toNat) :
    ∀ {q : Nat} {is : List Bool}, (∀ i, is.getD i false = true → P i) → ∀ i, (ugo ns q is).getD i false = true → P i
  | 0, is, h, i, hi => h i hi
  | q + 1, is, h, i, hi => by
    refine ugo_ind hstep (q := q) (is := ustep ns is q) (fun i hi => ?_) i hi
    cases hq : is.getD q false with
    | false => rw [ustep_no hq] at hi; exact h i hi
    | true =>
      rw [ustep_yes hq] at hi
      have := hstep q (h q hq)
      exact setAll_ind (setAll_ind h this.1) this.2 i hi
/-- All places of a good form are reached: what holds at the last one and passes to options holds everywhere. -/
theorem GoodP.ind {ns : List Nd} (hg : GoodP ns) {P : Nat → Prop} (h0 : P (ns.length - 1)) (hstep : ∀ i, P i → (∀ k ∈ (ns.getD i default).l, P k.toNat) ∧ ∀ k ∈ (ns.getD i default).r, P k.toNat) : ∀ i, i < ns.length → P i := by
  intro i hi
  have hu := hg.used
  have hl : (usedM ns (ns.length - 1)).length = ns.length := by unfold usedM; rw [ugo_length]; simp
  have ha := idx_all (by omega) hu i (by omega)
  unfold usedM at ha
  refine ugo_ind hstep (fun k hk => ?_) i ha
  by_cases he : k = ns.length - 1
  · rw [he]; exact h0
  · have : ((List.replicate ns.length false).set (ns.length - 1) true).getD k false = false := by
      simp only [List.getD, List.getElem?_set_ne (Ne.symm he), List.getElem?_replicate]
      split <;> rfl
    rw [this] at hk; cases hk
theorem big_up {ns : List Nd} (hg : GoodP ns) {j : Nat} (hj : j < ns.length) (hb : 4000 < (txtA ns j).size) : (4000 : Int) < ((textOf ns).size : Int) := by
  have h0 : ∀ i, i < ns.length → i < ns.length ∧ (4000 < (txtA ns i).size → 4000 < (textOf ns).size) := by
    refine hg.ind (P := fun i => i < ns.length ∧ (4000 < (txtA ns i).size → 4000 < (textOf ns).size)) ⟨by have := hg.lo; omega, fun h => h⟩ fun i hi => ⟨fun k hk => ?_, fun k hk => ?_⟩
    · have hm := (hg.optsOk i (ns.getD i default) (by simp [List.getD, hi.1])).1 k hk
      exact ⟨by omega, fun h => hi.2 (txt_part hg hi.1 (Or.inl hk) h)⟩
    · have hm := (hg.optsOk i (ns.getD i default) (by simp [List.getD, hi.1])).2 k hk
      exact ⟨by omega, fun h => hi.2 (txt_part hg hi.1 (Or.inr hk) h)⟩
  have := (h0 j hj).2 hb
  omega

/-! ### for the walk -/
theorem set_self {xs ss : List Int} {j : Nat} {c : Int} (h : xs = ss.set j c) (hj : j < ss.length) : xs.getD j 0 = c := by
  subst h; simp [List.getD, hj]
theorem set_other {α : Type} {xs ss : List α} {j k : Nat} {c d : α} (h : xs = ss.set j c) (hj : j ≠ k) : xs.getD k d = ss.getD k d := by
  subst h; simp [List.getD, List.getElem?_set_ne hj]
theorem set_step {α : Type} {ss : List α} {n j : Nat} {c d : α} {f : Nat → α} (h : ∀ i, i < j → ss.getD i d = f i) (hl : ss.length = n) (hj : j < n) (hc : c = f j) : ∀ i, i < j + 1 → (ss.set j c).getD i d = f i := fun i hi => by
  by_cases he : i = j
  · subst he; rw [← hc]; simp [List.getD, hl, hj]
  · rw [set_other rfl (Ne.symm he)]; exact h i (by omega)
theorem words_next {ns : List Nd} {l : List Int} {q : Nat} (h : q < l.length) : (l.take q).map (fA ns) ++ [fA ns (l.getD q 0)] = (l.take (q + 1)).map (fA ns) := by
  have hl : l.take (q + 1) = l.take q ++ [l.getD q 0] := by
    rw [List.take_add_one, List.getElem?_eq_getElem h]
    simp [List.getD, List.getElem?_eq_getElem h]
  rw [hl, List.map_append, List.map_cons, List.map_nil]
theorem node_uncut {ns : List Nd} {j : Nat} (hj : j < ns.length) (h : (txtA ns j).size ≤ 4000) : nodeT (txts ns j) (ns.getD j default) = txtA ns j := by
  have e := txtA_eq hj
  rw [e, cutT_size] at h
  rw [e]
  unfold cutT
  rw [if_neg (by omega)]
theorem join_step {T : List ByteArray} {l r : List Int} {s : Nat} {a b x : ByteArray} (h : (0 < s → a = joinP T l) ∧ (1 < s → b = joinP T r)) (hs : s < 2) (hx : x = joinP T (pick2 s l r)) :
    (0 < s + 1 → (if s = 0 then x else a) = joinP T l) ∧ (1 < s + 1 → (if s = 0 then b else x) = joinP T r) := by
  match s, hs with
  | 0, _ => exact ⟨fun _ => hx, fun h => absurd h (by omega)⟩
  | 1, _ => exact ⟨fun _ => h.1 (by omega), fun _ => hx⟩
end Go.GL
