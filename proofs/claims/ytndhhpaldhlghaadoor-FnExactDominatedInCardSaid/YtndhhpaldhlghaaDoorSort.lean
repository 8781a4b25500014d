/- slices.Sort and slices.Compact on rows of the call's own, out of the shelf's contracts; sorted and without repetition is what the reference's sortL is. -/
import Derived.Test.YtndhhpaldhlghaaDoorKey
import Derived.Sort.Row
import Derived.Sort.Grow
import Derived.Lib.SlicesCompact
namespace Go.GL
open Go Go.RowKit Go.Sort
theorem own_holds {e base g n cap : Nat} {G : Pin} {w : World} {zs : List Int} (h : Own eInt e G w base (.slice (some ⟨g, 0, none⟩) n cap) zs) : n = zs.length ∧ g < w.heap.size ∧ zs.length ≤ cap ∧ Holds (Value.int .i64) w g 0 zs.toArray := by
  obtain ⟨cells, ⟨hl, hown⟩, hr⟩ := h.ex
  rcases hown with ⟨he, _⟩ | ⟨g', cap', cur, he, hb, hg, hnc, hcm, hcs, htake⟩
  · cases he
  · simp only [Value.slice.injEq, Option.some.injEq, Addr.mk.injEq] at he
    obtain ⟨⟨rfl, _⟩, rfl, rfl⟩ := he
    refine ⟨rfl, (Array.getElem?_eq_some_iff.1 hg).1, hnc, fun j hj => ?_⟩
    have hj' : j < zs.length := by simpa using hj
    have hz : zs[j]? = some zs[j] := List.getElem?_eq_getElem hj'
    have h1 := hr j _ hz
    have h2 : (List.drop (j * eInt.size) cells).take eInt.size = [.int .i64 zs[j]] := h1
    have h3 : cells[j]? = some (.int .i64 zs[j]) := by
      have := congrArg (fun l => l[0]?) h2
      simp only [List.getElem?_take, List.getElem?_drop] at this
      simpa [eInt] using this
    rw [← htake, List.getElem?_take] at h3
    split at h3
    · have h4 : cur[j]? = some (.int .i64 zs[j]) := by simpa using h3
      refine ⟨?_, ?_⟩
      · rw [cell_of_row w g _ cur e (0, 0) hg, Nat.zero_add, h4]
        simp [hj']
      · simp [World.frozen?, hg]
    · cases h3
theorem own_put {e base g n cap : Nat} {G : Pin} {w w' : World} {zs ys : List Int} {d : Array Int} {os : Array Obj} {m : Nat} (h : Own eInt e G w base (.slice (some ⟨g, 0, none⟩) n cap) zs) (hP : Pins G w)
    (hw : w' = grow (putRow (Value.int .i64) (Go.Sort.ahead w m) g 0 d) os) (hd : d.size = zs.length) (hy : d.toList.take ys.length = ys) : Own eInt e G w' base (.slice (some ⟨g, 0, none⟩) ys.length cap) ys ∧ Pins G w' ∧ w.grownBy w' (some g) := by
  obtain ⟨cells, ⟨hl, hown⟩, hr⟩ := h.ex
  have hfree := h.free
  rcases hown with ⟨he, _⟩ | ⟨g', cap', cur, he, hb, hg, hnc, hcm, hcs, htake⟩
  · cases he
  · simp only [Value.slice.injEq, Option.some.injEq, Addr.mk.injEq] at he
    obtain ⟨⟨rfl, _⟩, rfl, rfl⟩ := he
    have hlt : g < w.heap.size := (Array.getElem?_eq_some_iff.1 hg).1
    have hle : ys.length ≤ d.size := by
      have := congrArg List.length hy
      simp only [List.length_take, Array.length_toList] at this; omega
    have hh : w'.heap = w.heap.modify g (onCells (putCells (Value.int .i64) 0 d)) ++ os := by subst hw; rfl
    have hat : w'.heap[g]? = some (.cells (putCells (Value.int .i64) 0 d cur) e (0, 0)) := by
      rw [hh, Array.getElem?_append_left (by simpa using hlt), Array.getElem?_modify, if_pos rfl, hg]; rfl
    have hgr : w.grownBy w' (some g) := ⟨by subst hw; rfl, by subst hw; rfl, by subst hw; rfl, by rw [hh]; simp, fun k hk hne => by
      rw [hh, Array.getElem?_append_left (by simpa using hk), Array.getElem?_modify, if_neg (fun e => hne (by rw [e]))]⟩
    refine ⟨⟨⟨ys.map (Value.int .i64), ⟨by simp [eInt], Or.inr ⟨g, cap, _, rfl, hb, hat, by omega, hcm, by rw [putCells, Array.size_mapIdx, hcs], ?_⟩⟩, fun i x hx => ?_⟩, hfree⟩, hP.grown hgr (fun k hk => by cases hk; exact hfree g rfl), hgr⟩
    · apply List.ext_getElem?
      intro j
      simp only [eInt, Nat.mul_one, List.getElem?_take, Array.getElem?_toList, putCells, Array.getElem?_mapIdx, List.getElem?_map]
      by_cases hj : j < ys.length
      · have hjc : j < cur.size := by rw [hcs]; simp only [eInt]; omega
        rw [if_pos hj, Array.getElem?_eq_getElem hjc, Option.map_some, if_pos (by omega), List.getElem?_eq_getElem hj]
        simp only [Option.map_some, Nat.sub_zero, Option.some.injEq, Value.int.injEq, true_and]
        have h5 : ys[j]? = d[j]? := by
          have := congrArg (fun l => l[j]?) hy
          simp only [List.getElem?_take, if_pos hj, Array.getElem?_toList] at this
          exact this.symm
        rw [List.getElem?_eq_getElem hj, Array.getElem?_eq_getElem (show j < d.size by omega)] at h5
        rw [getElem!_pos d j (by omega)]
        simpa using h5.symm
      · rw [if_neg hj, List.getElem?_eq_none (by omega)]; rfl
    · show (List.drop (i * 1) (ys.map (Value.int .i64))).take 1 = [.int .i64 x]
      have hi := (List.getElem?_eq_some_iff.1 hx).1
      rw [Nat.mul_one, List.drop_eq_getElem_cons (by simpa using hi)]
      simp only [List.getElem_map, List.take_succ_cons, List.take_zero, List.cons.injEq, and_true, Value.int.injEq, true_and]
      rw [List.getElem?_eq_getElem hi] at hx
      simpa using hx
theorem Ext.one {G : Pin} {w w' : World} {x : Option Nat} (hP : Pins G w') (hg : w.grownBy w' x) : Ext (inO x) G w G w' :=
  ⟨Pin.le_refl _, hP, fun _ _ _ h => Or.inl h, hg.os, hg.tape, hg.output, hg.size, fun k hk hs => hg.block k hk fun e => hs e.symm⟩

/-! ### sorted, once each -/
def sortM (zs : List Int) : List Int := zs.mergeSort fun x y => decide (x ≤ y)
theorem sortM_pw (zs : List Int) : (sortM zs).Pairwise (· ≤ ·) := by
  have := List.pairwise_mergeSort (le := fun x y : Int => decide (x ≤ y)) (fun a b c h1 h2 => by simp at *; omega) (fun a b => by simp; omega) zs
  exact this.imp fun h => by simpa using h
theorem mem_sortM {zs : List Int} {x : Int} : x ∈ sortM zs ↔ x ∈ zs := List.mem_mergeSort
theorem sortM_length (zs : List Int) : (sortM zs).length = zs.length := List.length_mergeSort _
theorem compact_mem {zs : List Int} {x : Int} : x ∈ Lib.compact zs ↔ x ∈ zs := by
  unfold Lib.compact Lib.compactUpTo
  rw [List.mem_map]
  constructor
  · rintro ⟨j, hj, rfl⟩
    have := List.mem_range.1 (List.mem_filter.1 hj).1
    simp [this]
  · intro hx
    have key : ∀ j, j < zs.length → zs.getD j 0 = x → ∃ i, i ∈ (List.range zs.length).filter (Lib.keeps zs.toArray) ∧ zs.toArray[i]! = x := by
      intro j
      induction j with
      | zero => intro h1 h2; exact ⟨0, List.mem_filter.2 ⟨List.mem_range.2 h1, by simp [Lib.keeps]⟩, by simpa [List.getD, h1] using h2⟩
      | succ j ih =>
        intro h1 h2
        by_cases he : zs.getD j 0 = x
        · exact ih (by omega) he
        · refine ⟨j + 1, List.mem_filter.2 ⟨List.mem_range.2 h1, ?_⟩, by simpa [List.getD, h1] using h2⟩
          unfold Lib.keeps
          refine decide_eq_true (Or.inr ?_)
          have e1 : zs.toArray[j + 1]! = x := by simpa [List.getD, h1] using h2
          have e2 : zs.toArray[j + 1 - 1]! = zs.getD j 0 := by simp [List.getD, show j < zs.length by omega]
          rw [e1, e2]; exact fun e => he e.symm
    obtain ⟨j, hj, e⟩ := List.getElem_of_mem hx
    exact key j hj (by simp [List.getD, hj, e])
theorem compact_pw {zs : List Int} (h : zs.Pairwise (· ≤ ·)) : (Lib.compact zs).Pairwise (· < ·) := by
  unfold Lib.compact Lib.compactUpTo
  rw [List.pairwise_map]
  have hs : ∀ i j, i ≤ j → j < zs.length → zs.toArray[i]! ≤ zs.toArray[j]! := fun i j hij hj => by
    have e1 : zs.toArray[i]! = zs[i]'(by omega) := by simp [show i < zs.length by omega]
    have e2 : zs.toArray[j]! = zs[j] := by simp [hj]
    rw [e1, e2]
    by_cases he : i = j
    · subst he; exact Int.le_refl _
    · exact List.pairwise_iff_getElem.1 h i j (by omega) hj (by omega)
  refine (List.Pairwise.filter _ List.pairwise_lt_range).imp_of_mem ?_
  intro a b ha hb hab
  have hb1 := List.mem_filter.1 hb
  have hbl := List.mem_range.1 hb1.1
  have hk := of_decide_eq_true hb1.2
  rcases hk with hk | hk
  · omega
  · have h1 := hs a (b - 1) (by omega) (by omega)
    have h2 := hs (b - 1) b (by omega) hbl
    omega
/-- 'distinct': sorted, once each. -/
theorem distinct_eq (zs : List Int) : Lib.compact (sortM zs) = sortL zs :=
  asc_ext (compact_pw (sortM_pw zs)) (sortL_rise zs) fun z => by rw [compact_mem, mem_sortM, mem_sortL]
theorem compact_len (zs : List Int) : (Lib.compact zs).length ≤ zs.length := by
  unfold Lib.compact Lib.compactUpTo
  rw [List.length_map]
  exact Nat.le_trans (List.length_filter_le _ _) (by simp)
/-- What an own row's value is. -/
theorem own_cases {e base : Nat} {G : Pin} {w : World} {v : Value} {zs : List Int} (h : Own eInt e G w base v zs) : (v = .slice none 0 0 ∧ zs = []) ∨ ∃ g cap, v = .slice (some ⟨g, 0, none⟩) zs.length cap := by
  obtain ⟨cells, ⟨hl, hown⟩, hr⟩ := h.ex
  rcases hown with ⟨rfl, h0⟩ | ⟨g, cap, cur, rfl, _⟩
  · exact Or.inl ⟨rfl, List.eq_nil_of_length_eq_zero h0⟩
  · exact Or.inr ⟨g, cap, rfl⟩
end Go.GL
