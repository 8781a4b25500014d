/- Plain lemmas for the laws' helpers: sizes, copies, equality. No program in sight. -/
import Derived.Test.YtndhhpaldhlghaaDoorGoodB
namespace Go.GL
def szNd (n : Nd) (left : Int) : Int := if szInts n.l left < 0 then -1 else if szInts n.r (szInts n.l left) < 0 then -1 else szInts n.r (szInts n.l left)
def szGo : List Nd → Int → Int
  | [], left => left
  | n :: r, left => if szNd n left < 0 then -1 else szGo r (szNd n left)
def szNds (ns : List Nd) (left : Int) : Int := if left - ns.length < 0 then -1 else szGo ns (left - ns.length)
theorem szInts_le {xs : List Int} {left : Int} (h : 0 ≤ szInts xs left) : szInts xs left = left - xs.length ∧ (xs.length : Int) ≤ left := by
  unfold szInts at h ⊢; split at h <;> split <;> omega
theorem szInts_ok {xs : List Int} {left : Int} (h : ¬ szInts xs left < 0) (hl : 0 ≤ left ∧ left ≤ 1048576) : 0 ≤ szInts xs left ∧ szInts xs left ≤ 1048576 := by
  have := szInts_le (xs := xs) (left := left) (by omega); omega
theorem szNd_ok {n : Nd} {left : Int} (h : ¬ szNd n left < 0) : 0 ≤ szNd n left ∧ szNd n left ≤ left ∧ (n.l.length : Int) ≤ left ∧ (n.r.length : Int) ≤ left := by
  unfold szNd at h ⊢
  split at h
  · omega
  · rename_i h1
    have a1 := szInts_le (xs := n.l) (left := left) (by omega)
    split at h
    · omega
    · rename_i h2
      have a2 := szInts_le (xs := n.r) (left := szInts n.l left) (by omega)
      rw [if_neg h1, if_neg h2]; omega
theorem szGo_next {ns : List Nd} {left : Int} {j : Nat} (h : j < ns.length) (h1 : ¬ szNd (ns.getD j default) left < 0) : szGo (ns.drop j) left = szGo (ns.drop (j + 1)) (szNd (ns.getD j default) left) := by
  rw [drop_getD ns default h, szGo, if_neg h1]
theorem szGo_stop {ns : List Nd} {left : Int} {j : Nat} (h : j < ns.length) (h1 : szNd (ns.getD j default) left < 0) : szGo (ns.drop j) left = -1 := by
  rw [drop_getD ns default h, szGo, if_pos h1]
theorem szGo_end {ns : List Nd} {left : Int} {j : Nat} (h : ns.length ≤ j) : szGo (ns.drop j) left = left := by
  rw [List.drop_eq_nil_of_le h]; rfl
theorem szGo_all {left : Int} : ∀ {ns : List Nd}, 0 ≤ szGo ns left → ∀ n ∈ ns, (n.l.length : Int) ≤ left ∧ (n.r.length : Int) ≤ left
  | [], _, n, hn => by cases hn
  | x :: r, h, n, hn => by
    unfold szGo at h
    split at h
    · omega
    · rename_i h1
      have a := szNd_ok h1
      cases hn with
      | head => exact ⟨a.2.2.1, a.2.2.2⟩
      | tail _ hn => have := szGo_all h n hn; omega
theorem szGo_le {left : Int} : ∀ {ns : List Nd}, 0 ≤ szGo ns left → szGo ns left ≤ left
  | [], h => Int.le_refl _
  | x :: r, h => by
    unfold szGo at h ⊢
    split at h
    · omega
    · rename_i h1
      have a := szNd_ok h1
      have := szGo_le h
      rw [if_neg h1]; omega
theorem szNds_le {ns : List Nd} {left : Int} (h : ¬ szNds ns left < 0) : 0 ≤ szNds ns left ∧ szNds ns left ≤ left := by
  unfold szNds at h ⊢
  split at h
  · omega
  · rename_i h1
    rw [if_neg h1]
    have := szGo_le (ns := ns) (left := left - ns.length) (by omega)
    omega
/-- A form of a size that the laws look at. -/
structure Small (ns : List Nd) : Prop where
  len : ns.length ≤ 1048576
  opts : ∀ i, i < ns.length → (ns.getD i default).l.length ≤ 1048576 ∧ (ns.getD i default).r.length ≤ 1048576
theorem small_le {ns : List Nd} {left : Int} (h : ¬ szNds ns left < 0) (hl : left ≤ 1048576) : Small ns := by
  unfold szNds at h
  split at h
  · omega
  · refine ⟨by omega, fun i hi => ?_⟩
    have := szGo_all (left := left - ns.length) (by omega) _ (getD_mem (d := default) hi)
    omega
theorem small_of {ns : List Nd} (h : ¬ szNds ns 1048576 < 0) : Small ns := small_le h (by omega)

/-! ### copies -/
def cpy {α : Type} (xs : List α) (j : Nat) (z : α) : List α := xs.take j ++ List.replicate (xs.length - j) z
theorem cpy_length {α : Type} {xs : List α} {j : Nat} {z : α} (h : j ≤ xs.length) : (cpy xs j z).length = xs.length := by simp [cpy]; omega
theorem cpy_start {α : Type} {xs : List α} {z : α} : List.replicate xs.length z = cpy xs 0 z := by simp [cpy]
theorem cpy_next {α : Type} {xs : List α} {j : Nat} {z : α} (d : α) (h : j < xs.length) : (cpy xs j z).set j (xs.getD j d) = cpy xs (j + 1) z := by
  unfold cpy
  have e : xs.length - j = (xs.length - (j + 1)) + 1 := by omega
  rw [take_snoc xs d h, e, List.replicate_succ, List.set_append_right _ _ (by simp; omega)]
  have : j - (xs.take j).length = 0 := by simp; omega
  rw [this, List.set_cons_zero, List.append_assoc]; rfl
theorem cpy_end {α : Type} {xs : List α} {j : Nat} {z : α} (h : xs.length ≤ j) : cpy xs j z = xs := by
  unfold cpy; rw [List.take_of_length_le h, show xs.length - j = 0 by omega]; simp
end Go.GL
