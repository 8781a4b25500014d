/- Plain lemmas on the reference's book of forms: what its functions compute. No program in sight. -/
import Derived.Test.YtndhhpaldhlghaaDoorPlain
namespace Go.GL
noncomputable def decP (p : Prop) : Bool := @decide p (Classical.propDecidable p)
theorem decP_true {p : Prop} : decP p = true ↔ p := by unfold decP; exact @decide_eq_true_iff _ (Classical.propDecidable _)
theorem decP_false {p : Prop} : decP p = false ↔ ¬ p := by unfold decP; exact @decide_eq_false_iff_not _ (Classical.propDecidable _)
theorem decP_iff {p q : Prop} (h : p ↔ q) : decP p = decP q := by rw [propext h]
theorem decP_dec {p : Prop} [Decidable p] : decP p = decide p := by
  by_cases h : p
  · rw [decP_true.2 h, decide_eq_true h]
  · rw [decP_false.2 h, decide_eq_false h]

/-! ### rising lists -/
def Rise (l : List Int) (lo hi : Int) : Prop := ∀ i, i < l.length → (lo ≤ l.getD i 0 ∧ l.getD i 0 ≤ hi) ∧ (0 < i → l.getD (i - 1) 0 < l.getD i 0)
theorem rise_step {l : List Int} {lo hi : Int} {j : Nat} (hp : ∀ i, i < j → (lo ≤ l.getD i 0 ∧ l.getD i 0 ≤ hi) ∧ (0 < i → l.getD (i - 1) 0 < l.getD i 0))
    (h1 : lo ≤ l.getD j 0 ∧ l.getD j 0 ≤ hi) (h2 : 0 < j → l.getD (j - 1) 0 < l.getD j 0) : ∀ i, i < j + 1 → (lo ≤ l.getD i 0 ∧ l.getD i 0 ≤ hi) ∧ (0 < i → l.getD (i - 1) 0 < l.getD i 0) := fun i hi => by
  by_cases he : i = j
  · subst he; exact ⟨h1, h2⟩
  · exact hp i (by omega)
theorem Rise.done {l : List Int} {lo hi : Int} {j : Nat} (hj : l.length ≤ j) (hp : ∀ i, i < j → (lo ≤ l.getD i 0 ∧ l.getD i 0 ≤ hi) ∧ (0 < i → l.getD (i - 1) 0 < l.getD i 0)) : Rise l lo hi := fun i hi => hp i (by omega)

/-! ### putting a number to its place -/
def putL : List Int → Int → List Int
  | [], n => [n]
  | x :: r, n => if x < n then x :: putL r n else if x = n then x :: r else n :: x :: r
def sortL (l : List Int) : List Int := l.foldl putL []
theorem put_next {l : List Int} {n : Int} {j : Nat} (h : j < l.length) (h1 : l.getD j 0 < n) (hr : putL l n = l.take j ++ putL (l.drop j) n) : putL l n = l.take (j + 1) ++ putL (l.drop (j + 1)) n := by
  have e : l.getD j 0 = l[j] := by simp [List.getD, h]
  rw [hr, drop_getD l 0 h, putL, if_pos h1, List.take_succ_eq_append_getElem h, e, List.append_assoc]
  rfl
theorem put_hit {l : List Int} {n : Int} {j : Nat} (h : j < l.length) (h1 : l.getD j 0 = n) (hr : putL l n = l.take j ++ putL (l.drop j) n) : putL l n = l := by
  rw [hr, drop_getD l 0 h, putL, if_neg (by omega), if_pos h1, ← drop_getD l 0 h, List.take_append_drop]
theorem put_new {l : List Int} {n : Int} {j : Nat} (h : j < l.length → ¬ l.getD j 0 < n ∧ ¬ l.getD j 0 = n) (hr : putL l n = l.take j ++ putL (l.drop j) n) :
    (([] ++ (l.take j).drop 0) ++ [n]) ++ (l.take l.length).drop j = putL l n := by
  rw [hr]
  by_cases hj : j < l.length
  · rw [drop_getD l 0 hj, putL, if_neg (h hj).1, if_neg (h hj).2, ← drop_getD l 0 hj]; simp
  · rw [List.drop_eq_nil_of_le (by omega : l.length ≤ j), putL]; simp; omega
theorem putL_length {n : Int} : ∀ {l : List Int}, (putL l n).length ≤ l.length + 1
  | [] => by simp [putL]
  | x :: r => by
    unfold putL
    have := putL_length (n := n) (l := r)
    split
    · simp; omega
    · split <;> simp
theorem sort_next {l : List Int} {j : Nat} (h : j < l.length) : sortL (l.take (j + 1)) = putL (sortL (l.take j)) (l.getD j 0) := by
  unfold sortL
  rw [List.take_succ_eq_append_getElem h, List.foldl_append]
  simp [List.getD, h]
theorem take_all {α : Type} {l : List α} {j : Nat} (h : l.length ≤ j) : l.take j = l := List.take_of_length_le h
theorem sort_length {l : List Int} : (sortL l).length ≤ l.length := by
  have key : ∀ (l a : List Int), (l.foldl putL a).length ≤ a.length + l.length := by
    intro l
    induction l with
    | nil => intro a; simp
    | cons x r ih => intro a; have := ih (putL a x); have := putL_length (n := x) (l := a); simp; omega
  have := key l []; simpa [sortL] using this

/-! ### places -/
def atL (a : List Int) (l : List Int) : List Int := l.map fun k => a.getD k.toNat 0
theorem at_next {a l : List Int} {j : Nat} (h : j < l.length) : atL a (l.take (j + 1)) = atL a (l.take j) ++ [a.getD (l.getD j 0).toNat 0] := by
  unfold atL
  rw [List.take_succ_eq_append_getElem h, List.map_append]
  simp [List.getD, h]
theorem at_length {a l : List Int} : (atL a l).length = l.length := by simp [atL]
def bornOf (bs : List Int) (l : List Int) (b : Int) : Int := l.foldl (fun b k => max b (bs.getD k.toNat 0 + 1)) b
theorem born_next {bs l : List Int} {b : Int} {j : Nat} (h : j < l.length) : bornOf bs (l.take (j + 1)) b = max (bornOf bs (l.take j) b) (bs.getD (l.getD j 0).toNat 0 + 1) := by
  unfold bornOf
  rw [List.take_succ_eq_append_getElem h, List.foldl_append]
  simp [List.getD, h]
/-- Limits of births. -/
def BLim (bs : List Int) (m : Int) : Prop := ∀ i, i < bs.length → 0 ≤ bs.getD i 0 ∧ bs.getD i 0 ≤ m
theorem born_lim {bs l : List Int} {b m : Int} (hb : BLim bs m) (hl : ∀ k ∈ l, 0 ≤ k ∧ k < bs.length) (h : 0 ≤ b ∧ b ≤ m + 1) : 0 ≤ bornOf bs l b ∧ bornOf bs l b ≤ m + 1 := by
  induction l generalizing b with
  | nil => exact h
  | cons x r ih =>
    have h1 := hl x List.mem_cons_self
    have h2 := hb x.toNat (by omega)
    exact ih (b := max b (bs.getD x.toNat 0 + 1)) (fun k hk => hl k (List.mem_cons_of_mem _ hk)) (by omega)

/-! ### ahead -/
def aheadI (a b : Nd) : Int := orL [cmpL a.l b.l, cmpL a.r b.r]
theorem ahead_left {a b : Nd} (h : cmpL a.l b.l ≠ 0) : aheadI a b = cmpL a.l b.l := by unfold aheadI; rw [orL, if_pos h]
theorem ahead_right {a b : Nd} (h : cmpL a.l b.l = 0) : aheadI a b = cmpL a.r b.r := by
  unfold aheadI; rw [orL, if_neg (by omega), orL]
  split
  · rfl
  · rename_i h1; simp only [orL]; omega

/-! ### limits -/
structure FitsP (ns : List Nd) : Prop where
  lim : 1 ≤ ns.length ∧ ns.length ≤ 120
  opts : ∀ k, k < ns.length → (ns.getD k default).l.length ≤ 24 ∧ (ns.getD k default).r.length ≤ 24

/-! ### the book -/
structure Book where
  ns : List Nd
  bs : List Int
def findK (ns : List Nd) (bs : List Int) (nd : Nd) (b : Int) : Option Nat := (List.range ns.length).find? fun k => decide (bs.getD k 0 = b ∧ (ns.getD k default).l = nd.l ∧ (ns.getD k default).r = nd.r)
def putNd (l r : List Int) : Nd := ⟨sortL l, sortL r⟩
def putBorn (bs l r : List Int) : Int := bornOf bs r (bornOf bs l 0)
def putK (ns : List Nd) (bs l r : List Int) : Int := match findK ns bs (putNd l r) (putBorn bs l r) with
  | some k => k
  | none => ns.length
def putN (ns : List Nd) (bs l r : List Int) : List Nd := match findK ns bs (putNd l r) (putBorn bs l r) with
  | some _ => ns
  | none => ns ++ [putNd l r]
def putB (ns : List Nd) (bs l r : List Int) : List Int := match findK ns bs (putNd l r) (putBorn bs l r) with
  | some _ => bs
  | none => bs ++ [putBorn bs l r]
def NotAt (ns : List Nd) (bs : List Int) (nd : Nd) (b : Int) (k : Nat) : Prop := ¬ (bs.getD k 0 = b ∧ (ns.getD k default).l = nd.l ∧ (ns.getD k default).r = nd.r)
theorem bnot_dec {p : Prop} [Decidable p] (h : ¬ p) : (!decide p) = true := by rw [decide_eq_false h]; rfl
theorem find_some {ns : List Nd} {bs : List Int} {nd : Nd} {b : Int} {j : Nat} (hj : j < ns.length) (hp : ∀ k, k < j → NotAt ns bs nd b k) (h : bs.getD j 0 = b ∧ (ns.getD j default).l = nd.l ∧ (ns.getD j default).r = nd.r) : findK ns bs nd b = some j := by
  unfold findK
  rw [List.find?_range_eq_some]
  refine ⟨decide_eq_true h, by simp [hj], fun k hk => ?_⟩
  exact bnot_dec (hp k hk)
theorem find_none {ns : List Nd} {bs : List Int} {nd : Nd} {b : Int} {j : Nat} (hj : ns.length ≤ j) (hp : ∀ k, k < j → NotAt ns bs nd b k) : findK ns bs nd b = none := by
  unfold findK
  rw [List.find?_range_eq_none]
  intro k hk
  exact bnot_dec (hp k (by omega))
/-- What a book is bound to, that its functions may read it. -/
structure BookOk (ns : List Nd) (bs : List Int) : Prop where
  len : bs.length = ns.length
  lim : ns.length ≤ 1048576
  born : ∀ i, i < bs.length → 0 ≤ bs.getD i 0 ∧ bs.getD i 0 ≤ i
  opts : ∀ i, i < ns.length → (∀ k ∈ (ns.getD i default).l, 0 ≤ k ∧ k < i) ∧ (∀ k ∈ (ns.getD i default).r, 0 ≤ k ∧ k < i)
  lens : ∀ i, i < ns.length → (ns.getD i default).l.length ≤ 1048576 ∧ (ns.getD i default).r.length ≤ 1048576
theorem fits_end {ns : List Nd} {j : Nat} (hp : ∀ k, k < j → (ns.getD k default).l.length ≤ 24 ∧ (ns.getD k default).r.length ≤ 24) (h0 : j ≤ ns.length) (hj : ns.length ≤ j ∨ 120 < j) :
    decide ((1 : Int) ≤ ns.length ∧ (ns.length : Int) ≤ 120) = decP (FitsP ns) := by
  by_cases h : (1 : Int) ≤ ns.length ∧ (ns.length : Int) ≤ 120
  · rw [decide_eq_true h, decP_true.2 ⟨by omega, fun k hk => hp k (by omega)⟩]
  · rw [decide_eq_false h, decP_false.2 fun g => h (by have := g.lim; omega)]
theorem nd_ext {a b : Nd} (h1 : a.l = b.l) (h2 : a.r = b.r) : a = b := by cases a; cases b; cases h1; cases h2; rfl
theorem eqstepN {xs ys : List Nd} {j : Nat} (hp : ∀ i, i < j → xs.getD i default = ys.getD i default) (h1 : (xs.getD j default).l = (ys.getD j default).l) (h2 : (xs.getD j default).r = (ys.getD j default).r) : ∀ i, i < j + 1 → xs.getD i default = ys.getD i default := fun i hi => by
  by_cases he : i = j
  · subst he; exact nd_ext h1 h2
  · exact hp i (by omega)
theorem eqdoneN {xs ys : List Nd} {j : Nat} (hl : xs.length = ys.length) (hj : xs.length ≤ j) (hp : ∀ i, i < j → xs.getD i default = ys.getD i default) : xs = ys := by
  apply List.ext_getElem hl
  intro i h1 h2
  have := hp i (by omega)
  simpa [List.getD, h1, h2] using this

/-! ### a form is put into a book -/
theorem mem_putL {n k : Int} : ∀ {l : List Int}, k ∈ putL l n ↔ k = n ∨ k ∈ l
  | [] => by simp [putL]
  | x :: r => by
    unfold putL
    split
    · simp [mem_putL (l := r)]; constructor <;> (rintro (h | h | h) <;> simp [h])
    · split
      · rename_i h; subst h; simp
      · simp
theorem mem_sortL {k : Int} {l : List Int} : k ∈ sortL l ↔ k ∈ l := by
  have key : ∀ (l a : List Int), k ∈ l.foldl putL a ↔ k ∈ a ∨ k ∈ l := by
    intro l
    induction l with
    | nil => intro a; simp
    | cons x r ih => intro a; rw [List.foldl_cons, ih, mem_putL, List.mem_cons]; constructor <;> intro h <;> rcases h with h | h <;> first | (rcases h with h | h <;> simp [h]) | simp [h]
  simpa [sortL] using key l []
theorem mem_of_getD {P : Int → Prop} {l : List Int} (h : ∀ i, i < l.length → P (l.getD i 0)) : ∀ k ∈ l, P k := fun k hk => by
  obtain ⟨i, hi, rfl⟩ := List.getElem_of_mem hk
  have := h i hi
  simpa [List.getD, hi] using this
theorem getD_append_left {α : Type} {a b : List α} {d : α} {i : Nat} (h : i < a.length) : (a ++ b).getD i d = a.getD i d := by simp [List.getD, List.getElem?_append_left h]
theorem getD_append_at {α : Type} {a : List α} {x d : α} : (a ++ [x]).getD a.length d = x := by simp [List.getD]
theorem getD_append_self {α : Type} {a : List α} {x d : α} {i : Nat} (h : i = a.length) : (a ++ [x]).getD i d = x := by subst h; exact getD_append_at
/-- What a put node keeps of a book. -/
theorem BookOk.put {ns : List Nd} {bs xs ys : List Int} (h : BookOk ns bs) (hl : ns.length + 1 ≤ 1048576) (hls : xs.length ≤ 1048576 ∧ ys.length ≤ 1048576) (h1 : ∀ i, i < xs.length → 0 ≤ xs.getD i 0 ∧ xs.getD i 0 < ns.length) (h2 : ∀ i, i < ys.length → 0 ≤ ys.getD i 0 ∧ ys.getD i 0 < ns.length) :
    BookOk (putN ns bs xs ys) (putB ns bs xs ys) ∧ (0 ≤ putK ns bs xs ys ∧ putK ns bs xs ys < (putN ns bs xs ys).length) ∧ ns.length ≤ (putN ns bs xs ys).length ∧ (putN ns bs xs ys).length ≤ ns.length + 1 := by
  unfold putN putB putK
  cases hf : findK ns bs (putNd xs ys) (putBorn bs xs ys) with
  | some k =>
    have hk : k < ns.length := by
      unfold findK at hf
      have := List.mem_of_find?_eq_some hf
      simpa using this
    exact ⟨h, by simp; omega, Nat.le_refl _, by simp⟩
  | none =>
    have hm1 := mem_of_getD (P := fun k => 0 ≤ k ∧ k < (ns.length : Int)) h1
    have hm2 := mem_of_getD (P := fun k => 0 ≤ k ∧ k < (ns.length : Int)) h2
    have hb : BLim bs (ns.length - 1 : Int) := fun i hi => by
      have := h.born i hi
      have := h.len
      omega
    have hnb : 0 ≤ putBorn bs xs ys ∧ putBorn bs xs ys ≤ ns.length := by
      unfold putBorn
      have a1 := born_lim (b := 0) hb (fun k hk => by have := hm1 k hk; rw [h.len]; exact this) (by omega)
      have a2 := born_lim hb (fun k hk => by have := hm2 k hk; rw [h.len]; exact this) a1
      omega
    refine ⟨⟨by simp [h.len], by simp; omega, fun i hi => ?_, fun i hi => ?_, fun i hi => ?_⟩, by simp; omega, by simp, by simp⟩
    · have hl' := h.len
      simp only [List.length_append, List.length_cons, List.length_nil] at hi
      by_cases hi' : i < bs.length
      · rw [getD_append_left hi']; exact h.born i hi'
      · rw [getD_append_self (by omega)]; omega
    · simp only [List.length_append, List.length_cons, List.length_nil] at hi
      by_cases hi' : i < ns.length
      · rw [getD_append_left hi']; exact h.opts i hi'
      · rw [getD_append_self (by omega)]
        have e : i = ns.length := by omega
        subst e
        exact ⟨fun k hk => hm1 k (mem_sortL.1 hk), fun k hk => hm2 k (mem_sortL.1 hk)⟩
    · simp only [List.length_append, List.length_cons, List.length_nil] at hi
      by_cases hi' : i < ns.length
      · rw [getD_append_left hi']; exact h.lens i hi'
      · rw [getD_append_self (by omega)]
        exact ⟨Nat.le_trans sort_length hls.1, Nat.le_trans sort_length hls.2⟩
theorem BookOk.optsOk {ns : List Nd} {bs : List Int} (h : BookOk ns bs) : OptsOk ns := fun i n hn => by
  obtain ⟨hi, rfl⟩ := List.getElem?_eq_some_iff.1 hn
  have := h.opts i hi
  have e : ns.getD i default = ns[i] := by simp [List.getD, hi]
  rw [e] at this
  exact this
/-- A form that may be put into a book. -/
structure FormOk (fs : List Nd) : Prop where
  len : fs.length ≤ 1048576
  opts : OptsOk fs
  lens : ∀ i, i < fs.length → (fs.getD i default).l.length ≤ 1048576 ∧ (fs.getD i default).r.length ≤ 1048576
def addStep (s : List Int × List Nd × List Int) (n : Nd) : List Int × List Nd × List Int :=
  (s.1 ++ [putK s.2.1 s.2.2 (atL s.1 n.l) (atL s.1 n.r)], putN s.2.1 s.2.2 (atL s.1 n.l) (atL s.1 n.r), putB s.2.1 s.2.2 (atL s.1 n.l) (atL s.1 n.r))
def addM (ns : List Nd) (bs : List Int) (fs : List Nd) : List Int × List Nd × List Int := fs.foldl addStep ([], ns, bs)
theorem addM_next {ns : List Nd} {bs : List Int} {fs : List Nd} {j : Nat} (h : j < fs.length) : addM ns bs (fs.take (j + 1)) = addStep (addM ns bs (fs.take j)) (fs.getD j default) := by
  unfold addM
  rw [List.take_succ_eq_append_getElem h, List.foldl_append]
  simp [List.getD, h]
theorem at_bounds {a l : List Int} {m : Nat} (ha : ∀ i, i < a.length → 0 ≤ a.getD i 0 ∧ a.getD i 0 < m) (hl : ∀ i, i < l.length → 0 ≤ l.getD i 0 ∧ l.getD i 0 < a.length) : ∀ i, i < (atL a l).length → 0 ≤ (atL a l).getD i 0 ∧ (atL a l).getD i 0 < m := fun i hi => by
  rw [at_length] at hi
  have h1 := hl i hi
  have h2 := ha (l.getD i 0).toNat (by omega)
  have e : (atL a l).getD i 0 = a.getD (l.getD i 0).toNat 0 := by simp [atL, List.getD, hi]
  rw [e]; exact h2
/-- What holds while a form is put into a book. -/
structure AddOk (ns : List Nd) (k : Nat) (as : List Int) (ns2 : List Nd) (bs2 : List Int) : Prop where
  book : BookOk ns2 bs2
  len : as.length = k
  lo : ns.length ≤ ns2.length
  hi : ns2.length ≤ ns.length + k
  places : ∀ i, i < as.length → 0 ≤ as.getD i 0 ∧ as.getD i 0 < ns2.length
theorem AddOk.start {ns : List Nd} {bs : List Int} (h : BookOk ns bs) : AddOk ns 0 [] ns bs := ⟨h, rfl, Nat.le_refl _, Nat.le_refl _, fun i hi => by simp at hi⟩
theorem AddOk.at1 {ns : List Nd} {fs : List Nd} {k : Nat} {as : List Int} {ns2 : List Nd} {bs2 : List Int} (h : AddOk ns k as ns2 bs2) (hf : FormOk fs) (hk : k < fs.length) :
    (∀ i, i < (fs.getD k default).l.length → 0 ≤ (fs.getD k default).l.getD i 0 ∧ (fs.getD k default).l.getD i 0 < as.length) ∧ (∀ i, i < (fs.getD k default).r.length → 0 ≤ (fs.getD k default).r.getD i 0 ∧ (fs.getD k default).r.getD i 0 < as.length) := by
  rw [h.len]
  exact ⟨fun i hi => hf.opts.left hk hi, fun i hi => hf.opts.right hk hi⟩
theorem AddOk.step {ns : List Nd} {fs : List Nd} {k : Nat} {as : List Int} {ns2 : List Nd} {bs2 : List Int} (h : AddOk ns k as ns2 bs2) (hf : FormOk fs) (hk : k < fs.length) (hl : ns.length + fs.length ≤ 1048576) :
    AddOk ns (k + 1) (addStep (as, ns2, bs2) (fs.getD k default)).1 (addStep (as, ns2, bs2) (fs.getD k default)).2.1 (addStep (as, ns2, bs2) (fs.getD k default)).2.2 := by
  have h1 := h.at1 hf hk
  have hb := h.book.put (xs := atL as (fs.getD k default).l) (ys := atL as (fs.getD k default).r) (by have := h.hi; omega) (by have := hf.lens k hk; rw [at_length, at_length]; omega) (at_bounds h.places h1.1) (at_bounds h.places h1.2)
  have hh := h.hi
  have hlo := h.lo
  refine ⟨hb.1, by simp [addStep, h.len], by simp only [addStep]; omega, by simp only [addStep]; omega, fun i hi => ?_⟩
  simp only [addStep, List.length_append, List.length_cons, List.length_nil] at hi ⊢
  by_cases hi' : i < as.length
  · rw [getD_append_left hi']; have := h.places i hi'; omega
  · rw [getD_append_self (by omega)]; exact hb.2.1
theorem addM_ok {ns : List Nd} {bs : List Int} {fs : List Nd} (h : BookOk ns bs) (hf : FormOk fs) (hl : ns.length + fs.length ≤ 1048576) : ∀ k, k ≤ fs.length → AddOk ns k (addM ns bs (fs.take k)).1 (addM ns bs (fs.take k)).2.1 (addM ns bs (fs.take k)).2.2 := by
  intro k
  induction k with
  | zero => intro _; exact AddOk.start h
  | succ k ih => intro hk; rw [addM_next (by omega)]; exact (ih (by omega)).step hf (by omega) hl
theorem addM_all {ns : List Nd} {bs : List Int} {fs : List Nd} (h : BookOk ns bs) (hf : FormOk fs) (hl : ns.length + fs.length ≤ 1048576) : AddOk ns fs.length (addM ns bs fs).1 (addM ns bs fs).2.1 (addM ns bs fs).2.2 := by
  have := addM_ok h hf hl fs.length (Nat.le_refl _)
  rwa [List.take_length] at this
def rootM (ns : List Nd) (bs : List Int) (fs : List Nd) : Int := (addM ns bs fs).1.getD ((addM ns bs fs).1.length - 1) 0

/-! ### what is reached -/
def reachM (ns : List Nd) (m : Nat) : List Bool := ugo ns (m + 1) ((List.replicate (m + 1) false).set m true)

/-! ### the form at a place -/
def ndAt (a : List Int) (n : Nd) : Nd := ⟨sortL (atL a n.l), sortL (atL a n.r)⟩
def posM (l : List Nd) (x : Nd) : Nat := match l with
  | [] => 0
  | y :: r => if aheadI y x < 0 then posM r x + 1 else 0
theorem pos_next {l : List Nd} {x : Nd} {j : Nat} (h : j < l.length) (h1 : aheadI (l.getD j default) x < 0) (hr : posM l x = j + posM (l.drop j) x) : posM l x = (j + 1) + posM (l.drop (j + 1)) x := by
  rw [hr, drop_getD l default h, posM, if_pos h1]; omega
theorem pos_stop {l : List Nd} {x : Nd} {j : Nat} (h : j < l.length) (h1 : ¬ aheadI (l.getD j default) x < 0) (hr : posM l x = j + posM (l.drop j) x) : posM l x = j := by
  rw [hr, drop_getD l default h, posM, if_neg h1]; rfl
theorem pos_end {l : List Nd} {x : Nd} {j : Nat} (h : l.length ≤ j) (hr : posM l x = j + posM (l.drop j) x) : posM l x = j := by
  rw [hr, List.drop_eq_nil_of_le h]; rfl
def insM {α : Type} (l : List α) (i : Nat) (x : α) : List α := l.take i ++ [x] ++ l.drop i
theorem ins_gen {α : Type} {l : List α} {i : Nat} {x : α} : (([] ++ (l.take i).drop 0) ++ [x]) ++ (l.take l.length).drop i = insM l i x := by simp [insM]
theorem ins_length {α : Type} {l : List α} {i : Nat} {x : α} (h : i ≤ l.length) : (insM l i x).length = l.length + 1 := by simp [insM]; omega
theorem mem_ins {α : Type} {l : List α} {i : Nat} {x y : α} : y ∈ insM l i x ↔ y = x ∨ y ∈ l := by
  have := List.take_append_drop i l
  constructor
  · intro h
    simp only [insM, List.mem_append, List.mem_singleton] at h
    rcases h with (h | h) | h
    · exact Or.inr (List.mem_of_mem_take h)
    · exact Or.inl h
    · exact Or.inr (List.mem_of_mem_drop h)
  · rintro (h | h)
    · subst h; simp [insM]
    · rw [← this] at h
      simp only [insM, List.mem_append, List.mem_singleton] at h ⊢
      rcases h with h | h <;> simp [h]
def lvStep (ns : List Nd) (bs : List Int) (need : List Bool) (at_ : List Int) (b : Int) (s : List Nd × List Int) (k : Nat) : List Nd × List Int :=
  if need.getD k false = true ∧ bs.getD k 0 = b then (insM s.1 (posM s.1 (ndAt at_ (ns.getD k default))) (ndAt at_ (ns.getD k default)), insM s.2 (posM s.1 (ndAt at_ (ns.getD k default))) (k : Int)) else s
def lvM (ns : List Nd) (bs : List Int) (need : List Bool) (at_ : List Int) (b : Int) (m : Nat) : List Nd × List Int := (List.range m).foldl (lvStep ns bs need at_ b) ([], [])
theorem lv_next {ns : List Nd} {bs : List Int} {need : List Bool} {at_ : List Int} {b : Int} {m : Nat} : lvM ns bs need at_ b (m + 1) = lvStep ns bs need at_ b (lvM ns bs need at_ b m) m := by
  unfold lvM; rw [List.range_succ, List.foldl_append]; rfl
def placeM : List Nd → List Int → List Int → List Nd → List Int × List Nd
  | x :: l, k :: f, a, o => placeM l f (a.set k.toNat o.length) (o ++ [x])
  | _, _, a, o => (a, o)
theorem place_next {l : List Nd} {f : List Int} {a : List Int} {o : List Nd} {j : Nat} (h : j < l.length) (h2 : j < f.length) : placeM (l.drop j) (f.drop j) a o = placeM (l.drop (j + 1)) (f.drop (j + 1)) (a.set (f.getD j 0).toNat o.length) (o ++ [l.getD j default]) := by
  rw [drop_getD l default h, drop_getD f 0 h2, placeM]
theorem place_end {l : List Nd} {f : List Int} {a : List Int} {o : List Nd} {j : Nat} (h : l.length ≤ j) : placeM (l.drop j) (f.drop j) a o = (a, o) := by
  rw [List.drop_eq_nil_of_le h]; cases f.drop j <;> rfl
def formStep (ns : List Nd) (bs : List Int) (need : List Bool) (m : Nat) (s : List Int × List Nd) (b : Nat) : List Int × List Nd :=
  placeM (lvM ns bs need s.1 b m).1 (lvM ns bs need s.1 b m).2 s.1 s.2
def formGo (ns : List Nd) (bs : List Int) (need : List Bool) (m : Nat) (q : Nat) : List Int × List Nd := (List.range q).foldl (formStep ns bs need m) (List.replicate m 0, [])
theorem form_next {ns : List Nd} {bs : List Int} {need : List Bool} {m q : Nat} : formGo ns bs need m (q + 1) = formStep ns bs need m (formGo ns bs need m q) q := by
  unfold formGo; rw [List.range_succ, List.foldl_append]; rfl
def formM (ns : List Nd) (bs : List Int) (root : Nat) : List Nd := (formGo ns bs (reachM ns root) (root + 1) ((bs.getD root 0).toNat + 1)).2

theorem ugo_length {ns : List Nd} : ∀ {q : Nat} {is : List Bool}, (ugo ns q is).length = is.length := by
  intro q
  induction q with
  | zero => intro is; rfl
  | succ q ih =>
    intro is
    refine ih.trans ?_
    unfold ustep
    split
    · rw [setAll_length, setAll_length]
    · rfl
theorem reach_length (ns : List Nd) (m : Nat) : (reachM ns m).length = m + 1 := by unfold reachM; rw [ugo_length]; simp
theorem lv_skip {ns : List Nd} {bs : List Int} {need : List Bool} {at_ : List Int} {b : Int} {k : Nat} {ls : List Nd} {fr : List Int} (hr : lvM ns bs need at_ b k = (ls, fr)) (h : ¬ (need.getD k false = true ∧ bs.getD k 0 = b)) : lvM ns bs need at_ b (k + 1) = (ls, fr) := by
  rw [lv_next, hr]; unfold lvStep; rw [if_neg h]
theorem lv_ins {ns : List Nd} {bs : List Int} {need : List Bool} {at_ : List Int} {b : Int} {k i : Nat} {ls : List Nd} {fr : List Int} (hr : lvM ns bs need at_ b k = (ls, fr)) (h1 : need.getD k false = true) (h2 : bs.getD k 0 = b) (hp : posM ls (ndAt at_ (ns.getD k default)) = i) :
    lvM ns bs need at_ b (k + 1) = ((([] ++ (ls.take i).drop 0) ++ [ndAt at_ (ns.getD k default)]) ++ (ls.take ls.length).drop i, (([] ++ (fr.take i).drop 0) ++ [(k : Int)]) ++ (fr.take fr.length).drop i) := by
  rw [lv_next, hr]; unfold lvStep; rw [if_pos ⟨h1, h2⟩, hp, ins_gen, ins_gen]
theorem ins_len {α : Type} {l : List α} {i : Nat} {x : α} (h : i ≤ l.length) : ((([] ++ (l.take i).drop 0) ++ [x]) ++ (l.take l.length).drop i).length = l.length + 1 := by rw [ins_gen, ins_length h]
theorem ins_all {P : Int → Prop} {l : List Int} {i : Nat} {x : Int} (h : ∀ j, j < l.length → P (l.getD j 0)) (hx : P x) : ∀ j, j < ((([] ++ (l.take i).drop 0) ++ [x]) ++ (l.take l.length).drop i).length → P (((([] ++ (l.take i).drop 0) ++ [x]) ++ (l.take l.length).drop i).getD j 0) := fun j hj => by
  rw [ins_gen] at hj ⊢
  rcases mem_ins.1 (getD_mem (d := (0 : Int)) hj) with h1 | h1
  · rw [h1]; exact hx
  · exact mem_of_getD h _ h1
theorem form_done {ns : List Nd} {bs : List Int} {m q : Nat} {a : List Int} {o : List Nd} (hr : formGo ns bs (reachM ns m) (m + 1) q = (a, o)) (hq : q = (bs.getD m 0).toNat + 1) : formM ns bs m = o := by
  unfold formM; rw [← hq, hr]
theorem form_step {ns : List Nd} {bs : List Int} {need : List Bool} {m q : Nat} {a a2 : List Int} {o o2 ls : List Nd} {fr : List Int} (hr : formGo ns bs need m q = (a, o)) (hl : lvM ns bs need a q m = (ls, fr)) (hp : placeM ls fr a o = (a2, o2)) :
    formGo ns bs need m (q + 1) = (a2, o2) := by
  rw [form_next, hr]; unfold formStep; simp only [hl, hp]

/-! ### good, as the reference says it -/
structure GoodS (ns : List Nd) : Prop where
  fits : FitsP ns
  rise : ∀ i, i < ns.length → Rise (ns.getD i default).l 0 ((i : Int) - 1) ∧ Rise (ns.getD i default).r 0 ((i : Int) - 1)
  same : formM (addM [] [] ns).2.1 (addM [] [] ns).2.2 (rootM [] [] ns).toNat = ns
theorem Rise.all {l : List Int} {lo hi : Int} (h : Rise l lo hi) : ∀ k ∈ l, lo ≤ k ∧ k ≤ hi := mem_of_getD fun i hi => (h i hi).1
theorem formOk_of {ns : List Nd} (h : FitsP ns) (hr : ∀ i, i < ns.length → Rise (ns.getD i default).l 0 ((i : Int) - 1) ∧ Rise (ns.getD i default).r 0 ((i : Int) - 1)) : FormOk ns :=
  ⟨by have := h.lim.2; omega, fun i n hn => by
    obtain ⟨hi, rfl⟩ := List.getElem?_eq_some_iff.1 hn
    have h1 := hr i hi
    have e : ns.getD i default = ns[i] := by simp [List.getD, hi]
    rw [e] at h1
    exact ⟨fun k hk => by have := h1.1.all k hk; omega, fun k hk => by have := h1.2.all k hk; omega⟩, fun i hi => by have := h.opts i hi; omega⟩
theorem book_empty : BookOk [] [] := ⟨rfl, Nat.zero_le _, fun i hi => absurd hi (Nat.not_lt_zero i), fun i hi => absurd hi (Nat.not_lt_zero i), fun i hi => absurd hi (Nat.not_lt_zero i)⟩
theorem root_lt {ns : List Nd} {bs : List Int} {fs : List Nd} (h : AddOk ns fs.length (addM ns bs fs).1 (addM ns bs fs).2.1 (addM ns bs fs).2.2) (h1 : 1 ≤ fs.length) : 0 ≤ rootM ns bs fs ∧ rootM ns bs fs < (addM ns bs fs).2.1.length := by
  unfold rootM
  exact h.places _ (by have := h.len; omega)
end Go.GL
