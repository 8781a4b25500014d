/- What the nodes of a book, or of a form, are as games. No program in sight. -/
import Derived.Test.YtndhhpaldhlghaaDoorPart
import Derived.Test.YtndhhpaldhlghaaDoorGame
namespace Go.GL
def stepD (acc : List Nat) (n : Nd) : List Nat := acc ++ [mkG (n.l.map fun z => acc.getD z.toNat 0) (n.r.map fun z => acc.getD z.toNat 0)]
def dens (ns : List Nd) : List Nat := ns.foldl stepD []
/-- The game at a place. -/
def den (ns : List Nd) (k : Nat) : Nat := (dens ns).getD k 0
theorem fold_len : ∀ (ns : List Nd) (acc : List Nat), (ns.foldl stepD acc).length = acc.length + ns.length
  | [], acc => by simp
  | n :: ns, acc => by rw [List.foldl_cons, fold_len ns]; simp [stepD]; omega
theorem fold_pre : ∀ (ns : List Nd) (acc : List Nat) (k : Nat), k < acc.length → (ns.foldl stepD acc).getD k 0 = acc.getD k 0
  | [], acc, k, h => rfl
  | n :: ns, acc, k, h => by
    rw [List.foldl_cons, fold_pre ns _ k (by simp [stepD]; omega)]
    exact getD_append_left h
theorem dens_length (ns : List Nd) : (dens ns).length = ns.length := by unfold dens; rw [fold_len]; simp
theorem den_app {ns ms : List Nd} {k : Nat} (h : k < ns.length) : den (ns ++ ms) k = den ns k := by
  unfold den dens
  rw [List.foldl_append]
  exact fold_pre _ _ _ (by rw [fold_len]; simpa using h)
theorem den_take {ns : List Nd} {k m : Nat} (h : k < m) (hm : m ≤ ns.length) : den (ns.take m) k = den ns k := by
  have := den_app (ns := ns.take m) (ms := ns.drop m) (k := k) (by simp; omega)
  rw [List.take_append_drop] at this
  exact this.symm
theorem den_at {ns : List Nd} {k : Nat} (hk : k < ns.length) (hl : ∀ z ∈ (ns.getD k default).l, 0 ≤ z ∧ z < k) (hr : ∀ z ∈ (ns.getD k default).r, 0 ≤ z ∧ z < k) :
    den ns k = mkG ((ns.getD k default).l.map fun z => den ns z.toNat) ((ns.getD k default).r.map fun z => den ns z.toNat) := by
  rw [← den_take (m := k + 1) (by omega) (by omega), take_snoc ns default hk]
  unfold den dens
  rw [List.foldl_append]
  have hlen : ((ns.take k).foldl stepD []).length = k := by rw [fold_len]; simp; omega
  have e0 : ∀ (A : List Nat) (n : Nd), List.foldl stepD A [n] = A ++ [mkG (n.l.map fun z => A.getD z.toNat 0) (n.r.map fun z => A.getD z.toNat 0)] := fun _ _ => rfl
  rw [e0, getD_append_self hlen.symm]
  have e : ∀ z : Int, 0 ≤ z ∧ z < k → (List.foldl stepD [] (ns.take k)).getD z.toNat 0 = (List.foldl stepD [] ns).getD z.toNat 0 := fun z hz => den_take (ns := ns) (k := z.toNat) (m := k) (by omega) (by omega)
  rw [List.map_congr_left (g := fun z => (List.foldl stepD [] ns).getD z.toNat 0) fun z hz => e z (hl z hz)]
  rw [List.map_congr_left (l := (ns.getD k default).r) (g := fun z => (List.foldl stepD [] ns).getD z.toNat 0) fun z hz => e z (hr z hz)]
theorem den_opt {ns : List Nd} (ho : OptsOk ns) {k : Nat} (hk : k < ns.length) :
    den ns k = mkG ((ns.getD k default).l.map fun z => den ns z.toNat) ((ns.getD k default).r.map fun z => den ns z.toNat) := den_at hk (optsAt ho hk).1 (optsAt ho hk).2
theorem lo_den {ns : List Nd} (ho : OptsOk ns) {k x : Nat} (hk : k < ns.length) : loG (den ns k) x ↔ ∃ z ∈ (ns.getD k default).l, x = den ns z.toNat := by
  rw [den_opt ho hk, lo_mk, List.mem_map]
  exact ⟨fun ⟨z, h1, h2⟩ => ⟨z, h1, h2.symm⟩, fun ⟨z, h1, h2⟩ => ⟨z, h1, h2.symm⟩⟩
theorem ro_den {ns : List Nd} (ho : OptsOk ns) {k x : Nat} (hk : k < ns.length) : roG (den ns k) x ↔ ∃ z ∈ (ns.getD k default).r, x = den ns z.toNat := by
  rw [den_opt ho hk, ro_mk, List.mem_map]
  exact ⟨fun ⟨z, h1, h2⟩ => ⟨z, h1, h2.symm⟩, fun ⟨z, h1, h2⟩ => ⟨z, h1, h2.symm⟩⟩

/-! ### a book whose nodes are all different games -/
structure Ar (ns : List Nd) (bs : List Int) : Prop where
  ok : BookOk ns bs
  rise : ∀ i, i < ns.length → (ns.getD i default).l.Pairwise (· < ·) ∧ (ns.getD i default).r.Pairwise (· < ·)
  diff : Diff ns
  born : BirthsOf ns bs
theorem Ar.opts {ns : List Nd} {bs : List Int} (h : Ar ns bs) : OptsOk ns := h.ok.optsOk
theorem Ar.empty : Ar [] [] := ⟨book_empty, fun i hi => absurd hi (Nat.not_lt_zero i), fun _ j _ hj => absurd hj (Nat.not_lt_zero j), rfl, fun k hk => absurd hk (Nat.not_lt_zero k)⟩
theorem den_inj_n {ns : List Nd} (ho : OptsOk ns) (hr : ∀ i, i < ns.length → (ns.getD i default).l.Pairwise (· < ·) ∧ (ns.getD i default).r.Pairwise (· < ·)) (hd : Diff ns) :
    ∀ (n i j : Nat), i + j ≤ n → i < ns.length → j < ns.length → den ns i = den ns j → i = j
  | 0, i, j, hn, _, _, _ => by omega
  | n + 1, i, j, hn, hi, hj, he => by
    have key : ∀ a b, a + b ≤ n + 1 → a < ns.length → b < ns.length → den ns a = den ns b → (∀ z ∈ (ns.getD a default).l, z ∈ (ns.getD b default).l) ∧ (∀ z ∈ (ns.getD a default).r, z ∈ (ns.getD b default).r) := by
      intro a b hab ha hb e
      have oa := optsAt ho ha
      have ob := optsAt ho hb
      constructor
      · intro z hz
        have h1 : loG (den ns a) (den ns z.toNat) := (lo_den ho ha).2 ⟨z, hz, rfl⟩
        rw [e] at h1
        obtain ⟨y, hy, e2⟩ := (lo_den ho hb).1 h1
        have z1 := oa.1 z hz
        have y1 := ob.1 y hy
        have := den_inj_n ho hr hd n z.toNat y.toNat (by omega) (by omega) (by omega) e2
        have : z = y := by omega
        rwa [this]
      · intro z hz
        have h1 : roG (den ns a) (den ns z.toNat) := (ro_den ho ha).2 ⟨z, hz, rfl⟩
        rw [e] at h1
        obtain ⟨y, hy, e2⟩ := (ro_den ho hb).1 h1
        have z1 := oa.2 z hz
        have y1 := ob.2 y hy
        have := den_inj_n ho hr hd n z.toNat y.toNat (by omega) (by omega) (by omega) e2
        have : z = y := by omega
        rwa [this]
    have k1 := key i j hn hi hj he
    have k2 := key j i (by omega) hj hi he.symm
    have el := asc_ext (hr i hi).1 (hr j hj).1 fun z => ⟨k1.1 z, k2.1 z⟩
    have er := asc_ext (hr i hi).2 (hr j hj).2 fun z => ⟨k1.2 z, k2.2 z⟩
    have e := nd_ext el er
    rcases Nat.lt_trichotomy i j with h | h | h
    · exact absurd e (hd i j h hj)
    · exact h
    · exact absurd e.symm (hd j i h hi)
theorem Ar.inj {ns : List Nd} {bs : List Int} (h : Ar ns bs) {i j : Nat} (hi : i < ns.length) (hj : j < ns.length) (he : den ns i = den ns j) : i = j := den_inj_n h.opts h.rise h.diff _ i j (Nat.le_refl _) hi hj he
theorem putL_rise {n : Int} : ∀ {l : List Int}, l.Pairwise (· < ·) → (putL l n).Pairwise (· < ·)
  | [], _ => by simp [putL]
  | x :: r, h => by
    have h' := List.pairwise_cons.1 h
    unfold putL
    split
    · rename_i hx
      refine List.pairwise_cons.2 ⟨fun k hk => ?_, putL_rise h'.2⟩
      rcases mem_putL.1 hk with rfl | hk
      · exact hx
      · exact h'.1 k hk
    · split
      · exact h
      · rename_i h1 h2
        refine List.pairwise_cons.2 ⟨fun k hk => ?_, h⟩
        rcases List.mem_cons.1 hk with rfl | hk
        · omega
        · have := h'.1 k hk; omega
theorem sortL_rise (l : List Int) : (sortL l).Pairwise (· < ·) := by
  have key : ∀ (l a : List Int), a.Pairwise (· < ·) → (l.foldl putL a).Pairwise (· < ·) := by
    intro l
    induction l with
    | nil => intro a h; exact h
    | cons x r ih => intro a h; exact ih _ (putL_rise h)
  exact key l [] List.Pairwise.nil
theorem bornOf_le {bs : List Int} {m : Int} : ∀ {l : List Int} {b : Int}, bornOf bs l b ≤ m ↔ b ≤ m ∧ ∀ k ∈ l, bs.getD k.toNat 0 + 1 ≤ m
  | [], b => by simp [bornOf]
  | x :: r, b => by
    have e : bornOf bs (x :: r) b = bornOf bs r (max b (bs.getD x.toNat 0 + 1)) := rfl
    rw [e, bornOf_le (l := r)]
    simp only [List.mem_cons, forall_eq_or_imp]
    constructor
    · rintro ⟨h1, h2⟩; exact ⟨by omega, by omega, h2⟩
    · rintro ⟨h1, h2, h3⟩; exact ⟨by omega, h3⟩
theorem putBorn_le {bs l r : List Int} {m : Int} : putBorn bs l r ≤ m ↔ 0 ≤ m ∧ (∀ k ∈ l, bs.getD k.toNat 0 + 1 ≤ m) ∧ ∀ k ∈ r, bs.getD k.toNat 0 + 1 ≤ m := by
  unfold putBorn
  rw [bornOf_le, bornOf_le, and_assoc]
theorem putBorn_sort {bs l r : List Int} : putBorn bs (sortL l) (sortL r) = putBorn bs l r := by
  apply Int.le_antisymm
  · rw [putBorn_le]
    have := putBorn_le (bs := bs) (l := l) (r := r).1 (Int.le_refl _)
    exact ⟨this.1, fun k hk => this.2.1 k (mem_sortL.1 hk), fun k hk => this.2.2 k (mem_sortL.1 hk)⟩
  · rw [putBorn_le]
    have := putBorn_le (bs := bs) (l := sortL l) (r := sortL r).1 (Int.le_refl _)
    exact ⟨this.1, fun k hk => this.2.1 k (mem_sortL.2 hk), fun k hk => this.2.2 k (mem_sortL.2 hk)⟩
theorem Ar.put {ns : List Nd} {bs xs ys : List Int} (h : Ar ns bs) (hl : ns.length + 1 ≤ 1048576) (hls : xs.length ≤ 1048576 ∧ ys.length ≤ 1048576) (h1 : ∀ i, i < xs.length → 0 ≤ xs.getD i 0 ∧ xs.getD i 0 < ns.length) (h2 : ∀ i, i < ys.length → 0 ≤ ys.getD i 0 ∧ ys.getD i 0 < ns.length) :
    Ar (putN ns bs xs ys) (putB ns bs xs ys) ∧ den (putN ns bs xs ys) (putK ns bs xs ys).toNat = mkG (xs.map fun z => den ns z.toNat) (ys.map fun z => den ns z.toNat) ∧ ∀ k, k < ns.length → den (putN ns bs xs ys) k = den ns k := by
  have hb := h.ok.put hl hls h1 h2
  have hm1 := mem_of_getD (P := fun k => 0 ≤ k ∧ k < (ns.length : Int)) h1
  have hm2 := mem_of_getD (P := fun k => 0 ≤ k ∧ k < (ns.length : Int)) h2
  have hsort : ∀ (f : Int → Nat), mkG ((sortL xs).map f) ((sortL ys).map f) = mkG (xs.map f) (ys.map f) := fun f => mk_congr
    (fun i => by simp only [List.mem_map, mem_sortL]) (fun i => by simp only [List.mem_map, mem_sortL])
  unfold putN putB putK at hb ⊢
  cases hf : findK ns bs (putNd xs ys) (putBorn bs xs ys) with
  | some k =>
    rw [hf] at hb
    simp only at hb ⊢
    have hmem := List.mem_of_find?_eq_some hf
    have hdec := List.find?_some hf
    have hk : k < ns.length := by simpa using hmem
    have hd : bs.getD k 0 = putBorn bs xs ys ∧ (ns.getD k default).l = sortL xs ∧ (ns.getD k default).r = sortL ys := of_decide_eq_true hdec
    refine ⟨h, ?_, fun k _ => by trivial⟩
    rw [Int.toNat_natCast, den_opt h.opts hk, hd.2.1, hd.2.2]
    exact hsort _
  | none =>
    rw [hf] at hb
    simp only at hb ⊢
    have hlen := h.ok.len
    have hnew : ∀ i, i < ns.length → ns.getD i default ≠ putNd xs ys := fun i hi e => by
      have hn := List.find?_eq_none.1 hf i (List.mem_range.2 hi)
      apply hn
      refine decide_eq_true ⟨?_, by rw [e], by rw [e]⟩
      rw [h.born.2 i hi, e]
      exact putBorn_sort
    have hat : ∀ i, i < ns.length → (ns ++ [putNd xs ys]).getD i default = ns.getD i default := fun i hi => getD_append_left hi
    have hself : (ns ++ [putNd xs ys]).getD ns.length default = putNd xs ys := getD_append_self rfl
    have hlast : ∀ i, i < (ns ++ [putNd xs ys]).length → i < ns.length ∨ i = ns.length := fun i hi => by simp at hi; omega
    have hbat : ∀ i, i < ns.length → (bs ++ [putBorn bs xs ys]).getD i 0 = bs.getD i 0 := fun i hi => getD_append_left (by omega)
    refine ⟨⟨hb.1, fun i hi => ?_, fun i j hij hj => ?_, by simp [hlen], fun k hk => ?_⟩, ?_, fun k hk => den_app hk⟩
    · rcases hlast i hi with hi' | rfl
      · rw [hat i hi']; exact h.rise i hi'
      · rw [hself]; exact ⟨sortL_rise _, sortL_rise _⟩
    · rcases hlast j hj with hj' | rfl
      · rw [hat i (by omega), hat j hj']; exact h.diff i j hij hj'
      · rw [hat i hij, hself]; exact hnew i hij
    · rcases hlast k hk with hk' | rfl
      · have ho := optsAt h.opts hk'
        rw [hat k hk', hbat k hk', h.born.2 k hk']
        exact putBorn_congr (fun z hz => (hbat z.toNat (by have := ho.1 z hz; omega)).symm) (fun z hz => (hbat z.toNat (by have := ho.2 z hz; omega)).symm)
      · rw [hself, getD_append_self hlen.symm]
        refine putBorn_sort.symm.trans (putBorn_congr (fun z hz => (hbat z.toNat ?_).symm) (fun z hz => (hbat z.toNat ?_).symm))
        · have := hm1 z (mem_sortL.1 hz); omega
        · have := hm2 z (mem_sortL.1 hz); omega
    · rw [Int.toNat_natCast, den_at (by simp) (by rw [hself]; exact fun z hz => hm1 z (mem_sortL.1 hz)) (by rw [hself]; exact fun z hz => hm2 z (mem_sortL.1 hz)), hself]
      have e : ∀ l : List Int, (∀ z ∈ l, 0 ≤ z ∧ z < (ns.length : Int)) → (sortL l).map (fun z => den (ns ++ [putNd xs ys]) z.toNat) = (sortL l).map fun z => den ns z.toNat := fun l hm =>
        List.map_congr_left fun z hz => den_app (by have := hm z (mem_sortL.1 hz); omega)
      have e1 : (putNd xs ys).l = sortL xs := rfl
      have e2 : (putNd xs ys).r = sortL ys := rfl
      rw [e1, e2, e xs hm1, e ys hm2]
      exact hsort _
/-- What holds of the games while a form is put into a book. -/
structure AddD (ns : List Nd) (fs : List Nd) (k : Nat) (s : List Int × List Nd × List Int) : Prop where
  ar : Ar s.2.1 s.2.2
  is : ∀ i, i < k → den s.2.1 (s.1.getD i 0).toNat = den fs i
  old : ∀ i, i < ns.length → den s.2.1 i = den ns i
theorem addM_den {ns : List Nd} {bs : List Int} {fs : List Nd} (h : Ar ns bs) (hf : FormOk fs) (hl : ns.length + fs.length ≤ 1048576) : ∀ k, k ≤ fs.length → AddD ns fs k (addM ns bs (fs.take k)) := by
  intro k
  induction k with
  | zero => intro _; exact ⟨h, fun i hi => absurd hi (Nat.not_lt_zero i), fun i _ => rfl⟩
  | succ k ih =>
    intro hk
    have ih := ih (by omega)
    have ha := addM_ok h.ok hf hl k (by omega)
    rw [addM_next (by omega)]
    generalize addM ns bs (fs.take k) = s at ih ha
    obtain ⟨as, ns2, bs2⟩ := s
    have a1 := ha.at1 hf (show k < fs.length by omega)
    have hhi := ha.hi
    simp only at hhi
    have hp := ih.ar.put (xs := atL as (fs.getD k default).l) (ys := atL as (fs.getD k default).r) (by simp only; omega) (by have := hf.lens k (by omega); rw [at_length, at_length]; omega) (at_bounds ha.places a1.1) (at_bounds ha.places a1.2)
    have hlo := ha.lo
    have hal := ha.len
    simp only at hp ih hlo hal
    refine ⟨hp.1, fun i hi => ?_, fun i hi => ?_⟩
    · show den (putN ns2 bs2 _ _) ((as ++ [_]).getD i 0).toNat = den fs i
      by_cases he : i < k
      · rw [getD_append_left (by omega), hp.2.2 _ (by have := ha.places i (by simp only; omega); simp only at this; omega)]
        exact ih.is i he
      · have e : i = k := by omega
        subst e
        rw [getD_append_self hal.symm, hp.2.1, den_opt hf.opts (by omega)]
        have oo := optsAt hf.opts (show i < fs.length by omega)
        have em : ∀ l : List Int, (∀ z ∈ l, 0 ≤ z ∧ z < (i : Int)) → (atL as l).map (fun z => den ns2 z.toNat) = l.map fun z => den fs z.toNat := fun l hm => by
          unfold atL
          rw [List.map_map]
          exact List.map_congr_left fun z hz => ih.is z.toNat (by have := hm z hz; omega)
        rw [em _ oo.1, em _ oo.2]
    · show den (putN ns2 bs2 _ _) i = den ns i
      rw [hp.2.2 i (by omega)]
      exact ih.old i hi
/-- A form is put into a book: what its places are. -/
theorem Ar.add {ns : List Nd} {bs : List Int} {fs : List Nd} (h : Ar ns bs) (hf : FormOk fs) (hl : ns.length + fs.length ≤ 1048576) : AddD ns fs fs.length (addM ns bs fs) := by
  have := addM_den h hf hl fs.length (Nat.le_refl _)
  rwa [List.take_length] at this
/-- The game of a form. -/
def gOf (fs : List Nd) : Nat := den fs (fs.length - 1)
theorem Ar.root {ns : List Nd} {bs : List Int} {fs : List Nd} (h : Ar ns bs) (hf : FormOk fs) (h1 : 1 ≤ fs.length) (hl : ns.length + fs.length ≤ 1048576) : den (addM ns bs fs).2.1 (rootM ns bs fs).toNat = gOf fs := by
  unfold rootM gOf
  have ha := addM_all h.ok hf hl
  rw [ha.len]
  exact (h.add hf hl).is _ (by omega)
end Go.GL
