/- The reference's order of a book's nodes: what its table may hold. -/
import Derived.Test.YtndhhpaldhlghaaDoorDen
import Derived.Test.YtndhhpaldhlghaaDoorRow
namespace Go.GL
open Go Go.RowKit
/-- Just one place's block. -/
def inO (x : Option Nat) (k : Nat) : Prop := x = some k
theorem notO {x y : Option Nat} (h : Apart x y) : ∀ k, x = some k → ¬ inO y k := fun k hx hy => h k hx hy
theorem notOb {c : Nat} {y : Option Nat} (h : Apart (some c) y) : ¬ inO y c := fun hy => h c rfl hy
theorem lo_self {w : World} {x : Option Nat} : Lo w (inO x) x := fun _ hk => Or.inr hk
noncomputable def geB (ns : List Nd) (x y : Int) : Bool := decP (geG (den ns x.toNat) (den ns y.toNat))
/-- The table's entries for pairs below m are right, or not told. -/
def KOk (ns : List Nd) (ks : List Int) (m : Nat) : Prop := ∀ i j : Nat, i < ns.length → j < ns.length → i + j < m → ks.getD (i * ns.length + j) 0 = 0 ∨ ks.getD (i * ns.length + j) 0 = if geB ns i j = true then 1 else 2
/-- Entries from m on are as they were. -/
def KSame (ns : List Nd) (ks ks' : List Int) (m : Nat) : Prop := ∀ i j : Nat, i < ns.length → j < ns.length → m ≤ i + j → ks'.getD (i * ns.length + j) 0 = ks.getD (i * ns.length + j) 0
structure KRes (ns : List Nd) (ks ks' : List Int) (m : Nat) : Prop where
  len : ks'.length = ks.length
  ok : KOk ns ks' m
  same : KSame ns ks ks' m
theorem KOk.mono {ns : List Nd} {ks : List Int} {m m' : Nat} (h : KOk ns ks m) (hm : m' ≤ m) : KOk ns ks m' := fun i j hi hj hs => h i j hi hj (by omega)
theorem KOk.zero {ns : List Nd} {k m : Nat} : KOk ns (List.replicate k 0) m := fun i j _ _ _ => Or.inl (by simp [List.getD, List.getElem?_replicate]; split <;> rfl)
theorem KRes.refl {ns : List Nd} {ks : List Int} {m : Nat} (h : KOk ns ks m) : KRes ns ks ks m := ⟨rfl, h, fun _ _ _ _ _ => rfl⟩
/-- A call on a smaller pair. -/
theorem KRes.wide {ns : List Nd} {ks k1 k2 : List Int} {m m' : Nat} (h : KRes ns ks k1 m) (k : KRes ns k1 k2 m') (hm : m' ≤ m) : KRes ns ks k2 m := by
  refine ⟨k.len.trans h.len, fun i j hi hj hs => ?_, fun i j hi hj hs => ?_⟩
  · by_cases hlt : i + j < m'
    · exact k.ok i j hi hj hlt
    · rw [k.same i j hi hj (by omega)]; exact h.ok i j hi hj hs
  · rw [k.same i j hi hj (by omega), h.same i j hi hj hs]
theorem idx_lt {n i j : Nat} (hi : i < n) (hj : j < n) : i * n + j < n * n := by
  have h : (i + 1) * n ≤ n * n := Nat.mul_le_mul_right n hi
  rw [Nat.add_mul] at h; omega
theorem idx_eq {n i j k l : Nat} (hj : j < n) (hl : l < n) (h : i * n + j = k * n + l) : i = k ∧ j = l := by
  have hn : 0 < n := by omega
  have h1 : (n * i + j) / n = i := by rw [Nat.mul_add_div hn, Nat.div_eq_of_lt hj]; rfl
  have h2 : (n * k + l) / n = k := by rw [Nat.mul_add_div hn, Nat.div_eq_of_lt hl]; rfl
  rw [Nat.mul_comm, Nat.mul_comm k] at h
  rw [h] at h1
  have : i = k := h1.symm.trans h2
  subst this
  exact ⟨rfl, by omega⟩
/-- The place of a pair. -/
theorem idx_int {ns : List Nd} {x y : Int} (hx : 0 ≤ x ∧ x < ns.length) (hy : 0 ≤ y ∧ y < ns.length) : (x * (ns.length : Int) + y).toNat = x.toNat * ns.length + y.toNat := by
  have e : x * (ns.length : Int) + y = ((x.toNat * ns.length + y.toNat : Nat) : Int) := by
    rw [Int.natCast_add, Int.natCast_mul]
    rw [Int.toNat_of_nonneg hx.1, Int.toNat_of_nonneg hy.1]
  rw [e, Int.toNat_natCast]
theorem idx_bd {ns : List Nd} {x y : Int} (hx : 0 ≤ x ∧ x < ns.length) (hy : 0 ≤ y ∧ y < ns.length) (hn : ns.length ≤ 1048576) :
    (0 ≤ x * (ns.length : Int) ∧ x * (ns.length : Int) ≤ 1099511627776) ∧ x * (ns.length : Int) + y < (ns.length * ns.length : Nat) := by
  have h1 := idx_lt (n := ns.length) (i := x.toNat) (j := y.toNat) (by omega) (by omega)
  have e : x * (ns.length : Int) = ((x.toNat * ns.length : Nat) : Int) := by rw [Int.natCast_mul, Int.toNat_of_nonneg hx.1]
  have h2 : x.toNat * ns.length ≤ 1048576 * 1048576 := Nat.mul_le_mul (by omega) hn
  refine ⟨⟨by omega, by omega⟩, by omega⟩
theorem getD_set_ne' {l : List Int} {i j : Nat} {x : Int} (h : j ≠ i) : (l.set i x).getD j 0 = l.getD j 0 := by simp [List.getD, Ne.symm h]
/-- The provisional entry. -/
theorem KRes.prov {ns : List Nd} {ks : List Int} {x y v : Int} (hx : 0 ≤ x ∧ x < ns.length) (hy : 0 ≤ y ∧ y < ns.length) (h : KOk ns ks (x.toNat + y.toNat + 1)) :
    KOk ns (ks.set (x * (ns.length : Int) + y).toNat v) (x.toNat + y.toNat) ∧ ∀ i j : Nat, i < ns.length → j < ns.length → x.toNat + y.toNat < i + j → (ks.set (x * (ns.length : Int) + y).toNat v).getD (i * ns.length + j) 0 = ks.getD (i * ns.length + j) 0 := by
  rw [idx_int hx hy]
  refine ⟨fun i j hi hj hs => ?_, fun i j hi hj hs => ?_⟩
  · rw [getD_set_ne' fun e => by have := idx_eq hj (by omega) e; omega]
    exact h i j hi hj (by omega)
  · rw [getD_set_ne' fun e => by have := idx_eq hj (by omega) e; omega]
/-- The entry is told. -/
theorem KRes.told {ns : List Nd} {ks k1 : List Int} {x y : Int} (hx : 0 ≤ x ∧ x < ns.length) (hy : 0 ≤ y ∧ y < ns.length) (hl : ks.length = ns.length * ns.length) (h : KOk ns ks (x.toNat + y.toNat + 1)) (k : KRes ns (ks.set (x * (ns.length : Int) + y).toNat 2) k1 (x.toNat + y.toNat)) {k2 : List Int}
    (hk : k2 = if geB ns x y = true then k1.set (x * (ns.length : Int) + y).toNat 1 else k1) :
    KRes ns ks k2 (x.toNat + y.toNat + 1) ∧ decide (k2.getD (x * (ns.length : Int) + y).toNat 0 = 1) = geB ns x y := by
  have hp := KRes.prov (v := 2) hx hy h
  rw [idx_int hx hy] at k hk hp ⊢
  have hlt := idx_lt (n := ns.length) (i := x.toNat) (j := y.toNat) (by omega) (by omega)
  have hl1 : k1.length = ns.length * ns.length := by rw [k.len, List.length_set, hl]
  have hself : k1.getD (x.toNat * ns.length + y.toNat) 0 = 2 := by
    rw [k.same x.toNat y.toNat (by omega) (by omega) (Nat.le_refl _)]
    simp [List.getD, hl, hlt]
  have hgn : geB ns (x.toNat : Int) (y.toNat : Int) = geB ns x y := by rw [Int.toNat_of_nonneg hx.1, Int.toNat_of_nonneg hy.1]
  have hother : ∀ q, q ≠ x.toNat * ns.length + y.toNat → k2.getD q 0 = k1.getD q 0 := fun q hq => by
    rw [hk]; split
    · exact getD_set_ne' hq
    · rfl
  have hat : k2.getD (x.toNat * ns.length + y.toNat) 0 = if geB ns x y = true then 1 else 2 := by
    rw [hk]; split
    · simp [List.getD, hl1, hlt]
    · exact hself
  refine ⟨⟨?_, fun i j hi hj hs => ?_, fun i j hi hj hs => ?_⟩, ?_⟩
  · rw [hk]; split
    · rw [List.length_set, hl1, hl]
    · rw [hl1, hl]
  · by_cases he : i * ns.length + j = x.toNat * ns.length + y.toNat
    · obtain ⟨rfl, rfl⟩ := idx_eq hj (by omega) he
      right; rw [hat, hgn]
    · rw [hother _ he]
      by_cases hlt2 : i + j < x.toNat + y.toNat
      · exact k.ok i j hi hj hlt2
      · rw [k.same i j hi hj (by omega), getD_set_ne' he]; exact h i j hi hj hs
  · rw [hother _ fun e => by have := idx_eq hj (by omega) e; omega, k.same i j hi hj (by omega), hp.2 i j hi hj (by omega)]
  · rw [hat]
    split
    · rename_i hg; rw [hg]; rfl
    · rename_i hg; rw [Bool.not_eq_true] at hg; rw [hg]; rfl
/-- The entry was told ahead. -/
theorem KOk.known {ns : List Nd} {ks : List Int} {x y : Int} (hx : 0 ≤ x ∧ x < ns.length) (hy : 0 ≤ y ∧ y < ns.length) (h : KOk ns ks (x.toNat + y.toNat + 1)) (h0 : ¬ ks.getD (x * (ns.length : Int) + y).toNat 0 = 0) :
    decide (ks.getD (x * (ns.length : Int) + y).toNat 0 = 1) = geB ns x y := by
  rw [idx_int hx hy] at h0 ⊢
  have hgn : geB ns (x.toNat : Int) (y.toNat : Int) = geB ns x y := by rw [Int.toNat_of_nonneg hx.1, Int.toNat_of_nonneg hy.1]
  rcases h x.toNat y.toNat (by omega) (by omega) (by omega) with h1 | h1
  · exact absurd h1 h0
  · rw [h1, hgn]
    split
    · rename_i hg; rw [hg]; rfl
    · rename_i hg; rw [Bool.not_eq_true] at hg; rw [hg]; rfl
theorem geB_no_right {ns : List Nd} (ho : OptsOk ns) {x y : Int} {i : Nat} (hx : 0 ≤ x ∧ x < ns.length) (hi : i < (ns.getD x.toNat default).r.length) (h : geB ns y ((ns.getD x.toNat default).r.getD i 0) = true) : geB ns x y = false := by
  refine decP_false.2 fun g => (ge_iff.1 g).1 _ ((ro_den ho (by omega)).2 ⟨_, getD_mem (d := (0 : Int)) hi, rfl⟩) (decP_true.1 h)
theorem geB_no_left {ns : List Nd} (ho : OptsOk ns) {x y : Int} {i : Nat} (hy : 0 ≤ y ∧ y < ns.length) (hi : i < (ns.getD y.toNat default).l.length) (h : geB ns ((ns.getD y.toNat default).l.getD i 0) x = true) : geB ns x y = false := by
  refine decP_false.2 fun g => (ge_iff.1 g).2 _ ((lo_den ho (by omega)).2 ⟨_, getD_mem (d := (0 : Int)) hi, rfl⟩) (decP_true.1 h)
theorem geB_yes {ns : List Nd} (ho : OptsOk ns) {x y : Int} (hx : 0 ≤ x ∧ x < ns.length) (hy : 0 ≤ y ∧ y < ns.length) (h1 : ∀ i, i < (ns.getD x.toNat default).r.length → geB ns y ((ns.getD x.toNat default).r.getD i 0) = false) (h2 : ∀ i, i < (ns.getD y.toNat default).l.length → geB ns ((ns.getD y.toNat default).l.getD i 0) x = false) : geB ns x y = true := by
  refine decP_true.2 (ge_iff.2 ⟨fun r hr => ?_, fun l hl => ?_⟩)
  · obtain ⟨z, hz, rfl⟩ := (ro_den ho (by omega)).1 hr
    obtain ⟨i, hi, rfl⟩ := List.getElem_of_mem hz
    have e : (ns.getD x.toNat default).r.getD i 0 = (ns.getD x.toNat default).r[i] := by rw [List.getD, List.getElem?_eq_getElem hi]; rfl
    have := h1 i hi
    rw [e] at this
    exact decP_false.1 this
  · obtain ⟨z, hz, rfl⟩ := (lo_den ho (by omega)).1 hl
    obtain ⟨i, hi, rfl⟩ := List.getElem_of_mem hz
    have e : (ns.getD y.toNat default).l.getD i 0 = (ns.getD y.toNat default).l[i] := by rw [List.getD, List.getElem?_eq_getElem hi]; rfl
    have := h2 i hi
    rw [e] at this
    exact decP_false.1 this
theorem made_box_own {w : World} {base c : Nat} {v : Value} (h : w.heap.size ≤ c) (hl : ∀ k, v.ownBlock = some k → base ≤ k ∧ k < w.heap.size) : Apart (some c) v.ownBlock := fun k a e => by
  cases a; have := hl _ e; omega
theorem made_box_box {w : World} {c d : Nat} (h : w.heap.size ≤ c) (hl : d < w.heap.size) : Apart (some c) (some d) := fun k a e => by
  cases a; cases e; omega
theorem sq_bd {n : Nat} (h : n ≤ 1048576) : 0 ≤ (n : Int) * (n : Int) ∧ (n : Int) * (n : Int) ≤ 1099511627776 := by
  have h1 : n * n ≤ 1048576 * 1048576 := Nat.mul_le_mul h h
  rw [← Int.natCast_mul]; omega
theorem sq_nat (n : Nat) : ((n : Int) * (n : Int)).toNat = n * n := by rw [← Int.natCast_mul]; rfl
/-- Two forms in one book, compared. -/
theorem ge_roots {as bs : List Nd} (ha : FormOk as ∧ 1 ≤ as.length) (hb : FormOk bs ∧ 1 ≤ bs.length) (hl : as.length + bs.length ≤ 1048576) (x y : Int) (hx : x = rootM [] [] as) (hy : y = rootM (addM [] [] as).2.1 (addM [] [] as).2.2 bs) :
    geB (addM (addM [] [] as).2.1 (addM [] [] as).2.2 bs).2.1 x y = decP (geG (gOf as) (gOf bs)) ∧ geB (addM (addM [] [] as).2.1 (addM [] [] as).2.2 bs).2.1 y x = decP (geG (gOf bs) (gOf as)) := by
  have h0 := addM_all book_empty ha.1 (by simp; omega)
  have hlen := h0.hi
  simp only [List.length_nil, Nat.zero_add] at hlen
  have d0 := Ar.empty.add ha.1 (by simp; omega)
  have d1 := d0.ar.add hb.1 (by omega)
  have r0 := Ar.empty.root ha.1 ha.2 (by simp; omega)
  have r1 := d0.ar.root hb.1 hb.2 (by omega)
  have l0 := root_lt h0 ha.2
  subst hx hy
  have e0 : den (addM (addM [] [] as).2.1 (addM [] [] as).2.2 bs).2.1 (rootM [] [] as).toNat = gOf as := (d1.old _ (by omega)).trans r0
  unfold geB
  rw [e0, r1]
  exact ⟨rfl, rfl⟩
/-! ### answers on forms -/
theorem eq_part1 {a b : Nat} (h : decP (geG a b) = true) : decP (geG b a) = decP (eqG a b) := decP_iff ⟨fun g => ⟨decP_true.1 h, g⟩, fun g => g.2⟩
theorem eq_part0 {a b : Nat} (h : decP (geG a b) = false) : false = decP (eqG a b) := (decP_false.2 fun g => decP_false.1 h g.1).symm
def codeI (p q : Bool) : Int := if p = true then (if q = true then 4 else 1) else if q = true then 2 else 3
noncomputable def alB (as bs : List Nd) : Bool := goodB as && goodB bs && decP (geG (gOf as) (gOf bs))
noncomputable def efB (as bs : List Nd) : Bool := goodB as && goodB bs && decP (eqG (gOf as) (gOf bs))
noncomputable def cfI (as bs : List Nd) : Int := if (goodB as && goodB bs) = true then codeI (decP (geG (gOf as) (gOf bs))) (decP (geG (gOf bs) (gOf as))) else 0
theorem pair_bad {as bs : List Nd} (h : goodB as = false ∨ goodB bs = false) : (goodB as && goodB bs) = false := by rcases h with h | h <;> simp [h]
theorem pair_good {as bs : List Nd} (ha : GoodP as) (hb : GoodP bs) : (goodB as && goodB bs) = true := by rw [goodB_true.2 ha, goodB_true.2 hb]; rfl
theorem alB_bad {as bs : List Nd} (h : goodB as = false ∨ goodB bs = false) : alB as bs = false ∧ (goodB as && goodB bs) = false := by
  have e := pair_bad h; unfold alB; rw [e]; exact ⟨rfl, rfl⟩
theorem alB_good {as bs : List Nd} (ha : GoodP as) (hb : GoodP bs) : alB as bs = decP (geG (gOf as) (gOf bs)) ∧ (goodB as && goodB bs) = true := by
  have e := pair_good ha hb; unfold alB; rw [e]; exact ⟨rfl, rfl⟩
theorem efB_bad {as bs : List Nd} (h : goodB as = false ∨ goodB bs = false) : efB as bs = false ∧ (goodB as && goodB bs) = false := by
  have e := pair_bad h; unfold efB; rw [e]; exact ⟨rfl, rfl⟩
theorem efB_good {as bs : List Nd} (ha : GoodP as) (hb : GoodP bs) : efB as bs = decP (eqG (gOf as) (gOf bs)) ∧ (goodB as && goodB bs) = true := by
  have e := pair_good ha hb; unfold efB; rw [e]; exact ⟨rfl, rfl⟩
theorem cfI_bad {as bs : List Nd} (h : goodB as = false ∨ goodB bs = false) : cfI as bs = 0 ∧ (goodB as && goodB bs) = false := by
  have e := pair_bad h; unfold cfI; rw [e]; exact ⟨rfl, rfl⟩
theorem cfI_good {as bs : List Nd} (ha : GoodP as) (hb : GoodP bs) : cfI as bs = codeI (decP (geG (gOf as) (gOf bs))) (decP (geG (gOf bs) (gOf as))) ∧ (goodB as && goodB bs) = true := by
  have e := pair_good ha hb; unfold cfI; rw [e]; exact ⟨rfl, rfl⟩
/-- An order over a book, in memory. -/
structure Od (e1 e2 : Nat) (G : Pin) (w : World) (o b : Nat) (bu bv kv : Value) (ns : List Nd) (bs ks : List Int) : Prop where
  bk : Bk e1 e2 G w b bu bv ns bs
  ox : Bx G w o [.pointer (some ⟨b, 0, none⟩), kv]
  ok : Own eInt e2 G w 0 kv ks
  aok : Apart (some o) kv.ownBlock
  abk : Apart (some b) kv.ownBlock
  auk : Apart bu.ownBlock kv.ownBlock
  avk : Apart bv.ownBlock kv.ownBlock
end Go.GL
