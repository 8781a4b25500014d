/- What an argument reads as: from the row's reading ('DataW.trod') to lists of plain data, all cells of the world promised. -/
import Derived.Test.YtndhhpaldhlghaaDoorRow
import Derived.Test.YtndhhpaldhlghaaDoorClaim
import Derived.Deep.Slices
import Derived.ProofKit
namespace Go.GL
open Go Go.RowKit Go.Deep Go.ChangeAt Go.ChangeShapes Go.WideShapes

/-- All cells of a world, promised. -/
def Gall (w : World) : Pin := fun b o u => w.cell? ⟨b, o, none⟩ = some u
theorem Gall.pins (w : World) : Pins (Gall w) w := fun _ _ _ h => h
section
variable {H : Type} {enc : TypeId × Value → H} {P : Program} {w : World} {base : Nat} {spare : Nat → Bool} {held : Bool}
/-- Every reading of the type gives an element. -/
def Reads {α : Type} (enc : TypeId × Value → H) (P : Program) (w : World) (base : Nat) (spare : Nat → Bool) (held : Bool) (E : Elt α) (t : TypeId) : Prop :=
  ∀ fuel cs x, DataW.trod enc P w base spare held fuel t cs = some x → ∃ y, E.rep (Gall w) cs y
theorem reads_int {t : TypeId} (ht : P.underlying t = some (.int .i64)) : Reads enc P w base spare held eInt t := fun fuel cs x h => by
  obtain ⟨n, rfl, _⟩ := DataW.trod_int ht h
  exact ⟨n, rfl⟩
theorem reads_byte {t : TypeId} (ht : P.underlying t = some (.int .u8)) : Reads enc P w base spare held eByte t := fun fuel cs x h => by
  obtain ⟨n, rfl, _, hw⟩ := DataW.trod_int ht h
  have hb : 0 ≤ n ∧ n ≤ 255 := by
    simp [Lit.wf, IntKind.min, IntKind.max, IntKind.signed, IntKind.bits] at hw
    omega
  refine ⟨UInt8.ofNat n.toNat, ?_⟩
  show [Value.int .u8 n] = [.int .u8 ((UInt8.ofNat n.toNat).toNat : Int)]
  have : ((UInt8.ofNat n.toNat).toNat : Int) = n := by
    rw [UInt8.toNat_ofNat']
    omega
  rw [this]
theorem reads_str {t : TypeId} (ht : P.underlying t = some .string) : Reads enc P w base spare held eStr t := fun fuel cs x h => by
  obtain ⟨n, rfl, _⟩ := DataW.trod_string ht h
  exact ⟨n, rfl⟩
theorem add_of {a : Addr} {i b o : Nat} (h : a.add i = ⟨b, o, none⟩) (k : Nat) : a.add (i + k) = ⟨b, o + k, none⟩ := by
  obtain ⟨ab, ao, as⟩ := a
  simp only [Addr.add] at h ⊢
  split at h
  · rename_i hi; subst hi
    simp only [Addr.mk.injEq] at h
    obtain ⟨rfl, rfl, rfl⟩ := h
    split
    · rename_i hk
      have : k = 0 := by omega
      subst this; rfl
    · simp
  · simp only [Addr.mk.injEq, and_true] at h
    obtain ⟨rfl, rfl⟩ := h
    rw [if_neg (by omega)]
    simp only [Addr.mk.injEq, and_true, true_and]
    omega
theorem choose_list {α : Type} {p : Nat → α → Prop} : ∀ {n : Nat}, (∀ i, i < n → ∃ x, p i x) → ∃ xs : List α, xs.length = n ∧ ∀ i y, xs[i]? = some y → p i y
  | 0, _ => ⟨[], rfl, fun i y hy => by simp at hy⟩
  | n + 1, h => by
    obtain ⟨xs, hl, hp⟩ := choose_list (n := n) fun i hi => h i (by omega)
    obtain ⟨x, hx⟩ := h n (by omega)
    refine ⟨xs ++ [x], by simp [hl], fun i y hy => ?_⟩
    rw [List.getElem?_append] at hy
    split at hy
    · exact hp i y hy
    · rename_i hi
      have hi2 : i < (xs ++ [x]).length := by
        have : i - xs.length < 1 := by
          have := (List.getElem?_eq_some_iff.1 hy).1
          simpa using this
        simp; omega
      have : i = n := by simp at hi2; omega
      subst this
      have e : i - xs.length = 0 := by omega
      rw [e] at hy
      simp at hy
      subst hy; exact hx
theorem reads_slice {α : Type} {E : Elt α} {t e : TypeId} (ht : P.underlying t = some (.slice e)) (he : P.cellsOf e = E.size) (hs : 0 < E.size) (hE : Reads enc P w base spare held E e)
    {fuel : Nat} {cs : List Value} {x : DataW H × List MemPlace} (h : DataW.trod enc P w base spare held fuel t cs = some x) : ∃ v xs, cs = [v] ∧ RSl E (Gall w) v xs := by
  rcases open_slice ht h with ⟨rfl, _⟩ | ⟨a, len, cap, m, n, D, Pl, rfl, _, hl, hm, hmm, rfl, hx⟩
  · exact ⟨_, [], rfl, ⟨none, 0, rfl, Nat.le_refl _, Nat.zero_le _⟩, fun i x hx => by simp at hx⟩
  · have hle : len ≤ m := by rw [hmm]; split <;> omega
    have key : ∀ i, i < len → ∃ y, ∃ cs' : List Value, w.cells? base (a.add (i * E.size)) E.size = some cs' ∧ E.rep (Gall w) cs' y := fun i hi => by
      obtain ⟨cs', h1, h2⟩ := hx i (by omega)
      rw [he] at h1
      obtain ⟨y, hy⟩ := hE _ _ _ h2
      exact ⟨y, cs', h1, hy⟩
    obtain ⟨xs, hxl, hf⟩ := choose_list (α := α) (p := fun i y => ∃ cs' : List Value, w.cells? base (a.add (i * E.size)) E.size = some cs' ∧ E.rep (Gall w) cs' y) key
    subst hxl
    refine ⟨_, xs, rfl, ⟨some a, cap, rfl, hl, hm⟩, fun i y hy => ?_⟩
    obtain ⟨cs', h1, h2⟩ := hf i y hy
    obtain ⟨_, hlen, hcell⟩ := World.cells?_some h1
    have hc0 := hcell 0 (by omega)
    obtain ⟨b, o, hab⟩ : ∃ b o, a.add (i * E.size) = ⟨b, o, none⟩ := by
      cases hq : a.add (i * E.size) with
      | mk b o s =>
        rw [hq] at hc0
        have hz : cs'[0]? = some cs'[0] := List.getElem?_eq_getElem (by rw [hlen]; exact hs)
        have : (⟨b, o, s⟩ : Addr).add 0 = ⟨b, o, s⟩ := rfl
        rw [this] at hc0
        have hsp : s = none := by
          have h3 : w.cell? ⟨b, o, s⟩ = some cs'[0] := by simpa [hz] using hc0
          simpa using World.cell?_spot h3
        exact ⟨b, o, by rw [hsp]⟩
    refine ⟨a, b, o, _, _, cs', rfl, fun k => add_of hab k, h2, fun j u hj => ?_⟩
    have hjl : j < E.size := by
      have := (List.getElem?_eq_some_iff.1 hj).1
      omega
    have := hcell j hjl
    rw [hab] at this
    have e2 : (⟨b, o, none⟩ : Addr).add j = ⟨b, o + j, none⟩ := by
      simp only [Addr.add]
      split
      · rename_i h; subst h; rfl
      · rfl
    rw [e2] at this
    unfold Gall
    simp_all
theorem reads_sl {α : Type} {E : Elt α} {t e : TypeId} (ht : P.underlying t = some (.slice e)) (he : P.cellsOf e = E.size) (hs : 0 < E.size) (hE : Reads enc P w base spare held E e) : Reads enc P w base spare held (eSl E) t := fun fuel cs x h => by
  obtain ⟨v, xs, rfl, hr⟩ := reads_slice ht he hs hE h
  exact ⟨xs, v, rfl, hr⟩
/-- A struct of two slices of integers. -/
theorem reads_node {t : TypeId} {f0 f1 : Field} (ht : P.underlying t = some (.struct #[f0, f1])) (h0 : f0.offset = 0) (h1 : f1.offset = 1) (hc0 : P.cellsOf f0.type = 1) (hc1 : P.cellsOf f1.type = 1) (hc : P.cellsOf t = 2) {e : TypeId}
    (hu0 : P.underlying f0.type = some (.slice e)) (hu1 : P.underlying f1.type = some (.slice e)) (he : P.underlying e = some (.int .i64)) (hce : P.cellsOf e = 1) : Reads enc P w base spare held eNode t := fun fuel cs x h => by
  obtain ⟨y0, y1, n, _, hl, a0, a1⟩ := trod_struct2 ht h
  rw [hc] at hl
  match cs, hl with
  | [c0, c1], _ =>
    rw [h0, hc0] at a0
    rw [h1, hc1] at a1
    obtain ⟨v0, xs, e0, r0⟩ := reads_slice (E := eInt) hu0 hce (by decide) (reads_int he) a0
    obtain ⟨v1, ys, e1, r1⟩ := reads_slice (E := eInt) hu1 hce (by decide) (reads_int he) a1
    simp at e0 e1
    subst e0 e1
    exact ⟨⟨xs, ys⟩, _, _, rfl, r0, r1⟩
/-- A claim. -/
theorem reads_claim {t : TypeId} {f0 f1 f2 f3 : Field} (ht : P.underlying t = some (.struct #[f0, f1, f2, f3])) (h0 : f0.offset = 0) (h1 : f1.offset = 1) (h2 : f2.offset = 2) (h3 : f3.offset = 3)
    (hu0 : P.underlying f0.type = some (.int .i64)) (hu1 : P.underlying f1.type = some (.int .i64)) (hc0 : P.cellsOf f0.type = 1) (hc1 : P.cellsOf f1.type = 1) (hc2 : P.cellsOf f2.type = 1) (hc3 : P.cellsOf f3.type = 1) (hc : P.cellsOf t = 4) {e : TypeId}
    (hu2 : P.underlying f2.type = some (.slice e)) (hu3 : P.underlying f3.type = some (.slice e)) (he : P.underlying e = some (.int .i64)) (hce : P.cellsOf e = 1) : Reads enc P w base spare held eClaim t := fun fuel cs x h => by
  obtain ⟨xs, n, _, rfl, hl, hlen, hf⟩ := DataW.trod_struct ht h
  have a0 := hf 0 f0 rfl
  have a1 := hf 1 f1 rfl
  have a2 := hf 2 f2 rfl
  have a3 := hf 3 f3 rfl
  rw [hc] at hl
  match cs, hl, xs, hlen with
  | [c0, c1, c2, c3], _, [y0, y1, y2, y3], _ =>
    rw [h0, hc0] at a0
    rw [h1, hc1] at a1
    rw [h2, hc2] at a2
    rw [h3, hc3] at a3
    obtain ⟨m0, e0, _⟩ := DataW.trod_int hu0 a0
    obtain ⟨m1, e1, _⟩ := DataW.trod_int hu1 a1
    obtain ⟨v0, zs, e2, r0⟩ := reads_slice (E := eInt) hu2 hce (by decide) (reads_int he) a2
    obtain ⟨v1, ys, e3, r1⟩ := reads_slice (E := eInt) hu3 hce (by decide) (reads_int he) a3
    simp at e0 e1 e2 e3
    subst e0 e1 e2 e3
    exact ⟨⟨m0, m1, zs, ys⟩, _, _, rfl, r0, r1⟩
/-- A struct of one slice. -/
theorem reads_one {α : Type} {E : Elt α} {t e : TypeId} {f0 : Field} (ht : P.underlying t = some (.struct #[f0])) (h0 : f0.offset = 0) (hc0 : P.cellsOf f0.type = 1) (hc : P.cellsOf t = 1) (hu0 : P.underlying f0.type = some (.slice e)) (he : P.cellsOf e = E.size) (hs : 0 < E.size) (hE : Reads enc P w base spare held E e)
    {fuel : Nat} {cs : List Value} {x : DataW H × List MemPlace} (h : DataW.trod enc P w base spare held fuel t cs = some x) : ∃ v xs, cs = [v] ∧ RSl E (Gall w) v xs := by
  obtain ⟨y0, n, _, hl, a0⟩ := trod_struct1 ht h
  rw [hc] at hl
  match cs, hl with
  | [c0], _ =>
    rw [h0, hc0] at a0
    exact reads_slice hu0 he hs hE a0
/-- A form as an element. -/
theorem reads_form {α : Type} {E : Elt α} {t e : TypeId} {f0 : Field} (ht : P.underlying t = some (.struct #[f0])) (h0 : f0.offset = 0) (hc0 : P.cellsOf f0.type = 1) (hc : P.cellsOf t = 1) (hu0 : P.underlying f0.type = some (.slice e)) (he : P.cellsOf e = E.size) (hs : 0 < E.size) (hE : Reads enc P w base spare held E e) : Reads enc P w base spare held (eSl E) t := fun fuel cs x h => by
  obtain ⟨v, xs, rfl, hr⟩ := reads_one ht h0 hc0 hc hu0 he hs hE h
  exact ⟨xs, v, rfl, hr⟩
/-- A struct of a slice and a bool among the arguments. -/
theorem arg_table {α : Type} {E : Elt α} {t e : TypeId} {f0 f1 : Field} {r : Reach} {b0 : Nat} {v : Value} {d : DataW H} {p : List MemPlace} (ht : P.underlying t = some (.struct #[f0, f1])) (h0 : f0.offset = 0) (h1 : f1.offset = 1) (hc0 : P.cellsOf f0.type = 1) (hc1 : P.cellsOf f1.type = 1) (hc : P.cellsOf t = 2)
    (hu0 : P.underlying f0.type = some (.slice e)) (hu1 : P.underlying f1.type = some .bool) (he : P.cellsOf e = E.size) (hs : 0 < E.size) (hE : Reads enc P w base spare held E e)
    (hv : Value.okWide P w r b0 t v) (h : DataW.Trod enc P w base spare held t v d p) : ∃ u xs lf, v = .agg [u, .bool lf].toArray ∧ RSl E (Gall w) u xs := by
  obtain ⟨cs, rfl, hsz⟩ := okWide_struct ht hv
  obtain ⟨fuel, hf⟩ := h
  obtain ⟨y0, y1, n, _, hl, a0, a1⟩ := trod_struct2 ht hf
  rw [hc] at hl
  have hcs : (Value.agg cs).cells.toList = cs.toList := rfl
  rw [hcs] at hl a0 a1
  match hq : cs.toList, hl with
  | [c0, c1], _ =>
    rw [hq, h0, hc0] at a0
    rw [hq, h1, hc1] at a1
    obtain ⟨v0, xs, e0, r0⟩ := reads_slice hu0 he hs hE a0
    obtain ⟨lf, e1, _⟩ := DataW.trod_bool hu1 a1
    simp at e0 e1
    subst e0 e1
    exact ⟨_, xs, lf, by rw [← hq], r0⟩
/-- A struct of two integers among the arguments. -/
theorem arg_pair {t : TypeId} {f0 f1 : Field} {r : Reach} {b0 : Nat} {v : Value} {d : DataW H} {p : List MemPlace} (ht : P.underlying t = some (.struct #[f0, f1])) (h0 : f0.offset = 0) (h1 : f1.offset = 1) (hc0 : P.cellsOf f0.type = 1) (hc1 : P.cellsOf f1.type = 1) (hc : P.cellsOf t = 2)
    (hu0 : P.underlying f0.type = some (.int .i64)) (hu1 : P.underlying f1.type = some (.int .i64))
    (hv : Value.okWide P w r b0 t v) (h : DataW.Trod enc P w base spare held t v d p) : ∃ a b, v = .agg [.int .i64 a, .int .i64 b].toArray ∧ (-9223372036854775808 ≤ a ∧ a ≤ 9223372036854775807) ∧ (-9223372036854775808 ≤ b ∧ b ≤ 9223372036854775807) := by
  obtain ⟨cs, rfl, hsz⟩ := okWide_struct ht hv
  obtain ⟨fuel, hf⟩ := h
  obtain ⟨y0, y1, n, _, hl, a0, a1⟩ := trod_struct2 ht hf
  rw [hc] at hl
  have hcs : (Value.agg cs).cells.toList = cs.toList := rfl
  rw [hcs] at hl a0 a1
  match hq : cs.toList, hl with
  | [c0, c1], _ =>
    rw [hq, h0, hc0] at a0
    rw [hq, h1, hc1] at a1
    obtain ⟨m0, e0, _, b0⟩ := DataW.trod_int hu0 a0
    obtain ⟨m1, e1, _, b1⟩ := DataW.trod_int hu1 a1
    simp at e0 e1
    subst e0 e1
    refine ⟨m0, m1, by rw [← hq], ?_, ?_⟩
    · simp [Lit.wf, IntKind.min, IntKind.max, IntKind.signed, IntKind.bits] at b0; omega
    · simp [Lit.wf, IntKind.min, IntKind.max, IntKind.signed, IntKind.bits] at b1; omega
/-- A form among the arguments. -/
theorem arg_one {α : Type} {E : Elt α} {t e : TypeId} {f0 : Field} {r : Reach} {b0 : Nat} {v : Value} {d : DataW H} {p : List MemPlace} (ht : P.underlying t = some (.struct #[f0])) (h0 : f0.offset = 0) (hc0 : P.cellsOf f0.type = 1) (hc : P.cellsOf t = 1) (hu0 : P.underlying f0.type = some (.slice e)) (he : P.cellsOf e = E.size) (hs : 0 < E.size) (hE : Reads enc P w base spare held E e)
    (hv : Value.okWide P w r b0 t v) (h : DataW.Trod enc P w base spare held t v d p) : ∃ u xs, v = .agg [u].toArray ∧ RSl E (Gall w) u xs := by
  obtain ⟨cs, rfl, hsz⟩ := okWide_struct ht hv
  obtain ⟨fuel, hf⟩ := h
  obtain ⟨u, xs, hcs, hr⟩ := reads_one ht h0 hc0 hc hu0 he hs hE hf
  refine ⟨u, xs, ?_, hr⟩
  have : cs.toList = [u] := hcs
  rw [← this]
/-- A slice among the arguments. -/
theorem arg_slice {α : Type} {E : Elt α} {t e : TypeId} {r : Reach} {b0 : Nat} {v : Value} {d : DataW H} {p : List MemPlace} (ht : P.underlying t = some (.slice e)) (he : P.cellsOf e = E.size) (hs : 0 < E.size) (hE : Reads enc P w base spare held E e)
    (hv : Value.okWide P w r b0 t v) (h : DataW.Trod enc P w base spare held t v d p) : ∃ xs, RSl E (Gall w) v xs := by
  obtain ⟨a, len, cap, rfl⟩ := okWide_slice ht hv
  obtain ⟨fuel, hf⟩ := h
  obtain ⟨u, xs, hcs, hr⟩ := reads_slice ht he hs hE hf
  have : u = .slice a len cap := by
    have h2 : [Value.slice a len cap] = [u] := hcs
    simpa using h2.symm
  subst this
  exact ⟨xs, hr⟩
end
end Go.GL
