/- Forms taken into the pool, and games compared in it. -/
import Derived.Test.YtndhhpaldhlghaaDoorPool
import Derived.Test.YtndhhpaldhlghaaDoorOrd
import Derived.Test.YtndhhpaldhlghaaDoorOpts
namespace Go.GL
open Go Go.RowKit
theorem ns_trans {a b c : PSt} (h : b.ns = a.ns ∧ b.bs = a.bs) (k : c.ns = b.ns ∧ c.bs = b.bs) : c.ns = a.ns ∧ c.bs = a.bs := ⟨k.1.trans h.1, k.2.trans h.2⟩
theorem PlaceOk.same {q q2 : PSt} {a : Int} (hn : q2.ns = q.ns ∧ q2.bs = q.bs) (h : PlaceOk q a) : PlaceOk q2 a := by unfold PlaceOk; rw [hn.1]; exact h
theorem pd_same {q q2 : PSt} {a : Int} (hn : q2.ns = q.ns ∧ q2.bs = q.bs) : pd q2 a = pd q a := by unfold pd; rw [hn.1]
theorem geB_pd {q : PSt} {a b : Int} : geB q.ns a b = decP (geG (pd q a) (pd q b)) := rfl
theorem geB_same {q q2 : PSt} {a b : Int} (hn : q2.ns = q.ns ∧ q2.bs = q.bs) : geB q2.ns a b = geB q.ns a b := by rw [hn.1]
theorem setO_ok {q q2 : PSt} {a b : Int} {v : Bool} (hn : q2.ns = q.ns ∧ q2.bs = q.bs) (hv : geB q.ns a b = v) : v = decP (geG (pd q2 a) (pd q2 b)) := by
  rw [pd_same hn, pd_same hn, ← hv]; rfl
theorem geB_refl {ns : List Nd} {a : Int} : geB ns a a = true := decP_true.2 (ge_refl _)
theorem map_r {ns : List Nd} {a : Nat} : (ns.map Nd.r).getD a [] = (ns.getD a default).r := mapr_getD ns a
theorem map_l {ns : List Nd} {a : Nat} : (ns.map Nd.l).getD a [] = (ns.getD a default).l := mapl_getD ns a
/-- What load has taken of a form, up to node k. -/
structure LdOk (fs : List Nd) (q q2 : PSt) (k : Nat) (ats : List Int) : Prop where
  len : ats.length = k
  hi : q2.ns.length ≤ q.ns.length + k
  pl : ∀ i, i < k → PlaceOk q2 (ats.getD i 0) ∧ pd q2 (ats.getD i 0) = den fs i
theorem LdOk.start {fs : List Nd} {q : PSt} : LdOk fs q q 0 [] := ⟨rfl, Nat.le_refl _, fun i hi => absurd hi (Nat.not_lt_zero i)⟩
theorem LdOk.opt {fs : List Nd} {q q2 : PSt} {k : Nat} {ats : List Int} (h : LdOk fs q q2 k ats) {l : List Int} (hl : ∀ z ∈ l, 0 ≤ z ∧ z < k) :
    ∀ i, i < (atL ats l).length → 0 ≤ (atL ats l).getD i 0 ∧ (atL ats l).getD i 0 < q2.ns.length := by
  intro i hi
  rw [at_length] at hi
  rw [at_getD hi]
  have := hl _ (getD_mem (d := (0 : Int)) hi)
  exact (h.pl _ (by omega)).1
theorem LdOk.den {fs : List Nd} {q q2 : PSt} {k : Nat} {ats : List Int} (h : LdOk fs q q2 k ats) {l : List Int} (hl : ∀ z ∈ l, 0 ≤ z ∧ z < k) :
    (atL ats l).map (pd q2) = l.map fun z => GL.den fs z.toNat := by
  unfold atL
  rw [List.map_map]
  refine List.map_congr_left fun z hz => ?_
  have := hl z hz
  exact (h.pl z.toNat (by omega)).2
theorem LdOk.step {fs : List Nd} {q q2 q3 : PSt} {k : Nat} {ats : List Int} {z : Int} (h : LdOk fs q q2 k ats) (hf : FormOk fs) (hk : k < fs.length) (hq : PoolOk q2) (hq' : PoolOk q3) (hx : PX q2 q3) (hz : PlaceOk q3 z)
    (hd : pd q3 z = mkG ((atL ats (fs.getD k default).l).map (pd q2)) ((atL ats (fs.getD k default).r).map (pd q2))) (hn : q3.ns.length ≤ q2.ns.length + 1) : LdOk fs q q3 (k + 1) (ats ++ [z]) := by
  have oo := optsAt hf.opts hk
  refine ⟨by rw [List.length_append, h.len]; rfl, by have := h.hi; omega, fun i hi => ?_⟩
  by_cases he : i = k
  · subst he
    have e : (ats ++ [z]).getD i 0 = z := by rw [← h.len]; simp [List.getD]
    rw [e]
    refine ⟨hz, ?_⟩
    rw [hd, h.den oo.1, h.den oo.2, den_opt hf.opts hk]
  · have hi' : i < k := by omega
    have e : (ats ++ [z]).getD i 0 = ats.getD i 0 := by simp [List.getD, List.getElem?_append_left (show i < ats.length by rw [h.len]; exact hi')]
    rw [e]
    have := h.pl i hi'
    exact ⟨hx.place this.1, (hx.pd hq hq' this.1).trans this.2⟩
theorem LdOk.root {fs : List Nd} {q q2 : PSt} {ats : List Int} (h : LdOk fs q q2 fs.length ats) (h1 : 1 ≤ fs.length) : PlaceOk q2 (ats.getD (fs.length - 1) 0) ∧ pd q2 (ats.getD (fs.length - 1) 0) = gOf fs := h.pl _ (by omega)
theorem geB_roots {q : PSt} {a b : Int} {g h : Nat} (ha : pd q a = g) (hb : pd q b = h) : geB q.ns a b = decP (geG g h) := by rw [← ha, ← hb]; rfl
theorem decP_and {p q : Prop} : decP (p ∧ q) = (decP p && decP q) := by
  cases hp : decP p
  · exact decP_false.2 fun h => decP_false.1 hp h.1
  · cases hq : decP q
    · exact decP_false.2 fun h => decP_false.1 hq h.2
    · exact decP_true.2 ⟨decP_true.1 hp, decP_true.1 hq⟩
theorem ef_cf {as bs : List Nd} : decide (cfI as bs = 4) = efB as bs := by
  unfold cfI efB codeI eqG
  rw [decP_and]
  cases goodB as <;> cases goodB bs <;> cases decP (geG (gOf as) (gOf bs)) <;> cases decP (geG (gOf bs) (gOf as)) <;> rfl
end Go.GL
