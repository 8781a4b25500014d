/- Reversible options: places of options. -/
import Derived.Test.YtndhhpaldhlghaaDoorDom
namespace Go.GL
open Go Go.RowKit
theorem opts_place {q : PSt} (hok : PoolOk q) {c : Int} (hc : PlaceOk q c) : (∀ z ∈ (q.ns.getD c.toNat default).l, PlaceOk q z) ∧ (∀ z ∈ (q.ns.getD c.toNat default).r, PlaceOk q z) := by
  have oo := optsAt hok.ar.opts (show c.toNat < q.ns.length by have := hc.1; have := hc.2; omega)
  exact ⟨fun z hz => ⟨(oo.1 z hz).1, by have := (oo.1 z hz).2; have := hc.2; have := hc.1; omega⟩, fun z hz => ⟨(oo.2 z hz).1, by have := (oo.2 z hz).2; have := hc.2; have := hc.1; omega⟩⟩
theorem thr_same {q q2 : PSt} (hn : q2.ns = q.ns ∧ q2.bs = q.bs) {lf : Bool} {f c t : Int} (h : thrP q2.ns lf f c t) : thrP q.ns lf f c t := hn.1 ▸ h
end Go.GL
