/- Texts of this claim. -/
import Derived.Test.YtdleojbknkbpiaaGreatDoorFp6
import Derived.Test.YtdleojbknkbpiaaGreatDoorChecked
set_option maxRecDepth 20000
set_option maxHeartbeats 2000000
namespace Go.Proofs.YtdleojbknkbpiaaGreatDoor
namespace LFP
open Go.RowKit Go.GL Go.Proofs
open B1 C1 D1 E1 K1 PO1 PL1 OR1 SF1 P1 PF1 PF2 PF3 PF4 PF5 PF6 AT1 DR1 DR2 DV1 DV2 LX1 LX2
variable {G : Pin} {v : Value}
theorem nI {w : World} {u : Value} {ns bs : List Nd} (hP : Pins G w) (hu : RSl eNode G u ns) (hv : RSl eNode G v bs) :
  Calls Tryz.prog 11 [.agg #[u], .agg #[v]].toArray w fun e w' => ∃ (u : Value) (G' : Pin), e = .returned (.tuple #[.agg #[u], .bool (prfB ns bs)]) ∧ RSl eClaim G' u (prfL ns bs) ∧ Ext noS G w G' w' := by
 refine (rT hP hu hv).mono ?_
 rintro e w' ⟨u, G', rfl, hd, hx⟩
 obtain ⟨G'', h1, h2⟩ := hd.give hx
 exact ⟨u, G'', rfl, h1, h2⟩
theorem law {w : World} {code : List UInt8} (hP : Pins G w) (hc : RSl eByte G v code) :
  Calls Tryz.prog 4 #[v] w fun e w' => ∃ G', e = .returned (.bool true) ∧ Ext noS G w G' w' := by
 refine yC (n := 115) Tryz.func4 Tryz.ntmps4 rfl rfl ?_
 have bf := exr noS hP
 have hm := hc.max
 refine w9d ?_
 refine qM (.bool false) ?_
 refine qe (zA (w9b ?_))
 refine qM v ?_
 refine qI rfl (zP (vs := [v]) Tryz.func5 nm5 rfl rfl rfl ?_)
 refine cD (vBig_spec bf.pins hc) ?_
 rintro _ w1 ⟨rfl, bg⟩
 refine rt9 ?_
 have a2 := bf.step bg.pins bg.below
 refine qe (zA ?_)
 refine yA (p := (65536 : Int) < (code.length : Int)) rfl rfl (fun h4 => ?_) (fun h4 => ?_)
 refine w9d ?_
 refine qM (.bool true) ?_
 refine qe (zA ?_)
 exact cO (zT (zS (v := .bool true) rfl rfl rfl (⟨_, rfl, a2⟩)))
 refine cN (w9a ?_)
 refine qM v ?_
 refine qI rfl (zP (vs := [v]) Tryz.func10 nm10 rfl rfl rfl ?_)
 refine cD (rX a2.pins hc) ?_
 rintro _ w6 ⟨i, a, l, b, G5, rfl, ad, ae, b4⟩
 refine rt9 ?_
 have a3 := a2.tr b4
 have c8 := ad.max
 have c9 := ae.max
 refine qM (.tuple #[.agg #[i], .agg #[l]]) ?_
 refine qD rfl (yR (v := .agg #[i]) rfl rfl) (qD rfl (yR (v := .agg #[l]) rfl rfl) (qI rfl (yK [vN] zr26 rfl a3.pins (fun b5 da db bh b6 b7 => ?_))))
 have a4 := a3.step b6 b7
 have bi : w.heap.size ≤ b5 := by have := a3.size; omega
 refine qI rfl (yK [vN] zr26 rfl a4.pins (fun b8 dc b9 ca cb bj => ?_))
 have bk := a4.step cb bj
 have cc := bh.below bj
 have bl := zD (cgA some b9) bh.lt
 have bm : w.heap.size ≤ b8 := by have := a4.size; omega
 refine q0 rfl rfl rfl (o_stp (cs' := [i]) (us := [i]) (v := .agg #[i]) sz26 rfl rfl rfl (yG ad.one) bk.pins cc (cE rfl) rfl (fun dd cd ce bn de => ?_))
 have cf := bk.write ce bn ((zW bi))
 have cg := ca.keptA bn bl
 obtain ⟨df, ac, bo, ap, ch⟩ := cd.shut cf bi
 have ci := cg.moreA ch bl
 refine q0 rfl rfl rfl (o_stp (cs' := [l]) (us := [l]) (v := .agg #[l]) sz26 rfl rfl rfl (yG ae.one) bo.pins ci (cE rfl) rfl (fun dg cj ck cl dh => ?_))
 have cm := bo.write ck cl ((zW bm))
 obtain ⟨di, q, aw, aq, dj⟩ := cj.shut cm bm
 refine qe (w9a ?_)
 refine qD rfl (zU (cs := [i]) ag26 sz26 rfl (fun j u hj => (cC aw.pins q) _ _ _ (ap _ _ (by simpa using hj)))) (qD rfl (zU (cs := [l]) ag26 sz26 rfl (fun j u hj => aw.pins _ _ _ (aq _ _ (by simpa using hj)))) (qI rfl (zP (vs := [.agg #[i], .agg #[l]]) Tryz.func11 nm11 rfl rfl rfl ?_)))
 refine cD (nI aw.pins (ad.mono (cB ac q)) (ae.mono (cB ac q))) ?_
 rintro _ dk ⟨m, dl, rfl, af, o⟩
 refine rt9 ?_
 have a5 := aw.tr o
 have dm := af.max
 refine qM (.tuple #[.agg #[m], .bool (prfB a b)]) ?_
 refine qD rfl (yR (v := .agg #[m]) rfl rfl) (qD rfl (yR (v := .bool (prfB a b)) rfl rfl) (qI rfl (yK [vN] zr29 rfl a5.pins (fun cn dn dp co cp cq => ?_))))
 have bp := a5.step cp cq
 have bq : w.heap.size ≤ cn := by have := a5.size; omega
 refine q0 rfl rfl rfl (o_stp (cs' := [m]) (us := [m]) (v := .agg #[m]) sz29 rfl rfl rfl (yG af.one) bp.pins co (cE rfl) rfl (fun dq cr ct cu dr => ?_))
 have cv := bp.write ct cu ((zW bq))
 obtain ⟨ds, f, ax, ar, dt⟩ := cr.shut cv bq
 refine qM (.bool (prfB a b)) ?_
 refine qe (zA (w9b ?_))
 refine qD rfl (zU (cs := [i]) ag26 sz26 rfl (fun j u hj => (cC ax.pins (cB (cB q o.le) f)) _ _ _ (ap _ _ (by simpa using hj)))) (qD rfl (zU (cs := [l]) ag26 sz26 rfl (fun j u hj => (cC ax.pins (cB o.le f)) _ _ _ (aq _ _ (by simpa using hj)))) (qI rfl (zP (vs := [.agg #[i], .agg #[l]]) Tryz.func12 nm12 rfl rfl rfl ?_)))
 refine cD (xW ax.pins (ad.mono (cB (cB (cB ac q) o.le) f)) (ae.mono (cB (cB (cB ac q) o.le) f))) ?_
 rintro _ du ⟨ag, dv, rfl, a6, c⟩
 refine rt9 ?_
 have a7 := ax.tr c
 have dw := a6.max
 refine qM (.tuple #[.agg #[ag], .bool (prfB a b)]) ?_
 refine qD rfl (yR (v := .agg #[ag]) rfl rfl) (qD rfl (yR (v := .bool (prfB a b)) rfl rfl) (qI rfl (yK [vN] zr29 rfl a7.pins (fun cw dx dy cx cy cz => ?_))))
 have br := a7.step cy cz
 have bs : w.heap.size ≤ cw := by have := a7.size; omega
 refine q0 rfl rfl rfl (o_stp (cs' := [ag]) (us := [ag]) (v := .agg #[ag]) sz29 rfl rfl rfl (yG a6.one) br.pins cx (cE rfl) rfl (fun dz c0 c1 c2 d0 => ?_))
 have c3 := br.write c1 c2 ((zW bs))
 obtain ⟨d1, d, ay, c4, d2⟩ := c0.shut c3 bs
 refine qM (.bool (prfB a b)) ?_
 refine qe (w9a ?_)
 refine qM (.bool (prfB a b)) ?_
 refine qM (.bool (prfB a b)) ?_
 refine qD rfl (r_neqB_same Tryz.underlying4 rfl rfl) (qM (.bool false) ?_)
 refine qN (zU (cs := [m]) ag29 sz29 rfl (fun j u hj => (cC ay.pins (cB c.le d)) _ _ _ (ar _ _ (by simpa using hj)))) ?_
 refine qN (zU (cs := [ag]) ag29 sz29 rfl (fun j u hj => ay.pins _ _ _ (c4 _ _ (by simpa using hj)))) ?_
 refine q1g rfl rfl rfl rfl rfl rfl (zP (vs := [.agg #[m], .agg #[ag]]) Tryz.func13 nm13 rfl rfl rfl ?_)
 refine cD (vProof_spec ay.pins (af.mono (cB (cB f c.le) d)) (a6.mono d)) ?_
 rintro _ d3 ⟨d4, rfl, g⟩
 refine rt9 ?_
 have az := ay.tr g
 refine qN (xN rfl) ?_
 refine qD rfl (yM (v := .bool (!(decide ((prfL a b) = (prfL a b))))) rfl rfl) (qe (zA ?_))
 refine qO rfl rfl (fun _ => ?_) (fun h => absurd rfl (of_decide_eq_false h))
 refine cN (w9a ?_)
 have hall := @prf_all a b
 have hrest := @prf_rest a b
 refine qD rfl (zU (cs := [i]) ag26 sz26 rfl (fun j u hj => (cC az.pins (cB (cB (cB (cB (cB q o.le) f) c.le) d) g.le)) _ _ _ (ap _ _ (by simpa using hj)))) (qD rfl (zU (cs := [l]) ag26 sz26 rfl (fun j u hj => (cC az.pins (cB (cB (cB (cB o.le f) c.le) d) g.le)) _ _ _ (aq _ _ (by simpa using hj)))) (qI rfl (zP (vs := [.agg #[i], .agg #[l]]) Tryz.func9 nm9 rfl rfl rfl ?_)))
 refine cD (pA az.pins (ad.mono (cB (cB (cB (cB (cB (cB ac q) o.le) f) c.le) d) g.le)) (ae.mono (cB (cB (cB (cB (cB (cB ac q) o.le) f) c.le) d) g.le))) ?_
 rintro _ d5 ⟨d6, rfl, s⟩
 refine rt9 ?_
 have y := az.tr s
 refine qM (.tuple #[.bool (alB a b), .bool (goodB a && goodB b)]) ?_
 refine qD rfl (yR (v := .bool (alB a b)) rfl rfl) (qD rfl (yR (v := .bool (goodB a && goodB b)) rfl rfl) (qM (.bool (alB a b)) ?_))
 refine qM (.bool (goodB a && goodB b)) ?_
 refine qe (zA (w9b ?_))
 refine qM (.bool (prfB a b)) ?_
 refine qD rfl (xN rfl) (qe (zA ?_))
 refine qO rfl rfl (fun ab => ?_) (fun ab => ?_)
 refine cN (w9a ?_)
 refine qD rfl (zU (cs := [i]) ag26 sz26 rfl (fun j u hj => (cC y.pins (cB (cB (cB (cB (cB (cB q o.le) f) c.le) d) g.le) s.le)) _ _ _ (ap _ _ (by simpa using hj)))) (qD rfl (zU (cs := [l]) ag26 sz26 rfl (fun j u hj => (cC y.pins (cB (cB (cB (cB (cB o.le f) c.le) d) g.le) s.le)) _ _ _ (aq _ _ (by simpa using hj)))) (qD rfl (zU (cs := [m]) ag29 sz29 rfl (fun j u hj => (cC y.pins (cB (cB (cB c.le d) g.le) s.le)) _ _ _ (ar _ _ (by simpa using hj)))) (qI rfl (zP (vs := [.agg #[i], .agg #[l], .agg #[m]]) Tryz.func7 nm7 rfl rfl rfl ?_))))
 refine cD (tT y.pins (ad.mono (cB (cB (cB (cB (cB (cB (cB ac q) o.le) f) c.le) d) g.le) s.le)) (ae.mono (cB (cB (cB (cB (cB (cB (cB ac q) o.le) f) c.le) d) g.le) s.le)) (af.mono (cB (cB (cB (cB f c.le) d) g.le) s.le))) ?_
 rintro _ d7 ⟨d8, rfl, a0⟩
 refine rt9 ?_
 have a8 := y.tr a0
 refine qM (.tuple #[.bool (cpB a b (prfL a b)), .bool (goodB a && goodB b)]) ?_
 refine qD rfl (yR (v := .bool (cpB a b (prfL a b))) rfl rfl) (qD rfl (yR (v := .bool (goodB a && goodB b)) rfl rfl) (qM (.bool (cpB a b (prfL a b))) ?_))
 refine qM (.bool (goodB a && goodB b)) ?_
 refine qe (w9a ?_)
 refine qD rfl (zU (cs := [m]) ag29 sz29 rfl (fun j u hj => (cC a8.pins (cB (cB (cB (cB c.le d) g.le) s.le) a0.le)) _ _ _ (ar _ _ (by simpa using hj)))) (qI rfl (zP (vs := [.agg #[m]]) Tryz.func14 nm14 rfl rfl rfl ?_))
 refine cD (usesOf_spec a8.pins (af.mono (cB (cB (cB (cB (cB f c.le) d) g.le) s.le) a0.le)) (prf_small _ _)) ?_
 rintro _ d9 ⟨aa, ah, au, bt, rfl, av, aj, bu⟩
 refine rt9 ?_
 have bv := a8.tr bu
 have ea := av.max
 refine qM (.tuple #[aa, .bool au]) ?_
 refine qD rfl (yR (v := aa) rfl rfl) (qD rfl (yR (v := .bool au) rfl rfl) (qM aa ?_))
 refine qM (.bool au) ?_
 refine qe (zA (w9b ?_))
 refine qM (.bool au) ?_
 refine qD rfl (xN rfl) (qM (.bool (!au)) ?_)
 refine qbn (t := 88) rfl (fun a9 => ?_) (fun a9 => ?_)
 refine qN (zX (v := aa) rfl) ?_
 refine qN (zN dC (v := aa) rfl av) ?_
 refine qN (zI (k := 0) rfl dI rfl nz27 rfl) ?_
 refine qN (zJ (u := m) ag27 rfl ((cC bv.pins (cB (cB (cB (cB (cB c.le d) g.le) s.le) a0.le) bu.le)) _ _ _ (ar 0 _ rfl))) ?_
 refine qN (zN dG (v := m) rfl af) ?_
 refine qN (jO rfl rfl) ?_
 refine qD rfl (yM (v := .bool (decide (((ah.length : Int) : Int) ≠ ((prfL a b).length : Int)))) rfl rfl) (qe (zA ?_))
 refine yA (p := ((ah.length : Int) : Int) ≠ ((prfL a b).length : Int)) rfl rfl (fun bw => ?_) (fun bw => ?_)
 refine w9d ?_
 refine qM (.bool false) ?_
 refine qe (zA ?_)
 refine cO (zT (zS (v := .bool false) rfl rfl rfl ?_))
 have x : prfB a b = true := by simpa using ab
 obtain ⟨ak, al, am, an⟩ := hall x
 obtain ⟨ao, ai⟩ := aj (vS _ _)
 exact absurd (by rw [ai, jI]) bw
 refine cN (zA (w9b ?_))
 refine qM (vJ 0) ?_
 refine qe (zA ?_)
 refine zY (yN (fun k en W => ∃ (bx : Nat → Value) (j : Nat) (a1 : Pin), en = (upd (upd (upd (upd (upd bx 9 (.bool (alB a b))) 11 (.bool (cpB a b (prfL a b)))) 12 (.bool (goodB a && goodB b))) 13 aa) 15 (vJ (j : Int))) ∧ k = ah.length - j ∧ Ext noS G w a1 W ∧ Pin.le bt a1 ∧ (j ≤ ah.length)) _ ⟨_, 0, bt, (pS 15 (pS 13 (pS 12 (pS 11 (pU 9))))), rfl, bv, cJ _, cI _⟩ ?_)
 rintro eb _ ec ⟨bx, j, a1, rfl, ed, ba, bz, hj⟩
 have ee := (vS a b).hi
 refine w9b ?_
 refine qM (vJ (j : Int)) ?_
 refine qD rfl (yO rfl rfl (by omega)) (qM aa ?_)
 refine qD rfl (zN dC (v := aa) rfl av) (qD rfl (yQ rfl rfl) (qe (zA ?_)))
 refine yA (p := ((j : Int) + 1 : Int) < (ah.length : Int)) rfl rfl (fun bb => ?_) (fun bb => ?_)
 refine cN (zA (zB ?_))
 refine zY (w9d ?_)
 refine qM aa ?_
 refine qM (vJ (j : Int)) ?_
 refine qD rfl (zE dC sz3 (v := aa) rfl rfl av (by omega) (by omega)) (qD rfl (zL (r := ah.getD j 0) rfl ag3 (z := (j : Int)) rfl av (cC ba.pins bz) (by omega) (by omega)) (qD rfl (qL rfl rfl) (qe (zA ?_))))
 refine yA (p := (ah.getD j 0 : Int) = 0) rfl rfl (fun bc => ?_) (fun bc => ?_)
 refine w9d ?_
 refine qM (.bool false) ?_
 refine qe (zA ?_)
 refine cO (zT (zS (v := .bool false) rfl rfl rfl ?_))
 have x : prfB a b = true := by simpa using ab
 obtain ⟨ak, al, am, an⟩ := hall x
 obtain ⟨ao, ai⟩ := aj (vS _ _)
 rw [ai] at bc bb
 rw [jI] at bb
 exact absurd bc (prf_used x (by omega))
 refine cN (w9c ?_)
 refine qM (vJ (j : Int)) ?_
 refine qD rfl (yO rfl rfl (by omega)) (qM (vJ ((j : Int) + 1)) ?_)
 refine qe (yD (⟨_, ?_, _, rfl, _, j + 1, a1, (pS 15 (pS 13 (pS 12 (pS 11 (pU 9))))), rfl, ba, bz, (by omega)⟩))
 omega
 refine cP (zZ (yJ (yI (w9a ?_))))
 refine qM (.bool (alB a b)) ?_
 refine qM (.bool (alB a b)) ?_
 refine qb (t := 109) rfl (fun bd => ?_) (fun bd => ?_)
 refine qN (zX (v := .bool (cpB a b (prfL a b))) rfl) ?_
 refine qD rfl (yL (v := .bool (cpB a b (prfL a b))) rfl rfl) (qM (.bool (cpB a b (prfL a b))) ?_)
 refine qb (t := 112) rfl (fun be => ?_) (fun be => ?_)
 refine qN (zX (v := .bool (goodB a && goodB b)) rfl) ?_
 refine qD rfl (yL (v := .bool (goodB a && goodB b)) rfl rfl) (qM (.bool (goodB a && goodB b)) ?_)
 refine qe (zA ?_)
 refine cO (zT (zS (v := .bool (goodB a && goodB b)) rfl rfl rfl ?_))
 have x : prfB a b = true := by simpa using ab
 obtain ⟨ak, al, am, an⟩ := hall x
 obtain ⟨ao, ai⟩ := aj (vS _ _)
 exact ⟨_, cgA eB (by rw [ak, al]; rfl), ba⟩
 refine qW ?_
 refine qD rfl (yM (v := .bool false) rfl rfl) (qM (.bool false) ?_)
 refine qe (zA ?_)
 refine cO (zT (zS (v := .bool false) rfl rfl rfl ?_))
 have x : prfB a b = true := by simpa using ab
 obtain ⟨ak, al, am, an⟩ := hall x
 obtain ⟨ao, ai⟩ := aj (vS _ _)
 rw [am] at be; cases be
 refine qW ?_
 refine qD rfl (yM (v := .bool false) rfl rfl) (qM (.bool false) ?_)
 refine qW ?_
 refine qD rfl (yM (v := .bool false) rfl rfl) (qM (.bool false) ?_)
 refine qe (zA ?_)
 refine cO (zT (zS (v := .bool false) rfl rfl rfl ?_))
 have x : prfB a b = true := by simpa using ab
 obtain ⟨ak, al, am, an⟩ := hall x
 obtain ⟨ao, ai⟩ := aj (vS _ _)
 rw [an] at bd; cases bd
 refine qW ?_
 refine qW ?_
 refine qW ?_
 refine qW ?_
 refine qW ?_
 refine qW ?_
 refine qD rfl (yL (v := .bool true) rfl rfl) (qe (zA ?_))
 refine xY rfl rfl (w9d ?_)
 refine qM (.bool false) ?_
 refine qe (zA ?_)
 refine cO (zT (zS (v := .bool false) rfl rfl rfl ?_))
 have x : prfB a b = true := by simpa using ab
 obtain ⟨ak, al, am, an⟩ := hall x
 obtain ⟨ao, ai⟩ := aj (vS _ _)
 rw [ao] at a9; exact absurd a9 (by decide)
 refine w9d ?_
 refine qD rfl (zI (k := 0) rfl dI rfl nz27 rfl) (qD rfl (zJ (u := m) ag27 rfl ((cC y.pins (cB (cB (cB c.le d) g.le) s.le)) _ _ _ (ar 0 _ rfl))) (qD rfl (zN dG (v := m) rfl af) (qD rfl (qL rfl rfl) (qM (.bool (decide ((((prfL a b).length : Int) : Int) = 0))) ?_))))
 refine qbd (p := (((prfL a b).length : Int) : Int) = 0) (t := 56) rfl (fun b0 => ?_) (fun b0 => ?_)
 refine qN (zX (v := .bool (goodB a && goodB b)) rfl) ?_
 refine qN (xN rfl) ?_
 refine qN (zX (v := .bool (!(goodB a && goodB b))) rfl) ?_
 refine qbn (t := 59) rfl (fun b1 => ?_) (fun b1 => ?_)
 refine qN (zX (v := .bool (alB a b)) rfl) ?_
 refine qN (xN rfl) ?_
 refine qN (yM (v := .bool (!(alB a b))) rfl rfl) ?_
 refine qN (zX (v := .bool (!(alB a b))) rfl) ?_
 refine qbn (t := 63) rfl (fun b2 => ?_) (fun b2 => ?_)
 refine qN (zI (k := 0) rfl dF rfl nz24 rfl) ?_
 refine qN (zJ (u := i) ag24 rfl ((cC y.pins (cB (cB (cB (cB (cB (cB q o.le) f) c.le) d) g.le) s.le)) _ _ _ (ap 0 _ rfl))) ?_
 have hmul := hrest (by simpa using ab) (by simpa using b1) (by simpa using b2)
 have ef : a.length * b.length ≤ 120 * 120 := Nat.mul_le_mul hmul.1 hmul.2.1
 have eg : ((a.length * b.length : Nat) : Int) = (a.length : Int) * (b.length : Int) := Int.natCast_mul _ _
 refine qN (zN dD (v := i) rfl ad) ?_
 refine qN (zI (k := 0) rfl dF rfl nz24 rfl) ?_
 refine qN (zJ (u := l) ag24 rfl ((cC y.pins (cB (cB (cB (cB (cB o.le f) c.le) d) g.le) s.le)) _ _ _ (aq 0 _ rfl))) ?_
 refine qN (zN dD (v := l) rfl ae) ?_
 refine qN (r_mul rfl rfl (by omega)) ?_
 refine qN (jR rfl rfl) ?_
 refine qN (yM (v := .bool (decide ((200 : Int) < ((a.length : Int) * (b.length : Int))))) rfl rfl) ?_
 refine qD rfl (yL (v := .bool (decide ((200 : Int) < ((a.length : Int) * (b.length : Int))))) rfl rfl) (qM (.bool (decide ((200 : Int) < ((a.length : Int) * (b.length : Int))))) ?_)
 refine qe (zA ?_)
 exact cO (zT (zS (v := .bool (decide ((200 : Int) < ((a.length : Int) * (b.length : Int))))) rfl rfl rfl (⟨_, cgA eB (decide_eq_true hmul.2.2), y⟩)))
 refine qW ?_
 refine qW ?_
 refine qW ?_
 refine qW ?_
 refine qW ?_
 refine qW ?_
 refine qW ?_
 refine qW ?_
 refine qN (yL (v := .bool true) rfl rfl) ?_
 refine qD rfl (yL (v := .bool true) rfl rfl) (qM (.bool true) ?_)
 refine qe (zA ?_)
 exact cO (zT (zS (v := .bool true) rfl rfl rfl (⟨_, rfl, y⟩)))
 refine qW ?_
 refine qW ?_
 refine qN (yL (v := .bool true) rfl rfl) ?_
 refine qN (zX (v := .bool true) rfl) ?_
 refine qW ?_
 refine qW ?_
 refine qW ?_
 refine qW ?_
 refine qW ?_
 refine qW ?_
 refine qW ?_
 refine qW ?_
 refine qN (yL (v := .bool true) rfl rfl) ?_
 refine qD rfl (yL (v := .bool true) rfl rfl) (qM (.bool true) ?_)
 refine qe (zA ?_)
 exact cO (zT (zS (v := .bool true) rfl rfl rfl (⟨_, rfl, y⟩)))
 refine qW ?_
 refine qW ?_
 refine qW ?_
 refine qX ?_
 refine qX ?_
 refine qW ?_
 refine qW ?_
 refine qX ?_
 refine qX ?_
 refine qX ?_
 refine qX ?_
 refine qX ?_
 refine qX ?_
 refine qX ?_
 refine qX ?_
 refine qW ?_
 refine qD rfl (yM (v := .bool false) rfl rfl) (qM (.bool false) ?_)
 refine qe (zA ?_)
 exact cO (zT (zS (v := .bool false) rfl rfl rfl (absurd (by rw [prf_none (by simpa using ab)]; rfl) b0)))
end LFP
end Go.Proofs.YtdleojbknkbpiaaGreatDoor
