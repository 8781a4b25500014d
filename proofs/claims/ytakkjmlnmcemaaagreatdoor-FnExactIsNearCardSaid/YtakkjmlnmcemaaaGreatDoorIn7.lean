/- Texts of this claim. -/
import Derived.Test.YtakkjmlnmcemaaaGreatDoorIn6
import Derived.Test.YtakkjmlnmcemaaaGreatDoorChecked
set_option maxRecDepth 20000
set_option maxHeartbeats 2000000
namespace Go.Proofs.YtakkjmlnmcemaaaGreatDoor
open Go.RowKit Go.GL Go.Proofs
namespace VB2
open B1 C1 D1 E1 K1 PO1 PL1 NU1 NU2 NU3 NB4 VB1
theorem eg27 : (Tryz.prog.eqGuardType Tryz.prog.depth 27) = false := by kernel_rfl
theorem pl27 : (Tryz.prog.underlying 27).bind (placesD Tryz.prog) = some [(0, 1), (1, 1)] := by kernel_rfl
theorem sh27 : (Tryz.prog.stoodInHeld 27) = false := by kernel_rfl
variable {G : Pin} {t z y u : Int} {p : Nat}
theorem pF {w : World} {s : Int} (hP : Pins G w) (hp : p ≤ 16) (hA : scI 24 t z = u * 2 ^ (24 - p)) (hB : scI 24 s y = (u + 1) * 2 ^ (24 - p)) (hgt : GoodD t z) (hgs : GoodD s y) (hu : u + 1 ≤ 0) :
  Calls Tryz.prog 103 [.agg #[vJ t, vJ z], .agg #[vJ s, vJ y]].toArray w fun e w' => ∃ G', e = .returned (.agg #[.int .i64 (btT p u), .int .i64 (btP p)]) ∧ Ext noS G w G' w' := by
 refine zY (n := 57) Tryz.func103 Tryz.ntmps103 rfl rfl ?_
 have x := exr noS hP
 have htt := hgt.top
 have hzz := hgt.pow
 have hss := hgs.top
 have hyy := hgs.pow
 have bk := scI_zero
 have hAl := vK (D := 24) (t := t) (z := z) (by omega) (by omega)
 have hBl := vK (D := 24) (t := s) (z := y) (by omega) (by omega)
 have bl : scI 24 s y ≤ 0 := by rw [hB]; exact Int.mul_nonpos_of_nonpos_of_nonneg (by omega) (Int.le_of_lt (Int.pow_pos (by decide)))
 have ap : scI 24 (-s) y = (-(u + 1)) * 2 ^ (24 - p) := by rw [scI_neg, hB, Int.neg_mul]
 have aq : scI 24 (-t) z = (-(u + 1) + 1) * 2 ^ (24 - p) := by rw [scI_neg, hA, ← Int.neg_mul, show -(u + 1) + 1 = -u by omega]
 have hul := u_lim hA htt hzz.1 hp
 have hbl := bt_lim p (-(u + 1))
 refine w9d ?_
 refine qI rfl (xH [vJ t, vJ z] (v := .agg #[vJ t, vJ z]) rfl rfl x.pins (fun b1 w2 bn a0 a1 a2 => ?_))
 have a3 : w.heap.size ≤ b1 := by have := x.size; omega
 obtain ⟨G9, bp, aa, ar, bq⟩ := a0.shut (x.step a1 a2) a3
 refine qI rfl (xH [vJ s, vJ y] (v := .agg #[vJ s, vJ y]) rfl rfl aa.pins (fun a4 br bs a5 a6 a7 => ?_))
 have a8 : w.heap.size ≤ a4 := by have := aa.size; omega
 obtain ⟨bt, au, ab, l, bu⟩ := a5.shut (aa.step a6 a7) a8
 refine qI rfl (yI [vJ 0, vJ 0] zr27 rfl ab.pins (fun a9 bv bw ba bb bc => ?_))
 have ac := ab.step bb bc
 have av : w.heap.size ≤ a9 := by have := ab.size; omega
 refine qe (zA (w9b ?_))
 refine qD rfl (yA (cs := [vJ s, vJ y]) ag27 sz27 rfl (fun j u hj => ac.pins _ _ _ (l _ _ (by simpa using hj)))) (qD rfl (yS [vJ 0, vJ 0] [vJ 0, vJ 0] [] dH zr27 rfl pl27 rfl (fun _ h => by cases h) rfl) (qI rfl (zL (vs := [.agg #[vJ s, vJ y], .agg #[vJ 0, vJ 0]]) Tryz.func31 nm31 rfl rfl rfl ?_)))
 refine cD (qT (t := s) (z := y) (s := 0) (y := 0) ac.pins (by omega) (by omega) (by omega) (by omega)) ?_
 rintro _ b ⟨aw, rfl, a⟩
 refine rt9 ?_
 have f := ac.tr a
 have ax := ba.ext a
 refine qM (.bool (decide (scI 24 s y < scI 24 0 0))) ?_
 refine qbd (p := scI 24 s y < scI 24 0 0) (t := 11) rfl (fun bd => ?_) (fun bd => ?_)
 refine qW ?_
 refine qW ?_
 refine qW ?_
 refine qD rfl (yB (v := .bool true) rfl rfl) (qe (zA ?_))
 refine qK rfl rfl (zB (yW (S := fun wz => Pins aw wz) (last := 6) (by kernel_rfl) rfl ?_))
 have ad := bdr b
 have m := f.step (f.pins.below ad) ad
 refine dT (i := 0) rfl rfl (by kernel_rfl) (fun _ hS => yA (cs := [vJ s, vJ y]) ag27 sz27 rfl (fun j u hj => (cC hS a.le) _ _ _ (l _ _ (by simpa using hj)))) m.pins ?_
 refine dT (i := 2) rfl rfl (by kernel_rfl) (fun _ hS => yA (cs := [vJ t, vJ z]) ag27 sz27 rfl (fun j u hj => (cC hS (cB au a.le)) _ _ _ (ar _ _ (by simpa using hj)))) m.pins ?_
 refine dP (i := 1) rfl rfl (zL (vs := [.agg #[vJ s, vJ y]]) Tryz.func102 sU rfl rfl rfl ?_)
 refine cD (jP (t := s) (z := y) m.pins (by omega)) ?_
 rintro _ bx ⟨bz, rfl, c⟩
 refine rt9 ?_
 have ae := m.tr c
 refine ⟨fun _ => (cC ae.pins c.le), ?_⟩
 refine dP (i := 3) rfl rfl (zL (vs := [.agg #[vJ t, vJ z]]) Tryz.func102 sU rfl rfl rfl ?_)
 refine cD (jP (t := t) (z := z) ae.pins (by omega)) ?_
 rintro _ b0 ⟨b2, rfl, g⟩
 refine rt9 ?_
 have af := ae.tr g
 refine ⟨fun _ => (cC af.pins (cB c.le g.le)), ?_⟩
 refine dP (i := 4) rfl rfl (zL (vs := [.agg #[vJ (-s), vJ y], .agg #[vJ (-t), vJ z]]) Tryz.func103 nm103 rfl rfl rfl ?_)
 refine cD (vU (t := -s) (z := y) (s := -t) (y := z) (u := -(u + 1)) (p := p) af.pins hp ap aq hgs.neg hgt.neg (by omega)) ?_
 rintro _ b3 ⟨b4, rfl, o⟩
 refine rt9 ?_
 have ag := af.tr o
 refine ⟨fun _ => (cC ag.pins (cB (cB c.le g.le) o.le)), ?_⟩
 refine dP (i := 5) rfl rfl (zL (vs := [.agg #[vJ (btT p (-(u + 1))), vJ (btP p)]]) Tryz.func102 sU rfl rfl rfl ?_)
 refine cD (jP (t := btT p (-(u + 1))) (z := btP p) ag.pins (by omega)) ?_
 rintro _ b5 ⟨b6, rfl, ah⟩
 refine rt9 ?_
 have ai := ag.tr ah
 refine ⟨fun _ => (cC ai.pins (cB (cB (cB c.le g.le) o.le) ah.le)), ?_⟩
 refine dO (i := 6) (xK (i := 6) rfl rfl rfl (zR rfl _) (o_stp (cs' := [vJ (-(btT p (-(u + 1)))), vJ (btP p)]) (us := [vJ (-(btT p (-(u + 1)))), vJ (btP p)]) (v := .agg #[vJ (-(btT p (-(u + 1)))), vJ (btP p)]) sz27 rfl rfl rfl (yQ (by rfl) (by rfl)) ai.pins (((((ax.below ad).ext c).ext g).ext o).ext ah) (cE rfl) rfl (fun b7 be bf bg b8 => ?_)))
 refine ⟨fun h => absurd rfl h, ?_⟩
 exact yL (by kernel_rfl) (zA (cP (zP (jQ (cs := [vJ (-(btT p (-(u + 1)))), vJ (btP p)]) rfl rfl rfl ag27 sz27 (fun j u hj => by rw [cS]; exact be.cell hj) (⟨_, by rw [bt_neg], (ai.write bf bg ((zS av)))⟩)))))
 refine qN (yA (cs := [vJ s, vJ y]) ag27 sz27 rfl (fun j u hj => (cC f.pins a.le) _ _ _ (l _ _ (by simpa using hj)))) ?_
 refine qN (yS [vJ 0, vJ 0] [vJ 0, vJ 0] [] dH zr27 rfl pl27 rfl (fun _ h => by cases h) rfl) ?_
 refine qN (mT dH (by decide) rfl rfl rfl rfl dS sh27 eg27 rfl rfl) ?_
 refine qD rfl (zU (v := .bool (decide (((s, y) : Int × Int) = (0, 0)))) rfl rfl) (qe (zA ?_))
 refine yC (p := ((s, y) : Int × Int) = (0, 0)) rfl rfl (fun ay => ?_) (fun ay => ?_)
 refine zB (yW (S := fun wz => Pins aw wz) (last := 6) (by kernel_rfl) rfl ?_)
 have aj := bdr b
 have q := f.step (f.pins.below aj) aj
 refine dT (i := 0) rfl rfl (by kernel_rfl) (fun _ hS => yA (cs := [vJ s, vJ y]) ag27 sz27 rfl (fun j u hj => (cC hS a.le) _ _ _ (l _ _ (by simpa using hj)))) q.pins ?_
 refine dT (i := 2) rfl rfl (by kernel_rfl) (fun _ hS => yA (cs := [vJ t, vJ z]) ag27 sz27 rfl (fun j u hj => (cC hS (cB au a.le)) _ _ _ (ar _ _ (by simpa using hj)))) q.pins ?_
 refine dP (i := 1) rfl rfl (zL (vs := [.agg #[vJ s, vJ y]]) Tryz.func102 sU rfl rfl rfl ?_)
 refine cD (jP (t := s) (z := y) q.pins (by omega)) ?_
 rintro _ b9 ⟨ca, rfl, d⟩
 refine rt9 ?_
 have ak := q.tr d
 refine ⟨fun _ => (cC ak.pins d.le), ?_⟩
 refine dP (i := 3) rfl rfl (zL (vs := [.agg #[vJ t, vJ z]]) Tryz.func102 sU rfl rfl rfl ?_)
 refine cD (jP (t := t) (z := z) ak.pins (by omega)) ?_
 rintro _ cb ⟨cc, rfl, k⟩
 refine rt9 ?_
 have al := ak.tr k
 refine ⟨fun _ => (cC al.pins (cB d.le k.le)), ?_⟩
 refine dP (i := 4) rfl rfl (zL (vs := [.agg #[vJ (-s), vJ y], .agg #[vJ (-t), vJ z]]) Tryz.func103 nm103 rfl rfl rfl ?_)
 refine cD (vU (t := -s) (z := y) (s := -t) (y := z) (u := -(u + 1)) (p := p) al.pins hp ap aq hgs.neg hgt.neg (by omega)) ?_
 rintro _ cd ⟨ce, rfl, r⟩
 refine rt9 ?_
 have am := al.tr r
 refine ⟨fun _ => (cC am.pins (cB (cB d.le k.le) r.le)), ?_⟩
 refine dP (i := 5) rfl rfl (zL (vs := [.agg #[vJ (btT p (-(u + 1))), vJ (btP p)]]) Tryz.func102 sU rfl rfl rfl ?_)
 refine cD (jP (t := btT p (-(u + 1))) (z := btP p) am.pins (by omega)) ?_
 rintro _ cf ⟨cg, rfl, an⟩
 refine rt9 ?_
 have ao := am.tr an
 refine ⟨fun _ => (cC ao.pins (cB (cB (cB d.le k.le) r.le) an.le)), ?_⟩
 refine dO (i := 6) (xK (i := 6) rfl rfl rfl (zR rfl _) (o_stp (cs' := [vJ (-(btT p (-(u + 1)))), vJ (btP p)]) (us := [vJ (-(btT p (-(u + 1)))), vJ (btP p)]) (v := .agg #[vJ (-(btT p (-(u + 1)))), vJ (btP p)]) sz27 rfl rfl rfl (yQ (by rfl) (by rfl)) ao.pins (((((ax.below aj).ext d).ext k).ext r).ext an) (cE rfl) rfl (fun ch bh bi bj ci => ?_)))
 refine ⟨fun h => absurd rfl h, ?_⟩
 exact yL (by kernel_rfl) (zA (cP (zP (jQ (cs := [vJ (-(btT p (-(u + 1)))), vJ (btP p)]) rfl rfl rfl ag27 sz27 (fun j u hj => by rw [cS]; exact bh.cell hj) (⟨_, by rw [bt_neg], (ao.write bi bj ((zS av)))⟩)))))
 exact absurd (pair_zero hgs (scI_zero_iff (y := y) (by omega))) ay
theorem gT {w : World} {s : Int} (hP : Pins G w) (hp : p ≤ 16) (hA : scI 24 t z = u * 2 ^ (24 - p)) (hB : scI 24 s y = (u + 1) * 2 ^ (24 - p)) (hgt : GoodD t z) (hgs : GoodD s y) :
  Calls Tryz.prog 103 [.agg #[.int .i64 t, .int .i64 z], .agg #[.int .i64 s, .int .i64 y]].toArray w fun e w' => ∃ G', e = .returned (.agg #[.int .i64 (btT p u), .int .i64 (btP p)]) ∧ Ext noS G w G' w' := by
 by_cases hu : 0 ≤ u
 ·exact vU hP hp hA hB hgt hgs hu
 ·exact pF hP hp hA hB hgt hgs (by omega)
end VB2
namespace VB3
open B1 C1 D1 E1 K1 PO1 PL1 NU1 NU2 NU3 NB4 VB1 VB2
theorem pl27 : (Tryz.prog.underlying 27).bind (placesD Tryz.prog) = some [(0, 1), (1, 1)] := by kernel_rfl
theorem l7Node_spec {w : World} {G : Pin} {xl xr v bb : Value} {ns : List Nd} {c k : Nat} {xs ys : List Int} {vs : List (Int × Int)} {bs : List Bool} (hP : Pins G w) (hl : RSl eInt G xl xs) (hr : RSl eInt G xr ys) (hxs : xs = (ns.getD k default).l) (hys : ys = (ns.getD k default).r) (hv : RSl eP2 G v vs) (hb : RSl eBool G bb bs) (hf : IsForm c ns) (hc : CanonG c) (hk : k < ns.length) (hvs : VsOk ns vs bs k) :
  Calls Tryz.prog 83 [.agg #[xl, xr], v, bb].toArray w fun e w' => ∃ G', e = .returned (.tuple #[.agg #[.int .i64 (vgT (den ns k)), .int .i64 (vgP (den ns k))], .bool (vgB (den ns k))]) ∧ Ext noS G w G' w' := by
 refine zY (n := 125) Tryz.func83 Tryz.ntmps83 rfl rfl ?_
 have bv := exr noS hP
 have hno := node_ok hf hc hk hxs hys
 have hoo := xB hf.1.wf.ok.opts hk
 have hlen := hf.1.wf.ok.lens k hk
 rw [← hxs, ← hys] at hoo hlen
 have hvl := hvs.vl
 have hbl := hvs.bl
 have hil : 0 < xs.length → 0 ≤ xs.getD 0 0 ∧ xs.getD 0 0 < (k : Int) := fun h => hoo.1 _ (yE h)
 have hir : 0 < ys.length → 0 ≤ ys.getD 0 0 ∧ ys.getD 0 0 < (k : Int) := fun h => hoo.2 _ (yE h)
 refine w9d ?_
 refine qI rfl (xH [xl, xr] (v := .agg #[xl, xr]) rfl rfl bv.pins (fun b1 w2 it ew ex ey => ?_))
 have ez : w.heap.size ≤ b1 := by have := bv.size; omega
 obtain ⟨G9, q, bw, d, iv⟩ := ew.shut (bv.step ex ey) ez
 refine qI rfl (yI [vJ 0, vJ 0] zr27 rfl bw.pins (fun e0 iw ix aa e4 e5 => ?_))
 have a := bw.step e4 e5
 have ab : w.heap.size ≤ e0 := by have := bw.size; omega
 refine qM (.bool false) ?_
 refine qe (zA (w9b ?_))
 refine qD rfl (zH (k := 0) rfl dG rfl nz56 rfl) (qD rfl (zJ (u := xl) ag56 rfl (a.pins _ _ _ (d 0 _ rfl))) (qD rfl (zM dE (v := xl) rfl hl) (qD rfl (jW rfl rfl) (qM (.bool (decide ((1 : Int) < (xs.length : Int)))) ?_))))
 refine qbd (p := (1 : Int) < (xs.length : Int)) (t := 15) rfl (fun e6 => ?_) (fun e6 => ?_)
 refine qW ?_
 refine qW ?_
 refine qW ?_
 refine qW ?_
 refine qD rfl (yB (v := .bool true) rfl rfl) (qM (.bool true) ?_)
 refine qW ?_
 refine qW ?_
 refine qW ?_
 refine qW ?_
 refine qW ?_
 refine qX ?_
 refine qX ?_
 refine qX ?_
 refine qX ?_
 refine qX ?_
 refine qX ?_
 refine qX ?_
 refine qX ?_
 refine qW ?_
 refine qD rfl (yB (v := .bool true) rfl rfl) (qM (.bool true) ?_)
 refine qW ?_
 refine qW ?_
 refine qW ?_
 refine qW ?_
 refine qW ?_
 refine qX ?_
 refine qX ?_
 refine qX ?_
 refine qX ?_
 refine qX ?_
 refine qX ?_
 refine qX ?_
 refine qX ?_
 refine qW ?_
 refine qD rfl (yB (v := .bool true) rfl rfl) (qe (zA ?_))
 refine qK rfl rfl (w9d ?_)
 refine qD rfl (yS [vJ 0, vJ 0] [vJ 0, vJ 0] [] dH zr27 rfl pl27 rfl (fun _ h => by cases h) rfl) (q0 rfl rfl rfl (o_stp (cs' := [vJ 0, vJ 0]) (us := [vJ 0, vJ 0]) (v := .agg #[vJ 0, vJ 0]) sz27 rfl rfl rfl (yQ (by rfl) (by rfl)) a.pins aa (cE rfl) rfl (fun iy e7 e8 e9 iz => ?_)))
 refine qM (.bool false) ?_
 refine qe (zA ?_)
 refine cP (zP (xF (cs := [vJ 0, vJ 0]) (v := .bool false) rfl rfl rfl rfl rfl ag27 sz27 (fun j u hj => by rw [cS]; exact e7.cell hj) ?_))
 have hvb : vgB (den ns k) = false := nd_many hno (by omega)
 obtain ⟨m, o⟩ := kY hvb
 rw [hvb, m, o]
 exact ⟨_, rfl, (a.write e8 e9 ((zS ab)))⟩
 refine qN (zH (k := 1) rfl dG rfl nz56 rfl) ?_
 refine qN (zJ (u := xr) ag56 rfl (a.pins _ _ _ (d 1 _ rfl))) ?_
 refine qN (zM dE (v := xr) rfl hr) ?_
 refine qN (jW rfl rfl) ?_
 refine qD rfl (zU (v := .bool (decide ((1 : Int) < (ys.length : Int)))) rfl rfl) (qM (.bool (decide ((1 : Int) < (ys.length : Int)))) ?_)
 refine qbd (p := (1 : Int) < (ys.length : Int)) (t := 21) rfl (fun fa => ?_) (fun fa => ?_)
 refine qW ?_
 refine qW ?_
 refine qW ?_
 refine qW ?_
 refine qW ?_
 refine qX ?_
 refine qX ?_
 refine qX ?_
 refine qX ?_
 refine qX ?_
 refine qX ?_
 refine qX ?_
 refine qX ?_
 refine qW ?_
 refine qD rfl (yB (v := .bool true) rfl rfl) (qM (.bool true) ?_)
 refine qW ?_
 refine qW ?_
 refine qW ?_
 refine qW ?_
 refine qW ?_
 refine qX ?_
 refine qX ?_
 refine qX ?_
 refine qX ?_
 refine qX ?_
 refine qX ?_
 refine qX ?_
 refine qX ?_
 refine qW ?_
 refine qD rfl (yB (v := .bool true) rfl rfl) (qe (zA ?_))
 refine qK rfl rfl (w9d ?_)
 refine qD rfl (yS [vJ 0, vJ 0] [vJ 0, vJ 0] [] dH zr27 rfl pl27 rfl (fun _ h => by cases h) rfl) (q0 rfl rfl rfl (o_stp (cs' := [vJ 0, vJ 0]) (us := [vJ 0, vJ 0]) (v := .agg #[vJ 0, vJ 0]) sz27 rfl rfl rfl (yQ (by rfl) (by rfl)) a.pins aa (cE rfl) rfl (fun i0 fb fc fd i1 => ?_)))
 refine qM (.bool false) ?_
 refine qe (zA ?_)
 refine cP (zP (xF (cs := [vJ 0, vJ 0]) (v := .bool false) rfl rfl rfl rfl rfl ag27 sz27 (fun j u hj => by rw [cS]; exact fb.cell hj) ?_))
 have hvb : vgB (den ns k) = false := nd_many hno (by omega)
 obtain ⟨m, o⟩ := kY hvb
 rw [hvb, m, o]
 exact ⟨_, rfl, (a.write fc fd ((zS ab)))⟩
 refine qN (zH (k := 0) rfl dG rfl nz56 rfl) ?_
 refine qN (zJ (u := xl) ag56 rfl (a.pins _ _ _ (d 0 _ rfl))) ?_
 refine qN (zM dE (v := xl) rfl hl) ?_
 refine qN (xO rfl rfl) ?_
 refine qN (zN (v := .bool (decide (((xs.length : Int) : Int) = 1))) rfl) ?_
 refine qbd (p := ((xs.length : Int) : Int) = 1) (t := 26) rfl (fun fe => ?_) (fun fe => ?_)
 have i2 := hil (by omega)
 have hvL := hvs.v (xs.getD 0 0).toNat (by omega)
 have hbL := hvs.b (xs.getD 0 0).toNat (by omega)
 refine qN (zN (v := bb) rfl) ?_
 refine qN (zH (k := 0) rfl dG rfl nz56 rfl) ?_
 refine qN (zJ (u := xl) ag56 rfl (a.pins _ _ _ (d 0 _ rfl))) ?_
 refine qN (zF dE sz3 (v := xl) rfl rfl hl (by omega) (by omega)) ?_
 refine qN (zG (r := xs.getD 0 0) rfl ag3 (z := 0) rfl hl (cC a.pins q) (by omega) (by omega)) ?_
 refine qN (zF dI sz4 (v := bb) rfl rfl hb (by omega) (by omega)) ?_
 refine qN (xQ (r := bs.getD (xs.getD 0 0).toNat false) rfl ag4 (z := xs.getD 0 0) rfl hb (cC a.pins q) (by omega) (by omega)) ?_
 refine qN (xD rfl) ?_
 refine qN (yB (v := .bool (!(bs.getD (xs.getD 0 0).toNat false))) rfl rfl) ?_
 refine qD rfl (zU (v := .bool (!(bs.getD (xs.getD 0 0).toNat false))) rfl rfl) (qM (.bool (!(bs.getD (xs.getD 0 0).toNat false))) ?_)
 refine qbn (t := 37) rfl (fun bg => ?_) (fun bg => ?_)
 refine qN (zH (k := 1) rfl dG rfl nz56 rfl) ?_
 refine qN (zJ (u := xr) ag56 rfl (a.pins _ _ _ (d 1 _ rfl))) ?_
 refine qN (zM dE (v := xr) rfl hr) ?_
 refine qN (xO rfl rfl) ?_
 refine qN (zN (v := .bool (decide (((ys.length : Int) : Int) = 1))) rfl) ?_
 refine qbd (p := ((ys.length : Int) : Int) = 1) (t := 42) rfl (fun ff => ?_) (fun ff => ?_)
 have fg := hir (by omega)
 have hvR := hvs.v (ys.getD 0 0).toNat (by omega)
 have hbR := hvs.b (ys.getD 0 0).toNat (by omega)
 refine qN (zN (v := bb) rfl) ?_
 refine qN (zH (k := 1) rfl dG rfl nz56 rfl) ?_
 refine qN (zJ (u := xr) ag56 rfl (a.pins _ _ _ (d 1 _ rfl))) ?_
 refine qN (zF dE sz3 (v := xr) rfl rfl hr (by omega) (by omega)) ?_
 refine qN (zG (r := ys.getD 0 0) rfl ag3 (z := 0) rfl hr (cC a.pins q) (by omega) (by omega)) ?_
 refine qN (zF dI sz4 (v := bb) rfl rfl hb (by omega) (by omega)) ?_
 refine qN (xQ (r := bs.getD (ys.getD 0 0).toNat false) rfl ag4 (z := ys.getD 0 0) rfl hb (cC a.pins q) (by omega) (by omega)) ?_
 refine qN (xD rfl) ?_
 refine qN (yB (v := .bool (!(bs.getD (ys.getD 0 0).toNat false))) rfl rfl) ?_
 refine qD rfl (zU (v := .bool (!(bs.getD (ys.getD 0 0).toNat false))) rfl rfl) (qe (zA ?_))
 refine xU rfl rfl (fun bx => ?_) (fun bx => ?_)
 refine cO (w9a ?_)
 refine qD rfl (yS [vJ 0, vJ 0] [vJ 1, vJ 0] [(0, (vJ 1), [vJ 1])] dH zr27 rfl pl27 rfl (cN.2 ⟨rfl, (fun _ h => by cases h)⟩) rfl) (qI rfl (yI [vJ 0, vJ 0] zr27 rfl a.pins (fun fh i3 fi fj fk cq => ?_)))
 have cr := a.step fk cq
 have ct := zI (cgA some fi) aa.lt
 have cu : w.heap.size ≤ fh := by have := a.size; omega
 refine q0 rfl rfl rfl (o_stp (cs' := [vJ 1, vJ 0]) (us := [vJ 1, vJ 0]) (v := .agg #[vJ 1, vJ 0]) sz27 rfl rfl rfl (yQ (by rfl) (by rfl)) cr.pins fj (cE rfl) rfl (fun bz fl fm cv i4 => ?_))
 obtain ⟨fn, ac, av, i5, fo⟩ := fl.shut (cr.write fm cv ((zS cu))) cu
 refine qe (zA (zB ?_))
 refine zZ (w9d ?_)
 refine qD rfl (zH (k := 0) rfl dG rfl nz56 rfl) (qD rfl (zJ (u := xl) ag56 rfl ((cC av.pins ac) _ _ _ (d 0 _ rfl))) (qD rfl (zM dE (v := xl) rfl hl) (qD rfl (zH (k := 1) rfl dG rfl nz56 rfl) (qD rfl (zJ (u := xr) ag56 rfl ((cC av.pins ac) _ _ _ (d 1 _ rfl))) (qD rfl (zM dE (v := xr) rfl hr) (qD rfl (yH rfl rfl (by omega)) (qD rfl (xO rfl rfl) (qM (.bool (decide (((xs.length : Int) + (ys.length : Int) : Int) = 0))) ?_))))))))
 refine qe (zA ?_)
 refine yC (p := ((xs.length : Int) + (ys.length : Int) : Int) = 0) rfl rfl (fun fp => ?_) (fun fp => ?_)
 exfalso; omega
 refine w9d ?_
 refine qD rfl (zH (k := 1) rfl dG rfl nz56 rfl) (qD rfl (zJ (u := xr) ag56 rfl ((cC av.pins ac) _ _ _ (d 1 _ rfl))) (qD rfl (zM dE (v := xr) rfl hr) (qD rfl (xO rfl rfl) (qM (.bool (decide (((ys.length : Int) : Int) = 0))) ?_))))
 refine qe (zA ?_)
 refine yC (p := ((ys.length : Int) : Int) = 0) rfl rfl (fun fq => ?_) (fun fq => ?_)
 exfalso; omega
 refine w9d ?_
 refine qD rfl (zH (k := 0) rfl dG rfl nz56 rfl) (qD rfl (zJ (u := xl) ag56 rfl ((cC av.pins ac) _ _ _ (d 0 _ rfl))) (qD rfl (zM dE (v := xl) rfl hl) (qD rfl (xO rfl rfl) (qM (.bool (decide (((xs.length : Int) : Int) = 0))) ?_))))
 refine qe (zA ?_)
 refine yC (p := ((xs.length : Int) : Int) = 0) rfl rfl (fun fr => ?_) (fun fr => ?_)
 exfalso; omega
 refine cO (zW (zA (zB ?_)))
 have hvbL : vgB (den ns (xs.getD 0 0).toNat) = true := by rw [← hbL]; exact bg
 have ad : (vs.getD (xs.getD 0 0).toNat default).1 = vgT (den ns (xs.getD 0 0).toNat) := by rw [hvL]
 have ae : (vs.getD (xs.getD 0 0).toNat default).2 = vgP (den ns (xs.getD 0 0).toNat) := by rw [hvL]
 have hgL : GoodD (vs.getD (xs.getD 0 0).toNat default).1 (vs.getD (xs.getD 0 0).toNat default).2 := by rw [ad, ae]; exact vW hvbL
 have hgLt := hgL.top
 have hgLp := hgL.pow
 have hvbR : vgB (den ns (ys.getD 0 0).toNat) = true := by rw [← hbR]; exact bx
 have af : (vs.getD (ys.getD 0 0).toNat default).1 = vgT (den ns (ys.getD 0 0).toNat) := by rw [hvR]
 have ag : (vs.getD (ys.getD 0 0).toNat default).2 = vgP (den ns (ys.getD 0 0).toNat) := by rw [hvR]
 have hgR : GoodD (vs.getD (ys.getD 0 0).toNat default).1 (vs.getD (ys.getD 0 0).toNat default).2 := by rw [af, ag]; exact vW hvbR
 have hgRt := hgR.top
 have hgRp := hgR.pow
 refine yW (S := fun wz => Pins fn wz) (last := 17) (by kernel_rfl) rfl ?_
 have b0 := bdr bz
 have f := av.step (av.pins.below b0) b0
 have bh := (((aa.below cq).keptA cv ct.symm).moreA fo ct.symm).below b0
 refine dM 0 v f.pins ?_
 refine dT (i := 1) rfl rfl (by kernel_rfl) (fun _ _ => zH (k := 0) rfl dG rfl nz56 rfl) f.pins ?_
 refine dT (i := 2) rfl rfl (by kernel_rfl) (fun _ hS => zJ (u := xl) ag56 rfl ((cC hS ac) _ _ _ (d 0 _ rfl))) f.pins ?_
 refine dT (i := 3) rfl rfl (by kernel_rfl) (fun _ _ => zF dE sz3 (v := xl) rfl rfl hl (by omega) (by omega)) f.pins ?_
 refine dT (i := 4) rfl rfl (by kernel_rfl) (fun _ hS => zG (r := xs.getD 0 0) rfl ag3 (z := 0) rfl hl (cC hS (cB q ac)) (by omega) (by omega)) f.pins ?_
 refine dT (i := 5) rfl rfl (by kernel_rfl) (fun _ _ => zF dK sz27 (v := v) rfl rfl hv (by omega) (by omega)) f.pins ?_
 obtain ⟨i6, fs, ft, i7⟩ := vA (j := (xs.getD 0 0).toNat) default (hv.at (z := xs.getD 0 0) (by omega) (by omega)) rfl
 obtain rfl := fs
 refine dT (i := 6) rfl rfl (by kernel_rfl) (fun _ hS => ft ag27 sz27 rfl (cC hS (cB q ac))) f.pins ?_
 refine dM 7 v f.pins ?_
 refine dT (i := 8) rfl rfl (by kernel_rfl) (fun _ _ => zH (k := 1) rfl dG rfl nz56 rfl) f.pins ?_
 refine dT (i := 9) rfl rfl (by kernel_rfl) (fun _ hS => zJ (u := xr) ag56 rfl ((cC hS ac) _ _ _ (d 1 _ rfl))) f.pins ?_
 refine dT (i := 10) rfl rfl (by kernel_rfl) (fun _ _ => zF dE sz3 (v := xr) rfl rfl hr (by omega) (by omega)) f.pins ?_
 refine dT (i := 11) rfl rfl (by kernel_rfl) (fun _ hS => zG (r := ys.getD 0 0) rfl ag3 (z := 0) rfl hr (cC hS (cB q ac)) (by omega) (by omega)) f.pins ?_
 refine dT (i := 12) rfl rfl (by kernel_rfl) (fun _ _ => zF dK sz27 (v := v) rfl rfl hv (by omega) (by omega)) f.pins ?_
 obtain ⟨i8, fu, fv, i9⟩ := vA (j := (ys.getD 0 0).toNat) default (hv.at (z := ys.getD 0 0) (by omega) (by omega)) rfl
 obtain rfl := fu
 refine dT (i := 13) rfl rfl (by kernel_rfl) (fun _ hS => fv ag27 sz27 rfl (cC hS (cB q ac))) f.pins ?_
 refine jJ (i := 14) (j := 15) (by kernel_rfl) ?_ ?_
 refine (dQ (i := 14) rfl rfl (yI [vJ 0, vJ 0] zr27 rfl f.pins (fun fw ja fx cw fy cx => ?_)))
 have bi := f.step fy cx
 have cy := bh.below cx
 have cz := zI (cgA some fx) bh.lt
 have c0 : w.heap.size ≤ fw := by have := f.size; omega
 refine ⟨fun _ => bi.pins, ?_⟩
 refine dP (i := 15) rfl rfl (yI [vJ 0, vJ 0] zr27 rfl bi.pins (fun fz jb c1 f0 f1 b2 => ?_))
 have b3 := bi.step f1 b2
 have c2 := zI (cgA some c1) cy.lt
 have c3 := zI (cgA some c1) cw.lt
 have c4 : w.heap.size ≤ fz := by have := bi.size; omega
 refine ⟨fun _ => b3.pins, ?_⟩
 refine dO (i := 16) (xK (i := 16) rfl rfl rfl (zR rfl _) (o_stp (cs' := [vJ ((vs.getD (xs.getD 0 0).toNat default).1), vJ ((vs.getD (xs.getD 0 0).toNat default).2)]) (us := [vJ ((vs.getD (xs.getD 0 0).toNat default).1), vJ ((vs.getD (xs.getD 0 0).toNat default).2)]) (v := .agg #[vJ ((vs.getD (xs.getD 0 0).toNat default).1), vJ ((vs.getD (xs.getD 0 0).toNat default).2)]) sz27 rfl rfl rfl (yQ (by rfl) (by rfl)) b3.pins (cw.below b2) (cE rfl) rfl (fun jc f2 f3 b4 jd => ?_)))
 obtain ⟨je, f4, b5, c5, c6⟩ := f2.shut (b3.write f3 b4 ((zS c0))) c0
 refine ⟨fun _ => (cC b5.pins f4), ?_⟩
 refine dO (i := 17) (xK (i := 17) rfl rfl rfl (zR rfl _) (o_stp (cs' := [vJ ((vs.getD (ys.getD 0 0).toNat default).1), vJ ((vs.getD (ys.getD 0 0).toNat default).2)]) (us := [vJ ((vs.getD (ys.getD 0 0).toNat default).1), vJ ((vs.getD (ys.getD 0 0).toNat default).2)]) (v := .agg #[vJ ((vs.getD (ys.getD 0 0).toNat default).1), vJ ((vs.getD (ys.getD 0 0).toNat default).2)]) sz27 rfl rfl rfl (yQ (by rfl) (by rfl)) b5.pins ((f0.keptA b4 c3).moreA c6 c3) (cE rfl) rfl (fun jf f5 f6 c7 jg => ?_)))
 obtain ⟨jh, c8, bj, c9, f7⟩ := f5.shut (b5.write f6 c7 ((zS c4))) c4
 refine ⟨fun h => absurd rfl h, ?_⟩
 refine yL (by kernel_rfl) (zA (w9b ?_))
 refine qD rfl (yA (cs := [vJ ((vs.getD (xs.getD 0 0).toNat default).1), vJ ((vs.getD (xs.getD 0 0).toNat default).2)]) ag27 sz27 rfl (fun j u hj => (cC bj.pins c8) _ _ _ (c5 _ _ (by simpa using hj)))) (qD rfl (yA (cs := [vJ ((vs.getD (ys.getD 0 0).toNat default).1), vJ ((vs.getD (ys.getD 0 0).toNat default).2)]) ag27 sz27 rfl (fun j u hj => bj.pins _ _ _ (c9 _ _ (by simpa using hj)))) (qI rfl (zL (vs := [.agg #[vJ ((vs.getD (xs.getD 0 0).toNat default).1), vJ ((vs.getD (xs.getD 0 0).toNat default).2)], .agg #[vJ ((vs.getD (ys.getD 0 0).toNat default).1), vJ ((vs.getD (ys.getD 0 0).toNat default).2)]]) Tryz.func31 nm31 rfl rfl rfl ?_)))
 refine cD (qT (t := (vs.getD (xs.getD 0 0).toNat default).1) (z := (vs.getD (xs.getD 0 0).toNat default).2) (s := (vs.getD (ys.getD 0 0).toNat default).1) (y := (vs.getD (ys.getD 0 0).toNat default).2) bj.pins (by omega) (by omega) (by omega) (by omega)) ?_
 rintro _ ji ⟨jj, rfl, bk⟩
 refine rt9 ?_
 have aw := bj.tr bk
 have da := (((((cy.below b2).keptA b4 cz.symm).moreA c6 cz.symm).keptA c7 c2.symm).moreA f7 c2.symm).ext bk
 refine qD rfl (xD rfl) (qe (zA ?_))
 refine xU rfl rfl (fun am => ?_) (fun am => ?_)
 replace am := of_decide_eq_true am
 refine cO (w9a ?_)
 have hnd := nd_lr hno ⟨by omega, by omega⟩ hvbL hvbR ((pM hvbL hvbR).1 (by rw [← ad, ← ae, ← af, ← ag]; exact am))
 obtain ⟨pz, uz, hpz, hAz, hBz, an⟩ := bt_val hnd.1 hvbL hvbR
 rw [← ad, ← ae] at hAz
 rw [← af, ← ag] at hBz
 refine qD rfl (yA (cs := [vJ ((vs.getD (xs.getD 0 0).toNat default).1), vJ ((vs.getD (xs.getD 0 0).toNat default).2)]) ag27 sz27 rfl (fun j u hj => (cC aw.pins (cB c8 bk.le)) _ _ _ (c5 _ _ (by simpa using hj)))) (qD rfl (yA (cs := [vJ ((vs.getD (ys.getD 0 0).toNat default).1), vJ ((vs.getD (ys.getD 0 0).toNat default).2)]) ag27 sz27 rfl (fun j u hj => (cC aw.pins bk.le) _ _ _ (c9 _ _ (by simpa using hj)))) (qI rfl (zL (vs := [.agg #[vJ ((vs.getD (xs.getD 0 0).toNat default).1), vJ ((vs.getD (xs.getD 0 0).toNat default).2)], .agg #[vJ ((vs.getD (ys.getD 0 0).toNat default).1), vJ ((vs.getD (ys.getD 0 0).toNat default).2)]]) Tryz.func103 nm103 rfl rfl rfl ?_)))
 refine cD (gT aw.pins hpz hAz hBz hgL hgR) ?_
 rintro _ jk ⟨jl, rfl, db⟩
 refine rt9 ?_
 have dc := aw.tr db
 refine qI rfl (zL (vs := [.agg #[vJ (btT pz uz), vJ (btP pz)]]) Tryz.func100 nm100 rfl rfl rfl ?_)
 refine cD (tH (t := btT pz uz) (z := btP pz) dc.pins) ?_
 rintro _ jm ⟨jn, bm, dd⟩
 obtain ⟨a4, de⟩ : ∃ x : Int, x = lowR (decP (GoodD (btT pz uz) (btP pz))) (btT pz uz) := ⟨_, rfl⟩
 rw [← de] at bm
 obtain ⟨a5, df⟩ : ∃ x : Int, x = lowR (decP (GoodD (btT pz uz) (btP pz))) (btP pz) := ⟨_, rfl⟩
 rw [← df] at bm
 obtain ⟨b6, dg⟩ : ∃ x : Bool, x = decP (GoodD (btT pz uz) (btP pz)) := ⟨_, rfl⟩
 rw [← dg] at bm
 subst bm
 refine ⟨_, rfl, ?_⟩
 have dh := dc.tr dd
 refine qD rfl (yM (v := .agg #[vJ a4, vJ a5]) rfl rfl) (qD rfl (yM (v := .bool b6) rfl rfl) (q0 rfl rfl rfl (o_stp (cs' := [vJ a4, vJ a5]) (us := [vJ a4, vJ a5]) (v := .agg #[vJ a4, vJ a5]) sz27 rfl rfl rfl (yQ (by rfl) (by rfl)) dh.pins ((da.ext db).ext dd) (cE rfl) rfl (fun jo f8 f9 ga jp => ?_))))
 refine qM (.bool b6) ?_
 refine qe (zA ?_)
 refine cP (zP (xF (cs := [vJ a4, vJ a5]) (v := .bool b6) rfl rfl rfl rfl rfl ag27 sz27 (fun j u hj => by rw [cS]; exact f8.cell hj) ?_))
 subst dg
 subst df
 subst de
 rw [hnd.2, an.1, an.2.1, an.2.2]
 exact ⟨_, rfl, (dh.write f9 ga ((zS ab)))⟩
 replace am := of_decide_eq_false am
 refine w9d ?_
 refine qD rfl (yS [vJ 0, vJ 0] [vJ 0, vJ 0] [] dH zr27 rfl pl27 rfl (fun _ h => by cases h) rfl) (q0 rfl rfl rfl (o_stp (cs' := [vJ 0, vJ 0]) (us := [vJ 0, vJ 0]) (v := .agg #[vJ 0, vJ 0]) sz27 rfl rfl rfl (yQ (by rfl) (by rfl)) aw.pins da (cE rfl) rfl (fun jq gb gc gd jr => ?_)))
 refine qM (.bool false) ?_
 refine qe (zA ?_)
 refine cP (zP (xF (cs := [vJ 0, vJ 0]) (v := .bool false) rfl rfl rfl rfl rfl ag27 sz27 (fun j u hj => by rw [cS]; exact gb.cell hj) ?_))
 have hvb : vgB (den ns k) = false := nd_ge hno ⟨by omega, by omega⟩ (Classical.byContradiction (fun g => am (by rw [ad, ae, af, ag]; exact (pM hvbL hvbR).2 g)))
 obtain ⟨m, o⟩ := kY hvb
 rw [hvb, m, o]
 exact ⟨_, rfl, (aw.write gc gd ((zS ab)))⟩
 refine (dQ (i := 15) rfl rfl (yI [vJ 0, vJ 0] zr27 rfl f.pins (fun ge js gf di gg dj => ?_)))
 have bn := f.step gg dj
 have dk := bh.below dj
 have dl := zI (cgA some gf) bh.lt
 have dm : w.heap.size ≤ ge := by have := f.size; omega
 refine ⟨fun _ => bn.pins, ?_⟩
 refine dP (i := 14) rfl rfl (yI [vJ 0, vJ 0] zr27 rfl bn.pins (fun gh jt dn gi gj b7 => ?_))
 have b8 := bn.step gj b7
 have dp := zI (cgA some dn) dk.lt
 have dq := zI (cgA some dn) di.lt
 have dr : w.heap.size ≤ gh := by have := bn.size; omega
 refine ⟨fun _ => b8.pins, ?_⟩
 refine dO (i := 16) (xK (i := 16) rfl rfl rfl (zR rfl _) (o_stp (cs' := [vJ ((vs.getD (xs.getD 0 0).toNat default).1), vJ ((vs.getD (xs.getD 0 0).toNat default).2)]) (us := [vJ ((vs.getD (xs.getD 0 0).toNat default).1), vJ ((vs.getD (xs.getD 0 0).toNat default).2)]) (v := .agg #[vJ ((vs.getD (xs.getD 0 0).toNat default).1), vJ ((vs.getD (xs.getD 0 0).toNat default).2)]) sz27 rfl rfl rfl (yQ (by rfl) (by rfl)) b8.pins gi (cE rfl) rfl (fun ju gk gl b9 jv => ?_)))
 obtain ⟨jw, gm, ca, ds, dt⟩ := gk.shut (b8.write gl b9 ((zS dr))) dr
 refine ⟨fun _ => (cC ca.pins gm), ?_⟩
 refine dO (i := 17) (xK (i := 17) rfl rfl rfl (zR rfl _) (o_stp (cs' := [vJ ((vs.getD (ys.getD 0 0).toNat default).1), vJ ((vs.getD (ys.getD 0 0).toNat default).2)]) (us := [vJ ((vs.getD (ys.getD 0 0).toNat default).1), vJ ((vs.getD (ys.getD 0 0).toNat default).2)]) (v := .agg #[vJ ((vs.getD (ys.getD 0 0).toNat default).1), vJ ((vs.getD (ys.getD 0 0).toNat default).2)]) sz27 rfl rfl rfl (yQ (by rfl) (by rfl)) ca.pins (((di.below b7).keptA b9 dq.symm).moreA dt dq.symm) (cE rfl) rfl (fun jx gn gp du jy => ?_)))
 obtain ⟨jz, dv, bo, dw, gq⟩ := gn.shut (ca.write gp du ((zS dm))) dm
 refine ⟨fun h => absurd rfl h, ?_⟩
 refine yL (by kernel_rfl) (zA (w9b ?_))
 refine qD rfl (yA (cs := [vJ ((vs.getD (xs.getD 0 0).toNat default).1), vJ ((vs.getD (xs.getD 0 0).toNat default).2)]) ag27 sz27 rfl (fun j u hj => (cC bo.pins dv) _ _ _ (ds _ _ (by simpa using hj)))) (qD rfl (yA (cs := [vJ ((vs.getD (ys.getD 0 0).toNat default).1), vJ ((vs.getD (ys.getD 0 0).toNat default).2)]) ag27 sz27 rfl (fun j u hj => bo.pins _ _ _ (dw _ _ (by simpa using hj)))) (qI rfl (zL (vs := [.agg #[vJ ((vs.getD (xs.getD 0 0).toNat default).1), vJ ((vs.getD (xs.getD 0 0).toNat default).2)], .agg #[vJ ((vs.getD (ys.getD 0 0).toNat default).1), vJ ((vs.getD (ys.getD 0 0).toNat default).2)]]) Tryz.func31 nm31 rfl rfl rfl ?_)))
 refine cD (qT (t := (vs.getD (xs.getD 0 0).toNat default).1) (z := (vs.getD (xs.getD 0 0).toNat default).2) (s := (vs.getD (ys.getD 0 0).toNat default).1) (y := (vs.getD (ys.getD 0 0).toNat default).2) bo.pins (by omega) (by omega) (by omega) (by omega)) ?_
 rintro _ j0 ⟨j1, rfl, bp⟩
 refine rt9 ?_
 have ax := bo.tr bp
 have dx := (((((dk.below b7).keptA b9 dp.symm).moreA dt dp.symm).keptA du dl.symm).moreA gq dl.symm).ext bp
 refine qD rfl (xD rfl) (qe (zA ?_))
 refine xU rfl rfl (fun ao => ?_) (fun ao => ?_)
 replace ao := of_decide_eq_true ao
 refine cO (w9a ?_)
 have hnd := nd_lr hno ⟨by omega, by omega⟩ hvbL hvbR ((pM hvbL hvbR).1 (by rw [← ad, ← ae, ← af, ← ag]; exact ao))
 obtain ⟨pz, uz, hpz, hAz, hBz, an⟩ := bt_val hnd.1 hvbL hvbR
 rw [← ad, ← ae] at hAz
 rw [← af, ← ag] at hBz
 refine qD rfl (yA (cs := [vJ ((vs.getD (xs.getD 0 0).toNat default).1), vJ ((vs.getD (xs.getD 0 0).toNat default).2)]) ag27 sz27 rfl (fun j u hj => (cC ax.pins (cB dv bp.le)) _ _ _ (ds _ _ (by simpa using hj)))) (qD rfl (yA (cs := [vJ ((vs.getD (ys.getD 0 0).toNat default).1), vJ ((vs.getD (ys.getD 0 0).toNat default).2)]) ag27 sz27 rfl (fun j u hj => (cC ax.pins bp.le) _ _ _ (dw _ _ (by simpa using hj)))) (qI rfl (zL (vs := [.agg #[vJ ((vs.getD (xs.getD 0 0).toNat default).1), vJ ((vs.getD (xs.getD 0 0).toNat default).2)], .agg #[vJ ((vs.getD (ys.getD 0 0).toNat default).1), vJ ((vs.getD (ys.getD 0 0).toNat default).2)]]) Tryz.func103 nm103 rfl rfl rfl ?_)))
 refine cD (gT ax.pins hpz hAz hBz hgL hgR) ?_
 rintro _ j2 ⟨j3, rfl, dy⟩
 refine rt9 ?_
 have dz := ax.tr dy
 refine qI rfl (zL (vs := [.agg #[vJ (btT pz uz), vJ (btP pz)]]) Tryz.func100 nm100 rfl rfl rfl ?_)
 refine cD (tH (t := btT pz uz) (z := btP pz) dz.pins) ?_
 rintro _ j4 ⟨j5, bq, d0⟩
 obtain ⟨a6, d1⟩ : ∃ x : Int, x = lowR (decP (GoodD (btT pz uz) (btP pz))) (btT pz uz) := ⟨_, rfl⟩
 rw [← d1] at bq
 obtain ⟨a7, d2⟩ : ∃ x : Int, x = lowR (decP (GoodD (btT pz uz) (btP pz))) (btP pz) := ⟨_, rfl⟩
 rw [← d2] at bq
 obtain ⟨cb, d3⟩ : ∃ x : Bool, x = decP (GoodD (btT pz uz) (btP pz)) := ⟨_, rfl⟩
 rw [← d3] at bq
 subst bq
 refine ⟨_, rfl, ?_⟩
 have d4 := dz.tr d0
 refine qD rfl (yM (v := .agg #[vJ a6, vJ a7]) rfl rfl) (qD rfl (yM (v := .bool cb) rfl rfl) (q0 rfl rfl rfl (o_stp (cs' := [vJ a6, vJ a7]) (us := [vJ a6, vJ a7]) (v := .agg #[vJ a6, vJ a7]) sz27 rfl rfl rfl (yQ (by rfl) (by rfl)) d4.pins ((dx.ext dy).ext d0) (cE rfl) rfl (fun j6 gr gs gt j7 => ?_))))
 refine qM (.bool cb) ?_
 refine qe (zA ?_)
 refine cP (zP (xF (cs := [vJ a6, vJ a7]) (v := .bool cb) rfl rfl rfl rfl rfl ag27 sz27 (fun j u hj => by rw [cS]; exact gr.cell hj) ?_))
 subst d3
 subst d2
 subst d1
 rw [hnd.2, an.1, an.2.1, an.2.2]
 exact ⟨_, rfl, (d4.write gs gt ((zS ab)))⟩
 replace ao := of_decide_eq_false ao
 refine w9d ?_
 refine qD rfl (yS [vJ 0, vJ 0] [vJ 0, vJ 0] [] dH zr27 rfl pl27 rfl (fun _ h => by cases h) rfl) (q0 rfl rfl rfl (o_stp (cs' := [vJ 0, vJ 0]) (us := [vJ 0, vJ 0]) (v := .agg #[vJ 0, vJ 0]) sz27 rfl rfl rfl (yQ (by rfl) (by rfl)) ax.pins dx (cE rfl) rfl (fun j8 gu gv gw j9 => ?_)))
 refine qM (.bool false) ?_
 refine qe (zA ?_)
 refine cP (zP (xF (cs := [vJ 0, vJ 0]) (v := .bool false) rfl rfl rfl rfl rfl ag27 sz27 (fun j u hj => by rw [cS]; exact gu.cell hj) ?_))
 have hvb : vgB (den ns k) = false := nd_ge hno ⟨by omega, by omega⟩ (Classical.byContradiction (fun g => ao (by rw [ad, ae, af, ag]; exact (pM hvbL hvbR).2 g)))
 obtain ⟨m, o⟩ := kY hvb
 rw [hvb, m, o]
 exact ⟨_, rfl, (ax.write gv gw ((zS ab)))⟩
 refine w9d ?_
 refine qD rfl (yS [vJ 0, vJ 0] [vJ 0, vJ 0] [] dH zr27 rfl pl27 rfl (fun _ h => by cases h) rfl) (q0 rfl rfl rfl (o_stp (cs' := [vJ 0, vJ 0]) (us := [vJ 0, vJ 0]) (v := .agg #[vJ 0, vJ 0]) sz27 rfl rfl rfl (yQ (by rfl) (by rfl)) a.pins aa (cE rfl) rfl (fun ka gx gy gz kb => ?_)))
 refine qM (.bool false) ?_
 refine qe (zA ?_)
 refine cP (zP (xF (cs := [vJ 0, vJ 0]) (v := .bool false) rfl rfl rfl rfl rfl ag27 sz27 (fun j u hj => by rw [cS]; exact gx.cell hj) ?_))
 have hvb : vgB (den ns k) = false := nd_nor hno (by omega) (by rw [← hbR]; exact bx)
 obtain ⟨m, o⟩ := kY hvb
 rw [hvb, m, o]
 exact ⟨_, rfl, (a.write gy gz ((zS ab)))⟩
 refine qW ?_
 refine qW ?_
 refine qW ?_
 refine qW ?_
 refine qW ?_
 refine qW ?_
 refine qW ?_
 refine qW ?_
 refine qN (zU (v := .bool false) rfl rfl) ?_
 refine qD rfl (zU (v := .bool false) rfl rfl) (qe (zA ?_))
 refine xT rfl rfl (cO (w9a ?_))
 refine qD rfl (yS [vJ 0, vJ 0] [vJ 1, vJ 0] [(0, (vJ 1), [vJ 1])] dH zr27 rfl pl27 rfl (cN.2 ⟨rfl, (fun _ h => by cases h)⟩) rfl) (qI rfl (yI [vJ 0, vJ 0] zr27 rfl a.pins (fun g0 kc g1 g2 g3 d5 => ?_)))
 have d6 := a.step g3 d5
 have d7 := zI (cgA some g1) aa.lt
 have d8 : w.heap.size ≤ g0 := by have := a.size; omega
 refine q0 rfl rfl rfl (o_stp (cs' := [vJ 1, vJ 0]) (us := [vJ 1, vJ 0]) (v := .agg #[vJ 1, vJ 0]) sz27 rfl rfl rfl (yQ (by rfl) (by rfl)) d6.pins g2 (cE rfl) rfl (fun cc g4 g5 d9 kd => ?_))
 obtain ⟨g6, ay, a8, g7, g8⟩ := g4.shut (d6.write g5 d9 ((zS d8))) d8
 refine qe (zA (zB ?_))
 refine zZ (w9d ?_)
 refine qD rfl (zH (k := 0) rfl dG rfl nz56 rfl) (qD rfl (zJ (u := xl) ag56 rfl ((cC a8.pins ay) _ _ _ (d 0 _ rfl))) (qD rfl (zM dE (v := xl) rfl hl) (qD rfl (zH (k := 1) rfl dG rfl nz56 rfl) (qD rfl (zJ (u := xr) ag56 rfl ((cC a8.pins ay) _ _ _ (d 1 _ rfl))) (qD rfl (zM dE (v := xr) rfl hr) (qD rfl (yH rfl rfl (by omega)) (qD rfl (xO rfl rfl) (qM (.bool (decide (((xs.length : Int) + (ys.length : Int) : Int) = 0))) ?_))))))))
 refine qe (zA ?_)
 refine yC (p := ((xs.length : Int) + (ys.length : Int) : Int) = 0) rfl rfl (fun g9 => ?_) (fun g9 => ?_)
 exfalso; omega
 refine w9d ?_
 refine qD rfl (zH (k := 1) rfl dG rfl nz56 rfl) (qD rfl (zJ (u := xr) ag56 rfl ((cC a8.pins ay) _ _ _ (d 1 _ rfl))) (qD rfl (zM dE (v := xr) rfl hr) (qD rfl (xO rfl rfl) (qM (.bool (decide (((ys.length : Int) : Int) = 0))) ?_))))
 refine qe (zA ?_)
 refine yC (p := ((ys.length : Int) : Int) = 0) rfl rfl (fun ha => ?_) (fun ha => ?_)
 refine zB ?_
 have hvbL : vgB (den ns (xs.getD 0 0).toNat) = true := by rw [← hbL]; exact bg
 have ad : (vs.getD (xs.getD 0 0).toNat default).1 = vgT (den ns (xs.getD 0 0).toNat) := by rw [hvL]
 have ae : (vs.getD (xs.getD 0 0).toNat default).2 = vgP (den ns (xs.getD 0 0).toNat) := by rw [hvL]
 have hgL : GoodD (vs.getD (xs.getD 0 0).toNat default).1 (vs.getD (xs.getD 0 0).toNat default).2 := by rw [ad, ae]; exact vW hvbL
 have hgLt := hgL.top
 have hgLp := hgL.pow
 have hnd := nd_l hno (by omega) (by omega) hvbL
 have ap := va_l (D := 24) hnd.1 hvbL
 refine yW (S := fun wz => Pins g6 wz) (last := 14) (by kernel_rfl) rfl ?_
 have cd := bdr cc
 have ah := a8.step (a8.pins.below cd) cd
 refine dM 0 v ah.pins ?_
 refine dT (i := 1) rfl rfl (by kernel_rfl) (fun _ _ => zH (k := 0) rfl dG rfl nz56 rfl) ah.pins ?_
 refine dT (i := 2) rfl rfl (by kernel_rfl) (fun _ hS => zJ (u := xl) ag56 rfl ((cC hS ay) _ _ _ (d 0 _ rfl))) ah.pins ?_
 refine dT (i := 3) rfl rfl (by kernel_rfl) (fun _ _ => zF dE sz3 (v := xl) rfl rfl hl (by omega) (by omega)) ah.pins ?_
 refine dT (i := 4) rfl rfl (by kernel_rfl) (fun _ hS => zG (r := xs.getD 0 0) rfl ag3 (z := 0) rfl hl (cC hS (cB q ay)) (by omega) (by omega)) ah.pins ?_
 refine dT (i := 5) rfl rfl (by kernel_rfl) (fun _ _ => zF dK sz27 (v := v) rfl rfl hv (by omega) (by omega)) ah.pins ?_
 obtain ⟨ke, hd, he, kf⟩ := vA (j := (xs.getD 0 0).toNat) default (hv.at (z := xs.getD 0 0) (by omega) (by omega)) rfl
 obtain rfl := hd
 refine dT (i := 6) rfl rfl (by kernel_rfl) (fun _ hS => he ag27 sz27 rfl (cC hS (cB q ay))) ah.pins ?_
 refine dT (i := 7) rfl rfl (by kernel_rfl) (fun _ hS => yA (cs := [vJ 1, vJ 0]) ag27 sz27 rfl (fun j u hj => hS _ _ _ (g7 _ _ (by simpa using hj)))) ah.pins ?_
 refine dP (i := 8) rfl rfl (zL (vs := [.agg #[vJ ((vs.getD (xs.getD 0 0).toNat default).1), vJ ((vs.getD (xs.getD 0 0).toNat default).2)], .agg #[vJ 1, vJ 0]]) Tryz.func101 nm101 rfl rfl rfl ?_)
 refine cD (sY (t := (vs.getD (xs.getD 0 0).toNat default).1) (z := (vs.getD (xs.getD 0 0).toNat default).2) (s := 1) (y := 0) ah.pins (by omega) (by omega) (by omega) (by omega)) ?_
 rintro _ kg ⟨kh, ce, ak⟩
 obtain ⟨az, ea⟩ : ∃ x : Int, x = (((lowD 24 (scI 24 ((vs.getD (xs.getD 0 0).toNat default).1) ((vs.getD (xs.getD 0 0).toNat default).2) + scI 24 1 0)).2 : Nat) : Int) := ⟨_, rfl⟩
 rw [← ea] at ce
 obtain ⟨a0, eb⟩ : ∃ x : Int, x = (lowD 24 (scI 24 ((vs.getD (xs.getD 0 0).toNat default).1) ((vs.getD (xs.getD 0 0).toNat default).2) + scI 24 1 0)).1 := ⟨_, rfl⟩
 rw [← eb] at ce
 subst ce
 refine ⟨_, rfl, ?_⟩
 have cf := ah.tr ak
 refine ⟨fun _ => (cC cf.pins ak.le), ?_⟩
 refine dP (i := 9) rfl rfl (zL (vs := [.agg #[vJ a0, vJ az]]) Tryz.func100 nm100 rfl rfl rfl ?_)
 refine cD (tH (t := a0) (z := az) cf.pins) ?_
 rintro _ ki ⟨kj, br, aq⟩
 obtain ⟨a9, ec⟩ : ∃ x : Int, x = lowR (decP (GoodD a0 az)) a0 := ⟨_, rfl⟩
 rw [← ec] at br
 obtain ⟨ba, ed⟩ : ∃ x : Int, x = lowR (decP (GoodD a0 az)) az := ⟨_, rfl⟩
 rw [← ed] at br
 obtain ⟨cg, ee⟩ : ∃ x : Bool, x = decP (GoodD a0 az) := ⟨_, rfl⟩
 rw [← ee] at br
 subst br
 refine ⟨_, rfl, ?_⟩
 have bc := cf.tr aq
 refine ⟨fun _ => (cC bc.pins (cB ak.le aq.le)), ?_⟩
 refine dT (i := 10) rfl rfl (by kernel_rfl) (fun _ _ => yM (v := .agg #[vJ a9, vJ ba]) rfl rfl) (cC bc.pins (cB ak.le aq.le)) ?_
 refine dT (i := 11) rfl rfl (by kernel_rfl) (fun _ _ => yM (v := .bool cg) rfl rfl) (cC bc.pins (cB ak.le aq.le)) ?_
 refine dO (i := 12) (xK (i := 12) rfl rfl rfl (zR rfl _) (o_stp (cs' := [vJ a9, vJ ba]) (us := [vJ a9, vJ ba]) (v := .agg #[vJ a9, vJ ba]) sz27 rfl rfl rfl (yQ (by rfl) (by rfl)) bc.pins ((((((aa.below d5).keptA d9 d7.symm).moreA g8 d7.symm).below cd).ext ak).ext aq) (cE rfl) rfl (fun kk hg hh hi kl => ?_)))
 have ch := bc.write hh hi ((zS ab))
 refine ⟨fun _ => (cC ch.pins (cB ak.le aq.le)), ?_⟩
 refine dM 13 (.bool cg) (cC ch.pins (cB ak.le aq.le)) ?_
 refine yL (by kernel_rfl) (zA (cP (zP (xF (cs := [vJ a9, vJ ba]) (v := .bool cg) rfl rfl rfl rfl rfl ag27 sz27 (fun j u hj => by rw [cS]; exact hg.cell hj) ?_))))
 subst ee
 subst ed
 subst ec
 subst ea
 subst eb
 rw [hnd.2, ap.t, ap.p, ap.b, ← ad, ← ae]
 exact ⟨_, rfl, ch⟩
 exfalso; omega
 refine qW ?_
 refine qW ?_
 refine qW ?_
 refine qW ?_
 refine qW ?_
 refine qX ?_
 refine qX ?_
 refine qX ?_
 refine qX ?_
 refine qX ?_
 refine qX ?_
 refine qX ?_
 refine qX ?_
 refine qW ?_
 refine qD rfl (yB (v := .bool true) rfl rfl) (qe (zA ?_))
 refine qK rfl rfl (w9d ?_)
 refine qD rfl (yS [vJ 0, vJ 0] [vJ 0, vJ 0] [] dH zr27 rfl pl27 rfl (fun _ h => by cases h) rfl) (q0 rfl rfl rfl (o_stp (cs' := [vJ 0, vJ 0]) (us := [vJ 0, vJ 0]) (v := .agg #[vJ 0, vJ 0]) sz27 rfl rfl rfl (yQ (by rfl) (by rfl)) a.pins aa (cE rfl) rfl (fun km hm hn ho kn => ?_)))
 refine qM (.bool false) ?_
 refine qe (zA ?_)
 refine cP (zP (xF (cs := [vJ 0, vJ 0]) (v := .bool false) rfl rfl rfl rfl rfl ag27 sz27 (fun j u hj => by rw [cS]; exact hm.cell hj) ?_))
 have hvb : vgB (den ns k) = false := nd_nol hno (by omega) (by rw [← hbL]; exact bg)
 obtain ⟨m, o⟩ := kY hvb
 rw [hvb, m, o]
 exact ⟨_, rfl, (a.write hn ho ((zS ab)))⟩
 refine qW ?_
 refine qW ?_
 refine qW ?_
 refine qW ?_
 refine qW ?_
 refine qW ?_
 refine qW ?_
 refine qW ?_
 refine qN (zU (v := .bool false) rfl rfl) ?_
 refine qD rfl (zU (v := .bool false) rfl rfl) (qM (.bool false) ?_)
 refine qN (zH (k := 1) rfl dG rfl nz56 rfl) ?_
 refine qN (zJ (u := xr) ag56 rfl (a.pins _ _ _ (d 1 _ rfl))) ?_
 refine qN (zM dE (v := xr) rfl hr) ?_
 refine qN (xO rfl rfl) ?_
 refine qN (zN (v := .bool (decide (((ys.length : Int) : Int) = 1))) rfl) ?_
 refine qbd (p := ((ys.length : Int) : Int) = 1) (t := 42) rfl (fun hp => ?_) (fun hp => ?_)
 have fg := hir (by omega)
 have hvR := hvs.v (ys.getD 0 0).toNat (by omega)
 have hbR := hvs.b (ys.getD 0 0).toNat (by omega)
 refine qN (zN (v := bb) rfl) ?_
 refine qN (zH (k := 1) rfl dG rfl nz56 rfl) ?_
 refine qN (zJ (u := xr) ag56 rfl (a.pins _ _ _ (d 1 _ rfl))) ?_
 refine qN (zF dE sz3 (v := xr) rfl rfl hr (by omega) (by omega)) ?_
 refine qN (zG (r := ys.getD 0 0) rfl ag3 (z := 0) rfl hr (cC a.pins q) (by omega) (by omega)) ?_
 refine qN (zF dI sz4 (v := bb) rfl rfl hb (by omega) (by omega)) ?_
 refine qN (xQ (r := bs.getD (ys.getD 0 0).toNat false) rfl ag4 (z := ys.getD 0 0) rfl hb (cC a.pins q) (by omega) (by omega)) ?_
 refine qN (xD rfl) ?_
 refine qN (yB (v := .bool (!(bs.getD (ys.getD 0 0).toNat false))) rfl rfl) ?_
 refine qD rfl (zU (v := .bool (!(bs.getD (ys.getD 0 0).toNat false))) rfl rfl) (qe (zA ?_))
 refine xU rfl rfl (fun ci => ?_) (fun ci => ?_)
 refine cO (w9a ?_)
 refine qD rfl (yS [vJ 0, vJ 0] [vJ 1, vJ 0] [(0, (vJ 1), [vJ 1])] dH zr27 rfl pl27 rfl (cN.2 ⟨rfl, (fun _ h => by cases h)⟩) rfl) (qI rfl (yI [vJ 0, vJ 0] zr27 rfl a.pins (fun hq ko hs ht hu ef => ?_)))
 have eg := a.step hu ef
 have eh := zI (cgA some hs) aa.lt
 have ei : w.heap.size ≤ hq := by have := a.size; omega
 refine q0 rfl rfl rfl (o_stp (cs' := [vJ 1, vJ 0]) (us := [vJ 1, vJ 0]) (v := .agg #[vJ 1, vJ 0]) sz27 rfl rfl rfl (yQ (by rfl) (by rfl)) eg.pins ht (cE rfl) rfl (fun cj hw hx ej kp => ?_))
 obtain ⟨hy, ar, a1, hz, h0⟩ := hw.shut (eg.write hx ej ((zS ei))) ei
 refine qe (zA (zB ?_))
 refine zZ (w9d ?_)
 refine qD rfl (zH (k := 0) rfl dG rfl nz56 rfl) (qD rfl (zJ (u := xl) ag56 rfl ((cC a1.pins ar) _ _ _ (d 0 _ rfl))) (qD rfl (zM dE (v := xl) rfl hl) (qD rfl (zH (k := 1) rfl dG rfl nz56 rfl) (qD rfl (zJ (u := xr) ag56 rfl ((cC a1.pins ar) _ _ _ (d 1 _ rfl))) (qD rfl (zM dE (v := xr) rfl hr) (qD rfl (yH rfl rfl (by omega)) (qD rfl (xO rfl rfl) (qM (.bool (decide (((xs.length : Int) + (ys.length : Int) : Int) = 0))) ?_))))))))
 refine qe (zA ?_)
 refine yC (p := ((xs.length : Int) + (ys.length : Int) : Int) = 0) rfl rfl (fun h1 => ?_) (fun h1 => ?_)
 exfalso; omega
 refine w9d ?_
 refine qD rfl (zH (k := 1) rfl dG rfl nz56 rfl) (qD rfl (zJ (u := xr) ag56 rfl ((cC a1.pins ar) _ _ _ (d 1 _ rfl))) (qD rfl (zM dE (v := xr) rfl hr) (qD rfl (xO rfl rfl) (qM (.bool (decide (((ys.length : Int) : Int) = 0))) ?_))))
 refine qe (zA ?_)
 refine yC (p := ((ys.length : Int) : Int) = 0) rfl rfl (fun h2 => ?_) (fun h2 => ?_)
 exfalso; omega
 refine w9d ?_
 refine qD rfl (zH (k := 0) rfl dG rfl nz56 rfl) (qD rfl (zJ (u := xl) ag56 rfl ((cC a1.pins ar) _ _ _ (d 0 _ rfl))) (qD rfl (zM dE (v := xl) rfl hl) (qD rfl (xO rfl rfl) (qM (.bool (decide (((xs.length : Int) : Int) = 0))) ?_))))
 refine qe (zA ?_)
 refine yC (p := ((xs.length : Int) : Int) = 0) rfl rfl (fun h3 => ?_) (fun h3 => ?_)
 refine zB ?_
 have hvbR : vgB (den ns (ys.getD 0 0).toNat) = true := by rw [← hbR]; exact ci
 have af : (vs.getD (ys.getD 0 0).toNat default).1 = vgT (den ns (ys.getD 0 0).toNat) := by rw [hvR]
 have ag : (vs.getD (ys.getD 0 0).toNat default).2 = vgP (den ns (ys.getD 0 0).toNat) := by rw [hvR]
 have hgR : GoodD (vs.getD (ys.getD 0 0).toNat default).1 (vs.getD (ys.getD 0 0).toNat default).2 := by rw [af, ag]; exact vW hvbR
 have hgRt := hgR.top
 have hgRp := hgR.pow
 have hnd := nd_r hno (by omega) (by omega) hvbR
 have ap := va_r (D := 24) hnd.1 hvbR
 refine yW (S := fun wz => Pins hy wz) (last := 15) (by kernel_rfl) rfl ?_
 have ck := bdr cj
 have ai := a1.step (a1.pins.below ck) ck
 refine dM 0 v ai.pins ?_
 refine dT (i := 1) rfl rfl (by kernel_rfl) (fun _ _ => zH (k := 1) rfl dG rfl nz56 rfl) ai.pins ?_
 refine dT (i := 2) rfl rfl (by kernel_rfl) (fun _ hS => zJ (u := xr) ag56 rfl ((cC hS ar) _ _ _ (d 1 _ rfl))) ai.pins ?_
 refine dT (i := 3) rfl rfl (by kernel_rfl) (fun _ _ => zF dE sz3 (v := xr) rfl rfl hr (by omega) (by omega)) ai.pins ?_
 refine dT (i := 4) rfl rfl (by kernel_rfl) (fun _ hS => zG (r := ys.getD 0 0) rfl ag3 (z := 0) rfl hr (cC hS (cB q ar)) (by omega) (by omega)) ai.pins ?_
 refine dT (i := 5) rfl rfl (by kernel_rfl) (fun _ _ => zF dK sz27 (v := v) rfl rfl hv (by omega) (by omega)) ai.pins ?_
 obtain ⟨kq, h4, h5, kr⟩ := vA (j := (ys.getD 0 0).toNat) default (hv.at (z := ys.getD 0 0) (by omega) (by omega)) rfl
 obtain rfl := h4
 refine dT (i := 6) rfl rfl (by kernel_rfl) (fun _ hS => h5 ag27 sz27 rfl (cC hS (cB q ar))) ai.pins ?_
 refine dT (i := 7) rfl rfl (by kernel_rfl) (fun _ hS => yA (cs := [vJ 1, vJ 0]) ag27 sz27 rfl (fun j u hj => hS _ _ _ (hz _ _ (by simpa using hj)))) ai.pins ?_
 refine dP (i := 8) rfl rfl (zL (vs := [.agg #[vJ 1, vJ 0]]) Tryz.func102 sU rfl rfl rfl ?_)
 refine cD (jP (t := 1) (z := 0) ai.pins (by omega)) ?_
 rintro _ ks ⟨kt, rfl, aj⟩
 refine rt9 ?_
 have cl := ai.tr aj
 refine ⟨fun _ => (cC cl.pins aj.le), ?_⟩
 refine dP (i := 9) rfl rfl (zL (vs := [.agg #[vJ ((vs.getD (ys.getD 0 0).toNat default).1), vJ ((vs.getD (ys.getD 0 0).toNat default).2)], .agg #[vJ (-1), vJ 0]]) Tryz.func101 nm101 rfl rfl rfl ?_)
 refine cD (sY (t := (vs.getD (ys.getD 0 0).toNat default).1) (z := (vs.getD (ys.getD 0 0).toNat default).2) (s := -1) (y := 0) cl.pins (by omega) (by omega) (by omega) (by omega)) ?_
 rintro _ ku ⟨kv, cm, al⟩
 obtain ⟨a2, ek⟩ : ∃ x : Int, x = (((lowD 24 (scI 24 ((vs.getD (ys.getD 0 0).toNat default).1) ((vs.getD (ys.getD 0 0).toNat default).2) + scI 24 (-1) 0)).2 : Nat) : Int) := ⟨_, rfl⟩
 rw [← ek] at cm
 obtain ⟨a3, el⟩ : ∃ x : Int, x = (lowD 24 (scI 24 ((vs.getD (ys.getD 0 0).toNat default).1) ((vs.getD (ys.getD 0 0).toNat default).2) + scI 24 (-1) 0)).1 := ⟨_, rfl⟩
 rw [← el] at cm
 subst cm
 refine ⟨_, rfl, ?_⟩
 have cn := cl.tr al
 refine ⟨fun _ => (cC cn.pins (cB aj.le al.le)), ?_⟩
 refine dP (i := 10) rfl rfl (zL (vs := [.agg #[vJ a3, vJ a2]]) Tryz.func100 nm100 rfl rfl rfl ?_)
 refine cD (tH (t := a3) (z := a2) cn.pins) ?_
 rintro _ kw ⟨kx, bt, au⟩
 obtain ⟨bd, em⟩ : ∃ x : Int, x = lowR (decP (GoodD a3 a2)) a3 := ⟨_, rfl⟩
 rw [← em] at bt
 obtain ⟨be, en⟩ : ∃ x : Int, x = lowR (decP (GoodD a3 a2)) a2 := ⟨_, rfl⟩
 rw [← en] at bt
 obtain ⟨co, eo⟩ : ∃ x : Bool, x = decP (GoodD a3 a2) := ⟨_, rfl⟩
 rw [← eo] at bt
 subst bt
 refine ⟨_, rfl, ?_⟩
 have bf := cn.tr au
 refine ⟨fun _ => (cC bf.pins (cB (cB aj.le al.le) au.le)), ?_⟩
 refine dT (i := 11) rfl rfl (by kernel_rfl) (fun _ _ => yM (v := .agg #[vJ bd, vJ be]) rfl rfl) (cC bf.pins (cB (cB aj.le al.le) au.le)) ?_
 refine dT (i := 12) rfl rfl (by kernel_rfl) (fun _ _ => yM (v := .bool co) rfl rfl) (cC bf.pins (cB (cB aj.le al.le) au.le)) ?_
 refine dO (i := 13) (xK (i := 13) rfl rfl rfl (zR rfl _) (o_stp (cs' := [vJ bd, vJ be]) (us := [vJ bd, vJ be]) (v := .agg #[vJ bd, vJ be]) sz27 rfl rfl rfl (yQ (by rfl) (by rfl)) bf.pins (((((((aa.below ef).keptA ej eh.symm).moreA h0 eh.symm).below ck).ext aj).ext al).ext au) (cE rfl) rfl (fun ky h6 h7 h8 kz => ?_)))
 have cp := bf.write h7 h8 ((zS ab))
 refine ⟨fun _ => (cC cp.pins (cB (cB aj.le al.le) au.le)), ?_⟩
 refine dM 14 (.bool co) (cC cp.pins (cB (cB aj.le al.le) au.le)) ?_
 refine yL (by kernel_rfl) (zA (cP (zP (xF (cs := [vJ bd, vJ be]) (v := .bool co) rfl rfl rfl rfl rfl ag27 sz27 (fun j u hj => by rw [cS]; exact h6.cell hj) ?_))))
 subst eo
 subst en
 subst em
 subst ek
 subst el
 rw [hnd.2, ap.t, ap.p, ap.b, ← af, ← ag]
 exact ⟨_, rfl, cp⟩
 exfalso; omega
 refine w9d ?_
 refine qD rfl (yS [vJ 0, vJ 0] [vJ 0, vJ 0] [] dH zr27 rfl pl27 rfl (fun _ h => by cases h) rfl) (q0 rfl rfl rfl (o_stp (cs' := [vJ 0, vJ 0]) (us := [vJ 0, vJ 0]) (v := .agg #[vJ 0, vJ 0]) sz27 rfl rfl rfl (yQ (by rfl) (by rfl)) a.pins aa (cE rfl) rfl (fun k0 h9 ia ib k1 => ?_)))
 refine qM (.bool false) ?_
 refine qe (zA ?_)
 refine cP (zP (xF (cs := [vJ 0, vJ 0]) (v := .bool false) rfl rfl rfl rfl rfl ag27 sz27 (fun j u hj => by rw [cS]; exact h9.cell hj) ?_))
 have hvb : vgB (den ns k) = false := nd_nor hno (by omega) (by rw [← hbR]; exact ci)
 obtain ⟨m, o⟩ := kY hvb
 rw [hvb, m, o]
 exact ⟨_, rfl, (a.write ia ib ((zS ab)))⟩
 refine qW ?_
 refine qW ?_
 refine qW ?_
 refine qW ?_
 refine qW ?_
 refine qW ?_
 refine qW ?_
 refine qW ?_
 refine qN (zU (v := .bool false) rfl rfl) ?_
 refine qD rfl (zU (v := .bool false) rfl rfl) (qe (zA ?_))
 refine xT rfl rfl (cO (w9a ?_))
 refine qD rfl (yS [vJ 0, vJ 0] [vJ 1, vJ 0] [(0, (vJ 1), [vJ 1])] dH zr27 rfl pl27 rfl (cN.2 ⟨rfl, (fun _ h => by cases h)⟩) rfl) (qI rfl (yI [vJ 0, vJ 0] zr27 rfl a.pins (fun ic k2 ie ig ih ep => ?_)))
 have eq := a.step ih ep
 have er := zI (cgA some ie) aa.lt
 have es : w.heap.size ≤ ic := by have := a.size; omega
 refine q0 rfl rfl rfl (o_stp (cs' := [vJ 1, vJ 0]) (us := [vJ 1, vJ 0]) (v := .agg #[vJ 1, vJ 0]) sz27 rfl rfl rfl (yQ (by rfl) (by rfl)) eq.pins ig (cE rfl) rfl (fun k3 ii ij et k4 => ?_))
 obtain ⟨k5, eu, bu, k6, ik⟩ := ii.shut (eq.write ij et ((zS es))) es
 refine qe (zA (zB ?_))
 refine zZ (w9d ?_)
 refine qD rfl (zH (k := 0) rfl dG rfl nz56 rfl) (qD rfl (zJ (u := xl) ag56 rfl ((cC bu.pins eu) _ _ _ (d 0 _ rfl))) (qD rfl (zM dE (v := xl) rfl hl) (qD rfl (zH (k := 1) rfl dG rfl nz56 rfl) (qD rfl (zJ (u := xr) ag56 rfl ((cC bu.pins eu) _ _ _ (d 1 _ rfl))) (qD rfl (zM dE (v := xr) rfl hr) (qD rfl (yH rfl rfl (by omega)) (qD rfl (xO rfl rfl) (qM (.bool (decide (((xs.length : Int) + (ys.length : Int) : Int) = 0))) ?_))))))))
 refine qe (zA ?_)
 refine yC (p := ((xs.length : Int) + (ys.length : Int) : Int) = 0) rfl rfl (fun il => ?_) (fun il => ?_)
 refine w9d ?_
 refine qD rfl (yS [vJ 0, vJ 0] [vJ 0, vJ 0] [] dH zr27 rfl pl27 rfl (fun _ h => by cases h) rfl) (q0 rfl rfl rfl (o_stp (cs' := [vJ 0, vJ 0]) (us := [vJ 0, vJ 0]) (v := .agg #[vJ 0, vJ 0]) sz27 rfl rfl rfl (yQ (by rfl) (by rfl)) bu.pins (((aa.below ep).keptA et er.symm).moreA ik er.symm) (cE rfl) rfl (fun k7 im io ip k8 => ?_)))
 refine qM (.bool true) ?_
 refine qe (zA ?_)
 refine cP (zP (xF (cs := [vJ 0, vJ 0]) (v := .bool true) rfl rfl rfl rfl rfl ag27 sz27 (fun j u hj => by rw [cS]; exact im.cell hj) ?_))
 obtain ⟨e3, m, o⟩ := nd_nn hno (by omega) (by omega)
 rw [m, o, e3]
 exact ⟨_, rfl, (bu.write io ip ((zS ab)))⟩
 exfalso; omega
end VB3
namespace VB4
open B1 C1 D1 E1 K1 PO1 PL1 NU1 NU2 NU3 NB4 VB1 VB2 VB3
variable {G : Pin} {v : Value} {ns : List Nd}
theorem l7NodeO_spec {w : World} {xl xr bb : Value} {c k ba bc e1 e2 : Nat} {vs : List (Int × Int)} {bs : List Bool} (hP : Pins G w) (hl : RSl eInt G xl (ns.getD k default).l) (hr : RSl eInt G xr (ns.getD k default).r) (hv : Own eP2 e1 G w ba v vs) (hb : Own eBool e2 G w bc bb bs) (hf : IsForm c ns) (hc : CanonG c) (hk : k < ns.length) (hvs : VsOk ns vs bs k) :
  Calls Tryz.prog 83 [.agg #[xl, xr], v, bb].toArray w fun e w' => ∃ G', e = .returned (.tuple #[.agg #[.int .i64 (vgT (den ns k)), .int .i64 (vgP (den ns k))], .bool (vgB (den ns k))]) ∧ Ext noS G w G' w' := by
 have g := cM hP v
 have i := cM hP bb
 have j : ∃ a, Pin.le (Gadd G w v) a ∧ Pin.le (Gadd G w bb) a ∧ Pins a w := ⟨fun b o x => Gadd G w v b o x ∨ Gadd G w bb b o x, fun _ _ _ h => cF h, fun _ _ _ h => cG h, fun b o x h => h.elim (g b o x) (i b o x)⟩
 obtain ⟨a, d, m, n⟩ := j
 have f := cB (Gadd.le G w v) d
 refine (l7Node_spec n (hl.mono f) (hr.mono f) rfl rfl (hv.read.mono d) (hb.read.mono m) hf hc hk hvs).mono ?_
 rintro e w' ⟨G', rfl, hx⟩
 exact ⟨G, rfl, vH hP hx⟩
theorem l7Of_spec {w : World} {c : Nat} (hP : Pins G w) (hv : RSl eNode G v ns) (hf : IsForm c ns) (hc : CanonG c) :
  Calls Tryz.prog 56 [.agg #[v]].toArray w fun e w' => ∃ G', e = .returned (.tuple #[.agg #[.int .i64 (vgT c), .int .i64 (vgP c)], .bool (vgB c)]) ∧ Ext noS G w G' w' := by
 refine zY (n := 49) Tryz.func56 Tryz.ntmps56 rfl rfl ?_
 have ae := exr noS hP
 have hnl := hf.1.wf.ok.len
 have hlo := hf.1.lo
 refine w9d ?_
 refine qI rfl (xH [v] (v := .agg #[v]) rfl rfl ae.pins (fun b1 w2 dh cb cc cd => ?_))
 have ce : w.heap.size ≤ b1 := by have := ae.size; omega
 obtain ⟨t, af, ag, a6, di⟩ := cb.shut (ae.step cc cd) ce
 refine qI rfl (yI [vJ 0, vJ 0] zr27 rfl ag.pins (fun m dj dk a7 cf cg => ?_))
 have ah := ag.step cf cg
 have ch : w.heap.size ≤ m := by have := ag.size; omega
 refine qM (.bool false) ?_
 refine qe (w9a ?_)
 refine qI rfl (xE (E := eP2) (e := 27) dK sz27 ah.pins (fun ai ci cj ck a8 cl => ?_))
 have aj := ah.step ck a8
 have a9 := a7.below a8
 have ba := cj.weaken ah.size
 refine qI rfl (xE (E := eBool) (e := 4) dI sz4 aj.pins (fun ak cm cn co al bb => ?_))
 have cp := cn.weaken aj.size
 refine qM ai ?_
 refine qM ak ?_
 refine qe (zA (w9b ?_))
 refine qM (vJ 0) ?_
 refine qe (zA ?_)
 refine zZ (yR (fun k en W => ∃ (bc : Nat → Value) (a : Nat) (vv : Value) (vs : List (Int × Int)) (bv : Value) (bs : List Bool) (h : Pin), en = (upd (upd (upd (upd (upd (upd bc 1 (vP b1)) 2 (vP m)) 3 (.bool false)) 4 vv) 5 bv) 6 (vJ (a : Int))) ∧ k = ns.length - a ∧ Ext noS G w h W ∧ Pin.le t h ∧ (a ≤ ns.length) ∧ (VsOk ns vs bs a) ∧ (Own eP2 27 h W w.heap.size vv (vs)) ∧ (Own eBool 4 h W w.heap.size bv (bs)) ∧ (Bx h W m [vJ 0, vJ 0]) ∧ (Apart vv.ownBlock bv.ownBlock) ∧ (Apart vv.ownBlock (some m)) ∧ (Apart bv.ownBlock (some m))) _ ⟨_, 0, ai, [], ak, [], t, (pS 6 (pS 5 (pS 4 (pS 3 (pS 2 (pU 1)))))), rfl, (aj.step co al), cJ _, cI _, VsOk.start, (ba.below al), cp, (a9.below al), (zE bb ba.lt).symm, (zI cl a7.lt), (zI bb a9.lt)⟩ ?_)
 rintro dl _ o ⟨bc, a, vv, vs, bv, bs, h, rfl, dm, g, l, dn, hvs, x, am, bd, be, an, ao⟩
 have hvl := hvs.vl
 have hbl := hvs.bl
 refine w9b ?_
 refine qM (vJ (a : Int)) ?_
 refine qD rfl (zH (k := 0) rfl dJ rfl nz30 rfl) (qD rfl (zJ (u := v) ag30 rfl ((cC g.pins l) _ _ _ (a6 0 _ rfl))) (qD rfl (zM dF (v := v) rfl hv) (qD rfl (yU rfl rfl) (qe (zA ?_)))))
 refine yC (p := ((a : Int) : Int) < (ns.length : Int)) rfl rfl (fun cq => ?_) (fun cq => ?_)
 refine cO (zA (zB ?_))
 refine zZ (w9d ?_)
 refine qD rfl (zH (k := 0) rfl dJ rfl nz30 rfl) (qD rfl (zJ (u := v) ag30 rfl ((cC g.pins l) _ _ _ (a6 0 _ rfl))) (qM (vJ (a : Int)) ?_))
 refine qD rfl (zF dF sz65 (v := v) rfl rfl hv (by omega) (by omega)) ?_
 obtain ⟨cr, ct, bf, bg, cu⟩ := jD (hv.at (z := (a : Int)) (by omega) (by omega)) (j := a) rfl
 have dp := bf.max
 have dq := bg.max
 refine qD rfl (cu ag65 sz65 rfl (cC g.pins (cB af l))) (qM vv ?_)
 refine qM bv ?_
 refine qI rfl (zL (vs := [.agg #[cr, ct], vv, bv]) Tryz.func83 nm83 rfl rfl rfl ?_)
 refine cD (l7NodeO_spec (k := a) g.pins (bf.mono (cB af l)) (bg.mono (cB af l)) x am hf hc (by omega) hvs) ?_
 rintro _ dr ⟨ds, rfl, q⟩
 refine rt9 ?_
 have ap := g.tr q
 have bh := x.ext q
 have bi := am.ext q
 have bj := bd.ext q
 refine qM (.tuple #[.agg #[vJ (vgT (den ns a)), vJ (vgP (den ns a))], .bool (vgB (den ns a))]) ?_
 refine qD rfl (yM (v := .agg #[vJ (vgT (den ns a)), vJ (vgP (den ns a))]) rfl rfl) (qD rfl (yM (v := .bool (vgB (den ns a))) rfl rfl) (qI rfl (yI [vJ 0, vJ 0] zr27 rfl ap.pins (fun cv dt aq cw cx y => ?_))))
 have bk := ap.step cx y
 have bm := zE (cgA some aq) bh.lt
 have bn := zE (cgA some aq) bi.lt
 have bo := zI (cgA some aq) bj.lt
 have bp : w.heap.size ≤ cv := by have := ap.size; omega
 refine q0 rfl rfl rfl (o_stp (cs' := [vJ (vgT (den ns a)), vJ (vgP (den ns a))]) (us := [vJ (vgT (den ns a)), vJ (vgP (den ns a))]) (v := .agg #[vJ (vgT (den ns a)), vJ (vgP (den ns a))]) sz27 rfl rfl rfl (yQ (by rfl) (by rfl)) bk.pins cw (cE rfl) rfl (fun du cy cz aa dv => ?_))
 obtain ⟨ar, au, ab, c0, av⟩ := cy.shut (bk.write cz aa ((zS bp))) bp
 refine qM (.bool (vgB (den ns a))) ?_
 refine qe (w9a ?_)
 refine qM vv ?_
 refine qD rfl (yA (cs := [vJ (vgT (den ns a)), vJ (vgP (den ns a))]) ag27 sz27 rfl (fun j u hj => ab.pins _ _ _ (c0 _ _ (by simpa using hj)))) (qI rfl (qP (E := eP2) (e := 27) [vJ (vgT (den ns a)), vJ (vgP (den ns a))] (vgT (den ns a), vgP (den ns a)) dK sz27 zr27 rfl rfl (by decide) ab.pins (fun bq c1 c2 c3 ac dw => ?_)))
 have aw := ab.step c3 ac
 have br := (((bh.below y).keptA aa bm.symm).moreA au av bm.symm).below ac
 have bt := (((bi.below y).keptA aa bn.symm).moreA au av bn.symm).below ac
 have bu := (((bj.below y).keptA aa bo.symm).moreA av bo.symm).below ac
 have c4 := c2.weaken ab.size
 refine qI rfl (oA (E := eP2) (v := vv) (u := bq) 16 dK ap27 (by decide) rfl rfl aw.pins br c4.src (aw.size) (fun bw dx c5 c6 ax bx => ?_))
 have ay := aw.write c6 ax ((yD br))
 have bz := zD be.symm bx bt.lt
 have dy := la1 vs (vgT (den ns a), vgP (den ns a))
 refine qM bw ?_
 refine qe (zA (zC ?_))
 refine qM bv ?_
 refine qM (.bool (vgB (den ns a))) ?_
 refine qI rfl (yV (E := eBool) (e := 4) [.bool (vgB (den ns a))] [vgB (den ns a)] dI sz4 zr4 (by exact xP (by rfl)) (yZ (by rfl)) rfl rfl rfl rfl (by decide) ay.pins (fun b0 c7 c8 c9 ad dz => ?_))
 have az := ay.step c9 ad
 have b2 := (bt.keptA ax be.symm).below ad
 have b3 := c5.below ad
 have b4 := (bu.keptA ax an.symm).below ad
 have da := c8.weaken ay.size
 refine qI rfl (oA (E := eBool) (v := bv) (u := b0) 1 dI ap4 (by decide) rfl rfl az.pins b2 da.src (az.size) (fun b5 d0 db dc a0 b6 => ?_))
 have d1 := la1 bs (vgB (den ns a))
 refine qM b5 ?_
 refine qe (w9c ?_)
 refine qM (vJ (a : Int)) ?_
 refine qD rfl (yH rfl rfl (by omega)) (qM (vJ ((a : Int) + 1)) ?_)
 refine qe (zV (⟨_, ?_, _, rfl, _, a + 1, bw, vs ++ ([(vgT (den ns a), vgP (den ns a))]), b5, bs ++ ([vgB (den ns a)]), ar, (pS 6 (pS 5 (pS 4 (pS 3 (pS 2 (pU 1)))))), rfl, (az.write dc a0 ((yD b2))), (cB (cB l q.le) au), (by omega), hvs.next, (b3.keptA a0 bz.symm), db, (b4.keptA a0 ao.symm), (zD bz.symm b6 b3.lt), (zK an.symm bx bu.lt).symm, (zK ao.symm b6 b4.lt).symm⟩))
 omega
 refine cQ (zX (yO (yK (zA (zB ?_)))))
 have hkn : a = ns.length := by omega
 have hva := hvs.v (a - 1) (by omega)
 have hba := hvs.b (a - 1) (by omega)
 have hcg : den ns (a - 1) = c := by rw [hkn]; exact hf.2
 rw [hcg] at hva hba
 have hti : ((vs.length : Int) - 1).toNat = a - 1 := by omega
 have htb : ((bs.length : Int) - 1).toNat = a - 1 := by omega
 have b7 := x.read
 have a1 := am.read
 refine yW (S := fun wz => Pins (Gadd h o vv) wz ∧ Pins (Gadd h o bv) wz) (last := 14) (by kernel_rfl) rfl ?_
 have s := bdr o
 have b8 := g.step (g.pins.below s) s
 have d := (cM g.pins vv).below s
 have f := (cM g.pins bv).below s
 refine dT (i := 0) rfl rfl (by kernel_rfl) (fun _ _ => zN (v := vv) rfl) ⟨d, f⟩ ?_
 refine dT (i := 1) rfl rfl (by kernel_rfl) (fun _ _ => zN (v := vv) rfl) ⟨d, f⟩ ?_
 refine dT (i := 2) rfl rfl (by kernel_rfl) (fun _ _ => zM dK (v := vv) rfl b7) ⟨d, f⟩ ?_
 refine dT (i := 3) rfl rfl (by kernel_rfl) (fun _ _ => xY rfl rfl (by omega)) ⟨d, f⟩ ?_
 refine dT (i := 4) rfl rfl (by kernel_rfl) (fun _ _ => zF dK sz27 (v := vv) rfl rfl b7 (by omega) (by omega)) ⟨d, f⟩ ?_
 obtain ⟨d2, dd, de, d3⟩ := vA (j := ((vs.length : Int) - 1).toNat) default (x.at (z := (vs.length : Int) - 1) (by omega) (by omega)) rfl
 obtain rfl := dd
 refine dT (i := 5) rfl rfl (by kernel_rfl) (fun _ hS => de ag27 sz27 rfl hS.1) ⟨d, f⟩ ?_
 refine dT (i := 6) rfl rfl (by kernel_rfl) (fun _ _ => zN (v := bv) rfl) ⟨d, f⟩ ?_
 refine dT (i := 7) rfl rfl (by kernel_rfl) (fun _ _ => zN (v := bv) rfl) ⟨d, f⟩ ?_
 refine dT (i := 8) rfl rfl (by kernel_rfl) (fun _ _ => zM dI (v := bv) rfl a1) ⟨d, f⟩ ?_
 refine dT (i := 9) rfl rfl (by kernel_rfl) (fun _ _ => xY rfl rfl (by omega)) ⟨d, f⟩ ?_
 refine dT (i := 10) rfl rfl (by kernel_rfl) (fun _ _ => zF dI sz4 (v := bv) rfl rfl a1 (by omega) (by omega)) ⟨d, f⟩ ?_
 refine dT (i := 11) rfl rfl (by kernel_rfl) (fun _ hS => xQ (r := bs.getD ((bs.length : Int) - 1).toNat false) rfl ag4 (z := (bs.length : Int) - 1) rfl a1 hS.2 (by omega) (by omega)) ⟨d, f⟩ ?_
 refine dO (i := 12) (xK (i := 12) rfl rfl rfl (zR rfl _) (o_stp (cs' := [vJ ((vs.getD ((vs.length : Int) - 1).toNat default).1), vJ ((vs.getD ((vs.length : Int) - 1).toNat default).2)]) (us := [vJ ((vs.getD ((vs.length : Int) - 1).toNat default).1), vJ ((vs.getD ((vs.length : Int) - 1).toNat default).2)]) (v := .agg #[vJ ((vs.getD ((vs.length : Int) - 1).toNat default).1), vJ ((vs.getD ((vs.length : Int) - 1).toNat default).2)]) sz27 rfl rfl rfl (yQ (by rfl) (by rfl)) b8.pins (bd.below s) (cE rfl) rfl (fun d4 df a2 a3 d5 => ?_)))
 have a4 := b8.write a2 a3 ((zS ch))
 have b9 := Gadd.turn d (cC a4.pins (cJ _)) (Ext.one a2 a3) (notO an)
 have ca := Gadd.turn f (cC a4.pins (cJ _)) (Ext.one a2 a3) (notO ao)
 refine ⟨fun _ => ⟨b9, ca⟩, ?_⟩
 refine dT (i := 13) rfl rfl (by kernel_rfl) (fun _ _ => qF (v := .bool (bs.getD ((bs.length : Int) - 1).toNat false)) rfl) ⟨b9, ca⟩ ?_
 exact yL (by kernel_rfl) (zA (cP (zP (xF (cs := [vJ ((vs.getD ((vs.length : Int) - 1).toNat default).1), vJ ((vs.getD ((vs.length : Int) - 1).toNat default).2)]) (v := .bool (bs.getD ((bs.length : Int) - 1).toNat false)) rfl rfl rfl rfl rfl ag27 sz27 (fun j u hj => by rw [cS]; exact df.cell hj) (⟨_, by rw [hti, htb, hva, hba], a4⟩)))))
end VB4
namespace SG1
open B1 C1 D1 E1 OR1 C61
theorem pl77 : (Tryz.prog.underlying 77).bind (placesD Tryz.prog) = some [(0, 1), (1, 1)] := by kernel_rfl
theorem l7Game_spec {w : World} {G : Pin} {v : Value} {ns : List Nd} {c : Nat} (hP : Pins G w) (hv : RSl eNode G v ns) (hf : IsForm c ns) (hc : CanonG c) :
  Calls Tryz.prog 72 [.agg #[v]].toArray w fun e w' => ∃ G', e = .returned (.bool (decP (NumD c))) ∧ Ext noS G w G' w' := by
 refine zY (n := 110) Tryz.func72 Tryz.ntmps72 rfl rfl ?_
 have ca := exr noS hP
 have hnl := hf.1.wf.ok.len
 have hlo := hf.1.lo
 have hdA := Ar.add Ar.empty hf.1.wf.ok (by simp; omega)
 have haA := fL qY hf.1.wf.ok (by simp; omega)
 have hAl := haA.len
 have hAh := haA.hi
 simp only [List.length_nil, cS] at hAh
 refine w9d ?_
 refine qI rfl (xH [v] (v := .agg #[v]) rfl rfl ca.pins (fun b1 w2 iy fz f0 f1 => ?_))
 have f2 : w.heap.size ≤ b1 := by have := ca.size; omega
 obtain ⟨G9, aw, cb, cc, i0⟩ := fz.shut (ca.step f0 f1) f2
 refine qM (.bool false) ?_
 refine qe (w9a ?_)
 refine qD rfl (yS [vN, vN] [vN, vN] [] dL zr77 rfl pl77 rfl (fun _ h => by cases h) rfl) (qI rfl (xH [vN, vN] (v := .agg #[vN, vN]) rfl rfl cb.pins (fun aj i1 i2 f3 f4 f5 => ?_)))
 have bo := cb.step f4 f5
 have f6 : w.heap.size ≤ aj := by have := cb.size; omega
 refine qM (vP aj) ?_
 refine qe (w9a ?_)
 refine qM (vP aj) ?_
 refine qD rfl (yA (cs := [v]) ag32 sz32 rfl (fun j u hj => bo.pins _ _ _ (cc _ _ (by simpa using hj)))) (qI rfl (zL (vs := [vP aj, .agg #[v]]) Tryz.func82 nm82 rfl rfl rfl ?_))
 refine cD (eT bo.pins ⟨f3, (Own.nil _ _ _ _ _), (Own.nil _ _ _ _ _), apart_none.symm, apart_none.symm, apart_none⟩ qY (hv.mono aw) hf.1.wf.ok (by first | omega | (simp; omega))) ?_
 rintro _ i3 ⟨a8, cd, ce, i4, rfl, b4, a9, al, f7, f8⟩
 refine rt9 ?_
 have cf : ∀ i, inS aj vN vN i → w.heap.size ≤ i ∨ noS i := fU (zS f6) (kQ _ _) (kQ _ _)
 have b5 := bo.trans al cf
 have cg := a9.bx
 have ch := a9.ou
 have ci := a9.ov
 have cy := a9.abu
 have cz := a9.abv
 have c0 := a9.auv
 have i5 := qJ f7 cf bo.size
 have i6 := qJ f8 cf bo.size
 refine qM a8 ?_
 refine qe (w9a ?_)
 refine qM (vP aj) ?_
 refine qI rfl (zL (vs := [vP aj]) Tryz.func85 nm85 rfl rfl rfl ?_)
 refine cD (nB b5.pins ⟨cg, ch, ci, cy, cz, c0⟩ haA.book) ?_
 rintro _ i7 ⟨ba, b6, cj, rfl, c1, b7, f9, c2, af⟩
 refine rt9 ?_
 have ck := b5.tr af
 have c3 := ch.ext af
 have c4 := ci.ext af
 have c5 := cg.ext af
 have c6 := zT b7.lt ch.lt
 have c7 := zT b7.lt ci.lt
 have c8 := yN b7.lt cg.lt
 have i8 := cR b5.size f9
 have c9 := b7.weaken b5.size
 refine qM (vP ba) ?_
 refine qe (w9a ?_)
 refine qI rfl (xE (E := eBool) (e := 4) dI sz4 ck.pins (fun cl ga gb gc bb bp => ?_))
 have da := c9.below bb
 have gd := gb.weaken ck.size
 refine qM cl ?_
 refine qe (zA (w9b ?_))
 refine qM (vJ 0) ?_
 refine qe (zA ?_)
 refine zZ ?_
 have ge : Lo w (noS) b6.ownBlock := (yD da)
 refine yR (fun k en W => ∃ (db : Nat → Value) (a : Nat) (wv : Value) (ws : List Bool) (kq : List Int) (am : Pin), en = (upd (upd (upd (upd (upd (upd db 1 (vP b1)) 2 (.bool false)) 4 a8) 5 (vP ba)) 6 wv) 7 (vJ (a : Int))) ∧ k = ns.length - a ∧ Ext noS G w am W ∧ Pin.le cj am ∧ (a ≤ ns.length) ∧ (GmOk ns ws a) ∧ (KAll (addM ([]) ([]) ns).2.1 kq) ∧ (Own eBool 4 am W w.heap.size wv (ws)) ∧ (Own eInt 3 am W 0 b6 (kq)) ∧ (Own eNode 65 am W 0 cd ((addM ([]) ([]) ns).2.1)) ∧ (Own eInt 3 am W 0 ce ((addM ([]) ([]) ns).2.2)) ∧ (Bx am W aj [cd, ce]) ∧ (Bx am W ba [vP aj, b6]) ∧ (Apart wv.ownBlock b6.ownBlock) ∧ (Apart wv.ownBlock cd.ownBlock) ∧ (Apart wv.ownBlock ce.ownBlock) ∧ (Apart wv.ownBlock (some aj)) ∧ (Apart wv.ownBlock (some ba))) _ ⟨_, 0, cl, [], List.replicate (((addM ([]) ([]) ns).2.1).length * ((addM ([]) ([]) ns).2.1).length) 0, cj, (pS 7 (pS 6 (pS 5 (pS 4 (pS 2 (pU 1)))))), rfl, (ck.step gc bb), cJ _, cI _, GmOk.start, KAll.zero, gd, (da.weaken (cI _)), (c3.below bb), (c4.below bb), (c5.below bb), (c1.below bb), (zE bp c9.lt), (zE bp c3.lt), (zE bp c4.lt), (zI bp c5.lt), (zI bp c1.lt)⟩ ?_
 rintro i9 _ ja ⟨db, a, wv, ws, kq, am, rfl, jb, au, f, hk, hgm, ai, bq, dc, dd, de, df, dg, m, s, x, y, aa⟩
 have hwl := hgm.len
 refine w9b ?_
 refine qM (vJ (a : Int)) ?_
 refine qD rfl (zH (k := 0) rfl dJ rfl nz30 rfl) (qD rfl (zJ (u := v) ag30 rfl ((cC au.pins (cB (cB al.le af.le) f)) _ _ _ (cc 0 _ rfl))) (qD rfl (zM dF (v := v) rfl hv) (qD rfl (yU rfl rfl) (qe (zA ?_)))))
 refine yC (p := ((a : Int) : Int) < (ns.length : Int)) rfl rfl (fun gf => ?_) (fun gf => ?_)
 have hno := node_ok hf hc (k := a) (by omega) rfl rfl
 have hoo := xB hf.1.wf.ok.opts (show a < ns.length by omega)
 have hlen := hf.1.wf.ok.lens a (by omega)
 have hil : 0 < (ns.getD a default).l.length → 0 ≤ (ns.getD a default).l.getD 0 0 ∧ (ns.getD a default).l.getD 0 0 < (a : Int) := fun h => hoo.1 _ (yE h)
 have hir : 0 < (ns.getD a default).r.length → 0 ≤ (ns.getD a default).r.getD 0 0 ∧ (ns.getD a default).r.getD 0 0 < (a : Int) := fun h => hoo.2 _ (yE h)
 refine cO (zA (zB ?_))
 refine zZ (w9d ?_)
 refine qD rfl (zH (k := 0) rfl dJ rfl nz30 rfl) (qD rfl (zJ (u := v) ag30 rfl ((cC au.pins (cB (cB al.le af.le) f)) _ _ _ (cc 0 _ rfl))) (qM (vJ (a : Int)) ?_))
 refine qD rfl (zF dF sz65 (v := v) rfl rfl hv (by omega) (by omega)) ?_
 obtain ⟨o, q, ah, ag, gg⟩ := jD (hv.at (z := (a : Int)) (by omega) (by omega)) (j := a) rfl
 have jc := ah.max
 have jd := ag.max
 refine qD rfl (gg ag65 sz65 rfl (cC au.pins (cB (cB (cB aw al.le) af.le) f))) (qI rfl (yI [vN, vN] zr65 rfl au.pins (fun gh je bc gi gj ax => ?_)))
 have dh := au.step gj ax
 have di := zE (cgA some bc) bq.lt
 have dj := zE (cgA some bc) dc.lt
 have dk := zE (cgA some bc) dd.lt
 have dl := zE (cgA some bc) de.lt
 have dm := zI (cgA some bc) df.lt
 have dn := zI (cgA some bc) dg.lt
 have dp : w.heap.size ≤ gh := by have := au.size; omega
 refine q0 rfl rfl rfl (o_stp (cs' := [o, q]) (us := [o, q]) (v := .agg #[o, q]) sz65 rfl rfl rfl (yQ ah.one ag.one) dh.pins gi (cE rfl) rfl (fun cm gk gl ay jf => ?_))
 obtain ⟨ab, d, b, ad, bd⟩ := gk.shut (dh.write gl ay ((zS dp))) dp
 have ae := ((bq.below ax).keptA ay di.symm).moreA d bd di.symm
 have an := ((dc.below ax).keptA ay dj.symm).moreA d bd dj.symm
 have ao := ((dd.below ax).keptA ay dk.symm).moreA d bd dk.symm
 have ap := ((de.below ax).keptA ay dl.symm).moreA d bd dl.symm
 have aq := ((df.below ax).keptA ay dm.symm).moreA bd dm.symm
 have ar := ((dg.below ax).keptA ay dn.symm).moreA bd dn.symm
 refine qe (w9a ?_)
 refine qD rfl (zH (k := 0) rfl dG rfl nz56 rfl) (qD rfl (zJ (u := o) ag56 rfl (b.pins _ _ _ (ad 0 _ rfl))) (qD rfl (zM dE (v := o) rfl ah) (qD rfl (tR rfl rfl) (qM (.bool (decide (((((ns.getD a default).l).length : Int) : Int) ≤ 1))) ?_))))
 refine qbd (p := ((((ns.getD a default).l).length : Int) : Int) ≤ 1) (t := 34) rfl (fun gm => ?_) (fun gm => ?_)
 refine qN (zH (k := 1) rfl dG rfl nz56 rfl) ?_
 refine qN (zJ (u := q) ag56 rfl (b.pins _ _ _ (ad 1 _ rfl))) ?_
 refine qN (zM dE (v := q) rfl ag) ?_
 refine qN (tR rfl rfl) ?_
 refine qD rfl (yB (v := .bool (decide (((((ns.getD a default).r).length : Int) : Int) ≤ 1))) rfl rfl) (qM (.bool (decide (((((ns.getD a default).r).length : Int) : Int) ≤ 1))) ?_)
 refine qbd (p := ((((ns.getD a default).r).length : Int) : Int) ≤ 1) (t := 40) rfl (fun gn => ?_) (fun gn => ?_)
 refine qN (zH (k := 0) rfl dG rfl nz56 rfl) ?_
 refine qN (zJ (u := o) ag56 rfl (b.pins _ _ _ (ad 0 _ rfl))) ?_
 refine qN (zM dE (v := o) rfl ah) ?_
 refine qN (xO rfl rfl) ?_
 refine qN (zN (v := .bool (decide (((((ns.getD a default).l).length : Int) : Int) = 0))) rfl) ?_
 refine qbd (p := ((((ns.getD a default).l).length : Int) : Int) = 0) (t := 45) rfl (fun gp => ?_) (fun gp => ?_)
 refine qW ?_
 refine qW ?_
 refine qW ?_
 refine qW ?_
 refine qW ?_
 refine qW ?_
 refine qW ?_
 refine qN (yB (v := .bool true) rfl rfl) ?_
 refine qD rfl (yB (v := .bool true) rfl rfl) (qM (.bool true) ?_)
 refine qN (zH (k := 1) rfl dG rfl nz56 rfl) ?_
 refine qN (zJ (u := q) ag56 rfl (b.pins _ _ _ (ad 1 _ rfl))) ?_
 refine qN (zM dE (v := q) rfl ag) ?_
 refine qN (xO rfl rfl) ?_
 refine qN (zN (v := .bool (decide (((((ns.getD a default).r).length : Int) : Int) = 0))) rfl) ?_
 refine qbd (p := ((((ns.getD a default).r).length : Int) : Int) = 0) (t := 60) rfl (fun gq => ?_) (fun gq => ?_)
 refine qW ?_
 refine qW ?_
 refine qW ?_
 refine qW ?_
 refine qW ?_
 refine qW ?_
 refine qW ?_
 refine qN (yB (v := .bool true) rfl rfl) ?_
 refine qD rfl (yB (v := .bool true) rfl rfl) (qM (.bool true) ?_)
 refine qe (zA (w9b ?_))
 refine qM (.bool true) ?_
 refine qM (.bool true) ?_
 refine qN (zH (k := 0) rfl dG rfl nz56 rfl) ?_
 refine qN (zJ (u := o) ag56 rfl (b.pins _ _ _ (ad 0 _ rfl))) ?_
 refine qN (zM dE (v := o) rfl ah) ?_
 refine qN (xO rfl rfl) ?_
 refine qD rfl (yB (v := .bool (decide (((((ns.getD a default).l).length : Int) : Int) = 1))) rfl rfl) (qM (.bool (decide (((((ns.getD a default).l).length : Int) : Int) = 1))) ?_)
 refine qbd (p := ((((ns.getD a default).l).length : Int) : Int) = 1) (t := 77) rfl (fun gr => ?_) (fun gr => ?_)
 exfalso; omega
 refine qW ?_
 refine qW ?_
 refine qW ?_
 refine qW ?_
 refine qD rfl (zU (v := .bool false) rfl rfl) (qe (zA ?_))
 refine xT rfl rfl (cO (zA (zC ?_)))
 refine qM wv ?_
 refine qM (.bool true) ?_
 refine qI rfl (yV (E := eBool) (e := 4) [.bool true] [true] dI sz4 zr4 (by exact xP (by rfl)) (yZ (by rfl)) rfl rfl rfl rfl (by decide) b.pins (fun dq gs gt gu az jg => ?_))
 have cn := b.step gu az
 have dr := ae.below az
 have ds := an.below az
 have dt := ao.below az
 have du := ap.below az
 have dv := aq.below az
 have dw := ar.below az
 have gv := gt.weaken b.size
 refine qI rfl (oA (E := eBool) (v := wv) (u := dq) 1 dI ap4 (by decide) rfl rfl cn.pins dr gv.src (cn.size) (fun dx jh gw gx be br => ?_))
 have ji := la1 ws true
 refine qM dx ?_
 refine qe (w9c ?_)
 refine qM (vJ (a : Int)) ?_
 refine qD rfl (yH rfl rfl (by omega)) (qM (vJ ((a : Int) + 1)) ?_)
 refine qe (zV (⟨_, ?_, _, rfl, _, a + 1, dx, ws ++ ([true]), kq, ab, (pS 7 (pS 6 (pS 5 (pS 4 (pS 2 (pU 1)))))), rfl, (cn.write gx be ((yD dr))), (cB f d), (by omega), hgm.next (decP_true.2 (gm_num hno (by omega) (fun h => absurd h (by omega)) (fun h => absurd h (by omega)) (fun h1 h2 => by omega))).symm, ai, gw, (ds.keptA be m.symm), (dt.keptA be s.symm), (du.keptA be x.symm), (dv.keptA be y.symm), (dw.keptA be aa.symm), (zD m.symm br ds.lt).symm, (zD s.symm br dt.lt).symm, (zD x.symm br du.lt).symm, (zK y.symm br dv.lt).symm, (zK aa.symm br dw.lt).symm⟩))
 omega
 refine qN (zN (v := wv) rfl) ?_
 refine qN (zH (k := 1) rfl dG rfl nz56 rfl) ?_
 refine qN (zJ (u := q) ag56 rfl (b.pins _ _ _ (ad 1 _ rfl))) ?_
 refine qN (zF dE sz3 (v := q) rfl rfl ag (by omega) (by omega)) ?_
 refine qN (zG (r := ((ns.getD a default).r).getD 0 0) rfl ag3 (z := 0) rfl ag (cC b.pins (cB (cB (cB (cB aw al.le) af.le) f) d)) (by omega) (by omega)) ?_
 refine qN (zF dI sz4 (v := wv) rfl rfl ae.read (by omega) (by omega)) ?_
 refine qN (xQ (r := ws.getD (((ns.getD a default).r).getD 0 0).toNat false) rfl ag4 (z := ((ns.getD a default).r).getD 0 0) rfl ae.read (cM b.pins wv) (by omega) (by omega)) ?_
 refine qN (zU (v := .bool (ws.getD (((ns.getD a default).r).getD 0 0).toNat false)) rfl rfl) ?_
 refine qD rfl (yB (v := .bool (ws.getD (((ns.getD a default).r).getD 0 0).toNat false)) rfl rfl) (qM (.bool (ws.getD (((ns.getD a default).r).getD 0 0).toNat false)) ?_)
 refine qe (zA (w9b ?_))
 refine qM (.bool (ws.getD (((ns.getD a default).r).getD 0 0).toNat false)) ?_
 refine qM (.bool (ws.getD (((ns.getD a default).r).getD 0 0).toNat false)) ?_
 refine qb (t := 71) rfl (fun bs => ?_) (fun bs => ?_)
 refine qN (zH (k := 0) rfl dG rfl nz56 rfl) ?_
 refine qN (zJ (u := o) ag56 rfl (b.pins _ _ _ (ad 0 _ rfl))) ?_
 refine qN (zM dE (v := o) rfl ah) ?_
 refine qN (xO rfl rfl) ?_
 refine qD rfl (yB (v := .bool (decide (((((ns.getD a default).l).length : Int) : Int) = 1))) rfl rfl) (qM (.bool (decide (((((ns.getD a default).l).length : Int) : Int) = 1))) ?_)
 refine qbd (p := ((((ns.getD a default).l).length : Int) : Int) = 1) (t := 77) rfl (fun gy => ?_) (fun gy => ?_)
 exfalso; omega
 refine qW ?_
 refine qW ?_
 refine qW ?_
 refine qW ?_
 refine qD rfl (zU (v := .bool false) rfl rfl) (qe (zA ?_))
 refine xT rfl rfl (cO (zA (zC ?_)))
 refine qM wv ?_
 refine qM (.bool (ws.getD (((ns.getD a default).r).getD 0 0).toNat false)) ?_
 refine qI rfl (yV (E := eBool) (e := 4) [.bool (ws.getD (((ns.getD a default).r).getD 0 0).toNat false)] [ws.getD (((ns.getD a default).r).getD 0 0).toNat false] dI sz4 zr4 (by exact xP (by rfl)) (yZ (by rfl)) rfl rfl rfl rfl (by decide) b.pins (fun d0 gz g0 g1 a0 jj => ?_))
 have co := b.step g1 a0
 have d1 := ae.below a0
 have d2 := an.below a0
 have d3 := ao.below a0
 have d4 := ap.below a0
 have d5 := aq.below a0
 have d6 := ar.below a0
 have g2 := g0.weaken b.size
 refine qI rfl (oA (E := eBool) (v := wv) (u := d0) 1 dI ap4 (by decide) rfl rfl co.pins d1 g2.src (co.size) (fun d7 jk g3 g4 bf bt => ?_))
 have jl := la1 ws (ws.getD (((ns.getD a default).r).getD 0 0).toNat false)
 refine qM d7 ?_
 refine qe (w9c ?_)
 refine qM (vJ (a : Int)) ?_
 refine qD rfl (yH rfl rfl (by omega)) (qM (vJ ((a : Int) + 1)) ?_)
 refine qe (zV (⟨_, ?_, _, rfl, _, a + 1, d7, ws ++ ([ws.getD (((ns.getD a default).r).getD 0 0).toNat false]), kq, ab, (pS 7 (pS 6 (pS 5 (pS 4 (pS 2 (pU 1)))))), rfl, (co.write g4 bf ((yD d1))), (cB f d), (by omega), hgm.next (bs.trans (decP_true.2 (gm_num hno (by omega) (fun h => absurd h (by omega)) (fun h => hgm.yes (by omega) bs) (fun h1 h2 => by omega))).symm), ai, g3, (d2.keptA bf m.symm), (d3.keptA bf s.symm), (d4.keptA bf x.symm), (d5.keptA bf y.symm), (d6.keptA bf aa.symm), (zD m.symm bt d2.lt).symm, (zD s.symm bt d3.lt).symm, (zD x.symm bt d4.lt).symm, (zK y.symm bt d5.lt).symm, (zK aa.symm bt d6.lt).symm⟩))
 omega
 refine qW ?_
 refine qW ?_
 refine qW ?_
 refine qW ?_
 refine qD rfl (zU (v := .bool false) rfl rfl) (qM (.bool false) ?_)
 refine qW ?_
 refine qW ?_
 refine qW ?_
 refine qW ?_
 refine qD rfl (zU (v := .bool false) rfl rfl) (qe (zA ?_))
 refine xT rfl rfl (cO (zA (zC ?_)))
 refine qM wv ?_
 refine qM (.bool (ws.getD (((ns.getD a default).r).getD 0 0).toNat false)) ?_
 refine qI rfl (yV (E := eBool) (e := 4) [.bool (ws.getD (((ns.getD a default).r).getD 0 0).toNat false)] [ws.getD (((ns.getD a default).r).getD 0 0).toNat false] dI sz4 zr4 (by exact xP (by rfl)) (yZ (by rfl)) rfl rfl rfl rfl (by decide) b.pins (fun d8 g5 g6 g7 a1 jm => ?_))
 have cp := b.step g7 a1
 have d9 := ae.below a1
 have ea := an.below a1
 have eb := ao.below a1
 have ec := ap.below a1
 have ed := aq.below a1
 have ee := ar.below a1
 have g8 := g6.weaken b.size
 refine qI rfl (oA (E := eBool) (v := wv) (u := d8) 1 dI ap4 (by decide) rfl rfl cp.pins d9 g8.src (cp.size) (fun ef jn g9 ha bg bu => ?_))
 have jo := la1 ws (ws.getD (((ns.getD a default).r).getD 0 0).toNat false)
 refine qM ef ?_
 refine qe (w9c ?_)
 refine qM (vJ (a : Int)) ?_
 refine qD rfl (yH rfl rfl (by omega)) (qM (vJ ((a : Int) + 1)) ?_)
 refine qe (zV (⟨_, ?_, _, rfl, _, a + 1, ef, ws ++ ([ws.getD (((ns.getD a default).r).getD 0 0).toNat false]), kq, ab, (pS 7 (pS 6 (pS 5 (pS 4 (pS 2 (pU 1)))))), rfl, (cp.write ha bg ((yD d9))), (cB f d), (by omega), hgm.next (bs.trans (decP_false.2 fun g => hgm.no (by omega) bs (gm_r hno g (by omega))).symm), ai, g9, (ea.keptA bg m.symm), (eb.keptA bg s.symm), (ec.keptA bg x.symm), (ed.keptA bg y.symm), (ee.keptA bg aa.symm), (zD m.symm bu ea.lt).symm, (zD s.symm bu eb.lt).symm, (zD x.symm bu ec.lt).symm, (zK y.symm bu ed.lt).symm, (zK aa.symm bu ee.lt).symm⟩))
 omega
 refine qN (zN (v := wv) rfl) ?_
 refine qN (zH (k := 0) rfl dG rfl nz56 rfl) ?_
 refine qN (zJ (u := o) ag56 rfl (b.pins _ _ _ (ad 0 _ rfl))) ?_
 refine qN (zF dE sz3 (v := o) rfl rfl ah (by omega) (by omega)) ?_
 refine qN (zG (r := ((ns.getD a default).l).getD 0 0) rfl ag3 (z := 0) rfl ah (cC b.pins (cB (cB (cB (cB aw al.le) af.le) f) d)) (by omega) (by omega)) ?_
 refine qN (zF dI sz4 (v := wv) rfl rfl ae.read (by omega) (by omega)) ?_
 refine qN (xQ (r := ws.getD (((ns.getD a default).l).getD 0 0).toNat false) rfl ag4 (z := ((ns.getD a default).l).getD 0 0) rfl ae.read (cM b.pins wv) (by omega) (by omega)) ?_
 refine qN (zU (v := .bool (ws.getD (((ns.getD a default).l).getD 0 0).toNat false)) rfl rfl) ?_
 refine qD rfl (yB (v := .bool (ws.getD (((ns.getD a default).l).getD 0 0).toNat false)) rfl rfl) (qM (.bool (ws.getD (((ns.getD a default).l).getD 0 0).toNat false)) ?_)
 refine qb (t := 55) rfl (fun b8 => ?_) (fun b8 => ?_)
 refine qN (zH (k := 1) rfl dG rfl nz56 rfl) ?_
 refine qN (zJ (u := q) ag56 rfl (b.pins _ _ _ (ad 1 _ rfl))) ?_
 refine qN (zM dE (v := q) rfl ag) ?_
 refine qN (xO rfl rfl) ?_
 refine qN (zN (v := .bool (decide (((((ns.getD a default).r).length : Int) : Int) = 0))) rfl) ?_
 refine qbd (p := ((((ns.getD a default).r).length : Int) : Int) = 0) (t := 60) rfl (fun hb => ?_) (fun hb => ?_)
 refine qW ?_
 refine qW ?_
 refine qW ?_
 refine qW ?_
 refine qW ?_
 refine qW ?_
 refine qW ?_
 refine qN (yB (v := .bool true) rfl rfl) ?_
 refine qD rfl (yB (v := .bool true) rfl rfl) (qM (.bool true) ?_)
 refine qe (zA (w9b ?_))
 refine qM (.bool true) ?_
 refine qM (.bool true) ?_
 refine qN (zH (k := 0) rfl dG rfl nz56 rfl) ?_
 refine qN (zJ (u := o) ag56 rfl (b.pins _ _ _ (ad 0 _ rfl))) ?_
 refine qN (zM dE (v := o) rfl ah) ?_
 refine qN (xO rfl rfl) ?_
 refine qD rfl (yB (v := .bool (decide (((((ns.getD a default).l).length : Int) : Int) = 1))) rfl rfl) (qM (.bool (decide (((((ns.getD a default).l).length : Int) : Int) = 1))) ?_)
 refine qbd (p := ((((ns.getD a default).l).length : Int) : Int) = 1) (t := 77) rfl (fun hd => ?_) (fun hd => ?_)
 refine qN (zH (k := 1) rfl dG rfl nz56 rfl) ?_
 refine qN (zJ (u := q) ag56 rfl (b.pins _ _ _ (ad 1 _ rfl))) ?_
 refine qN (zM dE (v := q) rfl ag) ?_
 refine qN (xO rfl rfl) ?_
 refine qD rfl (yB (v := .bool (decide (((((ns.getD a default).r).length : Int) : Int) = 1))) rfl rfl) (qe (zA ?_))
 refine yC (p := ((((ns.getD a default).r).length : Int) : Int) = 1) rfl rfl (fun he => ?_) (fun he => ?_)
 exfalso; omega
 refine cO (zA (zC ?_))
 refine qM wv ?_
 refine qM (.bool true) ?_
 refine qI rfl (yV (E := eBool) (e := 4) [.bool true] [true] dI sz4 zr4 (by exact xP (by rfl)) (yZ (by rfl)) rfl rfl rfl rfl (by decide) b.pins (fun eg hg hh hl a2 jp => ?_))
 have cq := b.step hl a2
 have eh := ae.below a2
 have ei := an.below a2
 have ej := ao.below a2
 have ek := ap.below a2
 have el := aq.below a2
 have em := ar.below a2
 have hm := hh.weaken b.size
 refine qI rfl (oA (E := eBool) (v := wv) (u := eg) 1 dI ap4 (by decide) rfl rfl cq.pins eh hm.src (cq.size) (fun eo jq hn ho bh bv => ?_))
 have jr := la1 ws true
 refine qM eo ?_
 refine qe (w9c ?_)
 refine qM (vJ (a : Int)) ?_
 refine qD rfl (yH rfl rfl (by omega)) (qM (vJ ((a : Int) + 1)) ?_)
 refine qe (zV (⟨_, ?_, _, rfl, _, a + 1, eo, ws ++ ([true]), kq, ab, (pS 7 (pS 6 (pS 5 (pS 4 (pS 2 (pU 1)))))), rfl, (cq.write ho bh ((yD eh))), (cB f d), (by omega), hgm.next (decP_true.2 (gm_num hno (by omega) (fun h => hgm.yes (by omega) b8) (fun h => absurd h (by omega)) (fun h1 h2 => by omega))).symm, ai, hn, (ei.keptA bh m.symm), (ej.keptA bh s.symm), (ek.keptA bh x.symm), (el.keptA bh y.symm), (em.keptA bh aa.symm), (zD m.symm bv ei.lt).symm, (zD s.symm bv ej.lt).symm, (zD x.symm bv ek.lt).symm, (zK y.symm bv el.lt).symm, (zK aa.symm bv em.lt).symm⟩))
 omega
 exfalso; omega
 refine qN (zN (v := wv) rfl) ?_
 refine qN (zH (k := 1) rfl dG rfl nz56 rfl) ?_
 refine qN (zJ (u := q) ag56 rfl (b.pins _ _ _ (ad 1 _ rfl))) ?_
 refine qN (zF dE sz3 (v := q) rfl rfl ag (by omega) (by omega)) ?_
 refine qN (zG (r := ((ns.getD a default).r).getD 0 0) rfl ag3 (z := 0) rfl ag (cC b.pins (cB (cB (cB (cB aw al.le) af.le) f) d)) (by omega) (by omega)) ?_
 refine qN (zF dI sz4 (v := wv) rfl rfl ae.read (by omega) (by omega)) ?_
 refine qN (xQ (r := ws.getD (((ns.getD a default).r).getD 0 0).toNat false) rfl ag4 (z := ((ns.getD a default).r).getD 0 0) rfl ae.read (cM b.pins wv) (by omega) (by omega)) ?_
 refine qN (zU (v := .bool (ws.getD (((ns.getD a default).r).getD 0 0).toNat false)) rfl rfl) ?_
 refine qD rfl (yB (v := .bool (ws.getD (((ns.getD a default).r).getD 0 0).toNat false)) rfl rfl) (qM (.bool (ws.getD (((ns.getD a default).r).getD 0 0).toNat false)) ?_)
 refine qe (zA (w9b ?_))
 refine qM (.bool (ws.getD (((ns.getD a default).r).getD 0 0).toNat false)) ?_
 refine qM (.bool (ws.getD (((ns.getD a default).r).getD 0 0).toNat false)) ?_
 refine qb (t := 71) rfl (fun b9 => ?_) (fun b9 => ?_)
 refine qN (zH (k := 0) rfl dG rfl nz56 rfl) ?_
 refine qN (zJ (u := o) ag56 rfl (b.pins _ _ _ (ad 0 _ rfl))) ?_
 refine qN (zM dE (v := o) rfl ah) ?_
 refine qN (xO rfl rfl) ?_
 refine qD rfl (yB (v := .bool (decide (((((ns.getD a default).l).length : Int) : Int) = 1))) rfl rfl) (qM (.bool (decide (((((ns.getD a default).l).length : Int) : Int) = 1))) ?_)
 refine qbd (p := ((((ns.getD a default).l).length : Int) : Int) = 1) (t := 77) rfl (fun hp => ?_) (fun hp => ?_)
 refine qN (zH (k := 1) rfl dG rfl nz56 rfl) ?_
 refine qN (zJ (u := q) ag56 rfl (b.pins _ _ _ (ad 1 _ rfl))) ?_
 refine qN (zM dE (v := q) rfl ag) ?_
 refine qN (xO rfl rfl) ?_
 refine qD rfl (yB (v := .bool (decide (((((ns.getD a default).r).length : Int) : Int) = 1))) rfl rfl) (qe (zA ?_))
 refine yC (p := ((((ns.getD a default).r).length : Int) : Int) = 1) rfl rfl (fun hq => ?_) (fun hq => ?_)
 refine yW (S := fun wz => Pins ab wz) (last := 18) (by kernel_rfl) rfl ?_
 have av := bdr cm
 have ac := b.step (b.pins.below av) av
 have ep := ao.below av
 have eq := ap.below av
 have er := aq.below av
 have es := ar.below av
 refine dM 0 (vP ba) ac.pins ?_
 refine dM 1 a8 ac.pins ?_
 refine dT (i := 2) rfl rfl (by kernel_rfl) (fun _ _ => zH (k := 0) rfl dG rfl nz56 rfl) ac.pins ?_
 refine dT (i := 3) rfl rfl (by kernel_rfl) (fun _ hS => zJ (u := o) ag56 rfl (hS _ _ _ (ad 0 _ rfl))) ac.pins ?_
 refine dT (i := 4) rfl rfl (by kernel_rfl) (fun _ _ => zF dE sz3 (v := o) rfl rfl ah (by omega) (by omega)) ac.pins ?_
 refine dT (i := 5) rfl rfl (by kernel_rfl) (fun _ hS => zG (r := ((ns.getD a default).l).getD 0 0) rfl ag3 (z := 0) rfl ah (cC hS (cB (cB (cB (cB aw al.le) af.le) f) d)) (by omega) (by omega)) ac.pins ?_
 refine dT (i := 6) rfl rfl (by kernel_rfl) (fun _ _ => zF dE sz3 (v := a8) rfl rfl b4 (by omega) (by omega)) ac.pins ?_
 refine dT (i := 7) rfl rfl (by kernel_rfl) (fun _ hS => zG (r := ((addM ([]) ([]) ns).1).getD (((ns.getD a default).l).getD 0 0).toNat 0) rfl ag3 (z := ((ns.getD a default).l).getD 0 0) rfl b4 (cC hS (cB (cB af.le f) d)) (by omega) (by omega)) ac.pins ?_
 refine dM 8 a8 ac.pins ?_
 refine dT (i := 9) rfl rfl (by kernel_rfl) (fun _ _ => zH (k := 1) rfl dG rfl nz56 rfl) ac.pins ?_
 refine dT (i := 10) rfl rfl (by kernel_rfl) (fun _ hS => zJ (u := q) ag56 rfl (hS _ _ _ (ad 1 _ rfl))) ac.pins ?_
 refine dT (i := 11) rfl rfl (by kernel_rfl) (fun _ _ => zF dE sz3 (v := q) rfl rfl ag (by omega) (by omega)) ac.pins ?_
 refine dT (i := 12) rfl rfl (by kernel_rfl) (fun _ hS => zG (r := ((ns.getD a default).r).getD 0 0) rfl ag3 (z := 0) rfl ag (cC hS (cB (cB (cB (cB aw al.le) af.le) f) d)) (by omega) (by omega)) ac.pins ?_
 refine dT (i := 13) rfl rfl (by kernel_rfl) (fun _ _ => zF dE sz3 (v := a8) rfl rfl b4 (by omega) (by omega)) ac.pins ?_
 refine dT (i := 14) rfl rfl (by kernel_rfl) (fun _ hS => zG (r := ((addM ([]) ([]) ns).1).getD (((ns.getD a default).r).getD 0 0).toNat 0) rfl ag3 (z := ((ns.getD a default).r).getD 0 0) rfl b4 (cC hS (cB (cB af.le f) d)) (by omega) (by omega)) ac.pins ?_
 refine dP (i := 15) rfl rfl (zL (vs := [vP ba, vJ (((addM ([]) ([]) ns).1).getD (((ns.getD a default).l).getD 0 0).toNat 0), vJ (((addM ([]) ([]) ns).1).getD (((ns.getD a default).r).getD 0 0).toNat 0)]) Tryz.func95 nm95 rfl rfl rfl ?_)
 refine cD (gV ac.pins ⟨⟨er, ep, eq, cy, cz, c0⟩, es, (an.below av), c2, c8.symm, c6.symm, c7.symm⟩ (haA.places _ (by omega)) (haA.places _ (by omega)) ai.1 haA.book (ai.2 _)) ?_
 rintro _ js ⟨hr, et, rfl, hs, eu, ak⟩
 refine rt9 ?_
 have bi := ac.trans ak (fun i hi => ge i hi)
 have jt := eu.len
 have ht := KAll.res ai eu
 refine ⟨fun _ => (cC bi.pins ak.le), ?_⟩
 refine dT (i := 16) rfl rfl (by kernel_rfl) (fun _ _ => xD rfl) (cC bi.pins ak.le) ?_
 refine dM 17 (.bool (!(geB ((addM ([]) ([]) ns).2.1) (((addM ([]) ([]) ns).1).getD (((ns.getD a default).l).getD 0 0).toNat 0) (((addM ([]) ([]) ns).1).getD (((ns.getD a default).r).getD 0 0).toNat 0)))) (cC bi.pins ak.le) ?_
 refine yL (by kernel_rfl) (zA (zC ?_))
 refine qM wv ?_
 refine qM (.bool (!(geB ((addM ([]) ([]) ns).2.1) (((addM ([]) ([]) ns).1).getD (((ns.getD a default).l).getD 0 0).toNat 0) (((addM ([]) ([]) ns).1).getD (((ns.getD a default).r).getD 0 0).toNat 0)))) ?_
 refine qI rfl (yV (E := eBool) (e := 4) [.bool (!(geB ((addM ([]) ([]) ns).2.1) (((addM ([]) ([]) ns).1).getD (((ns.getD a default).l).getD 0 0).toNat 0) (((addM ([]) ([]) ns).1).getD (((ns.getD a default).r).getD 0 0).toNat 0)))] [!(geB ((addM ([]) ([]) ns).2.1) (((addM ([]) ([]) ns).1).getD (((ns.getD a default).l).getD 0 0).toNat 0) (((addM ([]) ([]) ns).1).getD (((ns.getD a default).r).getD 0 0).toNat 0))] dI sz4 zr4 (by exact xP (by rfl)) (yZ (by rfl)) rfl rfl rfl rfl (by decide) bi.pins (fun ev hu hw hx a3 ju => ?_))
 have cr := bi.step hx a3
 have ew := ((ae.below av).extS ak (notO m)).below a3
 have ex := hs.ok.below a3
 have ey := (ep.extS ak (notO c6.symm)).below a3
 have ez := (eq.extS ak (notO c7.symm)).below a3
 have e0 := (er.extS ak (xX c8.symm)).below a3
 have e1 := (es.extS ak (xX c2)).below a3
 have hy := hw.weaken bi.size
 refine qI rfl (oA (E := eBool) (v := wv) (u := ev) 1 dI ap4 (by decide) rfl rfl cr.pins ew hy.src (cr.size) (fun e2 jv hz h0 bj bw => ?_))
 have jw := la1 ws (!(geB ((addM ([]) ([]) ns).2.1) (((addM ([]) ([]) ns).1).getD (((ns.getD a default).l).getD 0 0).toNat 0) (((addM ([]) ([]) ns).1).getD (((ns.getD a default).r).getD 0 0).toNat 0)))
 refine qM e2 ?_
 refine qe (w9c ?_)
 refine qM (vJ (a : Int)) ?_
 refine qD rfl (yH rfl rfl (by omega)) (qM (vJ ((a : Int) + 1)) ?_)
 refine qe (zV (⟨_, ?_, _, rfl, _, a + 1, e2, ws ++ ([!(geB ((addM ([]) ([]) ns).2.1) (((addM ([]) ([]) ns).1).getD (((ns.getD a default).l).getD 0 0).toNat 0) (((addM ([]) ([]) ns).1).getD (((ns.getD a default).r).getD 0 0).toNat 0))]), hr, et, (pS 7 (pS 6 (pS 5 (pS 4 (pS 2 (pU 1)))))), rfl, (cr.write h0 bj ((yD ew))), (cB (cB f d) ak.le), (by omega), hgm.next (by rw [← gm_both hno (by omega) (hgm.yes (by omega) b8) (hgm.yes (by omega) b9)]; unfold geB; rw [hdA.is _ (by omega), hdA.is _ (by omega)]), ht, hz, (ex.keptA bj m.symm), (ey.keptA bj s.symm), (ez.keptA bj x.symm), (e0.keptA bj y.symm), (e1.keptA bj aa.symm), (zD m.symm bw ex.lt).symm, (zD s.symm bw ey.lt).symm, (zD x.symm bw ez.lt).symm, (zK y.symm bw e0.lt).symm, (zK aa.symm bw e1.lt).symm⟩))
 omega
 exfalso; omega
 exfalso; omega
 refine qW ?_
 refine qW ?_
 refine qW ?_
 refine qW ?_
 refine qD rfl (zU (v := .bool false) rfl rfl) (qM (.bool false) ?_)
 refine qW ?_
 refine qW ?_
 refine qW ?_
 refine qW ?_
 refine qD rfl (zU (v := .bool false) rfl rfl) (qe (zA ?_))
 refine xT rfl rfl (cO (zA (zC ?_)))
 refine qM wv ?_
 refine qM (.bool (ws.getD (((ns.getD a default).r).getD 0 0).toNat false)) ?_
 refine qI rfl (yV (E := eBool) (e := 4) [.bool (ws.getD (((ns.getD a default).r).getD 0 0).toNat false)] [ws.getD (((ns.getD a default).r).getD 0 0).toNat false] dI sz4 zr4 (by exact xP (by rfl)) (yZ (by rfl)) rfl rfl rfl rfl (by decide) b.pins (fun e3 h3 h4 h5 a4 jx => ?_))
 have ct := b.step h5 a4
 have e4 := ae.below a4
 have e5 := an.below a4
 have e6 := ao.below a4
 have e7 := ap.below a4
 have e8 := aq.below a4
 have e9 := ar.below a4
 have h6 := h4.weaken b.size
 refine qI rfl (oA (E := eBool) (v := wv) (u := e3) 1 dI ap4 (by decide) rfl rfl ct.pins e4 h6.src (ct.size) (fun fa jy h7 h8 bk bz => ?_))
 have jz := la1 ws (ws.getD (((ns.getD a default).r).getD 0 0).toNat false)
 refine qM fa ?_
 refine qe (w9c ?_)
 refine qM (vJ (a : Int)) ?_
 refine qD rfl (yH rfl rfl (by omega)) (qM (vJ ((a : Int) + 1)) ?_)
 refine qe (zV (⟨_, ?_, _, rfl, _, a + 1, fa, ws ++ ([ws.getD (((ns.getD a default).r).getD 0 0).toNat false]), kq, ab, (pS 7 (pS 6 (pS 5 (pS 4 (pS 2 (pU 1)))))), rfl, (ct.write h8 bk ((yD e4))), (cB f d), (by omega), hgm.next (b9.trans (decP_false.2 fun g => hgm.no (by omega) b9 (gm_r hno g (by omega))).symm), ai, h7, (e5.keptA bk m.symm), (e6.keptA bk s.symm), (e7.keptA bk x.symm), (e8.keptA bk y.symm), (e9.keptA bk aa.symm), (zD m.symm bz e5.lt).symm, (zD s.symm bz e6.lt).symm, (zD x.symm bz e7.lt).symm, (zK y.symm bz e8.lt).symm, (zK aa.symm bz e9.lt).symm⟩))
 omega
 refine qW ?_
 refine qW ?_
 refine qW ?_
 refine qW ?_
 refine qW ?_
 refine qX ?_
 refine qX ?_
 refine qX ?_
 refine qX ?_
 refine qX ?_
 refine qX ?_
 refine qX ?_
 refine qW ?_
 refine qD rfl (zU (v := .bool false) rfl rfl) (qM (.bool false) ?_)
 refine qe (zA (w9b ?_))
 refine qM (.bool false) ?_
 refine qM (.bool false) ?_
 refine qW ?_
 refine qW ?_
 refine qW ?_
 refine qW ?_
 refine qD rfl (zU (v := .bool false) rfl rfl) (qM (.bool false) ?_)
 refine qW ?_
 refine qW ?_
 refine qW ?_
 refine qW ?_
 refine qD rfl (zU (v := .bool false) rfl rfl) (qe (zA ?_))
 refine xT rfl rfl (cO (zA (zC ?_)))
 refine qM wv ?_
 refine qM (.bool false) ?_
 refine qI rfl (yV (E := eBool) (e := 4) [.bool false] [false] dI sz4 zr4 (by exact xP (by rfl)) (yZ (by rfl)) rfl rfl rfl rfl (by decide) b.pins (fun fb ia ib ic a5 j0 => ?_))
 have cu := b.step ic a5
 have fc := ae.below a5
 have fd := an.below a5
 have fe := ao.below a5
 have ff := ap.below a5
 have fg := aq.below a5
 have fh := ar.below a5
 have ie := ib.weaken b.size
 refine qI rfl (oA (E := eBool) (v := wv) (u := fb) 1 dI ap4 (by decide) rfl rfl cu.pins fc ie.src (cu.size) (fun fi j1 ig ih bl b0 => ?_))
 have j2 := la1 ws false
 refine qM fi ?_
 refine qe (w9c ?_)
 refine qM (vJ (a : Int)) ?_
 refine qD rfl (yH rfl rfl (by omega)) (qM (vJ ((a : Int) + 1)) ?_)
 refine qe (zV (⟨_, ?_, _, rfl, _, a + 1, fi, ws ++ ([false]), kq, ab, (pS 7 (pS 6 (pS 5 (pS 4 (pS 2 (pU 1)))))), rfl, (cu.write ih bl ((yD fc))), (cB f d), (by omega), hgm.next (decP_false.2 fun g => hgm.no (by omega) b8 (gm_l hno g (by omega))).symm, ai, ig, (fd.keptA bl m.symm), (fe.keptA bl s.symm), (ff.keptA bl x.symm), (fg.keptA bl y.symm), (fh.keptA bl aa.symm), (zD m.symm b0 fd.lt).symm, (zD s.symm b0 fe.lt).symm, (zD x.symm b0 ff.lt).symm, (zK y.symm b0 fg.lt).symm, (zK aa.symm b0 fh.lt).symm⟩))
 omega
 refine qW ?_
 refine qW ?_
 refine qW ?_
 refine qW ?_
 refine qW ?_
 refine qX ?_
 refine qX ?_
 refine qX ?_
 refine qX ?_
 refine qX ?_
 refine qX ?_
 refine qX ?_
 refine qW ?_
 refine qD rfl (zU (v := .bool false) rfl rfl) (qM (.bool false) ?_)
 refine qW ?_
 refine qW ?_
 refine qW ?_
 refine qW ?_
 refine qW ?_
 refine qX ?_
 refine qX ?_
 refine qX ?_
 refine qX ?_
 refine qX ?_
 refine qX ?_
 refine qX ?_
 refine qW ?_
 refine qD rfl (zU (v := .bool false) rfl rfl) (qM (.bool false) ?_)
 refine qe (zA (w9b ?_))
 refine qM (.bool false) ?_
 refine qM (.bool false) ?_
 refine qW ?_
 refine qW ?_
 refine qW ?_
 refine qW ?_
 refine qD rfl (zU (v := .bool false) rfl rfl) (qM (.bool false) ?_)
 refine qW ?_
 refine qW ?_
 refine qW ?_
 refine qW ?_
 refine qD rfl (zU (v := .bool false) rfl rfl) (qe (zA ?_))
 refine xT rfl rfl (cO (zA (zC ?_)))
 refine qM wv ?_
 refine qM (.bool false) ?_
 refine qI rfl (yV (E := eBool) (e := 4) [.bool false] [false] dI sz4 zr4 (by exact xP (by rfl)) (yZ (by rfl)) rfl rfl rfl rfl (by decide) b.pins (fun fj ii ij ik a6 j3 => ?_))
 have cv := b.step ik a6
 have fk := ae.below a6
 have fl := an.below a6
 have fm := ao.below a6
 have fn := ap.below a6
 have fo := aq.below a6
 have fp := ar.below a6
 have il := ij.weaken b.size
 refine qI rfl (oA (E := eBool) (v := wv) (u := fj) 1 dI ap4 (by decide) rfl rfl cv.pins fk il.src (cv.size) (fun fq j4 im io bm b2 => ?_))
 have j5 := la1 ws false
 refine qM fq ?_
 refine qe (w9c ?_)
 refine qM (vJ (a : Int)) ?_
 refine qD rfl (yH rfl rfl (by omega)) (qM (vJ ((a : Int) + 1)) ?_)
 refine qe (zV (⟨_, ?_, _, rfl, _, a + 1, fq, ws ++ ([false]), kq, ab, (pS 7 (pS 6 (pS 5 (pS 4 (pS 2 (pU 1)))))), rfl, (cv.write io bm ((yD fk))), (cB f d), (by omega), hgm.next (decP_false.2 fun g => by have h9 := gm_few hno g; omega).symm, ai, im, (fl.keptA bm m.symm), (fm.keptA bm s.symm), (fn.keptA bm x.symm), (fo.keptA bm y.symm), (fp.keptA bm aa.symm), (zD m.symm b2 fl.lt).symm, (zD s.symm b2 fm.lt).symm, (zD x.symm b2 fn.lt).symm, (zK y.symm b2 fo.lt).symm, (zK aa.symm b2 fp.lt).symm⟩))
 omega
 refine qW ?_
 refine qW ?_
 refine qW ?_
 refine qW ?_
 refine qD rfl (zU (v := .bool false) rfl rfl) (qM (.bool false) ?_)
 refine qW ?_
 refine qW ?_
 refine qW ?_
 refine qW ?_
 refine qW ?_
 refine qX ?_
 refine qX ?_
 refine qX ?_
 refine qX ?_
 refine qX ?_
 refine qX ?_
 refine qX ?_
 refine qW ?_
 refine qD rfl (zU (v := .bool false) rfl rfl) (qM (.bool false) ?_)
 refine qW ?_
 refine qW ?_
 refine qW ?_
 refine qW ?_
 refine qW ?_
 refine qX ?_
 refine qX ?_
 refine qX ?_
 refine qX ?_
 refine qX ?_
 refine qX ?_
 refine qX ?_
 refine qW ?_
 refine qD rfl (zU (v := .bool false) rfl rfl) (qM (.bool false) ?_)
 refine qe (zA (w9b ?_))
 refine qM (.bool false) ?_
 refine qM (.bool false) ?_
 refine qW ?_
 refine qW ?_
 refine qW ?_
 refine qW ?_
 refine qD rfl (zU (v := .bool false) rfl rfl) (qM (.bool false) ?_)
 refine qW ?_
 refine qW ?_
 refine qW ?_
 refine qW ?_
 refine qD rfl (zU (v := .bool false) rfl rfl) (qe (zA ?_))
 refine xT rfl rfl (cO (zA (zC ?_)))
 refine qM wv ?_
 refine qM (.bool false) ?_
 refine qI rfl (yV (E := eBool) (e := 4) [.bool false] [false] dI sz4 zr4 (by exact xP (by rfl)) (yZ (by rfl)) rfl rfl rfl rfl (by decide) b.pins (fun fr iq ir it a7 j6 => ?_))
 have cw := b.step it a7
 have fs := ae.below a7
 have ft := an.below a7
 have fu := ao.below a7
 have fv := ap.below a7
 have fw := aq.below a7
 have fx := ar.below a7
 have iu := ir.weaken b.size
 refine qI rfl (oA (E := eBool) (v := wv) (u := fr) 1 dI ap4 (by decide) rfl rfl cw.pins fs iu.src (cw.size) (fun fy j7 iv iw bn b3 => ?_))
 have j8 := la1 ws false
 refine qM fy ?_
 refine qe (w9c ?_)
 refine qM (vJ (a : Int)) ?_
 refine qD rfl (yH rfl rfl (by omega)) (qM (vJ ((a : Int) + 1)) ?_)
 refine qe (zV (⟨_, ?_, _, rfl, _, a + 1, fy, ws ++ ([false]), kq, ab, (pS 7 (pS 6 (pS 5 (pS 4 (pS 2 (pU 1)))))), rfl, (cw.write iw bn ((yD fs))), (cB f d), (by omega), hgm.next (decP_false.2 fun g => by have h9 := gm_few hno g; omega).symm, ai, iv, (ft.keptA bn m.symm), (fu.keptA bn s.symm), (fv.keptA bn x.symm), (fw.keptA bn y.symm), (fx.keptA bn aa.symm), (zD m.symm b3 ft.lt).symm, (zD s.symm b3 fu.lt).symm, (zD x.symm b3 fv.lt).symm, (zK y.symm b3 fw.lt).symm, (zK aa.symm b3 fx.lt).symm⟩))
 omega
 refine cQ (zX (yO (yK (w9a ?_))))
 refine qM wv ?_
 refine qM wv ?_
 refine qD rfl (zM dI (v := wv) rfl bq.read) (qD rfl (xY rfl rfl (by omega)) (qD rfl (zF dI sz4 (v := wv) rfl rfl bq.read (by omega) (by omega)) (qD rfl (xQ (r := ws.getD ((ws.length : Int) - 1).toNat false) rfl ag4 (z := (ws.length : Int) - 1) rfl bq.read (cM au.pins wv) (by omega) (by omega)) (qM (.bool (ws.getD ((ws.length : Int) - 1).toNat false)) ?_))))
 refine qe (zA ?_)
 refine cP (zP (zQ (v := .bool (ws.getD ((ws.length : Int) - 1).toNat false)) rfl rfl rfl ?_))
 have hkn : a = ns.length := by omega
 subst hkn
 exact ⟨_, cgA eB ((cgA (fun i => ws.getD i false) (show ((ws.length : Int) - 1).toNat = ns.length - 1 by omega)).trans (gm_last hf hgm)), au⟩
end SG1
namespace SG2
open NB4 VB1
variable {G : Pin} {x l : Value} {xs : List (Int × Int)} {ls : List Int} {gr : Bool}
theorem l10Best_spec {w : World} (hP : Pins G w) (hx : RSl eP2 G x xs) (hl : RSl eInt G l ls) (h0 : 0 < ls.length) (hb : ∀ o ∈ ls, 0 ≤ o ∧ o < (xs.length : Int)) (hg : GdAt xs xs.length) :
  Calls Tryz.prog 73 #[x, l, .bool gr] w fun e w' => ∃ G', e = .returned (.agg #[.int .i64 (bstK gr xs ls ls.length).1, .int .i64 (bstK gr xs ls ls.length).2]) ∧ Ext noS G w G' w' := by
 refine zY (n := 46) Tryz.func73 Tryz.ntmps73 rfl rfl ?_
 have af := exr noS hP
 have hxm := hx.max
 have hlm := hl.max
 have b8 := hb _ (yE (d := (0 : Int)) h0)
 refine w9d ?_
 refine qI rfl (yI [vJ 0, vJ 0] zr27 rfl af.pins (fun b1 w2 ca aq bf bg => ?_))
 have m := af.step bf bg
 have bh : w.heap.size ≤ b1 := by have := af.size; omega
 refine qe (w9a ?_)
 refine qM x ?_
 refine qM l ?_
 refine qD rfl (zF dE sz3 (v := l) rfl rfl hl (by omega) (by omega)) (qD rfl (zG (r := ls.getD 0 0) rfl ag3 (z := 0) rfl hl m.pins (by omega) (by omega)) (qD rfl (zF dK sz27 (v := x) rfl rfl hx (by omega) (by omega)) ?_))
 obtain ⟨cb, bi, bj, cc⟩ := vA (j := (ls.getD 0 0).toNat) default (hx.at (z := ls.getD 0 0) (by omega) (by omega)) rfl
 obtain rfl := bi
 refine qD rfl (bj ag27 sz27 rfl m.pins) (qI rfl (yI [vJ 0, vJ 0] zr27 rfl m.pins (fun ah cd bk bl bm ar => ?_)))
 have au := m.step bm ar
 have ai := zI (cgA some bk) aq.lt
 have aj : w.heap.size ≤ ah := by have := m.size; omega
 refine q0 rfl rfl rfl (o_stp (cs' := [vJ ((xs.getD (ls.getD 0 0).toNat default).1), vJ ((xs.getD (ls.getD 0 0).toNat default).2)]) (us := [vJ ((xs.getD (ls.getD 0 0).toNat default).1), vJ ((xs.getD (ls.getD 0 0).toNat default).2)]) (v := .agg #[vJ ((xs.getD (ls.getD 0 0).toNat default).1), vJ ((xs.getD (ls.getD 0 0).toNat default).2)]) sz27 rfl rfl rfl (yQ (by rfl) (by rfl)) au.pins bl (cE rfl) rfl (fun ce bn bo av cf => ?_))
 refine qe (zA (w9b ?_))
 refine qM (vJ 0) ?_
 refine qe (zA ?_)
 refine zZ (yR (fun k en W => ∃ (aw : Nat → Value) (i : Nat) (bt : Int) (bz : Int) (q : Pin), en = (upd (upd (upd (upd (upd (upd aw 0 x) 1 l) 2 (.bool gr)) 6 (vP b1)) 7 (vP ah)) 8 (vJ (i : Int))) ∧ k = ls.length - i ∧ Ext noS G w q W ∧ Pin.le G q ∧ (i ≤ ls.length) ∧ (bt, bz) = bstK gr xs ls i ∧ (Bx q W b1 [vJ 0, vJ 0]) ∧ (Bx q W ah [vJ bt, vJ bz])) _ ⟨_, 0, (xs.getD (ls.getD 0 0).toNat default).1, (xs.getD (ls.getD 0 0).toNat default).2, G, (pS 8 (pS 7 (pS 6 (pS 2 (pS 1 (pU 0)))))), rfl, (au.write bo av ((zS aj))), cJ _, cI _, rfl, ((aq.below ar).keptA av ai.symm), bn⟩ ?_)
 rintro cg _ ch ⟨aw, i, bt, bz, q, rfl, ci, a, c, hi, hbt, ak, al⟩
 refine w9b ?_
 refine qM (vJ (i : Int)) ?_
 refine qM l ?_
 refine qD rfl (zM dE (v := l) rfl hl) (qD rfl (yU rfl rfl) (qe (zA ?_)))
 refine yC (p := ((i : Int) : Int) < (ls.length : Int)) rfl rfl (fun bp => ?_) (fun bp => ?_)
 have hgb : GoodD bt bz := by have h9 := eP (gr := gr) hg hb (k := i) (by omega) h0; rw [← hbt] at h9; exact h9
 have hbi := hb _ (yE (d := (0 : Int)) (show i < ls.length by omega))
 have hgx := hg (ls.getD i 0).toNat (by omega)
 have hgbt := hgb.top
 have hgbp := hgb.pow
 have hgxt := hgx.top
 have hgxp := hgx.pow
 refine cO (zA (zB ?_))
 refine zZ (w9d ?_)
 refine qM x ?_
 refine qM l ?_
 refine qM (vJ (i : Int)) ?_
 refine qD rfl (zF dE sz3 (v := l) rfl rfl hl (by omega) (by omega)) (qD rfl (zG (r := ls.getD i 0) rfl ag3 (z := (i : Int)) rfl hl (cC a.pins c) (by omega) (by omega)) (qD rfl (zF dK sz27 (v := x) rfl rfl hx (by omega) (by omega)) ?_))
 obtain ⟨cj, bq, br, ck⟩ := vA (j := (ls.getD i 0).toNat) default (hx.at (z := ls.getD i 0) (by omega) (by omega)) rfl
 obtain rfl := bq
 refine qD rfl (br ag27 sz27 rfl (cC a.pins c)) (qI rfl (yI [vJ 0, vJ 0] zr27 rfl a.pins (fun bs cl ay bu bv am => ?_)))
 have az := a.step bv am
 have a0 := zI (cgA some ay) ak.lt
 have a1 := zI (cgA some ay) al.lt
 have a2 : w.heap.size ≤ bs := by have := a.size; omega
 refine q0 rfl rfl rfl (o_stp (cs' := [vJ ((xs.getD (ls.getD i 0).toNat default).1), vJ ((xs.getD (ls.getD i 0).toNat default).2)]) (us := [vJ ((xs.getD (ls.getD i 0).toNat default).1), vJ ((xs.getD (ls.getD i 0).toNat default).2)]) (v := .agg #[vJ ((xs.getD (ls.getD i 0).toNat default).1), vJ ((xs.getD (ls.getD i 0).toNat default).2)]) sz27 rfl rfl rfl (yQ (by rfl) (by rfl)) az.pins bu (cE rfl) rfl (fun cm bw bx an cn => ?_))
 obtain ⟨co, aa, f, ab, a3⟩ := bw.shut (az.write bx an ((zS a2))) a2
 have a4 := ((ak.below am).keptA an a0.symm).moreA a3 a0.symm
 have ac := ((al.below am).keptA an a1.symm).moreA a3 a1.symm
 refine qe (w9a ?_)
 refine qM (.bool gr) ?_
 refine qM (.bool gr) ?_
 refine qb (t := 30) rfl (fun b => ?_) (fun b => ?_)
 refine qN (yA (cs := [vJ bt, vJ bz]) ag27 sz27 rfl (fun j u hj => ac.cell (by simpa using hj))) ?_
 refine qN (yA (cs := [vJ ((xs.getD (ls.getD i 0).toNat default).1), vJ ((xs.getD (ls.getD i 0).toNat default).2)]) ag27 sz27 rfl (fun j u hj => f.pins _ _ _ (ab _ _ (by simpa using hj)))) ?_
 refine q1g rfl rfl rfl rfl rfl rfl (zL (vs := [.agg #[vJ bt, vJ bz], .agg #[vJ ((xs.getD (ls.getD i 0).toNat default).1), vJ ((xs.getD (ls.getD i 0).toNat default).2)]]) Tryz.func31 nm31 rfl rfl rfl ?_)
 refine cD (qT (t := bt) (z := bz) (s := (xs.getD (ls.getD i 0).toNat default).1) (y := (xs.getD (ls.getD i 0).toNat default).2) f.pins (by omega) (by omega) (by omega) (by omega)) ?_
 rintro _ cp ⟨a5, rfl, g⟩
 refine rt9 ?_
 have ad := f.tr g
 have a6 := a4.ext g
 have a7 := ac.ext g
 refine qD rfl (yB (v := .bool (decide (scI 24 bt bz < scI 24 ((xs.getD (ls.getD i 0).toNat default).1) ((xs.getD (ls.getD i 0).toNat default).2)))) rfl rfl) (qM (.bool (decide (scI 24 bt bz < scI 24 ((xs.getD (ls.getD i 0).toNat default).1) ((xs.getD (ls.getD i 0).toNat default).2)))) ?_)
 refine qbd (p := scI 24 bt bz < scI 24 ((xs.getD (ls.getD i 0).toNat default).1) ((xs.getD (ls.getD i 0).toNat default).2)) (t := 35) rfl (fun ao => ?_) (fun ao => ?_)
 refine qW ?_
 refine qW ?_
 refine qW ?_
 refine qX ?_
 refine qX ?_
 refine qX ?_
 refine qW ?_
 refine qD rfl (yB (v := .bool true) rfl rfl) (qe (zA ?_))
 refine qK rfl rfl (zC (qD rfl (yA (cs := [vJ ((xs.getD (ls.getD i 0).toNat default).1), vJ ((xs.getD (ls.getD i 0).toNat default).2)]) ag27 sz27 rfl (fun j u hj => (cC ad.pins g.le) _ _ _ (ab _ _ (by simpa using hj)))) (q0 rfl rfl rfl (o_stp (cs' := [vJ ((xs.getD (ls.getD i 0).toNat default).1), vJ ((xs.getD (ls.getD i 0).toNat default).2)]) (us := [vJ ((xs.getD (ls.getD i 0).toNat default).1), vJ ((xs.getD (ls.getD i 0).toNat default).2)]) (v := .agg #[vJ ((xs.getD (ls.getD i 0).toNat default).1), vJ ((xs.getD (ls.getD i 0).toNat default).2)]) sz27 rfl rfl rfl (yQ (by rfl) (by rfl)) ad.pins a7 (cE rfl) rfl (fun cq b0 b2 a8 cr => ?_)))))
 refine qe (w9c ?_)
 refine qM (vJ (i : Int)) ?_
 refine qD rfl (yH rfl rfl (by omega)) (qM (vJ ((i : Int) + 1)) ?_)
 refine qe (zV (⟨_, ?_, _, rfl, _, i + 1, (xs.getD (ls.getD i 0).toNat default).1, (xs.getD (ls.getD i 0).toNat default).2, a5, (pS 8 (pS 7 (pS 6 (pS 2 (pS 1 (pU 0)))))), rfl, (ad.write b2 a8 ((zS aj))), (cB (cB c aa) g.le), (by omega), best_yes hbt (bt_ty b hgb.pow hgx.pow ao), (a6.keptA a8 ai.symm), b0⟩))
 omega
 refine qN (zN (v := .bool gr) rfl) ?_
 refine qN (xD rfl) ?_
 refine qN (zN (v := .bool (!gr)) rfl) ?_
 refine qbn (t := 38) rfl (fun a9 => ?_) (fun a9 => ?_)
 refine qW ?_
 refine qW ?_
 refine qW ?_
 refine qN (zU (v := .bool false) rfl rfl) ?_
 refine qD rfl (zU (v := .bool false) rfl rfl) (qe (zA ?_))
 refine xT rfl rfl (cO (w9c ?_))
 refine qM (vJ (i : Int)) ?_
 refine qD rfl (yH rfl rfl (by omega)) (qM (vJ ((i : Int) + 1)) ?_)
 refine qe (zV (⟨_, ?_, _, rfl, _, i + 1, bt, bz, a5, (pS 8 (pS 7 (pS 6 (pS 2 (pS 1 (pU 0)))))), rfl, ad, (cB (cB c aa) g.le), (by omega), best_no hbt (bt_tn b hgb.pow hgx.pow ao), a6, a7⟩))
 omega
 exact absurd (b.symm.trans a9) (by decide)
 refine qW ?_
 refine qW ?_
 refine qW ?_
 refine qD rfl (zU (v := .bool false) rfl rfl) (qM (.bool false) ?_)
 refine qN (zN (v := .bool gr) rfl) ?_
 refine qN (xD rfl) ?_
 refine qN (zN (v := .bool (!gr)) rfl) ?_
 refine qbn (t := 38) rfl (fun ba => ?_) (fun ba => ?_)
 exact absurd (ba.symm.trans b) (by decide)
 refine qN (yA (cs := [vJ ((xs.getD (ls.getD i 0).toNat default).1), vJ ((xs.getD (ls.getD i 0).toNat default).2)]) ag27 sz27 rfl (fun j u hj => f.pins _ _ _ (ab _ _ (by simpa using hj)))) ?_
 refine qN (yA (cs := [vJ bt, vJ bz]) ag27 sz27 rfl (fun j u hj => ac.cell (by simpa using hj))) ?_
 refine q1g rfl rfl rfl rfl rfl rfl (zL (vs := [.agg #[vJ ((xs.getD (ls.getD i 0).toNat default).1), vJ ((xs.getD (ls.getD i 0).toNat default).2)], .agg #[vJ bt, vJ bz]]) Tryz.func31 nm31 rfl rfl rfl ?_)
 refine cD (qT (t := (xs.getD (ls.getD i 0).toNat default).1) (z := (xs.getD (ls.getD i 0).toNat default).2) (s := bt) (y := bz) f.pins (by omega) (by omega) (by omega) (by omega)) ?_
 rintro _ ct ⟨bb, rfl, h⟩
 refine rt9 ?_
 have ae := f.tr h
 have bc := a4.ext h
 have bd := ac.ext h
 refine qN (yB (v := .bool (decide (scI 24 ((xs.getD (ls.getD i 0).toNat default).1) ((xs.getD (ls.getD i 0).toNat default).2) < scI 24 bt bz))) rfl rfl) ?_
 refine qD rfl (zU (v := .bool (decide (scI 24 ((xs.getD (ls.getD i 0).toNat default).1) ((xs.getD (ls.getD i 0).toNat default).2) < scI 24 bt bz))) rfl rfl) (qe (zA ?_))
 refine yC (p := scI 24 ((xs.getD (ls.getD i 0).toNat default).1) ((xs.getD (ls.getD i 0).toNat default).2) < scI 24 bt bz) rfl rfl (fun ap => ?_) (fun ap => ?_)
 refine zC (qD rfl (yA (cs := [vJ ((xs.getD (ls.getD i 0).toNat default).1), vJ ((xs.getD (ls.getD i 0).toNat default).2)]) ag27 sz27 rfl (fun j u hj => (cC ae.pins h.le) _ _ _ (ab _ _ (by simpa using hj)))) (q0 rfl rfl rfl (o_stp (cs' := [vJ ((xs.getD (ls.getD i 0).toNat default).1), vJ ((xs.getD (ls.getD i 0).toNat default).2)]) (us := [vJ ((xs.getD (ls.getD i 0).toNat default).1), vJ ((xs.getD (ls.getD i 0).toNat default).2)]) (v := .agg #[vJ ((xs.getD (ls.getD i 0).toNat default).1), vJ ((xs.getD (ls.getD i 0).toNat default).2)]) sz27 rfl rfl rfl (yQ (by rfl) (by rfl)) ae.pins bd (cE rfl) rfl (fun cu b3 b4 be cv => ?_))))
 refine qe (w9c ?_)
 refine qM (vJ (i : Int)) ?_
 refine qD rfl (yH rfl rfl (by omega)) (qM (vJ ((i : Int) + 1)) ?_)
 refine qe (zV (⟨_, ?_, _, rfl, _, i + 1, (xs.getD (ls.getD i 0).toNat default).1, (xs.getD (ls.getD i 0).toNat default).2, bb, (pS 8 (pS 7 (pS 6 (pS 2 (pS 1 (pU 0)))))), rfl, (ae.write b4 be ((zS aj))), (cB (cB c aa) h.le), (by omega), best_yes hbt (bt_fy b hgb.pow hgx.pow ap), (bc.keptA be ai.symm), b3⟩))
 omega
 refine cO (w9c ?_)
 refine qM (vJ (i : Int)) ?_
 refine qD rfl (yH rfl rfl (by omega)) (qM (vJ ((i : Int) + 1)) ?_)
 refine qe (zV (⟨_, ?_, _, rfl, _, i + 1, bt, bz, bb, (pS 8 (pS 7 (pS 6 (pS 2 (pS 1 (pU 0)))))), rfl, ae, (cB (cB c aa) h.le), (by omega), best_no hbt (bt_fn b hgb.pow hgx.pow ap), bc, bd⟩))
 omega
 refine cQ (zX (yO (yK (w9a ?_))))
 refine qD rfl (yA (cs := [vJ bt, vJ bz]) ag27 sz27 rfl (fun j u hj => al.cell (by simpa using hj))) (q0 rfl rfl rfl (o_stp (cs' := [vJ bt, vJ bz]) (us := [vJ bt, vJ bz]) (v := .agg #[vJ bt, vJ bz]) sz27 rfl rfl rfl (yQ (by rfl) (by rfl)) a.pins ak (cE rfl) rfl (fun cw b5 b6 b7 cx => ?_)))
 refine qe (zA ?_)
 refine cP (zP (jQ (cs := [vJ bt, vJ bz]) rfl rfl rfl ag27 sz27 (fun j u hj => by rw [cS]; exact b5.cell hj) ?_))
 have hin : i = ls.length := by omega
 rw [hin] at hbt
 exact ⟨_, by rw [← hbt], (a.write b6 b7 ((zS bh)))⟩
theorem vM {w : World} {ba e1 : Nat} (hP : Pins G w) (hx : Own eP2 e1 G w ba x xs) (hl : RSl eInt G l ls) (h0 : 0 < ls.length) (hb : ∀ o ∈ ls, 0 ≤ o ∧ o < (xs.length : Int)) (hg : GdAt xs xs.length) :
  Calls Tryz.prog 73 #[x, l, .bool gr] w fun e w' => ∃ G', e = .returned (.agg #[.int .i64 (bstK gr xs ls ls.length).1, .int .i64 (bstK gr xs ls ls.length).2]) ∧ Ext noS G w G' w' := by
 refine (l10Best_spec (cM hP x) hx.read (hl.mono (Gadd.le G w x)) h0 hb hg).mono ?_
 rintro e w' ⟨G', rfl, hX⟩
 exact ⟨G, rfl, vH hP hX⟩
end SG2
namespace SG3
open B1 C1 D1 E1 OR1 C61 C62 C63 N1 VB1 VB2 VB3 VB4 SG1 SG2
theorem pl62 : (Tryz.prog.underlying 62).bind (placesD Tryz.prog) = some [(0, 1), (1, 1), (2, 1)] := by kernel_rfl
theorem l10All_spec {w : World} {G : Pin} {v : Value} {fs : List Nd} (hP : Pins G w) (hv : RSl eNode G v fs) (hga : GoodP fs) :
  Calls Tryz.prog 43 [.agg #[v]].toArray w fun e w' => ∃ (u v x : Value) (xl xr : List (Int × Int)) (xn : List Bool) (G' : Pin), e = .returned (.tuple #[.agg #[u, v, x], .bool (spB fs)]) ∧ RSl eP2 G' u xl ∧ RSl eP2 G' v xr ∧ RSl eBool G' x xn ∧ (spB fs = true → xl = (stK fs fs.length).1 ∧ xr = (stK fs fs.length).2) ∧ Ext noS G w G' w' := by
 refine zY (n := 76) Tryz.func43 Tryz.ntmps43 rfl rfl ?_
 have e0 := exr noS hP
 have ho := (jV hga).opts
 have hha := hga.hi
 have hla := hga.lo
 have hvm := hv.max
 refine w9d ?_
 refine qI rfl (xH [v] (v := .agg #[v]) rfl rfl e0.pins (fun b1 w2 ur n8 n9 oa => ?_))
 have ob : w.heap.size ≤ b1 := by have := e0.size; omega
 obtain ⟨G9, av, e1, bw, ut⟩ := n8.shut (e0.step n9 oa) ob
 refine qI rfl (yI [vN, vN, vN] zr62 rfl e1.pins (fun bx uu uv hc oc od => ?_))
 have e2 := e1.step oc od
 have hd : w.heap.size ≤ bx := by have := e1.size; omega
 refine qM (.bool false) ?_
 refine qe (w9a ?_)
 refine qD rfl (yS [vN, vN, vN] [vN, vN, vN] [] dR zr62 rfl pl62 rfl (fun _ h => by cases h) rfl) (qI rfl (yI [vN, vN, vN] zr62 rfl e2.pins (fun ag uw oe og oh he => ?_)))
 have hf := e2.step oh he
 have ab := zI (cgA some oe) hc.lt
 have ac : w.heap.size ≤ ag := by have := e2.size; omega
 refine q0 rfl rfl rfl (o_stp (cs' := [vN, vN, vN]) (us := [vN, vN, vN]) (v := .agg #[vN, vN, vN]) sz62 rfl rfl rfl (tT (by rfl) (by rfl) (by rfl)) hf.pins og (cE rfl) rfl (fun ux oi oj hg uy => ?_))
 refine qe (zA (w9b ?_))
 refine qM (vJ 0) ?_
 refine qe (zA ?_)
 refine zZ (yR (fun k en W => ∃ (hh : Nat → Value) (a : Nat) (lv : Value) (rv : Value) (nv : Value) (xl : List (Int × Int)) (xr : List (Int × Int)) (xn : List Bool) (GA : Pin), en = (upd (upd (upd (upd hh 1 (vP b1)) 2 (vP bx)) 4 (vP ag)) 5 (vJ (a : Int))) ∧ k = fs.length - a ∧ Ext noS G w GA W ∧ Pin.le G9 GA ∧ (a ≤ fs.length) ∧ (StB fs a xl xr) ∧ (xn.length = a) ∧ (Own eP2 27 GA W w.heap.size lv (xl)) ∧ (Own eP2 27 GA W w.heap.size rv (xr)) ∧ (Own eBool 4 GA W w.heap.size nv (xn)) ∧ (Bx GA W bx [vN, vN, vN]) ∧ (Bx GA W ag [lv, rv, nv]) ∧ (Apart lv.ownBlock rv.ownBlock) ∧ (Apart lv.ownBlock nv.ownBlock) ∧ (Apart lv.ownBlock (some bx)) ∧ (Apart lv.ownBlock (some ag)) ∧ (Apart rv.ownBlock nv.ownBlock) ∧ (Apart rv.ownBlock (some bx)) ∧ (Apart rv.ownBlock (some ag)) ∧ (Apart nv.ownBlock (some bx)) ∧ (Apart nv.ownBlock (some ag))) _ ⟨_, 0, vN, vN, vN, [], [], [], G9, (pS 5 (pS 4 (pS 2 (pU 1)))), rfl, (hf.write oj hg ((zS ac))), cJ _, cI _, StB.start, rfl, (Own.nil _ _ _ _ _), (Own.nil _ _ _ _ _), (Own.nil _ _ _ _ _), ((hc.below he).keptA hg ab.symm), oi, apart_none, apart_none, apart_none, apart_none, apart_none, apart_none, apart_none, apart_none, apart_none⟩ ?_)
 rintro uz _ u0 ⟨hh, a, lv, rv, nv, xl, xr, xn, GA, rfl, u1, bz, s, hk, hst, hxn, e3, e4, e5, hl, hm, ah, ai, aj, a5, ak, al, af, am, y⟩
 have hxl := hst.len.1
 have hxr := hst.len.2
 refine w9b ?_
 refine qM (vJ (a : Int)) ?_
 refine qD rfl (zH (k := 0) rfl dJ rfl nz30 rfl) (qD rfl (zJ (u := v) ag30 rfl ((cC bz.pins s) _ _ _ (bw 0 _ rfl))) (qD rfl (zM dF (v := v) rfl hv) (qD rfl (yU rfl rfl) (qe (zA ?_)))))
 refine yC (p := ((a : Int) : Int) < (fs.length : Int)) rfl rfl (fun ol => ?_) (fun ol => ?_)
 have hpt := opt_part hga (z := (a : Int)) (by omega)
 have hpl := hpt.1.2
 have hph := hpt.2.1
 have hoo := xB ho (show a < fs.length by omega)
 have hlen := (jV hga).lens a (by omega)
 refine cO (zA (zB ?_))
 refine zZ (w9d ?_)
 refine qD rfl (yA (cs := [v]) ag32 sz32 rfl (fun j u hj => (cC bz.pins s) _ _ _ (bw _ _ (by simpa using hj)))) (qM (vJ (a : Int)) ?_)
 refine qI rfl (zL (vs := [.agg #[v], vJ (a : Int)]) Tryz.func71 nm71 rfl rfl rfl ?_)
 refine cD (l3Part_spec bz.pins (hv.mono (cB av s)) (jV hga) (by omega)) ?_
 rintro _ u2 ⟨om, u3, rfl, oo, d⟩
 refine rt9 ?_
 have hn := bz.tr d
 refine qI rfl (zL (vs := [.agg #[om]]) Tryz.func37 nm37 rfl rfl rfl ?_)
 refine cD (l6Canon_spec hn.pins oo hpt.1.1 ⟨hpl, by omega⟩) ?_
 rintro _ u4 ⟨b, a9, u5, rfl, aa, op, hp, e6, f⟩
 refine rt9 ?_
 have e7 := hn.tr f
 have hq := (e3.ext d).ext f
 have hr := (e4.ext d).ext f
 have hs := (e5.ext d).ext f
 have ht := (hl.ext d).ext f
 have hu := (hm.ext d).ext f
 refine qI rfl (yI [vN] zr32 rfl e7.pins (fun oq u6 cz os ot b0 => ?_))
 have hw := e7.step ot b0
 have hx := zE (cgA some cz) hq.lt
 have hy := zE (cgA some cz) hr.lt
 have hz := zE (cgA some cz) hs.lt
 have h0 := zI (cgA some cz) ht.lt
 have h1 := zI (cgA some cz) hu.lt
 have h2 : w.heap.size ≤ oq := by have := e7.size; omega
 refine q0 rfl rfl rfl (o_stp (cs' := [a9]) (us := [a9]) (v := .agg #[a9]) sz32 rfl rfl rfl (yZ e6.one) hw.pins os (cE rfl) rfl (fun u7 ou ov b2 u8 => ?_))
 obtain ⟨u9, m, e8, h3, c0⟩ := ou.shut (hw.write ov b2 ((zS h2))) h2
 refine qe (w9a ?_)
 have hce : eqG b (den fs a) := by have h9 := op; rw [hpt.2.2, Int.toNat_natCast] at h9; exact h9
 refine qD rfl (yA (cs := [a9]) ag32 sz32 rfl (fun j u hj => e8.pins _ _ _ (h3 _ _ (by simpa using hj)))) (qI rfl (zL (vs := [.agg #[a9]]) Tryz.func56 nm56 rfl rfl rfl ?_))
 refine cD (l7Of_spec e8.pins (e6.mono m) hp aa) ?_
 rintro _ va ⟨vb, rfl, c⟩
 refine rt9 ?_
 have e9 := e8.tr c
 have h5 := (((hq.below b0).keptA b2 hx.symm).moreA m c0 hx.symm).ext c
 have h6 := (((hr.below b0).keptA b2 hy.symm).moreA m c0 hy.symm).ext c
 have h7 := (((hs.below b0).keptA b2 hz.symm).moreA m c0 hz.symm).ext c
 have ia := (((ht.below b0).keptA b2 h0.symm).moreA c0 h0.symm).ext c
 have ib := (((hu.below b0).keptA b2 h1.symm).moreA c0 h1.symm).ext c
 refine qM (.tuple #[.agg #[vJ (vgT b), vJ (vgP b)], .bool (vgB b)]) ?_
 refine qD rfl (yM (v := .agg #[vJ (vgT b), vJ (vgP b)]) rfl rfl) (qD rfl (yM (v := .bool (vgB b)) rfl rfl) (qI rfl (yI [vJ 0, vJ 0] zr27 rfl e9.pins (fun ow vc c1 ox oy b3 => ?_))))
 have ic := e9.step oy b3
 have ie := zE (cgA some c1) h5.lt
 have ig := zE (cgA some c1) h6.lt
 have ih := zE (cgA some c1) h7.lt
 have ii := zI (cgA some c1) ia.lt
 have ij := zI (cgA some c1) ib.lt
 have ik : w.heap.size ≤ ow := by have := e9.size; omega
 refine q0 rfl rfl rfl (o_stp (cs' := [vJ (vgT b), vJ (vgP b)]) (us := [vJ (vgT b), vJ (vgP b)]) (v := .agg #[vJ (vgT b), vJ (vgP b)]) sz27 rfl rfl rfl (yQ (by rfl) (by rfl)) ic.pins ox (cE rfl) rfl (fun fa oz o0 b4 vd => ?_))
 obtain ⟨aw, q, c2, dt, c3⟩ := oz.shut (ic.write o0 b4 ((zS ik))) ik
 have il := ((h5.below b3).keptA b4 ie.symm).moreA q c3 ie.symm
 have im := ((h6.below b3).keptA b4 ig.symm).moreA q c3 ig.symm
 have io := ((h7.below b3).keptA b4 ih.symm).moreA q c3 ih.symm
 have ip := ((ia.below b3).keptA b4 ii.symm).moreA c3 ii.symm
 have iq := ((ib.below b3).keptA b4 ij.symm).moreA c3 ij.symm
 refine qM (.bool (vgB b)) ?_
 refine qe (zA (w9b ?_))
 refine qM (.bool (vgB b)) ?_
 refine qD rfl (xD rfl) (qM (.bool (!(vgB b))) ?_)
 refine qbn (t := 30) rfl (fun b5 => ?_) (fun b5 => ?_)
 refine qW ?_
 refine qW ?_
 refine qD rfl (zU (v := .bool false) rfl rfl) (qe (zA ?_))
 refine xT rfl rfl (cO (zA (zB ?_)))
 refine yW (S := fun wz => Pins aw wz) (last := 5) (by kernel_rfl) rfl ?_
 have ba := bdr fa
 have a6 := c2.step (c2.pins.below ba) ba
 have du := il.below ba
 have dv := im.below ba
 have dw := io.below ba
 have dx := ip.below ba
 have dy := iq.below ba
 refine dT (i := 0) rfl rfl (by kernel_rfl) (fun _ hS => yA (cs := [vJ (vgT b), vJ (vgP b)]) ag27 sz27 rfl (fun j u hj => hS _ _ _ (dt _ _ (by simpa using hj)))) a6.pins ?_
 refine dT (i := 1) rfl rfl (by kernel_rfl) (fun _ hS => yA (cs := [vJ (vgT b), vJ (vgP b)]) ag27 sz27 rfl (fun j u hj => hS _ _ _ (dt _ _ (by simpa using hj)))) a6.pins ?_
 refine jJ (i := 2) (j := 3) (by kernel_rfl) ?_ ?_
 refine (dQ (i := 2) rfl rfl (yI [vJ 0, vJ 0] zr27 rfl a6.pins (fun o1 ve c4 ir o2 b6 => ?_)))
 have dz := a6.step o2 b6
 have it := du.below b6
 have iu := dv.below b6
 have iv := dw.below b6
 have iw := dx.below b6
 have ix := dy.below b6
 have o3 : w.heap.size ≤ o1 := by have := a6.size; omega
 refine ⟨fun _ => dz.pins, ?_⟩
 refine dP (i := 3) rfl rfl (yI [vJ 0, vJ 0] zr27 rfl dz.pins (fun o4 vf b7 o5 o6 bb => ?_))
 have fb := dz.step o6 bb
 have iy := zE (cgA some b7) it.lt
 have iz := zI (cgA some b7) ix.lt
 have i0 := zI (cgA some b7) ir.lt
 have o7 : w.heap.size ≤ o4 := by have := dz.size; omega
 refine ⟨fun _ => fb.pins, ?_⟩
 refine dO (i := 4) (xK (i := 4) rfl rfl rfl (zR rfl _) (o_stp (cs' := [vJ (vgT b), vJ (vgP b)]) (us := [vJ (vgT b), vJ (vgP b)]) (v := .agg #[vJ (vgT b), vJ (vgP b)]) sz27 rfl rfl rfl (yQ (by rfl) (by rfl)) fb.pins (ir.below bb) (cE rfl) rfl (fun vg o8 o9 bc vh => ?_)))
 have fc := fb.write o9 bc ((zS o3))
 refine ⟨fun _ => fc.pins, ?_⟩
 refine dO (i := 5) (xK (i := 5) rfl rfl rfl (zR rfl _) (o_stp (cs' := [vJ (vgT b), vJ (vgP b)]) (us := [vJ (vgT b), vJ (vgP b)]) (v := .agg #[vJ (vgT b), vJ (vgP b)]) sz27 rfl rfl rfl (yQ (by rfl) (by rfl)) fc.pins (o5.keptA bc i0) (cE rfl) rfl (fun vi pa pb bd vj => ?_)))
 have fd := fc.write pb bd ((zS o7))
 have i1 := ((ix.below bb).keptA bc (zI (cgA some c4) dy.lt).symm).keptA bd iz.symm
 refine ⟨fun h => absurd rfl h, ?_⟩
 refine yL (by kernel_rfl) (zA (w9b ?_))
 refine qM (.bool (vgB b)) ?_
 refine qD rfl (xD rfl) (qe (zA ?_))
 refine xU rfl rfl (fun fe => ?_) (fun fe => ?_)
 refine cO (w9a ?_)
 refine qD rfl (zH (k := 0) rfl dR rfl nz59 rfl) (qD rfl (zJ (u := lv) ag59 rfl (i1.cell (o := 0) rfl)) (qD rfl (yA (cs := [vJ (vgT b), vJ (vgP b)]) ag27 sz27 rfl (fun j u hj => (o8.keptA bd i0.symm).cell (by simpa using hj))) (qI rfl (qP (E := eP2) (e := 27) [vJ (vgT b), vJ (vgP b)] (vgT b, vgP b) dK sz27 zr27 rfl rfl (by decide) fd.pins (fun i2 pc pd pe be vk => ?_)))))
 have ff := fd.step pe be
 have i3 := (((it.below bb).keptA bc (zE (cgA some c4) du.lt).symm).keptA bd iy.symm).below be
 have i4 := (((iu.below bb).keptA bc (zE (cgA some c4) dv.lt).symm).keptA bd (zE (cgA some b7) iu.lt).symm).below be
 have i5 := (((iv.below bb).keptA bc (zE (cgA some c4) dw.lt).symm).keptA bd (zE (cgA some b7) iv.lt).symm).below be
 have i6 := (((iw.below bb).keptA bc (zI (cgA some c4) dx.lt).symm).keptA bd (zI (cgA some b7) iw.lt).symm).below be
 have i7 := i1.below be
 have pf := pd.weaken fd.size
 refine qI rfl (oA (E := eP2) (v := lv) (u := i2) 16 dK ap27 (by decide) rfl rfl ff.pins i3 pf.src (ff.size) (fun b8 vl fg pg b9 d0 => ?_))
 have i8 := ff.write pg b9 ((yD i3))
 have i9 := zD ah.symm d0 i4.lt
 have ja := zD ai.symm d0 i5.lt
 have ph := zK aj.symm d0 i6.lt
 have d1 := zK a5.symm d0 i7.lt
 have vm := la1 xl (vgT b, vgP b)
 refine qD rfl (zH (k := 0) rfl dR rfl nz59 rfl) (q0 rfl rfl rfl (o_stp (cs' := [b8, rv, nv]) (us := [b8]) (v := b8) sz59 rfl rfl (qR fg.one) (yZ fg.one) i8.pins (i7.keptA b9 a5.symm) (cE rfl) rfl (fun vn jb pi ca vo => ?_)))
 have fh := i8.write pi ca ((zS ac))
 refine qe (w9a ?_)
 refine qD rfl (zH (k := 1) rfl dR rfl nz59 rfl) (qD rfl (zJ (u := rv) ag59 rfl (jb.cell (o := 1) rfl)) (qD rfl (yA (cs := [vJ (vgT b), vJ (vgP b)]) ag27 sz27 rfl (fun j u hj => (((pa.below be).keptA b9 iy).keptA ca iz).cell (by simpa using hj))) (qI rfl (qP (E := eP2) (e := 27) [vJ (vgT b), vJ (vgP b)] (vgT b, vgP b) dK sz27 zr27 rfl rfl (by decide) fh.pins (fun jc pj pk pl cb vp => ?_)))))
 have fi := fh.step pl cb
 have jd := ((i4.keptA b9 ah.symm).keptA ca af).below cb
 have je := ((i5.keptA b9 ai.symm).keptA ca y).below cb
 have jf := (fg.keptA ca d1.symm).below cb
 have jg := ((i6.keptA b9 aj.symm).keptA ca ab.symm).below cb
 have jh := jb.below cb
 have pm := pk.weaken fh.size
 refine qI rfl (oA (E := eP2) (v := rv) (u := jc) 16 dK ap27 (by decide) rfl rfl fi.pins jd pm.src (fi.size) (fun c5 vq fj pn c6 d2 => ?_))
 have ji := fi.write pn c6 ((yD jd))
 have jj := zD ak.symm d2 je.lt
 have po := zD i9.symm d2 jf.lt
 have pp := zK al.symm d2 jg.lt
 have fk := zK af.symm d2 jh.lt
 have vr := la1 xr (vgT b, vgP b)
 refine qD rfl (zH (k := 1) rfl dR rfl nz59 rfl) (q0 rfl rfl rfl (o_stp (cs' := [b8, c5, nv]) (us := [c5]) (v := c5) sz59 rfl rfl (qR fj.one) (yZ fj.one) ji.pins (jh.keptA c6 af.symm) (cE rfl) rfl (fun vt jk pq c7 vu => ?_)))
 have fl := ji.write pq c7 ((zS ac))
 refine qe (zA (zC ?_))
 refine qD rfl (zH (k := 2) rfl dR rfl nz60 rfl) (qD rfl (zJ (u := nv) ag60 rfl (jk.cell (o := 2) rfl)) (qM (.bool (vgB b)) ?_))
 refine qI rfl (yV (E := eBool) (e := 4) [.bool (vgB b)] [vgB b] dI sz4 zr4 (by exact xP (by rfl)) (yZ (by rfl)) rfl rfl rfl rfl (by decide) fl.pins (fun jl pr ps pt cc vv => ?_))
 have fm := fl.step pt cc
 have jm := ((je.keptA c6 ak.symm).keptA c7 y).below cc
 have jn := ((jf.keptA c6 i9.symm).keptA c7 d1.symm).below cc
 have jo := (fj.keptA c7 fk.symm).below cc
 have jp := ((jg.keptA c6 al.symm).keptA c7 ab.symm).below cc
 have jq := jk.below cc
 have pu := ps.weaken fl.size
 refine qI rfl (oA (E := eBool) (v := nv) (u := jl) 1 dI ap4 (by decide) rfl rfl fm.pins jm pu.src (fm.size) (fun d3 vw fn pv c8 d4 => ?_))
 have jr := fm.write pv c8 ((yD jm))
 have pw := zD ja.symm d4 jn.lt
 have px := zD jj.symm d4 jo.lt
 have py := zK am.symm d4 jp.lt
 have js := zK y.symm d4 jq.lt
 have vx := la1 xn (vgB b)
 refine qD rfl (zH (k := 2) rfl dR rfl nz60 rfl) (q0 rfl rfl rfl (o_stp (cs' := [b8, c5, d3]) (us := [d3]) (v := d3) sz60 rfl rfl (qR fn.one) (yZ fn.one) jr.pins (jq.keptA c8 y.symm) (cE rfl) rfl (fun vy pz p0 c9 vz => ?_)))
 have p1 := (jn.keptA c8 ja.symm).keptA c9 d1.symm
 have p2 := (jo.keptA c8 jj.symm).keptA c9 fk.symm
 have p3 := fn.keptA c9 js.symm
 have p4 := (jp.keptA c8 am.symm).keptA c9 ab.symm
 refine qe (w9c ?_)
 refine qM (vJ (a : Int)) ?_
 refine qD rfl (yH rfl rfl (by omega)) (qM (vJ ((a : Int) + 1)) ?_)
 refine qe (zV (⟨_, ?_, _, rfl, _, a + 1, b8, c5, d3, xl ++ ([(vgT b, vgP b)]), xr ++ ([(vgT b, vgP b)]), xn ++ ([vgB b]), aw, (pS 5 (pS 4 (pS 2 (pU 1)))), rfl, (jr.write p0 c9 ((zS ac))), (cB (cB (cB (cB (cB s d.le) f.le) m) c.le) q), (by omega), hst.num ho (by omega) aa hce fe, (by simp; omega), p1, p2, p3, p4, pz, po, pw, ph.symm, d1.symm, px, pp.symm, fk.symm, py.symm, js.symm⟩))
 omega
 exact absurd (b5.symm.trans fe) (by decide)
 refine (dQ (i := 3) rfl rfl (yI [vJ 0, vJ 0] zr27 rfl a6.pins (fun p5 v0 da jt p6 cd => ?_)))
 have d5 := a6.step p6 cd
 have ju := du.below cd
 have jv := dv.below cd
 have jw := dw.below cd
 have jx := dx.below cd
 have jy := dy.below cd
 have jz := zE (cgA some da) du.lt
 have j0 := zI (cgA some da) dy.lt
 have p7 : w.heap.size ≤ p5 := by have := a6.size; omega
 refine ⟨fun _ => d5.pins, ?_⟩
 refine dP (i := 2) rfl rfl (yI [vJ 0, vJ 0] zr27 rfl d5.pins (fun p8 v1 ce p9 qa bf => ?_))
 have fo := d5.step qa bf
 have j1 := zI (cgA some ce) jt.lt
 have qb : w.heap.size ≤ p8 := by have := d5.size; omega
 refine ⟨fun _ => fo.pins, ?_⟩
 refine dO (i := 4) (xK (i := 4) rfl rfl rfl (zR rfl _) (o_stp (cs' := [vJ (vgT b), vJ (vgP b)]) (us := [vJ (vgT b), vJ (vgP b)]) (v := .agg #[vJ (vgT b), vJ (vgP b)]) sz27 rfl rfl rfl (yQ (by rfl) (by rfl)) fo.pins p9 (cE rfl) rfl (fun v2 qc qf bg v3 => ?_)))
 have fp := fo.write qf bg ((zS qb))
 refine ⟨fun _ => fp.pins, ?_⟩
 refine dO (i := 5) (xK (i := 5) rfl rfl rfl (zR rfl _) (o_stp (cs' := [vJ (vgT b), vJ (vgP b)]) (us := [vJ (vgT b), vJ (vgP b)]) (v := .agg #[vJ (vgT b), vJ (vgP b)]) sz27 rfl rfl rfl (yQ (by rfl) (by rfl)) fp.pins ((jt.below bf).keptA bg j1.symm) (cE rfl) rfl (fun v4 qg qh bh v5 => ?_)))
 have fq := fp.write qh bh ((zS p7))
 have j2 := ((jy.below bf).keptA bg (zI (cgA some ce) jy.lt).symm).keptA bh j0.symm
 refine ⟨fun h => absurd rfl h, ?_⟩
 refine yL (by kernel_rfl) (zA (w9b ?_))
 refine qM (.bool (vgB b)) ?_
 refine qD rfl (xD rfl) (qe (zA ?_))
 refine xU rfl rfl (fun fr => ?_) (fun fr => ?_)
 refine cO (w9a ?_)
 refine qD rfl (zH (k := 0) rfl dR rfl nz59 rfl) (qD rfl (zJ (u := lv) ag59 rfl (j2.cell (o := 0) rfl)) (qD rfl (yA (cs := [vJ (vgT b), vJ (vgP b)]) ag27 sz27 rfl (fun j u hj => (qc.keptA bh j1).cell (by simpa using hj))) (qI rfl (qP (E := eP2) (e := 27) [vJ (vgT b), vJ (vgP b)] (vgT b, vgP b) dK sz27 zr27 rfl rfl (by decide) fq.pins (fun j3 qi qj qk bi v6 => ?_)))))
 have ft := fq.step qk bi
 have j4 := (((ju.below bf).keptA bg (zE (cgA some ce) ju.lt).symm).keptA bh jz.symm).below bi
 have j5 := (((jv.below bf).keptA bg (zE (cgA some ce) jv.lt).symm).keptA bh (zE (cgA some da) dv.lt).symm).below bi
 have j6 := (((jw.below bf).keptA bg (zE (cgA some ce) jw.lt).symm).keptA bh (zE (cgA some da) dw.lt).symm).below bi
 have j7 := (((jx.below bf).keptA bg (zI (cgA some ce) jx.lt).symm).keptA bh (zI (cgA some da) dx.lt).symm).below bi
 have j8 := j2.below bi
 have ql := qj.weaken fq.size
 refine qI rfl (oA (E := eP2) (v := lv) (u := j3) 16 dK ap27 (by decide) rfl rfl ft.pins j4 ql.src (ft.size) (fun cf v7 fu qm cg d6 => ?_))
 have j9 := ft.write qm cg ((yD j4))
 have ka := zD ah.symm d6 j5.lt
 have kb := zD ai.symm d6 j6.lt
 have qn := zK aj.symm d6 j7.lt
 have d7 := zK a5.symm d6 j8.lt
 have v8 := la1 xl (vgT b, vgP b)
 refine qD rfl (zH (k := 0) rfl dR rfl nz59 rfl) (q0 rfl rfl rfl (o_stp (cs' := [cf, rv, nv]) (us := [cf]) (v := cf) sz59 rfl rfl (qR fu.one) (yZ fu.one) j9.pins (j8.keptA cg a5.symm) (cE rfl) rfl (fun v9 kc qo ch wa => ?_)))
 have fv := j9.write qo ch ((zS ac))
 refine qe (w9a ?_)
 refine qD rfl (zH (k := 1) rfl dR rfl nz59 rfl) (qD rfl (zJ (u := rv) ag59 rfl (kc.cell (o := 1) rfl)) (qD rfl (yA (cs := [vJ (vgT b), vJ (vgP b)]) ag27 sz27 rfl (fun j u hj => (((qg.below bi).keptA cg jz).keptA ch j0).cell (by simpa using hj))) (qI rfl (qP (E := eP2) (e := 27) [vJ (vgT b), vJ (vgP b)] (vgT b, vgP b) dK sz27 zr27 rfl rfl (by decide) fv.pins (fun kd qp qq qr ci wb => ?_)))))
 have fw := fv.step qr ci
 have ke := ((j5.keptA cg ah.symm).keptA ch af).below ci
 have kf := ((j6.keptA cg ai.symm).keptA ch y).below ci
 have kg := (fu.keptA ch d7.symm).below ci
 have kh := ((j7.keptA cg aj.symm).keptA ch ab.symm).below ci
 have ki := kc.below ci
 have qs := qq.weaken fv.size
 refine qI rfl (oA (E := eP2) (v := rv) (u := kd) 16 dK ap27 (by decide) rfl rfl fw.pins ke qs.src (fw.size) (fun db wc fx qt dc d8 => ?_))
 have kj := fw.write qt dc ((yD ke))
 have kk := zD ak.symm d8 kf.lt
 have qu := zD ka.symm d8 kg.lt
 have qv := zK al.symm d8 kh.lt
 have fy := zK af.symm d8 ki.lt
 have wd := la1 xr (vgT b, vgP b)
 refine qD rfl (zH (k := 1) rfl dR rfl nz59 rfl) (q0 rfl rfl rfl (o_stp (cs' := [cf, db, nv]) (us := [db]) (v := db) sz59 rfl rfl (qR fx.one) (yZ fx.one) kj.pins (ki.keptA dc af.symm) (cE rfl) rfl (fun we kl qw dd wf => ?_)))
 have fz := kj.write qw dd ((zS ac))
 refine qe (zA (zC ?_))
 refine qD rfl (zH (k := 2) rfl dR rfl nz60 rfl) (qD rfl (zJ (u := nv) ag60 rfl (kl.cell (o := 2) rfl)) (qM (.bool (vgB b)) ?_))
 refine qI rfl (yV (E := eBool) (e := 4) [.bool (vgB b)] [vgB b] dI sz4 zr4 (by exact xP (by rfl)) (yZ (by rfl)) rfl rfl rfl rfl (by decide) fz.pins (fun km qx qy qz cj wg => ?_))
 have f0 := fz.step qz cj
 have kn := ((kf.keptA dc ak.symm).keptA dd y).below cj
 have ko := ((kg.keptA dc ka.symm).keptA dd d7.symm).below cj
 have kp := (fx.keptA dd fy.symm).below cj
 have kq := ((kh.keptA dc al.symm).keptA dd ab.symm).below cj
 have kr := kl.below cj
 have q2 := qy.weaken fz.size
 refine qI rfl (oA (E := eBool) (v := nv) (u := km) 1 dI ap4 (by decide) rfl rfl f0.pins kn q2.src (f0.size) (fun d9 wh f1 q3 de ea => ?_))
 have ks := f0.write q3 de ((yD kn))
 have q4 := zD kb.symm ea ko.lt
 have q5 := zD kk.symm ea kp.lt
 have q6 := zK am.symm ea kq.lt
 have kt := zK y.symm ea kr.lt
 have wi := la1 xn (vgB b)
 refine qD rfl (zH (k := 2) rfl dR rfl nz60 rfl) (q0 rfl rfl rfl (o_stp (cs' := [cf, db, d9]) (us := [d9]) (v := d9) sz60 rfl rfl (qR f1.one) (yZ f1.one) ks.pins (kr.keptA de y.symm) (cE rfl) rfl (fun wj q7 q8 df wk => ?_)))
 have q9 := (ko.keptA de kb.symm).keptA df d7.symm
 have ra := (kp.keptA de kk.symm).keptA df fy.symm
 have rb := f1.keptA df kt.symm
 have rc := (kq.keptA de am.symm).keptA df ab.symm
 refine qe (w9c ?_)
 refine qM (vJ (a : Int)) ?_
 refine qD rfl (yH rfl rfl (by omega)) (qM (vJ ((a : Int) + 1)) ?_)
 refine qe (zV (⟨_, ?_, _, rfl, _, a + 1, cf, db, d9, xl ++ ([(vgT b, vgP b)]), xr ++ ([(vgT b, vgP b)]), xn ++ ([vgB b]), aw, (pS 5 (pS 4 (pS 2 (pU 1)))), rfl, (ks.write q8 df ((zS ac))), (cB (cB (cB (cB (cB s d.le) f.le) m) c.le) q), (by omega), hst.num ho (by omega) aa hce fr, (by simp; omega), q9, ra, rb, rc, q7, qu, q4, qn.symm, d7.symm, q5, qv.symm, fy.symm, q6.symm, kt.symm⟩))
 omega
 exact absurd (b5.symm.trans fr) (by decide)
 refine qN (yA (cs := [a9]) ag32 sz32 rfl (fun j u hj => (cC c2.pins (cB c.le q)) _ _ _ (h3 _ _ (by simpa using hj)))) ?_
 refine q1g rfl rfl rfl rfl rfl rfl (zL (vs := [.agg #[a9]]) Tryz.func72 nm72 rfl rfl rfl ?_)
 refine cD (l7Game_spec c2.pins (e6.mono (cB (cB m c.le) q)) hp aa) ?_
 rintro _ f2 ⟨f3, rfl, g⟩
 refine rt9 ?_
 have eb := c2.tr g
 have f4 := il.ext g
 have f5 := im.ext g
 have f6 := io.ext g
 have ku := ip.ext g
 have kv := iq.ext g
 refine qD rfl (yB (v := .bool (decP (NumD b))) rfl rfl) (qe (zA ?_))
 refine c_if rfl rfl (fun a7 => ?_) (fun a7 => ?_)
 refine w9d ?_
 refine qD rfl (yA (cs := [lv, rv, nv]) ag62 sz62 rfl (fun j u hj => kv.cell (by simpa using hj))) (q0 rfl rfl rfl (o_stp (cs' := [lv, rv, nv]) (us := [lv, rv, nv]) (v := .agg #[lv, rv, nv]) sz62 rfl rfl rfl (tT f4.one f5.one f6.one) eb.pins ku (cE rfl) rfl (fun wl rd re ec wm => ?_)))
 refine qM (.bool false) ?_
 refine qe (zA ?_)
 refine cP (zP (xF (cs := [lv, rv, nv]) (v := .bool false) rfl rfl rfl rfl rfl ag62 sz62 (fun j u hj => by rw [cS]; exact rd.cell hj) ?_))
 obtain ⟨wn, kw, rf, rg, kx⟩ := (f4.keptA ec aj).sealed (eb.write re ec ((zS hd)))
 obtain ⟨wo, ky, rh, ri, rj⟩ := ((f5.keptA ec al).moreO kw kx ah.symm).sealed rf
 obtain ⟨wp, kz, rk, rl, wq⟩ := (((f6.keptA ec am).moreO kw kx ai.symm).moreO ky rj ak.symm).sealed rh
 have hsb : spB fs = false := sp_nob (StB.bad (k := a) (by omega) aa hce (decP_true.1 a7) b5)
 rw [hsb]
 exact ⟨_, _, _, _, _, _, _, rfl, (rg.mono (cB ky kz)), (ri.mono kz), rl, (fun h => by cases h), rk⟩
 refine cO (zA (zB ?_))
 refine yW (S := fun wz => Pins f3 wz) (last := 5) (by kernel_rfl) rfl ?_
 have bj := bdr f2
 have a8 := eb.step (eb.pins.below bj) bj
 have ed := f4.below bj
 have ee := f5.below bj
 have ef := f6.below bj
 have eg := ku.below bj
 have eh := kv.below bj
 refine dT (i := 0) rfl rfl (by kernel_rfl) (fun _ hS => yA (cs := [vJ (vgT b), vJ (vgP b)]) ag27 sz27 rfl (fun j u hj => (cC hS g.le) _ _ _ (dt _ _ (by simpa using hj)))) a8.pins ?_
 refine dT (i := 1) rfl rfl (by kernel_rfl) (fun _ hS => yA (cs := [vJ (vgT b), vJ (vgP b)]) ag27 sz27 rfl (fun j u hj => (cC hS g.le) _ _ _ (dt _ _ (by simpa using hj)))) a8.pins ?_
 refine jJ (i := 2) (j := 3) (by kernel_rfl) ?_ ?_
 refine (dQ (i := 2) rfl rfl (yI [vJ 0, vJ 0] zr27 rfl a8.pins (fun rm wr dg k0 rn ck => ?_)))
 have ei := a8.step rn ck
 have k2 := ed.below ck
 have k3 := ee.below ck
 have k4 := ef.below ck
 have k5 := eg.below ck
 have k6 := eh.below ck
 have k7 := zE (cgA some dg) ed.lt
 have k8 := zE (cgA some dg) ee.lt
 have k9 := zE (cgA some dg) ef.lt
 have la := zI (cgA some dg) eg.lt
 have lb := zI (cgA some dg) eh.lt
 have lc : w.heap.size ≤ rm := by have := a8.size; omega
 refine ⟨fun _ => ei.pins, ?_⟩
 refine dP (i := 3) rfl rfl (yI [vJ 0, vJ 0] zr27 rfl ei.pins (fun ro ws cl rp rq bk => ?_))
 have f7 := ei.step rq bk
 have f8 := zE (cgA some cl) k2.lt
 have ld := zE (cgA some cl) k3.lt
 have lf := zE (cgA some cl) k4.lt
 have lg := zI (cgA some cl) k5.lt
 have f9 := zI (cgA some cl) k6.lt
 have ej := zI (cgA some cl) k0.lt
 have lh : w.heap.size ≤ ro := by have := ei.size; omega
 refine ⟨fun _ => f7.pins, ?_⟩
 refine dO (i := 4) (xK (i := 4) rfl rfl rfl (zR rfl _) (o_stp (cs' := [vJ (vgT b), vJ (vgP b)]) (us := [vJ (vgT b), vJ (vgP b)]) (v := .agg #[vJ (vgT b), vJ (vgP b)]) sz27 rfl rfl rfl (yQ (by rfl) (by rfl)) f7.pins (k0.below bk) (cE rfl) rfl (fun wt rr rs bl wu => ?_)))
 have ga := f7.write rs bl ((zS lc))
 refine ⟨fun _ => ga.pins, ?_⟩
 refine dO (i := 5) (xK (i := 5) rfl rfl rfl (zR rfl _) (o_stp (cs' := [vJ (vgT b), vJ (vgP b)]) (us := [vJ (vgT b), vJ (vgP b)]) (v := .agg #[vJ (vgT b), vJ (vgP b)]) sz27 rfl rfl rfl (yQ (by rfl) (by rfl)) ga.pins (rp.keptA bl ej) (cE rfl) rfl (fun gb rt ru bm wv => ?_)))
 have li := ga.write ru bm ((zS lh))
 refine ⟨fun h => absurd rfl h, ?_⟩
 refine yL (by kernel_rfl) (zA (w9b ?_))
 refine qM (.bool (vgB b)) ?_
 refine qD rfl (xD rfl) (qe (zA ?_))
 refine xU rfl rfl (fun lj => ?_) (fun lj => ?_)
 exact absurd (lj.symm.trans b5) (by decide)
 refine zB (yW (S := fun wz => BxR wz ag [lv, rv, nv] ∧ Pins f3 wz) (last := 9) (by kernel_rfl) rfl ?_)
 have ax := bdr gb
 have an := li.step (li.pins.below ax) ax
 have lk := (((k3.below bk).keptA bl k8.symm).keptA bm ld.symm).below ax
 have ay := (((k6.below bk).keptA bl lb.symm).keptA bm f9.symm).below ax
 refine dT (i := 0) rfl rfl (by kernel_rfl) (fun _ _ => zH (k := 1) rfl dR rfl nz59 rfl) ⟨ay.reads, an.pins⟩ ?_
 refine dT (i := 1) rfl rfl (by kernel_rfl) (fun _ hS => zJ (u := rv) ag59 rfl (hS.1 1 _ rfl)) ⟨ay.reads, an.pins⟩ ?_
 refine dT (i := 2) rfl rfl (by kernel_rfl) (fun _ _ => zH (k := 0) rfl dJ rfl nz30 rfl) ⟨ay.reads, an.pins⟩ ?_
 refine dT (i := 3) rfl rfl (by kernel_rfl) (fun _ hS => zJ (u := v) ag30 rfl ((cC hS.2 (cB (cB (cB (cB (cB (cB s d.le) f.le) m) c.le) q) g.le)) _ _ _ (bw 0 _ rfl))) ⟨ay.reads, an.pins⟩ ?_
 refine dT (i := 4) rfl rfl (by kernel_rfl) (fun _ _ => zN (v := vJ (a : Int)) rfl) ⟨ay.reads, an.pins⟩ ?_
 refine dT (i := 5) rfl rfl (by kernel_rfl) (fun _ _ => zF dF sz65 (v := v) rfl rfl hv (by omega) (by omega)) ⟨ay.reads, an.pins⟩ ?_
 refine dT (i := 6) rfl rfl (by kernel_rfl) (fun _ _ => xC (off := 0) dG rfl rfl nz56 (z := (a : Int)) (k := 0) rfl hv (by omega) (by omega)) ⟨ay.reads, an.pins⟩ ?_
 obtain ⟨rx, ll, ry⟩ := jZ (hv.at (z := (a : Int)) (by omega) (by omega)) (j := a) rfl
 have ww := ll.max
 refine dT (i := 7) rfl rfl (by kernel_rfl) (fun _ hS => ry ag56 rfl (cC hS.2 (cB (cB (cB (cB (cB (cB (cB av s) d.le) f.le) m) c.le) q) g.le))) ⟨ay.reads, an.pins⟩ ?_
 have rz := kF (fs := fs) (k := a) ho (by omega) aa hce ((kH aa hce).1.trans a7)
 refine dP (i := 8) rfl rfl (zL (vs := [rv, rx, .bool true]) Tryz.func73 nm73 rfl rfl rfl ?_)
 refine cD (vM (gr := true) an.pins lk (ll.mono (cB (cB (cB (cB (cB (cB (cB av s) d.le) f.le) m) c.le) q) g.le)) rz.1 (fun o h => by have h8 := hoo.1 o h; omega) (by rw [hst.len.2]; exact (hst.good ho (by omega)).2)) ?_
 rintro _ wx ⟨r0, rfl, ad⟩
 refine rt9 ?_
 have gd := an.tr ad
 have lm := ay.ext ad
 refine ⟨fun _ => ⟨lm.reads, (cC gd.pins ad.le)⟩, ?_⟩
 refine dO (i := 9) (xK (i := 9) rfl rfl rfl (zR rfl _) (o_stp (cs' := [vJ ((bstK true xr ((fs.getD a default).l) ((fs.getD a default).l).length).1), vJ ((bstK true xr ((fs.getD a default).l) ((fs.getD a default).l).length).2)]) (us := [vJ ((bstK true xr ((fs.getD a default).l) ((fs.getD a default).l).length).1), vJ ((bstK true xr ((fs.getD a default).l) ((fs.getD a default).l).length).2)]) (v := .agg #[vJ ((bstK true xr ((fs.getD a default).l) ((fs.getD a default).l).length).1), vJ ((bstK true xr ((fs.getD a default).l) ((fs.getD a default).l).length).2)]) sz27 rfl rfl rfl (yQ (by rfl) (by rfl)) gd.pins (((rr.keptA bm ej.symm).below ax).ext ad) (cE rfl) rfl (fun ge r1 r2 bn wy => ?_)))
 have ln := gd.write r2 bn ((zS lc))
 refine ⟨fun h => absurd rfl h, ?_⟩
 refine yL (by kernel_rfl) (zA (yW (S := fun wz => BxR wz ag [lv, rv, nv] ∧ Pins r0 wz) (last := 9) (by kernel_rfl) rfl ?_))
 have az := bdr ge
 have ao := ln.step (ln.pins.below az) az
 have lp := ((((((k2.below bk).keptA bl k7.symm).keptA bm f8.symm).below ax).ext ad).keptA bn k7.symm).below az
 have a0 := (lm.keptA bn lb.symm).below az
 refine dT (i := 0) rfl rfl (by kernel_rfl) (fun _ _ => zH (k := 0) rfl dR rfl nz59 rfl) ⟨a0.reads, ao.pins⟩ ?_
 refine dT (i := 1) rfl rfl (by kernel_rfl) (fun _ hS => zJ (u := lv) ag59 rfl (hS.1 0 _ rfl)) ⟨a0.reads, ao.pins⟩ ?_
 refine dT (i := 2) rfl rfl (by kernel_rfl) (fun _ _ => zH (k := 0) rfl dJ rfl nz30 rfl) ⟨a0.reads, ao.pins⟩ ?_
 refine dT (i := 3) rfl rfl (by kernel_rfl) (fun _ hS => zJ (u := v) ag30 rfl ((cC hS.2 (cB (cB (cB (cB (cB (cB (cB s d.le) f.le) m) c.le) q) g.le) ad.le)) _ _ _ (bw 0 _ rfl))) ⟨a0.reads, ao.pins⟩ ?_
 refine dT (i := 4) rfl rfl (by kernel_rfl) (fun _ _ => zN (v := vJ (a : Int)) rfl) ⟨a0.reads, ao.pins⟩ ?_
 refine dT (i := 5) rfl rfl (by kernel_rfl) (fun _ _ => zF dF sz65 (v := v) rfl rfl hv (by omega) (by omega)) ⟨a0.reads, ao.pins⟩ ?_
 refine dT (i := 6) rfl rfl (by kernel_rfl) (fun _ _ => xC (off := 1) dG rfl rfl nz56 (z := (a : Int)) (k := 0) rfl hv (by omega) (by omega)) ⟨a0.reads, ao.pins⟩ ?_
 obtain ⟨r3, lq, r4⟩ := jY (hv.at (z := (a : Int)) (by omega) (by omega)) (j := a) rfl
 have w0 := lq.max
 refine dT (i := 7) rfl rfl (by kernel_rfl) (fun _ hS => r4 ag56 rfl (cC hS.2 (cB (cB (cB (cB (cB (cB (cB (cB av s) d.le) f.le) m) c.le) q) g.le) ad.le))) ⟨a0.reads, ao.pins⟩ ?_
 have r5 := kF (fs := fs) (k := a) ho (by omega) aa hce ((kH aa hce).1.trans a7)
 refine dP (i := 8) rfl rfl (zL (vs := [lv, r3, .bool false]) Tryz.func73 nm73 rfl rfl rfl ?_)
 refine cD (vM (gr := false) ao.pins lp (lq.mono (cB (cB (cB (cB (cB (cB (cB (cB av s) d.le) f.le) m) c.le) q) g.le) ad.le)) r5.2 (fun o h => by have h8 := hoo.2 o h; omega) (by rw [hst.len.1]; exact (hst.good ho (by omega)).1)) ?_
 rintro _ w1 ⟨ek, rfl, ap⟩
 refine rt9 ?_
 have gf := ao.tr ap
 have lr := a0.ext ap
 refine ⟨fun _ => ⟨lr.reads, (cC gf.pins ap.le)⟩, ?_⟩
 refine dO (i := 9) (xK (i := 9) rfl rfl rfl (zR rfl _) (o_stp (cs' := [vJ ((bstK false xl ((fs.getD a default).r) ((fs.getD a default).r).length).1), vJ ((bstK false xl ((fs.getD a default).r) ((fs.getD a default).r).length).2)]) (us := [vJ ((bstK false xl ((fs.getD a default).r) ((fs.getD a default).r).length).1), vJ ((bstK false xl ((fs.getD a default).r) ((fs.getD a default).r).length).2)]) (v := .agg #[vJ ((bstK false xl ((fs.getD a default).r) ((fs.getD a default).r).length).1), vJ ((bstK false xl ((fs.getD a default).r) ((fs.getD a default).r).length).2)]) sz27 rfl rfl rfl (yQ (by rfl) (by rfl)) gf.pins (((((rt.below ax).ext ad).keptA bn ej).below az).ext ap) (cE rfl) rfl (fun w3 r6 r7 bo w4 => ?_)))
 have gg := gf.write r7 bo ((zS lh))
 have ls := lr.keptA bo f9.symm
 refine ⟨fun h => absurd rfl h, ?_⟩
 refine yL (by kernel_rfl) (w9a ?_)
 refine qD rfl (zH (k := 0) rfl dR rfl nz59 rfl) (qD rfl (zJ (u := lv) ag59 rfl (ls.cell (o := 0) rfl)) (qD rfl (yA (cs := [vJ ((bstK true xr ((fs.getD a default).l) ((fs.getD a default).l).length).1), vJ ((bstK true xr ((fs.getD a default).l) ((fs.getD a default).l).length).2)]) ag27 sz27 rfl (fun j u hj => (((r1.below az).ext ap).keptA bo ej.symm).cell (by simpa using hj))) (qI rfl (qP (E := eP2) (e := 27) [vJ ((bstK true xr ((fs.getD a default).l) ((fs.getD a default).l).length).1), vJ ((bstK true xr ((fs.getD a default).l) ((fs.getD a default).l).length).2)] ((bstK true xr ((fs.getD a default).l) ((fs.getD a default).l).length).1, (bstK true xr ((fs.getD a default).l) ((fs.getD a default).l).length).2) dK sz27 zr27 rfl rfl (by decide) gg.pins (fun lu r8 r9 sa bp w5 => ?_)))))
 have gh := gg.step sa bp
 have lw := ((lp.ext ap).keptA bo f8.symm).below bp
 have lx := (((((lk.ext ad).keptA bn k8.symm).below az).ext ap).keptA bo ld.symm).below bp
 have ly := (((((((((k4.below bk).keptA bl k9.symm).keptA bm lf.symm).below ax).ext ad).keptA bn k9.symm).below az).ext ap).keptA bo lf.symm).below bp
 have lz := (((((((((k5.below bk).keptA bl la.symm).keptA bm lg.symm).below ax).ext ad).keptA bn la.symm).below az).ext ap).keptA bo lg.symm).below bp
 have l0 := ls.below bp
 have sb := r9.weaken gg.size
 refine qI rfl (oA (E := eP2) (v := lv) (u := lu) 16 dK ap27 (by decide) rfl rfl gh.pins lw sb.src (gh.size) (fun cm w6 gi sc cn el => ?_))
 have l1 := gh.write sc cn ((yD lw))
 have l2 := zD ah.symm el lx.lt
 have l3 := zD ai.symm el ly.lt
 have sd := zK aj.symm el lz.lt
 have em := zK a5.symm el l0.lt
 have w7 := la1 xl ((bstK true xr ((fs.getD a default).l) ((fs.getD a default).l).length).1, (bstK true xr ((fs.getD a default).l) ((fs.getD a default).l).length).2)
 refine qD rfl (zH (k := 0) rfl dR rfl nz59 rfl) (q0 rfl rfl rfl (o_stp (cs' := [cm, rv, nv]) (us := [cm]) (v := cm) sz59 rfl rfl (qR gi.one) (yZ gi.one) l1.pins (l0.keptA cn a5.symm) (cE rfl) rfl (fun w8 l4 se co w9 => ?_)))
 have gj := l1.write se co ((zS ac))
 refine qe (w9a ?_)
 refine qD rfl (zH (k := 1) rfl dR rfl nz59 rfl) (qD rfl (zJ (u := rv) ag59 rfl (l4.cell (o := 1) rfl)) (qD rfl (yA (cs := [vJ ((bstK false xl ((fs.getD a default).r) ((fs.getD a default).r).length).1), vJ ((bstK false xl ((fs.getD a default).r) ((fs.getD a default).r).length).2)]) ag27 sz27 rfl (fun j u hj => (((r6.below bp).keptA cn f8).keptA co f9).cell (by simpa using hj))) (qI rfl (qP (E := eP2) (e := 27) [vJ ((bstK false xl ((fs.getD a default).r) ((fs.getD a default).r).length).1), vJ ((bstK false xl ((fs.getD a default).r) ((fs.getD a default).r).length).2)] ((bstK false xl ((fs.getD a default).r) ((fs.getD a default).r).length).1, (bstK false xl ((fs.getD a default).r) ((fs.getD a default).r).length).2) dK sz27 zr27 rfl rfl (by decide) gj.pins (fun l5 sf sg sh cp xa => ?_)))))
 have gk := gj.step sh cp
 have l6 := ((lx.keptA cn ah.symm).keptA co af).below cp
 have l7 := ((ly.keptA cn ai.symm).keptA co y).below cp
 have l8 := (gi.keptA co em.symm).below cp
 have l9 := ((lz.keptA cn aj.symm).keptA co ab.symm).below cp
 have ma := l4.below cp
 have si := sg.weaken gj.size
 refine qI rfl (oA (E := eP2) (v := rv) (u := l5) 16 dK ap27 (by decide) rfl rfl gk.pins l6 si.src (gk.size) (fun dh xb gl sj di eo => ?_))
 have mb := gk.write sj di ((yD l6))
 have mc := zD ak.symm eo l7.lt
 have sk := zD l2.symm eo l8.lt
 have sl := zK al.symm eo l9.lt
 have gm := zK af.symm eo ma.lt
 have xc := la1 xr ((bstK false xl ((fs.getD a default).r) ((fs.getD a default).r).length).1, (bstK false xl ((fs.getD a default).r) ((fs.getD a default).r).length).2)
 refine qD rfl (zH (k := 1) rfl dR rfl nz59 rfl) (q0 rfl rfl rfl (o_stp (cs' := [cm, dh, nv]) (us := [dh]) (v := dh) sz59 rfl rfl (qR gl.one) (yZ gl.one) mb.pins (ma.keptA di af.symm) (cE rfl) rfl (fun xd md sm dj xe => ?_)))
 have gn := mb.write sm dj ((zS ac))
 refine qe (zA (zC ?_))
 refine qD rfl (zH (k := 2) rfl dR rfl nz60 rfl) (qD rfl (zJ (u := nv) ag60 rfl (md.cell (o := 2) rfl)) (qM (.bool (vgB b)) ?_))
 refine qI rfl (yV (E := eBool) (e := 4) [.bool (vgB b)] [vgB b] dI sz4 zr4 (by exact xP (by rfl)) (yZ (by rfl)) rfl rfl rfl rfl (by decide) gn.pins (fun me sn sp sq cq xf => ?_))
 have gp := gn.step sq cq
 have mf := ((l7.keptA di ak.symm).keptA dj y).below cq
 have mg := ((l8.keptA di l2.symm).keptA dj em.symm).below cq
 have mh := (gl.keptA dj gm.symm).below cq
 have mi := ((l9.keptA di al.symm).keptA dj ab.symm).below cq
 have mj := md.below cq
 have sr := sp.weaken gn.size
 refine qI rfl (oA (E := eBool) (v := nv) (u := me) 1 dI ap4 (by decide) rfl rfl gp.pins mf sr.src (gp.size) (fun ep xg gq ss dk eq => ?_))
 have mk := gp.write ss dk ((yD mf))
 have st := zD l3.symm eq mg.lt
 have su := zD mc.symm eq mh.lt
 have sv := zK am.symm eq mi.lt
 have ml := zK y.symm eq mj.lt
 have xh := la1 xn (vgB b)
 refine qD rfl (zH (k := 2) rfl dR rfl nz60 rfl) (q0 rfl rfl rfl (o_stp (cs' := [cm, dh, ep]) (us := [ep]) (v := ep) sz60 rfl rfl (qR gq.one) (yZ gq.one) mk.pins (mj.keptA dk y.symm) (cE rfl) rfl (fun xi sw sx dl xj => ?_)))
 have sy := (mg.keptA dk l3.symm).keptA dl em.symm
 have sz := (mh.keptA dk mc.symm).keptA dl gm.symm
 have s0 := gq.keptA dl ml.symm
 have s1 := (mi.keptA dk am.symm).keptA dl ab.symm
 refine qe (w9c ?_)
 refine qM (vJ (a : Int)) ?_
 refine qD rfl (yH rfl rfl (by omega)) (qM (vJ ((a : Int) + 1)) ?_)
 refine qe (zV (⟨_, ?_, _, rfl, _, a + 1, cm, dh, ep, xl ++ ([((bstK true xr ((fs.getD a default).l) ((fs.getD a default).l).length).1, (bstK true xr ((fs.getD a default).l) ((fs.getD a default).l).length).2)]), xr ++ ([((bstK false xl ((fs.getD a default).r) ((fs.getD a default).r).length).1, (bstK false xl ((fs.getD a default).r) ((fs.getD a default).r).length).2)]), xn ++ ([vgB b]), ek, (pS 5 (pS 4 (pS 2 (pU 1)))), rfl, (mk.write sx dl ((zS ac))), (cB (cB (cB (cB (cB (cB (cB (cB s d.le) f.le) m) c.le) q) g.le) ad.le) ap.le), (by omega), hst.opt ho (by omega) aa hce (decP_false.1 a7), (by simp; omega), sy, sz, s0, s1, sw, sk, st, sd.symm, em.symm, su, sl.symm, gm.symm, sv.symm, ml.symm⟩))
 omega
 refine (dQ (i := 3) rfl rfl (yI [vJ 0, vJ 0] zr27 rfl a8.pins (fun s2 xk dm mm s3 cr => ?_)))
 have er := a8.step s3 cr
 have mn := ed.below cr
 have mo := ee.below cr
 have mp := ef.below cr
 have mq := eg.below cr
 have mr := eh.below cr
 have gs := zE (cgA some dm) ed.lt
 have ms := zE (cgA some dm) ee.lt
 have mt := zE (cgA some dm) ef.lt
 have mu := zI (cgA some dm) eg.lt
 have gt := zI (cgA some dm) eh.lt
 have mv : w.heap.size ≤ s2 := by have := a8.size; omega
 refine ⟨fun _ => er.pins, ?_⟩
 refine dP (i := 2) rfl rfl (yI [vJ 0, vJ 0] zr27 rfl er.pins (fun s4 xm ct s5 s6 bq => ?_))
 have gu := er.step s6 bq
 have mw := zE (cgA some ct) mn.lt
 have mx := zE (cgA some ct) mo.lt
 have my := zE (cgA some ct) mp.lt
 have mz := zI (cgA some ct) mq.lt
 have m0 := zI (cgA some ct) mr.lt
 have es := zI (cgA some ct) mm.lt
 have m1 : w.heap.size ≤ s4 := by have := er.size; omega
 refine ⟨fun _ => gu.pins, ?_⟩
 refine dO (i := 4) (xK (i := 4) rfl rfl rfl (zR rfl _) (o_stp (cs' := [vJ (vgT b), vJ (vgP b)]) (us := [vJ (vgT b), vJ (vgP b)]) (v := .agg #[vJ (vgT b), vJ (vgP b)]) sz27 rfl rfl rfl (yQ (by rfl) (by rfl)) gu.pins s5 (cE rfl) rfl (fun xo s7 s8 br xp => ?_)))
 have gv := gu.write s8 br ((zS m1))
 refine ⟨fun _ => gv.pins, ?_⟩
 refine dO (i := 5) (xK (i := 5) rfl rfl rfl (zR rfl _) (o_stp (cs' := [vJ (vgT b), vJ (vgP b)]) (us := [vJ (vgT b), vJ (vgP b)]) (v := .agg #[vJ (vgT b), vJ (vgP b)]) sz27 rfl rfl rfl (yQ (by rfl) (by rfl)) gv.pins ((mm.below bq).keptA br es.symm) (cE rfl) rfl (fun gw s9 ta bs xq => ?_)))
 have m2 := gv.write ta bs ((zS mv))
 refine ⟨fun h => absurd rfl h, ?_⟩
 refine yL (by kernel_rfl) (zA (w9b ?_))
 refine qM (.bool (vgB b)) ?_
 refine qD rfl (xD rfl) (qe (zA ?_))
 refine xU rfl rfl (fun m3 => ?_) (fun m3 => ?_)
 exact absurd (m3.symm.trans b5) (by decide)
 refine zB (yW (S := fun wz => BxR wz ag [lv, rv, nv] ∧ Pins f3 wz) (last := 9) (by kernel_rfl) rfl ?_)
 have a1 := bdr gw
 have aq := m2.step (m2.pins.below a1) a1
 have m4 := (((mo.below bq).keptA br mx.symm).keptA bs ms.symm).below a1
 have a2 := (((mr.below bq).keptA br m0.symm).keptA bs gt.symm).below a1
 refine dT (i := 0) rfl rfl (by kernel_rfl) (fun _ _ => zH (k := 1) rfl dR rfl nz59 rfl) ⟨a2.reads, aq.pins⟩ ?_
 refine dT (i := 1) rfl rfl (by kernel_rfl) (fun _ hS => zJ (u := rv) ag59 rfl (hS.1 1 _ rfl)) ⟨a2.reads, aq.pins⟩ ?_
 refine dT (i := 2) rfl rfl (by kernel_rfl) (fun _ _ => zH (k := 0) rfl dJ rfl nz30 rfl) ⟨a2.reads, aq.pins⟩ ?_
 refine dT (i := 3) rfl rfl (by kernel_rfl) (fun _ hS => zJ (u := v) ag30 rfl ((cC hS.2 (cB (cB (cB (cB (cB (cB s d.le) f.le) m) c.le) q) g.le)) _ _ _ (bw 0 _ rfl))) ⟨a2.reads, aq.pins⟩ ?_
 refine dT (i := 4) rfl rfl (by kernel_rfl) (fun _ _ => zN (v := vJ (a : Int)) rfl) ⟨a2.reads, aq.pins⟩ ?_
 refine dT (i := 5) rfl rfl (by kernel_rfl) (fun _ _ => zF dF sz65 (v := v) rfl rfl hv (by omega) (by omega)) ⟨a2.reads, aq.pins⟩ ?_
 refine dT (i := 6) rfl rfl (by kernel_rfl) (fun _ _ => xC (off := 0) dG rfl rfl nz56 (z := (a : Int)) (k := 0) rfl hv (by omega) (by omega)) ⟨a2.reads, aq.pins⟩ ?_
 obtain ⟨tb, m5, tc⟩ := jZ (hv.at (z := (a : Int)) (by omega) (by omega)) (j := a) rfl
 have xs := m5.max
 refine dT (i := 7) rfl rfl (by kernel_rfl) (fun _ hS => tc ag56 rfl (cC hS.2 (cB (cB (cB (cB (cB (cB (cB av s) d.le) f.le) m) c.le) q) g.le))) ⟨a2.reads, aq.pins⟩ ?_
 have td := kF (fs := fs) (k := a) ho (by omega) aa hce ((kH aa hce).1.trans a7)
 refine dP (i := 8) rfl rfl (zL (vs := [rv, tb, .bool true]) Tryz.func73 nm73 rfl rfl rfl ?_)
 refine cD (vM (gr := true) aq.pins m4 (m5.mono (cB (cB (cB (cB (cB (cB (cB av s) d.le) f.le) m) c.le) q) g.le)) td.1 (fun o h => by have h8 := hoo.1 o h; omega) (by rw [hst.len.2]; exact (hst.good ho (by omega)).2)) ?_
 rintro _ xt ⟨te, rfl, ae⟩
 refine rt9 ?_
 have gx := aq.tr ae
 have m6 := a2.ext ae
 refine ⟨fun _ => ⟨m6.reads, (cC gx.pins ae.le)⟩, ?_⟩
 refine dO (i := 9) (xK (i := 9) rfl rfl rfl (zR rfl _) (o_stp (cs' := [vJ ((bstK true xr ((fs.getD a default).l) ((fs.getD a default).l).length).1), vJ ((bstK true xr ((fs.getD a default).l) ((fs.getD a default).l).length).2)]) (us := [vJ ((bstK true xr ((fs.getD a default).l) ((fs.getD a default).l).length).1), vJ ((bstK true xr ((fs.getD a default).l) ((fs.getD a default).l).length).2)]) (v := .agg #[vJ ((bstK true xr ((fs.getD a default).l) ((fs.getD a default).l).length).1), vJ ((bstK true xr ((fs.getD a default).l) ((fs.getD a default).l).length).2)]) sz27 rfl rfl rfl (yQ (by rfl) (by rfl)) gx.pins (((s7.keptA bs es).below a1).ext ae) (cE rfl) rfl (fun gy tf tg bt xu => ?_)))
 have m7 := gx.write tg bt ((zS m1))
 refine ⟨fun h => absurd rfl h, ?_⟩
 refine yL (by kernel_rfl) (zA (yW (S := fun wz => BxR wz ag [lv, rv, nv] ∧ Pins te wz) (last := 9) (by kernel_rfl) rfl ?_))
 have a3 := bdr gy
 have ar := m7.step (m7.pins.below a3) a3
 have m8 := ((((((mn.below bq).keptA br mw.symm).keptA bs gs.symm).below a1).ext ae).keptA bt mw.symm).below a3
 have a4 := (m6.keptA bt m0.symm).below a3
 refine dT (i := 0) rfl rfl (by kernel_rfl) (fun _ _ => zH (k := 0) rfl dR rfl nz59 rfl) ⟨a4.reads, ar.pins⟩ ?_
 refine dT (i := 1) rfl rfl (by kernel_rfl) (fun _ hS => zJ (u := lv) ag59 rfl (hS.1 0 _ rfl)) ⟨a4.reads, ar.pins⟩ ?_
 refine dT (i := 2) rfl rfl (by kernel_rfl) (fun _ _ => zH (k := 0) rfl dJ rfl nz30 rfl) ⟨a4.reads, ar.pins⟩ ?_
 refine dT (i := 3) rfl rfl (by kernel_rfl) (fun _ hS => zJ (u := v) ag30 rfl ((cC hS.2 (cB (cB (cB (cB (cB (cB (cB s d.le) f.le) m) c.le) q) g.le) ae.le)) _ _ _ (bw 0 _ rfl))) ⟨a4.reads, ar.pins⟩ ?_
 refine dT (i := 4) rfl rfl (by kernel_rfl) (fun _ _ => zN (v := vJ (a : Int)) rfl) ⟨a4.reads, ar.pins⟩ ?_
 refine dT (i := 5) rfl rfl (by kernel_rfl) (fun _ _ => zF dF sz65 (v := v) rfl rfl hv (by omega) (by omega)) ⟨a4.reads, ar.pins⟩ ?_
 refine dT (i := 6) rfl rfl (by kernel_rfl) (fun _ _ => xC (off := 1) dG rfl rfl nz56 (z := (a : Int)) (k := 0) rfl hv (by omega) (by omega)) ⟨a4.reads, ar.pins⟩ ?_
 obtain ⟨th, m9, ti⟩ := jY (hv.at (z := (a : Int)) (by omega) (by omega)) (j := a) rfl
 have xv := m9.max
 refine dT (i := 7) rfl rfl (by kernel_rfl) (fun _ hS => ti ag56 rfl (cC hS.2 (cB (cB (cB (cB (cB (cB (cB (cB av s) d.le) f.le) m) c.le) q) g.le) ae.le))) ⟨a4.reads, ar.pins⟩ ?_
 have tj := kF (fs := fs) (k := a) ho (by omega) aa hce ((kH aa hce).1.trans a7)
 refine dP (i := 8) rfl rfl (zL (vs := [lv, th, .bool false]) Tryz.func73 nm73 rfl rfl rfl ?_)
 refine cD (vM (gr := false) ar.pins m8 (m9.mono (cB (cB (cB (cB (cB (cB (cB (cB av s) d.le) f.le) m) c.le) q) g.le) ae.le)) tj.2 (fun o h => by have h8 := hoo.2 o h; omega) (by rw [hst.len.1]; exact (hst.good ho (by omega)).1)) ?_
 rintro _ xw ⟨et, rfl, au⟩
 refine rt9 ?_
 have gz := ar.tr au
 have na := a4.ext au
 refine ⟨fun _ => ⟨na.reads, (cC gz.pins au.le)⟩, ?_⟩
 refine dO (i := 9) (xK (i := 9) rfl rfl rfl (zR rfl _) (o_stp (cs' := [vJ ((bstK false xl ((fs.getD a default).r) ((fs.getD a default).r).length).1), vJ ((bstK false xl ((fs.getD a default).r) ((fs.getD a default).r).length).2)]) (us := [vJ ((bstK false xl ((fs.getD a default).r) ((fs.getD a default).r).length).1), vJ ((bstK false xl ((fs.getD a default).r) ((fs.getD a default).r).length).2)]) (v := .agg #[vJ ((bstK false xl ((fs.getD a default).r) ((fs.getD a default).r).length).1), vJ ((bstK false xl ((fs.getD a default).r) ((fs.getD a default).r).length).2)]) sz27 rfl rfl rfl (yQ (by rfl) (by rfl)) gz.pins (((((s9.below a1).ext ae).keptA bt es.symm).below a3).ext au) (cE rfl) rfl (fun xx tk tl bu xy => ?_)))
 have g0 := gz.write tl bu ((zS mv))
 have nb := na.keptA bu gt.symm
 refine ⟨fun h => absurd rfl h, ?_⟩
 refine yL (by kernel_rfl) (w9a ?_)
 refine qD rfl (zH (k := 0) rfl dR rfl nz59 rfl) (qD rfl (zJ (u := lv) ag59 rfl (nb.cell (o := 0) rfl)) (qD rfl (yA (cs := [vJ ((bstK true xr ((fs.getD a default).l) ((fs.getD a default).l).length).1), vJ ((bstK true xr ((fs.getD a default).l) ((fs.getD a default).l).length).2)]) ag27 sz27 rfl (fun j u hj => (((tf.below a3).ext au).keptA bu es).cell (by simpa using hj))) (qI rfl (qP (E := eP2) (e := 27) [vJ ((bstK true xr ((fs.getD a default).l) ((fs.getD a default).l).length).1), vJ ((bstK true xr ((fs.getD a default).l) ((fs.getD a default).l).length).2)] ((bstK true xr ((fs.getD a default).l) ((fs.getD a default).l).length).1, (bstK true xr ((fs.getD a default).l) ((fs.getD a default).l).length).2) dK sz27 zr27 rfl rfl (by decide) g0.pins (fun nc tm tn tp bv xz => ?_)))))
 have g1 := g0.step tp bv
 have nd := ((m8.ext au).keptA bu gs.symm).below bv
 have ne := (((((m4.ext ae).keptA bt mx.symm).below a3).ext au).keptA bu ms.symm).below bv
 have nf := (((((((((mp.below bq).keptA br my.symm).keptA bs mt.symm).below a1).ext ae).keptA bt my.symm).below a3).ext au).keptA bu mt.symm).below bv
 have ng := (((((((((mq.below bq).keptA br mz.symm).keptA bs mu.symm).below a1).ext ae).keptA bt mz.symm).below a3).ext au).keptA bu mu.symm).below bv
 have nh := nb.below bv
 have tq := tn.weaken g0.size
 refine qI rfl (oA (E := eP2) (v := lv) (u := nc) 16 dK ap27 (by decide) rfl rfl g1.pins nd tq.src (g1.size) (fun cu x0 g2 ts cv eu => ?_))
 have ni := g1.write ts cv ((yD nd))
 have nj := zD ah.symm eu ne.lt
 have nk := zD ai.symm eu nf.lt
 have tt := zK aj.symm eu ng.lt
 have ev := zK a5.symm eu nh.lt
 have x1 := la1 xl ((bstK true xr ((fs.getD a default).l) ((fs.getD a default).l).length).1, (bstK true xr ((fs.getD a default).l) ((fs.getD a default).l).length).2)
 refine qD rfl (zH (k := 0) rfl dR rfl nz59 rfl) (q0 rfl rfl rfl (o_stp (cs' := [cu, rv, nv]) (us := [cu]) (v := cu) sz59 rfl rfl (qR g2.one) (yZ g2.one) ni.pins (nh.keptA cv a5.symm) (cE rfl) rfl (fun x2 nl tu cw x3 => ?_)))
 have g3 := ni.write tu cw ((zS ac))
 refine qe (w9a ?_)
 refine qD rfl (zH (k := 1) rfl dR rfl nz59 rfl) (qD rfl (zJ (u := rv) ag59 rfl (nl.cell (o := 1) rfl)) (qD rfl (yA (cs := [vJ ((bstK false xl ((fs.getD a default).r) ((fs.getD a default).r).length).1), vJ ((bstK false xl ((fs.getD a default).r) ((fs.getD a default).r).length).2)]) ag27 sz27 rfl (fun j u hj => (((tk.below bv).keptA cv gs).keptA cw gt).cell (by simpa using hj))) (qI rfl (qP (E := eP2) (e := 27) [vJ ((bstK false xl ((fs.getD a default).r) ((fs.getD a default).r).length).1), vJ ((bstK false xl ((fs.getD a default).r) ((fs.getD a default).r).length).2)] ((bstK false xl ((fs.getD a default).r) ((fs.getD a default).r).length).1, (bstK false xl ((fs.getD a default).r) ((fs.getD a default).r).length).2) dK sz27 zr27 rfl rfl (by decide) g3.pins (fun nm tv tw tx cx x4 => ?_)))))
 have g4 := g3.step tx cx
 have nn := ((ne.keptA cv ah.symm).keptA cw af).below cx
 have no := ((nf.keptA cv ai.symm).keptA cw y).below cx
 have np := (g2.keptA cw ev.symm).below cx
 have nq := ((ng.keptA cv aj.symm).keptA cw ab.symm).below cx
 have nr := nl.below cx
 have ty := tw.weaken g3.size
 refine qI rfl (oA (E := eP2) (v := rv) (u := nm) 16 dK ap27 (by decide) rfl rfl g4.pins nn ty.src (g4.size) (fun dn x5 g5 tz dp ew => ?_))
 have ns := g4.write tz dp ((yD nn))
 have nt := zD ak.symm ew no.lt
 have t0 := zD nj.symm ew np.lt
 have t1 := zK al.symm ew nq.lt
 have g6 := zK af.symm ew nr.lt
 have x6 := la1 xr ((bstK false xl ((fs.getD a default).r) ((fs.getD a default).r).length).1, (bstK false xl ((fs.getD a default).r) ((fs.getD a default).r).length).2)
 refine qD rfl (zH (k := 1) rfl dR rfl nz59 rfl) (q0 rfl rfl rfl (o_stp (cs' := [cu, dn, nv]) (us := [dn]) (v := dn) sz59 rfl rfl (qR g5.one) (yZ g5.one) ns.pins (nr.keptA dp af.symm) (cE rfl) rfl (fun x7 nu t2 dq x8 => ?_)))
 have g7 := ns.write t2 dq ((zS ac))
 refine qe (zA (zC ?_))
 refine qD rfl (zH (k := 2) rfl dR rfl nz60 rfl) (qD rfl (zJ (u := nv) ag60 rfl (nu.cell (o := 2) rfl)) (qM (.bool (vgB b)) ?_))
 refine qI rfl (yV (E := eBool) (e := 4) [.bool (vgB b)] [vgB b] dI sz4 zr4 (by exact xP (by rfl)) (yZ (by rfl)) rfl rfl rfl rfl (by decide) g7.pins (fun nw t3 t4 t5 cy x9 => ?_))
 have g8 := g7.step t5 cy
 have nx := ((no.keptA dp ak.symm).keptA dq y).below cy
 have ny := ((np.keptA dp nj.symm).keptA dq ev.symm).below cy
 have nz := (g5.keptA dq g6.symm).below cy
 have n0 := ((nq.keptA dp al.symm).keptA dq ab.symm).below cy
 have n1 := nu.below cy
 have t6 := t4.weaken g7.size
 refine qI rfl (oA (E := eBool) (v := nv) (u := nw) 1 dI ap4 (by decide) rfl rfl g8.pins nx t6.src (g8.size) (fun ex ya g9 t7 dr ey => ?_))
 have n2 := g8.write t7 dr ((yD nx))
 have t8 := zD nk.symm ey ny.lt
 have t9 := zD nt.symm ey nz.lt
 have ua := zK am.symm ey n0.lt
 have n3 := zK y.symm ey n1.lt
 have yb := la1 xn (vgB b)
 refine qD rfl (zH (k := 2) rfl dR rfl nz60 rfl) (q0 rfl rfl rfl (o_stp (cs' := [cu, dn, ex]) (us := [ex]) (v := ex) sz60 rfl rfl (qR g9.one) (yZ g9.one) n2.pins (n1.keptA dr y.symm) (cE rfl) rfl (fun yc ub uc ds yd => ?_)))
 have ud := (ny.keptA dr nk.symm).keptA ds ev.symm
 have ue := (nz.keptA dr nt.symm).keptA ds g6.symm
 have uf := g9.keptA ds n3.symm
 have ug := (n0.keptA dr am.symm).keptA ds ab.symm
 refine qe (w9c ?_)
 refine qM (vJ (a : Int)) ?_
 refine qD rfl (yH rfl rfl (by omega)) (qM (vJ ((a : Int) + 1)) ?_)
 refine qe (zV (⟨_, ?_, _, rfl, _, a + 1, cu, dn, ex, xl ++ ([((bstK true xr ((fs.getD a default).l) ((fs.getD a default).l).length).1, (bstK true xr ((fs.getD a default).l) ((fs.getD a default).l).length).2)]), xr ++ ([((bstK false xl ((fs.getD a default).r) ((fs.getD a default).r).length).1, (bstK false xl ((fs.getD a default).r) ((fs.getD a default).r).length).2)]), xn ++ ([vgB b]), et, (pS 5 (pS 4 (pS 2 (pU 1)))), rfl, (n2.write uc ds ((zS ac))), (cB (cB (cB (cB (cB (cB (cB (cB s d.le) f.le) m) c.le) q) g.le) ae.le) au.le), (by omega), hst.opt ho (by omega) aa hce (decP_false.1 a7), (by simp; omega), ud, ue, uf, ug, ub, t0, t8, tt.symm, ev.symm, t9, t1.symm, g6.symm, ua.symm, n3.symm⟩))
 omega
 refine cQ (zX (yO (yK (w9a ?_))))
 refine qD rfl (yA (cs := [lv, rv, nv]) ag62 sz62 rfl (fun j u hj => hm.cell (by simpa using hj))) (q0 rfl rfl rfl (o_stp (cs' := [lv, rv, nv]) (us := [lv, rv, nv]) (v := .agg #[lv, rv, nv]) sz62 rfl rfl rfl (tT e3.one e4.one e5.one) bz.pins hl (cE rfl) rfl (fun ye uh ui ez yf => ?_)))
 refine qM (.bool true) ?_
 refine qe (zA ?_)
 refine cP (zP (xF (cs := [lv, rv, nv]) (v := .bool true) rfl rfl rfl rfl rfl ag62 sz62 (fun j u hj => by rw [cS]; exact uh.cell hj) ?_))
 obtain ⟨yg, n4, uj, uk, n5⟩ := (e3.keptA ez aj).sealed (bz.write ui ez ((zS hd)))
 obtain ⟨yh, n6, ul, um, un⟩ := ((e4.keptA ez al).moreO n4 n5 ah.symm).sealed uj
 obtain ⟨yi, n7, uo, up, yj⟩ := (((e5.keptA ez am).moreO n4 n5 ai.symm).moreO n6 un ak.symm).sealed ul
 have hin : a = fs.length := by omega
 subst hin
 have hsb : spB fs = true := sp_yesb (goodB_true.2 hga) hst.ok
 rw [hsb]
 exact ⟨_, _, _, _, _, _, _, rfl, (uk.mono (cB n6 n7)), (um.mono n7), up, (fun _ => ⟨hst.l, hst.r⟩), uo⟩
end SG3
namespace SG4
open B1 C1 D1 E1 SG3
theorem pl27 : (Tryz.prog.underlying 27).bind (placesD Tryz.prog) = some [(0, 1), (1, 1)] := by kernel_rfl
theorem l10Both_spec {w : World} {G : Pin} {v : Value} {fs : List Nd} (hP : Pins G w) (hv : RSl eNode G v fs) :
  Calls Tryz.prog 27 [.agg #[v]].toArray w fun e w' => ∃ G', e = .returned (.tuple #[.agg #[.int .i64 (spL fs).1, .int .i64 (spL fs).2], .agg #[.int .i64 (spR fs).1, .int .i64 (spR fs).2], .bool (spB fs)]) ∧ Ext noS G w G' w' := by
 refine zY (n := 36) Tryz.func27 Tryz.ntmps27 rfl rfl ?_
 have aa := exr noS hP
 refine w9d ?_
 refine qI rfl (xH [v] (v := .agg #[v]) rfl rfl aa.pins (fun b1 w2 cj bh bi bj => ?_))
 have bk : w.heap.size ≤ b1 := by have := aa.size; omega
 obtain ⟨G9, aq, ab, ac, cl⟩ := bh.shut (aa.step bi bj) bk
 refine qI rfl (yI [vJ 0, vJ 0] zr27 rfl ab.pins (fun bl cm cn ar bm bn => ?_))
 have ad := ab.step bm bn
 have ae : w.heap.size ≤ bl := by have := ab.size; omega
 refine qI rfl (yI [vJ 0, vJ 0] zr27 rfl ad.pins (fun bo co bp bq br au => ?_))
 have af := ad.step br au
 have g := zI (cgA some bp) ar.lt
 have ag : w.heap.size ≤ bo := by have := ad.size; omega
 refine qM (.bool false) ?_
 refine qe (zA (w9b ?_))
 refine qD rfl (yA (cs := [v]) ag32 sz32 rfl (fun j u hj => af.pins _ _ _ (ac _ _ (by simpa using hj)))) (qI rfl (zL (vs := [.agg #[v]]) Tryz.func35 nm35 rfl rfl rfl ?_))
 refine cD (l3Good_spec af.pins (hv.mono aq)) ?_
 rintro _ cp ⟨cq, rfl, l⟩
 refine rt9 ?_
 have m := af.tr l
 have av := (ar.below au).ext l
 have aw := bq.ext l
 refine qD rfl (xD rfl) (qe (zA ?_))
 refine xU rfl rfl (fun ah => ?_) (fun ah => ?_)
 refine cO (w9a ?_)
 have hgb : goodB fs = true := (good_eq fs).symm.trans ah
 have hga : GoodP fs := goodB_true.1 hgb
 have hla := hga.lo
 have hha := hga.hi
 refine qD rfl (yA (cs := [v]) ag32 sz32 rfl (fun j u hj => (cC m.pins l.le) _ _ _ (ac _ _ (by simpa using hj)))) (qI rfl (zL (vs := [.agg #[v]]) Tryz.func43 nm43 rfl rfl rfl ?_))
 refine cD (l10All_spec m.pins (hv.mono (cB aq l.le)) hga) ?_
 rintro _ cr ⟨d, f, o, b, c, ct, cu, rfl, s, t, bs, bt, x⟩
 refine rt9 ?_
 have ai := m.tr x
 have ax := av.ext x
 have ay := aw.ext x
 have cv := s.max
 have cw := t.max
 refine qM (.tuple #[.agg #[d, f, o], .bool (spB fs)]) ?_
 refine qD rfl (yM (v := .agg #[d, f, o]) rfl rfl) (qD rfl (yM (v := .bool (spB fs)) rfl rfl) (qI rfl (yI [vN, vN, vN] zr62 rfl ai.pins (fun bu cx az bv bw aj => ?_))))
 have a0 := ai.step bw aj
 have a1 := zI (cgA some az) ax.lt
 have a2 := zI (cgA some az) ay.lt
 have a3 : w.heap.size ≤ bu := by have := ai.size; omega
 refine q0 rfl rfl rfl (o_stp (cs' := [d, f, o]) (us := [d, f, o]) (v := .agg #[d, f, o]) sz62 rfl rfl rfl (tT s.one t.one bs.one) a0.pins bv (cE rfl) rfl (fun ak bx bz al cy => ?_))
 obtain ⟨b0, am, p, a4, a5⟩ := bx.shut (a0.write bz al ((zS a3))) a3
 have a6 := ((ax.below aj).keptA al a1.symm).moreA a5 a1.symm
 have a7 := ((ay.below aj).keptA al a2.symm).moreA a5 a2.symm
 refine qM (.bool (spB fs)) ?_
 refine qe (zA (w9b ?_))
 refine qM (.bool (spB fs)) ?_
 refine qD rfl (xD rfl) (qe (zA ?_))
 refine xU rfl rfl (fun an => ?_) (fun an => ?_)
 refine cO (w9a ?_)
 have hsb : spB fs = true := an
 obtain ⟨hxl, hxr⟩ := bt hsb
 have hga := goodB_true.1 (sp_row hsb).1
 have hla := hga.lo
 have cz : b.length = fs.length := by rw [hxl]; exact (fN fs _).1
 have c0 : c.length = fs.length := by rw [hxr]; exact (fN fs _).2
 have hix : ((fs.length : Int) - 1).toNat = fs.length - 1 := by omega
 refine qD rfl (zH (k := 0) rfl dJ rfl nz30 rfl) (qD rfl (zJ (u := v) ag30 rfl ((cC p.pins (cB (cB l.le x.le) am)) _ _ _ (ac 0 _ rfl))) (qD rfl (zM dF (v := v) rfl hv) (qD rfl (xY rfl rfl (by omega)) (qM (vJ ((fs.length : Int) - 1)) ?_))))
 refine qe (zA (zB ?_))
 refine yW (S := fun wz => Pins b0 wz) (last := 13) (by kernel_rfl) rfl ?_
 have y := bdr ak
 have a := p.step (p.pins.below y) y
 refine dT (i := 0) rfl rfl (by kernel_rfl) (fun _ _ => zH (k := 0) rfl dR rfl nz59 rfl) a.pins ?_
 refine dT (i := 1) rfl rfl (by kernel_rfl) (fun _ hS => zJ (u := d) ag59 rfl (hS _ _ _ (a4 0 _ rfl))) a.pins ?_
 refine dM 2 (vJ ((fs.length : Int) - 1)) a.pins ?_
 refine dT (i := 3) rfl rfl (by kernel_rfl) (fun _ _ => zF dK sz27 (v := d) rfl rfl s (by omega) (by omega)) a.pins ?_
 obtain ⟨c1, b2, b3, c2⟩ := vA (j := ((fs.length : Int) - 1).toNat) default (s.at (z := (fs.length : Int) - 1) (by omega) (by omega)) rfl
 obtain rfl := b2
 refine dT (i := 4) rfl rfl (by kernel_rfl) (fun _ hS => b3 ag27 sz27 rfl (cC hS am)) a.pins ?_
 refine dT (i := 5) rfl rfl (by kernel_rfl) (fun _ _ => zH (k := 1) rfl dR rfl nz59 rfl) a.pins ?_
 refine dT (i := 6) rfl rfl (by kernel_rfl) (fun _ hS => zJ (u := f) ag59 rfl (hS _ _ _ (a4 1 _ rfl))) a.pins ?_
 refine dM 7 (vJ ((fs.length : Int) - 1)) a.pins ?_
 refine dT (i := 8) rfl rfl (by kernel_rfl) (fun _ _ => zF dK sz27 (v := f) rfl rfl t (by omega) (by omega)) a.pins ?_
 obtain ⟨c3, b4, b5, c4⟩ := vA (j := ((fs.length : Int) - 1).toNat) default (t.at (z := (fs.length : Int) - 1) (by omega) (by omega)) rfl
 obtain rfl := b4
 refine dT (i := 9) rfl rfl (by kernel_rfl) (fun _ hS => b5 ag27 sz27 rfl (cC hS am)) a.pins ?_
 refine dO (i := 10) (xK (i := 10) rfl rfl rfl (zR rfl _) (o_stp (cs' := [vJ ((b.getD ((fs.length : Int) - 1).toNat default).1), vJ ((b.getD ((fs.length : Int) - 1).toNat default).2)]) (us := [vJ ((b.getD ((fs.length : Int) - 1).toNat default).1), vJ ((b.getD ((fs.length : Int) - 1).toNat default).2)]) (v := .agg #[vJ ((b.getD ((fs.length : Int) - 1).toNat default).1), vJ ((b.getD ((fs.length : Int) - 1).toNat default).2)]) sz27 rfl rfl rfl (yQ (by rfl) (by rfl)) a.pins (a6.below y) (cE rfl) rfl (fun c5 b6 b7 a8 c6 => ?_)))
 have ao := a.write b7 a8 ((zS ae))
 refine ⟨fun _ => ao.pins, ?_⟩
 refine dO (i := 11) (xK (i := 11) rfl rfl rfl (zR rfl _) (o_stp (cs' := [vJ ((c.getD ((fs.length : Int) - 1).toNat default).1), vJ ((c.getD ((fs.length : Int) - 1).toNat default).2)]) (us := [vJ ((c.getD ((fs.length : Int) - 1).toNat default).1), vJ ((c.getD ((fs.length : Int) - 1).toNat default).2)]) (v := .agg #[vJ ((c.getD ((fs.length : Int) - 1).toNat default).1), vJ ((c.getD ((fs.length : Int) - 1).toNat default).2)]) sz27 rfl rfl rfl (yQ (by rfl) (by rfl)) ao.pins ((a7.below y).keptA a8 g) (cE rfl) rfl (fun c7 b8 b9 a9 c8 => ?_)))
 have ap := ao.write b9 a9 ((zS ag))
 refine ⟨fun _ => ap.pins, ?_⟩
 refine dM 12 (.bool true) ap.pins ?_
 refine yL (by kernel_rfl) (zA (cP (zP (tC (cs := [vJ ((b.getD ((fs.length : Int) - 1).toNat default).1), vJ ((b.getD ((fs.length : Int) - 1).toNat default).2)]) (ds := [vJ ((c.getD ((fs.length : Int) - 1).toNat default).1), vJ ((c.getD ((fs.length : Int) - 1).toNat default).2)]) (v := .bool true) rfl rfl rfl rfl rfl rfl rfl ag27 sz27 rfl (fun j u hj => by rw [cS]; exact (b6.keptA a9 g.symm).cell hj) (fun j u hj => by rw [cS]; exact b8.cell hj) ?_))))
 obtain ⟨q, r⟩ := sp_at hsb
 rw [q, r, hsb, ← hxl, ← hxr, ← hix]
 exact ⟨_, rfl, ap⟩
 refine w9d ?_
 refine qD rfl (yS [vJ 0, vJ 0] [vJ 0, vJ 0] [] dH zr27 rfl pl27 rfl (fun _ h => by cases h) rfl) (qD rfl (yS [vJ 0, vJ 0] [vJ 0, vJ 0] [] dH zr27 rfl pl27 rfl (fun _ h => by cases h) rfl) (q0 rfl rfl rfl (o_stp (cs' := [vJ 0, vJ 0]) (us := [vJ 0, vJ 0]) (v := .agg #[vJ 0, vJ 0]) sz27 rfl rfl rfl (yQ (by rfl) (by rfl)) p.pins a6 (cE rfl) rfl (fun c9 ca cb ba da => ?_))))
 have bb := p.write cb ba ((zS ae))
 refine q0 rfl rfl rfl (o_stp (cs' := [vJ 0, vJ 0]) (us := [vJ 0, vJ 0]) (v := .agg #[vJ 0, vJ 0]) sz27 rfl rfl rfl (yQ (by rfl) (by rfl)) bb.pins (a7.keptA ba g) (cE rfl) rfl (fun db cc cd bc dc => ?_))
 refine qM (.bool false) ?_
 refine qe (zA ?_)
 refine cP (zP (tC (cs := [vJ 0, vJ 0]) (ds := [vJ 0, vJ 0]) (v := .bool false) rfl rfl rfl rfl rfl rfl rfl ag27 sz27 rfl (fun j u hj => by rw [cS]; exact (ca.keptA bc g.symm).cell hj) (fun j u hj => by rw [cS]; exact cc.cell hj) ?_))
 have hsb : spB fs = false := an
 obtain ⟨q, r⟩ := sp_no hsb
 rw [q, r, hsb]
 exact ⟨_, rfl, (bb.write cd bc ((zS ag)))⟩
 refine w9d ?_
 refine qD rfl (yS [vJ 0, vJ 0] [vJ 0, vJ 0] [] dH zr27 rfl pl27 rfl (fun _ h => by cases h) rfl) (qD rfl (yS [vJ 0, vJ 0] [vJ 0, vJ 0] [] dH zr27 rfl pl27 rfl (fun _ h => by cases h) rfl) (q0 rfl rfl rfl (o_stp (cs' := [vJ 0, vJ 0]) (us := [vJ 0, vJ 0]) (v := .agg #[vJ 0, vJ 0]) sz27 rfl rfl rfl (yQ (by rfl) (by rfl)) m.pins av (cE rfl) rfl (fun dd ce cf bd de => ?_))))
 have be := m.write cf bd ((zS ae))
 refine q0 rfl rfl rfl (o_stp (cs' := [vJ 0, vJ 0]) (us := [vJ 0, vJ 0]) (v := .agg #[vJ 0, vJ 0]) sz27 rfl rfl rfl (yQ (by rfl) (by rfl)) be.pins (aw.keptA bd g) (cE rfl) rfl (fun df cg ch bf dg => ?_))
 refine qM (.bool false) ?_
 refine qe (zA ?_)
 refine cP (zP (tC (cs := [vJ 0, vJ 0]) (ds := [vJ 0, vJ 0]) (v := .bool false) rfl rfl rfl rfl rfl rfl rfl ag27 sz27 rfl (fun j u hj => by rw [cS]; exact (ce.keptA bf g.symm).cell hj) (fun j u hj => by rw [cS]; exact cg.cell hj) ?_))
 have hsb : spB fs = false := sp_bad ((good_eq fs).symm.trans ah)
 obtain ⟨q, r⟩ := sp_no hsb
 rw [q, r, hsb]
 exact ⟨_, rfl, (be.write ch bf ((zS ag)))⟩
end SG4
namespace ST6
open B1 NB4 SG4
theorem eg27 : (Tryz.prog.eqGuardType Tryz.prog.depth 27) = false := by kernel_rfl
theorem sh27 : (Tryz.prog.stoodInHeld 27) = false := by kernel_rfl
theorem sIsNear_spec {w : World} {G : Pin} {v : Value} {fs : List Nd} {t z : Int} (hP : Pins G w) (hv : RSl eNode G v fs) :
  Calls Tryz.prog 19 [.agg #[v], .agg #[vJ t, vJ z]].toArray w fun e w' => ∃ G', e = .returned (.tuple #[.bool (inrV fs t z), .bool (inrB fs t z)]) ∧ Ext noS G w G' w' := by
 refine zY (n := 30) Tryz.func19 Tryz.ntmps19 rfl rfl ?_
 have m := exr noS hP
 refine w9d ?_
 refine qI rfl (xH [v] (v := .agg #[v]) rfl rfl m.pins (fun b1 w2 bf am an ao => ?_))
 have ap : w.heap.size ≤ b1 := by have := m.size; omega
 obtain ⟨G9, aq, o, ar, bh⟩ := am.shut (m.step an ao) ap
 refine qI rfl (xH [vJ t, vJ z] (v := .agg #[vJ t, vJ z]) rfl rfl o.pins (fun au bi bj av aw ax => ?_))
 have ay : w.heap.size ≤ au := by have := o.size; omega
 obtain ⟨bk, ac, q, r, bl⟩ := av.shut (o.step aw ax) ay
 refine qM (.bool false) ?_
 refine qM (.bool false) ?_
 refine qe (w9a ?_)
 refine qD rfl (yA (cs := [v]) ag32 sz32 rfl (fun j u hj => (cC q.pins ac) _ _ _ (ar _ _ (by simpa using hj)))) (qI rfl (zL (vs := [.agg #[v]]) Tryz.func27 nm27 rfl rfl rfl ?_))
 refine cD (l10Both_spec q.pins (hv.mono (cB aq ac))) ?_
 rintro _ bm ⟨bn, rfl, f⟩
 refine rt9 ?_
 have s := q.tr f
 refine qM (.tuple #[.agg #[vJ ((spL fs).1), vJ ((spL fs).2)], .agg #[vJ ((spR fs).1), vJ ((spR fs).2)], .bool (spB fs)]) ?_
 refine qD rfl (yM (v := .agg #[vJ ((spL fs).1), vJ ((spL fs).2)]) rfl rfl) (qD rfl (yM (v := .agg #[vJ ((spR fs).1), vJ ((spR fs).2)]) rfl rfl) (qD rfl (yM (v := .bool (spB fs)) rfl rfl) (qI rfl (yI [vJ 0, vJ 0] zr27 rfl s.pins (fun az bo bp ad a0 a1 => ?_)))))
 have x := s.step a0 a1
 have ae : w.heap.size ≤ az := by have := s.size; omega
 refine qI rfl (yI [vJ 0, vJ 0] zr27 rfl x.pins (fun a2 bq a3 a4 a5 af => ?_))
 have ag := x.step a5 af
 have ah := zI (cgA some a3) ad.lt
 have ai : w.heap.size ≤ a2 := by have := x.size; omega
 refine q0 rfl rfl rfl (o_stp (cs' := [vJ ((spL fs).1), vJ ((spL fs).2)]) (us := [vJ ((spL fs).1), vJ ((spL fs).2)]) (v := .agg #[vJ ((spL fs).1), vJ ((spL fs).2)]) sz27 rfl rfl rfl (yQ (by rfl) (by rfl)) ag.pins (ad.below af) (cE rfl) rfl (fun br a6 a7 aj bs => ?_))
 obtain ⟨bt, y, ak, a8, a9⟩ := a6.shut (ag.write a7 aj ((zS ae))) ae
 refine q0 rfl rfl rfl (o_stp (cs' := [vJ ((spR fs).1), vJ ((spR fs).2)]) (us := [vJ ((spR fs).1), vJ ((spR fs).2)]) (v := .agg #[vJ ((spR fs).1), vJ ((spR fs).2)]) sz27 rfl rfl rfl (yQ (by rfl) (by rfl)) ak.pins ((a4.keptA aj ah).moreA a9 ah) (cE rfl) rfl (fun bu ba bb bc bv => ?_))
 obtain ⟨bw, h, i, bd, bx⟩ := ba.shut (ak.write bb bc ((zS ai))) ai
 refine qM (.bool (spB fs)) ?_
 refine qe (zA (w9b ?_))
 refine qM (.bool (spB fs)) ?_
 refine qD rfl (xD rfl) (qM (.bool (!(spB fs))) ?_)
 refine qbn (t := 17) rfl (fun k => ?_) (fun k => ?_)
 refine qN (yA (cs := [vJ t, vJ z]) ag27 sz27 rfl (fun j u hj => (cC i.pins (cB (cB f.le y) h)) _ _ _ (r _ _ (by simpa using hj)))) ?_
 refine q1g rfl rfl rfl rfl rfl rfl (zL (vs := [.agg #[vJ t, vJ z]]) Tryz.func33 nm33 rfl rfl rfl ?_)
 refine cD (nW (t := t) (z := z) i.pins) ?_
 rintro _ bz ⟨b0, rfl, d⟩
 refine rt9 ?_
 have a := i.tr d
 refine qN (xD rfl) ?_
 refine qD rfl (zU (v := .bool (!(decP (GoodD t z)))) rfl rfl) (qe (zA ?_))
 refine xU rfl rfl (fun l => ?_) (fun l => ?_)
 refine cO (w9a ?_)
 refine qD rfl (yA (cs := [vJ ((spL fs).1), vJ ((spL fs).2)]) ag27 sz27 rfl (fun j u hj => (cC a.pins (cB h d.le)) _ _ _ (a8 _ _ (by simpa using hj)))) (qD rfl (yA (cs := [vJ t, vJ z]) ag27 sz27 rfl (fun j u hj => (cC a.pins (cB (cB (cB f.le y) h) d.le)) _ _ _ (r _ _ (by simpa using hj)))) (qD rfl (mT dH (by decide) rfl rfl rfl rfl dS sh27 eg27 rfl rfl) (qM (.bool (decide ((((spL fs).1, (spL fs).2) : Int × Int) = (t, z)))) ?_)))
 refine qbd (p := (((spL fs).1, (spL fs).2) : Int × Int) = (t, z)) (t := 25) rfl (fun aa => ?_) (fun aa => ?_)
 refine qN (yA (cs := [vJ ((spR fs).1), vJ ((spR fs).2)]) ag27 sz27 rfl (fun j u hj => (cC a.pins d.le) _ _ _ (bd _ _ (by simpa using hj)))) ?_
 refine qN (yA (cs := [vJ t, vJ z]) ag27 sz27 rfl (fun j u hj => (cC a.pins (cB (cB (cB f.le y) h) d.le)) _ _ _ (r _ _ (by simpa using hj)))) ?_
 refine qN (mT dH (by decide) rfl rfl rfl rfl dS sh27 eg27 rfl rfl) ?_
 refine qD rfl (yB (v := .bool (decide ((((spR fs).1, (spR fs).2) : Int × Int) = (t, z)))) rfl rfl) (qM (.bool (decide ((((spR fs).1, (spR fs).2) : Int × Int) = (t, z)))) ?_)
 refine qM (.bool true) ?_
 refine qe (zA ?_)
 refine cP (zP (fY (v := .bool (decide ((((spR fs).1, (spR fs).2) : Int × Int) = (t, z)))) (u := .bool true) rfl rfl rfl rfl rfl ?_))
 obtain ⟨b, c⟩ := in_yes k l
 have e3 : decide (spL fs = (t, z) ∧ spR fs = (t, z)) = decide ((((spR fs).1, (spR fs).2) : Int × Int) = (t, z)) := in_dec ⟨fun g => g.2, fun g => ⟨aa, g⟩⟩
 rw [b, c, e3]
 exact ⟨_, rfl, a⟩
 refine qW ?_
 refine qW ?_
 refine qW ?_
 refine qD rfl (zU (v := .bool false) rfl rfl) (qM (.bool false) ?_)
 refine qM (.bool true) ?_
 refine qe (zA ?_)
 refine cP (zP (fY (v := .bool false) (u := .bool true) rfl rfl rfl rfl rfl ?_))
 obtain ⟨b, c⟩ := in_yes k l
 have e3 : decide (spL fs = (t, z) ∧ spR fs = (t, z)) = false := decide_eq_false (fun g => aa g.1)
 rw [b, c, e3]
 exact ⟨_, rfl, a⟩
 refine w9d ?_
 refine qM (.bool false) ?_
 refine qM (.bool false) ?_
 refine qe (zA ?_)
 refine cP (zP (fY (v := .bool false) (u := .bool false) rfl rfl rfl rfl rfl ?_))
 obtain ⟨b, c⟩ := in_no (fs := fs) (t := t) (z := z) (cG l)
 rw [b, c]
 exact ⟨_, rfl, a⟩
 refine qW ?_
 refine qW ?_
 refine qW ?_
 refine qD rfl (yB (v := .bool true) rfl rfl) (qe (zA ?_))
 refine qK rfl rfl (w9d ?_)
 refine qM (.bool false) ?_
 refine qM (.bool false) ?_
 refine qe (zA ?_)
 refine cP (zP (fY (v := .bool false) (u := .bool false) rfl rfl rfl rfl rfl ?_))
 obtain ⟨b, c⟩ := in_no (fs := fs) (t := t) (z := z) (cF k)
 rw [b, c]
 exact ⟨_, rfl, i⟩
end ST6
namespace LIN
open L1 ST5 ST6
variable {G : Pin} {t z : Int}
theorem tP {w : World} (hP : Pins G w) :
  Calls Tryz.prog 20 [.agg #[.int .i64 t, .int .i64 z]].toArray w fun e w' => ∃ G', e = .returned (.agg #[.int .i64 t, .int .i64 z]) ∧ Ext noS G w G' w' := by
 refine zY (n := 11) Tryz.func20 Tryz.ntmps20 rfl rfl ?_
 have a := exr noS hP
 refine w9d ?_
 refine qI rfl (xH [.int .i64 t, .int .i64 z] (v := .agg #[.int .i64 t, .int .i64 z]) rfl rfl a.pins (fun r w2 ar s x y => ?_))
 have aa : w.heap.size ≤ r := by have := a.size; omega
 obtain ⟨G9, av, b, g, aw⟩ := s.shut (a.step x y) aa
 refine qI rfl (yI [.int .i64 0, .int .i64 0] zr27 rfl b.pins (fun ab ax ay h ac ad => ?_))
 have c := b.step ac ad
 have ae : w.heap.size ≤ ab := by have := b.size; omega
 refine qe (w9a ?_)
 refine qI rfl (yI [.int .i64 0, .int .i64 0] zr27 rfl c.pins (fun af az ag ah ai i => ?_))
 have d := c.step ai i
 have l := zI (cgA some ag) h.lt
 have m : w.heap.size ≤ af := by have := c.size; omega
 refine qe (w9a ?_)
 refine qD rfl (zH (k := 0) rfl Tryz.underlying39 rfl nz3 rfl) (qD rfl (zJ (u := .int .i64 t) ag3 rfl (d.pins _ _ _ (g 0 _ rfl))) (qD rfl (zH (k := 0) rfl dH rfl nz3 rfl) (q0 rfl rfl rfl (o_stp (cs' := [.int .i64 t, .int .i64 0]) (us := [.int .i64 t]) (v := .int .i64 t) sz3 rfl rfl rfl (yZ (by rfl)) d.pins ah (cE rfl) rfl (fun a0 aj ak o a1 => ?_)))))
 have f := d.write ak o ((zS m))
 refine qe (w9a ?_)
 refine qD rfl (zH (k := 1) rfl Tryz.underlying39 rfl nz3 rfl) (qD rfl (zJ (u := .int .i64 z) ag3 rfl (f.pins _ _ _ (g 1 _ rfl))) (qD rfl (zH (k := 1) rfl dH rfl nz3 rfl) (q0 rfl rfl rfl (o_stp (cs' := [.int .i64 t, .int .i64 z]) (us := [.int .i64 z]) (v := .int .i64 z) sz3 rfl rfl rfl (yZ (by rfl)) f.pins aj (cE rfl) rfl (fun a2 al am p a3 => ?_)))))
 have q := f.write am p ((zS m))
 refine qe (w9a ?_)
 refine qD rfl (yA (cs := [.int .i64 t, .int .i64 z]) ag27 sz27 rfl (fun j u hj => al.cell (by simpa using hj))) (q0 rfl rfl rfl (o_stp (cs' := [.int .i64 t, .int .i64 z]) (us := [.int .i64 t, .int .i64 z]) (v := .agg #[.int .i64 t, .int .i64 z]) sz27 rfl rfl rfl (yQ (by rfl) (by rfl)) q.pins (((h.below i).keptA o l.symm).keptA p l.symm) (cE rfl) rfl (fun a4 an ao ap a5 => ?_)))
 refine qe (zA ?_)
 exact cP (zP (jQ (cs := [.int .i64 t, .int .i64 z]) rfl rfl rfl ag27 sz27 (fun j u hj => by rw [cS]; exact an.cell hj) (⟨_, rfl, (q.write ao ap ((zS ae)))⟩)))
theorem law {w : World} {v : Value} {ns : List Nd} (hP : Pins G w) (hv : RSl eNode G v ns) :
  Calls Tryz.prog 6 [.agg #[v], .agg #[vJ t, vJ z]].toArray w fun e w' => ∃ G', e = .returned (.bool true) ∧ Ext noS G w G' w' := by
 refine zY (n := 46) Tryz.func6 Tryz.ntmps6 rfl rfl ?_
 have ad := exr noS hP
 refine w9d ?_
 refine qI rfl (xH [v] (v := .agg #[v]) rfl rfl ad.pins (fun b1 w2 bt a4 a5 a6 => ?_))
 have a7 : w.heap.size ≤ b1 := by have := ad.size; omega
 obtain ⟨G9, s, ae, x, bv⟩ := a4.shut (ad.step a5 a6) a7
 refine qI rfl (xH [vJ t, vJ z] (v := .agg #[vJ t, vJ z]) rfl rfl ae.pins (fun a8 bw bx a9 ba bb => ?_))
 have bc : w.heap.size ≤ a8 := by have := ae.size; omega
 obtain ⟨bz, l, af, av, b0⟩ := a9.shut (ae.step ba bb) bc
 refine qM (.bool false) ?_
 refine qe (w9a ?_)
 refine qM (vJ 1048576) ?_
 refine qe (w9a ?_)
 refine qD rfl (yA (cs := [v]) ag24 sz24 rfl (fun j u hj => (cC af.pins l) _ _ _ (x _ _ (by simpa using hj)))) (qM (vJ 1048576) ?_)
 refine qI rfl (zL (vs := [.agg #[v], vJ 1048576]) Tryz.func9 nm9 rfl rfl rfl ?_)
 refine cD (szForm_spec af.pins (hv.mono (cB s l)) (by omega)) ?_
 rintro _ ag ⟨ah, bd, rfl, b2, g⟩
 refine rt9 ?_
 have ai := af.tr g
 refine qM (vJ ah) ?_
 refine qe (zA (w9b ?_))
 refine qM (vJ ah) ?_
 refine qD rfl (yU rfl rfl) (qe (zA ?_))
 refine yC (p := (ah : Int) < 0) rfl rfl (fun be => ?_) (fun be => ?_)
 refine w9d ?_
 refine qM (.bool true) ?_
 refine qe (zA ?_)
 exact cP (zP (zQ (v := .bool true) rfl rfl rfl (⟨_, rfl, ai⟩)))
 refine cO (zA (zB ?_))
 have hsm : Small ns := small_of (by omega)
 refine yW (S := fun wz => Pins bd wz) (last := 10) (by kernel_rfl) rfl ?_
 have aw := bdr ag
 have y := ai.step (ai.pins.below aw) aw
 refine dT (i := 0) rfl rfl (by kernel_rfl) (fun _ hS => yA (cs := [v]) ag24 sz24 rfl (fun j u hj => (cC hS (cB l g.le)) _ _ _ (x _ _ (by simpa using hj)))) y.pins ?_
 refine dT (i := 2) rfl rfl (by kernel_rfl) (fun _ hS => yA (cs := [vJ t, vJ z]) ag39 sz39 rfl (fun j u hj => (cC hS g.le) _ _ _ (av _ _ (by simpa using hj)))) y.pins ?_
 refine dP (i := 1) rfl rfl (zL (vs := [.agg #[v]]) Tryz.func11 nm11 rfl rfl rfl ?_)
 refine cD (gI y.pins (hv.mono (cB (cB s l) g.le)) hsm) ?_
 rintro _ b3 ⟨bf, b4, rfl, bg, a⟩
 refine rt9 ?_
 have aj := y.tr a
 refine ⟨fun _ => (cC aj.pins a.le), ?_⟩
 refine dP (i := 3) rfl rfl (zL (vs := [.agg #[vJ t, vJ z]]) Tryz.func20 nm20 rfl rfl rfl ?_)
 refine cD (tP (t := t) (z := z) aj.pins) ?_
 rintro _ b5 ⟨b6, rfl, b⟩
 refine rt9 ?_
 have ak := aj.tr b
 refine ⟨fun _ => (cC ak.pins (cB a.le b.le)), ?_⟩
 refine dP (i := 4) rfl rfl (zL (vs := [.agg #[bf], .agg #[vJ t, vJ z]]) Tryz.func19 nm19 rfl rfl rfl ?_)
 refine cD (sIsNear_spec (t := t) (z := z) ak.pins (bg.mono b.le)) ?_
 rintro _ b7 ⟨b8, rfl, d⟩
 refine rt9 ?_
 have k := ak.tr d
 refine ⟨fun _ => (cC k.pins (cB (cB a.le b.le) d.le)), ?_⟩
 refine dM 5 (.tuple #[.bool (inrV ns t z), .bool (inrB ns t z)]) (cC k.pins (cB (cB a.le b.le) d.le)) ?_
 refine dT (i := 6) rfl rfl (by kernel_rfl) (fun _ _ => yM (v := .bool (inrV ns t z)) rfl rfl) (cC k.pins (cB (cB a.le b.le) d.le)) ?_
 refine dT (i := 7) rfl rfl (by kernel_rfl) (fun _ _ => yM (v := .bool (inrB ns t z)) rfl rfl) (cC k.pins (cB (cB a.le b.le) d.le)) ?_
 refine dM 8 (.bool (inrV ns t z)) (cC k.pins (cB (cB a.le b.le) d.le)) ?_
 refine dM 9 (.bool (inrB ns t z)) (cC k.pins (cB (cB a.le b.le) d.le)) ?_
 refine yL (by kernel_rfl) (w9a ?_)
 refine qD rfl (yA (cs := [v]) ag24 sz24 rfl (fun j u hj => (cC k.pins (cB (cB (cB (cB l g.le) a.le) b.le) d.le)) _ _ _ (x _ _ (by simpa using hj)))) (qI rfl (zL (vs := [.agg #[v]]) Tryz.func11 nm11 rfl rfl rfl ?_))
 refine cD (gI k.pins (hv.mono (cB (cB (cB (cB (cB s l) g.le) a.le) b.le) d.le)) hsm) ?_
 rintro _ b9 ⟨o, ca, rfl, al, aa⟩
 refine rt9 ?_
 have am := k.tr aa
 refine qI rfl (yI [vN] zr32 rfl am.pins (fun bh cb cc bi bj bk => ?_))
 have ax := am.step bj bk
 have ay : w.heap.size ≤ bh := by have := am.size; omega
 refine q0 rfl rfl rfl (o_stp (cs' := [o]) (us := [o]) (v := .agg #[o]) sz32 rfl rfl rfl (yZ al.one) ax.pins bi (cE rfl) rfl (fun an bl bm bn cd => ?_))
 obtain ⟨bo, q, az, a0, ce⟩ := bl.shut (ax.write bm bn ((zS ay))) ay
 refine qe (zA (zB ?_))
 refine yW (S := fun wz => Pins bo wz) (last := 9) (by kernel_rfl) rfl ?_
 have a1 := bdr an
 have ab := az.step (az.pins.below a1) a1
 refine dT (i := 0) rfl rfl (by kernel_rfl) (fun _ hS => yA (cs := [o]) ag32 sz32 rfl (fun j u hj => hS _ _ _ (a0 _ _ (by simpa using hj)))) ab.pins ?_
 refine dT (i := 1) rfl rfl (by kernel_rfl) (fun _ hS => yA (cs := [vJ t, vJ z]) ag39 sz39 rfl (fun j u hj => (cC hS (cB (cB (cB (cB (cB g.le a.le) b.le) d.le) aa.le) q)) _ _ _ (av _ _ (by simpa using hj)))) ab.pins ?_
 refine dP (i := 2) rfl rfl (zL (vs := [.agg #[vJ t, vJ z]]) Tryz.func20 nm20 rfl rfl rfl ?_)
 refine cD (tP (t := t) (z := z) ab.pins) ?_
 rintro _ cf ⟨cg, rfl, c⟩
 refine rt9 ?_
 have ao := ab.tr c
 refine ⟨fun _ => (cC ao.pins c.le), ?_⟩
 refine dP (i := 3) rfl rfl (zL (vs := [.agg #[o], .agg #[vJ t, vJ z]]) Tryz.func21 nm21 rfl rfl rfl ?_)
 refine cD (iIsNear_spec (t := t) (z := z) ao.pins (al.mono (cB q c.le))) ?_
 rintro _ ap ⟨bp, rfl, f⟩
 refine rt9 ?_
 have m := ao.tr f
 refine ⟨fun _ => (cC m.pins (cB c.le f.le)), ?_⟩
 refine dM 4 (.tuple #[.bool (inrV ns t z), .bool (inrB ns t z)]) (cC m.pins (cB c.le f.le)) ?_
 refine dT (i := 5) rfl rfl (by kernel_rfl) (fun _ _ => yM (v := .bool (inrV ns t z)) rfl rfl) (cC m.pins (cB c.le f.le)) ?_
 refine dT (i := 6) rfl rfl (by kernel_rfl) (fun _ _ => yM (v := .bool (inrB ns t z)) rfl rfl) (cC m.pins (cB c.le f.le)) ?_
 refine dM 7 (.bool (inrV ns t z)) (cC m.pins (cB c.le f.le)) ?_
 refine dM 8 (.bool (inrB ns t z)) (cC m.pins (cB c.le f.le)) ?_
 refine yL (by kernel_rfl) (zA (w9b ?_))
 refine qM (.bool (inrV ns t z)) ?_
 refine qM (.bool (inrV ns t z)) ?_
 refine qD rfl (nR dZ rfl rfl) (qM (.bool false) ?_)
 refine qN (zN (v := .bool (inrB ns t z)) rfl) ?_
 refine qN (zN (v := .bool (inrB ns t z)) rfl) ?_
 refine qN (nR dZ rfl rfl) ?_
 refine qD rfl (zU (v := .bool false) rfl rfl) (qe (zA ?_))
 refine xT rfl rfl (cO (zA (zB (zB ?_))))
 refine yW (S := fun wz => Pins bp wz) (last := 5) (by kernel_rfl) rfl ?_
 have a2 := bdr ap
 have ac := m.step (m.pins.below a2) a2
 refine dT (i := 0) rfl rfl (by kernel_rfl) (fun _ hS => yA (cs := [o]) ag32 sz32 rfl (fun j u hj => (cC hS (cB c.le f.le)) _ _ _ (a0 _ _ (by simpa using hj)))) ac.pins ?_
 refine dT (i := 1) rfl rfl (by kernel_rfl) (fun _ hS => yA (cs := [v]) ag24 sz24 rfl (fun j u hj => (cC hS (cB (cB (cB (cB (cB (cB (cB (cB l g.le) a.le) b.le) d.le) aa.le) q) c.le) f.le)) _ _ _ (x _ _ (by simpa using hj)))) ac.pins ?_
 refine dP (i := 2) rfl rfl (zL (vs := [.agg #[v]]) Tryz.func11 nm11 rfl rfl rfl ?_)
 refine cD (gI ac.pins (hv.mono (cB (cB (cB (cB (cB (cB (cB (cB (cB s l) g.le) a.le) b.le) d.le) aa.le) q) c.le) f.le)) hsm) ?_
 rintro _ ch ⟨bq, ci, rfl, br, r⟩
 refine rt9 ?_
 have aq := ac.tr r
 refine ⟨fun _ => (cC aq.pins r.le), ?_⟩
 refine dP (i := 3) rfl rfl (zL (vs := [.agg #[o], .agg #[bq]]) Tryz.func14 nm14 rfl rfl rfl ?_)
 refine cD (eqForm_spec aq.pins (al.mono (cB (cB (cB q c.le) f.le) r.le)) br) ?_
 rintro _ cj ⟨ck, rfl, ar⟩
 refine rt9 ?_
 have au := aq.tr ar
 refine ⟨fun _ => (cC au.pins (cB r.le ar.le)), ?_⟩
 refine dT (i := 4) rfl rfl (by kernel_rfl) (fun _ _ => xD rfl) (cC au.pins (cB r.le ar.le)) ?_
 refine yL (by kernel_rfl) (zA (xU rfl rfl (fun _ => ?_) (fun h => absurd rfl (of_decide_eq_false h))))
 refine cO (w9a ?_)
 refine qM (.bool true) ?_
 refine qe (zA ?_)
 exact cP (zP (zQ (v := .bool true) rfl rfl rfl (⟨_, rfl, au⟩)))
end LIN
end Go.Proofs.YtakkjmlnmcemaaaGreatDoor
