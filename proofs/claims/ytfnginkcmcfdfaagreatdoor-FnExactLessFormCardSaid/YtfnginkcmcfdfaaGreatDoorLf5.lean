/- Texts of this claim in one file: E1, L1, K1, Shelf, PO1. -/
import Derived.Test.YtfnginkcmcfdfaaGreatDoorLf4
import Derived.Test.YtfnginkcmcfdfaaGreatDoorChecked
import Derived.Shelf.Sort.Plain
import Derived.Ground.Names2Prog
import Derived.Shelf.Slices.CompactI
import Derived.Shelf.Slices.In.SortNone
import Derived.Ground.SlsfProg
import Derived.Shelf.SlSortCmp.Whole1
import Derived.Shelf.SlSortCmp.NoneTotal
import Derived.Shelf.SlSortCmp.WholeK
import Derived.Test.YtfnginkcmcfdfaaGreatDoorProg
set_option maxRecDepth 20000
set_option maxHeartbeats 2000000
namespace Go.Proofs.YtfnginkcmcfdfaaGreatDoor
namespace E1
open Go.RowKit Go.GL Go.Proofs
open Go.Proofs.YtfnginkcmcfdfaaGreatDoor.C1
open Go.Proofs.YtfnginkcmcfdfaaGreatDoor.D1








theorem mk3 : (Tryz.prog.info? 3).map (fun i => (i.size, i.bytes, i.zero)) = some (1, 8, some (.int .i64 0)) := by kernel_rfl
theorem mk4 : (Tryz.prog.info? 4).map (fun i => (i.size, i.bytes, i.zero)) = some (1, 1, some (.bool false)) := by kernel_rfl













theorem pl102 : (Tryz.prog.underlying 102).bind (placesD Tryz.prog) = some [(0, 1), (1, 1)] := by kernel_rfl
theorem pl32 : (Tryz.prog.underlying 32).bind (placesD Tryz.prog) = some [(0, 1)] := by kernel_rfl
theorem pl99 : (Tryz.prog.underlying 99).bind (placesD Tryz.prog) = some [(0, 1), (1, 1)] := by kernel_rfl









theorem add_spec {w : World} {G : Pin} {b : Nat} {bu bv : Value} {ns : List Nd} {bs : List Int} (hP : Pins G w) (hB : Bk 99 3 G w b bu bv ns bs) (hok : BookOk ns bs) {x : Value} {fs : List Nd} (hx : RSl eNode G x fs) (hf : FormOk fs) (hl : ns.length + fs.length ≤ 1048576) :
  Calls Tryz.prog 137 [(.pointer (some ⟨b, 0, none⟩)), (.agg [x].toArray)].toArray w fun e w' => ∃ (r u' v' : Value) (G' : Pin), e = .returned r ∧ RSl eInt G' r (addM ns bs fs).1 ∧ Bk 99 3 G' w' b u' v' (addM ns bs fs).2.1 (addM ns bs fs).2.2 ∧ Ext (inS b bu bv) G w G' w' ∧ Lo w (inS b bu bv) u'.ownBlock ∧ Lo w (inS b bu bv) v'.ownBlock := by
 refine zZ (n := 37) Tryz.func137 Tryz.ntmps137 rfl rfl ?_
 have ay : Ext (inS b bu bv) G w G w := Ext.refl hP
 have hbx := hB.bx
 have hou := hB.ou
 have hov := hB.ov
 have habu := hB.abu
 have habv := hB.abv
 have hauv := hB.auv
 have hlob : Lo w (inS b bu bv) (some b) := lo_b
 have hlou : Lo w (inS b bu bv) bu.ownBlock := lo_u
 have hlov : Lo w (inS b bu bv) bv.ownBlock := lo_v
 have hlen := hok.len
 have hlim := hok.lim
 refine zB (zC ?_)
 refine qI rfl (xM [x] (v := (.agg [x].toArray)) rfl rfl ay.pins (fun b1 w2 az co cp am => ?_))
 have cq := ay.step cp am
 have cr := hou.below am
 have cs := hov.below am
 have ct := hbx.below am
 have cu : Apart (some b1) bu.ownBlock := zG (congrArg some az) hou.lt
 have cv : Apart (some b1) bv.ownBlock := zG (congrArg some az) hov.lt
 have cw : Apart (some b1) (some b) := zK (congrArg some az) hbx.lt
 have cx : w.heap.size ≤ b1 := by have := ay.size; omega
 obtain ⟨a0, ab, a1, a2, a3⟩ := co.shut cq cx
 have bg := cr.moreA ab a3 cu.symm
 have bh := cs.moreA ab a3 cv.symm
 have bi := ct.moreA a3 cw.symm
 refine qM (.slice none 0 0) ?_
 refine qe (zA (zB (zC ?_)))
 refine qI rfl (yY (E := eInt) (e := 3) Tryz.underlying65 sz3 a1.pins (fun ac cy cz c0 an a4 => ?_))
 have c1 := a1.step c0 an
 have c2 := bg.below an
 have c3 := bh.below an
 have c4 := bi.below an
 have c5 : Apart ac.ownBlock bu.ownBlock := zG a4 bg.lt
 have c6 : Apart ac.ownBlock bv.ownBlock := zG a4 bh.lt
 have c7 : Apart ac.ownBlock (some b) := zK a4 bi.lt
 have c8 : Own eInt 3 a0 cy w.heap.size ac ([]) := cz.weaken a1.size
 refine qM ac ?_
 refine qe (zA (zB (zB (zC ?_))))
 refine qM (vJ 0) ?_
 refine qe (zA ?_)
 refine zW ?_
 refine yL (fun (k : Nat) (en : Nat → Value) (W : World) => ∃ (bj : Nat → Value) (a : Nat) (at_ : Value) (ats : List Int) (m : Value) (o : Value) (g : List Nd) (h : List Int) (t : Pin), en = (upd (upd (upd (upd (upd bj 0 (.pointer (some ⟨b, 0, none⟩))) 3 (.pointer (some ⟨b1, 0, none⟩))) 4 (.slice none 0 0)) 5 at_) 6 (vJ (a : Int))) ∧ k = fs.length - a ∧ Ext (inS b bu bv) G w t W ∧ Pin.le a0 t ∧ (a ≤ fs.length) ∧ (addM ns bs (fs.take a) = (ats, g, h)) ∧ (AddOk ns a ats g h) ∧ (Own eInt 3 t W w.heap.size at_ (ats)) ∧ (Own eNode 99 t W 0 m (g)) ∧ (Own eInt 3 t W 0 o (h)) ∧ (Bx t W b [m, o]) ∧ (Apart at_.ownBlock m.ownBlock) ∧ (Apart at_.ownBlock o.ownBlock) ∧ (Apart at_.ownBlock (some b)) ∧ (Apart m.ownBlock o.ownBlock) ∧ (Apart m.ownBlock (some b)) ∧ (Apart o.ownBlock (some b)) ∧ (Lo w (inS b bu bv) m.ownBlock) ∧ (Lo w (inS b bu bv) o.ownBlock)) _ ⟨_, 0, ac, [], bu, bv, ns, bs, a0, (pS 6 (pS 5 (pS 4 (pS 3 (pU 0))))), rfl, c1, Pin.le_refl _, Nat.zero_le _, rfl, AddOk.start hok, c8, c2, c3, c4, c5, c6, c7, hauv, habu.symm, habv.symm, hlou, hlov⟩ ?_
 rintro e2 _ a5 ⟨bj, a, at_, ats, m, o, g, h, t, rfl, e3, ao, y, hj, hr, hao, bk, bl, bm, bn, bo, bp, ap, bq, br, bt, bw, bz⟩
 have hal := hao.len
 have hah := hao.hi
 have hfl := hf.len
 refine zB (zB (zC ?_))
 refine qM (vJ (a : Int)) ?_
 refine qD rfl (zN (k := 0) rfl Tryz.underlying32 rfl nz30 rfl) ?_
 refine qD rfl (zO (u := x) ag30 rfl ((Pins.of_le ao.pins y) _ _ _ (a2 0 _ rfl))) ?_
 refine qD rfl (zM Tryz.underlying30 (v := x) rfl hx) ?_
 refine qD rfl (yM rfl rfl) ?_
 refine qe (zA ?_)
 refine yD (p := ((a : Int) : Int) < (fs.length : Int)) rfl rfl (fun c9 => ?_) (fun c9 => ?_)
 ·skip
  have aq := hao.at1 hf (by omega)
  have hfe := hf.lens a (by omega)
  refine wp_skip ?_
  refine zA (zB ?_)
  refine zW ?_
  refine yU (S := fun wz => Pins t wz) (last := 22) (by kernel_rfl) rfl ?_
  have ad : Below a5.heap.size a5 a5.drew := (Below.refl _ _).drew
  have da := ao.pins.below ad
  have c := ao.step da ad
  have a6 := bk.below ad
  have b0 := bl.below ad
  have b2 := bm.below ad
  have b3 := bn.below ad
  refine dM 0 at_ c.pins ?_
  refine dM 1 (.pointer (some ⟨b, 0, none⟩)) c.pins ?_
  refine dM 2 at_ c.pins ?_
  refine dT (i := 3) rfl rfl (by kernel_rfl) (fun _ _ => zN (k := 0) rfl Tryz.underlying32 rfl nz30 rfl) c.pins ?_
  refine dT (i := 4) rfl rfl (by kernel_rfl) (fun _ hS => zO (u := x) ag30 rfl ((Pins.of_le hS y) _ _ _ (a2 0 _ rfl))) c.pins ?_
  refine dM 5 (vJ (a : Int)) c.pins ?_
  refine dT (i := 6) rfl rfl (by kernel_rfl) (fun _ _ => zI Tryz.underlying30 sz99 (v := x) rfl rfl hx (by omega) (by omega)) c.pins ?_
  refine dT (i := 7) rfl rfl (by kernel_rfl) (fun _ _ => xI (off := 0) Tryz.underlying99 rfl rfl nz65 (z := (a : Int)) (k := 0) rfl hx (by omega) (by omega)) c.pins ?_
  obtain ⟨db, b4, dc⟩ := nm_nl (hx.at (z := (a : Int)) (by omega) (by omega)) (j := a) rfl
  have e4 := b4.max
  refine dT (i := 8) rfl rfl (by kernel_rfl) (fun _ hS => dc ag65 rfl (Pins.of_le hS (Pin.le_trans ab y))) c.pins ?_
  refine dM 10 at_ c.pins ?_
  refine dT (i := 11) rfl rfl (by kernel_rfl) (fun _ _ => zN (k := 0) rfl Tryz.underlying32 rfl nz30 rfl) c.pins ?_
  refine dT (i := 12) rfl rfl (by kernel_rfl) (fun _ hS => zO (u := x) ag30 rfl ((Pins.of_le hS y) _ _ _ (a2 0 _ rfl))) c.pins ?_
  refine dM 13 (vJ (a : Int)) c.pins ?_
  refine dT (i := 14) rfl rfl (by kernel_rfl) (fun _ _ => zI Tryz.underlying30 sz99 (v := x) rfl rfl hx (by omega) (by omega)) c.pins ?_
  refine dT (i := 15) rfl rfl (by kernel_rfl) (fun _ _ => xI (off := 1) Tryz.underlying99 rfl rfl nz65 (z := (a : Int)) (k := 0) rfl hx (by omega) (by omega)) c.pins ?_
  obtain ⟨dd, b5, de⟩ := nm_nr (hx.at (z := (a : Int)) (by omega) (by omega)) (j := a) rfl
  have e5 := b5.max
  refine dT (i := 16) rfl rfl (by kernel_rfl) (fun _ hS => de ag65 rfl (Pins.of_le hS (Pin.le_trans ab y))) c.pins ?_
  refine dO (i := 9) (zR (i := 9) rfl rfl rfl (zD rfl _) (zL (vs := [at_, db]) Tryz.func127 nm127 rfl rfl rfl ?_))
  refine Calls.mono (qK c.pins (Gadd.pins c.pins at_) a6.read (b4.mono (Pin.le_trans ab y)) (by omega) aq.1) ?_
  rintro _ df ⟨b6, dg, rfl, ah, d⟩
  refine ⟨_, rfl, ?_⟩
  have ai := c.tr d
  have a7 := a6.ext d
  have b7 := b0.ext d
  have b8 := b2.ext d
  have b9 := b3.ext d
  have dh := zQ ah.lt a6.lt
  have di := zQ ah.lt b0.lt
  have dj := zQ ah.lt b2.lt
  have dk := yE ah.lt b3.lt
  have ca : Own eInt 3 dg df w.heap.size b6 (atL ats ((fs.getD a default).l)) := ah.weaken c.size
  refine ⟨fun _ => (Pins.of_le ai.pins d.le), ?_⟩
  refine dO (i := 17) (zR (i := 17) rfl rfl rfl (zD rfl _) (zL (vs := [at_, dd]) Tryz.func127 nm127 rfl rfl rfl ?_))
  refine Calls.mono (qK ai.pins (Gadd.pins ai.pins at_) a7.read (b5.mono (Pin.le_trans (Pin.le_trans ab y) d.le)) (by omega) aq.2) ?_
  rintro _ dl ⟨cb, dm, rfl, ae, f⟩
  refine ⟨_, rfl, ?_⟩
  have cc := ai.tr f
  have dn := a7.ext f
  have dp := b7.ext f
  have dq := b8.ext f
  have dr := ca.ext f
  have ds := b9.ext f
  have dt := zQ ae.lt a7.lt
  have du := zQ ae.lt b7.lt
  have dv := zQ ae.lt b8.lt
  have dw := zQ ae.lt ca.lt
  have dx := yE ae.lt b9.lt
  have dy : Own eInt 3 dm dl w.heap.size cb (atL ats ((fs.getD a default).r)) := ae.weaken ai.size
  refine ⟨fun _ => (Pins.of_le cc.pins (Pin.le_trans d.le f.le)), ?_⟩
  obtain ⟨e6, q, dz, d0, aj⟩ := dr.sealed cc
  have d1 := dn.moreO q aj dh.symm
  have d2 := dp.moreO q aj di.symm
  have d3 := dq.moreO q aj dj.symm
  have d4 := dy.moreO q aj dw
  have d5 := ds.moreO aj dk.symm
  obtain ⟨e7, s, ar, d6, au⟩ := d4.sealed dz
  have a8 := d1.moreO s au dt.symm
  have d7 := d2.moreO s au du.symm
  have d8 := d3.moreO s au dv.symm
  have d9 := d5.moreO au dx.symm
  refine dO (i := 18) (zR (i := 18) rfl rfl rfl (zD rfl _) (zL (vs := [(.pointer (some ⟨b, 0, none⟩)), b6, cb]) Tryz.func112 nm112 rfl rfl rfl ?_))
  refine Calls.mono (put_spec ar.pins ⟨d9, d7, d8, br.symm, bt.symm, bq⟩ hao.book (d0.mono s) d6 ⟨by rw [yR]; omega, by rw [yR]; omega⟩ (at_bounds hao.places aq.1) (at_bounds hao.places aq.2)) ?_
  rintro _ e8 ⟨a9, ba, cd, rfl, af, aa, ce, cf⟩
  refine ⟨_, rfl, ?_⟩
  have bb : ∀ i, inS b m o i → w.heap.size ≤ i ∨ (inS b bu bv) i := inS_lo hlob bw bz
  have av := ar.trans aa bb
  have bc := notS (u := m) (v := o) ap bo bp
  have ea := a8.extS aa bc
  have cg : Apart at_.ownBlock a9.ownBlock := xU ce bc (qE a8)
  have ch : Apart at_.ownBlock ba.ownBlock := xU cf bc (qE a8)
  have eb := af.bx
  have ec := af.ou
  have ed := af.ov
  have ee := af.abu
  have ef := af.abv
  have eg := af.auv
  have eh := xS ce bb ar.size
  have ei := xS cf bb ar.size
  refine ⟨fun _ => (Pins.of_le av.pins (Pin.le_trans (Pin.le_trans (Pin.le_trans (Pin.le_trans d.le f.le) q) s) aa.le)), ?_⟩
  refine dO (i := 19) (zR (i := 19) rfl rfl rfl (zD rfl _) (yS (E := eInt) (e := 3) [(vJ (putK g h (atL ats ((fs.getD a default).l)) (atL ats ((fs.getD a default).r))))] [putK g h (atL ats ((fs.getD a default).l)) (atL ats ((fs.getD a default).r))] Tryz.underlying65 sz3 zr3 (by exact xV (by rfl)) (xC (by rfl)) rfl rfl rfl rfl (by decide) av.pins (fun ci ej ek el ak e9 => ?_)))
  have aw := av.step el ak
  have cj := ea.below ak
  have ck := ec.below ak
  have cl := ed.below ak
  have cm := eb.below ak
  have em : Own eInt 3 cd ej w.heap.size ci ([putK g h (atL ats ((fs.getD a default).l)) (atL ats ((fs.getD a default).r))]) := ek.weaken av.size
  refine ⟨fun _ => (Pins.of_le aw.pins (Pin.le_trans (Pin.le_trans (Pin.le_trans (Pin.le_trans d.le f.le) q) s) aa.le)), ?_⟩
  refine dO (i := 20) (zR (i := 20) rfl rfl rfl (zD rfl _) (oA (E := eInt) (v := at_) (u := ci) 8 Tryz.underlying65 ap3 (by decide) rfl rfl aw.pins cj em.src (aw.size) (fun al fa eo ep ax bd => ?_)))
  have be := aw.write ep ax ((yC cj))
  have eq := ck.keptA ax cg.symm
  have er := cl.keptA ax ch.symm
  have es := cm.keptA ax ap.symm
  have et : Apart a9.ownBlock al.ownBlock := zF cg.symm bd ck.lt
  have eu : Apart ba.ownBlock al.ownBlock := zF ch.symm bd cl.lt
  have ev : Apart (some b) al.ownBlock := zJ ap.symm bd cm.lt
  have fb : (ats ++ ([putK g h (atL ats ((fs.getD a default).l)) (atL ats ((fs.getD a default).r))])).length = ats.length + 1 := List.length_append
  refine ⟨fun _ => (Pins.of_le be.pins (Pin.le_trans (Pin.le_trans (Pin.le_trans (Pin.le_trans d.le f.le) q) s) aa.le)), ?_⟩
  refine dM 21 al (Pins.of_le be.pins (Pin.le_trans (Pin.le_trans (Pin.le_trans (Pin.le_trans d.le f.le) q) s) aa.le)) ?_
  refine yK (by kernel_rfl) ?_
  refine yH ?_
  refine zA (zC ?_)
  refine qM (vJ (a : Int)) ?_
  refine qD rfl (yP rfl rfl (by omega)) ?_
  refine qM (vJ ((a : Int) + 1)) ?_
  refine qe ?_
  refine yG ?_
  refine ⟨_, ?_, _, rfl, _, a + 1, al, (addStep (ats, g, h) (fs.getD a default)).1, a9, ba, (addStep (ats, g, h) (fs.getD a default)).2.1, (addStep (ats, g, h) (fs.getD a default)).2.2, cd, (pS 6 (pS 5 (pS 4 (pS 3 (pU 0))))), rfl, be, (Pin.le_trans (Pin.le_trans (Pin.le_trans (Pin.le_trans (Pin.le_trans y d.le) f.le) q) s) aa.le), (by omega), ((qP (by omega)).trans (by rw [hr])), (hao.step hf (by omega) hl), eo, eq, er, es, et.symm, eu.symm, ev.symm, eg, ee.symm, ef.symm, eh, ei⟩
  omega
 refine wp_exit ?_
 refine zX ?_
 refine yJ ?_
 refine yI ?_
 refine zA (zB (zC ?_))
 refine qM at_ ?_
 refine qM at_ ?_
 refine qe (zA ?_)
 refine wp_ret ?_
 refine zT ?_
 refine zP (v := at_) rfl rfl rfl ?_
 obtain ⟨fc, cn, ew, ex, bf⟩ := bk.sealed ao
 have ey := bl.moreO cn bf bo.symm
 have ez := bm.moreO cn bf bp.symm
 have e0 := bn.moreO bf ap.symm
 rw [xZ (by omega)] at hr
 refine ⟨_, m, o, _, rfl, ?_, ?_, ew, bw, bz⟩
 ·rw [hr]; exact ex
 ·rw [hr]; exact ⟨e0, ey, ez, br.symm, bt.symm, bq⟩

theorem root_spec {w : World} {G : Pin} {b : Nat} {bu bv : Value} {ns : List Nd} {bs : List Int} (hP : Pins G w) (hB : Bk 99 3 G w b bu bv ns bs) (hok : BookOk ns bs) {x : Value} {fs : List Nd} (hx : RSl eNode G x fs) (hf : FormOk fs ∧ 1 ≤ fs.length) (hl : ns.length + fs.length ≤ 1048576) :
  Calls Tryz.prog 91 [(.pointer (some ⟨b, 0, none⟩)), (.agg [x].toArray)].toArray w fun e w' => ∃ (u' v' : Value) (G' : Pin), e = .returned (vJ (rootM ns bs fs)) ∧ Bk 99 3 G' w' b u' v' (addM ns bs fs).2.1 (addM ns bs fs).2.2 ∧ Ext (inS b bu bv) G w G' w' ∧ Lo w (inS b bu bv) u'.ownBlock ∧ Lo w (inS b bu bv) v'.ownBlock := by
 refine zZ (n := 15) Tryz.func91 Tryz.ntmps91 rfl rfl ?_
 have h : Ext (inS b bu bv) G w G w := Ext.refl hP
 have hbx := hB.bx
 have hou := hB.ou
 have hov := hB.ov
 have habu := hB.abu
 have habv := hB.abv
 have hauv := hB.auv
 have hlob : Lo w (inS b bu bv) (some b) := lo_b
 have hlou : Lo w (inS b bu bv) bu.ownBlock := lo_u
 have hlov : Lo w (inS b bu bv) bv.ownBlock := lo_v
 have hlen := hok.len
 have hlim := hok.lim
 have hal := (addM_all hok hf.1 hl).len
 have hfl := hf.1.len
 refine zB (zC ?_)
 refine qI rfl (xM [x] (v := (.agg [x].toArray)) rfl rfl h.pins (fun f w2 k s t g => ?_))
 have y := h.step t g
 have aa := hou.below g
 have ab := hov.below g
 have ac := hbx.below g
 have ad : Apart (some f) bu.ownBlock := zG (congrArg some k) hou.lt
 have ae : Apart (some f) bv.ownBlock := zG (congrArg some k) hov.lt
 have af : Apart (some f) (some b) := zK (congrArg some k) hbx.lt
 have ag : w.heap.size ≤ f := by have := h.size; omega
 obtain ⟨az, l, c, ah, m⟩ := s.shut y ag
 have ai := aa.moreA l m ad.symm
 have aj := ab.moreA l m ae.symm
 have ak := ac.moreA m af.symm
 refine qM (vJ 0) ?_
 refine qe (zA (zB (zC ?_)))
 refine qM (.pointer (some ⟨b, 0, none⟩)) ?_
 refine qD rfl (yQ (cs := [x]) ag32 sz32 rfl (fun j u hj => c.pins _ _ _ (ah _ _ (by simpa using hj)))) ?_
 refine qI rfl (zL (vs := [(.pointer (some ⟨b, 0, none⟩)), (.agg [x].toArray)]) Tryz.func137 nm137 rfl rfl rfl ?_)
 refine Calls.mono (add_spec c.pins ⟨ak, ai, aj, habu, habv, hauv⟩ hok (hx.mono l) hf.1 (by first | omega | (simp; omega))) ?_
 rintro _ a0 ⟨d, a1, a2, a3, rfl, o, a, al, am, an⟩
 refine ⟨_, rfl, ?_⟩
 have p : ∀ i, inS b bu bv i → w.heap.size ≤ i ∨ (inS b bu bv) i := inS_lo hlob hlou hlov
 have q := c.trans al p
 have ao := a.bx
 have ap := a.ou
 have aq := a.ov
 have ar := a.abu
 have au := a.abv
 have av := a.auv
 have aw := xS am p c.size
 have ax := xS an p c.size
 refine qM d ?_
 refine qe (zA (zB (zC ?_)))
 refine qM d ?_
 refine qM d ?_
 refine qD rfl (zM Tryz.underlying65 (v := d) rfl o) ?_
 refine qD rfl (r_sub rfl rfl (by omega)) ?_
 refine qD rfl (zI Tryz.underlying65 sz3 (v := d) rfl rfl o (by omega) (by omega)) ?_
 refine qD rfl (zH (r := ((addM ns bs fs).1).getD ((((addM ns bs fs).1).length : Int) - 1).toNat 0) rfl ag3 (z := ((((addM ns bs fs).1).length : Int) - 1)) rfl o q.pins (by omega) (by omega)) ?_
 refine qM (vJ (((addM ns bs fs).1).getD ((((addM ns bs fs).1).length : Int) - 1).toNat 0)) ?_
 refine qe (zA ?_)
 refine wp_ret ?_
 refine zT ?_
 refine zP (v := (vJ (((addM ns bs fs).1).getD ((((addM ns bs fs).1).length : Int) - 1).toNat 0))) rfl rfl rfl ?_
 exact ⟨_, _, _, congrArg (fun z => Ending.returned (Value.int .i64 z)) (by unfold rootM; rw [show (((addM ns bs fs).1.length : Int) - 1).toNat = (addM ns bs fs).1.length - 1 by omega]), ⟨ao, ap, aq, ar, au, av⟩, q, aw, ax⟩

theorem reached_spec {w : World} {G : Pin} {b : Nat} {bu bv : Value} {ns : List Nd} {bs : List Int} (hP : Pins G w) (hB : Bk 99 3 G w b bu bv ns bs) (hok : BookOk ns bs) {m : Int} (hm : 0 ≤ m ∧ m < ns.length) :
  Calls Tryz.prog 134 [(.pointer (some ⟨b, 0, none⟩)), (vJ m)].toArray w fun e w' => ∃ (u : Value) (G' : Pin), e = .returned u ∧ Own eBool 4 G' w' w.heap.size u (reachM ns m.toNat) ∧ Ext noS G w G' w' := by
 refine zZ (n := 78) Tryz.func134 Tryz.ntmps134 rfl rfl ?_
 have ai : Ext noS G w G w := Ext.refl hP
 have hbx := hB.bx
 have hou := hB.ou
 have hov := hB.ov
 have habu := hB.abu
 have habv := hB.abv
 have hauv := hB.auv
 have hlob : Lo w (inS b bu bv) (some b) := lo_b
 have hlou : Lo w (inS b bu bv) bu.ownBlock := lo_u
 have hlov : Lo w (inS b bu bv) bv.ownBlock := lo_v
 have hlen := hok.len
 have hlim := hok.lim
 have hoo : OptsOk ns := hok.optsOk
 refine zB (zC ?_)
 refine qM (.slice none 0 0) ?_
 refine qe (zA (zB (zC ?_)))
 refine qM (vJ m) ?_
 refine qD rfl (yP rfl rfl (by omega)) ?_
 refine qI rfl (o_make (E := eBool) false 1 (.bool false) Tryz.underlying109 mk4 (fun _ => rfl) rfl rfl ai.pins (by omega) (by omega) (by omega) (fun a w2 a6 a7 y aj => ?_))
 have ar := ai.step a7 y
 have a8 := hou.below y
 have a9 := hov.below y
 have ba := hbx.below y
 have ak : Apart a.ownBlock bu.ownBlock := zG aj hou.lt
 have al : Apart a.ownBlock bv.ownBlock := zG aj hov.lt
 have am : Apart a.ownBlock (some b) := zK aj hbx.lt
 have an : Own eBool 4 G w2 w.heap.size a (List.replicate (m + 1).toNat false) := a6.weaken ai.size
 have b9 : (List.replicate (m + 1).toNat false).length = (m + 1).toNat := List.length_replicate ..
 refine qM a ?_
 refine qe (zA (zB (zC ?_)))
 refine qM a ?_
 refine qM (vJ m) ?_
 refine qD rfl (zI Tryz.underlying109 sz4 (v := a) rfl rfl an.read (by omega) (by omega)) ?_
 refine q0 rfl rfl rfl (o_set (E := eBool) (v := a) (u := (.bool true)) (z := m) (true) sz4 rfl rfl rfl rfl ar.pins an (by omega) (by omega) (fun ca bb bc aa cb => ?_))
 have bd := ar.write bc aa ((yC an))
 have be := a8.keptA aa ak.symm
 have bf := a9.keptA aa al.symm
 have bg := ba.keptA aa am.symm
 refine qe (zA (zB (zB (zC ?_))))
 refine qM (vJ m) ?_
 refine qM (vJ m) ?_
 refine qe (zA ?_)
 refine zW ?_
 refine yL (fun (k : Nat) (en : Nat → Value) (W : World) => ∃ (d : Nat → Value) (z : Int) (is : List Bool), en = (upd (upd (upd (upd d 0 (.pointer (some ⟨b, 0, none⟩))) 4 (.slice none 0 0)) 5 a) 6 (vJ z)) ∧ k = (z + 1).toNat ∧ Ext noS G w G W ∧ (-1 ≤ z ∧ z ≤ m) ∧ (is.length = m.toNat + 1) ∧ (reachM ns m.toNat = ugo ns (z + 1).toNat is) ∧ (Own eBool 4 G W w.heap.size a (is)) ∧ (Own eNode 99 G W 0 bu (ns)) ∧ (Own eInt 3 G W 0 bv (bs)) ∧ (Bx G W b [bu, bv])) _ ⟨_, m, (List.replicate (m + 1).toNat false).set m.toNat true, (pS 6 (pS 5 (pS 4 (pU 0)))), rfl, bd, (by omega), (by simp; omega), (by rw [show (m + 1).toNat = m.toNat + 1 by omega]; rfl), bb, be, bf, bg⟩ ?_
 rintro cc _ cd ⟨d, z, is, rfl, ce, ab, hz, hnis, hr, x, au, av, aw⟩
 refine zB (zB (zC ?_))
 refine qM (vJ z) ?_
 refine qD rfl (r_geq rfl rfl) ?_
 refine qe (zA ?_)
 refine yD (p := (0 : Int) ≤ z) rfl rfl (fun bh => ?_) (fun bh => ?_)
 ·skip
  refine wp_skip ?_
  refine zA (zB ?_)
  refine zW ?_
  refine zB (zB (zC ?_))
  refine qM a ?_
  refine qM (vJ z) ?_
  refine qD rfl (zI Tryz.underlying109 sz4 (v := a) rfl rfl x.read (by omega) (by omega)) ?_
  refine qD rfl (run_load_bool (r := is.getD (z).toNat false) rfl ag4 (z := z) rfl x.read (Gadd.pins ab.pins a) (by omega) (by omega)) ?_
  refine qD rfl (xR rfl) ?_
  refine qe (zA ?_)
  refine c_ifn rfl rfl (fun ao => ?_) (fun ao => ?_)
  ·skip
   refine wp_skip ?_
   refine zA (zB (zB (zC ?_)))
   refine qM (vJ 0) ?_
   refine qe (zA ?_)
   refine zW ?_
   refine yL (fun (k : Nat) (en : Nat → Value) (W : World) => ∃ (d : Nat → Value) (i : Nat) (h : List Bool), en = (upd (upd (upd (upd (upd d 0 (.pointer (some ⟨b, 0, none⟩))) 4 (.slice none 0 0)) 5 a) 6 (vJ z)) 7 (vJ (i : Int))) ∧ k = (ns.getD (z).toNat default).l.length - i ∧ Ext noS G w G W ∧ (i ≤ (ns.getD (z).toNat default).l.length) ∧ (h.length = m.toNat + 1) ∧ (setAll is (ns.getD (z).toNat default).l = setAll h ((ns.getD (z).toNat default).l.drop i)) ∧ (Own eBool 4 G W w.heap.size a (h)) ∧ (Own eNode 99 G W 0 bu (ns)) ∧ (Own eInt 3 G W 0 bv (bs)) ∧ (Bx G W b [bu, bv])) _ ⟨_, 0, is, (pS 7 (pS 6 (pS 5 (pS 4 (pU 0))))), rfl, ab, Nat.zero_le _, hnis, rfl, x, au, av, aw⟩ ?_
   rintro cf _ cg ⟨d, i, h, rfl, ch, q, hii, ax, ay, ac, f, az, ad⟩
   refine zB (zB (zC ?_))
   refine qM (vJ (i : Int)) ?_
   refine qM (.pointer (some ⟨b, 0, none⟩)) ?_
   refine qD rfl (xF rfl) ?_
   refine qD rfl (zN (k := 0) rfl Tryz.underlying102 rfl nz30 rfl) ?_
   refine qD rfl (zO (u := bu) ag30 rfl (ad.cell (o := 0) rfl)) ?_
   refine qM (vJ z) ?_
   refine qD rfl (zI Tryz.underlying30 sz99 (v := bu) rfl rfl f.read (by omega) (by omega)) ?_
   refine qD rfl (xI (off := 0) Tryz.underlying99 rfl rfl nz65 (z := z) (k := 0) rfl f.read (by omega) (by omega)) ?_
   obtain ⟨bi, a0, bj⟩ := nm_nl (f.at (z := z) (by omega) (by omega)) (j := (z).toNat) rfl
   have ci := a0.max
   refine qD rfl (bj ag65 rfl (Gadd.pins q.pins bu)) ?_
   refine qD rfl (zM Tryz.underlying65 (v := bi) rfl a0) ?_
   refine qD rfl (yM rfl rfl) ?_
   refine qe (zA ?_)
   refine yD (p := ((i : Int) : Int) < (((ns.getD (z).toNat default).l).length : Int)) rfl rfl (fun bk => ?_) (fun bk => ?_)
   ·skip
    have hk := hoo.left (j := (z).toNat) (i := i) (by omega) (by omega)
    refine wp_skip ?_
    refine zA (zB ?_)
    refine zW ?_
    refine zC ?_
    refine qM a ?_
    refine qM (.pointer (some ⟨b, 0, none⟩)) ?_
    refine qD rfl (xF rfl) ?_
    refine qD rfl (zN (k := 0) rfl Tryz.underlying102 rfl nz30 rfl) ?_
    refine qD rfl (zO (u := bu) ag30 rfl (ad.cell (o := 0) rfl)) ?_
    refine qM (vJ z) ?_
    refine qD rfl (zI Tryz.underlying30 sz99 (v := bu) rfl rfl f.read (by omega) (by omega)) ?_
    refine qD rfl (xI (off := 0) Tryz.underlying99 rfl rfl nz65 (z := z) (k := 0) rfl f.read (by omega) (by omega)) ?_
    obtain ⟨bl, ap, bm⟩ := nm_nl (f.at (z := z) (by omega) (by omega)) (j := (z).toNat) rfl
    have cj := ap.max
    refine qD rfl (bm ag65 rfl (Gadd.pins q.pins bu)) ?_
    refine qM (vJ (i : Int)) ?_
    refine qD rfl (zI Tryz.underlying65 sz3 (v := bl) rfl rfl ap (by omega) (by omega)) ?_
    refine qD rfl (zH (r := ((ns.getD (z).toNat default).l).getD i 0) rfl ag3 (z := (i : Int)) rfl ap q.pins (by omega) (by omega)) ?_
    refine qD rfl (zI Tryz.underlying109 sz4 (v := a) rfl rfl ac.read (by omega) (by omega)) ?_
    refine q0 rfl rfl rfl (o_set (E := eBool) (v := a) (u := (.bool true)) (z := (((ns.getD (z).toNat default).l).getD i 0)) (true) sz4 rfl rfl rfl rfl q.pins ac (by omega) (by omega) (fun ck bn bo ae cl => ?_))
    have bp := q.write bo ae ((yC ac))
    have bq := f.keptA ae ak.symm
    have br := az.keptA ae al.symm
    have bt := ad.keptA ae am.symm
    refine qe ?_
    refine yH ?_
    refine zA (zC ?_)
    refine qM (vJ (i : Int)) ?_
    refine qD rfl (yP rfl rfl (by omega)) ?_
    refine qM (vJ ((i : Int) + 1)) ?_
    refine qe ?_
    refine yG ?_
    refine ⟨_, ?_, _, rfl, _, i + 1, h.set ((ns.getD (z).toNat default).l.getD i 0).toNat true, (pS 7 (pS 6 (pS 5 (pS 4 (pU 0))))), rfl, bp, (by omega), ((List.length_set ..).trans ax), (ay.trans (setAll_next (by omega))), bn, bq, br, bt⟩
    omega
   refine wp_exit ?_
   refine zX ?_
   refine yJ ?_
   refine yI ?_
   refine zA (zB (zC ?_))
   refine qM (vJ 0) ?_
   refine qe (zA ?_)
   refine zW ?_
   refine yL (fun (k : Nat) (en : Nat → Value) (W : World) => ∃ (d : Nat → Value) (c : Nat) (s : List Bool), en = (upd (upd (upd (upd (upd d 0 (.pointer (some ⟨b, 0, none⟩))) 4 (.slice none 0 0)) 5 a) 6 (vJ z)) 8 (vJ (c : Int))) ∧ k = (ns.getD (z).toNat default).r.length - c ∧ Ext noS G w G W ∧ (c ≤ (ns.getD (z).toNat default).r.length) ∧ (s.length = m.toNat + 1) ∧ (setAll h (ns.getD (z).toNat default).r = setAll s ((ns.getD (z).toNat default).r.drop c)) ∧ (Own eBool 4 G W w.heap.size a (s)) ∧ (Own eNode 99 G W 0 bu (ns)) ∧ (Own eInt 3 G W 0 bv (bs)) ∧ (Bx G W b [bu, bv])) _ ⟨_, 0, h, (pS 8 (pS 6 (pS 5 (pS 4 (pU 0))))), rfl, q, Nat.zero_le _, ax, rfl, ac, f, az, ad⟩ ?_
   rintro cm _ cn ⟨d, c, s, rfl, co, t, cp, a1, a2, af, g, a3, ag⟩
   refine zB (zB (zC ?_))
   refine qM (vJ (c : Int)) ?_
   refine qM (.pointer (some ⟨b, 0, none⟩)) ?_
   refine qD rfl (xF rfl) ?_
   refine qD rfl (zN (k := 0) rfl Tryz.underlying102 rfl nz30 rfl) ?_
   refine qD rfl (zO (u := bu) ag30 rfl (ag.cell (o := 0) rfl)) ?_
   refine qM (vJ z) ?_
   refine qD rfl (zI Tryz.underlying30 sz99 (v := bu) rfl rfl g.read (by omega) (by omega)) ?_
   refine qD rfl (xI (off := 1) Tryz.underlying99 rfl rfl nz65 (z := z) (k := 0) rfl g.read (by omega) (by omega)) ?_
   obtain ⟨bw, a4, bz⟩ := nm_nr (g.at (z := z) (by omega) (by omega)) (j := (z).toNat) rfl
   have cq := a4.max
   refine qD rfl (bz ag65 rfl (Gadd.pins t.pins bu)) ?_
   refine qD rfl (zM Tryz.underlying65 (v := bw) rfl a4) ?_
   refine qD rfl (yM rfl rfl) ?_
   refine qe (zA ?_)
   refine yD (p := ((c : Int) : Int) < (((ns.getD (z).toNat default).r).length : Int)) rfl rfl (fun b0 => ?_) (fun b0 => ?_)
   ·skip
    have hk := hoo.right (j := (z).toNat) (i := c) (by omega) (by omega)
    refine wp_skip ?_
    refine zA (zB ?_)
    refine zW ?_
    refine zC ?_
    refine qM a ?_
    refine qM (.pointer (some ⟨b, 0, none⟩)) ?_
    refine qD rfl (xF rfl) ?_
    refine qD rfl (zN (k := 0) rfl Tryz.underlying102 rfl nz30 rfl) ?_
    refine qD rfl (zO (u := bu) ag30 rfl (ag.cell (o := 0) rfl)) ?_
    refine qM (vJ z) ?_
    refine qD rfl (zI Tryz.underlying30 sz99 (v := bu) rfl rfl g.read (by omega) (by omega)) ?_
    refine qD rfl (xI (off := 1) Tryz.underlying99 rfl rfl nz65 (z := z) (k := 0) rfl g.read (by omega) (by omega)) ?_
    obtain ⟨b1, aq, b2⟩ := nm_nr (g.at (z := z) (by omega) (by omega)) (j := (z).toNat) rfl
    have cr := aq.max
    refine qD rfl (b2 ag65 rfl (Gadd.pins t.pins bu)) ?_
    refine qM (vJ (c : Int)) ?_
    refine qD rfl (zI Tryz.underlying65 sz3 (v := b1) rfl rfl aq (by omega) (by omega)) ?_
    refine qD rfl (zH (r := ((ns.getD (z).toNat default).r).getD c 0) rfl ag3 (z := (c : Int)) rfl aq t.pins (by omega) (by omega)) ?_
    refine qD rfl (zI Tryz.underlying109 sz4 (v := a) rfl rfl af.read (by omega) (by omega)) ?_
    refine q0 rfl rfl rfl (o_set (E := eBool) (v := a) (u := (.bool true)) (z := (((ns.getD (z).toNat default).r).getD c 0)) (true) sz4 rfl rfl rfl rfl t.pins af (by omega) (by omega) (fun cs b3 b4 ah ct => ?_))
    have b5 := t.write b4 ah ((yC af))
    have b6 := g.keptA ah ak.symm
    have b7 := a3.keptA ah al.symm
    have b8 := ag.keptA ah am.symm
    refine qe ?_
    refine yH ?_
    refine zA (zC ?_)
    refine qM (vJ (c : Int)) ?_
    refine qD rfl (yP rfl rfl (by omega)) ?_
    refine qM (vJ ((c : Int) + 1)) ?_
    refine qe ?_
    refine yG ?_
    refine ⟨_, ?_, _, rfl, _, c + 1, s.set ((ns.getD (z).toNat default).r.getD c 0).toNat true, (pS 8 (pS 6 (pS 5 (pS 4 (pU 0))))), rfl, b5, (by omega), ((List.length_set ..).trans a1), (a2.trans (setAll_next (by omega))), b3, b6, b7, b8⟩
    omega
   refine wp_exit ?_
   refine zX ?_
   refine yJ ?_
   refine yI ?_
   refine yH ?_
   refine zA (zC ?_)
   refine qM (vJ z) ?_
   refine qD rfl (r_sub rfl rfl (by omega)) ?_
   refine qM (vJ (z - 1)) ?_
   refine qe ?_
   refine yG ?_
   refine ⟨_, ?_, _, rfl, _, z - 1, s, (pS 6 (pS 5 (pS 4 (pU 0)))), rfl, t, (by omega), a1, (hr.trans ((ugo_step (by omega)).trans (by rw [ustep_yes ao, ay, setAll_end (by omega), a2, setAll_end (by omega)]))), af, g, a3, ag⟩
   omega
  refine wp_exit ?_
  refine zX ?_
  refine yI ?_
  refine zA (zC ?_)
  refine qM (vJ z) ?_
  refine qD rfl (r_sub rfl rfl (by omega)) ?_
  refine qM (vJ (z - 1)) ?_
  refine qe ?_
  refine yG ?_
  refine ⟨_, ?_, _, rfl, _, z - 1, is, (pS 6 (pS 5 (pS 4 (pU 0)))), rfl, ab, (by omega), hnis, (hr.trans ((ugo_step (by omega)).trans (by rw [ustep_no ao]))), x, au, av, aw⟩
  omega
 refine wp_exit ?_
 refine zX ?_
 refine yJ ?_
 refine yI ?_
 refine zA (zB (zC ?_))
 refine qM a ?_
 refine qM a ?_
 refine qe (zA ?_)
 refine wp_ret ?_
 refine zT ?_
 refine zP (v := a) rfl rfl rfl ?_
 exact ⟨_, _, rfl, (by rw [hr, ugo_end (by omega)]; exact x), ab⟩

theorem form_spec {w : World} {G : Pin} {b : Nat} {bu bv : Value} {ns : List Nd} {bs : List Int} (hP : Pins G w) (hB : Bk 99 3 G w b bu bv ns bs) (hok : BookOk ns bs) {m : Int} (hm : 0 ≤ m ∧ m < ns.length) :
  Calls Tryz.prog 90 [(.pointer (some ⟨b, 0, none⟩)), (vJ m)].toArray w fun e w' => ∃ (u : Value) (G' : Pin), e = .returned (.agg [u].toArray) ∧ RSl eNode G' u (formM ns bs m.toNat) ∧ Ext noS G w G' w' := by
 refine zZ (n := 143) Tryz.func90 Tryz.ntmps90 rfl rfl ?_
 have jo : Ext noS G w G w := Ext.refl hP
 have hbx := hB.bx
 have hou := hB.ou
 have hov := hB.ov
 have habu := hB.abu
 have habv := hB.abv
 have hauv := hB.auv
 have hlob : Lo w (inS b bu bv) (some b) := lo_b
 have hlou : Lo w (inS b bu bv) bu.ownBlock := lo_u
 have hlov : Lo w (inS b bu bv) bv.ownBlock := lo_v
 have hlen := hok.len
 have hlim := hok.lim
 have hoo : OptsOk ns := hok.optsOk
 refine zB (zC ?_)
 refine qI rfl (xA [(.slice none 0 0)] zr32 rfl jo.pins (fun f w2 hk3 nc hp5 hk => ?_))
 have jp := jo.step hp5 hk
 have jq := hou.below hk
 have jr := hov.below hk
 have js := hbx.below hk
 have aan : w.heap.size ≤ f := by have := jo.size; omega
 refine qe (zA (zB (zC ?_)))
 refine qM (.pointer (some ⟨b, 0, none⟩)) ?_
 refine qM (vJ m) ?_
 refine qI rfl (zL (vs := [(.pointer (some ⟨b, 0, none⟩)), (vJ m)]) Tryz.func134 nm134 rfl rfl rfl ?_)
 refine Calls.mono (reached_spec jp.pins ⟨js, jq, jr, habu, habv, hauv⟩ hok hm) ?_
 rintro _ w17 ⟨aw, G16, rfl, gu, gv⟩
 refine ⟨_, rfl, ?_⟩
 have aaq := jp.tr gv
 have aar := jq.ext gv
 have aas := jr.ext gv
 have aat := js.ext gv
 have aau := nc.ext gv
 have aav := zQ gu.lt jq.lt
 have aaw := zQ gu.lt jr.lt
 have aax := yE gu.lt js.lt
 have aay := yE gu.lt nc.lt
 have aaz : Own eBool 4 G16 w17 w.heap.size aw (reachM ns (m).toNat) := gu.weaken jp.size
 obtain ⟨hl, nd, jt, ne, hn⟩ := aaz.sealed aaq
 have nf := aar.moreO nd hn aav.symm
 have ng := aas.moreO nd hn aaw.symm
 have nh := aat.moreO hn aax.symm
 have ni := aau.moreO hn aay.symm
 have hnl := reach_length ns m.toNat
 refine qM aw ?_
 refine qe (zA (zB (zC ?_)))
 refine qM (vJ m) ?_
 refine qD rfl (yP rfl rfl (by omega)) ?_
 refine qI rfl (o_make (E := eInt) 0 8 (vJ 0) Tryz.underlying65 mk3 (fun _ => rfl) rfl rfl jt.pins (by omega) (by omega) (by omega) (fun b8 w40 aa1 aa2 gw ho => ?_))
 have ju := jt.step aa2 gw
 have nj := nf.below gw
 have nk := ng.below gw
 have nl := nh.below gw
 have nm := ni.below gw
 have aa3 : Apart b8.ownBlock bu.ownBlock := zG ho nf.lt
 have aa4 : Apart b8.ownBlock bv.ownBlock := zG ho ng.lt
 have aa5 : Apart b8.ownBlock (some b) := zK ho nh.lt
 have aa6 : Apart b8.ownBlock (some f) := zK ho ni.lt
 have nn : Own eInt 3 hl w40 w.heap.size b8 (List.replicate (m + 1).toNat 0) := aa1.weaken jt.size
 have avb : (List.replicate (m + 1).toNat 0).length = (m + 1).toNat := List.length_replicate ..
 refine qM b8 ?_
 refine qe (zA (zB (zC ?_)))
 refine qI rfl (yY (E := eNode) (e := 99) Tryz.underlying30 sz99 ju.pins (fun ap w57 aa8 aa9 gc gx => ?_))
 have jv := ju.step aa9 gc
 have no := nj.below gc
 have np := nk.below gc
 have nq := nn.below gc
 have nr := nl.below gc
 have nt := nm.below gc
 have aba : Apart ap.ownBlock bu.ownBlock := zG gx nj.lt
 have abb : Apart ap.ownBlock bv.ownBlock := zG gx nk.lt
 have abc : Apart ap.ownBlock b8.ownBlock := zG gx nn.lt
 have abd : Apart ap.ownBlock (some b) := zK gx nl.lt
 have abe : Apart ap.ownBlock (some f) := zK gx nm.lt
 have jw : Own eNode 99 hl w57 w.heap.size ap ([]) := aa8.weaken ju.size
 refine qD rfl (xX [(.slice none 0 0)] [ap] [(0, ap, [ap])] Tryz.underlying32 zr32 rfl pl32 rfl (List.forall_mem_cons.2 ⟨(yX jw.one), (fun _ h => by cases h)⟩) rfl) ?_
 refine qI rfl (xA [(.slice none 0 0)] zr32 rfl jv.pins (fun d w75 gd abf abg ey => ?_))
 have nu := jv.step abg ey
 have abh := no.below ey
 have abi := np.below ey
 have abj := nq.below ey
 have nv := jw.below ey
 have abk := nr.below ey
 have abl := nt.below ey
 have nw : Apart (some d) bu.ownBlock := zG (congrArg some gd) no.lt
 have nx : Apart (some d) bv.ownBlock := zG (congrArg some gd) np.lt
 have ny : Apart (some d) b8.ownBlock := zG (congrArg some gd) nq.lt
 have nz : Apart (some d) ap.ownBlock := zG (congrArg some gd) jw.lt
 have n0 : Apart (some d) (some b) := zK (congrArg some gd) nr.lt
 have n1 : Apart (some d) (some f) := zK (congrArg some gd) nt.lt
 have n2 : w.heap.size ≤ d := by have := jv.size; omega
 refine q0 rfl rfl rfl (xK (cs' := [ap]) (us := [ap]) (v := (.agg [ap].toArray)) sz32 rfl rfl rfl (xC nv.one) nu.pins abf (Nat.le_of_ble_eq_true rfl) rfl (fun w94 abm abn ez ave => ?_))
 have abo := nu.write abn ez ((yT n2))
 have abp := abh.keptA ez nw.symm
 have abq := abi.keptA ez nx.symm
 have abr := abj.keptA ez ny.symm
 have abs := nv.keptA ez nz.symm
 have abt := abk.keptA ez n0.symm
 have abw := abl.keptA ez n1.symm
 refine qe (zA (zB (zB (zC ?_))))
 refine qM (vJ 0) ?_
 refine qe (zA ?_)
 refine zW ?_
 refine yL (fun (k : Nat) (en : Nat → Value) (W : World) => ∃ (ac : Nat → Value) (q : Nat) (at_ : Value) (ats : List Int) (ov : Value) (outs : List Nd) (ax : Pin), en = (upd (upd (upd (upd (upd (upd (upd ac 0 (.pointer (some ⟨b, 0, none⟩))) 1 (vJ m)) 4 (.pointer (some ⟨f, 0, none⟩))) 5 aw) 6 at_) 7 (.pointer (some ⟨d, 0, none⟩))) 8 (vJ (q : Int))) ∧ k = (bs.getD m.toNat 0).toNat + 1 - q ∧ Ext noS G w ax W ∧ Pin.le hl ax ∧ (q ≤ (bs.getD m.toNat 0).toNat + 1) ∧ (formGo ns bs (reachM ns m.toNat) (m.toNat + 1) q = (ats, outs)) ∧ (ats.length = m.toNat + 1) ∧ (outs.length ≤ q * 1048576) ∧ (Own eInt 3 ax W w.heap.size at_ (ats)) ∧ (Own eNode 99 ax W w.heap.size ov (outs)) ∧ (Own eNode 99 ax W 0 bu (ns)) ∧ (Own eInt 3 ax W 0 bv (bs)) ∧ (Bx ax W b [bu, bv]) ∧ (Bx ax W f [(.slice none 0 0)]) ∧ (Bx ax W d [ov]) ∧ (Apart at_.ownBlock ov.ownBlock) ∧ (Apart at_.ownBlock bu.ownBlock) ∧ (Apart at_.ownBlock bv.ownBlock) ∧ (Apart at_.ownBlock (some b)) ∧ (Apart at_.ownBlock (some f)) ∧ (Apart at_.ownBlock (some d)) ∧ (Apart ov.ownBlock bu.ownBlock) ∧ (Apart ov.ownBlock bv.ownBlock) ∧ (Apart ov.ownBlock (some b)) ∧ (Apart ov.ownBlock (some f)) ∧ (Apart ov.ownBlock (some d))) _ ⟨_, 0, b8, List.replicate (m + 1).toNat 0, ap, [], hl, (pS 8 (pS 7 (pS 6 (pS 5 (pS 4 (pS 1 (pU 0))))))), rfl, abo, Pin.le_refl _, Nat.zero_le _, (by rw [show (m + 1).toNat = m.toNat + 1 by omega]; rfl), (by simp; omega), Nat.le_refl 0, abr, abs, abp, abq, abt, abw, abm, abc.symm, aa3, aa4, aa5, aa6, ny.symm, aba, abb, abd, abe, nz.symm⟩ ?_
 rintro avf _ avg ⟨ac, q, at_, ats, ov, outs, ax, rfl, avh, ge, n3, hq, hr, hatl, hol, n4, hp, n5, hs, jx, jy, jz, abx, aby, abz, ab0, ab1, ab2, ab3, ab4, ab5, n6, ab6⟩
 have hbm := hok.born m.toNat (by omega)
 refine zB (zB (zC ?_))
 refine qM (vJ (q : Int)) ?_
 refine qM (.pointer (some ⟨b, 0, none⟩)) ?_
 refine qD rfl (xF rfl) ?_
 refine qD rfl (zN (k := 1) rfl Tryz.underlying102 rfl nz65 rfl) ?_
 refine qD rfl (zO (u := bv) ag65 rfl (jx.cell (o := 1) rfl)) ?_
 refine qM (vJ m) ?_
 refine qD rfl (zI Tryz.underlying65 sz3 (v := bv) rfl rfl hs.read (by omega) (by omega)) ?_
 refine qD rfl (zH (r := bs.getD (m).toNat 0) rfl ag3 (z := m) rfl hs.read (Gadd.pins ge.pins bv) (by omega) (by omega)) ?_
 refine qD rfl (r_leq rfl rfl) ?_
 refine qe (zA ?_)
 refine yD (p := ((q : Int) : Int) ≤ (bs.getD (m).toNat 0)) rfl rfl (fun ab7 => ?_) (fun ab7 => ?_)
 ·skip
  refine wp_skip ?_
  refine zA (zB ?_)
  refine zW ?_
  refine zB (zC ?_)
  refine qI rfl (yY (E := eNode) (e := 99) Tryz.underlying30 sz99 ge.pins (fun bc ab8 ab9 aca dj e0 => ?_))
  have j0 := ge.step aca dj
  have n7 := n4.below dj
  have n8 := hp.below dj
  have n9 := n5.below dj
  have oa := hs.below dj
  have ob := jx.below dj
  have oc := jy.below dj
  have od := jz.below dj
  have acb : Apart bc.ownBlock at_.ownBlock := zG e0 n4.lt
  have acc : Apart bc.ownBlock ov.ownBlock := zG e0 hp.lt
  have acd : Apart bc.ownBlock bu.ownBlock := zG e0 n5.lt
  have ace : Apart bc.ownBlock bv.ownBlock := zG e0 hs.lt
  have acf : Apart bc.ownBlock (some b) := zK e0 jx.lt
  have acg : Apart bc.ownBlock (some f) := zK e0 jy.lt
  have ach : Apart bc.ownBlock (some d) := zK e0 jz.lt
  have oe : Own eNode 99 ax ab8 w.heap.size bc ([]) := ab9.weaken ge.size
  refine qI rfl (yY (E := eInt) (e := 3) Tryz.underlying65 sz3 j0.pins (fun bd aci acj ack b9 dk => ?_))
  have acl := j0.step ack b9
  have acm := n7.below b9
  have acn := n8.below b9
  have aco := n9.below b9
  have acp := oa.below b9
  have acq := oe.below b9
  have acr := ob.below b9
  have acs := oc.below b9
  have act := od.below b9
  have acu : Apart bd.ownBlock at_.ownBlock := zG dk n7.lt
  have acv : Apart bd.ownBlock ov.ownBlock := zG dk n8.lt
  have acw : Apart bd.ownBlock bu.ownBlock := zG dk n9.lt
  have acx : Apart bd.ownBlock bv.ownBlock := zG dk oa.lt
  have acy : Apart bd.ownBlock bc.ownBlock := zG dk oe.lt
  have acz : Apart bd.ownBlock (some b) := zK dk ob.lt
  have ac0 : Apart bd.ownBlock (some f) := zK dk oc.lt
  have ac1 : Apart bd.ownBlock (some d) := zK dk od.lt
  have ac2 : Own eInt 3 ax aci w.heap.size bd ([]) := acj.weaken j0.size
  refine qM bc ?_
  refine qM bd ?_
  refine qe (zA (zB (zB (zC ?_))))
  refine qM (vJ 0) ?_
  refine qe (zA ?_)
  refine zW ?_
  obtain ⟨avi, e1, ac3, ac4, dl⟩ := acq.sealed acl
  have ac5 := acm.moreO e1 dl acb.symm
  have ac6 := acn.moreO e1 dl acc.symm
  have ac7 := aco.moreO e1 dl acd.symm
  have ac8 := acp.moreO e1 dl ace.symm
  have ac9 := ac2.moreO e1 dl acy
  have ada := acr.moreO dl acf.symm
  have adb := acs.moreO dl acg.symm
  have adc := act.moreO dl ach.symm
  obtain ⟨og, e2, add, ade, e3⟩ := ac9.sealed ac3
  have adf := ac5.moreO e2 e3 acu.symm
  have adg := ac6.moreO e2 e3 acv.symm
  have adh := ac7.moreO e2 e3 acw.symm
  have adi := ac8.moreO e2 e3 acx.symm
  have adj := ada.moreO e3 acz.symm
  have adk := adb.moreO e3 ac0.symm
  have adl := adc.moreO e3 ac1.symm
  refine yL (fun (k : Nat) (en : Nat → Value) (W : World) => ∃ (ac : Nat → Value) (c : Nat) (lv : Value) (ls : List Nd) (fv : Value) (fr : List Int) (ai : Pin), en = (upd (upd (upd (upd (upd (upd (upd (upd (upd (upd ac 0 (.pointer (some ⟨b, 0, none⟩))) 1 (vJ m)) 4 (.pointer (some ⟨f, 0, none⟩))) 5 aw) 6 at_) 7 (.pointer (some ⟨d, 0, none⟩))) 8 (vJ (q : Int))) 9 lv) 10 fv) 11 (vJ (c : Int))) ∧ k = m.toNat + 1 - c ∧ Ext noS G w ai W ∧ Pin.le og ai ∧ (c ≤ m.toNat + 1) ∧ (lvM ns bs (reachM ns m.toNat) ats q c = (ls, fr)) ∧ (ls.length = fr.length ∧ ls.length ≤ c) ∧ (∀ i, i < fr.length → 0 ≤ fr.getD i 0 ∧ fr.getD i 0 ≤ m) ∧ (Own eInt 3 ai W w.heap.size at_ (ats)) ∧ (Own eNode 99 ai W w.heap.size ov (outs)) ∧ (Own eNode 99 ai W 0 bu (ns)) ∧ (Own eInt 3 ai W 0 bv (bs)) ∧ (Bx ai W b [bu, bv]) ∧ (Bx ai W f [(.slice none 0 0)]) ∧ (Bx ai W d [ov]) ∧ (RSl eNode ai lv (ls)) ∧ (RSl eInt ai fv (fr))) _ ⟨_, 0, bc, [], bd, [], og, (pS 11 (pS 10 (pS 9 (pS 8 (pS 7 (pS 6 (pS 5 (pS 4 (pS 1 (pU 0)))))))))), rfl, add, Pin.le_refl _, Nat.zero_le _, rfl, ⟨rfl, Nat.le_refl 0⟩, (fun i hi => absurd hi (Nat.not_lt_zero i)), adf, adg, adh, adi, adj, adk, adl, (ac4.mono e2), ade⟩ ?_
  rintro avj _ ht ⟨ac, c, lv, ls, fv, fr, ai, rfl, avk, dm, gy, hk5, hrl, hll, hfb, hu, hv, e4, gf, gz, hw, hx, bk, gg⟩
  refine zB (zB (zC ?_))
  refine qM (vJ (c : Int)) ?_
  refine qM (vJ m) ?_
  refine qD rfl (r_leq rfl rfl) ?_
  refine qe (zA ?_)
  refine yD (p := ((c : Int) : Int) ≤ m) rfl rfl (fun adm => ?_) (fun adm => ?_)
  ·skip
   have hlk := hok.lens c (by omega)
   refine wp_skip ?_
   refine zA (zB ?_)
   refine zW ?_
   refine zB (zB (zC ?_))
   refine qM aw ?_
   refine qM (vJ (c : Int)) ?_
   refine qD rfl (zI Tryz.underlying109 sz4 (v := aw) rfl rfl ne (by omega) (by omega)) ?_
   refine qD rfl (run_load_bool (r := (reachM ns (m).toNat).getD c false) rfl ag4 (z := (c : Int)) rfl ne (Pins.of_le dm.pins (Pin.le_trans (Pin.le_trans (Pin.le_trans n3 e1) e2) gy)) (by omega) (by omega)) ?_
   refine qD rfl (xR rfl) ?_
   refine qM (.bool (!((reachM ns (m).toNat).getD c false))) ?_
   refine qbn (t := 46) rfl (fun j1 => ?_) (fun j1 => ?_)
   ·skip
    refine qN (zU (v := (.pointer (some ⟨b, 0, none⟩))) rfl) ?_
    refine qN (xF rfl) ?_
    refine qN (zN (k := 1) rfl Tryz.underlying102 rfl nz65 rfl) ?_
    refine qN (zO (u := bv) ag65 rfl (gz.cell (o := 1) rfl)) ?_
    refine qN (zU (v := (vJ (c : Int))) rfl) ?_
    refine qN (zI Tryz.underlying65 sz3 (v := bv) rfl rfl gf.read (by omega) (by omega)) ?_
    refine qN (zH (r := bs.getD c 0) rfl ag3 (z := (c : Int)) rfl gf.read (Gadd.pins dm.pins bv) (by omega) (by omega)) ?_
    refine qN (zU (v := (vJ (q : Int))) rfl) ?_
    refine qN (r_neq rfl rfl) ?_
    refine qD rfl (xB (v := (.bool (decide ((bs.getD c 0 : Int) ≠ (q : Int))))) rfl rfl) ?_
    refine qe (zA ?_)
    refine yD (p := (bs.getD c 0 : Int) ≠ (q : Int)) rfl rfl (fun adn => ?_) (fun adn => ?_)
    ·skip
     refine wp_exit ?_
     refine zX ?_
     refine yI ?_
     refine zA (zC ?_)
     refine qM (vJ (c : Int)) ?_
     refine qD rfl (yP rfl rfl (by omega)) ?_
     refine qM (vJ ((c : Int) + 1)) ?_
     refine qe ?_
     refine yG ?_
     refine ⟨_, ?_, _, rfl, _, c + 1, lv, ls, fv, fr, ai, (pS 11 (pS 10 (pS 9 (pS 8 (pS 7 (pS 6 (pS 5 (pS 4 (pS 1 (pU 0)))))))))), rfl, dm, gy, (by omega), (lv_skip hrl (fun g => by have := g.2; omega)), (by omega), hfb, hu, hv, e4, gf, gz, hw, hx, bk, gg⟩
     omega
    refine wp_skip ?_
    refine zA (zB ?_)
    refine c_cut (fun (en : Nat → Value) (W : World) => ∃ (ac : Nat → Value) (g0 : Nat) (ca : Value) (cb : Value) (am : Pin), en = (upd (upd (upd (upd (upd (upd (upd (upd (upd (upd (upd ac 0 (.pointer (some ⟨b, 0, none⟩))) 1 (vJ m)) 4 (.pointer (some ⟨f, 0, none⟩))) 5 aw) 6 at_) 7 (.pointer (some ⟨d, 0, none⟩))) 8 (vJ (q : Int))) 9 lv) 10 fv) 11 (vJ (c : Int))) 12 (.pointer (some ⟨g0, 0, none⟩))) ∧ Ext noS G w am W ∧ Pin.le ai am ∧ (RSl eInt am ca (sortL (atL ats ((ns.getD c default).l)))) ∧ (RSl eInt am cb (sortL (atL ats ((ns.getD c default).r)))) ∧ (Own eInt 3 am W w.heap.size at_ ats) ∧ (Own eNode 99 am W w.heap.size ov outs) ∧ (Own eNode 99 am W 0 bu ns) ∧ (Own eInt 3 am W 0 bv bs) ∧ (Bx am W b [bu, bv]) ∧ (Bx am W f [(.slice none 0 0)]) ∧ (Bx am W d [ov]) ∧ (BxP am g0 [ca, cb])) ?_ ?_
    ·rintro _ avm ⟨ac, g0, ca, cb, am, rfl, ado, an, hy, hz, adp, adq, adr, ads, adt, adu, adv, oh⟩
     refine zA (zB (zC ?_))
     refine qM (vJ 0) ?_
     refine qe (zA (zB ?_))
     refine zW ?_
     refine c_cutE (fun (en : Nat → Value) (W : World) => ∃ (ac : Nat → Value) (i : Nat) (s : Pin), en = (upd (upd (upd (upd (upd (upd (upd (upd (upd (upd (upd (upd ac 0 (.pointer (some ⟨b, 0, none⟩))) 1 (vJ m)) 4 (.pointer (some ⟨f, 0, none⟩))) 5 aw) 6 at_) 7 (.pointer (some ⟨d, 0, none⟩))) 8 (vJ (q : Int))) 9 lv) 10 fv) 11 (vJ (c : Int))) 12 (.pointer (some ⟨g0, 0, none⟩))) 13 (vJ (i : Int))) ∧ Ext noS G w s W ∧ Pin.le am s ∧ (i ≤ ls.length) ∧ (posM ls (ndAt ats (ns.getD c default)) = i) ∧ (Own eInt 3 s W w.heap.size at_ (ats)) ∧ (Own eNode 99 s W w.heap.size ov (outs)) ∧ (Own eNode 99 s W 0 bu (ns)) ∧ (Own eInt 3 s W 0 bv (bs)) ∧ (Bx s W b [bu, bv]) ∧ (Bx s W f [(.slice none 0 0)]) ∧ (Bx s W d [ov])) 4 ?_ ?_
     ·rintro _ e5 ⟨ac, i, s, rfl, g1, y, hi, hpe, j2, j3, j4, j5, j6, j7, j8⟩
      refine yI ?_
      refine zA (zB ?_)
      refine c_cut (fun (en : Nat → Value) (W : World) => ∃ (ac : Nat → Value) (ab : Value) (ae : Pin), en = (upd (upd (upd (upd (upd (upd (upd (upd (upd (upd (upd ac 0 (.pointer (some ⟨b, 0, none⟩))) 1 (vJ m)) 4 (.pointer (some ⟨f, 0, none⟩))) 5 aw) 6 at_) 7 (.pointer (some ⟨d, 0, none⟩))) 8 (vJ (q : Int))) 9 ab) 10 fv) 11 (vJ (c : Int))) 13 (vJ (i : Int))) ∧ Ext noS G w ae W ∧ Pin.le s ae ∧ (Own eInt 3 ae W w.heap.size at_ ats) ∧ (Own eNode 99 ae W w.heap.size ov outs) ∧ (Own eNode 99 ae W 0 bu ns) ∧ (Own eInt 3 ae W 0 bv bs) ∧ (Own eNode 99 ae W w.heap.size ab (((([]) ++ ((ls.take i).drop 0)) ++ ([(⟨sortL (atL ats ((ns.getD c default).l)), sortL (atL ats ((ns.getD c default).r))⟩ : Nd)])) ++ ((ls.take ls.length).drop i))) ∧ (Bx ae W b [bu, bv]) ∧ (Bx ae W f [(.slice none 0 0)]) ∧ (Bx ae W d [ov]) ∧ (Apart at_.ownBlock ab.ownBlock) ∧ (Apart ov.ownBlock ab.ownBlock) ∧ (Apart bu.ownBlock ab.ownBlock) ∧ (Apart bv.ownBlock ab.ownBlock) ∧ (Apart ab.ownBlock (some b)) ∧ (Apart ab.ownBlock (some f)) ∧ (Apart ab.ownBlock (some d))) ?_ ?_
      ·rintro _ j9 ⟨ac, ab, ae, rfl, oi, e6, adw, adx, ady, adz, ad0, ad1, ad2, ad3, ad4, ad5, ad6, ad7, ad8, ad9, aea⟩
       refine zA ?_
       refine c_cut (fun (en : Nat → Value) (W : World) => ∃ (ac : Nat → Value) (ay : Value) (az : Pin), en = (upd (upd (upd (upd (upd (upd (upd (upd (upd (upd ac 0 (.pointer (some ⟨b, 0, none⟩))) 1 (vJ m)) 4 (.pointer (some ⟨f, 0, none⟩))) 5 aw) 6 at_) 7 (.pointer (some ⟨d, 0, none⟩))) 8 (vJ (q : Int))) 9 ab) 10 ay) 11 (vJ (c : Int))) ∧ Ext noS G w az W ∧ Pin.le ae az ∧ (Own eInt 3 az W w.heap.size at_ ats) ∧ (Own eNode 99 az W w.heap.size ov outs) ∧ (Own eNode 99 az W 0 bu ns) ∧ (Own eInt 3 az W 0 bv bs) ∧ (Own eNode 99 az W w.heap.size ab (((([]) ++ ((ls.take i).drop 0)) ++ ([(⟨sortL (atL ats ((ns.getD c default).l)), sortL (atL ats ((ns.getD c default).r))⟩ : Nd)])) ++ ((ls.take ls.length).drop i))) ∧ (Own eInt 3 az W w.heap.size ay (((([]) ++ ((fr.take i).drop 0)) ++ ([(c : Int)])) ++ ((fr.take fr.length).drop i))) ∧ (Bx az W b [bu, bv]) ∧ (Bx az W f [(.slice none 0 0)]) ∧ (Bx az W d [ov]) ∧ (Apart at_.ownBlock ay.ownBlock) ∧ (Apart ov.ownBlock ay.ownBlock) ∧ (Apart bu.ownBlock ay.ownBlock) ∧ (Apart bv.ownBlock ay.ownBlock) ∧ (Apart ab.ownBlock ay.ownBlock) ∧ (Apart ay.ownBlock (some b)) ∧ (Apart ay.ownBlock (some f)) ∧ (Apart ay.ownBlock (some d))) ?_ ?_
       ·rintro _ avn ⟨ac, ay, az, rfl, aeb, aec, aed, aee, aef, aeg, aeh, aei, aej, aek, ael, aem, aen, aeo, aep, aeq, aer, aes, aet⟩
        refine yH ?_
        refine zA (zC ?_)
        refine qM (vJ (c : Int)) ?_
        refine qD rfl (yP rfl rfl (by omega)) ?_
        refine qM (vJ ((c : Int) + 1)) ?_
        refine qe ?_
        refine yG ?_
        obtain ⟨avo, gh, aeu, aev, dn⟩ := aeh.sealed aeb
        have aew := aed.moreO gh dn ad4
        have aex := aee.moreO gh dn ad5
        have aey := aef.moreO gh dn ad6
        have aez := aeg.moreO gh dn ad7
        have ae0 := aei.moreO gh dn aeq.symm
        have ae1 := aej.moreO dn ad8.symm
        have ae2 := aek.moreO dn ad9.symm
        have ae3 := ael.moreO dn aea.symm
        obtain ⟨ae4, gi, ae5, ae6, e7⟩ := ae0.sealed aeu
        have ae7 := aew.moreO gi e7 aem
        have ae8 := aex.moreO gi e7 aen
        have ae9 := aey.moreO gi e7 aeo
        have afa := aez.moreO gi e7 aep
        have afb := ae1.moreO e7 aer.symm
        have afc := ae2.moreO e7 aes.symm
        have afd := ae3.moreO e7 aet.symm
        have ka := ins_len (x := ndAt ats (ns.getD c default)) (l := ls) (i := i) (by omega)
        have hi2 := ins_len (x := (c : Int)) (l := fr) (i := i) (by omega)
        refine ⟨_, ?_, _, rfl, _, c + 1, ab, ((([]) ++ ((ls.take i).drop 0)) ++ ([(⟨sortL (atL ats ((ns.getD c default).l)), sortL (atL ats ((ns.getD c default).r))⟩ : Nd)])) ++ ((ls.take ls.length).drop i), ay, ((([]) ++ ((fr.take i).drop 0)) ++ ([(c : Int)])) ++ ((fr.take fr.length).drop i), ae4, (pS 11 (pS 10 (pS 9 (pS 8 (pS 7 (pS 6 (pS 5 (pS 4 (pS 1 (pU 0)))))))))), rfl, ae5, (Pin.le_trans (Pin.le_trans (Pin.le_trans (Pin.le_trans (Pin.le_trans (Pin.le_trans gy an) y) e6) aec) gh) gi), (by omega), (lv_ins hrl j1 (by omega) hpe), ⟨ka.trans ((congrArg (· + 1) hll.1).trans hi2.symm), (by have : _ = _ := ka; exact Nat.le_trans (Nat.le_of_eq ka) (by omega))⟩, (ins_all (P := fun x => 0 ≤ x ∧ x ≤ m) hfb (by omega)), ae7, ae8, ae9, afa, afb, afc, afd, (aev.mono gi), ae6⟩
        omega
       ·skip
        refine yU (S := fun wz => Pins ae wz) (last := 13) (by kernel_rfl) rfl ?_
        have bl : Below j9.heap.size j9 j9.drew := (Below.refl _ _).drew
        have aff := oi.pins.below bl
        have ar := oi.step aff bl
        have kb := adw.below bl
        have kc := adx.below bl
        have kd := ady.below bl
        have ke := adz.below bl
        have kf := ad0.below bl
        have kg := ad1.below bl
        have kh := ad2.below bl
        have ki := ad3.below bl
        refine dM 1 fv ar.pins ?_
        refine dM 2 (vJ (i : Int)) ar.pins ?_
        obtain ⟨kj, kk, afg⟩ := xW gg (lo := none) (hi := (some ((i : Int)))) (0) (i) (Or.inl ⟨rfl, rfl⟩) (Or.inr ⟨_, rfl, (by omega), rfl⟩) (by omega) (by omega)
        refine dT (i := 3) rfl rfl (by kernel_rfl) (fun _ _ => afg Tryz.underlying65 sz3 rfl rfl rfl) ar.pins ?_
        refine dM 5 (vJ (c : Int)) ar.pins ?_
        refine dM 8 fv ar.pins ?_
        refine dM 9 (vJ (i : Int)) ar.pins ?_
        obtain ⟨kl, km, afh⟩ := xW gg (lo := (some ((i : Int)))) (hi := none) (i) (fr.length) (Or.inr ⟨_, rfl, (by omega), rfl⟩) (Or.inl ⟨rfl, rfl⟩) (by omega) (by omega)
        refine dT (i := 10) rfl rfl (by kernel_rfl) (fun _ _ => afh Tryz.underlying65 sz3 rfl rfl rfl) ar.pins ?_
        refine dr_two (i := 0) (j := 6) (by kernel_rfl) ?_ ?_
        ·skip
         refine (zR (i := 0) rfl rfl rfl (zD rfl _) (yY (E := eInt) (e := 3) Tryz.underlying65 sz3 ar.pins (fun a0 afi afj afk cc dp => ?_)))
         have dq := ar.step afk cc
         have kn := kb.below cc
         have ko := kc.below cc
         have kp := kd.below cc
         have kq := ke.below cc
         have kr := kf.below cc
         have ks := kg.below cc
         have kt := kh.below cc
         have ku := ki.below cc
         have h0 : Apart a0.ownBlock at_.ownBlock := zG dp kb.lt
         have h1 : Apart a0.ownBlock ov.ownBlock := zG dp kc.lt
         have h2 : Apart a0.ownBlock bu.ownBlock := zG dp kd.lt
         have h3 : Apart a0.ownBlock bv.ownBlock := zG dp ke.lt
         have h4 : Apart a0.ownBlock ab.ownBlock := zG dp kf.lt
         have h5 : Apart a0.ownBlock (some b) := zK dp kg.lt
         have h6 : Apart a0.ownBlock (some f) := zK dp kh.lt
         have h7 : Apart a0.ownBlock (some d) := zK dp ki.lt
         have h8 : Own eInt 3 ae afi w.heap.size a0 ([]) := afj.weaken ar.size
         refine ⟨fun _ => dq.pins, ?_⟩
         refine dr_two (i := 4) (j := 6) (by kernel_rfl) ?_ ?_
         ·skip
          refine (zR (i := 4) rfl rfl rfl (zD rfl _) (oA (E := eInt) (v := a0) (u := kj) 8 Tryz.underlying65 ap3 (by decide) rfl rfl dq.pins h8 ((kk.mono (Pin.le_trans (Pin.le_trans an y) e6)).src dq.pins (by decide)) (dq.size) (fun cd avp afl afm ce dr => ?_)))
          have h9 := dq.write afm ce ((yC h8))
          have afn := kn.keptA ce h0.symm
          have afo := ko.keptA ce h1.symm
          have afp := kp.keptA ce h2.symm
          have afq := kq.keptA ce h3.symm
          have afr := kr.keptA ce h4.symm
          have afs := ks.keptA ce h5.symm
          have aft := kt.keptA ce h6.symm
          have afu := ku.keptA ce h7.symm
          have oj : Apart at_.ownBlock cd.ownBlock := zF h0.symm dr kn.lt
          have ok : Apart ov.ownBlock cd.ownBlock := zF h1.symm dr ko.lt
          have ol : Apart bu.ownBlock cd.ownBlock := zF h2.symm dr kp.lt
          have om : Apart bv.ownBlock cd.ownBlock := zF h3.symm dr kq.lt
          have oo : Apart ab.ownBlock cd.ownBlock := zF h4.symm dr kr.lt
          have op : Apart (some b) cd.ownBlock := zJ h5.symm dr ks.lt
          have oq : Apart (some f) cd.ownBlock := zJ h6.symm dr kt.lt
          have os : Apart (some d) cd.ownBlock := zJ h7.symm dr ku.lt
          have avq : (([]) ++ ((fr.take i).drop 0)).length = ([]).length + ((fr.take i).drop 0).length := List.length_append
          refine ⟨fun _ => h9.pins, ?_⟩
          refine dO (i := 6) (zR (i := 6) rfl rfl rfl (zD rfl _) (yS (E := eInt) (e := 3) [(vJ (c : Int))] [(c : Int)] Tryz.underlying65 sz3 zr3 (by exact xV (by rfl)) (xC (by rfl)) rfl rfl rfl rfl (by decide) h9.pins (fun ot afv afw afx bm avr => ?_)))
          have ia := h9.step afx bm
          have ow := afn.below bm
          have ox := afo.below bm
          have oy := afp.below bm
          have oz := afq.below bm
          have o0 := afr.below bm
          have o1 := afl.below bm
          have o2 := afs.below bm
          have o3 := aft.below bm
          have o4 := afu.below bm
          have afy : Own eInt 3 ae afv w.heap.size ot ([(c : Int)]) := afw.weaken h9.size
          refine ⟨fun _ => ia.pins, ?_⟩
          refine dO (i := 7) (zR (i := 7) rfl rfl rfl (zD rfl _) (oA (E := eInt) (v := cd) (u := ot) 8 Tryz.underlying65 ap3 (by decide) rfl rfl ia.pins o1 afy.src (ia.size) (fun cf avs o5 afz cg ds => ?_)))
          have g2 := ia.write afz cg ((yC o1))
          have o6 := ow.keptA cg oj
          have o7 := ox.keptA cg ok
          have o8 := oy.keptA cg ol
          have o9 := oz.keptA cg om
          have pa := o0.keptA cg oo
          have pb := o2.keptA cg op
          have pc := o3.keptA cg oq
          have pd := o4.keptA cg os
          have pe : Apart at_.ownBlock cf.ownBlock := zF oj ds ow.lt
          have pf : Apart ov.ownBlock cf.ownBlock := zF ok ds ox.lt
          have pg : Apart bu.ownBlock cf.ownBlock := zF ol ds oy.lt
          have ph : Apart bv.ownBlock cf.ownBlock := zF om ds oz.lt
          have pi : Apart ab.ownBlock cf.ownBlock := zF oo ds o0.lt
          have pj : Apart (some b) cf.ownBlock := zJ op ds o2.lt
          have pk : Apart (some f) cf.ownBlock := zJ oq ds o3.lt
          have pl : Apart (some d) cf.ownBlock := zJ os ds o4.lt
          have avt : ((([]) ++ ((fr.take i).drop 0)) ++ ([(c : Int)])).length = (([]) ++ ((fr.take i).drop 0)).length + 1 := List.length_append
          refine ⟨fun _ => g2.pins, ?_⟩
          refine dO (i := 11) (zR (i := 11) rfl rfl rfl (zD rfl _) (oA (E := eInt) (v := cf) (u := kl) 8 Tryz.underlying65 ap3 (by decide) rfl rfl g2.pins o5 ((km.mono (Pin.le_trans (Pin.le_trans an y) e6)).src g2.pins (by decide)) (g2.size) (fun bn avu af0 af1 ch dt => ?_)))
          have kv := g2.write af1 ch ((yC o5))
          have af2 := o6.keptA ch pe
          have af3 := o7.keptA ch pf
          have af4 := o8.keptA ch pg
          have af5 := o9.keptA ch ph
          have af6 := pa.keptA ch pi
          have af7 := pb.keptA ch pj
          have af8 := pc.keptA ch pk
          have af9 := pd.keptA ch pl
          have aga : Apart at_.ownBlock bn.ownBlock := zF pe dt o6.lt
          have agb : Apart ov.ownBlock bn.ownBlock := zF pf dt o7.lt
          have agc : Apart bu.ownBlock bn.ownBlock := zF pg dt o8.lt
          have agd : Apart bv.ownBlock bn.ownBlock := zF ph dt o9.lt
          have age : Apart ab.ownBlock bn.ownBlock := zF pi dt pa.lt
          have agf : Apart (some b) bn.ownBlock := zJ pj dt pb.lt
          have agh : Apart (some f) bn.ownBlock := zJ pk dt pc.lt
          have agi : Apart (some d) bn.ownBlock := zJ pl dt pd.lt
          have avv : (((([]) ++ ((fr.take i).drop 0)) ++ ([(c : Int)])) ++ ((fr.take fr.length).drop i)).length = ((([]) ++ ((fr.take i).drop 0)) ++ ([(c : Int)])).length + ((fr.take fr.length).drop i).length := List.length_append
          refine ⟨fun _ => kv.pins, ?_⟩
          refine dM 12 bn kv.pins ?_
          refine yK (by kernel_rfl) ?_
          exact xQ ⟨_, bn, ae, (pS 11 (pS 10 (pS 9 (pS 8 (pS 7 (pS 6 (pS 5 (pS 4 (pS 1 (pU 0)))))))))), kv, (Pin.le_refl _), af2, af3, af4, af5, af6, af0, af7, af8, af9, aga, agb, agc, agd, age, agf.symm, agh.symm, agi.symm⟩
         ·skip
          refine (zR (i := 6) rfl rfl rfl (zD rfl _) (yS (E := eInt) (e := 3) [(vJ (c : Int))] [(c : Int)] Tryz.underlying65 sz3 zr3 (by exact xV (by rfl)) (xC (by rfl)) rfl rfl rfl rfl (by decide) dq.pins (fun kw agj agk agl bo agm => ?_)))
          have g3 := dq.step agl bo
          have pm := kn.below bo
          have pn := ko.below bo
          have po := kp.below bo
          have pp := kq.below bo
          have pq := kr.below bo
          have pr := h8.below bo
          have ps := ks.below bo
          have pt := kt.below bo
          have pu := ku.below bo
          have agn : Apart kw.ownBlock a0.ownBlock := zG agm h8.lt
          have ago : Own eInt 3 ae agj w.heap.size kw ([(c : Int)]) := agk.weaken dq.size
          refine ⟨fun _ => g3.pins, ?_⟩
          refine dO (i := 4) (zR (i := 4) rfl rfl rfl (zD rfl _) (oA (E := eInt) (v := a0) (u := kj) 8 Tryz.underlying65 ap3 (by decide) rfl rfl g3.pins pr ((kk.mono (Pin.le_trans (Pin.le_trans an y) e6)).src g3.pins (by decide)) (g3.size) (fun ci avw pv agp bp du => ?_)))
          have ib := g3.write agp bp ((yC pr))
          have pw := pm.keptA bp h0.symm
          have px := pn.keptA bp h1.symm
          have py := po.keptA bp h2.symm
          have pz := pp.keptA bp h3.symm
          have p0 := pq.keptA bp h4.symm
          have agq := ago.keptA bp agn
          have p1 := ps.keptA bp h5.symm
          have p2 := pt.keptA bp h6.symm
          have p3 := pu.keptA bp h7.symm
          have p4 : Apart at_.ownBlock ci.ownBlock := zF h0.symm du pm.lt
          have p5 : Apart ov.ownBlock ci.ownBlock := zF h1.symm du pn.lt
          have p6 : Apart bu.ownBlock ci.ownBlock := zF h2.symm du po.lt
          have p7 : Apart bv.ownBlock ci.ownBlock := zF h3.symm du pp.lt
          have p8 : Apart ab.ownBlock ci.ownBlock := zF h4.symm du pq.lt
          have p9 : Apart (some b) ci.ownBlock := zJ h5.symm du ps.lt
          have qa : Apart (some f) ci.ownBlock := zJ h6.symm du pt.lt
          have qb : Apart (some d) ci.ownBlock := zJ h7.symm du pu.lt
          have avx : (([]) ++ ((fr.take i).drop 0)).length = ([]).length + ((fr.take i).drop 0).length := List.length_append
          refine ⟨fun _ => ib.pins, ?_⟩
          refine dO (i := 7) (zR (i := 7) rfl rfl rfl (zD rfl _) (oA (E := eInt) (v := ci) (u := kw) 8 Tryz.underlying65 ap3 (by decide) rfl rfl ib.pins pv agq.src (ib.size) (fun cj avy qc agr ck dv => ?_)))
          have g4 := ib.write agr ck ((yC pv))
          have qf := pw.keptA ck p4
          have qg := px.keptA ck p5
          have qh := py.keptA ck p6
          have qi := pz.keptA ck p7
          have qj := p0.keptA ck p8
          have qk := p1.keptA ck p9
          have ql := p2.keptA ck qa
          have qm := p3.keptA ck qb
          have qn : Apart at_.ownBlock cj.ownBlock := zF p4 dv pw.lt
          have qo : Apart ov.ownBlock cj.ownBlock := zF p5 dv px.lt
          have qp : Apart bu.ownBlock cj.ownBlock := zF p6 dv py.lt
          have qq : Apart bv.ownBlock cj.ownBlock := zF p7 dv pz.lt
          have qr : Apart ab.ownBlock cj.ownBlock := zF p8 dv p0.lt
          have qs : Apart (some b) cj.ownBlock := zJ p9 dv p1.lt
          have qt : Apart (some f) cj.ownBlock := zJ qa dv p2.lt
          have qu : Apart (some d) cj.ownBlock := zJ qb dv p3.lt
          have avz : ((([]) ++ ((fr.take i).drop 0)) ++ ([(c : Int)])).length = (([]) ++ ((fr.take i).drop 0)).length + 1 := List.length_append
          refine ⟨fun _ => g4.pins, ?_⟩
          refine dO (i := 11) (zR (i := 11) rfl rfl rfl (zD rfl _) (oA (E := eInt) (v := cj) (u := kl) 8 Tryz.underlying65 ap3 (by decide) rfl rfl g4.pins qc ((km.mono (Pin.le_trans (Pin.le_trans an y) e6)).src g4.pins (by decide)) (g4.size) (fun bq av0 ags agt cl dw => ?_)))
          have kx := g4.write agt cl ((yC qc))
          have agu := qf.keptA cl qn
          have agv := qg.keptA cl qo
          have agw := qh.keptA cl qp
          have agx := qi.keptA cl qq
          have agy := qj.keptA cl qr
          have agz := qk.keptA cl qs
          have ag0 := ql.keptA cl qt
          have ag1 := qm.keptA cl qu
          have ag2 : Apart at_.ownBlock bq.ownBlock := zF qn dw qf.lt
          have ag5 : Apart ov.ownBlock bq.ownBlock := zF qo dw qg.lt
          have ag6 : Apart bu.ownBlock bq.ownBlock := zF qp dw qh.lt
          have ag7 : Apart bv.ownBlock bq.ownBlock := zF qq dw qi.lt
          have ag8 : Apart ab.ownBlock bq.ownBlock := zF qr dw qj.lt
          have ag9 : Apart (some b) bq.ownBlock := zJ qs dw qk.lt
          have aha : Apart (some f) bq.ownBlock := zJ qt dw ql.lt
          have ahb : Apart (some d) bq.ownBlock := zJ qu dw qm.lt
          have av1 : (((([]) ++ ((fr.take i).drop 0)) ++ ([(c : Int)])) ++ ((fr.take fr.length).drop i)).length = ((([]) ++ ((fr.take i).drop 0)) ++ ([(c : Int)])).length + ((fr.take fr.length).drop i).length := List.length_append
          refine ⟨fun _ => kx.pins, ?_⟩
          refine dM 12 bq kx.pins ?_
          refine yK (by kernel_rfl) ?_
          exact xQ ⟨_, bq, ae, (pS 11 (pS 10 (pS 9 (pS 8 (pS 7 (pS 6 (pS 5 (pS 4 (pS 1 (pU 0)))))))))), kx, (Pin.le_refl _), agu, agv, agw, agx, agy, ags, agz, ag0, ag1, ag2, ag5, ag6, ag7, ag8, ag9.symm, aha.symm, ahb.symm⟩
        ·skip
         refine (zR (i := 6) rfl rfl rfl (zD rfl _) (yS (E := eInt) (e := 3) [(vJ (c : Int))] [(c : Int)] Tryz.underlying65 sz3 zr3 (by exact xV (by rfl)) (xC (by rfl)) rfl rfl rfl rfl (by decide) ar.pins (fun ky ahc ahd ahe cm av2 => ?_)))
         have ic := ar.step ahe cm
         have qv := kb.below cm
         have qw := kc.below cm
         have qx := kd.below cm
         have qy := ke.below cm
         have qz := kf.below cm
         have q2 := kg.below cm
         have q3 := kh.below cm
         have q4 := ki.below cm
         have q5 : Own eInt 3 ae ahc w.heap.size ky ([(c : Int)]) := ahd.weaken ar.size
         refine ⟨fun _ => ic.pins, ?_⟩
         refine dO (i := 0) (zR (i := 0) rfl rfl rfl (zD rfl _) (yY (E := eInt) (e := 3) Tryz.underlying65 sz3 ic.pins (fun be ahf ahg ahh br cn => ?_)))
         have g5 := ic.step ahh br
         have q6 := qv.below br
         have q7 := qw.below br
         have q8 := qx.below br
         have q9 := qy.below br
         have ra := qz.below br
         have ahi := q5.below br
         have rb := q2.below br
         have rc := q3.below br
         have rd := q4.below br
         have re : Apart be.ownBlock at_.ownBlock := zG cn qv.lt
         have rf : Apart be.ownBlock ov.ownBlock := zG cn qw.lt
         have rg : Apart be.ownBlock bu.ownBlock := zG cn qx.lt
         have rh : Apart be.ownBlock bv.ownBlock := zG cn qy.lt
         have ri : Apart be.ownBlock ab.ownBlock := zG cn qz.lt
         have ahj : Apart be.ownBlock ky.ownBlock := zG cn q5.lt
         have rj : Apart be.ownBlock (some b) := zK cn q2.lt
         have rk : Apart be.ownBlock (some f) := zK cn q3.lt
         have rl : Apart be.ownBlock (some d) := zK cn q4.lt
         have rm : Own eInt 3 ae ahf w.heap.size be ([]) := ahg.weaken ic.size
         refine ⟨fun _ => g5.pins, ?_⟩
         refine dO (i := 4) (zR (i := 4) rfl rfl rfl (zD rfl _) (oA (E := eInt) (v := be) (u := kj) 8 Tryz.underlying65 ap3 (by decide) rfl rfl g5.pins rm ((kk.mono (Pin.le_trans (Pin.le_trans an y) e6)).src g5.pins (by decide)) (g5.size) (fun co av3 rn ahk bt dx => ?_)))
         have ie := g5.write ahk bt ((yC rm))
         have ro := q6.keptA bt re.symm
         have rp := q7.keptA bt rf.symm
         have rq := q8.keptA bt rg.symm
         have rr := q9.keptA bt rh.symm
         have rs := ra.keptA bt ri.symm
         have ahl := ahi.keptA bt ahj.symm
         have rt := rb.keptA bt rj.symm
         have ru := rc.keptA bt rk.symm
         have rv := rd.keptA bt rl.symm
         have rx : Apart at_.ownBlock co.ownBlock := zF re.symm dx q6.lt
         have ry : Apart ov.ownBlock co.ownBlock := zF rf.symm dx q7.lt
         have rz : Apart bu.ownBlock co.ownBlock := zF rg.symm dx q8.lt
         have r0 : Apart bv.ownBlock co.ownBlock := zF rh.symm dx q9.lt
         have r1 : Apart ab.ownBlock co.ownBlock := zF ri.symm dx ra.lt
         have r2 : Apart (some b) co.ownBlock := zJ rj.symm dx rb.lt
         have r3 : Apart (some f) co.ownBlock := zJ rk.symm dx rc.lt
         have r4 : Apart (some d) co.ownBlock := zJ rl.symm dx rd.lt
         have av4 : (([]) ++ ((fr.take i).drop 0)).length = ([]).length + ((fr.take i).drop 0).length := List.length_append
         refine ⟨fun _ => ie.pins, ?_⟩
         refine dO (i := 7) (zR (i := 7) rfl rfl rfl (zD rfl _) (oA (E := eInt) (v := co) (u := ky) 8 Tryz.underlying65 ap3 (by decide) rfl rfl ie.pins rn ahl.src (ie.size) (fun cp av5 r5 ahm cq dy => ?_)))
         have g6 := ie.write ahm cq ((yC rn))
         have r6 := ro.keptA cq rx
         have r7 := rp.keptA cq ry
         have r8 := rq.keptA cq rz
         have r9 := rr.keptA cq r0
         have sa := rs.keptA cq r1
         have sb := rt.keptA cq r2
         have sc := ru.keptA cq r3
         have sd := rv.keptA cq r4
         have se : Apart at_.ownBlock cp.ownBlock := zF rx dy ro.lt
         have sf : Apart ov.ownBlock cp.ownBlock := zF ry dy rp.lt
         have sg : Apart bu.ownBlock cp.ownBlock := zF rz dy rq.lt
         have sh : Apart bv.ownBlock cp.ownBlock := zF r0 dy rr.lt
         have si : Apart ab.ownBlock cp.ownBlock := zF r1 dy rs.lt
         have sj : Apart (some b) cp.ownBlock := zJ r2 dy rt.lt
         have sk : Apart (some f) cp.ownBlock := zJ r3 dy ru.lt
         have sl : Apart (some d) cp.ownBlock := zJ r4 dy rv.lt
         have av6 : ((([]) ++ ((fr.take i).drop 0)) ++ ([(c : Int)])).length = (([]) ++ ((fr.take i).drop 0)).length + 1 := List.length_append
         refine ⟨fun _ => g6.pins, ?_⟩
         refine dO (i := 11) (zR (i := 11) rfl rfl rfl (zD rfl _) (oA (E := eInt) (v := cp) (u := kl) 8 Tryz.underlying65 ap3 (by decide) rfl rfl g6.pins r5 ((km.mono (Pin.le_trans (Pin.le_trans an y) e6)).src g6.pins (by decide)) (g6.size) (fun bw av7 ahn aho cr dz => ?_)))
         have kz := g6.write aho cr ((yC r5))
         have ahp := r6.keptA cr se
         have ahq := r7.keptA cr sf
         have ahr := r8.keptA cr sg
         have ahs := r9.keptA cr sh
         have aht := sa.keptA cr si
         have ahu := sb.keptA cr sj
         have ahv := sc.keptA cr sk
         have ahw := sd.keptA cr sl
         have ahx : Apart at_.ownBlock bw.ownBlock := zF se dz r6.lt
         have ahy : Apart ov.ownBlock bw.ownBlock := zF sf dz r7.lt
         have ahz : Apart bu.ownBlock bw.ownBlock := zF sg dz r8.lt
         have ah0 : Apart bv.ownBlock bw.ownBlock := zF sh dz r9.lt
         have ah1 : Apart ab.ownBlock bw.ownBlock := zF si dz sa.lt
         have ah2 : Apart (some b) bw.ownBlock := zJ sj dz sb.lt
         have ah3 : Apart (some f) bw.ownBlock := zJ sk dz sc.lt
         have ah4 : Apart (some d) bw.ownBlock := zJ sl dz sd.lt
         have av8 : (((([]) ++ ((fr.take i).drop 0)) ++ ([(c : Int)])) ++ ((fr.take fr.length).drop i)).length = ((([]) ++ ((fr.take i).drop 0)) ++ ([(c : Int)])).length + ((fr.take fr.length).drop i).length := List.length_append
         refine ⟨fun _ => kz.pins, ?_⟩
         refine dM 12 bw kz.pins ?_
         refine yK (by kernel_rfl) ?_
         exact xQ ⟨_, bw, ae, (pS 11 (pS 10 (pS 9 (pS 8 (pS 7 (pS 6 (pS 5 (pS 4 (pS 1 (pU 0)))))))))), kz, (Pin.le_refl _), ahp, ahq, ahr, ahs, aht, ahn, ahu, ahv, ahw, ahx, ahy, ahz, ah0, ah1, ah2.symm, ah3.symm, ah4.symm⟩
      ·skip
       refine yU (S := fun wz => Pins s wz) (last := 13) (by kernel_rfl) rfl ?_
       have ct : Below e5.heap.size e5 e5.drew := (Below.refl _ _).drew
       have ah5 := g1.pins.below ct
       have au := g1.step ah5 ct
       have k0 := j2.below ct
       have k1 := j3.below ct
       have k2 := j4.below ct
       have k3 := j5.below ct
       have k4 := j6.below ct
       have k6 := j7.below ct
       have k7 := j8.below ct
       refine dM 1 lv au.pins ?_
       refine dM 2 (vJ (i : Int)) au.pins ?_
       obtain ⟨k8, k9, ah6⟩ := xW bk (lo := none) (hi := (some ((i : Int)))) (0) (i) (Or.inl ⟨rfl, rfl⟩) (Or.inr ⟨_, rfl, (by omega), rfl⟩) (by omega) (by omega)
       refine dT (i := 3) rfl rfl (by kernel_rfl) (fun _ _ => ah6 Tryz.underlying30 sz99 rfl rfl rfl) au.pins ?_
       refine dT (i := 5) rfl rfl (by kernel_rfl) (fun _ hS => yQ (cs := [ca, cb]) ag99 sz99 rfl (fun j u hj => (Pins.of_le hS y) _ _ _ (oh _ _ (by simpa using hj)))) au.pins ?_
       refine dM 8 lv au.pins ?_
       refine dM 9 (vJ (i : Int)) au.pins ?_
       obtain ⟨la, lb, ah7⟩ := xW bk (lo := (some ((i : Int)))) (hi := none) (i) (ls.length) (Or.inr ⟨_, rfl, (by omega), rfl⟩) (Or.inl ⟨rfl, rfl⟩) (by omega) (by omega)
       refine dT (i := 10) rfl rfl (by kernel_rfl) (fun _ _ => ah7 Tryz.underlying30 sz99 rfl rfl rfl) au.pins ?_
       refine dr_two (i := 0) (j := 6) (by kernel_rfl) ?_ ?_
       ·skip
        refine (zR (i := 0) rfl rfl rfl (zD rfl _) (yY (E := eNode) (e := 99) Tryz.underlying30 sz99 au.pins (fun bf ah8 ah9 aia d0 e8 => ?_)))
        have d1 := au.step aia d0
        have lc := k0.below d0
        have ld := k1.below d0
        have lf := k2.below d0
        have lg := k3.below d0
        have lh := k4.below d0
        have li := k6.below d0
        have lj := k7.below d0
        have ig : Apart bf.ownBlock at_.ownBlock := zG e8 k0.lt
        have ih : Apart bf.ownBlock ov.ownBlock := zG e8 k1.lt
        have ii : Apart bf.ownBlock bu.ownBlock := zG e8 k2.lt
        have ij : Apart bf.ownBlock bv.ownBlock := zG e8 k3.lt
        have ik : Apart bf.ownBlock (some b) := zK e8 k4.lt
        have il : Apart bf.ownBlock (some f) := zK e8 k6.lt
        have im : Apart bf.ownBlock (some d) := zK e8 k7.lt
        have io : Own eNode 99 s ah8 w.heap.size bf ([]) := ah9.weaken au.size
        refine ⟨fun _ => d1.pins, ?_⟩
        refine dr_two (i := 4) (j := 6) (by kernel_rfl) ?_ ?_
        ·skip
         refine (zR (i := 4) rfl rfl rfl (zD rfl _) (oA (E := eNode) (v := bf) (u := k8) 48 Tryz.underlying30 ap99 (by decide) rfl rfl d1.pins io ((k9.mono (Pin.le_trans an y)).src d1.pins (by decide)) (d1.size) (fun d2 av9 aib aic d3 e9 => ?_)))
         have ip := d1.write aic d3 ((yC io))
         have aid := lc.keptA d3 ig.symm
         have aie := ld.keptA d3 ih.symm
         have aif := lf.keptA d3 ii.symm
         have aig := lg.keptA d3 ij.symm
         have aih := lh.keptA d3 ik.symm
         have aii := li.keptA d3 il.symm
         have aij := lj.keptA d3 im.symm
         have sm : Apart at_.ownBlock d2.ownBlock := zF ig.symm e9 lc.lt
         have sn : Apart ov.ownBlock d2.ownBlock := zF ih.symm e9 ld.lt
         have sp : Apart bu.ownBlock d2.ownBlock := zF ii.symm e9 lf.lt
         have sq : Apart bv.ownBlock d2.ownBlock := zF ij.symm e9 lg.lt
         have sr : Apart (some b) d2.ownBlock := zJ ik.symm e9 lh.lt
         have ss : Apart (some f) d2.ownBlock := zJ il.symm e9 li.lt
         have st : Apart (some d) d2.ownBlock := zJ im.symm e9 lj.lt
         have awa : (([]) ++ ((ls.take i).drop 0)).length = ([]).length + ((ls.take i).drop 0).length := List.length_append
         refine ⟨fun _ => ip.pins, ?_⟩
         refine dO (i := 6) (zR (i := 6) rfl rfl rfl (zD rfl _) (qB (E := eNode) (e := 99) [ca, cb] (⟨sortL (atL ats ((ns.getD c default).l)), sortL (atL ats ((ns.getD c default).r))⟩ : Nd) Tryz.underlying30 sz99 zr99 ⟨_, _, rfl, (hy.mono y), (hz.mono y)⟩ rfl (by decide) ip.pins (fun su aik ail aim cu awb => ?_)))
         have iq := ip.step aim cu
         have sv := aid.below cu
         have sw := aie.below cu
         have sx := aif.below cu
         have sy := aig.below cu
         have sz := aib.below cu
         have s0 := aih.below cu
         have s1 := aii.below cu
         have s2 := aij.below cu
         have ain : Own eNode 99 s aik w.heap.size su ([(⟨sortL (atL ats ((ns.getD c default).l)), sortL (atL ats ((ns.getD c default).r))⟩ : Nd)]) := ail.weaken ip.size
         refine ⟨fun _ => iq.pins, ?_⟩
         refine dO (i := 7) (zR (i := 7) rfl rfl rfl (zD rfl _) (oA (E := eNode) (v := d2) (u := su) 48 Tryz.underlying30 ap99 (by decide) rfl rfl iq.pins sz ain.src (iq.size) (fun d4 awc s3 aio d5 fa => ?_)))
         have g7 := iq.write aio d5 ((yC sz))
         have s4 := sv.keptA d5 sm
         have s5 := sw.keptA d5 sn
         have s6 := sx.keptA d5 sp
         have s7 := sy.keptA d5 sq
         have s8 := s0.keptA d5 sr
         have s9 := s1.keptA d5 ss
         have ta := s2.keptA d5 st
         have tb : Apart at_.ownBlock d4.ownBlock := zF sm fa sv.lt
         have tc : Apart ov.ownBlock d4.ownBlock := zF sn fa sw.lt
         have td : Apart bu.ownBlock d4.ownBlock := zF sp fa sx.lt
         have te : Apart bv.ownBlock d4.ownBlock := zF sq fa sy.lt
         have tf : Apart (some b) d4.ownBlock := zJ sr fa s0.lt
         have tg : Apart (some f) d4.ownBlock := zJ ss fa s1.lt
         have th : Apart (some d) d4.ownBlock := zJ st fa s2.lt
         have awd : ((([]) ++ ((ls.take i).drop 0)) ++ ([(⟨sortL (atL ats ((ns.getD c default).l)), sortL (atL ats ((ns.getD c default).r))⟩ : Nd)])).length = (([]) ++ ((ls.take i).drop 0)).length + 1 := List.length_append
         refine ⟨fun _ => g7.pins, ?_⟩
         refine dO (i := 11) (zR (i := 11) rfl rfl rfl (zD rfl _) (oA (E := eNode) (v := d4) (u := la) 48 Tryz.underlying30 ap99 (by decide) rfl rfl g7.pins s3 ((lb.mono (Pin.le_trans an y)).src g7.pins (by decide)) (g7.size) (fun cv awe aip aiq d6 fb => ?_)))
         have lk := g7.write aiq d6 ((yC s3))
         have air := s4.keptA d6 tb
         have ais := s5.keptA d6 tc
         have ait := s6.keptA d6 td
         have aiu := s7.keptA d6 te
         have aiv := s8.keptA d6 tf
         have aiw := s9.keptA d6 tg
         have aix := ta.keptA d6 th
         have aiy : Apart at_.ownBlock cv.ownBlock := zF tb fb s4.lt
         have aiz : Apart ov.ownBlock cv.ownBlock := zF tc fb s5.lt
         have ai0 : Apart bu.ownBlock cv.ownBlock := zF td fb s6.lt
         have ai1 : Apart bv.ownBlock cv.ownBlock := zF te fb s7.lt
         have ai2 : Apart (some b) cv.ownBlock := zJ tf fb s8.lt
         have ai3 : Apart (some f) cv.ownBlock := zJ tg fb s9.lt
         have ai4 : Apart (some d) cv.ownBlock := zJ th fb ta.lt
         have awf : (((([]) ++ ((ls.take i).drop 0)) ++ ([(⟨sortL (atL ats ((ns.getD c default).l)), sortL (atL ats ((ns.getD c default).r))⟩ : Nd)])) ++ ((ls.take ls.length).drop i)).length = ((([]) ++ ((ls.take i).drop 0)) ++ ([(⟨sortL (atL ats ((ns.getD c default).l)), sortL (atL ats ((ns.getD c default).r))⟩ : Nd)])).length + ((ls.take ls.length).drop i).length := List.length_append
         refine ⟨fun _ => lk.pins, ?_⟩
         refine dM 12 cv lk.pins ?_
         refine yK (by kernel_rfl) ?_
         exact xQ ⟨_, cv, s, (pS 13 (pS 11 (pS 10 (pS 9 (pS 8 (pS 7 (pS 6 (pS 5 (pS 4 (pS 1 (pU 0))))))))))), lk, (Pin.le_refl _), air, ais, ait, aiu, aip, aiv, aiw, aix, aiy, aiz, ai0, ai1, ai2.symm, ai3.symm, ai4.symm⟩
        ·skip
         refine (zR (i := 6) rfl rfl rfl (zD rfl _) (qB (E := eNode) (e := 99) [ca, cb] (⟨sortL (atL ats ((ns.getD c default).l)), sortL (atL ats ((ns.getD c default).r))⟩ : Nd) Tryz.underlying30 sz99 zr99 ⟨_, _, rfl, (hy.mono y), (hz.mono y)⟩ rfl (by decide) d1.pins (fun ll ai5 ai6 ai7 cw ai8 => ?_)))
         have g8 := d1.step ai7 cw
         have ti := lc.below cw
         have tj := ld.below cw
         have tk := lf.below cw
         have tl := lg.below cw
         have tm := io.below cw
         have tn := lh.below cw
         have tp := li.below cw
         have tq := lj.below cw
         have ai9 : Apart ll.ownBlock bf.ownBlock := zG ai8 io.lt
         have aja : Own eNode 99 s ai5 w.heap.size ll ([(⟨sortL (atL ats ((ns.getD c default).l)), sortL (atL ats ((ns.getD c default).r))⟩ : Nd)]) := ai6.weaken d1.size
         refine ⟨fun _ => g8.pins, ?_⟩
         refine dO (i := 4) (zR (i := 4) rfl rfl rfl (zD rfl _) (oA (E := eNode) (v := bf) (u := k8) 48 Tryz.underlying30 ap99 (by decide) rfl rfl g8.pins tm ((k9.mono (Pin.le_trans an y)).src g8.pins (by decide)) (g8.size) (fun d7 awg ts ajb cx fc => ?_)))
         have ir := g8.write ajb cx ((yC tm))
         have tt := ti.keptA cx ig.symm
         have tu := tj.keptA cx ih.symm
         have tv := tk.keptA cx ii.symm
         have tw := tl.keptA cx ij.symm
         have ajc := aja.keptA cx ai9
         have tx := tn.keptA cx ik.symm
         have ty := tp.keptA cx il.symm
         have tz := tq.keptA cx im.symm
         have t0 : Apart at_.ownBlock d7.ownBlock := zF ig.symm fc ti.lt
         have t1 : Apart ov.ownBlock d7.ownBlock := zF ih.symm fc tj.lt
         have t2 : Apart bu.ownBlock d7.ownBlock := zF ii.symm fc tk.lt
         have t3 : Apart bv.ownBlock d7.ownBlock := zF ij.symm fc tl.lt
         have t4 : Apart (some b) d7.ownBlock := zJ ik.symm fc tn.lt
         have t5 : Apart (some f) d7.ownBlock := zJ il.symm fc tp.lt
         have t6 : Apart (some d) d7.ownBlock := zJ im.symm fc tq.lt
         have awh : (([]) ++ ((ls.take i).drop 0)).length = ([]).length + ((ls.take i).drop 0).length := List.length_append
         refine ⟨fun _ => ir.pins, ?_⟩
         refine dO (i := 7) (zR (i := 7) rfl rfl rfl (zD rfl _) (oA (E := eNode) (v := d7) (u := ll) 48 Tryz.underlying30 ap99 (by decide) rfl rfl ir.pins ts ajc.src (ir.size) (fun d8 awi t7 ajd d9 fd => ?_)))
         have g9 := ir.write ajd d9 ((yC ts))
         have t8 := tt.keptA d9 t0
         have t9 := tu.keptA d9 t1
         have ua := tv.keptA d9 t2
         have ub := tw.keptA d9 t3
         have uc := tx.keptA d9 t4
         have ud := ty.keptA d9 t5
         have ue := tz.keptA d9 t6
         have uf : Apart at_.ownBlock d8.ownBlock := zF t0 fd tt.lt
         have ug : Apart ov.ownBlock d8.ownBlock := zF t1 fd tu.lt
         have uh : Apart bu.ownBlock d8.ownBlock := zF t2 fd tv.lt
         have ui : Apart bv.ownBlock d8.ownBlock := zF t3 fd tw.lt
         have uj : Apart (some b) d8.ownBlock := zJ t4 fd tx.lt
         have uk : Apart (some f) d8.ownBlock := zJ t5 fd ty.lt
         have ul : Apart (some d) d8.ownBlock := zJ t6 fd tz.lt
         have awj : ((([]) ++ ((ls.take i).drop 0)) ++ ([(⟨sortL (atL ats ((ns.getD c default).l)), sortL (atL ats ((ns.getD c default).r))⟩ : Nd)])).length = (([]) ++ ((ls.take i).drop 0)).length + 1 := List.length_append
         refine ⟨fun _ => g9.pins, ?_⟩
         refine dO (i := 11) (zR (i := 11) rfl rfl rfl (zD rfl _) (oA (E := eNode) (v := d8) (u := la) 48 Tryz.underlying30 ap99 (by decide) rfl rfl g9.pins t7 ((lb.mono (Pin.le_trans an y)).src g9.pins (by decide)) (g9.size) (fun cy awk aje ajf ea fe => ?_)))
         have lm := g9.write ajf ea ((yC t7))
         have ajg := t8.keptA ea uf
         have ajh := t9.keptA ea ug
         have aji := ua.keptA ea uh
         have ajj := ub.keptA ea ui
         have ajk := uc.keptA ea uj
         have ajl := ud.keptA ea uk
         have ajm := ue.keptA ea ul
         have ajn : Apart at_.ownBlock cy.ownBlock := zF uf fe t8.lt
         have ajo : Apart ov.ownBlock cy.ownBlock := zF ug fe t9.lt
         have ajp : Apart bu.ownBlock cy.ownBlock := zF uh fe ua.lt
         have ajq : Apart bv.ownBlock cy.ownBlock := zF ui fe ub.lt
         have ajr : Apart (some b) cy.ownBlock := zJ uj fe uc.lt
         have ajs : Apart (some f) cy.ownBlock := zJ uk fe ud.lt
         have ajt : Apart (some d) cy.ownBlock := zJ ul fe ue.lt
         have awl : (((([]) ++ ((ls.take i).drop 0)) ++ ([(⟨sortL (atL ats ((ns.getD c default).l)), sortL (atL ats ((ns.getD c default).r))⟩ : Nd)])) ++ ((ls.take ls.length).drop i)).length = ((([]) ++ ((ls.take i).drop 0)) ++ ([(⟨sortL (atL ats ((ns.getD c default).l)), sortL (atL ats ((ns.getD c default).r))⟩ : Nd)])).length + ((ls.take ls.length).drop i).length := List.length_append
         refine ⟨fun _ => lm.pins, ?_⟩
         refine dM 12 cy lm.pins ?_
         refine yK (by kernel_rfl) ?_
         exact xQ ⟨_, cy, s, (pS 13 (pS 11 (pS 10 (pS 9 (pS 8 (pS 7 (pS 6 (pS 5 (pS 4 (pS 1 (pU 0))))))))))), lm, (Pin.le_refl _), ajg, ajh, aji, ajj, aje, ajk, ajl, ajm, ajn, ajo, ajp, ajq, ajr.symm, ajs.symm, ajt.symm⟩
       ·skip
        refine (zR (i := 6) rfl rfl rfl (zD rfl _) (qB (E := eNode) (e := 99) [ca, cb] (⟨sortL (atL ats ((ns.getD c default).l)), sortL (atL ats ((ns.getD c default).r))⟩ : Nd) Tryz.underlying30 sz99 zr99 ⟨_, _, rfl, (hy.mono y), (hz.mono y)⟩ rfl (by decide) au.pins (fun ln aju ajv ajw eb awm => ?_)))
        have it := au.step ajw eb
        have um := k0.below eb
        have un := k1.below eb
        have uo := k2.below eb
        have up := k3.below eb
        have uq := k4.below eb
        have ur := k6.below eb
        have ut := k7.below eb
        have uu : Own eNode 99 s aju w.heap.size ln ([(⟨sortL (atL ats ((ns.getD c default).l)), sortL (atL ats ((ns.getD c default).r))⟩ : Nd)]) := ajv.weaken au.size
        refine ⟨fun _ => it.pins, ?_⟩
        refine dO (i := 0) (zR (i := 0) rfl rfl rfl (zD rfl _) (yY (E := eNode) (e := 99) Tryz.underlying30 sz99 it.pins (fun bz ajx ajy ajz cz ec => ?_)))
        have ha := it.step ajz cz
        have uv := um.below cz
        have uw := un.below cz
        have ux := uo.below cz
        have uy := up.below cz
        have aj0 := uu.below cz
        have uz := uq.below cz
        have u0 := ur.below cz
        have u1 := ut.below cz
        have u2 : Apart bz.ownBlock at_.ownBlock := zG ec um.lt
        have u3 : Apart bz.ownBlock ov.ownBlock := zG ec un.lt
        have u4 : Apart bz.ownBlock bu.ownBlock := zG ec uo.lt
        have u5 : Apart bz.ownBlock bv.ownBlock := zG ec up.lt
        have aj1 : Apart bz.ownBlock ln.ownBlock := zG ec uu.lt
        have u6 : Apart bz.ownBlock (some b) := zK ec uq.lt
        have u7 : Apart bz.ownBlock (some f) := zK ec ur.lt
        have u8 : Apart bz.ownBlock (some d) := zK ec ut.lt
        have u9 : Own eNode 99 s ajx w.heap.size bz ([]) := ajy.weaken it.size
        refine ⟨fun _ => ha.pins, ?_⟩
        refine dO (i := 4) (zR (i := 4) rfl rfl rfl (zD rfl _) (oA (E := eNode) (v := bz) (u := k8) 48 Tryz.underlying30 ap99 (by decide) rfl rfl ha.pins u9 ((k9.mono (Pin.le_trans an y)).src ha.pins (by decide)) (ha.size) (fun ed awn va aj2 c0 ff => ?_)))
        have iu := ha.write aj2 c0 ((yC u9))
        have vb := uv.keptA c0 u2.symm
        have vc := uw.keptA c0 u3.symm
        have vd := ux.keptA c0 u4.symm
        have ve := uy.keptA c0 u5.symm
        have aj3 := aj0.keptA c0 aj1.symm
        have vf := uz.keptA c0 u6.symm
        have vg := u0.keptA c0 u7.symm
        have vh := u1.keptA c0 u8.symm
        have vi : Apart at_.ownBlock ed.ownBlock := zF u2.symm ff uv.lt
        have vj : Apart ov.ownBlock ed.ownBlock := zF u3.symm ff uw.lt
        have vk : Apart bu.ownBlock ed.ownBlock := zF u4.symm ff ux.lt
        have vl : Apart bv.ownBlock ed.ownBlock := zF u5.symm ff uy.lt
        have vm : Apart (some b) ed.ownBlock := zJ u6.symm ff uz.lt
        have vn : Apart (some f) ed.ownBlock := zJ u7.symm ff u0.lt
        have vo : Apart (some d) ed.ownBlock := zJ u8.symm ff u1.lt
        have awo : (([]) ++ ((ls.take i).drop 0)).length = ([]).length + ((ls.take i).drop 0).length := List.length_append
        refine ⟨fun _ => iu.pins, ?_⟩
        refine dO (i := 7) (zR (i := 7) rfl rfl rfl (zD rfl _) (oA (E := eNode) (v := ed) (u := ln) 48 Tryz.underlying30 ap99 (by decide) rfl rfl iu.pins va aj3.src (iu.size) (fun ee awp vp aj4 ef fg => ?_)))
        have hb := iu.write aj4 ef ((yC va))
        have vq := vb.keptA ef vi
        have vr := vc.keptA ef vj
        have vt := vd.keptA ef vk
        have vu := ve.keptA ef vl
        have vv := vf.keptA ef vm
        have vw := vg.keptA ef vn
        have vx := vh.keptA ef vo
        have vy : Apart at_.ownBlock ee.ownBlock := zF vi fg vb.lt
        have vz : Apart ov.ownBlock ee.ownBlock := zF vj fg vc.lt
        have v0 : Apart bu.ownBlock ee.ownBlock := zF vk fg vd.lt
        have v1 : Apart bv.ownBlock ee.ownBlock := zF vl fg ve.lt
        have v2 : Apart (some b) ee.ownBlock := zJ vm fg vf.lt
        have v3 : Apart (some f) ee.ownBlock := zJ vn fg vg.lt
        have v4 : Apart (some d) ee.ownBlock := zJ vo fg vh.lt
        have awq : ((([]) ++ ((ls.take i).drop 0)) ++ ([(⟨sortL (atL ats ((ns.getD c default).l)), sortL (atL ats ((ns.getD c default).r))⟩ : Nd)])).length = (([]) ++ ((ls.take i).drop 0)).length + 1 := List.length_append
        refine ⟨fun _ => hb.pins, ?_⟩
        refine dO (i := 11) (zR (i := 11) rfl rfl rfl (zD rfl _) (oA (E := eNode) (v := ee) (u := la) 48 Tryz.underlying30 ap99 (by decide) rfl rfl hb.pins vp ((lb.mono (Pin.le_trans an y)).src hb.pins (by decide)) (hb.size) (fun c1 awr aj5 aj6 eg fh => ?_)))
        have lp := hb.write aj6 eg ((yC vp))
        have aj7 := vq.keptA eg vy
        have aj8 := vr.keptA eg vz
        have aj9 := vt.keptA eg v0
        have aka := vu.keptA eg v1
        have akb := vv.keptA eg v2
        have akc := vw.keptA eg v3
        have akd := vx.keptA eg v4
        have ake : Apart at_.ownBlock c1.ownBlock := zF vy fh vq.lt
        have akf : Apart ov.ownBlock c1.ownBlock := zF vz fh vr.lt
        have akg : Apart bu.ownBlock c1.ownBlock := zF v0 fh vt.lt
        have akh : Apart bv.ownBlock c1.ownBlock := zF v1 fh vu.lt
        have aki : Apart (some b) c1.ownBlock := zJ v2 fh vv.lt
        have akj : Apart (some f) c1.ownBlock := zJ v3 fh vw.lt
        have akk : Apart (some d) c1.ownBlock := zJ v4 fh vx.lt
        have aws : (((([]) ++ ((ls.take i).drop 0)) ++ ([(⟨sortL (atL ats ((ns.getD c default).l)), sortL (atL ats ((ns.getD c default).r))⟩ : Nd)])) ++ ((ls.take ls.length).drop i)).length = ((([]) ++ ((ls.take i).drop 0)) ++ ([(⟨sortL (atL ats ((ns.getD c default).l)), sortL (atL ats ((ns.getD c default).r))⟩ : Nd)])).length + ((ls.take ls.length).drop i).length := List.length_append
        refine ⟨fun _ => lp.pins, ?_⟩
        refine dM 12 c1 lp.pins ?_
        refine yK (by kernel_rfl) ?_
        exact xQ ⟨_, c1, s, (pS 13 (pS 11 (pS 10 (pS 9 (pS 8 (pS 7 (pS 6 (pS 5 (pS 4 (pS 1 (pU 0))))))))))), lp, (Pin.le_refl _), aj7, aj8, aj9, aka, aj5, akb, akc, akd, ake, akf, akg, akh, aki.symm, akj.symm, akk.symm⟩
     ·skip
      refine yL (fun (k : Nat) (en : Nat → Value) (W : World) => ∃ (ac : Nat → Value) (i : Nat) (s : Pin), en = (upd (upd (upd (upd (upd (upd (upd (upd (upd (upd (upd (upd ac 0 (.pointer (some ⟨b, 0, none⟩))) 1 (vJ m)) 4 (.pointer (some ⟨f, 0, none⟩))) 5 aw) 6 at_) 7 (.pointer (some ⟨d, 0, none⟩))) 8 (vJ (q : Int))) 9 lv) 10 fv) 11 (vJ (c : Int))) 12 (.pointer (some ⟨g0, 0, none⟩))) 13 (vJ (i : Int))) ∧ k = ls.length - i ∧ Ext noS G w s W ∧ Pin.le am s ∧ (i ≤ ls.length) ∧ (posM ls (ndAt ats (ns.getD c default)) = i + posM (ls.drop i) (ndAt ats (ns.getD c default))) ∧ (Own eInt 3 s W w.heap.size at_ (ats)) ∧ (Own eNode 99 s W w.heap.size ov (outs)) ∧ (Own eNode 99 s W 0 bu (ns)) ∧ (Own eInt 3 s W 0 bv (bs)) ∧ (Bx s W b [bu, bv]) ∧ (Bx s W f [(.slice none 0 0)]) ∧ (Bx s W d [ov])) _ ⟨_, 0, am, (pS 13 (pS 12 (pS 11 (pS 10 (pS 9 (pS 8 (pS 7 (pS 6 (pS 5 (pS 4 (pS 1 (pU 0)))))))))))), rfl, ado, Pin.le_refl _, Nat.zero_le _, (Nat.zero_add _).symm, adp, adq, adr, ads, adt, adu, adv⟩ ?_
      rintro awt _ e5 ⟨ac, i, s, rfl, awu, g1, y, hi, hpp, j2, j3, j4, j5, j6, j7, j8⟩
      refine zB (zB ?_)
      refine yU (S := fun wz => Pins s wz) (last := 12) (by kernel_rfl) rfl ?_
      have c2 : Below e5.heap.size e5 e5.drew := (Below.refl _ _).drew
      have akl := g1.pins.below c2
      have ag := g1.step akl c2
      have v5 := j2.below c2
      have v6 := j3.below c2
      have v7 := j4.below c2
      have v8 := j5.below c2
      have v9 := j6.below c2
      have wa := j7.below c2
      have wb := j8.below c2
      refine dM 0 (vJ (i : Int)) ag.pins ?_
      refine dM 1 lv ag.pins ?_
      refine dT (i := 2) rfl rfl (by kernel_rfl) (fun _ _ => zM Tryz.underlying30 (v := lv) rfl bk) ag.pins ?_
      refine dT (i := 3) rfl rfl (by kernel_rfl) (fun _ _ => yM rfl rfl) ag.pins ?_
      refine dM 4 (.bool (decide (((i : Int) : Int) < (ls.length : Int)))) ag.pins ?_
      refine drbd (p := ((i : Int) : Int) < (ls.length : Int)) (t := 84) rfl (fun akm => ?_) (fun akm => ?_)
      ·skip
       refine yA (i := 5) rfl rfl rfl (zS rfl rfl rfl rfl) (by kernel_rfl) (fun _ _ => zU (v := lv) rfl) ag.pins ?_
       refine yA (i := 6) rfl rfl rfl (zS rfl rfl rfl rfl) (by kernel_rfl) (fun _ _ => zU (v := (vJ (i : Int))) rfl) ag.pins ?_
       refine yA (i := 7) rfl rfl rfl (zS rfl rfl rfl rfl) (by kernel_rfl) (fun _ _ => zI Tryz.underlying30 sz99 (v := lv) rfl rfl bk (by omega) (by omega)) ag.pins ?_
       obtain ⟨akn, ako, wc, wd, akp⟩ := qC (bk.at (z := (i : Int)) (by omega) (by omega)) (j := i) rfl
       have awv := wc.max
       have aww := wd.max
       refine yA (i := 8) rfl rfl rfl (zS rfl rfl rfl rfl) (by kernel_rfl) (fun _ hS => akp ag99 sz99 rfl (Pins.of_le hS (Pin.le_trans an y))) ag.pins ?_
       refine yA (i := 9) rfl rfl rfl (zS rfl rfl rfl rfl) (by kernel_rfl) (fun _ hS => yQ (cs := [ca, cb]) ag99 sz99 rfl (fun j u hj => (Pins.of_le hS y) _ _ _ (oh _ _ (by simpa using hj)))) ag.pins ?_
       refine dO (i := 10) (zR (i := 10) rfl rfl rfl (zS rfl rfl rfl rfl) (zL (vs := [(.agg [akn, ako].toArray), (.agg [ca, cb].toArray)]) Tryz.func136 nm136 rfl rfl rfl ?_))
       refine Calls.mono (l3NodeAhead_spec (a := ⟨(ls.getD i default).l, (ls.getD i default).r⟩) (b := ⟨sortL (atL ats ((ns.getD c default).l)), sortL (atL ats ((ns.getD c default).r))⟩) ag.pins (wc.mono (Pin.le_trans an y)) (wd.mono (Pin.le_trans an y)) (hy.mono y) (hz.mono y)) ?_
       rintro _ awx ⟨we, rfl, a1⟩
       refine ⟨_, rfl, ?_⟩
       have iv := ag.tr a1
       have wf := v5.ext a1
       have wg := v6.ext a1
       have wh := v7.ext a1
       have wi := v8.ext a1
       have wj := v9.ext a1
       have wk := wa.ext a1
       have wl := wb.ext a1
       refine ⟨fun _ => (Pins.of_le iv.pins a1.le), ?_⟩
       refine dT (i := 11) rfl rfl (by kernel_rfl) (fun _ _ => xG (v := (.bool (decide ((aheadI (⟨(ls.getD i default).l, (ls.getD i default).r⟩ : Nd) (⟨sortL (atL ats ((ns.getD c default).l)), sortL (atL ats ((ns.getD c default).r))⟩ : Nd)) < 0)))) rfl rfl) (Pins.of_le iv.pins a1.le) ?_
       refine yK (by kernel_rfl) ?_
       refine zA ?_
       refine yD (p := ((aheadI (⟨(ls.getD i default).l, (ls.getD i default).r⟩ : Nd) (⟨sortL (atL ats ((ns.getD c default).l)), sortL (atL ats ((ns.getD c default).r))⟩ : Nd)) < 0)) rfl rfl (fun lq => ?_) (fun lq => ?_)
       ·skip
        refine wp_skip ?_
        refine zA ?_
        refine zW ?_
        refine zC ?_
        refine qM (vJ (i : Int)) ?_
        refine qD rfl (yP rfl rfl (by omega)) ?_
        refine qM (vJ ((i : Int) + 1)) ?_
        refine qe ?_
        refine yH ?_
        refine yG ?_
        refine ⟨_, ?_, _, rfl, _, i + 1, we, (pS 13 (pS 12 (pS 11 (pS 10 (pS 9 (pS 8 (pS 7 (pS 6 (pS 5 (pS 4 (pS 1 (pU 0)))))))))))), rfl, iv, (Pin.le_trans y a1.le), (by omega), (pos_next (by omega) lq hpp), wf, wg, wh, wi, wj, wk, wl⟩
        omega
       refine wp_exit ?_
       refine zX ?_
       refine yJ ?_
       exact cutE_in ⟨_, i, we, (pS 13 (pS 12 (pS 11 (pS 10 (pS 9 (pS 8 (pS 7 (pS 6 (pS 5 (pS 4 (pS 1 (pU 0)))))))))))), iv, (Pin.le_trans y a1.le), hi, (pos_stop (by omega) lq hpp), wf, wg, wh, wi, wj, wk, wl⟩
      refine zV (i := 5) rfl rfl (zY rfl rfl rfl rfl rfl) (by kernel_rfl) ag.pins ?_
      refine zV (i := 6) rfl rfl (zY rfl rfl rfl rfl rfl) (by kernel_rfl) ag.pins ?_
      refine zV (i := 7) rfl rfl (zY rfl rfl rfl rfl rfl) (by kernel_rfl) ag.pins ?_
      refine zV (i := 8) rfl rfl (zY rfl rfl rfl rfl rfl) (by kernel_rfl) ag.pins ?_
      refine zV (i := 9) rfl rfl (zY rfl rfl rfl rfl rfl) (by kernel_rfl) ag.pins ?_
      refine zV (i := 10) rfl rfl (zY rfl rfl rfl rfl rfl) (by kernel_rfl) ag.pins ?_
      refine dT (i := 11) rfl rfl (by kernel_rfl) (fun _ _ => xB (v := (.bool false)) rfl rfl) ag.pins ?_
      refine yK (by kernel_rfl) ?_
      refine zA ?_
      refine c_ifF rfl rfl ?_
      refine wp_exit ?_
      refine zX ?_
      refine yJ ?_
      exact cutE_in ⟨_, i, s, (pS 13 (pS 12 (pS 11 (pS 10 (pS 9 (pS 8 (pS 7 (pS 6 (pS 5 (pS 4 (pS 1 (pU 0)))))))))))), ag, y, hi, (pos_end (by omega) hpp), v5, v6, v7, v8, v9, wa, wb⟩
    ·skip
     have akq := Gadd.pins dm.pins bu
     have iw := e4.read
     refine yU (S := fun wz => BxR wz b [bu, bv] ∧ Pins (Gadd ai ht bu) wz) (last := 24) (by kernel_rfl) rfl ?_
     have b0 : Below ht.heap.size ht ht.drew := (Below.refl _ _).drew
     have akr := dm.pins.below b0
     have fi := dm.step akr b0
     have hc := hu.below b0
     have ix := hv.below b0
     have iy := e4.below b0
     have iz := gf.below b0
     have ad := gz.below b0
     have i0 := hw.below b0
     have i1 := hx.below b0
     have ah := akq.below b0
     refine dT (i := 0) rfl rfl (by kernel_rfl) (fun _ _ => zU (v := at_) rfl) ⟨ad.reads, ah⟩ ?_
     refine dT (i := 1) rfl rfl (by kernel_rfl) (fun _ _ => zU (v := (.pointer (some ⟨b, 0, none⟩))) rfl) ⟨ad.reads, ah⟩ ?_
     refine dT (i := 2) rfl rfl (by kernel_rfl) (fun _ _ => xF rfl) ⟨ad.reads, ah⟩ ?_
     refine dT (i := 3) rfl rfl (by kernel_rfl) (fun _ _ => zN (k := 0) rfl Tryz.underlying102 rfl nz30 rfl) ⟨ad.reads, ah⟩ ?_
     refine dT (i := 4) rfl rfl (by kernel_rfl) (fun _ hS => zO (u := bu) ag30 rfl (hS.1 0 _ rfl)) ⟨ad.reads, ah⟩ ?_
     refine dT (i := 5) rfl rfl (by kernel_rfl) (fun _ _ => zU (v := (vJ (c : Int))) rfl) ⟨ad.reads, ah⟩ ?_
     refine dT (i := 6) rfl rfl (by kernel_rfl) (fun _ _ => zI Tryz.underlying30 sz99 (v := bu) rfl rfl iw (by omega) (by omega)) ⟨ad.reads, ah⟩ ?_
     refine dT (i := 7) rfl rfl (by kernel_rfl) (fun _ _ => xI (off := 0) Tryz.underlying99 rfl rfl nz65 (z := (c : Int)) (k := 0) rfl iw (by omega) (by omega)) ⟨ad.reads, ah⟩ ?_
     obtain ⟨wm, lr, aks⟩ := nm_nl (e4.at (z := (c : Int)) (by omega) (by omega)) (j := c) rfl
     have awy := lr.max
     refine dT (i := 8) rfl rfl (by kernel_rfl) (fun _ hS => aks ag65 rfl hS.2) ⟨ad.reads, ah⟩ ?_
     refine dT (i := 11) rfl rfl (by kernel_rfl) (fun _ _ => zU (v := at_) rfl) ⟨ad.reads, ah⟩ ?_
     refine dT (i := 12) rfl rfl (by kernel_rfl) (fun _ _ => zU (v := (.pointer (some ⟨b, 0, none⟩))) rfl) ⟨ad.reads, ah⟩ ?_
     refine dT (i := 13) rfl rfl (by kernel_rfl) (fun _ _ => xF rfl) ⟨ad.reads, ah⟩ ?_
     refine dT (i := 14) rfl rfl (by kernel_rfl) (fun _ _ => zN (k := 0) rfl Tryz.underlying102 rfl nz30 rfl) ⟨ad.reads, ah⟩ ?_
     refine dT (i := 15) rfl rfl (by kernel_rfl) (fun _ hS => zO (u := bu) ag30 rfl (hS.1 0 _ rfl)) ⟨ad.reads, ah⟩ ?_
     refine dT (i := 16) rfl rfl (by kernel_rfl) (fun _ _ => zU (v := (vJ (c : Int))) rfl) ⟨ad.reads, ah⟩ ?_
     refine dT (i := 17) rfl rfl (by kernel_rfl) (fun _ _ => zI Tryz.underlying30 sz99 (v := bu) rfl rfl iw (by omega) (by omega)) ⟨ad.reads, ah⟩ ?_
     refine dT (i := 18) rfl rfl (by kernel_rfl) (fun _ _ => xI (off := 1) Tryz.underlying99 rfl rfl nz65 (z := (c : Int)) (k := 0) rfl iw (by omega) (by omega)) ⟨ad.reads, ah⟩ ?_
     obtain ⟨i2, hd, akt⟩ := nm_nr (e4.at (z := (c : Int)) (by omega) (by omega)) (j := c) rfl
     have awz := hd.max
     refine dT (i := 19) rfl rfl (by kernel_rfl) (fun _ hS => akt ag65 rfl hS.2) ⟨ad.reads, ah⟩ ?_
     refine dr_two (i := 9) (j := 23) (by kernel_rfl) ?_ ?_
     ·skip
      refine (zR (i := 9) rfl rfl rfl (zD rfl _) (zL (vs := [at_, wm]) Tryz.func127 nm127 rfl rfl rfl ?_))
      refine Calls.mono (qK fi.pins (Gadd.pins fi.pins at_) hc.read lr (by omega) (fun i hi => by have := hoo.left (j := c) (by omega) hi; omega)) ?_
      rintro _ aku ⟨i3, akv, rfl, eh, ao⟩
      refine ⟨_, rfl, ?_⟩
      have i5 := fi.tr ao
      have lu := hc.ext ao
      have lw := ix.ext ao
      have lx := iy.ext ao
      have ly := iz.ext ao
      have i6 := ad.ext ao
      have lz := i0.ext ao
      have l0 := i1.ext ao
      have wn := zQ eh.lt hc.lt
      have wo := zQ eh.lt ix.lt
      have wp := zQ eh.lt iy.lt
      have wq := zQ eh.lt iz.lt
      have wr := yE eh.lt ad.lt
      have ws := yE eh.lt i0.lt
      have wt := yE eh.lt i1.lt
      have l1 : Own eInt 3 akv aku w.heap.size i3 (atL ats ((ns.getD c default).l)) := eh.weaken fi.size
      have l2 := ah.below ao.below
      refine ⟨fun _ => ⟨i6.reads, l2⟩, ?_⟩
      refine dr_two (i := 10) (j := 23) (by kernel_rfl) ?_ ?_
      ·skip
       obtain ⟨aw0, c3, wu, akw, fj⟩ := l1.sealed i5
       have akx := lu.moreO c3 fj wn.symm
       have aky := lw.moreO c3 fj wo.symm
       have akz := lx.moreO c3 fj wp.symm
       have ak0 := ly.moreO c3 fj wq.symm
       have ak1 := i6.moreO fj wr.symm
       have ak2 := lz.moreO fj ws.symm
       have ak3 := l0.moreO fj wt.symm
       refine (zR (i := 10) rfl rfl rfl (zD rfl _) (zL (vs := [i3]) Tryz.func135 nm135 rfl rfl rfl ?_))
       refine Calls.mono (xN wu.pins akw (by first | omega | (rw [yR]; omega))) ?_
       rintro _ aw1 ⟨af, aw2, rfl, c4, aq⟩
       refine ⟨_, rfl, ?_⟩
       have fk := wu.tr aq
       have he := akx.ext aq
       have i7 := aky.ext aq
       have i8 := akz.ext aq
       have i9 := ak0.ext aq
       have hf := ak1.ext aq
       have ja := ak2.ext aq
       have jb := ak3.ext aq
       have l3 := l2.below aq.below
       refine ⟨fun _ => ⟨hf.reads, l3⟩, ?_⟩
       refine dr_two (i := 20) (j := 23) (by kernel_rfl) ?_ ?_
       ·skip
        refine (zR (i := 20) rfl rfl rfl (zD rfl _) (zL (vs := [at_, i2]) Tryz.func127 nm127 rfl rfl rfl ?_))
        refine Calls.mono (qK fk.pins (Gadd.pins fk.pins at_) he.read (hd.mono (Pin.le_trans (Pin.le_trans ao.le c3) aq.le)) (by omega) (fun i hi => by have := hoo.right (j := c) (by omega) hi; omega)) ?_
        rintro _ ak4 ⟨jc, ak5, rfl, ei, av⟩
        refine ⟨_, rfl, ?_⟩
        have jd := fk.tr av
        have l4 := he.ext av
        have l5 := i7.ext av
        have l6 := i8.ext av
        have l7 := i9.ext av
        have je := hf.ext av
        have l8 := ja.ext av
        have l9 := jb.ext av
        have wv := zQ ei.lt he.lt
        have ww := zQ ei.lt i7.lt
        have wx := zQ ei.lt i8.lt
        have wy := zQ ei.lt i9.lt
        have w0 := yE ei.lt hf.lt
        have w1 := yE ei.lt ja.lt
        have w3 := yE ei.lt jb.lt
        have ma : Own eInt 3 ak5 ak4 w.heap.size jc (atL ats ((ns.getD c default).r)) := ei.weaken fk.size
        have mb := l3.below av.below
        refine ⟨fun _ => ⟨je.reads, mb⟩, ?_⟩
        refine dr_two (i := 21) (j := 23) (by kernel_rfl) ?_ ?_
        ·skip
         obtain ⟨aw3, gj, w4, ak6, fl⟩ := ma.sealed jd
         have ak7 := l4.moreO gj fl wv.symm
         have ak8 := l5.moreO gj fl ww.symm
         have ak9 := l6.moreO gj fl wx.symm
         have ala := l7.moreO gj fl wy.symm
         have alb := je.moreO fl w0.symm
         have alc := l8.moreO fl w1.symm
         have ald := l9.moreO fl w3.symm
         refine (zR (i := 21) rfl rfl rfl (zD rfl _) (zL (vs := [jc]) Tryz.func135 nm135 rfl rfl rfl ?_))
         refine Calls.mono (xN w4.pins ak6 (by first | omega | (rw [yR]; omega))) ?_
         rintro _ aw4 ⟨fm, aw5, rfl, mc, bg⟩
         refine ⟨_, rfl, ?_⟩
         have md := w4.tr bg
         have w5 := ak7.ext bg
         have w6 := ak8.ext bg
         have w7 := ak9.ext bg
         have w8 := ala.ext bg
         have jf := alb.ext bg
         have w9 := alc.ext bg
         have xa := ald.ext bg
         have me := mb.below bg.below
         refine ⟨fun _ => ⟨jf.reads, me⟩, ?_⟩
         refine dT (i := 22) rfl rfl (by kernel_rfl) (fun _ _ => xX [(.slice none 0 0), (.slice none 0 0)] [af, fm] [(0, af, [af]), (1, fm, [fm])] Tryz.underlying99 zr99 rfl pl99 rfl (List.forall_mem_cons.2 ⟨(yX c4.one), (List.forall_mem_cons.2 ⟨(yX mc.one), (fun _ h => by cases h)⟩)⟩) rfl) ⟨jf.reads, me⟩ ?_
         refine dO (i := 23) (zR (i := 23) rfl rfl rfl (zD rfl _) (xA [(.slice none 0 0), (.slice none 0 0)] zr99 rfl md.pins (fun c5 aw6 fn ale alf c6 => ?_)))
         have xb := md.step alf c6
         have alg := w5.below c6
         have alh := w6.below c6
         have ali := w7.below c6
         have alj := w8.below c6
         have xc := jf.below c6
         have alk := w9.below c6
         have all := xa.below c6
         have xd : Apart (some c5) at_.ownBlock := zG (congrArg some fn) w5.lt
         have xe : Apart (some c5) ov.ownBlock := zG (congrArg some fn) w6.lt
         have xf : Apart (some c5) bu.ownBlock := zG (congrArg some fn) w7.lt
         have xg : Apart (some c5) bv.ownBlock := zG (congrArg some fn) w8.lt
         have xh : Apart (some c5) (some b) := zK (congrArg some fn) jf.lt
         have xi : Apart (some c5) (some f) := zK (congrArg some fn) w9.lt
         have xj : Apart (some c5) (some d) := zK (congrArg some fn) xa.lt
         have xk : w.heap.size ≤ c5 := by have := md.size; omega
         have alm := me.below c6
         refine ⟨fun _ => ⟨xc.reads, alm⟩, ?_⟩
         refine dO (i := 24) (drOp0 (i := 24) rfl rfl rfl (zD rfl _) (xK (cs' := [af, fm]) (us := [af, fm]) (v := (.agg [af, fm].toArray)) sz99 rfl rfl rfl (ones2 c4.one mc.one) xb.pins ale (Nat.le_of_ble_eq_true rfl) rfl (fun aw7 aln alo ej aw8 => ?_)))
         have alp := xb.write alo ej ((yT xk))
         have alq := alg.keptA ej xd.symm
         have alr := alh.keptA ej xe.symm
         have als := ali.keptA ej xf.symm
         have alt := alj.keptA ej xg.symm
         have alu := xc.keptA ej xh.symm
         have alv := alk.keptA ej xi.symm
         have alw := all.keptA ej xj.symm
         obtain ⟨alx, fo, aly, alz, fp⟩ := aln.shut alp xk
         have al0 := alq.moreA fo fp xd.symm
         have al1 := alr.moreA fo fp xe.symm
         have al2 := als.moreA fo fp xf.symm
         have al3 := alt.moreA fo fp xg.symm
         have al4 := alu.moreA fp xh.symm
         have al5 := alv.moreA fp xi.symm
         have al6 := alw.moreA fp xj.symm
         refine ⟨fun h => absurd rfl h, ?_⟩
         refine yK (by kernel_rfl) ?_
         exact xQ ⟨_, c5, af, fm, alx, (pS 12 (pS 11 (pS 10 (pS 9 (pS 8 (pS 7 (pS 6 (pS 5 (pS 4 (pS 1 (pU 0))))))))))), aly, (Pin.le_trans (Pin.le_trans (Pin.le_trans (Pin.le_trans (Pin.le_trans (Pin.le_trans ao.le c3) aq.le) av.le) gj) bg.le) fo), (c4.mono (Pin.le_trans (Pin.le_trans (Pin.le_trans av.le gj) bg.le) fo)), (mc.mono fo), al0, al1, al2, al3, al4, al5, al6, (alz.mono (Pin.le_refl _))⟩
        ·skip
         refine (zR (i := 23) rfl rfl rfl (zD rfl _) (xA [(.slice none 0 0), (.slice none 0 0)] zr99 rfl jd.pins (fun b2 aw9 ek al7 al8 b3 => ?_)))
         have al9 := jd.step al8 b3
         have ama := l4.below b3
         have amb := l5.below b3
         have amc := l6.below b3
         have amd := l7.below b3
         have ame := ma.below b3
         have xl := je.below b3
         have amf := l8.below b3
         have amg := l9.below b3
         have xm : Apart (some b2) at_.ownBlock := zG (congrArg some ek) l4.lt
         have xn : Apart (some b2) ov.ownBlock := zG (congrArg some ek) l5.lt
         have xo : Apart (some b2) bu.ownBlock := zG (congrArg some ek) l6.lt
         have xp : Apart (some b2) bv.ownBlock := zG (congrArg some ek) l7.lt
         have amh : Apart (some b2) jc.ownBlock := zG (congrArg some ek) ma.lt
         have xq : Apart (some b2) (some b) := zK (congrArg some ek) je.lt
         have xr : Apart (some b2) (some f) := zK (congrArg some ek) l8.lt
         have xs : Apart (some b2) (some d) := zK (congrArg some ek) l9.lt
         have xt : w.heap.size ≤ b2 := by have := jd.size; omega
         have xu := mb.below b3
         refine ⟨fun _ => ⟨xl.reads, xu⟩, ?_⟩
         obtain ⟨axa, gk, xv, ami, el⟩ := ame.sealed al9
         have amj := ama.moreO gk el wv.symm
         have amk := amb.moreO gk el ww.symm
         have aml := amc.moreO gk el wx.symm
         have amm := amd.moreO gk el wy.symm
         have amn := xl.moreO el w0.symm
         have amo := amf.moreO el w1.symm
         have amp := amg.moreO el w3.symm
         have amq := al7.moreO el amh
         refine dO (i := 21) (zR (i := 21) rfl rfl rfl (zD rfl _) (zL (vs := [jc]) Tryz.func135 nm135 rfl rfl rfl ?_))
         refine Calls.mono (xN xv.pins ami (by first | omega | (rw [yR]; omega))) ?_
         rintro _ axb ⟨fq, axc, rfl, mf, a2⟩
         refine ⟨_, rfl, ?_⟩
         have xw := xv.tr a2
         have amr := amj.ext a2
         have ams := amk.ext a2
         have amt := aml.ext a2
         have amu := amm.ext a2
         have mg := amn.ext a2
         have amv := amo.ext a2
         have amw := amp.ext a2
         have amx := amq.ext a2
         have xx := xu.below a2.below
         refine ⟨fun _ => ⟨mg.reads, xx⟩, ?_⟩
         refine dT (i := 22) rfl rfl (by kernel_rfl) (fun _ _ => xX [(.slice none 0 0), (.slice none 0 0)] [af, fq] [(0, af, [af]), (1, fq, [fq])] Tryz.underlying99 zr99 rfl pl99 rfl (List.forall_mem_cons.2 ⟨(yX c4.one), (List.forall_mem_cons.2 ⟨(yX mf.one), (fun _ h => by cases h)⟩)⟩) rfl) ⟨mg.reads, xx⟩ ?_
         refine dO (i := 24) (drOp0 (i := 24) rfl rfl rfl (zD rfl _) (xK (cs' := [af, fq]) (us := [af, fq]) (v := (.agg [af, fq].toArray)) sz99 rfl rfl rfl (ones2 c4.one mf.one) xw.pins amx (Nat.le_of_ble_eq_true rfl) rfl (fun axd amy amz em axe => ?_)))
         have am0 := xw.write amz em ((yT xt))
         have am1 := amr.keptA em xm.symm
         have am2 := ams.keptA em xn.symm
         have am3 := amt.keptA em xo.symm
         have am4 := amu.keptA em xp.symm
         have am5 := mg.keptA em xq.symm
         have am6 := amv.keptA em xr.symm
         have am7 := amw.keptA em xs.symm
         obtain ⟨am8, fs, am9, ana, ft⟩ := amy.shut am0 xt
         have anb := am1.moreA fs ft xm.symm
         have anc := am2.moreA fs ft xn.symm
         have ane := am3.moreA fs ft xo.symm
         have anf := am4.moreA fs ft xp.symm
         have ang := am5.moreA ft xq.symm
         have anh := am6.moreA ft xr.symm
         have ani := am7.moreA ft xs.symm
         refine ⟨fun h => absurd rfl h, ?_⟩
         refine yK (by kernel_rfl) ?_
         exact xQ ⟨_, b2, af, fq, am8, (pS 12 (pS 11 (pS 10 (pS 9 (pS 8 (pS 7 (pS 6 (pS 5 (pS 4 (pS 1 (pU 0))))))))))), am9, (Pin.le_trans (Pin.le_trans (Pin.le_trans (Pin.le_trans (Pin.le_trans (Pin.le_trans ao.le c3) aq.le) av.le) gk) a2.le) fs), (c4.mono (Pin.le_trans (Pin.le_trans (Pin.le_trans av.le gk) a2.le) fs)), (mf.mono fs), anb, anc, ane, anf, ang, anh, ani, (ana.mono (Pin.le_refl _))⟩
       ·skip
        refine (zR (i := 23) rfl rfl rfl (zD rfl _) (xA [(.slice none 0 0), (.slice none 0 0)] zr99 rfl fk.pins (fun c7 axf fu xy anj c8 => ?_)))
        have jg := fk.step anj c8
        have mh := he.below c8
        have xz := i7.below c8
        have x0 := i8.below c8
        have x1 := i9.below c8
        have mi := hf.below c8
        have x2 := ja.below c8
        have x3 := jb.below c8
        have x4 : Apart (some c7) at_.ownBlock := zG (congrArg some fu) he.lt
        have x5 : Apart (some c7) ov.ownBlock := zG (congrArg some fu) i7.lt
        have x6 : Apart (some c7) bu.ownBlock := zG (congrArg some fu) i8.lt
        have x7 : Apart (some c7) bv.ownBlock := zG (congrArg some fu) i9.lt
        have x8 : Apart (some c7) (some b) := zK (congrArg some fu) hf.lt
        have x9 : Apart (some c7) (some f) := zK (congrArg some fu) ja.lt
        have ya : Apart (some c7) (some d) := zK (congrArg some fu) jb.lt
        have yb : w.heap.size ≤ c7 := by have := fk.size; omega
        have yc := l3.below c8
        refine ⟨fun _ => ⟨mi.reads, yc⟩, ?_⟩
        refine dO (i := 20) (zR (i := 20) rfl rfl rfl (zD rfl _) (zL (vs := [at_, i2]) Tryz.func127 nm127 rfl rfl rfl ?_))
        refine Calls.mono (qK jg.pins (Gadd.pins jg.pins at_) mh.read (hd.mono (Pin.le_trans (Pin.le_trans ao.le c3) aq.le)) (by omega) (fun i hi => by have := hoo.right (j := c) (by omega) hi; omega)) ?_
        rintro _ ank ⟨yd, anl, rfl, c9, a3⟩
        refine ⟨_, rfl, ?_⟩
        have anm := jg.tr a3
        have ann := mh.ext a3
        have ano := xz.ext a3
        have anp := x0.ext a3
        have anq := x1.ext a3
        have ye := mi.ext a3
        have anr := x2.ext a3
        have ans := x3.ext a3
        have ant := xy.ext a3
        have anu := zQ c9.lt mh.lt
        have anv := zQ c9.lt xz.lt
        have anw := zQ c9.lt x0.lt
        have anx := zQ c9.lt x1.lt
        have any := yE c9.lt mi.lt
        have anz := yE c9.lt x2.lt
        have an0 := yE c9.lt x3.lt
        have an1 := yE c9.lt xy.lt
        have an2 : Own eInt 3 anl ank w.heap.size yd (atL ats ((ns.getD c default).r)) := c9.weaken jg.size
        have yf := yc.below a3.below
        refine ⟨fun _ => ⟨ye.reads, yf⟩, ?_⟩
        obtain ⟨axg, gl, yg, an3, eo⟩ := an2.sealed anm
        have an4 := ann.moreO gl eo anu.symm
        have an5 := ano.moreO gl eo anv.symm
        have an6 := anp.moreO gl eo anw.symm
        have an7 := anq.moreO gl eo anx.symm
        have an8 := ye.moreO eo any.symm
        have an9 := anr.moreO eo anz.symm
        have aoa := ans.moreO eo an0.symm
        have aob := ant.moreO eo an1.symm
        refine dO (i := 21) (zR (i := 21) rfl rfl rfl (zD rfl _) (zL (vs := [yd]) Tryz.func135 nm135 rfl rfl rfl ?_))
        refine Calls.mono (xN yg.pins an3 (by first | omega | (rw [yR]; omega))) ?_
        rintro _ axh ⟨fw, axi, rfl, mj, a4⟩
        refine ⟨_, rfl, ?_⟩
        have yh := yg.tr a4
        have aoc := an4.ext a4
        have aod := an5.ext a4
        have aoe := an6.ext a4
        have aof := an7.ext a4
        have mk := an8.ext a4
        have aog := an9.ext a4
        have aoh := aoa.ext a4
        have aoi := aob.ext a4
        have yi := yf.below a4.below
        refine ⟨fun _ => ⟨mk.reads, yi⟩, ?_⟩
        refine dT (i := 22) rfl rfl (by kernel_rfl) (fun _ _ => xX [(.slice none 0 0), (.slice none 0 0)] [af, fw] [(0, af, [af]), (1, fw, [fw])] Tryz.underlying99 zr99 rfl pl99 rfl (List.forall_mem_cons.2 ⟨(yX c4.one), (List.forall_mem_cons.2 ⟨(yX mj.one), (fun _ h => by cases h)⟩)⟩) rfl) ⟨mk.reads, yi⟩ ?_
        refine dO (i := 24) (drOp0 (i := 24) rfl rfl rfl (zD rfl _) (xK (cs' := [af, fw]) (us := [af, fw]) (v := (.agg [af, fw].toArray)) sz99 rfl rfl rfl (ones2 c4.one mj.one) yh.pins aoi (Nat.le_of_ble_eq_true rfl) rfl (fun axj aoj aok ep axk => ?_)))
        have aol := yh.write aok ep ((yT yb))
        have aom := aoc.keptA ep x4.symm
        have aon := aod.keptA ep x5.symm
        have aoo := aoe.keptA ep x6.symm
        have aop := aof.keptA ep x7.symm
        have aoq := mk.keptA ep x8.symm
        have aor := aog.keptA ep x9.symm
        have aos := aoh.keptA ep ya.symm
        obtain ⟨aot, fx, aou, aov, fy⟩ := aoj.shut aol yb
        have aow := aom.moreA fx fy x4.symm
        have aox := aon.moreA fx fy x5.symm
        have aoy := aoo.moreA fx fy x6.symm
        have aoz := aop.moreA fx fy x7.symm
        have ao0 := aoq.moreA fy x8.symm
        have ao1 := aor.moreA fy x9.symm
        have ao2 := aos.moreA fy ya.symm
        refine ⟨fun h => absurd rfl h, ?_⟩
        refine yK (by kernel_rfl) ?_
        exact xQ ⟨_, c7, af, fw, aot, (pS 12 (pS 11 (pS 10 (pS 9 (pS 8 (pS 7 (pS 6 (pS 5 (pS 4 (pS 1 (pU 0))))))))))), aou, (Pin.le_trans (Pin.le_trans (Pin.le_trans (Pin.le_trans (Pin.le_trans (Pin.le_trans ao.le c3) aq.le) a3.le) gl) a4.le) fx), (c4.mono (Pin.le_trans (Pin.le_trans (Pin.le_trans a3.le gl) a4.le) fx)), (mj.mono fx), aow, aox, aoy, aoz, ao0, ao1, ao2, (aov.mono (Pin.le_refl _))⟩
      ·skip
       refine (zR (i := 23) rfl rfl rfl (zD rfl _) (xA [(.slice none 0 0), (.slice none 0 0)] zr99 rfl i5.pins (fun b4 axl eq ao3 ao4 b5 => ?_)))
       have ao5 := i5.step ao4 b5
       have ao6 := lu.below b5
       have ao7 := lw.below b5
       have ao8 := lx.below b5
       have ao9 := ly.below b5
       have apa := l1.below b5
       have yj := i6.below b5
       have apb := lz.below b5
       have apc := l0.below b5
       have yk : Apart (some b4) at_.ownBlock := zG (congrArg some eq) lu.lt
       have yl : Apart (some b4) ov.ownBlock := zG (congrArg some eq) lw.lt
       have ym : Apart (some b4) bu.ownBlock := zG (congrArg some eq) lx.lt
       have yn : Apart (some b4) bv.ownBlock := zG (congrArg some eq) ly.lt
       have apd : Apart (some b4) i3.ownBlock := zG (congrArg some eq) l1.lt
       have yo : Apart (some b4) (some b) := zK (congrArg some eq) i6.lt
       have yp : Apart (some b4) (some f) := zK (congrArg some eq) lz.lt
       have yq : Apart (some b4) (some d) := zK (congrArg some eq) l0.lt
       have yr : w.heap.size ≤ b4 := by have := i5.size; omega
       have ys := l2.below b5
       refine ⟨fun _ => ⟨yj.reads, ys⟩, ?_⟩
       obtain ⟨axm, gm, yt, ape, er⟩ := apa.sealed ao5
       have apf := ao6.moreO gm er wn.symm
       have apg := ao7.moreO gm er wo.symm
       have aph := ao8.moreO gm er wp.symm
       have api := ao9.moreO gm er wq.symm
       have apj := yj.moreO er wr.symm
       have apk := apb.moreO er ws.symm
       have apl := apc.moreO er wt.symm
       have apm := ao3.moreO er apd
       refine dO (i := 10) (zR (i := 10) rfl rfl rfl (zD rfl _) (zL (vs := [i3]) Tryz.func135 nm135 rfl rfl rfl ?_))
       refine Calls.mono (xN yt.pins ape (by first | omega | (rw [yR]; omega))) ?_
       rintro _ axn ⟨fz, axo, rfl, ml, a5⟩
       refine ⟨_, rfl, ?_⟩
       have jh := yt.tr a5
       have mm := apf.ext a5
       have yu := apg.ext a5
       have yv := aph.ext a5
       have yw := api.ext a5
       have mn := apj.ext a5
       have yx := apk.ext a5
       have yy := apl.ext a5
       have yz := apm.ext a5
       have y0 := ys.below a5.below
       refine ⟨fun _ => ⟨mn.reads, y0⟩, ?_⟩
       refine dO (i := 20) (zR (i := 20) rfl rfl rfl (zD rfl _) (zL (vs := [at_, i2]) Tryz.func127 nm127 rfl rfl rfl ?_))
       refine Calls.mono (qK jh.pins (Gadd.pins jh.pins at_) mm.read (hd.mono (Pin.le_trans (Pin.le_trans ao.le gm) a5.le)) (by omega) (fun i hi => by have := hoo.right (j := c) (by omega) hi; omega)) ?_
       rintro _ apn ⟨y1, apo, rfl, da, a6⟩
       refine ⟨_, rfl, ?_⟩
       have app := jh.tr a6
       have apq := mm.ext a6
       have apr := yu.ext a6
       have aps := yv.ext a6
       have apt := yw.ext a6
       have y2 := mn.ext a6
       have apu := yx.ext a6
       have apv := yy.ext a6
       have apw := yz.ext a6
       have apx := zQ da.lt mm.lt
       have apy := zQ da.lt yu.lt
       have apz := zQ da.lt yv.lt
       have ap0 := zQ da.lt yw.lt
       have ap1 := yE da.lt mn.lt
       have ap2 := yE da.lt yx.lt
       have ap4 := yE da.lt yy.lt
       have ap5 := yE da.lt yz.lt
       have ap6 : Own eInt 3 apo apn w.heap.size y1 (atL ats ((ns.getD c default).r)) := da.weaken jh.size
       have y3 := y0.below a6.below
       refine ⟨fun _ => ⟨y2.reads, y3⟩, ?_⟩
       obtain ⟨axp, gn, y4, ap7, es⟩ := ap6.sealed app
       have ap8 := apq.moreO gn es apx.symm
       have ap9 := apr.moreO gn es apy.symm
       have aqa := aps.moreO gn es apz.symm
       have aqb := apt.moreO gn es ap0.symm
       have aqc := y2.moreO es ap1.symm
       have aqd := apu.moreO es ap2.symm
       have aqe := apv.moreO es ap4.symm
       have aqf := apw.moreO es ap5.symm
       refine dO (i := 21) (zR (i := 21) rfl rfl rfl (zD rfl _) (zL (vs := [y1]) Tryz.func135 nm135 rfl rfl rfl ?_))
       refine Calls.mono (xN y4.pins ap7 (by first | omega | (rw [yR]; omega))) ?_
       rintro _ axq ⟨f0, axr, rfl, mo, a7⟩
       refine ⟨_, rfl, ?_⟩
       have y5 := y4.tr a7
       have aqg := ap8.ext a7
       have aqh := ap9.ext a7
       have aqi := aqa.ext a7
       have aqj := aqb.ext a7
       have mp := aqc.ext a7
       have aqk := aqd.ext a7
       have aql := aqe.ext a7
       have aqm := aqf.ext a7
       have y6 := y3.below a7.below
       refine ⟨fun _ => ⟨mp.reads, y6⟩, ?_⟩
       refine dT (i := 22) rfl rfl (by kernel_rfl) (fun _ _ => xX [(.slice none 0 0), (.slice none 0 0)] [fz, f0] [(0, fz, [fz]), (1, f0, [f0])] Tryz.underlying99 zr99 rfl pl99 rfl (List.forall_mem_cons.2 ⟨(yX ml.one), (List.forall_mem_cons.2 ⟨(yX mo.one), (fun _ h => by cases h)⟩)⟩) rfl) ⟨mp.reads, y6⟩ ?_
       refine dO (i := 24) (drOp0 (i := 24) rfl rfl rfl (zD rfl _) (xK (cs' := [fz, f0]) (us := [fz, f0]) (v := (.agg [fz, f0].toArray)) sz99 rfl rfl rfl (ones2 ml.one mo.one) y5.pins aqm (Nat.le_of_ble_eq_true rfl) rfl (fun axs aqn aqo et axt => ?_)))
       have aqp := y5.write aqo et ((yT yr))
       have aqq := aqg.keptA et yk.symm
       have aqr := aqh.keptA et yl.symm
       have aqs := aqi.keptA et ym.symm
       have aqt := aqj.keptA et yn.symm
       have aqu := mp.keptA et yo.symm
       have aqv := aqk.keptA et yp.symm
       have aqw := aql.keptA et yq.symm
       obtain ⟨aqx, f1, aqy, aqz, f2⟩ := aqn.shut aqp yr
       have aq0 := aqq.moreA f1 f2 yk.symm
       have aq1 := aqr.moreA f1 f2 yl.symm
       have aq2 := aqs.moreA f1 f2 ym.symm
       have aq3 := aqt.moreA f1 f2 yn.symm
       have aq4 := aqu.moreA f2 yo.symm
       have aq5 := aqv.moreA f2 yp.symm
       have aq6 := aqw.moreA f2 yq.symm
       refine ⟨fun h => absurd rfl h, ?_⟩
       refine yK (by kernel_rfl) ?_
       exact xQ ⟨_, b4, fz, f0, aqx, (pS 12 (pS 11 (pS 10 (pS 9 (pS 8 (pS 7 (pS 6 (pS 5 (pS 4 (pS 1 (pU 0))))))))))), aqy, (Pin.le_trans (Pin.le_trans (Pin.le_trans (Pin.le_trans (Pin.le_trans (Pin.le_trans ao.le gm) a5.le) a6.le) gn) a7.le) f1), (ml.mono (Pin.le_trans (Pin.le_trans (Pin.le_trans a6.le gn) a7.le) f1)), (mo.mono f1), aq0, aq1, aq2, aq3, aq4, aq5, aq6, (aqz.mono (Pin.le_refl _))⟩
     ·skip
      refine (zR (i := 23) rfl rfl rfl (zD rfl _) (xA [(.slice none 0 0), (.slice none 0 0)] zr99 rfl fi.pins (fun db axu f3 y7 aq7 dc => ?_)))
      have ji := fi.step aq7 dc
      have mq := hc.below dc
      have y8 := ix.below dc
      have y9 := iy.below dc
      have za := iz.below dc
      have mr := ad.below dc
      have zb := i0.below dc
      have zc := i1.below dc
      have zd : Apart (some db) at_.ownBlock := zG (congrArg some f3) hc.lt
      have ze : Apart (some db) ov.ownBlock := zG (congrArg some f3) ix.lt
      have zf : Apart (some db) bu.ownBlock := zG (congrArg some f3) iy.lt
      have zg : Apart (some db) bv.ownBlock := zG (congrArg some f3) iz.lt
      have zh : Apart (some db) (some b) := zK (congrArg some f3) ad.lt
      have zi : Apart (some db) (some f) := zK (congrArg some f3) i0.lt
      have zj : Apart (some db) (some d) := zK (congrArg some f3) i1.lt
      have zk : w.heap.size ≤ db := by have := fi.size; omega
      have zl := ah.below dc
      refine ⟨fun _ => ⟨mr.reads, zl⟩, ?_⟩
      refine dO (i := 9) (zR (i := 9) rfl rfl rfl (zD rfl _) (zL (vs := [at_, wm]) Tryz.func127 nm127 rfl rfl rfl ?_))
      refine Calls.mono (qK ji.pins (Gadd.pins ji.pins at_) mq.read lr (by omega) (fun i hi => by have := hoo.left (j := c) (by omega) hi; omega)) ?_
      rintro _ aq8 ⟨zm, aq9, rfl, dd, a8⟩
      refine ⟨_, rfl, ?_⟩
      have ara := ji.tr a8
      have arb := mq.ext a8
      have arc := y8.ext a8
      have ard := y9.ext a8
      have are := za.ext a8
      have zn := mr.ext a8
      have arf := zb.ext a8
      have arg := zc.ext a8
      have arh := y7.ext a8
      have ari := zQ dd.lt mq.lt
      have arj := zQ dd.lt y8.lt
      have ark := zQ dd.lt y9.lt
      have arl := zQ dd.lt za.lt
      have arm := yE dd.lt mr.lt
      have arn := yE dd.lt zb.lt
      have aro := yE dd.lt zc.lt
      have arp := yE dd.lt y7.lt
      have arq : Own eInt 3 aq9 aq8 w.heap.size zm (atL ats ((ns.getD c default).l)) := dd.weaken ji.size
      have zo := zl.below a8.below
      refine ⟨fun _ => ⟨zn.reads, zo⟩, ?_⟩
      obtain ⟨axv, gp, zp, arr, eu⟩ := arq.sealed ara
      have ars := arb.moreO gp eu ari.symm
      have art := arc.moreO gp eu arj.symm
      have aru := ard.moreO gp eu ark.symm
      have arv := are.moreO gp eu arl.symm
      have arw := zn.moreO eu arm.symm
      have arx := arf.moreO eu arn.symm
      have ary := arg.moreO eu aro.symm
      have arz := arh.moreO eu arp.symm
      refine dO (i := 10) (zR (i := 10) rfl rfl rfl (zD rfl _) (zL (vs := [zm]) Tryz.func135 nm135 rfl rfl rfl ?_))
      refine Calls.mono (xN zp.pins arr (by first | omega | (rw [yR]; omega))) ?_
      rintro _ axw ⟨f4, axx, rfl, ms, a9⟩
      refine ⟨_, rfl, ?_⟩
      have jj := zp.tr a9
      have mt := ars.ext a9
      have zq := art.ext a9
      have zr := aru.ext a9
      have zs := arv.ext a9
      have mu := arw.ext a9
      have zt := arx.ext a9
      have zu := ary.ext a9
      have zv := arz.ext a9
      have zw := zo.below a9.below
      refine ⟨fun _ => ⟨mu.reads, zw⟩, ?_⟩
      refine dO (i := 20) (zR (i := 20) rfl rfl rfl (zD rfl _) (zL (vs := [at_, i2]) Tryz.func127 nm127 rfl rfl rfl ?_))
      refine Calls.mono (qK jj.pins (Gadd.pins jj.pins at_) mt.read (hd.mono (Pin.le_trans (Pin.le_trans a8.le gp) a9.le)) (by omega) (fun i hi => by have := hoo.right (j := c) (by omega) hi; omega)) ?_
      rintro _ ar0 ⟨zx, ar1, rfl, de, ba⟩
      refine ⟨_, rfl, ?_⟩
      have ar2 := jj.tr ba
      have ar3 := mt.ext ba
      have ar4 := zq.ext ba
      have ar5 := zr.ext ba
      have ar6 := zs.ext ba
      have zy := mu.ext ba
      have ar7 := zt.ext ba
      have ar8 := zu.ext ba
      have ar9 := zv.ext ba
      have asa := zQ de.lt mt.lt
      have asb := zQ de.lt zq.lt
      have asc := zQ de.lt zr.lt
      have asd := zQ de.lt zs.lt
      have ase := yE de.lt mu.lt
      have asf := yE de.lt zt.lt
      have asg := yE de.lt zu.lt
      have ash := yE de.lt zv.lt
      have asi : Own eInt 3 ar1 ar0 w.heap.size zx (atL ats ((ns.getD c default).r)) := de.weaken jj.size
      have zz := zw.below ba.below
      refine ⟨fun _ => ⟨zy.reads, zz⟩, ?_⟩
      obtain ⟨axy, gq, z0, asj, ev⟩ := asi.sealed ar2
      have ask := ar3.moreO gq ev asa.symm
      have asl := ar4.moreO gq ev asb.symm
      have asm := ar5.moreO gq ev asc.symm
      have asn := ar6.moreO gq ev asd.symm
      have aso := zy.moreO ev ase.symm
      have asp := ar7.moreO ev asf.symm
      have asq := ar8.moreO ev asg.symm
      have asr := ar9.moreO ev ash.symm
      refine dO (i := 21) (zR (i := 21) rfl rfl rfl (zD rfl _) (zL (vs := [zx]) Tryz.func135 nm135 rfl rfl rfl ?_))
      refine Calls.mono (xN z0.pins asj (by first | omega | (rw [yR]; omega))) ?_
      rintro _ axz ⟨f5, ax0, rfl, mv, bb⟩
      refine ⟨_, rfl, ?_⟩
      have z1 := z0.tr bb
      have ass := ask.ext bb
      have ast := asl.ext bb
      have asu := asm.ext bb
      have asv := asn.ext bb
      have mw := aso.ext bb
      have asw := asp.ext bb
      have asx := asq.ext bb
      have asy := asr.ext bb
      have z2 := zz.below bb.below
      refine ⟨fun _ => ⟨mw.reads, z2⟩, ?_⟩
      refine dT (i := 22) rfl rfl (by kernel_rfl) (fun _ _ => xX [(.slice none 0 0), (.slice none 0 0)] [f4, f5] [(0, f4, [f4]), (1, f5, [f5])] Tryz.underlying99 zr99 rfl pl99 rfl (List.forall_mem_cons.2 ⟨(yX ms.one), (List.forall_mem_cons.2 ⟨(yX mv.one), (fun _ h => by cases h)⟩)⟩) rfl) ⟨mw.reads, z2⟩ ?_
      refine dO (i := 24) (drOp0 (i := 24) rfl rfl rfl (zD rfl _) (xK (cs' := [f4, f5]) (us := [f4, f5]) (v := (.agg [f4, f5].toArray)) sz99 rfl rfl rfl (ones2 ms.one mv.one) z1.pins asy (Nat.le_of_ble_eq_true rfl) rfl (fun ax1 asz as0 ew ax2 => ?_)))
      have as1 := z1.write as0 ew ((yT zk))
      have as2 := ass.keptA ew zd.symm
      have as3 := ast.keptA ew ze.symm
      have as4 := asu.keptA ew zf.symm
      have as5 := asv.keptA ew zg.symm
      have as6 := mw.keptA ew zh.symm
      have as7 := asw.keptA ew zi.symm
      have as8 := asx.keptA ew zj.symm
      obtain ⟨as9, f6, ata, atb, f7⟩ := asz.shut as1 zk
      have atc := as2.moreA f6 f7 zd.symm
      have atd := as3.moreA f6 f7 ze.symm
      have ate := as4.moreA f6 f7 zf.symm
      have atf := as5.moreA f6 f7 zg.symm
      have atg := as6.moreA f7 zh.symm
      have ath := as7.moreA f7 zi.symm
      have ati := as8.moreA f7 zj.symm
      refine ⟨fun h => absurd rfl h, ?_⟩
      refine yK (by kernel_rfl) ?_
      exact xQ ⟨_, db, f4, f5, as9, (pS 12 (pS 11 (pS 10 (pS 9 (pS 8 (pS 7 (pS 6 (pS 5 (pS 4 (pS 1 (pU 0))))))))))), ata, (Pin.le_trans (Pin.le_trans (Pin.le_trans (Pin.le_trans (Pin.le_trans (Pin.le_trans a8.le gp) a9.le) ba.le) gq) bb.le) f6), (ms.mono (Pin.le_trans (Pin.le_trans (Pin.le_trans ba.le gq) bb.le) f6)), (mv.mono f6), atc, atd, ate, atf, atg, ath, ati, (atb.mono (Pin.le_refl _))⟩
   refine qW ?_
   refine qW ?_
   refine qW ?_
   refine qW ?_
   refine qW ?_
   refine qW ?_
   refine qW ?_
   refine qW ?_
   refine qW ?_
   refine qD rfl (xG (v := (.bool true)) rfl rfl) ?_
   refine qe (zA ?_)
   refine c_ifT rfl rfl ?_
   refine wp_exit ?_
   refine zX ?_
   refine yI ?_
   refine zA (zC ?_)
   refine qM (vJ (c : Int)) ?_
   refine qD rfl (yP rfl rfl (by omega)) ?_
   refine qM (vJ ((c : Int) + 1)) ?_
   refine qe ?_
   refine yG ?_
   refine ⟨_, ?_, _, rfl, _, c + 1, lv, ls, fv, fr, ai, (pS 11 (pS 10 (pS 9 (pS 8 (pS 7 (pS 6 (pS 5 (pS 4 (pS 1 (pU 0)))))))))), rfl, dm, gy, (by omega), (lv_skip hrl (fun g => by have := g.1; rw [j1] at this; cases this)), (by omega), hfb, hu, hv, e4, gf, gz, hw, hx, bk, gg⟩
   omega
  refine wp_exit ?_
  refine zX ?_
  refine yJ ?_
  refine yI ?_
  refine zA (zB (zC ?_))
  refine qM (vJ 0) ?_
  refine qe (zA ?_)
  refine zW ?_
  refine yL (fun (k : Nat) (en : Nat → Value) (W : World) => ∃ (ac : Nat → Value) (i4 : Nat) (ak : Value) (gr : List Int) (aj : Value) (bh : List Nd) (al : Pin), en = (upd (upd (upd (upd (upd (upd (upd (upd (upd (upd ac 0 (.pointer (some ⟨b, 0, none⟩))) 1 (vJ m)) 4 (.pointer (some ⟨f, 0, none⟩))) 5 aw) 6 ak) 7 (.pointer (some ⟨d, 0, none⟩))) 8 (vJ (q : Int))) 9 lv) 10 fv) 14 (vJ (i4 : Int))) ∧ k = ls.length - i4 ∧ Ext noS G w al W ∧ Pin.le ai al ∧ (i4 ≤ ls.length) ∧ (placeM ls fr ats outs = placeM (ls.drop i4) (fr.drop i4) gr bh) ∧ (gr.length = m.toNat + 1) ∧ (bh.length = outs.length + i4) ∧ (Own eInt 3 al W w.heap.size ak (gr)) ∧ (Own eNode 99 al W w.heap.size aj (bh)) ∧ (Own eNode 99 al W 0 bu (ns)) ∧ (Own eInt 3 al W 0 bv (bs)) ∧ (Bx al W b [bu, bv]) ∧ (Bx al W f [(.slice none 0 0)]) ∧ (Bx al W d [aj]) ∧ (Apart ak.ownBlock aj.ownBlock) ∧ (Apart ak.ownBlock bu.ownBlock) ∧ (Apart ak.ownBlock bv.ownBlock) ∧ (Apart ak.ownBlock (some b)) ∧ (Apart ak.ownBlock (some f)) ∧ (Apart ak.ownBlock (some d)) ∧ (Apart aj.ownBlock bu.ownBlock) ∧ (Apart aj.ownBlock bv.ownBlock) ∧ (Apart aj.ownBlock (some b)) ∧ (Apart aj.ownBlock (some f)) ∧ (Apart aj.ownBlock (some d))) _ ⟨_, 0, at_, ats, ov, outs, ai, (pS 14 (pS 10 (pS 9 (pS 8 (pS 7 (pS 6 (pS 5 (pS 4 (pS 1 (pU 0)))))))))), rfl, dm, Pin.le_refl _, Nat.zero_le _, rfl, hatl, rfl, hu, hv, e4, gf, gz, hw, hx, abx, aby, abz, ab0, ab1, ab2, ab3, ab4, ab5, n6, ab6⟩ ?_
  rintro ax3 _ hg ⟨ac, i4, ak, gr, aj, bh, al, rfl, ax4, hh, gs, hi4, hrp, z3, ax6, mx, my, z4, z5, z6, z7, z8, jk, mz, m0, m1, m2, jl, m3, m4, m5, m6, m7⟩
  refine zB (zB (zC ?_))
  refine qM (vJ (i4 : Int)) ?_
  refine qM lv ?_
  refine qD rfl (zM Tryz.underlying30 (v := lv) rfl bk) ?_
  refine qD rfl (yM rfl rfl) ?_
  refine qe (zA ?_)
  refine yD (p := ((i4 : Int) : Int) < (ls.length : Int)) rfl rfl (fun atj => ?_) (fun atj => ?_)
  ·skip
   have hf4 := hfb i4 (by omega)
   refine wp_skip ?_
   refine zA (zB ?_)
   refine zW ?_
   refine zB ?_
   have atk := Gadd.pins hh.pins aj
   have atl := Gadd.pins hh.pins ak
   have atm := my.read
   have atn := mx.read
   refine yU (S := fun wz => Pins al wz ∧ BxR wz d [aj] ∧ Pins (Gadd al hg aj) wz ∧ Pins (Gadd al hg ak) wz) (last := 9) (by kernel_rfl) rfl ?_
   have bi : Below hg.heap.size hg hg.drew := (Below.refl _ _).drew
   have ato := hh.pins.below bi
   have bj := hh.step ato bi
   have z9 := mx.below bi
   have atp := my.below bi
   have atq := z4.below bi
   have atr := z5.below bi
   have att := z6.below bi
   have atu := z7.below bi
   have b6 := z8.below bi
   have df := atk.below bi
   have dg := atl.below bi
   refine dT (i := 0) rfl rfl (by kernel_rfl) (fun _ _ => zU (v := ak) rfl) ⟨bj.pins, b6.reads, df, dg⟩ ?_
   refine dT (i := 1) rfl rfl (by kernel_rfl) (fun _ _ => zU (v := fv) rfl) ⟨bj.pins, b6.reads, df, dg⟩ ?_
   refine dT (i := 2) rfl rfl (by kernel_rfl) (fun _ _ => zU (v := (vJ (i4 : Int))) rfl) ⟨bj.pins, b6.reads, df, dg⟩ ?_
   refine dT (i := 3) rfl rfl (by kernel_rfl) (fun _ _ => zI Tryz.underlying65 sz3 (v := fv) rfl rfl gg (by omega) (by omega)) ⟨bj.pins, b6.reads, df, dg⟩ ?_
   refine dT (i := 4) rfl rfl (by kernel_rfl) (fun _ hS => zH (r := fr.getD i4 0) rfl ag3 (z := (i4 : Int)) rfl gg (Pins.of_le hS.1 gs) (by omega) (by omega)) ⟨bj.pins, b6.reads, df, dg⟩ ?_
   refine dT (i := 5) rfl rfl (by kernel_rfl) (fun _ _ => zN (k := 0) rfl Tryz.underlying32 rfl nz30 rfl) ⟨bj.pins, b6.reads, df, dg⟩ ?_
   refine dT (i := 6) rfl rfl (by kernel_rfl) (fun _ hS => zO (u := aj) ag30 rfl (hS.2.1 0 _ rfl)) ⟨bj.pins, b6.reads, df, dg⟩ ?_
   refine dT (i := 7) rfl rfl (by kernel_rfl) (fun _ _ => zM Tryz.underlying30 (v := aj) rfl atm) ⟨bj.pins, b6.reads, df, dg⟩ ?_
   refine dT (i := 8) rfl rfl (by kernel_rfl) (fun _ _ => zI Tryz.underlying65 sz3 (v := ak) rfl rfl atn (by omega) (by omega)) ⟨bj.pins, b6.reads, df, dg⟩ ?_
   refine dO (i := 9) (drOp0 (i := 9) rfl rfl rfl (zD rfl _) (o_set (E := eInt) (v := ak) (u := (vJ (bh.length : Int))) (z := (fr.getD i4 0)) ((bh.length : Int)) sz3 rfl rfl rfl rfl bj.pins z9 (by omega) (by omega) (fun m8 atv atw f8 ax8 => ?_)))
   have aaa := bj.write atw f8 ((yC z9))
   have atx := atp.keptA f8 jk.symm
   have aty := atq.keptA f8 mz.symm
   have atz := atr.keptA f8 m0.symm
   have at0 := att.keptA f8 m1.symm
   have at1 := atu.keptA f8 m2.symm
   have at3 := b6.keptA f8 jl.symm
   refine ⟨fun h => absurd rfl h, ?_⟩
   refine yK (by kernel_rfl) ?_
   refine zA ?_
   refine yU (S := fun wz => BxR wz d [aj] ∧ Pins al wz) (last := 9) (by kernel_rfl) rfl ?_
   have dh : Below m8.heap.size m8 m8.drew := (Below.refl _ _).drew
   have at4 := aaa.pins.below dh
   have di := aaa.step at4 dh
   have at5 := atv.below dh
   have at6 := atx.below dh
   have at7 := aty.below dh
   have at8 := atz.below dh
   have at9 := at0.below dh
   have aua := at1.below dh
   have f9 := at3.below dh
   refine dT (i := 0) rfl rfl (by kernel_rfl) (fun _ _ => zN (k := 0) rfl Tryz.underlying32 rfl nz30 rfl) ⟨f9.reads, di.pins⟩ ?_
   refine dT (i := 1) rfl rfl (by kernel_rfl) (fun _ hS => zO (u := aj) ag30 rfl (hS.1 0 _ rfl)) ⟨f9.reads, di.pins⟩ ?_
   refine dT (i := 2) rfl rfl (by kernel_rfl) (fun _ _ => zU (v := lv) rfl) ⟨f9.reads, di.pins⟩ ?_
   refine dT (i := 3) rfl rfl (by kernel_rfl) (fun _ _ => zU (v := (vJ (i4 : Int))) rfl) ⟨f9.reads, di.pins⟩ ?_
   refine dT (i := 4) rfl rfl (by kernel_rfl) (fun _ _ => zI Tryz.underlying30 sz99 (v := lv) rfl rfl bk (by omega) (by omega)) ⟨f9.reads, di.pins⟩ ?_
   obtain ⟨aub, auc, aab, aac, aud⟩ := qC (bk.at (z := (i4 : Int)) (by omega) (by omega)) (j := i4) rfl
   have ax9 := aab.max
   have aya := aac.max
   refine dT (i := 5) rfl rfl (by kernel_rfl) (fun _ hS => aud ag99 sz99 rfl (Pins.of_le hS.2 gs)) ⟨f9.reads, di.pins⟩ ?_
   refine dO (i := 6) (zR (i := 6) rfl rfl rfl (zD rfl _) (qB (E := eNode) (e := 99) [aub, auc] (⟨(ls.getD i4 default).l, (ls.getD i4 default).r⟩ : Nd) Tryz.underlying30 sz99 zr99 ⟨_, _, rfl, (aab.mono gs), (aac.mono gs)⟩ rfl (by decide) di.pins (fun aad aue auf aug ex ayb => ?_)))
   have jm := di.step aug ex
   have aae := at5.below ex
   have aaf := at6.below ex
   have aag := at7.below ex
   have aah := at8.below ex
   have aai := at9.below ex
   have aaj := aua.below ex
   have m9 := f9.below ex
   have auh : Own eNode 99 al aue w.heap.size aad ([(⟨(ls.getD i4 default).l, (ls.getD i4 default).r⟩ : Nd)]) := auf.weaken di.size
   refine ⟨fun _ => ⟨m9.reads, jm.pins⟩, ?_⟩
   refine dO (i := 7) (zR (i := 7) rfl rfl rfl (zD rfl _) (oA (E := eNode) (v := aj) (u := aad) 48 Tryz.underlying30 ap99 (by decide) rfl rfl jm.pins aaf auh.src (jm.size) (fun b7 ayc na aui ga gt => ?_)))
   have jn := jm.write aui ga ((yC aaf))
   have auj := aae.keptA ga jk
   have auk := aag.keptA ga m3.symm
   have aul := aah.keptA ga m4.symm
   have aum := aai.keptA ga m5.symm
   have aun := aaj.keptA ga m6.symm
   have nb := m9.keptA ga m7.symm
   have auo : Apart ak.ownBlock b7.ownBlock := zF jk gt aae.lt
   have aup : Apart bu.ownBlock b7.ownBlock := zF m3.symm gt aag.lt
   have auq : Apart bv.ownBlock b7.ownBlock := zF m4.symm gt aah.lt
   have aur : Apart (some b) b7.ownBlock := zJ m5.symm gt aai.lt
   have aus : Apart (some f) b7.ownBlock := zJ m6.symm gt aaj.lt
   have aak : Apart (some d) b7.ownBlock := zJ m7.symm gt m9.lt
   have ayd : (bh ++ ([(⟨(ls.getD i4 default).l, (ls.getD i4 default).r⟩ : Nd)])).length = bh.length + 1 := List.length_append
   refine ⟨fun _ => ⟨nb.reads, jn.pins⟩, ?_⟩
   refine dT (i := 8) rfl rfl (by kernel_rfl) (fun _ _ => zN (k := 0) rfl Tryz.underlying32 rfl nz30 rfl) ⟨nb.reads, jn.pins⟩ ?_
   refine dO (i := 9) (drOp0 (i := 9) rfl rfl rfl (zD rfl _) (xK (cs' := [b7]) (us := [b7]) (v := b7) sz30 rfl rfl (cells1 na.one) (xC na.one) jn.pins nb (Nat.le_of_ble_eq_true rfl) rfl (fun aye aut auu gb ayf => ?_)))
   have auw := jn.write auu gb ((yT n2))
   have aux := auj.keptA gb jl
   have auy := auk.keptA gb nw.symm
   have auz := aul.keptA gb nx.symm
   have au0 := na.keptA gb aak.symm
   have au1 := aum.keptA gb n0.symm
   have au2 := aun.keptA gb n1.symm
   refine ⟨fun h => absurd rfl h, ?_⟩
   refine yK (by kernel_rfl) ?_
   refine yH ?_
   refine zA (zC ?_)
   refine qM (vJ (i4 : Int)) ?_
   refine qD rfl (yP rfl rfl (by omega)) ?_
   refine qM (vJ ((i4 : Int) + 1)) ?_
   refine qe ?_
   refine yG ?_
   refine ⟨_, ?_, _, rfl, _, i4 + 1, ak, (gr).set (fr.getD i4 0).toNat (bh.length : Int), b7, bh ++ ([(⟨(ls.getD i4 default).l, (ls.getD i4 default).r⟩ : Nd)]), al, (pS 14 (pS 10 (pS 9 (pS 8 (pS 7 (pS 6 (pS 5 (pS 4 (pS 1 (pU 0)))))))))), rfl, auw, gs, (by omega), (hrp.trans (place_next (by omega) (by omega))), ((List.length_set ..).trans z3), (by simp; omega), aux, au0, auy, auz, au1, au2, aut, auo, mz, m0, m1, m2, jl, aup.symm, auq.symm, aur.symm, aus.symm, aak.symm⟩
   omega
  refine wp_exit ?_
  refine zX ?_
  refine yJ ?_
  refine yI ?_
  refine yH ?_
  refine zA (zC ?_)
  refine qM (vJ (q : Int)) ?_
  refine qD rfl (yP rfl rfl (by omega)) ?_
  refine qM (vJ ((q : Int) + 1)) ?_
  refine qe ?_
  refine yG ?_
  refine ⟨_, ?_, _, rfl, _, q + 1, ak, gr, aj, bh, al, (pS 8 (pS 7 (pS 6 (pS 5 (pS 4 (pS 1 (pU 0))))))), rfl, hh, (Pin.le_trans (Pin.le_trans (Pin.le_trans (Pin.le_trans n3 e1) e2) gy) gs), (by omega), (form_step hr (by rw [show m.toNat + 1 = c by omega]; exact hrl) (hrp.trans (place_end (by omega)))), z3, (by omega), mx, my, z4, z5, z6, z7, z8, jk, mz, m0, m1, m2, jl, m3, m4, m5, m6, m7⟩
  omega
 refine wp_exit ?_
 refine zX ?_
 refine yJ ?_
 refine yI ?_
 refine zA (zB (zC ?_))
 refine qD rfl (yQ (cs := [ov]) ag32 sz32 rfl (fun j u hj => jz.cell (by simpa using hj))) ?_
 refine q0 rfl rfl rfl (xK (cs' := [ov]) (us := [ov]) (v := (.agg [ov].toArray)) sz32 rfl rfl rfl (xC hp.one) ge.pins jy (Nat.le_of_ble_eq_true rfl) rfl (fun ayg au3 au4 aal ayh => ?_))
 have au5 := ge.write au4 aal ((yT aan))
 have au6 := hp.keptA aal n6
 refine qe (zA ?_)
 refine wp_ret ?_
 refine zT ?_
 refine c_retc (cs := [ov]) rfl rfl rfl ag32 sz32 (fun j u hj => by rw [Nat.zero_add]; exact au3.cell hj) ?_
 obtain ⟨ayi, ayj, au7, au8, ayk⟩ := au6.sealed au5
 exact ⟨_, _, rfl, (by rw [form_done hr (by omega)]; exact au8), au7⟩

theorem l3Good_spec {w : World} {G : Pin} {v : Value} {ns : List Nd} (hP : Pins G w) (hv : RSl eNode G v ns) :
  Calls Tryz.prog 47 [(.agg [v].toArray)].toArray w fun e w' => ∃ G', e = .returned (.bool (decP (GoodS ns))) ∧ Ext noS G w G' w' := by
 refine zZ (n := 46) Tryz.func47 Tryz.ntmps47 rfl rfl ?_
 have ae : Ext noS G w G w := Ext.refl hP
 have hm := hv.max
 refine zB (zC ?_)
 refine qI rfl (xM [v] (v := (.agg [v].toArray)) rfl rfl ae.pins (fun b1 w2 bq az a0 a1 => ?_))
 have a2 := ae.step a0 a1
 have a3 : w.heap.size ≤ b1 := by have := ae.size; omega
 obtain ⟨G9, f, af, o, bs⟩ := az.shut a2 a3
 refine qM (.bool false) ?_
 refine qe (zA (zB (zB (zC ?_))))
 refine qD rfl (yQ (cs := [v]) ag32 sz32 rfl (fun j u hj => af.pins _ _ _ (o _ _ (by simpa using hj)))) ?_
 refine qI rfl (zL (vs := [(.agg [v].toArray)]) Tryz.func88 nm88 rfl rfl rfl ?_)
 refine Calls.mono (l3Fits_spec af.pins (hv.mono f)) ?_
 rintro _ bt ⟨ao, rfl, a⟩
 refine ⟨_, rfl, ?_⟩
 have ap := af.tr a
 refine qD rfl (xR rfl) ?_
 refine qe (zA ?_)
 refine c_ifn rfl rfl (fun ab => ?_) (fun ab => ?_)
 ·skip
  refine wp_skip ?_
  refine zA (zB (zB (zC ?_)))
  refine qM (vJ 0) ?_
  refine qe (zA ?_)
  refine zW ?_
  have hfit := decP_true.1 ab
  refine yL (fun (k : Nat) (en : Nat → Value) (W : World) => ∃ (aq : Nat → Value) (j : Nat) (x : Pin), en = (upd (upd aq 1 (.pointer (some ⟨b1, 0, none⟩))) 3 (vJ (j : Int))) ∧ k = ns.length - j ∧ Ext noS G w x W ∧ Pin.le ao x ∧ (j ≤ ns.length) ∧ (∀ i, i < j → Rise (ns.getD i default).l 0 ((i : Int) - 1) ∧ Rise (ns.getD i default).r 0 ((i : Int) - 1))) _ ⟨_, 0, ao, (pS 3 (pU 1)), rfl, ap, Pin.le_refl _, Nat.zero_le _, (fun i hi => absurd hi (Nat.not_lt_zero i))⟩ ?_
  rintro bu _ bv ⟨aq, j, x, rfl, bw, c, b, hj, hp⟩
  refine zB (zB (zC ?_))
  refine qM (vJ (j : Int)) ?_
  refine qD rfl (zN (k := 0) rfl Tryz.underlying32 rfl nz30 rfl) ?_
  refine qD rfl (zO (u := v) ag30 rfl ((Pins.of_le c.pins (Pin.le_trans a.le b)) _ _ _ (o 0 _ rfl))) ?_
  refine qD rfl (zM Tryz.underlying30 (v := v) rfl hv) ?_
  refine qD rfl (yM rfl rfl) ?_
  refine qe (zA ?_)
  refine yD (p := ((j : Int) : Int) < (ns.length : Int)) rfl rfl (fun a4 => ?_) (fun a4 => ?_)
  ·skip
   refine wp_skip ?_
   refine zA (zB ?_)
   refine zW ?_
   refine zB (zC ?_)
   refine qD rfl (zN (k := 0) rfl Tryz.underlying32 rfl nz30 rfl) ?_
   refine qD rfl (zO (u := v) ag30 rfl ((Pins.of_le c.pins (Pin.le_trans a.le b)) _ _ _ (o 0 _ rfl))) ?_
   refine qM (vJ (j : Int)) ?_
   refine qD rfl (zI Tryz.underlying30 sz99 (v := v) rfl rfl hv (by omega) (by omega)) ?_
   refine qD rfl (xI (off := 0) Tryz.underlying99 rfl rfl nz65 (z := (j : Int)) (k := 0) rfl hv (by omega) (by omega)) ?_
   obtain ⟨a5, ar, a6⟩ := nm_nl (hv.at (z := (j : Int)) (by omega) (by omega)) (j := j) rfl
   have bz := ar.max
   refine qD rfl (a6 ag65 rfl (Pins.of_le c.pins (Pin.le_trans (Pin.le_trans f a.le) b))) ?_
   refine qM (vJ (j : Int)) ?_
   refine qD rfl (r_sub rfl rfl (by omega)) ?_
   refine qI rfl (zL (vs := [a5, (vJ 0), (vJ ((j : Int) - 1))]) Tryz.func89 nm89 rfl rfl rfl ?_)
   refine Calls.mono (l1Rising_spec c.pins (ar.mono (Pin.le_trans (Pin.le_trans f a.le) b))) ?_
   rintro _ b0 ⟨rfl, au⟩
   refine ⟨_, rfl, ?_⟩
   have y := c.step au.pins au.below
   refine qD rfl (xR rfl) ?_
   refine qM (.bool (!(decP (Rise ((ns.getD j default).l) 0 ((j : Int) - 1))))) ?_
   refine qbn (t := 25) rfl (fun ac => ?_) (fun ac => ?_)
   ·skip
    refine qN (zN (k := 0) rfl Tryz.underlying32 rfl nz30 rfl) ?_
    refine qN (zO (u := v) ag30 rfl ((Pins.of_le y.pins (Pin.le_trans a.le b)) _ _ _ (o 0 _ rfl))) ?_
    refine qN (zU (v := (vJ (j : Int))) rfl) ?_
    refine qN (zI Tryz.underlying30 sz99 (v := v) rfl rfl hv (by omega) (by omega)) ?_
    refine qN (xI (off := 1) Tryz.underlying99 rfl rfl nz65 (z := (j : Int)) (k := 0) rfl hv (by omega) (by omega)) ?_
    obtain ⟨a7, av, a8⟩ := nm_nr (hv.at (z := (j : Int)) (by omega) (by omega)) (j := j) rfl
    have b2 := av.max
    refine qN (a8 ag65 rfl (Pins.of_le y.pins (Pin.le_trans (Pin.le_trans f a.le) b))) ?_
    refine qN (zU (v := (vJ (j : Int))) rfl) ?_
    refine qN (r_sub rfl rfl (by omega)) ?_
    refine q1g rfl rfl rfl rfl rfl rfl (zL (vs := [a7, (vJ 0), (vJ ((j : Int) - 1))]) Tryz.func89 nm89 rfl rfl rfl ?_)
    refine Calls.mono (l1Rising_spec y.pins (av.mono (Pin.le_trans (Pin.le_trans f a.le) b))) ?_
    rintro _ b3 ⟨rfl, aw⟩
    refine ⟨_, rfl, ?_⟩
    have ax := y.step aw.pins aw.below
    refine qN (xR rfl) ?_
    refine qD rfl (xB (v := (.bool (!(decP (Rise ((ns.getD j default).r) 0 ((j : Int) - 1)))))) rfl rfl) ?_
    refine qe (zA ?_)
    refine c_ifn rfl rfl (fun ad => ?_) (fun ad => ?_)
    ·skip
     refine wp_skip ?_
     refine yH ?_
     refine zA (zC ?_)
     refine qM (vJ (j : Int)) ?_
     refine qD rfl (yP rfl rfl (by omega)) ?_
     refine qM (vJ ((j : Int) + 1)) ?_
     refine qe ?_
     refine yG ?_
     refine ⟨_, ?_, _, rfl, _, j + 1, x, (pS 3 (pU 1)), rfl, ax, b, (by omega), (fun k hk => if h3 : k = j then h3 ▸ ⟨decP_true.1 ac, decP_true.1 ad⟩ else hp k (by omega))⟩
     omega
    refine zB (zC ?_)
    refine qM (.bool false) ?_
    refine qe (zA ?_)
    refine wp_ret ?_
    refine zT ?_
    refine zP (v := (.bool false)) rfl rfl rfl ?_
    exact ⟨_, congrArg (fun z => Ending.returned (Value.bool z)) (decP_false.2 (fun g => by rw [decP_true.2 (g.rise j (by omega)).2] at ad; cases ad)).symm, ax⟩
   refine qW ?_
   refine qW ?_
   refine qW ?_
   refine qW ?_
   refine qW ?_
   refine qW ?_
   refine qW ?_
   refine qW ?_
   refine qW ?_
   refine qW ?_
   refine qD rfl (xG (v := (.bool true)) rfl rfl) ?_
   refine qe (zA ?_)
   refine c_ifT rfl rfl ?_
   refine zB (zC ?_)
   refine qM (.bool false) ?_
   refine qe (zA ?_)
   refine wp_ret ?_
   refine zT ?_
   refine zP (v := (.bool false)) rfl rfl rfl ?_
   exact ⟨_, congrArg (fun z => Ending.returned (Value.bool z)) (decP_false.2 (fun g => by rw [decP_true.2 (g.rise j (by omega)).1] at ac; cases ac)).symm, y⟩
  refine wp_exit ?_
  refine zX ?_
  refine yJ ?_
  refine yI ?_
  refine zA (zB (zC ?_))
  have hrise : ∀ i, i < ns.length → Rise (ns.getD i default).l 0 ((i : Int) - 1) ∧ Rise (ns.getD i default).r 0 ((i : Int) - 1) := fun i hi => hp i (by omega)
  have hfok := formOk_of hfit hrise
  have hlim := hfit.lim
  have hao := addM_all qF hfok (by simp; omega)
  refine qD rfl (xX [(.slice none 0 0), (.slice none 0 0)] [(.slice none 0 0), (.slice none 0 0)] [] Tryz.underlying102 zr102 rfl pl102 rfl (fun _ h => by cases h) rfl) ?_
  refine qI rfl (xM [(.slice none 0 0), (.slice none 0 0)] (v := (.agg [(.slice none 0 0), (.slice none 0 0)].toArray)) rfl rfl c.pins (fun m ag b4 a9 ba bb => ?_))
  have ay := c.step ba bb
  have bc : w.heap.size ≤ m := by have := c.size; omega
  refine qM (.pointer (some ⟨m, 0, none⟩)) ?_
  refine qe (zA (zB ?_))
  refine yU (S := fun wz => Pins x wz) (last := 8) (by kernel_rfl) rfl ?_
  have ah : Below ag.heap.size ag ag.drew := (Below.refl _ _).drew
  have bd := ay.pins.below ah
  have d := ay.step bd ah
  have be := a9.below ah
  refine dM 0 (.pointer (some ⟨m, 0, none⟩)) d.pins ?_
  refine dM 1 (.pointer (some ⟨m, 0, none⟩)) d.pins ?_
  refine dT (i := 2) rfl rfl (by kernel_rfl) (fun _ hS => yQ (cs := [v]) ag32 sz32 rfl (fun j u hj => (Pins.of_le hS (Pin.le_trans a.le b)) _ _ _ (o _ _ (by simpa using hj)))) d.pins ?_
  refine dT (i := 5) rfl rfl (by kernel_rfl) (fun _ hS => yQ (cs := [v]) ag32 sz32 rfl (fun j u hj => (Pins.of_le hS (Pin.le_trans a.le b)) _ _ _ (o _ _ (by simpa using hj)))) d.pins ?_
  refine dO (i := 3) (zR (i := 3) rfl rfl rfl (zD rfl _) (zL (vs := [(.pointer (some ⟨m, 0, none⟩)), (.agg [v].toArray)]) Tryz.func91 nm91 rfl rfl rfl ?_))
  refine Calls.mono (root_spec d.pins ⟨be, (Own.nil _ _ _ _ _), (Own.nil _ _ _ _ _), apart_none.symm, apart_none.symm, apart_none⟩ qF (hv.mono (Pin.le_trans (Pin.le_trans f a.le) b)) ⟨hfok, hlim.1⟩ (by first | omega | (simp; omega))) ?_
  rintro _ b5 ⟨b6, b7, b8, rfl, q, s, bf, bg⟩
  refine ⟨_, rfl, ?_⟩
  have ai : ∀ i, inS m (.slice none 0 0) (.slice none 0 0) i → w.heap.size ≤ i ∨ noS i := inS_lo (yT bc) (lo_none _ _) (lo_none _ _)
  have aj := d.trans s ai
  have bh := q.bx
  have bi := q.ou
  have bj := q.ov
  have bk := q.abu
  have bl := q.abv
  have bm := q.auv
  have b9 := xS bf ai d.size
  have ca := xS bg ai d.size
  refine ⟨fun _ => (Pins.of_le aj.pins s.le), ?_⟩
  refine dO (i := 4) (zR (i := 4) rfl rfl rfl (zD rfl _) (zL (vs := [(.pointer (some ⟨m, 0, none⟩)), (vJ (rootM ([]) ([]) ns))]) Tryz.func90 nm90 rfl rfl rfl ?_))
  refine Calls.mono (form_spec aj.pins ⟨bh, bi, bj, bk, bl, bm⟩ hao.book (root_lt hao hlim.1)) ?_
  rintro _ cb ⟨bn, cc, rfl, bo, aa⟩
  refine ⟨_, rfl, ?_⟩
  have ak := aj.tr aa
  refine ⟨fun _ => (Pins.of_le ak.pins (Pin.le_trans s.le aa.le)), ?_⟩
  refine dO (i := 6) (zR (i := 6) rfl rfl rfl (zD rfl _) (zL (vs := [(.agg [bn].toArray), (.agg [v].toArray)]) Tryz.func65 nm65 rfl rfl rfl ?_))
  refine Calls.mono (l3Same_spec ak.pins bo (hv.mono (Pin.le_trans (Pin.le_trans (Pin.le_trans (Pin.le_trans f a.le) b) s.le) aa.le))) ?_
  rintro _ cd ⟨ce, rfl, al⟩
  refine ⟨_, rfl, ?_⟩
  have am := ak.tr al
  refine ⟨fun _ => (Pins.of_le am.pins (Pin.le_trans (Pin.le_trans s.le aa.le) al.le)), ?_⟩
  refine dM 7 (.bool (decide ((formM ((addM ([]) ([]) ns).2.1) ((addM ([]) ([]) ns).2.2) (rootM ([]) ([]) ns).toNat) = ns))) (Pins.of_le am.pins (Pin.le_trans (Pin.le_trans s.le aa.le) al.le)) ?_
  refine yK (by kernel_rfl) ?_
  refine zA ?_
  refine wp_ret ?_
  refine zT ?_
  refine zP (v := (.bool (decide ((formM ((addM ([]) ([]) ns).2.1) ((addM ([]) ([]) ns).2.2) (rootM ([]) ([]) ns).toNat) = ns)))) rfl rfl rfl ?_
  exact ⟨_, congrArg (fun z => Ending.returned (Value.bool z)) (decP_dec.symm.trans (decP_iff ⟨fun h => ⟨hfit, hrise, h⟩, fun h => h.same⟩)), am⟩
 refine zB (zC ?_)
 refine qM (.bool false) ?_
 refine qe (zA ?_)
 refine wp_ret ?_
 refine zT ?_
 refine zP (v := (.bool false)) rfl rfl rfl ?_
 exact ⟨_, congrArg (fun z => Ending.returned (Value.bool z)) (decP_false.2 (fun g => by rw [decP_true.2 g.fits] at ab; cases ab)).symm, ap⟩

end E1
end Go.Proofs.YtfnginkcmcfdfaaGreatDoor

set_option maxRecDepth 20000
set_option maxHeartbeats 2000000
namespace Go.Proofs.YtfnginkcmcfdfaaGreatDoor
namespace L1
open Go.RowKit Go.GL Go.Proofs







theorem mk3 : (Tryz.prog.info? 3).map (fun i => (i.size, i.bytes, i.zero)) = some (1, 8, some (.int .i64 0)) := by kernel_rfl
theorem mk99 : (Tryz.prog.info? 99).map (fun i => (i.size, i.bytes, i.zero)) = some (2, 48, some (.agg #[(.slice none 0 0), (.slice none 0 0)])) := by kernel_rfl




















theorem szIntS_spec {w : World} {G : Pin} {v : Value} {xs : List Int} {left : Int} (hP : Pins G w) (hv : RSl eInt G v xs) (hl : 0 ≤ left ∧ left ≤ 1048576) :
  Calls Tryz.prog 133 [v, (.int .i64 left)].toArray w fun e w' => e = .returned (.int .i64 (szInts xs left)) ∧ w' = w := by
 refine zZ (n := 12) Tryz.func133 Tryz.ntmps133 rfl rfl ?_
 have hX0 : Ext noS G w G w := Ext.refl hP
 have hm := hv.max
 refine zB (zC ?_)
 refine qM (.int .i64 0) ?_
 refine qe (zA (zB (zC ?_)))
 refine qM (.int .i64 left) ?_
 refine qM v ?_
 refine qD rfl (zM Tryz.underlying65 (v := v) rfl hv) ?_
 refine qD rfl (r_sub rfl rfl (by omega)) ?_
 refine qM (.int .i64 (left - (xs.length : Int))) ?_
 refine qe (zA (zB (zB (zC ?_))))
 refine qM (.int .i64 (left - (xs.length : Int))) ?_
 refine qD rfl (yM rfl rfl) ?_
 refine qe (zA ?_)
 refine yD (p := (left - (xs.length : Int) : Int) < 0) rfl rfl (fun h1 => ?_) (fun h1 => ?_)
 ·skip
  refine zB (zC ?_)
  refine qM (.int .i64 (-1)) ?_
  refine qe (zA ?_)
  refine wp_ret ?_
  refine zT ?_
  refine zP (v := (.int .i64 (-1))) rfl rfl rfl ?_
  exact ⟨congrArg (fun z => Ending.returned (Value.int .i64 z)) (by unfold szInts; split <;> omega), rfl⟩
 refine wp_skip ?_
 refine zA (zB (zC ?_))
 refine qM (.int .i64 (left - (xs.length : Int))) ?_
 refine qM (.int .i64 (left - (xs.length : Int))) ?_
 refine qe (zA ?_)
 refine wp_ret ?_
 refine zT ?_
 refine zP (v := (.int .i64 (left - (xs.length : Int)))) rfl rfl rfl ?_
 exact ⟨congrArg (fun z => Ending.returned (Value.int .i64 z)) (by unfold szInts; split <;> omega), rfl⟩

theorem szNode_spec {w : World} {G : Pin} {u v : Value} {n : Nd} {left : Int} (hP : Pins G w) (hu : RSl eInt G u n.l) (hv : RSl eInt G v n.r) (hl : 0 ≤ left ∧ left ≤ 1048576) :
  Calls Tryz.prog 87 [(.agg [u, v].toArray), (vJ left)].toArray w fun e w' => ∃ G', e = .returned (vJ (szNd n left)) ∧ Ext noS G w G' w' := by
 refine zZ (n := 18) Tryz.func87 Tryz.ntmps87 rfl rfl ?_
 have c : Ext noS G w G w := Ext.refl hP
 refine zB (zC ?_)
 refine qI rfl (xM [u, v] (v := (.agg [u, v].toArray)) rfl rfl c.pins (fun h s t i j m => ?_))
 have o := c.step j m
 have q : w.heap.size ≤ h := by have := c.size; omega
 obtain ⟨x, f, a, g, y⟩ := i.shut o q
 refine qM (vJ 0) ?_
 refine qe (zA (zB (zC ?_)))
 refine qD rfl (zN (k := 0) rfl Tryz.underlying97 rfl nz65 rfl) ?_
 refine qD rfl (zO (u := u) ag65 rfl (a.pins _ _ _ (g 0 _ rfl))) ?_
 refine qM (vJ left) ?_
 refine qI rfl (zL (vs := [u, (vJ left)]) Tryz.func133 nm133 rfl rfl rfl ?_)
 refine Calls.mono (szIntS_spec a.pins (hu.mono f) (by omega)) ?_
 rintro _ _ ⟨rfl, rfl⟩
 refine ⟨_, rfl, ?_⟩
 refine qM (vJ (szInts n.l left)) ?_
 refine qe (zA (zB (zB (zC ?_))))
 refine qM (vJ (szInts n.l left)) ?_
 refine qD rfl (yM rfl rfl) ?_
 refine qe (zA ?_)
 refine yD (p := (szInts n.l left : Int) < 0) rfl rfl (fun b => ?_) (fun b => ?_)
 ·skip
  refine zB (zC ?_)
  refine qM (vJ (-1)) ?_
  refine qe (zA ?_)
  refine wp_ret ?_
  refine zT ?_
  refine zP (v := (vJ (-1))) rfl rfl rfl ?_
  exact ⟨_, congrArg (fun z => Ending.returned (Value.int .i64 z)) (by unfold szNd; rw [if_pos b]), a⟩
 refine wp_skip ?_
 refine zA (zB (zC ?_))
 refine qD rfl (zN (k := 1) rfl Tryz.underlying97 rfl nz65 rfl) ?_
 refine qD rfl (zO (u := v) ag65 rfl (a.pins _ _ _ (g 1 _ rfl))) ?_
 refine qM (vJ (szInts n.l left)) ?_
 have hq := szInts_ok b hl
 refine qI rfl (zL (vs := [v, (vJ (szInts n.l left))]) Tryz.func133 nm133 rfl rfl rfl ?_)
 refine Calls.mono (szIntS_spec a.pins (hv.mono f) (by omega)) ?_
 rintro _ _ ⟨rfl, rfl⟩
 refine ⟨_, rfl, ?_⟩
 refine qM (vJ (szInts n.r (szInts n.l left))) ?_
 refine qe (zA (zB (zB (zC ?_))))
 refine qM (vJ (szInts n.r (szInts n.l left))) ?_
 refine qD rfl (yM rfl rfl) ?_
 refine qe (zA ?_)
 refine yD (p := (szInts n.r (szInts n.l left) : Int) < 0) rfl rfl (fun d => ?_) (fun d => ?_)
 ·skip
  refine zB (zC ?_)
  refine qM (vJ (-1)) ?_
  refine qe (zA ?_)
  refine wp_ret ?_
  refine zT ?_
  refine zP (v := (vJ (-1))) rfl rfl rfl ?_
  exact ⟨_, congrArg (fun z => Ending.returned (Value.int .i64 z)) (by unfold szNd; rw [if_neg b, if_pos d]), a⟩
 refine wp_skip ?_
 refine zA (zB (zC ?_))
 refine qM (vJ (szInts n.r (szInts n.l left))) ?_
 refine qM (vJ (szInts n.r (szInts n.l left))) ?_
 refine qe (zA ?_)
 refine wp_ret ?_
 refine zT ?_
 refine zP (v := (vJ (szInts n.r (szInts n.l left)))) rfl rfl rfl ?_
 exact ⟨_, congrArg (fun z => Ending.returned (Value.int .i64 z)) (by unfold szNd; rw [if_neg b, if_neg d]), a⟩

theorem szNodeS_spec {w : World} {G : Pin} {v : Value} {ns : List Nd} {left : Int} (hP : Pins G w) (hv : RSl eNode G v ns) (hl : 0 ≤ left ∧ left ≤ 1048576) :
  Calls Tryz.prog 46 [v, (vJ left)].toArray w fun e w' => ∃ G', e = .returned (vJ (szNds ns left)) ∧ Ext noS G w G' w' := by
 refine zZ (n := 27) Tryz.func46 Tryz.ntmps46 rfl rfl ?_
 have g : Ext noS G w G w := Ext.refl hP
 have hm := hv.max
 refine zB (zC ?_)
 refine qM (vJ 0) ?_
 refine qe (zA (zB (zC ?_)))
 refine qM (vJ left) ?_
 refine qM v ?_
 refine qD rfl (zM Tryz.underlying22 (v := v) rfl hv) ?_
 refine qD rfl (r_sub rfl rfl (by omega)) ?_
 refine qM (vJ (left - (ns.length : Int))) ?_
 refine qe (zA (zB (zB (zC ?_))))
 refine qM (vJ (left - (ns.length : Int))) ?_
 refine qD rfl (yM rfl rfl) ?_
 refine qe (zA ?_)
 refine yD (p := (left - (ns.length : Int) : Int) < 0) rfl rfl (fun a => ?_) (fun a => ?_)
 ·skip
  refine zB (zC ?_)
  refine qM (vJ (-1)) ?_
  refine qe (zA ?_)
  refine wp_ret ?_
  refine zT ?_
  refine zP (v := (vJ (-1))) rfl rfl rfl ?_
  exact ⟨_, congrArg (fun z => Ending.returned (Value.int .i64 z)) (by unfold szNds; rw [if_pos a]), g⟩
 refine wp_skip ?_
 refine zA (zB (zB (zC ?_)))
 refine qM (vJ 0) ?_
 refine qe (zA ?_)
 refine zW ?_
 refine yL (fun (k : Nat) (en : Nat → Value) (W : World) => ∃ (h : Nat → Value) (j : Nat) (q : Int) (f : Pin), en = (upd (upd (upd h 0 v) 1 (vJ q)) 5 (vJ (j : Int))) ∧ k = ns.length - j ∧ Ext noS G w f W ∧ Pin.le G f ∧ (j ≤ ns.length) ∧ (0 ≤ q ∧ q ≤ 1048576) ∧ (szGo ns (left - ns.length) = szGo (ns.drop j) q)) _ ⟨_, 0, left - (ns.length : Int), G, (pS 5 (pS 1 (pU 0))), rfl, g, Pin.le_refl _, Nat.zero_le _, (by omega), rfl⟩ ?_
 rintro k2 _ w3 ⟨h, j, q, f, rfl, ad, b, c, hj, hq, hr⟩
 refine zB (zB (zC ?_))
 refine qM (vJ (j : Int)) ?_
 refine qM v ?_
 refine qD rfl (zM Tryz.underlying22 (v := v) rfl hv) ?_
 refine qD rfl (yM rfl rfl) ?_
 refine qe (zA ?_)
 refine yD (p := ((j : Int) : Int) < (ns.length : Int)) rfl rfl (fun t => ?_) (fun t => ?_)
 ·skip
  refine wp_skip ?_
  refine zA (zB ?_)
  refine zW ?_
  refine zB (zC ?_)
  refine qM v ?_
  refine qM (vJ (j : Int)) ?_
  refine qD rfl (zI Tryz.underlying22 sz97 (v := v) rfl rfl hv (by omega) (by omega)) ?_
  obtain ⟨u, x, i, m, y⟩ := qC (hv.at (z := (j : Int)) (by omega) (by omega)) (j := j) rfl
  have ae := i.max
  have af := m.max
  refine qD rfl (y ag97 sz97 rfl (Pins.of_le b.pins c)) ?_
  refine qM (vJ q) ?_
  refine qI rfl (zL (vs := [(.agg [u, x].toArray), (vJ q)]) Tryz.func87 nm87 rfl rfl rfl ?_)
  refine Calls.mono (szNode_spec (n := ⟨(ns.getD j default).l, (ns.getD j default).r⟩) b.pins (i.mono c) (m.mono c) (by omega)) ?_
  rintro _ ag ⟨aa, rfl, o⟩
  refine ⟨_, rfl, ?_⟩
  have s := b.tr o
  refine qM (vJ (szNd ⟨(ns.getD j default).l, (ns.getD j default).r⟩ q)) ?_
  refine qe (zA (zB (zC ?_)))
  refine qM (vJ (szNd ⟨(ns.getD j default).l, (ns.getD j default).r⟩ q)) ?_
  refine qD rfl (yM rfl rfl) ?_
  refine qe (zA ?_)
  refine yD (p := (szNd ⟨(ns.getD j default).l, (ns.getD j default).r⟩ q : Int) < 0) rfl rfl (fun d => ?_) (fun d => ?_)
  ·skip
   refine zB (zC ?_)
   refine qM (vJ (-1)) ?_
   refine qe (zA ?_)
   refine wp_ret ?_
   refine zT ?_
   refine zP (v := (vJ (-1))) rfl rfl rfl ?_
   exact ⟨_, congrArg (fun z => Ending.returned (Value.int .i64 z)) (by unfold szNds; rw [if_neg a]; exact (hr.trans (szGo_stop (by omega) d)).symm), s⟩
  refine wp_skip ?_
  refine yH ?_
  refine zA (zC ?_)
  refine qM (vJ (j : Int)) ?_
  refine qD rfl (yP rfl rfl (by omega)) ?_
  refine qM (vJ ((j : Int) + 1)) ?_
  refine qe ?_
  refine yG ?_
  have hz := szNd_ok d
  refine ⟨_, ?_, _, rfl, _, j + 1, szNd ⟨(ns.getD j default).l, (ns.getD j default).r⟩ q, aa, (pS 5 (pS 1 (pU 0))), rfl, s, (Pin.le_trans c o.le), (by omega), (by have a := hz.1; have h2 := hz.2.1; exact ⟨a, by omega⟩), (hr.trans (szGo_next (by omega) d))⟩
  omega
 refine wp_exit ?_
 refine zX ?_
 refine yJ ?_
 refine yI ?_
 refine zA (zB (zC ?_))
 refine qM (vJ q) ?_
 refine qM (vJ q) ?_
 refine qe (zA ?_)
 refine wp_ret ?_
 refine zT ?_
 refine zP (v := (vJ q)) rfl rfl rfl ?_
 exact ⟨_, congrArg (fun z => Ending.returned (Value.int .i64 z)) (by unfold szNds; rw [if_neg a]; exact (hr.trans (szGo_end (by omega))).symm), b⟩

theorem szForm_spec {w : World} {G : Pin} {v : Value} {ns : List Nd} {left : Int} (hP : Pins G w) (hv : RSl eNode G v ns) (hl : 0 ≤ left ∧ left ≤ 1048576) :
  Calls Tryz.prog 15 [(.agg [v].toArray), (.int .i64 left)].toArray w fun e w' => ∃ z G', e = .returned (.int .i64 z) ∧ (z < 0 ∧ szNds ns left < 0 ∨ 0 ≤ z ∧ z ≤ left ∧ ¬ szNds ns left < 0) ∧ Ext noS G w G' w' := by
 refine zZ (n := 12) Tryz.func15 Tryz.ntmps15 rfl rfl ?_
 have a : Ext noS G w G w := Ext.refl hP
 refine zB (zC ?_)
 refine qI rfl (xM [v] (v := (.agg [v].toArray)) rfl rfl a.pins (fun d r s f g h => ?_))
 have i := a.step g h
 have j : w.heap.size ≤ d := by have := a.size; omega
 obtain ⟨t, l, b, m, x⟩ := f.shut i j
 refine qM (.int .i64 0) ?_
 refine qe (zA (zB (zC ?_)))
 refine qD rfl (zN (k := 0) rfl Tryz.underlying24 rfl nz22 rfl) ?_
 refine qD rfl (zO (u := v) ag22 rfl (b.pins _ _ _ (m 0 _ rfl))) ?_
 refine qM (.int .i64 left) ?_
 refine qI rfl (zL (vs := [v, (.int .i64 left)]) Tryz.func46 nm46 rfl rfl rfl ?_)
 refine Calls.mono (szNodeS_spec b.pins (hv.mono l) (by omega)) ?_
 rintro _ y ⟨aa, rfl, o⟩
 refine ⟨_, rfl, ?_⟩
 have c := b.tr o
 refine qM (.int .i64 (szNds ns left)) ?_
 refine qe (zA (zB (zB (zC ?_))))
 refine qM (.int .i64 (szNds ns left)) ?_
 refine qD rfl (yM rfl rfl) ?_
 refine qe (zA ?_)
 refine yD (p := (szNds ns left : Int) < 0) rfl rfl (fun q => ?_) (fun q => ?_)
 ·skip
  refine zB (zC ?_)
  refine qM (.int .i64 (-1)) ?_
  refine qe (zA ?_)
  refine wp_ret ?_
  refine zT ?_
  refine zP (v := (.int .i64 (-1))) rfl rfl rfl ?_
  have hzl := @szNds_le ns left
  exact ⟨_, _, rfl, by omega, c⟩
 refine wp_skip ?_
 refine zA (zB (zC ?_))
 refine qM (.int .i64 (szNds ns left)) ?_
 refine qM (.int .i64 (szNds ns left)) ?_
 refine qe (zA ?_)
 refine wp_ret ?_
 refine zT ?_
 refine zP (v := (.int .i64 (szNds ns left))) rfl rfl rfl ?_
 have hzl := @szNds_le ns left
 exact ⟨_, _, rfl, by omega, c⟩

theorem toIntS_spec {w : World} {G : Pin} {v : Value} {xs : List Int} (hP : Pins G w) (hv : RSl eInt G v xs) (hs : xs.length ≤ 1048576) :
  Calls Tryz.prog 140 [v].toArray w fun e w' => ∃ (u : Value) (G' : Pin), e = .returned u ∧ Own eInt 3 G' w' w.heap.size u xs ∧ Ext noS G w G' w' := by
 refine zZ (n := 22) Tryz.func140 Tryz.ntmps140 rfl rfl ?_
 have d : Ext noS G w G w := Ext.refl hP
 refine zB (zC ?_)
 refine qM (.slice none 0 0) ?_
 refine qe (zA (zB (zC ?_)))
 refine qM v ?_
 refine qD rfl (zM Tryz.underlying65 (v := v) rfl hv) ?_
 refine qI rfl (o_make (E := eInt) 0 8 (vJ 0) Tryz.underlying65 mk3 (fun _ => rfl) rfl rfl d.pins (by omega) (by omega) (by omega) (fun a g h i l aa => ?_))
 have m := d.step i l
 have o : Own eInt 3 G g w.heap.size a (List.replicate xs.length 0) := h.weaken d.size
 have ab : (List.replicate xs.length 0).length = xs.length := List.length_replicate ..
 refine qM a ?_
 refine qe (zA (zB (zB (zC ?_))))
 refine qM (vJ 0) ?_
 refine qe (zA ?_)
 refine zW ?_
 refine yL (fun (k : Nat) (en : Nat → Value) (W : World) => ∃ (f : Nat → Value) (j : Nat) (os : List Int), en = (upd (upd (upd (upd f 0 v) 2 (.slice none 0 0)) 3 a) 4 (vJ (j : Int))) ∧ k = xs.length - j ∧ Ext noS G w G W ∧ (j ≤ xs.length) ∧ (os = cpy xs j 0) ∧ (os.length = xs.length) ∧ (Own eInt 3 G W w.heap.size a (os))) _ ⟨_, 0, List.replicate xs.length 0, (pS 4 (pS 3 (pS 2 (pU 0)))), rfl, m, Nat.zero_le _, cpy_start, (by simp), o⟩ ?_
 rintro ac _ ad ⟨f, j, os, rfl, ae, b, hj, hr, hol, c⟩
 refine zB (zB (zC ?_))
 refine qM (vJ (j : Int)) ?_
 refine qM v ?_
 refine qD rfl (zM Tryz.underlying65 (v := v) rfl hv) ?_
 refine qD rfl (yM rfl rfl) ?_
 refine qe (zA ?_)
 refine yD (p := ((j : Int) : Int) < (xs.length : Int)) rfl rfl (fun q => ?_) (fun q => ?_)
 ·skip
  refine wp_skip ?_
  refine zA (zB ?_)
  refine zW ?_
  refine zC ?_
  refine qM a ?_
  refine qM (vJ (j : Int)) ?_
  refine qM v ?_
  refine qM (vJ (j : Int)) ?_
  refine qD rfl (zI Tryz.underlying65 sz3 (v := v) rfl rfl hv (by omega) (by omega)) ?_
  refine qD rfl (zH (r := xs.getD j 0) rfl ag3 (z := (j : Int)) rfl hv b.pins (by omega) (by omega)) ?_
  refine qD rfl (zI Tryz.underlying65 sz3 (v := a) rfl rfl c.read (by omega) (by omega)) ?_
  refine q0 rfl rfl rfl (o_set (E := eInt) (v := a) (u := (vJ (xs.getD j 0))) (z := (j : Int)) (xs.getD j 0) sz3 rfl rfl rfl rfl b.pins c (by omega) (by omega) (fun af s t x ag => ?_))
  have y := b.write t x ((yC c))
  refine qe ?_
  refine yH ?_
  refine zA (zC ?_)
  refine qM (vJ (j : Int)) ?_
  refine qD rfl (yP rfl rfl (by omega)) ?_
  refine qM (vJ ((j : Int) + 1)) ?_
  refine qe ?_
  refine yG ?_
  refine ⟨_, ?_, _, rfl, _, j + 1, os.set j (xs.getD j 0), (pS 4 (pS 3 (pS 2 (pU 0)))), rfl, y, (by omega), (by rw [hr]; exact cpy_next 0 (by omega)), ((List.length_set ..).trans hol), s⟩
  omega
 refine wp_exit ?_
 refine zX ?_
 refine yJ ?_
 refine yI ?_
 refine zA (zB (zC ?_))
 refine qM a ?_
 refine qM a ?_
 refine qe (zA ?_)
 refine wp_ret ?_
 refine zT ?_
 refine zP (v := a) rfl rfl rfl ?_
 exact ⟨_, _, rfl, (by rw [cpy_end (by omega)] at hr; rw [← hr]; exact c), b⟩

theorem toNode_spec {w : World} {G : Pin} {u v : Value} {n : Nd} (hP : Pins G w) (hu : RSl eInt G u n.l) (hv : RSl eInt G v n.r) (hs : n.l.length ≤ 1048576 ∧ n.r.length ≤ 1048576) :
  Calls Tryz.prog 93 [(.agg [u, v].toArray)].toArray w fun e w' => ∃ (u v : Value) (G' : Pin), e = .returned (.agg [u, v].toArray) ∧ RSl eInt G' u n.l ∧ RSl eInt G' v n.r ∧ Ext noS G w G' w' := by
 refine zZ (n := 13) Tryz.func93 Tryz.ntmps93 rfl rfl ?_
 have m : Ext noS G w G w := Ext.refl hP
 refine zB (zC ?_)
 refine qI rfl (xM [u, v] (v := (.agg [u, v].toArray)) rfl rfl m.pins (fun b1 w2 b2 av aw ax => ?_))
 have ay := m.step aw ax
 have az : w.heap.size ≤ b1 := by have := m.size; omega
 obtain ⟨G9, z, o, aa, b4⟩ := av.shut ay az
 refine qI rfl (xA [(.slice none 0 0), (.slice none 0 0)] zr99 rfl o.pins (fun ab b5 b6 ac a0 a1 => ?_))
 have p := o.step a0 a1
 have a2 : w.heap.size ≤ ab := by have := o.size; omega
 refine qe (zA (zB (zC ?_)))
 refine qI rfl (xA [(.slice none 0 0), (.slice none 0 0)] zr99 rfl p.pins (fun ad b7 a3 ae a4 af => ?_))
 have d := p.step a4 af
 have ag := ac.below af
 have ah : Apart (some ad) (some ab) := zK (congrArg some a3) ac.lt
 have ai : w.heap.size ≤ ad := by have := p.size; omega
 refine qe (zA (zB (zC ?_)))
 refine qD rfl (zN (k := 0) rfl Tryz.underlying97 rfl nz65 rfl) ?_
 refine qD rfl (zO (u := u) ag65 rfl (d.pins _ _ _ (aa 0 _ rfl))) ?_
 refine qI rfl (zL (vs := [u]) Tryz.func140 nm140 rfl rfl rfl ?_)
 refine Calls.mono (toIntS_spec d.pins (hu.mono z) (by omega)) ?_
 rintro _ a5 ⟨a, a6, rfl, q, c⟩
 refine ⟨_, rfl, ?_⟩
 have aj := d.tr c
 have a7 := ag.ext c
 have a8 := ae.ext c
 have a9 := yE q.lt ag.lt
 have ak := yE q.lt ae.lt
 have s : Own eInt 3 a6 a5 w.heap.size a n.l := q.weaken d.size
 refine qD rfl (zN (k := 0) rfl Tryz.underlying99 rfl nz65 rfl) ?_
 refine q0 rfl rfl rfl (xK (cs' := [a, (.slice none 0 0)]) (us := [a]) (v := a) sz65 rfl rfl (cells1 s.one) (xC s.one) aj.pins a8 (Nat.le_of_ble_eq_true rfl) rfl (fun b8 al ba t b9 => ?_))
 have f := aj.write ba t ((yT ai))
 have am := s.keptA t ak
 have an := a7.keptA t ah.symm
 refine qe (zA (zB (zC ?_)))
 refine qD rfl (zN (k := 1) rfl Tryz.underlying97 rfl nz65 rfl) ?_
 refine qD rfl (zO (u := v) ag65 rfl ((Pins.of_le f.pins c.le) _ _ _ (aa 1 _ rfl))) ?_
 refine qI rfl (zL (vs := [v]) Tryz.func140 nm140 rfl rfl rfl ?_)
 refine Calls.mono (toIntS_spec f.pins (hv.mono (Pin.le_trans z c.le)) (by omega)) ?_
 rintro _ bb ⟨b, bc, rfl, g, h⟩
 refine ⟨_, rfl, ?_⟩
 have ao := f.tr h
 have bd := am.ext h
 have be := an.ext h
 have bf := al.ext h
 have bg := zQ g.lt am.lt
 have bh := yE g.lt an.lt
 have bi := yE g.lt al.lt
 have x : Own eInt 3 bc bb w.heap.size b n.r := g.weaken f.size
 refine qD rfl (zN (k := 1) rfl Tryz.underlying99 rfl nz65 rfl) ?_
 refine q0 rfl rfl rfl (xK (cs' := [a, b]) (us := [b]) (v := b) sz65 rfl rfl (cells1 x.one) (xC x.one) ao.pins bf (Nat.le_of_ble_eq_true rfl) rfl (fun ca bj bk i cb => ?_))
 have ap := ao.write bk i ((yT ai))
 have aq := bd.keptA i ak
 have ar := x.keptA i bi
 have bl := be.keptA i ah.symm
 refine qe (zA (zB (zC ?_)))
 refine qD rfl (yQ (cs := [a, b]) ag99 sz99 rfl (fun j u hj => bj.cell (by simpa using hj))) ?_
 refine q0 rfl rfl rfl (xK (cs' := [a, b]) (us := [a, b]) (v := (.agg [a, b].toArray)) sz99 rfl rfl rfl (ones2 aq.one ar.one) ap.pins bl (Nat.le_of_ble_eq_true rfl) rfl (fun cc bm bn y cd => ?_))
 have bo := ap.write bn y ((yT a2))
 have bp := aq.keptA y a9
 have bq := ar.keptA y bh
 refine qe (zA ?_)
 refine wp_ret ?_
 refine zT ?_
 refine c_retc (cs := [a, b]) rfl rfl rfl ag99 sz99 (fun j u hj => by rw [Nat.zero_add]; exact bm.cell hj) ?_
 obtain ⟨ce, br, bs, bt, bu⟩ := bp.sealed bo
 have bv := bq.moreO br bu bg
 obtain ⟨cf, bw, bx, bz, cg⟩ := bv.sealed bs
 exact ⟨_, _, _, rfl, (bt.mono bw), bz, bx⟩

theorem toNodeS_spec {w : World} {G : Pin} {v : Value} {ns : List Nd} (hP : Pins G w) (hv : RSl eNode G v ns) (hsm : Small ns) :
  Calls Tryz.prog 49 [v].toArray w fun e w' => ∃ (u : Value) (G' : Pin), e = .returned u ∧ RSl eNode G' u ns ∧ Ext noS G w G' w' := by
 refine zZ (n := 23) Tryz.func49 Tryz.ntmps49 rfl rfl ?_
 have f : Ext noS G w G w := Ext.refl hP
 have hln := hsm.len
 refine zB (zC ?_)
 refine qM (.slice none 0 0) ?_
 refine qe (zA (zB (zC ?_)))
 refine qM v ?_
 refine qD rfl (zM Tryz.underlying22 (v := v) rfl hv) ?_
 refine qI rfl (o_make (E := eNode) (⟨[], []⟩ : Nd) 48 (.agg #[(.slice none 0 0), (.slice none 0 0)]) Tryz.underlying30 mk99 zero_node rfl rfl f.pins (by omega) (by omega) (by omega) (fun a t x y aa au => ?_))
 have ab := f.step y aa
 have ac : Own eNode 99 G t w.heap.size a (List.replicate ns.length (⟨[], []⟩ : Nd)) := x.weaken f.size
 have av : (List.replicate ns.length (⟨[], []⟩ : Nd)).length = ns.length := List.length_replicate ..
 refine qM a ?_
 refine qe (zA (zB (zB (zC ?_))))
 refine qM (vJ 0) ?_
 refine qe (zA ?_)
 refine zW ?_
 refine yL (fun (k : Nat) (en : Nat → Value) (W : World) => ∃ (i : Nat → Value) (j : Nat) (os : List Nd) (b : Pin), en = (upd (upd (upd (upd i 0 v) 2 (.slice none 0 0)) 3 a) 4 (vJ (j : Int))) ∧ k = ns.length - j ∧ Ext noS G w b W ∧ Pin.le G b ∧ (j ≤ ns.length) ∧ (os = cpy ns j ⟨[], []⟩) ∧ (os.length = ns.length) ∧ (Own eNode 99 b W w.heap.size a (os))) _ ⟨_, 0, List.replicate ns.length (⟨[], []⟩ : Nd), G, (pS 4 (pS 3 (pS 2 (pU 0)))), rfl, ab, Pin.le_refl _, Nat.zero_le _, cpy_start, (by simp), ac⟩ ?_
 rintro aw _ ax ⟨i, j, os, b, rfl, ay, c, d, hj, hr, hol, m⟩
 refine zB (zB (zC ?_))
 refine qM (vJ (j : Int)) ?_
 refine qM v ?_
 refine qD rfl (zM Tryz.underlying22 (v := v) rfl hv) ?_
 refine qD rfl (yM rfl rfl) ?_
 refine qe (zA ?_)
 refine yD (p := ((j : Int) : Int) < (ns.length : Int)) rfl rfl (fun ad => ?_) (fun ad => ?_)
 ·skip
  have hso := hsm.opts j (by omega)
  refine wp_skip ?_
  refine zA (zB ?_)
  refine zW ?_
  refine zC ?_
  refine qM a ?_
  refine qM (vJ (j : Int)) ?_
  refine qM v ?_
  refine qM (vJ (j : Int)) ?_
  refine qD rfl (zI Tryz.underlying22 sz97 (v := v) rfl rfl hv (by omega) (by omega)) ?_
  obtain ⟨ae, af, o, q, ag⟩ := qC (hv.at (z := (j : Int)) (by omega) (by omega)) (j := j) rfl
  have az := o.max
  have a0 := q.max
  refine qD rfl (ag ag97 sz97 rfl (Pins.of_le c.pins d)) ?_
  refine qI rfl (zL (vs := [(.agg [ae, af].toArray)]) Tryz.func93 nm93 rfl rfl rfl ?_)
  refine Calls.mono (toNode_spec (n := ⟨(ns.getD j default).l, (ns.getD j default).r⟩) c.pins (o.mono d) (q.mono d) (by omega)) ?_
  rintro _ a1 ⟨ah, ai, aj, rfl, ak, al, g⟩
  refine ⟨_, rfl, ?_⟩
  have s := c.tr g
  have h := m.ext g
  refine qD rfl (zI Tryz.underlying30 sz99 (v := a) rfl rfl h.read (by omega) (by omega)) ?_
  refine q0 rfl rfl rfl (o_set (E := eNode) (v := a) (u := (.agg [ah, ai].toArray)) (z := (j : Int)) ((⟨(ns.getD j default).l, (ns.getD j default).r⟩ : Nd)) sz99 rfl rfl rfl ⟨_, _, rfl, ak, al⟩ s.pins h (by omega) (by omega) (fun a2 am an ao a3 => ?_))
  have ap := s.write an ao ((yC h))
  refine qe ?_
  refine yH ?_
  refine zA (zC ?_)
  refine qM (vJ (j : Int)) ?_
  refine qD rfl (yP rfl rfl (by omega)) ?_
  refine qM (vJ ((j : Int) + 1)) ?_
  refine qe ?_
  refine yG ?_
  refine ⟨_, ?_, _, rfl, _, j + 1, os.set j (ns.getD j default), aj, (pS 4 (pS 3 (pS 2 (pU 0)))), rfl, ap, (Pin.le_trans d g.le), (by omega), (by rw [hr]; exact cpy_next default (by omega)), ((List.length_set ..).trans hol), am⟩
  omega
 refine wp_exit ?_
 refine zX ?_
 refine yJ ?_
 refine yI ?_
 refine zA (zB (zC ?_))
 refine qM a ?_
 refine qM a ?_
 refine qe (zA ?_)
 refine wp_ret ?_
 refine zT ?_
 refine zP (v := a) rfl rfl rfl ?_
 obtain ⟨a4, a5, aq, ar, a6⟩ := m.sealed c
 exact ⟨_, _, rfl, (by rw [cpy_end (by omega)] at hr; rw [← hr]; exact ar), aq⟩

theorem qG {w : World} {G : Pin} {v : Value} {ns : List Nd} (hP : Pins G w) (hv : RSl eNode G v ns) (hsm : Small ns) :
  Calls Tryz.prog 17 [(.agg [v].toArray)].toArray w fun e w' => ∃ (u : Value) (G' : Pin), e = .returned (.agg [u].toArray) ∧ RSl eNode G' u ns ∧ Ext noS G w G' w' := by
 refine zZ (n := 9) Tryz.func17 Tryz.ntmps17 rfl rfl ?_
 have c : Ext noS G w G w := Ext.refl hP
 refine zB (zC ?_)
 refine qI rfl (xM [v] (v := (.agg [v].toArray)) rfl rfl c.pins (fun s w2 ay t x y => ?_))
 have z := c.step x y
 have aa : w.heap.size ≤ s := by have := c.size; omega
 obtain ⟨G9, ab, d, ac, a0⟩ := t.shut z aa
 refine qI rfl (xA [(.slice none 0 0)] zr32 rfl d.pins (fun i a1 a2 l ad ae => ?_))
 have f := d.step ad ae
 have af : w.heap.size ≤ i := by have := d.size; omega
 refine qe (zA (zB (zC ?_)))
 refine qI rfl (xA [(.slice none 0 0)] zr32 rfl f.pins (fun m a3 ag ah ai o => ?_))
 have g := f.step ai o
 have aj := l.below o
 have ak : Apart (some m) (some i) := zK (congrArg some ag) l.lt
 have al : w.heap.size ≤ m := by have := f.size; omega
 refine qe (zA (zB (zC ?_)))
 refine qD rfl (zN (k := 0) rfl Tryz.underlying24 rfl nz22 rfl) ?_
 refine qD rfl (zO (u := v) ag22 rfl (g.pins _ _ _ (ac 0 _ rfl))) ?_
 refine qI rfl (zL (vs := [v]) Tryz.func49 nm49 rfl rfl rfl ?_)
 refine Calls.mono (toNodeS_spec g.pins (hv.mono ab) hsm) ?_
 rintro _ a4 ⟨a, a5, rfl, b, h⟩
 refine ⟨_, rfl, ?_⟩
 have p := g.tr h
 have am := aj.ext h
 have an := ah.ext h
 refine qD rfl (zN (k := 0) rfl Tryz.underlying32 rfl nz30 rfl) ?_
 refine q0 rfl rfl rfl (xK (cs' := [a]) (us := [a]) (v := a) sz30 rfl rfl (cells1 b.one) (xC b.one) p.pins an (Nat.le_of_ble_eq_true rfl) rfl (fun a6 ao ap q a7 => ?_))
 have r := p.write ap q ((yT al))
 have aq := am.keptA q ak.symm
 refine qe (zA (zB (zC ?_)))
 refine qD rfl (yQ (cs := [a]) ag32 sz32 rfl (fun j u hj => ao.cell (by simpa using hj))) ?_
 refine q0 rfl rfl rfl (xK (cs' := [a]) (us := [a]) (v := (.agg [a].toArray)) sz32 rfl rfl rfl (xC b.one) r.pins aq (Nat.le_of_ble_eq_true rfl) rfl (fun a8 ar au av a9 => ?_))
 have aw := r.write au av ((yT af))
 refine qe (zA ?_)
 refine wp_ret ?_
 refine zT ?_
 refine c_retc (cs := [a]) rfl rfl rfl ag32 sz32 (fun j u hj => by rw [Nat.zero_add]; exact ar.cell hj) ?_
 exact ⟨_, _, rfl, b, aw⟩

theorem eqIntS_spec {w : World} {G : Pin} {u v : Value} {xs ys : List Int} (hP : Pins G w) (hu : RSl eInt G u xs) (hv : RSl eInt G v ys) :
  Calls Tryz.prog 144 [u, v].toArray w fun e w' => e = .returned (.bool (decide (xs = ys))) ∧ Ext noS G w G w' := by
 refine zZ (n := 26) Tryz.func144 Tryz.ntmps144 rfl rfl ?_
 have f : Ext noS G w G w := Ext.refl hP
 have hm := hu.max
 refine zB (zC ?_)
 refine qM (.bool false) ?_
 refine qe (zA (zB (zB (zC ?_))))
 refine qM u ?_
 refine qD rfl (zM Tryz.underlying65 (v := u) rfl hu) ?_
 refine qM v ?_
 refine qD rfl (zM Tryz.underlying65 (v := v) rfl hv) ?_
 refine qD rfl (r_neq rfl rfl) ?_
 refine qe (zA ?_)
 refine yD (p := ((xs.length : Int) : Int) ≠ (ys.length : Int)) rfl rfl (fun g => ?_) (fun g => ?_)
 ·skip
  refine zB (zC ?_)
  refine qM (.bool false) ?_
  refine qe (zA ?_)
  refine wp_ret ?_
  refine zT ?_
  refine zP (v := (.bool false)) rfl rfl rfl ?_
  exact ⟨congrArg (fun z => Ending.returned (Value.bool z)) ((decide_eq_false (fun e => g (by rw [e]))).symm), f⟩
 refine wp_skip ?_
 refine zA (zB (zB (zC ?_)))
 refine qM (vJ 0) ?_
 refine qe (zA ?_)
 refine zW ?_
 refine yL (fun (k : Nat) (en : Nat → Value) (W : World) => ∃ (h : Nat → Value) (j : Nat), en = (upd (upd (upd h 0 u) 1 v) 5 (vJ (j : Int))) ∧ k = xs.length - j ∧ Ext noS G w G W ∧ (j ≤ xs.length) ∧ (xs.length = ys.length) ∧ (∀ i, i < j → xs.getD i 0 = ys.getD i 0)) _ ⟨_, 0, (pS 5 (pS 1 (pU 0))), rfl, f, Nat.zero_le _, (by omega), (fun i hi => absurd hi (Nat.not_lt_zero i))⟩ ?_
 rintro q _ b ⟨h, j, rfl, s, c, hj, heq, hp⟩
 refine zB (zB (zC ?_))
 refine qM (vJ (j : Int)) ?_
 refine qM u ?_
 refine qD rfl (zM Tryz.underlying65 (v := u) rfl hu) ?_
 refine qD rfl (yM rfl rfl) ?_
 refine qe (zA ?_)
 refine yD (p := ((j : Int) : Int) < (xs.length : Int)) rfl rfl (fun m => ?_) (fun m => ?_)
 ·skip
  refine wp_skip ?_
  refine zA (zB ?_)
  refine zW ?_
  refine zB ?_
  refine yU (S := fun wz => Pins G wz) (last := 9) (by kernel_rfl) rfl ?_
  have l : Below b.heap.size b b.drew := (Below.refl _ _).drew
  have o := c.pins.below l
  have a := c.step o l
  refine dM 0 u a.pins ?_
  refine dM 1 (vJ (j : Int)) a.pins ?_
  refine dT (i := 2) rfl rfl (by kernel_rfl) (fun _ _ => zI Tryz.underlying65 sz3 (v := u) rfl rfl hu (by omega) (by omega)) a.pins ?_
  refine dT (i := 3) rfl rfl (by kernel_rfl) (fun _ hS => zH (r := xs.getD j 0) rfl ag3 (z := (j : Int)) rfl hu hS (by omega) (by omega)) a.pins ?_
  refine dM 4 v a.pins ?_
  refine dM 5 (vJ (j : Int)) a.pins ?_
  refine dT (i := 6) rfl rfl (by kernel_rfl) (fun _ _ => zI Tryz.underlying65 sz3 (v := v) rfl rfl hv (by omega) (by omega)) a.pins ?_
  refine dT (i := 7) rfl rfl (by kernel_rfl) (fun _ hS => zH (r := ys.getD j 0) rfl ag3 (z := (j : Int)) rfl hv hS (by omega) (by omega)) a.pins ?_
  refine dT (i := 8) rfl rfl (by kernel_rfl) (fun _ _ => r_neq rfl rfl) a.pins ?_
  refine yK (by kernel_rfl) ?_
  refine zA ?_
  refine yD (p := (xs.getD j 0 : Int) ≠ (ys.getD j 0)) rfl rfl (fun d => ?_) (fun d => ?_)
  ·skip
   refine zB (zC ?_)
   refine qM (.bool false) ?_
   refine qe (zA ?_)
   refine wp_ret ?_
   refine zT ?_
   refine zP (v := (.bool false)) rfl rfl rfl ?_
   exact ⟨congrArg (fun z => Ending.returned (Value.bool z)) ((decide_eq_false (fun e => d (by rw [e]))).symm), a⟩
  refine wp_skip ?_
  refine yH ?_
  refine zA (zC ?_)
  refine qM (vJ (j : Int)) ?_
  refine qD rfl (yP rfl rfl (by omega)) ?_
  refine qM (vJ ((j : Int) + 1)) ?_
  refine qe ?_
  refine yG ?_
  refine ⟨_, ?_, _, rfl, _, j + 1, (pS 5 (pS 1 (pU 0))), rfl, a, (by omega), heq, (eqstep hp d)⟩
  omega
 refine wp_exit ?_
 refine zX ?_
 refine yJ ?_
 refine yI ?_
 refine zA (zB (zC ?_))
 refine qM (.bool true) ?_
 refine qe (zA ?_)
 refine wp_ret ?_
 refine zT ?_
 refine zP (v := (.bool true)) rfl rfl rfl ?_
 exact ⟨congrArg (fun z => Ending.returned (Value.bool z)) ((decide_eq_true (eqdone heq (by omega) hp)).symm), c⟩

theorem eqNode_spec {w : World} {G : Pin} {al ar bl br : Value} {a b : Nd} (hP : Pins G w) (hal : RSl eInt G al a.l) (har : RSl eInt G ar a.r) (hbl : RSl eInt G bl b.l) (hbr : RSl eInt G br b.r) :
  Calls Tryz.prog 105 [(.agg [al, ar].toArray), (.agg [bl, br].toArray)].toArray w fun e w' => ∃ G', e = .returned (.bool (decide (a = b))) ∧ Ext noS G w G' w' := by
 refine zZ (n := 17) Tryz.func105 Tryz.ntmps105 rfl rfl ?_
 have j : Ext noS G w G w := Ext.refl hP
 refine zB (zC ?_)
 refine qI rfl (xM [al, ar] (v := (.agg [al, ar].toArray)) rfl rfl j.pins (fun x w2 am y aa ab => ?_))
 have ac := j.step aa ab
 have ad : w.heap.size ≤ x := by have := j.size; omega
 obtain ⟨G9, h, m, o, ao⟩ := y.shut ac ad
 refine qI rfl (xM [bl, br] (v := (.agg [bl, br].toArray)) rfl rfl m.pins (fun ae ap aq af ag ah => ?_))
 have ai := m.step ag ah
 have aj : w.heap.size ≤ ae := by have := m.size; omega
 obtain ⟨au, f, i, p, av⟩ := af.shut ai aj
 refine qM (.bool false) ?_
 refine qe (zA (zB (zB (zC ?_))))
 refine qD rfl (zN (k := 0) rfl Tryz.underlying99 rfl nz65 rfl) ?_
 refine qD rfl (zO (u := al) ag65 rfl ((Pins.of_le i.pins f) _ _ _ (o 0 _ rfl))) ?_
 refine qD rfl (zN (k := 0) rfl Tryz.underlying99 rfl nz65 rfl) ?_
 refine qD rfl (zO (u := bl) ag65 rfl (i.pins _ _ _ (p 0 _ rfl))) ?_
 refine qI rfl (zL (vs := [al, bl]) Tryz.func144 nm144 rfl rfl rfl ?_)
 refine Calls.mono (eqIntS_spec i.pins (hal.mono (Pin.le_trans h f)) (hbl.mono (Pin.le_trans h f))) ?_
 rintro _ aw ⟨rfl, q⟩
 refine ⟨_, rfl, ?_⟩
 have g := i.step q.pins q.below
 refine qD rfl (xR rfl) ?_
 refine qe (zA ?_)
 refine c_ifn rfl rfl (fun c => ?_) (fun c => ?_)
 ·skip
  replace c := of_decide_eq_true c
  refine wp_skip ?_
  refine zA (zB (zB (zC ?_)))
  refine qD rfl (zN (k := 1) rfl Tryz.underlying99 rfl nz65 rfl) ?_
  refine qD rfl (zO (u := ar) ag65 rfl ((Pins.of_le g.pins f) _ _ _ (o 1 _ rfl))) ?_
  refine qD rfl (zN (k := 1) rfl Tryz.underlying99 rfl nz65 rfl) ?_
  refine qD rfl (zO (u := br) ag65 rfl (g.pins _ _ _ (p 1 _ rfl))) ?_
  refine qI rfl (zL (vs := [ar, br]) Tryz.func144 nm144 rfl rfl rfl ?_)
  refine Calls.mono (eqIntS_spec g.pins (har.mono (Pin.le_trans h f)) (hbr.mono (Pin.le_trans h f))) ?_
  rintro _ ax ⟨rfl, s⟩
  refine ⟨_, rfl, ?_⟩
  have t := g.step s.pins s.below
  refine qD rfl (xR rfl) ?_
  refine qe (zA ?_)
  refine c_ifn rfl rfl (fun d => ?_) (fun d => ?_)
  ·skip
   replace d := of_decide_eq_true d
   refine wp_skip ?_
   refine zA (zB (zC ?_))
   refine qM (.bool true) ?_
   refine qe (zA ?_)
   refine wp_ret ?_
   refine zT ?_
   refine zP (v := (.bool true)) rfl rfl rfl ?_
   exact ⟨_, congrArg (fun z => Ending.returned (Value.bool z)) (decide_eq_true (nd_ext c d)).symm, t⟩
  replace d := of_decide_eq_false d
  refine zB (zC ?_)
  refine qM (.bool false) ?_
  refine qe (zA ?_)
  refine wp_ret ?_
  refine zT ?_
  refine zP (v := (.bool false)) rfl rfl rfl ?_
  exact ⟨_, congrArg (fun z => Ending.returned (Value.bool z)) (decide_eq_false (fun e => d (by rw [e]))).symm, t⟩
 replace c := of_decide_eq_false c
 refine zB (zC ?_)
 refine qM (.bool false) ?_
 refine qe (zA ?_)
 refine wp_ret ?_
 refine zT ?_
 refine zP (v := (.bool false)) rfl rfl rfl ?_
 exact ⟨_, congrArg (fun z => Ending.returned (Value.bool z)) (decide_eq_false (fun e => c (by rw [e]))).symm, g⟩

theorem eqNodeS_spec {w : World} {G : Pin} {u v : Value} {xs ys : List Nd} (hP : Pins G w) (hu : RSl eNode G u xs) (hv : RSl eNode G v ys) :
  Calls Tryz.prog 55 [u, v].toArray w fun e w' => ∃ G', e = .returned (.bool (decide (xs = ys))) ∧ Ext noS G w G' w' := by
 refine zZ (n := 27) Tryz.func55 Tryz.ntmps55 rfl rfl ?_
 have s : Ext noS G w G w := Ext.refl hP
 have hm := hu.max
 refine zB (zC ?_)
 refine qM (.bool false) ?_
 refine qe (zA (zB (zB (zC ?_))))
 refine qM u ?_
 refine qD rfl (zM Tryz.underlying30 (v := u) rfl hu) ?_
 refine qM v ?_
 refine qD rfl (zM Tryz.underlying30 (v := v) rfl hv) ?_
 refine qD rfl (r_neq rfl rfl) ?_
 refine qe (zA ?_)
 refine yD (p := ((xs.length : Int) : Int) ≠ (ys.length : Int)) rfl rfl (fun t => ?_) (fun t => ?_)
 ·skip
  refine zB (zC ?_)
  refine qM (.bool false) ?_
  refine qe (zA ?_)
  refine wp_ret ?_
  refine zT ?_
  refine zP (v := (.bool false)) rfl rfl rfl ?_
  exact ⟨_, congrArg (fun z => Ending.returned (Value.bool z)) (decide_eq_false (fun e => t (by rw [e]))).symm, s⟩
 refine wp_skip ?_
 refine zA (zB (zB (zC ?_)))
 refine qM (vJ 0) ?_
 refine qe (zA ?_)
 refine zW ?_
 refine yL (fun (k : Nat) (en : Nat → Value) (W : World) => ∃ (x : Nat → Value) (j : Nat) (g : Pin), en = (upd (upd (upd x 0 u) 1 v) 5 (vJ (j : Int))) ∧ k = xs.length - j ∧ Ext noS G w g W ∧ Pin.le G g ∧ (j ≤ xs.length) ∧ (xs.length = ys.length) ∧ (∀ i, i < j → xs.getD i default = ys.getD i default)) _ ⟨_, 0, G, (pS 5 (pS 1 (pU 0))), rfl, s, Pin.le_refl _, Nat.zero_le _, (by omega), (fun i hi => absurd hi (Nat.not_lt_zero i))⟩ ?_
 rintro k2 _ o ⟨x, j, g, rfl, ao, q, f, hj, heq, hp⟩
 refine zB (zB (zC ?_))
 refine qM (vJ (j : Int)) ?_
 refine qM u ?_
 refine qD rfl (zM Tryz.underlying30 (v := u) rfl hu) ?_
 refine qD rfl (yM rfl rfl) ?_
 refine qe (zA ?_)
 refine yD (p := ((j : Int) : Int) < (xs.length : Int)) rfl rfl (fun h6 => ?_) (fun h6 => ?_)
 ·skip
  refine wp_skip ?_
  refine zA (zB ?_)
  refine zW ?_
  refine zB ?_
  refine yU (S := fun wz => Pins g wz) (last := 10) (by kernel_rfl) rfl ?_
  have y : Below o.heap.size o o.drew := (Below.refl _ _).drew
  have af := q.pins.below y
  have c := q.step af y
  refine dM 0 u c.pins ?_
  refine dM 1 (vJ (j : Int)) c.pins ?_
  refine dT (i := 2) rfl rfl (by kernel_rfl) (fun _ _ => zI Tryz.underlying30 sz99 (v := u) rfl rfl hu (by omega) (by omega)) c.pins ?_
  obtain ⟨ag, ah, aa, ab, ai⟩ := qC (hu.at (z := (j : Int)) (by omega) (by omega)) (j := j) rfl
  have ap := aa.max
  have aq := ab.max
  refine dT (i := 3) rfl rfl (by kernel_rfl) (fun _ hS => ai ag99 sz99 rfl (Pins.of_le hS f)) c.pins ?_
  refine dM 4 v c.pins ?_
  refine dM 5 (vJ (j : Int)) c.pins ?_
  refine dT (i := 6) rfl rfl (by kernel_rfl) (fun _ _ => zI Tryz.underlying30 sz99 (v := v) rfl rfl hv (by omega) (by omega)) c.pins ?_
  obtain ⟨aj, ak, ac, ad, al⟩ := qC (hv.at (z := (j : Int)) (by omega) (by omega)) (j := j) rfl
  have ar := ac.max
  have au := ad.max
  refine dT (i := 7) rfl rfl (by kernel_rfl) (fun _ hS => al ag99 sz99 rfl (Pins.of_le hS f)) c.pins ?_
  refine dO (i := 8) (zR (i := 8) rfl rfl rfl (zD rfl _) (zL (vs := [(.agg [ag, ah].toArray), (.agg [aj, ak].toArray)]) Tryz.func105 nm105 rfl rfl rfl ?_))
  refine Calls.mono (eqNode_spec (a := ⟨(xs.getD j default).l, (xs.getD j default).r⟩) (b := ⟨(ys.getD j default).l, (ys.getD j default).r⟩) c.pins (aa.mono f) (ab.mono f) (ac.mono f) (ad.mono f)) ?_
  rintro _ av ⟨am, rfl, h⟩
  refine ⟨_, rfl, ?_⟩
  have m := c.tr h
  refine ⟨fun _ => (Pins.of_le m.pins h.le), ?_⟩
  refine dT (i := 9) rfl rfl (by kernel_rfl) (fun _ _ => xR rfl) (Pins.of_le m.pins h.le) ?_
  refine yK (by kernel_rfl) ?_
  refine zA ?_
  refine c_ifn rfl rfl (fun d => ?_) (fun d => ?_)
  ·skip
   replace d := of_decide_eq_true d
   refine wp_skip ?_
   refine yH ?_
   refine zA (zC ?_)
   refine qM (vJ (j : Int)) ?_
   refine qD rfl (yP rfl rfl (by omega)) ?_
   refine qM (vJ ((j : Int) + 1)) ?_
   refine qe ?_
   refine yG ?_
   refine ⟨_, ?_, _, rfl, _, j + 1, am, (pS 5 (pS 1 (pU 0))), rfl, m, (Pin.le_trans f h.le), (by omega), heq, (eqstepN hp (congrArg Nd.l d) (congrArg Nd.r d))⟩
   omega
  replace d := of_decide_eq_false d
  refine zB (zC ?_)
  refine qM (.bool false) ?_
  refine qe (zA ?_)
  refine wp_ret ?_
  refine zT ?_
  refine zP (v := (.bool false)) rfl rfl rfl ?_
  exact ⟨_, congrArg (fun z => Ending.returned (Value.bool z)) (decide_eq_false (fun e => d (by rw [e]))).symm, m⟩
 refine wp_exit ?_
 refine zX ?_
 refine yJ ?_
 refine yI ?_
 refine zA (zB (zC ?_))
 refine qM (.bool true) ?_
 refine qe (zA ?_)
 refine wp_ret ?_
 refine zT ?_
 refine zP (v := (.bool true)) rfl rfl rfl ?_
 exact ⟨_, congrArg (fun z => Ending.returned (Value.bool z)) (decide_eq_true (eqdoneN heq (by omega) hp)).symm, q⟩

theorem eqForm_spec {w : World} {G : Pin} {u v : Value} {xs ys : List Nd} (hP : Pins G w) (hu : RSl eNode G u xs) (hv : RSl eNode G v ys) :
  Calls Tryz.prog 20 [(.agg [u].toArray), (.agg [v].toArray)].toArray w fun e w' => ∃ G', e = .returned (.bool (decide (xs = ys))) ∧ Ext noS G w G' w' := by
 refine zZ (n := 11) Tryz.func20 Tryz.ntmps20 rfl rfl ?_
 have c : Ext noS G w G w := Ext.refl hP
 refine zB (zC ?_)
 refine qI rfl (xM [u] (v := (.agg [u].toArray)) rfl rfl c.pins (fun i w2 ae j l m => ?_))
 have o := c.step l m
 have p : w.heap.size ≤ i := by have := c.size; omega
 obtain ⟨G9, g, d, q, ag⟩ := j.shut o p
 refine qI rfl (xM [v] (v := (.agg [v].toArray)) rfl rfl d.pins (fun r ah ai s t x => ?_))
 have y := d.step t x
 have aa : w.heap.size ≤ r := by have := d.size; omega
 obtain ⟨aj, f, b, ab, ak⟩ := s.shut y aa
 refine qM (.bool false) ?_
 refine qe (zA (zB (zB (zC ?_))))
 refine qD rfl (zN (k := 0) rfl Tryz.underlying32 rfl nz30 rfl) ?_
 refine qD rfl (zO (u := u) ag30 rfl ((Pins.of_le b.pins f) _ _ _ (q 0 _ rfl))) ?_
 refine qD rfl (zN (k := 0) rfl Tryz.underlying32 rfl nz30 rfl) ?_
 refine qD rfl (zO (u := v) ag30 rfl (b.pins _ _ _ (ab 0 _ rfl))) ?_
 refine qI rfl (zL (vs := [u, v]) Tryz.func55 nm55 rfl rfl rfl ?_)
 refine Calls.mono (eqNodeS_spec b.pins (hu.mono (Pin.le_trans g f)) (hv.mono (Pin.le_trans g f))) ?_
 rintro _ al ⟨am, rfl, ac⟩
 refine ⟨_, rfl, ?_⟩
 have h := b.tr ac
 refine qD rfl (xR rfl) ?_
 refine qe (zA ?_)
 refine c_ifn rfl rfl (fun a => ?_) (fun a => ?_)
 ·skip
  replace a := of_decide_eq_true a
  refine wp_skip ?_
  refine zA (zB (zC ?_))
  refine qM (.bool true) ?_
  refine qe (zA ?_)
  refine wp_ret ?_
  refine zT ?_
  refine zP (v := (.bool true)) rfl rfl rfl ?_
  exact ⟨_, congrArg (fun z => Ending.returned (Value.bool z)) (decide_eq_true a).symm, h⟩
 replace a := of_decide_eq_false a
 refine zB (zC ?_)
 refine qM (.bool false) ?_
 refine qe (zA ?_)
 refine wp_ret ?_
 refine zT ?_
 refine zP (v := (.bool false)) rfl rfl rfl ?_
 exact ⟨_, congrArg (fun z => Ending.returned (Value.bool z)) (decide_eq_false a).symm, h⟩

end L1
end Go.Proofs.YtfnginkcmcfdfaaGreatDoor

set_option maxRecDepth 20000
set_option maxHeartbeats 2000000
namespace Go.Proofs.YtfnginkcmcfdfaaGreatDoor
namespace K1
open Go.RowKit Go.GL Go.Proofs







theorem isPow_spec {w : World} {G : Pin} (hP : Pins G w) :
  Calls Tryz.prog 222 [(.int .i64 36)].toArray w fun e w' => e = .returned (.bool false) ∧ w' = w := by
 refine zZ (n := 8) Tryz.func222 Tryz.ntmps222 rfl rfl ?_
 have hX0 : Ext noS G w G w := Ext.refl hP
 refine zB (zC ?_)
 refine qM (.bool false) ?_
 refine qe (zA (zB (zC ?_)))
 refine qM (.int .i64 36) ?_
 refine qM (.int .i64 36) ?_
 refine qD rfl (r_sub rfl rfl (by omega)) ?_
 refine qD rfl (r_and rfl rfl) ?_
 refine qD rfl (r_eql rfl rfl) ?_
 refine qM (.bool (decide ((andW .i64 36 (36 - 1) : Int) = 0))) ?_
 refine qe (zA ?_)
 refine wp_ret ?_
 refine zT ?_
 refine zP (v := (.bool (decide ((andW .i64 36 (36 - 1) : Int) = 0)))) rfl rfl rfl ?_
 exact ⟨congrArg (fun z => Ending.returned (Value.bool z)) not_pow36, rfl⟩

theorem formatBits_spec {w : World} {G : Pin} {v : Value} {xs : List UInt8} {i : Int} (hP : Pins G w) (hv : Own eByte 5 G w 0 v xs) (hxl : xs.length ≤ 1099511627776) (hi : 0 ≤ i ∧ i ≤ 9223372036854775807) :
  Calls Tryz.prog 214 [v, (.int .u64 i), (vJ 36), (.bool false), (.bool true)].toArray w fun e w' => ∃ (u : Value) (G' : Pin), e = .returned (.tuple #[u, .string (⟨#[]⟩ : ByteArray)]) ∧ Own eByte 5 G' w' 0 u (xs ++ dig36 i.toNat) ∧ Lo w (inO v.ownBlock) u.ownBlock ∧ Ext (inO v.ownBlock) G w G' w' := by
 refine zZ (n := 102) Tryz.func214 Tryz.ntmps214 rfl rfl ?_
 have d : Ext (inO v.ownBlock) G w G w := Ext.refl hP
 have hlov : Lo w (inO v.ownBlock) v.ownBlock := lo_self
 refine zB (zC ?_)
 refine qM (.slice none 0 0) ?_
 refine qM (.string (⟨#[]⟩ : ByteArray)) ?_
 refine qe (zA (zB (zB (zC ?_))))
 refine qM (vJ 36) ?_
 refine qD rfl (yM rfl rfl) ?_
 refine qM (.bool false) ?_
 refine qN (zU (v := (vJ 36)) rfl) ?_
 refine qN (r_eql rfl rfl) ?_
 refine qD rfl (xB (v := (.bool false)) rfl rfl) ?_
 refine qM (.bool false) ?_
 refine qN (zU (v := (vJ 36)) rfl) ?_
 refine qN (r_gtr rfl rfl) ?_
 refine qD rfl (xB (v := (.bool false)) rfl rfl) ?_
 refine qe (zA ?_)
 refine c_ifF rfl rfl ?_
 refine wp_skip ?_
 refine zA (zB (zC ?_))
 refine qI rfl (xA (arrV (List.replicate 65 0)) zr211 rfl d.pins (fun a w2 x y aa l => ?_))
 have m := d.step aa l
 have ab := hv.below l
 have f : Apart (some a) v.ownBlock := zG (congrArg some x) hv.lt
 have g : w.heap.size ≤ a := by have := d.size; omega
 refine qe (zA (zB (zC ?_)))
 refine qM (vJ 65) ?_
 refine qe (zA (zB (zB (zC ?_))))
 refine qM (.bool false) ?_
 refine qe (zA ?_)
 refine c_ifF rfl rfl ?_
 refine wp_skip ?_
 refine zA (zB (zB (zC ?_)))
 refine qM (vJ 36) ?_
 refine qI rfl (zL (vs := [(vJ 36)]) Tryz.func222 nm222 rfl rfl rfl ?_)
 refine Calls.mono (isPow_spec m.pins ) ?_
 rintro _ _ ⟨rfl, rfl⟩
 refine ⟨_, rfl, ?_⟩
 refine qe (zA ?_)
 refine c_ifF rfl rfl ?_
 refine zB (zC ?_)
 refine qM (vJ 36) ?_
 refine qD rfl (r_conv (j := 36) Tryz.underlying3 Tryz.underlying175 rfl (wrapU (by omega))) ?_
 refine qM (.int .u64 36) ?_
 refine qe (zA (zB ?_))
 refine zW ?_
 refine yL (fun (k : Nat) (en : Nat → Value) (W : World) => ∃ (o : Nat → Value) (uz : Int) (iz : Int) (L : List UInt8), en = (upd (upd (upd (upd (upd (upd (upd (upd (upd o 0 v) 1 (.int .u64 uz)) 3 (.bool false)) 4 (.bool true)) 10 (.slice none 0 0)) 11 (.string (⟨#[]⟩ : ByteArray))) 12 (.pointer (some ⟨a, 0, none⟩))) 13 (vJ iz)) 17 (.int .u64 36)) ∧ k = uz.toNat ∧ Ext (inO v.ownBlock) G w G W ∧ (L.length = 65) ∧ (0 ≤ uz ∧ uz ≤ 9223372036854775807) ∧ (iz ≤ 65) ∧ (dig36 i.toNat = dig36 uz.toNat ++ L.drop iz.toNat) ∧ (Own eByte 5 G W 0 v (xs)) ∧ (Bx G W a (arrV (L)))) _ ⟨_, i, 65, List.replicate 65 0, (pS 17 (pS 13 (pS 12 (pS 11 (pS 10 (pS 4 (pS 3 (pS 1 (pU 0))))))))), rfl, m, List.length_replicate, hi, (Int.le_refl _), (by simp), ab, y⟩ ?_
 rintro a1 _ a2 ⟨o, uz, iz, L, rfl, a3, b, hL, hu, hiz, hd, q, r⟩
 have hpl := dig_place hd hL (by omega)
 refine zB (zB (zC ?_))
 refine qM (.int .u64 uz) ?_
 refine qM (.int .u64 36) ?_
 refine qD rfl (r_geq rfl rfl) ?_
 refine qe (zA ?_)
 refine yD (p := (36 : Int) ≤ uz) rfl rfl (fun ac => ?_) (fun ac => ?_)
 ·skip
  refine wp_skip ?_
  refine zA ?_
  refine zW ?_
  refine zB (zC ?_)
  refine qM (vJ iz) ?_
  refine qD rfl (r_sub rfl rfl (by omega)) ?_
  refine qM (vJ (iz - 1)) ?_
  refine qe (zA (zB (zC ?_)))
  refine qM (.int .u64 uz) ?_
  refine qM (.int .u64 36) ?_
  refine qD rfl (r_quoX rfl rfl (by omega) (by omega) (by omega)) ?_
  refine qM (.int .u64 (uz / 36)) ?_
  refine qe (zA (zB (zC ?_)))
  refine qM (vJ (iz - 1)) ?_
  refine qM (.int .u64 uz) ?_
  refine qM (.int .u64 (uz / 36)) ?_
  refine qM (.int .u64 36) ?_
  refine qD rfl (r_mulX rfl rfl (by omega)) ?_
  refine qD rfl (r_subX rfl rfl (by omega)) ?_
  refine qD rfl (r_digit Tryz.underlying9 rfl rfl (by omega)) ?_
  refine qD rfl (r_idxb (k := (iz - 1).toNat) Tryz.underlying211 sz5 rfl rfl (by omega) (by omega) (by omega)) ?_
  refine q0 rfl rfl rfl (o_stpk (k := (iz - 1).toNat) (x0 := digC (uz - ((uz / 36) * 36)).toNat) sz5 rfl rfl (by first | omega | (simp only [List.length_set]; omega)) b.pins r (fun a4 ad ae s a5 => ?_))
  have af := b.write ae s ((yT g))
  have ag := q.keptA s f.symm
  refine qe (zA (zC ?_))
  refine qM (.int .u64 (uz / 36)) ?_
  refine qM (.int .u64 (uz / 36)) ?_
  refine qe ?_
  refine yH ?_
  refine yG ?_
  refine ⟨_, ?_, _, rfl, _, uz / 36, iz - 1, L.set (iz - 1).toNat (digC (uz - ((uz / 36) * 36)).toNat), (pS 17 (pS 13 (pS 12 (pS 11 (pS 10 (pS 4 (pS 3 (pS 1 (pU 0))))))))), rfl, af, (by rw [List.length_set]; exact hL), (by omega), (by omega), (dig_step hd hL (by omega) (by omega)), ag, ad⟩
  omega
 refine wp_exit ?_
 refine zX ?_
 refine yJ ?_
 refine yI ?_
 refine zA (zB (zC ?_))
 refine qM (vJ iz) ?_
 refine qD rfl (r_sub rfl rfl (by omega)) ?_
 refine qM (vJ (iz - 1)) ?_
 refine qe (zA (zC ?_))
 refine qM (vJ (iz - 1)) ?_
 refine qM (.int .u64 uz) ?_
 refine qD rfl (r_digit Tryz.underlying9 rfl rfl (by omega)) ?_
 refine qD rfl (r_idxb (k := (iz - 1).toNat) Tryz.underlying211 sz5 rfl rfl (by omega) (by omega) (by omega)) ?_
 refine q0 rfl rfl rfl (o_stpk (k := (iz - 1).toNat) (x0 := digC (uz).toNat) sz5 rfl rfl (by first | omega | (simp only [List.length_set]; omega)) b.pins r (fun a6 ah ai t a7 => ?_))
 have aj := b.write ai t ((yT g))
 have ak := q.keptA t f.symm
 refine qe (zA (zB (zB (zC ?_))))
 refine qM (.bool false) ?_
 refine qe (zA ?_)
 refine c_ifF rfl rfl ?_
 refine wp_skip ?_
 refine zA (zB (zB (zC ?_)))
 refine qM (.bool true) ?_
 refine qe (zA ?_)
 refine c_ifT rfl rfl ?_
 refine zB (zC ?_)
 refine qM v ?_
 refine qM (vJ (iz - 1)) ?_
 obtain ⟨a8, al, c, am, an⟩ := ah.shut aj g
 have ao := ak.moreA al an f.symm
 obtain ⟨ap, aq, ar⟩ := name_arr (z := iz - 1) (n := 65) am (by rw [List.length_set]; exact hL) (by omega) (by decide)
 refine qD rfl (ar Tryz.underlying211 sz5 rfl rfl) ?_
 refine qI rfl (oA (E := eByte) (v := v) (u := ap) 1 Tryz.underlying132 ap5 (by decide) rfl rfl c.pins ao ((aq.mono (Pin.le_refl _)).src c.pins (by decide)) (Nat.zero_le _) (fun h a9 au av aw ax => ?_))
 have ay := c.write av aw (hlov)
 have az : Lo w (inO v.ownBlock) h.ownBlock := lo_app hlov ax c.size
 have ba : (xs ++ ((L.set (iz - 1).toNat (digC (uz).toNat)).drop (iz - 1).toNat)).length = xs.length + ((L.set (iz - 1).toNat (digC (uz).toNat)).drop (iz - 1).toNat).length := List.length_append
 refine qM h ?_
 refine qe (zA ?_)
 refine wp_ret ?_
 refine zT ?_
 refine c_ret2 (v := h) (u := (.string (⟨#[]⟩ : ByteArray))) rfl rfl rfl rfl rfl ?_
 have hown := au
 rw [dig_last hd hL (by omega) (by omega)] at hown
 exact ⟨_, _, rfl, hown, az, ay⟩

theorem appendUint_spec {w : World} {G : Pin} {v : Value} {xs : List UInt8} {i : Int} (hP : Pins G w) (hv : Own eByte 5 G w 0 v xs) (hxl : xs.length ≤ 1099511627776) (hi : 0 ≤ i ∧ i ≤ 9223372036854775807) :
  Calls Tryz.prog 193 [v, (.int .u64 i), (.int .i64 36)].toArray w fun e w' => ∃ (u : Value) (G' : Pin), e = .returned u ∧ Own eByte 5 G' w' 0 u (xs ++ dig36 i.toNat) ∧ Lo w (inO v.ownBlock) u.ownBlock ∧ Ext (inO v.ownBlock) G w G' w' := by
 refine zZ (n := 36) Tryz.func193 Tryz.ntmps193 rfl rfl ?_
 have b : Ext (inO v.ownBlock) G w G w := Ext.refl hP
 have hlov : Lo w (inO v.ownBlock) v.ownBlock := lo_self
 refine zB (zC ?_)
 refine qM (.slice none 0 0) ?_
 refine qe (zA (zB (zB (zC ?_))))
 refine qM (.int .i64 36) ?_
 refine qD rfl (r_eql rfl rfl) ?_
 refine qe (zA ?_)
 refine c_ifF rfl rfl ?_
 refine wp_skip ?_
 refine zA (zB (zC ?_))
 refine qM v ?_
 refine qM (.int .u64 i) ?_
 refine qM (.int .i64 36) ?_
 refine qI rfl (zL (vs := [v, (.int .u64 i), (.int .i64 36), (.bool false), (.bool true)]) Tryz.func214 nm214 rfl rfl rfl ?_)
 refine Calls.mono (formatBits_spec (i := i) b.pins hv (by omega) (by omega)) ?_
 rintro _ j ⟨a, k, rfl, c, d, f⟩
 refine ⟨_, rfl, ?_⟩
 have g := b.trans f (fun i hi => hlov i hi)
 have h := lo_turn d hlov b.size
 have l : (xs ++ dig36 (i).toNat).length = xs.length + (dig36 (i).toNat).length := List.length_append
 refine qM (.tuple #[a, (.string (⟨#[]⟩ : ByteArray))]) ?_
 refine qD rfl (xJ (v := a) rfl rfl) ?_
 refine qD rfl (xJ (v := (.string (⟨#[]⟩ : ByteArray))) rfl rfl) ?_
 refine qM a ?_
 refine qe (zA (zB (zC ?_)))
 refine qM a ?_
 refine qM a ?_
 refine qe (zA ?_)
 refine wp_ret ?_
 refine zT ?_
 refine zP (v := a) rfl rfl rfl ?_
 exact ⟨_, _, rfl, c, h, g⟩

theorem iAppendInt_spec {w : World} {G : Pin} {v : Value} {xs : List UInt8} {i : Int} (hP : Pins G w) (hv : Own eByte 5 G w 0 v xs) (hxl : xs.length ≤ 1099511627776) (hi : 0 ≤ i ∧ i ≤ 9223372036854775807) :
  Calls Tryz.prog 161 [v, (.int .i64 i), (.int .i64 36)].toArray w fun e w' => ∃ (u : Value) (G' : Pin), e = .returned u ∧ Own eByte 5 G' w' 0 u (xs ++ dig36 i.toNat) ∧ Lo w (inO v.ownBlock) u.ownBlock ∧ Ext (inO v.ownBlock) G w G' w' := by
 refine zZ (n := 21) Tryz.func161 Tryz.ntmps161 rfl rfl ?_
 have a : Ext (inO v.ownBlock) G w G w := Ext.refl hP
 have hlov : Lo w (inO v.ownBlock) v.ownBlock := lo_self
 refine zB (zC ?_)
 refine qM (.slice none 0 0) ?_
 refine qe (zA (zB (zC ?_)))
 refine qM (.int .i64 i) ?_
 refine qD rfl (r_conv (j := i) Tryz.underlying2 Tryz.underlying175 rfl (wrapU (by omega))) ?_
 refine qM (.int .u64 i) ?_
 refine qe (zA (zB (zB (zC ?_))))
 refine qM (.int .i64 i) ?_
 refine qD rfl (yM rfl rfl) ?_
 refine qe (zA ?_)
 refine yD (p := (i : Int) < 0) rfl rfl (fun c => ?_) (fun c => ?_)
 ·skip
  exfalso; omega
 refine wp_skip ?_
 refine zA (zB (zC ?_))
 refine qM v ?_
 refine qM (.int .u64 i) ?_
 refine qM (.int .i64 36) ?_
 refine qI rfl (zL (vs := [v, (.int .u64 i), (.int .i64 36)]) Tryz.func193 nm193 rfl rfl rfl ?_)
 refine Calls.mono (appendUint_spec (i := i) a.pins hv (by omega) (by omega)) ?_
 rintro _ l ⟨b, m, rfl, d, f, g⟩
 refine ⟨_, rfl, ?_⟩
 have h := a.trans g (fun i hi => hlov i hi)
 have k := lo_turn f hlov a.size
 have o : (xs ++ dig36 (i).toNat).length = xs.length + (dig36 (i).toNat).length := List.length_append
 refine qM b ?_
 refine qe (zA ?_)
 refine wp_ret ?_
 refine zT ?_
 refine zP (v := b) rfl rfl rfl ?_
 exact ⟨_, _, rfl, d, k, h⟩

theorem appendInt_spec {w : World} {G : Pin} {v : Value} {xs : List UInt8} {i : Int} (hP : Pins G w) (hv : Own eByte 5 G w 0 v xs) (hxl : xs.length ≤ 1099511627776) (hi : 0 ≤ i ∧ i ≤ 9223372036854775807) :
  Calls Tryz.prog 130 [v, (.int .i64 i), (.int .i64 36)].toArray w fun e w' => ∃ (u : Value) (G' : Pin), e = .returned u ∧ Own eByte 5 G' w' 0 u (xs ++ dig36 i.toNat) ∧ Lo w (inO v.ownBlock) u.ownBlock ∧ Ext (inO v.ownBlock) G w G' w' := by
 refine zZ (n := 11) Tryz.func130 Tryz.ntmps130 rfl rfl ?_
 have a : Ext (inO v.ownBlock) G w G w := Ext.refl hP
 have hlov : Lo w (inO v.ownBlock) v.ownBlock := lo_self
 refine zB (zC ?_)
 refine qM (.slice none 0 0) ?_
 refine qe (zA (zB (zC ?_)))
 refine qM v ?_
 refine qM (.int .i64 i) ?_
 refine qM (.int .i64 36) ?_
 refine qI rfl (zL (vs := [v, (.int .i64 i), (.int .i64 36)]) Tryz.func161 nm161 rfl rfl rfl ?_)
 refine Calls.mono (iAppendInt_spec (i := i) a.pins hv (by omega) (by omega)) ?_
 rintro _ j ⟨b, k, rfl, c, d, f⟩
 refine ⟨_, rfl, ?_⟩
 have g := a.trans f (fun i hi => hlov i hi)
 have h := lo_turn d hlov a.size
 have l : (xs ++ dig36 (i).toNat).length = xs.length + (dig36 (i).toNat).length := List.length_append
 refine qM b ?_
 refine qe (zA ?_)
 refine wp_ret ?_
 refine zT ?_
 refine zP (v := b) rfl rfl rfl ?_
 exact ⟨_, _, rfl, c, h, g⟩

end K1
end Go.Proofs.YtfnginkcmcfdfaaGreatDoor

namespace Go.Proofs
open Go.Shelf
def Tryz.lays189_ren : Go.Shelf.Ren := ⟨fun | 189 => 152 | 125 => 151 | 257 => 179 | 128 => 177 | 129 => 178 | 294 => 199 | 295 => 200 | 296 => 201 | 297 => 202 | 298 => 203 | 299 => 204 | 216 => 205 | 300 => 206 | 301 => 207 | 328 => 216 | 329 => 195 | 330 => 196 | 331 => 217 | 332 => 218 | 215 => 141 | 343 => 224 | n => n, fun | 28 => 65 | 3 => 3 | 46 => 155 | 0 => 0 | 51 => 173 | 53 => 175 | 4 => 4 | 183 => 167 | 182 => 166 | 131 => 49 | 5 => 5 | 9 => 9 | 218 => 186 | 222 => 190 | 228 => 203 | 229 => 204 | n => n, fun | n => n⟩
theorem Tryz.lays189 : Go.Proofs.Lays.n189 Tryz.prog Tryz.lays189_ren := {
 mixed := by kernel_rfl
 f125 := Tryz.func151.trans (congrArg some (by kernel_rfl))
 f128 := Tryz.func177.trans (congrArg some (by kernel_rfl))
 f129 := Tryz.func178.trans (congrArg some (by kernel_rfl))
 f189 := Tryz.func152.trans (congrArg some (by kernel_rfl))
 f215 := Tryz.func141.trans (congrArg some (by kernel_rfl))
 f216 := Tryz.func205.trans (congrArg some (by kernel_rfl))
 f257 := Tryz.func179.trans (congrArg some (by kernel_rfl))
 f294 := Tryz.func199.trans (congrArg some (by kernel_rfl))
 f295 := Tryz.func200.trans (congrArg some (by kernel_rfl))
 f296 := Tryz.func201.trans (congrArg some (by kernel_rfl))
 f297 := Tryz.func202.trans (congrArg some (by kernel_rfl))
 f298 := Tryz.func203.trans (congrArg some (by kernel_rfl))
 f299 := Tryz.func204.trans (congrArg some (by kernel_rfl))
 f300 := Tryz.func206.trans (congrArg some (by kernel_rfl))
 f301 := Tryz.func207.trans (congrArg some (by kernel_rfl))
 f328 := Tryz.func216.trans (congrArg some (by kernel_rfl))
 f329 := Tryz.func195.trans (congrArg some (by kernel_rfl))
 f330 := Tryz.func196.trans (congrArg some (by kernel_rfl))
 f331 := Tryz.func217.trans (congrArg some (by kernel_rfl))
 f332 := Tryz.func218.trans (congrArg some (by kernel_rfl))
 f343 := Tryz.func224.trans (congrArg some (by kernel_rfl))
 t0 := Tryz.underlying0
 a0 := Tryz.isAgg0
 z0 := Tryz.sizeOf0
 v0 := Tryz.zeroValue0
 t3 := Tryz.underlying3
 a3 := Tryz.isAgg3
 z3 := Tryz.sizeOf3
 v3 := Tryz.zeroValue3
 t4 := Tryz.underlying4
 a4 := Tryz.isAgg4
 z4 := Tryz.sizeOf4
 v4 := Tryz.zeroValue4
 t5 := Tryz.underlying5
 a5 := Tryz.isAgg5
 z5 := Tryz.sizeOf5
 v5 := Tryz.zeroValue5
 t9 := Tryz.underlying9
 a9 := Tryz.isAgg9
 z9 := Tryz.sizeOf9
 v9 := Tryz.zeroValue9
 t28 := Tryz.underlying65
 a28 := Tryz.isAgg65
 z28 := Tryz.sizeOf65
 v28 := Tryz.zeroValue65
 t46 := Tryz.underlying155
 a46 := Tryz.isAgg155
 z46 := Tryz.sizeOf155
 v46 := Tryz.zeroValue155
 t51 := Tryz.underlying173
 a51 := Tryz.isAgg173
 z51 := Tryz.sizeOf173
 v51 := Tryz.zeroValue173
 t53 := Tryz.underlying175
 a53 := Tryz.isAgg175
 z53 := Tryz.sizeOf175
 v53 := Tryz.zeroValue175
 t131 := Tryz.underlying49
 a131 := Tryz.isAgg49
 z131 := Tryz.sizeOf49
 v131 := Tryz.zeroValue49
 t182 := Tryz.underlying166
 a182 := Tryz.isAgg166
 z182 := Tryz.sizeOf166
 v182 := Tryz.zeroValue166
 t183 := Tryz.underlying167
 a183 := Tryz.isAgg167
 z183 := Tryz.sizeOf167
 v183 := Tryz.zeroValue167
 t218 := Tryz.underlying186
 a218 := Tryz.isAgg186
 z218 := Tryz.sizeOf186
 v218 := Tryz.zeroValue186
 t222 := Tryz.underlying190
 a222 := Tryz.isAgg190
 z222 := Tryz.sizeOf190
 v222 := Tryz.zeroValue190
 t228 := Tryz.underlying203
 a228 := Tryz.isAgg203
 z228 := Tryz.sizeOf203
 v228 := Tryz.zeroValue203
 t229 := Tryz.underlying204
 a229 := Tryz.isAgg204
 z229 := Tryz.sizeOf204
 v229 := Tryz.zeroValue204 }
open Go.Sort Go.RowKit in
theorem Tryz.slices_Sort_int (blk off cap : Nat) (zs : List Int) (w : World) (hH : Holds (Value.int .i64) w blk off zs.toArray) (hblk : blk < w.heap.size) (hsz : zs.length < 4611686018427387904) :
  Calls Tryz.prog 152 #[.slice (some ⟨blk, off, none⟩) zs.length cap] w fun e w' =>
   e = .returned (.tuple #[]) ∧ ∃ n os, w' = grow (putRow (Value.int .i64) (Sort.ahead w n) blk off (zs.mergeSort fun x y => decide (x ≤ y)).toArray) os := Any.slices_Sort_int Tryz.lays189 blk off cap zs w hH hblk hsz
def Tryz.laysNm220_ren : Go.Shelf.Ren := ⟨fun | 20 => 160 | n => n, fun | 22 => 65 | 3 => 3 | 4 => 4 | 0 => 0 | n => n, fun | n => n⟩
theorem Tryz.laysNm220 : Go.Proofs.Lays2.n20 Tryz.prog Tryz.laysNm220_ren := {
 mixed := by kernel_rfl
 f20 := Tryz.func160.trans (congrArg some (by kernel_rfl))
 t0 := Tryz.underlying0
 a0 := Tryz.isAgg0
 z0 := Tryz.sizeOf0
 v0 := Tryz.zeroValue0
 t3 := Tryz.underlying3
 a3 := Tryz.isAgg3
 z3 := Tryz.sizeOf3
 v3 := Tryz.zeroValue3
 t4 := Tryz.underlying4
 a4 := Tryz.isAgg4
 z4 := Tryz.sizeOf4
 v4 := Tryz.zeroValue4
 t22 := Tryz.underlying65
 a22 := Tryz.isAgg65
 z22 := Tryz.sizeOf65
 v22 := Tryz.zeroValue65
 i3 := by kernel_rfl }
open Go.RowKit Go.Lib Go.Sort in
theorem Tryz.slices_Compact_int (blk off cap : Nat) (zs : List Int) (w : World) (hH : Holds (Value.int .i64) w blk off zs.toArray) (hsz : zs.length ≤ 9223372036854775807) (hcap : zs.length ≤ cap) :
  Calls Tryz.prog 160 #[.slice (some ⟨blk, off, none⟩) zs.length cap] w fun e w' => e = .returned (.slice (some ⟨blk, off, none⟩) (Lib.compact zs).length cap) ∧ ∃ q, w' = putRow (Value.int .i64) (Sort.ahead w q) blk off (Lib.compact zs ++ List.replicate (zs.length - (Lib.compact zs).length) 0).toArray := Any.slices_Compact_int Tryz.laysNm220 blk off cap zs w hH hsz hcap
open Go.RowKit Go.Lib Go.Sort in
theorem Tryz.slices_Compact_int_empty (a : Option Addr) (cap : Nat) (w : World) :
  Calls Tryz.prog 160 #[.slice a 0 cap] w fun e w' => e = .returned (.slice a 0 cap) ∧ w' = w := Any.slices_Compact_int_empty Tryz.laysNm220 a cap w
open Go.RowKit Go.Sort in
theorem Tryz.slices_Sort_int_none (p : Option Addr) (cap : Nat) (w : World) :
  Calls Tryz.prog 152 #[.slice p 0 cap] w fun e w' => e = .returned (.tuple #[]) ∧ w' = w := Any.slices_Sort_int_none Tryz.lays189 p cap w
def Tryz.laysSlF6_f115_ren : Go.Shelf.Ren := ⟨fun | 6 => 115 | 15 => 151 | 14 => 150 | 28 => 177 | 29 => 178 | 20 => 169 | 21 => 170 | 22 => 171 | 23 => 172 | 24 => 173 | 25 => 174 | 26 => 175 | 27 => 176 | 46 => 194 | 47 => 195 | 48 => 196 | 49 => 197 | 50 => 198 | 57 => 215 | n => n, fun | 22 => 65 | 24 => 3 | 25 => 87 | 3 => 3 | 39 => 155 | 0 => 0 | 53 => 173 | 55 => 175 | 4 => 4 | 46 => 167 | 45 => 166 | 50 => 49 | 5 => 5 | 9 => 9 | 66 => 186 | 70 => 190 | 76 => 203 | 77 => 204 | n => n, fun | n => n⟩
theorem Tryz.laysSlF6_f115 : Go.Proofs.SlLaysF.n6 Tryz.prog Tryz.laysSlF6_f115_ren := {
 mixed := by kernel_rfl
 f6 := ⟨Tryz.f115.name, by decide, Tryz.func115.trans (congrArg some (by kernel_rfl))⟩
 f14 := ⟨Tryz.f150.name, by decide, Tryz.func150.trans (congrArg some (by kernel_rfl))⟩
 f15 := Tryz.func151.trans (congrArg some (by kernel_rfl))
 f20 := ⟨Tryz.f169.name, by decide, Tryz.func169.trans (congrArg some (by kernel_rfl))⟩
 f21 := ⟨Tryz.f170.name, by decide, Tryz.func170.trans (congrArg some (by kernel_rfl))⟩
 f22 := ⟨Tryz.f171.name, by decide, Tryz.func171.trans (congrArg some (by kernel_rfl))⟩
 f23 := ⟨Tryz.f172.name, by decide, Tryz.func172.trans (congrArg some (by kernel_rfl))⟩
 f24 := ⟨Tryz.f173.name, by decide, Tryz.func173.trans (congrArg some (by kernel_rfl))⟩
 f25 := ⟨Tryz.f174.name, by decide, Tryz.func174.trans (congrArg some (by kernel_rfl))⟩
 f26 := ⟨Tryz.f175.name, by decide, Tryz.func175.trans (congrArg some (by kernel_rfl))⟩
 f27 := ⟨Tryz.f176.name, by decide, Tryz.func176.trans (congrArg some (by kernel_rfl))⟩
 f28 := Tryz.func177.trans (congrArg some (by kernel_rfl))
 f29 := Tryz.func178.trans (congrArg some (by kernel_rfl))
 f46 := ⟨Tryz.f194.name, by decide, Tryz.func194.trans (congrArg some (by kernel_rfl))⟩
 f47 := Tryz.func195.trans (congrArg some (by kernel_rfl))
 f48 := Tryz.func196.trans (congrArg some (by kernel_rfl))
 f49 := ⟨Tryz.f197.name, by decide, Tryz.func197.trans (congrArg some (by kernel_rfl))⟩
 f50 := ⟨Tryz.f198.name, by decide, Tryz.func198.trans (congrArg some (by kernel_rfl))⟩
 f57 := ⟨Tryz.f215.name, by decide, Tryz.func215.trans (congrArg some (by kernel_rfl))⟩
 t0 := Tryz.underlying0
 a0 := Tryz.isAgg0
 z0 := Tryz.sizeOf0
 v0 := Tryz.zeroValue0
 t3 := Tryz.underlying3
 a3 := Tryz.isAgg3
 z3 := Tryz.sizeOf3
 v3 := Tryz.zeroValue3
 t4 := Tryz.underlying4
 a4 := Tryz.isAgg4
 z4 := Tryz.sizeOf4
 v4 := Tryz.zeroValue4
 t5 := Tryz.underlying5
 a5 := Tryz.isAgg5
 z5 := Tryz.sizeOf5
 v5 := Tryz.zeroValue5
 t9 := Tryz.underlying9
 a9 := Tryz.isAgg9
 z9 := Tryz.sizeOf9
 v9 := Tryz.zeroValue9
 t22 := Tryz.underlying65
 a22 := Tryz.isAgg65
 z22 := Tryz.sizeOf65
 v22 := Tryz.zeroValue65
 a24 := Tryz.isAgg3
 z24 := Tryz.sizeOf3
 t25 := Tryz.underlying87
 a25 := Tryz.isAgg87
 z25 := Tryz.sizeOf87
 v25 := Tryz.zeroValue87
 t39 := Tryz.underlying155
 a39 := Tryz.isAgg155
 z39 := Tryz.sizeOf155
 v39 := Tryz.zeroValue155
 t45 := Tryz.underlying166
 a45 := Tryz.isAgg166
 z45 := Tryz.sizeOf166
 v45 := Tryz.zeroValue166
 t46 := Tryz.underlying167
 a46 := Tryz.isAgg167
 z46 := Tryz.sizeOf167
 v46 := Tryz.zeroValue167
 t50 := Tryz.underlying49
 a50 := Tryz.isAgg49
 z50 := Tryz.sizeOf49
 v50 := Tryz.zeroValue49
 t53 := Tryz.underlying173
 a53 := Tryz.isAgg173
 z53 := Tryz.sizeOf173
 v53 := Tryz.zeroValue173
 t55 := Tryz.underlying175
 a55 := Tryz.isAgg175
 z55 := Tryz.sizeOf175
 v55 := Tryz.zeroValue175
 t66 := Tryz.underlying186
 a66 := Tryz.isAgg186
 z66 := Tryz.sizeOf186
 v66 := Tryz.zeroValue186
 t70 := Tryz.underlying190
 a70 := Tryz.isAgg190
 z70 := Tryz.sizeOf190
 v70 := Tryz.zeroValue190
 t76 := Tryz.underlying203
 a76 := Tryz.isAgg203
 z76 := Tryz.sizeOf203
 v76 := Tryz.zeroValue203
 t77 := Tryz.underlying204
 a77 := Tryz.isAgg204
 z77 := Tryz.sizeOf204
 v77 := Tryz.zeroValue204 }
open Go.RowKit Go.Lib Go.Sort in
theorem Tryz.slices_SortFunc {α : Type} [Inhabited α] (enc : α → Value) (h1 : OneCell enc) (cf : α → α → Int) (hO : SWO (ltOf cf)) (g : Nat) (cb : Array Value) (blk off cap : Nat) (d : Array α) (w : World) (eg : ∀ args w, (callFunc g args).run Tryz.prog w = .ok (.enter g args) w) (hcmp : CmpLays1 Tryz.prog g cb enc cf blk off d.size w) (hH : Holds enc w blk off d) (hblk : blk < w.heap.size) (hsz : d.size < 4611686018427387904) :
  Calls Tryz.prog 115 #[.slice (some ⟨blk, off, none⟩) d.size cap, .func (.func g) #[] cb] w fun e w' =>
   e = .returned (.tuple #[]) ∧ ∃ d' n os, PermIn 0 d.size d d' ∧ SortedIn (ltOf cf) 0 d.size d' ∧ w' = sortWorld enc w blk off n d' os := Any.slices_SortFunc Tryz.laysSlF6_f115 enc h1 cf hO g cb blk off cap d w eg hcmp hH hblk hsz
def Tryz.laysSlF06_f115_ren : Go.Shelf.Ren := ⟨fun | 6 => 115 | 15 => 151 | 14 => 150 | 28 => 177 | 29 => 178 | 20 => 169 | 21 => 170 | 22 => 171 | 23 => 172 | 24 => 173 | 25 => 174 | 26 => 175 | 27 => 176 | 46 => 194 | 47 => 195 | 48 => 196 | 49 => 197 | 50 => 198 | 57 => 215 | n => n, fun | 22 => 65 | 24 => 3 | 25 => 87 | 3 => 3 | 39 => 155 | 0 => 0 | 53 => 173 | 55 => 175 | 4 => 4 | 46 => 167 | 45 => 166 | 50 => 49 | 5 => 5 | 9 => 9 | 66 => 186 | 70 => 190 | 76 => 203 | 77 => 204 | n => n, fun | n => n⟩
theorem Tryz.laysSlF06_f115 : Go.Proofs.SlLaysF0.n6 Tryz.prog Tryz.laysSlF06_f115_ren := {
 mixed := by kernel_rfl
 f6 := ⟨Tryz.f115.name, by decide, Tryz.func115.trans (congrArg some (by kernel_rfl))⟩
 f14 := ⟨Tryz.f150.name, by decide, Tryz.func150.trans (congrArg some (by kernel_rfl))⟩
 f15 := Tryz.func151.trans (congrArg some (by kernel_rfl))
 f20 := ⟨Tryz.f169.name, by decide, Tryz.func169.trans (congrArg some (by kernel_rfl))⟩
 f21 := ⟨Tryz.f170.name, by decide, Tryz.func170.trans (congrArg some (by kernel_rfl))⟩
 f22 := ⟨Tryz.f171.name, by decide, Tryz.func171.trans (congrArg some (by kernel_rfl))⟩
 f23 := ⟨Tryz.f172.name, by decide, Tryz.func172.trans (congrArg some (by kernel_rfl))⟩
 f24 := ⟨Tryz.f173.name, by decide, Tryz.func173.trans (congrArg some (by kernel_rfl))⟩
 f25 := ⟨Tryz.f174.name, by decide, Tryz.func174.trans (congrArg some (by kernel_rfl))⟩
 f26 := ⟨Tryz.f175.name, by decide, Tryz.func175.trans (congrArg some (by kernel_rfl))⟩
 f27 := ⟨Tryz.f176.name, by decide, Tryz.func176.trans (congrArg some (by kernel_rfl))⟩
 f28 := Tryz.func177.trans (congrArg some (by kernel_rfl))
 f29 := Tryz.func178.trans (congrArg some (by kernel_rfl))
 f46 := ⟨Tryz.f194.name, by decide, Tryz.func194.trans (congrArg some (by kernel_rfl))⟩
 f47 := Tryz.func195.trans (congrArg some (by kernel_rfl))
 f48 := Tryz.func196.trans (congrArg some (by kernel_rfl))
 f49 := ⟨Tryz.f197.name, by decide, Tryz.func197.trans (congrArg some (by kernel_rfl))⟩
 f50 := ⟨Tryz.f198.name, by decide, Tryz.func198.trans (congrArg some (by kernel_rfl))⟩
 f57 := ⟨Tryz.f215.name, by decide, Tryz.func215.trans (congrArg some (by kernel_rfl))⟩
 t0 := Tryz.underlying0
 a0 := Tryz.isAgg0
 z0 := Tryz.sizeOf0
 v0 := Tryz.zeroValue0
 t3 := Tryz.underlying3
 a3 := Tryz.isAgg3
 z3 := Tryz.sizeOf3
 v3 := Tryz.zeroValue3
 t4 := Tryz.underlying4
 a4 := Tryz.isAgg4
 z4 := Tryz.sizeOf4
 v4 := Tryz.zeroValue4
 t5 := Tryz.underlying5
 a5 := Tryz.isAgg5
 z5 := Tryz.sizeOf5
 v5 := Tryz.zeroValue5
 t9 := Tryz.underlying9
 a9 := Tryz.isAgg9
 z9 := Tryz.sizeOf9
 v9 := Tryz.zeroValue9
 t22 := Tryz.underlying65
 a22 := Tryz.isAgg65
 z22 := Tryz.sizeOf65
 v22 := Tryz.zeroValue65
 t25 := Tryz.underlying87
 a25 := Tryz.isAgg87
 z25 := Tryz.sizeOf87
 v25 := Tryz.zeroValue87
 t39 := Tryz.underlying155
 a39 := Tryz.isAgg155
 z39 := Tryz.sizeOf155
 v39 := Tryz.zeroValue155
 t45 := Tryz.underlying166
 a45 := Tryz.isAgg166
 z45 := Tryz.sizeOf166
 v45 := Tryz.zeroValue166
 t46 := Tryz.underlying167
 a46 := Tryz.isAgg167
 z46 := Tryz.sizeOf167
 v46 := Tryz.zeroValue167
 t50 := Tryz.underlying49
 a50 := Tryz.isAgg49
 z50 := Tryz.sizeOf49
 v50 := Tryz.zeroValue49
 t53 := Tryz.underlying173
 a53 := Tryz.isAgg173
 z53 := Tryz.sizeOf173
 v53 := Tryz.zeroValue173
 t55 := Tryz.underlying175
 a55 := Tryz.isAgg175
 z55 := Tryz.sizeOf175
 v55 := Tryz.zeroValue175
 t66 := Tryz.underlying186
 a66 := Tryz.isAgg186
 z66 := Tryz.sizeOf186
 v66 := Tryz.zeroValue186
 t70 := Tryz.underlying190
 a70 := Tryz.isAgg190
 z70 := Tryz.sizeOf190
 v70 := Tryz.zeroValue190
 t76 := Tryz.underlying203
 a76 := Tryz.isAgg203
 z76 := Tryz.sizeOf203
 v76 := Tryz.zeroValue203
 t77 := Tryz.underlying204
 a77 := Tryz.isAgg204
 z77 := Tryz.sizeOf204
 v77 := Tryz.zeroValue204 }
open Go.RowKit Go.Lib Go.Sort in
theorem Tryz.slices_SortFunc_none {α : Type} [Inhabited α] (p : Option Addr) (cap : Nat) (fv : Value) (w : World) :
  Calls Tryz.prog 115 #[.slice p 0 cap, fv] w fun e w' => e = .returned (.tuple #[]) ∧ w' = w := AnyF.slices_SortFunc_none Tryz.laysSlF06_f115 p cap fv w
def Tryz.laysSlF06_f118_ren : Go.Shelf.Ren := ⟨fun | 6 => 118 | 15 => 151 | 14 => 153 | 28 => 177 | 29 => 178 | 20 => 180 | 21 => 181 | 22 => 182 | 23 => 183 | 24 => 184 | 25 => 185 | 26 => 186 | 27 => 187 | 46 => 208 | 47 => 195 | 48 => 196 | 49 => 209 | 50 => 210 | 57 => 219 | n => n, fun | 22 => 121 | 24 => 124 | 25 => 126 | 3 => 3 | 39 => 155 | 0 => 0 | 53 => 173 | 55 => 175 | 4 => 4 | 46 => 167 | 45 => 166 | 50 => 49 | 5 => 5 | 9 => 9 | 66 => 186 | 70 => 190 | 76 => 203 | 77 => 204 | n => n, fun | n => n⟩
theorem Tryz.laysSlF06_f118 : Go.Proofs.SlLaysF0.n6 Tryz.prog Tryz.laysSlF06_f118_ren := {
 mixed := by kernel_rfl
 f6 := ⟨Tryz.f118.name, by decide, Tryz.func118.trans (congrArg some (by kernel_rfl))⟩
 f14 := ⟨Tryz.f153.name, by decide, Tryz.func153.trans (congrArg some (by kernel_rfl))⟩
 f15 := Tryz.func151.trans (congrArg some (by kernel_rfl))
 f20 := ⟨Tryz.f180.name, by decide, Tryz.func180.trans (congrArg some (by kernel_rfl))⟩
 f21 := ⟨Tryz.f181.name, by decide, Tryz.func181.trans (congrArg some (by kernel_rfl))⟩
 f22 := ⟨Tryz.f182.name, by decide, Tryz.func182.trans (congrArg some (by kernel_rfl))⟩
 f23 := ⟨Tryz.f183.name, by decide, Tryz.func183.trans (congrArg some (by kernel_rfl))⟩
 f24 := ⟨Tryz.f184.name, by decide, Tryz.func184.trans (congrArg some (by kernel_rfl))⟩
 f25 := ⟨Tryz.f185.name, by decide, Tryz.func185.trans (congrArg some (by kernel_rfl))⟩
 f26 := ⟨Tryz.f186.name, by decide, Tryz.func186.trans (congrArg some (by kernel_rfl))⟩
 f27 := ⟨Tryz.f187.name, by decide, Tryz.func187.trans (congrArg some (by kernel_rfl))⟩
 f28 := Tryz.func177.trans (congrArg some (by kernel_rfl))
 f29 := Tryz.func178.trans (congrArg some (by kernel_rfl))
 f46 := ⟨Tryz.f208.name, by decide, Tryz.func208.trans (congrArg some (by kernel_rfl))⟩
 f47 := Tryz.func195.trans (congrArg some (by kernel_rfl))
 f48 := Tryz.func196.trans (congrArg some (by kernel_rfl))
 f49 := ⟨Tryz.f209.name, by decide, Tryz.func209.trans (congrArg some (by kernel_rfl))⟩
 f50 := ⟨Tryz.f210.name, by decide, Tryz.func210.trans (congrArg some (by kernel_rfl))⟩
 f57 := ⟨Tryz.f219.name, by decide, Tryz.func219.trans (congrArg some (by kernel_rfl))⟩
 t0 := Tryz.underlying0
 a0 := Tryz.isAgg0
 z0 := Tryz.sizeOf0
 v0 := Tryz.zeroValue0
 t3 := Tryz.underlying3
 a3 := Tryz.isAgg3
 z3 := Tryz.sizeOf3
 v3 := Tryz.zeroValue3
 t4 := Tryz.underlying4
 a4 := Tryz.isAgg4
 z4 := Tryz.sizeOf4
 v4 := Tryz.zeroValue4
 t5 := Tryz.underlying5
 a5 := Tryz.isAgg5
 z5 := Tryz.sizeOf5
 v5 := Tryz.zeroValue5
 t9 := Tryz.underlying9
 a9 := Tryz.isAgg9
 z9 := Tryz.sizeOf9
 v9 := Tryz.zeroValue9
 t22 := Tryz.underlying121
 a22 := Tryz.isAgg121
 z22 := Tryz.sizeOf121
 v22 := Tryz.zeroValue121
 t25 := Tryz.underlying126
 a25 := Tryz.isAgg126
 z25 := Tryz.sizeOf126
 v25 := Tryz.zeroValue126
 t39 := Tryz.underlying155
 a39 := Tryz.isAgg155
 z39 := Tryz.sizeOf155
 v39 := Tryz.zeroValue155
 t45 := Tryz.underlying166
 a45 := Tryz.isAgg166
 z45 := Tryz.sizeOf166
 v45 := Tryz.zeroValue166
 t46 := Tryz.underlying167
 a46 := Tryz.isAgg167
 z46 := Tryz.sizeOf167
 v46 := Tryz.zeroValue167
 t50 := Tryz.underlying49
 a50 := Tryz.isAgg49
 z50 := Tryz.sizeOf49
 v50 := Tryz.zeroValue49
 t53 := Tryz.underlying173
 a53 := Tryz.isAgg173
 z53 := Tryz.sizeOf173
 v53 := Tryz.zeroValue173
 t55 := Tryz.underlying175
 a55 := Tryz.isAgg175
 z55 := Tryz.sizeOf175
 v55 := Tryz.zeroValue175
 t66 := Tryz.underlying186
 a66 := Tryz.isAgg186
 z66 := Tryz.sizeOf186
 v66 := Tryz.zeroValue186
 t70 := Tryz.underlying190
 a70 := Tryz.isAgg190
 z70 := Tryz.sizeOf190
 v70 := Tryz.zeroValue190
 t76 := Tryz.underlying203
 a76 := Tryz.isAgg203
 z76 := Tryz.sizeOf203
 v76 := Tryz.zeroValue203
 t77 := Tryz.underlying204
 a77 := Tryz.isAgg204
 z77 := Tryz.sizeOf204
 v77 := Tryz.zeroValue204 }
open Go.RowKit Go.Lib Go.Sort in
theorem Tryz.slices_SortFunc_ent {α : Type} [Inhabited α] (k : Nat) (aE : ∀ w, (isAgg (Tryz.laysSlF06_f118_ren.t 24)).run Tryz.prog w = .ok true w) (zE : ∀ w, (Go.sizeOf (Tryz.laysSlF06_f118_ren.t 24)).run Tryz.prog w = .ok k w) (enc : α → List Value) (hk : ∀ x, (enc x).length = k) (h1 : ∀ x, ∀ v ∈ enc x, v.oneCell' = true) (cf : α → α → Int) (hO : SWO (ltOf cf)) (g : Nat) (cb : Array Value) (blk off cap : Nat) (d : Array α) (w : World)
  (eg : ∀ args w, (callFunc g args).run Tryz.prog w = .ok (.enter g args) w) (hcmp : CmpLays Tryz.prog g cb enc k cf blk off d.size w) (hH : HoldsK enc k w blk off d) (hblk : blk < w.heap.size) (hsz : d.size < 4611686018427387904) :
  Calls Tryz.prog 118 #[.slice (some ⟨blk, off, none⟩) d.size cap, .func (.func g) #[] cb] w fun e w' =>
   e = .returned (.tuple #[]) ∧ ∃ d' n os, PermIn 0 d.size d d' ∧ SortedIn (ltOf cf) 0 d.size d' ∧ w' = sortWorldK enc k w blk off n d' os := AnyQ.slices_SortFunc Tryz.laysSlF06_f118 k aE zE enc hk h1 cf hO g cb blk off cap d w eg hcmp hH hblk hsz
open Go.RowKit Go.Lib Go.Sort in
theorem Tryz.slices_SortFunc_ent_none {α : Type} [Inhabited α] (p : Option Addr) (cap : Nat) (fv : Value) (w : World) :
  Calls Tryz.prog 118 #[.slice p 0 cap, fv] w fun e w' => e = .returned (.tuple #[]) ∧ w' = w := AnyF.slices_SortFunc_none Tryz.laysSlF06_f118 p cap fv w
end Go.Proofs

set_option maxRecDepth 20000
set_option maxHeartbeats 2000000
namespace Go.Proofs.YtfnginkcmcfdfaaGreatDoor
namespace PO1
open Go.RowKit Go.GL Go.Proofs
open Go.Proofs.YtfnginkcmcfdfaaGreatDoor.B1
open Go.Proofs.YtfnginkcmcfdfaaGreatDoor.K1







theorem mk5 : (Tryz.prog.info? 5).map (fun i => (i.size, i.bytes, i.zero)) = some (1, 1, some (.int .u8 0)) := by kernel_rfl















theorem clone_spec {w : World} {G : Pin} {v : Value} {xs : List Int} (hP : Pins G w) (hv : RSl eInt G v xs) (hs : xs.length ≤ 1048576) :
  Calls Tryz.prog 159 [v].toArray w fun e w' => ∃ (u : Value) (G' : Pin), e = .returned u ∧ Own eInt 3 G' w' w.heap.size u xs ∧ Ext noS G w G' w' := by
 refine zZ (n := 8) Tryz.func159 Tryz.ntmps159 rfl rfl ?_
 have a : Ext noS G w G w := Ext.refl hP
 refine zB (zC ?_)
 refine qM (.slice none 0 0) ?_
 refine qe (zA (zB (zB (zC ?_))))
 refine qM v ?_
 refine qD rfl (r_eqlNil Tryz.underlying65 hv rfl rfl) ?_
 refine qe (zA ?_)
 refine c_if rfl rfl (fun c => ?_) (fun c => ?_)
 ·skip
  refine zB (zC ?_)
  refine qM (.slice none 0 0) ?_
  refine qe (zA ?_)
  refine wp_ret ?_
  refine zT ?_
  refine zP (v := (.slice none 0 0)) rfl rfl rfl ?_
  have h := nil_of hv c
  subst h
  exact ⟨_, _, rfl, Own.nil _ _ _ _ _, a⟩
 refine wp_skip ?_
 refine zA (zB (zC ?_))
 refine qI rfl (yY (E := eInt) (e := 3) Tryz.underlying65 sz3 a.pins (fun d i j k l r => ?_))
 have b := a.step k l
 have f : Own eInt 3 G i w.heap.size d ([]) := j.weaken a.size
 refine qM v ?_
 refine qI rfl (oA (E := eInt) (v := d) (u := v) 8 Tryz.underlying65 ap3 (by decide) rfl rfl b.pins f ((hv.mono (Pin.le_refl _)).src b.pins (by decide)) (b.size) (fun g s m o p t => ?_))
 have q := b.write o p ((yC f))
 have x : (([]) ++ xs).length = ([]).length + xs.length := List.length_append
 refine qM g ?_
 refine qe (zA ?_)
 refine wp_ret ?_
 refine zT ?_
 refine zP (v := g) rfl rfl rfl ?_
 exact ⟨_, _, rfl, m, q⟩

theorem sortI_spec {w : World} {G : Pin} {e base : Nat} {v : Value} {xs : List Int} (hP : Pins G w) (hv : Own eInt e G w base v xs) (hl : xs.length ≤ 1073741824) :
  Calls Tryz.prog 152 [v].toArray w fun en w' => ∃ G', en = .returned (.tuple #[]) ∧ Own eInt e G' w' base v (sortM xs) ∧ Ext (inO v.ownBlock) G w G' w' := by
 rcases own_cases hv with ⟨rfl, rfl⟩ | ⟨g, cap, rfl⟩
 ·refine (Tryz.slices_Sort_int_none none 0 w).mono ?_
  rintro en w' ⟨rfl, rfl⟩
  exact ⟨G, rfl, by simpa [sortM] using hv, Ext.refl hP⟩
 ·obtain ⟨_, h1, h2, h3⟩ := own_holds hv
  refine (Tryz.slices_Sort_int g 0 cap xs w h3 h1 (by omega)).mono ?_
  rintro en w' ⟨rfl, m, os, hw⟩
  obtain ⟨a, b, c⟩ := own_put (ys := sortM xs) hv hP hw (sortM_length xs) (List.take_length ..)
  rw [sortM_length] at a
  exact ⟨G, rfl, a, Ext.one b c⟩
theorem compactI_spec {w : World} {G : Pin} {e base : Nat} {v : Value} {xs : List Int} (hP : Pins G w) (hv : Own eInt e G w base v xs) (hl : xs.length ≤ 1073741824) :
  Calls Tryz.prog 160 [v].toArray w fun en w' => ∃ (u : Value) (G' : Pin), en = .returned u ∧ Own eInt e G' w' base u (Go.Lib.compact xs) ∧ Lo w (inO v.ownBlock) u.ownBlock ∧ Ext (inO v.ownBlock) G w G' w' := by
 rcases own_cases hv with ⟨rfl, rfl⟩ | ⟨g, cap, rfl⟩
 ·refine (Tryz.slices_Compact_int_empty none 0 w).mono ?_
  rintro en w' ⟨rfl, rfl⟩
  exact ⟨_, G, rfl, hv, lo_self, Ext.refl hP⟩
 ·obtain ⟨_, h1, h2, h3⟩ := own_holds hv
  refine (Tryz.slices_Compact_int g 0 cap xs w h3 (by omega) h2).mono ?_
  rintro en w' ⟨rfl, m, hw⟩
  have hcl := compact_len xs
  obtain ⟨a, b, c⟩ := own_put (os := #[]) (ys := Go.Lib.compact xs) hv hP (hw.trans (Go.Sort.grow_empty _).symm) (by simp; omega) (List.take_left ..)
  exact ⟨_, G, rfl, a, lo_self, Ext.one b c⟩

theorem distinct_spec {w : World} {G : Pin} {v : Value} {xs : List Int} (hP : Pins G w) (hv : RSl eInt G v xs) (hs : xs.length ≤ 1048576) :
  Calls Tryz.prog 129 [v].toArray w fun e w' => ∃ (u : Value) (G' : Pin), e = .returned u ∧ Own eInt 3 G' w' w.heap.size u (sortL xs) ∧ Ext noS G w G' w' := by
 refine zZ (n := 10) Tryz.func129 Tryz.ntmps129 rfl rfl ?_
 have b : Ext noS G w G w := Ext.refl hP
 refine zB (zC ?_)
 refine qM (.slice none 0 0) ?_
 refine qe (zA (zB (zC ?_)))
 refine qM v ?_
 refine qI rfl (zL (vs := [v]) Tryz.func159 nm159 rfl rfl rfl ?_)
 refine Calls.mono (clone_spec b.pins hv (by omega)) ?_
 rintro _ l ⟨a, m, rfl, o, p⟩
 refine ⟨_, rfl, ?_⟩
 have f := b.tr p
 have g : Own eInt 3 m l w.heap.size a xs := o.weaken b.size
 refine qM a ?_
 refine qe (zA (zB (zC ?_)))
 refine qM a ?_
 refine qI rfl (zL (vs := [a]) Tryz.func152 nm152 rfl rfl rfl ?_)
 refine Calls.mono (sortI_spec f.pins g (by omega)) ?_
 rintro _ z ⟨G8, rfl, c, q⟩
 refine ⟨_, rfl, ?_⟩
 have d := f.trans q (fun i hi => (yC g) i hi)
 have ab := sortM_length xs
 refine qe (zA (zB (zC ?_)))
 refine qM a ?_
 refine qI rfl (zL (vs := [a]) Tryz.func160 nm160 rfl rfl rfl ?_)
 refine Calls.mono (compactI_spec d.pins (c.weaken (Nat.zero_le _)) (by omega)) ?_
 rintro _ ac ⟨j, ad, rfl, r, s, t⟩
 refine ⟨_, rfl, ?_⟩
 have x := d.trans t (fun i hi => (yC c) i hi)
 have y := r.up (lo := w.heap.size) (fun k hk => (s k hk).elim (fun h => Nat.le_trans d.size h) (fun h => (c.lt k h).1))
 refine qM j ?_
 refine qe (zA ?_)
 refine wp_ret ?_
 refine zT ?_
 refine zP (v := j) rfl rfl rfl ?_
 exact ⟨_, _, rfl, (by rw [← distinct_eq]; simpa using y), x⟩

theorem node_spec {w : World} {G : Pin} {p : Nat} {L R B : Value} {mm : PM} {q : PSt} (hP : Pins G w) (hpk : Pk 65 3 G w p L R B mm q) (hok : PoolOk q) {x y : Value} {xs ys : List Int} (hx : RSl eInt G x xs) (hy : RSl eInt G y ys) (hlim : q.ns.length + 1 ≤ 1048576) (hls : xs.length ≤ 1048576 ∧ ys.length ≤ 1048576) (hk1 : ∀ i, i < xs.length → 0 ≤ xs.getD i 0 ∧ xs.getD i 0 < q.ns.length) (hk2 : ∀ i, i < ys.length → 0 ≤ ys.getD i 0 ∧ ys.getD i 0 < q.ns.length) :
  Calls Tryz.prog 79 [(.pointer (some ⟨p, 0, none⟩)), x, y].toArray w fun e w' => ∃ (z : Int) (L' R' B' : Value) (q' : PSt) (G' : Pin), e = .returned (vJ z) ∧ Pk 65 3 G' w' p L' R' B' mm q' ∧ PoolOk q' ∧ PX q q' ∧ PLo w p L R B mm L' R' B' ∧ Ext (inP p L R B mm) G w G' w' ∧ PlaceOk q' z ∧ pd q' z = mkG (xs.map (pd q)) (ys.map (pd q)) ∧ q'.ns.length ≤ q.ns.length + 1 ∧ (q'.cm = q.cm ∧ (q'.ns.length = q.ns.length ∨ z = q.ns.length)) := by
 refine zZ (n := 130) Tryz.func79 Tryz.ntmps79 rfl rfl ?_
 have cf : Ext (inP p L R B mm) G w G w := Ext.refl hP
 have hpin : PIn w (inP p L R B mm) p L R B mm := PIn.self
 have lf : (q.ns.map Nd.l).length = q.ns.length ∧ (q.ns.map Nd.r).length = q.ns.length := ⟨List.length_map .., List.length_map ..⟩
 have lg : q.bs.length = q.ns.length ∧ q.ns.length ≤ 1048576 := ⟨hok.ar.ok.len, hok.ar.ok.lim⟩
 obtain ⟨d, aq⟩ : ∃ l, l = sortL xs := ⟨_, rfl⟩
 obtain ⟨g, au⟩ : ∃ l, l = sortL ys := ⟨_, rfl⟩
 have bo := sort_bounds hk1
 have cg := sort_bounds hk2
 rw [← aq] at bo
 rw [← au] at cg
 have lh : d.length ≤ 1048576 := by rw [aq]; exact Nat.le_trans qH hls.1
 have li : g.length ≤ 1048576 := by rw [au]; exact Nat.le_trans qH hls.2
 refine zB (zC ?_)
 refine qM (vJ 0) ?_
 refine qe (zA (zB (zC ?_)))
 refine qM x ?_
 refine qI rfl (zL (vs := [x]) Tryz.func129 nm129 rfl rfl rfl ?_)
 refine Calls.mono (distinct_spec cf.pins hx (by omega)) ?_
 rintro _ w5 ⟨u3, G4, rfl, ch, ci⟩
 refine ⟨_, rfl, ?_⟩
 rw [← aq] at ch
 have cj := cf.tr ci
 have dk := hpk.ext ci
 have bp := hpk.new (x := u3.ownBlock) (fun k hk => (ch.lt k hk).1)
 have dl : Own eInt 3 G4 w5 w.heap.size u3 d := ch.weaken cf.size
 refine qM y ?_
 refine qI rfl (zL (vs := [y]) Tryz.func129 nm129 rfl rfl rfl ?_)
 refine Calls.mono (distinct_spec cj.pins (hy.mono ci.le) (by omega)) ?_
 rintro _ gt ⟨t, bq, rfl, br, ck⟩
 refine ⟨_, rfl, ?_⟩
 rw [← au] at br
 have cl := cj.tr ck
 have cn := dl.ext ck
 have dm := dk.ext ck
 have gu := zQ br.lt dl.lt
 have a2 := dk.new (x := t.ownBlock) (fun k hk => (br.lt k hk).1)
 have co : Own eInt 3 bq gt w.heap.size t g := br.weaken cj.size
 refine qM u3 ?_
 refine qM t ?_
 refine qe (zA (zB (zC ?_)))
 refine qM u3 ?_
 refine qD rfl (zM Tryz.underlying65 (v := u3) rfl cn.read) ?_
 refine qM t ?_
 refine qD rfl (zM Tryz.underlying65 (v := t) rfl co.read) ?_
 refine qD rfl (yP rfl rfl (by omega)) ?_
 refine qD rfl (r_mul rfl rfl (by omega)) ?_
 refine qD rfl (yP rfl rfl (by omega)) ?_
 refine qI rfl (o_make0 (E := eByte) Tryz.underlying132 mk5 rfl rfl cl.pins (by omega) (by omega) (by omega) (fun a3 gv gw dn bt cp => ?_))
 have gx := cl.step dn bt
 have dp := cn.below bt
 have gy := co.below bt
 have gz := dm.below bt dn
 have g0 : Apart a3.ownBlock u3.ownBlock := zG cp cn.lt
 have g1 : Apart a3.ownBlock t.ownBlock := zG cp co.lt
 have g2 := dm.new (x := a3.ownBlock) (fun k hk => by rw [cp] at hk; cases hk; exact Nat.le_refl _)
 have g3 : Own eByte 5 bq gv w.heap.size a3 ([]) := gw.weaken cl.size
 refine qM a3 ?_
 refine qe (zA (zB (zC ?_)))
 refine qM (vJ 0) ?_
 refine qe (zA (zB (zB (zC ?_))))
 refine qM u3 ?_
 refine qD rfl (zM Tryz.underlying65 (v := u3) rfl dp.read) ?_
 refine qM (vJ 0) ?_
 refine qe (zA ?_)
 refine zW ?_
 refine yL (fun (k : Nat) (en : Nat → Value) (W : World) => ∃ (ba : Nat → Value) (i : Nat) (kva : Value) (kxa : List UInt8) (bn : Int) (GLa : Pin), en = (upd (upd (upd (upd (upd (upd (upd (upd (upd ba 0 (.pointer (some ⟨p, 0, none⟩))) 1 u3) 2 t) 6 (vJ 0)) 7 kva) 8 (vJ bn)) 28 u3) 29 (vJ (d.length : Int))) 30 (vJ (i : Int))) ∧ k = d.length - i ∧ Ext (inP p L R B mm) G w GLa W ∧ Pin.le bq GLa ∧ (i ≤ d.length) ∧ (kxa = keyL (d.take i)) ∧ (bn = bornOf q.bs (d.take i) 0) ∧ (0 ≤ bn ∧ bn ≤ q.ns.length) ∧ (Own eByte 5 GLa W w.heap.size kva (kxa)) ∧ (Own eInt 3 GLa W w.heap.size u3 (d)) ∧ (Own eInt 3 GLa W w.heap.size t (g)) ∧ (Apart kva.ownBlock u3.ownBlock) ∧ (Apart kva.ownBlock t.ownBlock) ∧ (Pk 65 3 GLa W p L R B mm q) ∧ (NP p L R B mm kva.ownBlock)) _ ⟨_, 0, a3, [], 0, bq, (pS 30 (pS 29 (pS 28 (pS 8 (pS 7 (pS 6 (pS 2 (pS 1 (pU 0))))))))), rfl, gx, Pin.le_refl _, Nat.zero_le _, (by simp [keyL]), rfl, (by omega), g3, dp, gy, g0, g1, gz, g2⟩ ?_
 rintro lj _ lk ⟨ba, i, kva, kxa, bn, GLa, rfl, lm, ax, g4, hji, hka, hbbn, hlbn, bu, bb, cq, bv, bw, cr, bz⟩
 have hkla : kxa.length ≤ 117440640 := by
  have := key_bound (j := i) bo hok.ar.ok.lim
  rw [hka]; omega
 refine zB (zC ?_)
 refine qD rfl (yM rfl rfl) ?_
 refine qe (zA (zB ?_))
 refine yD (p := ((i : Int) : Int) < (d.length : Int)) rfl rfl (fun g5 => ?_) (fun g5 => ?_)
 ·skip
  have hki := bo i (by omega)
  have hbk := hok.ar.ok.born (d.getD i 0).toNat (by omega)
  have g6 := dig13 (n := (d.getD i 0).toNat) (by omega)
  refine wp_skip ?_
  refine zA (zB ?_)
  refine zW ?_
  refine zB (zC ?_)
  refine qD rfl (zI Tryz.underlying65 sz3 (v := u3) rfl rfl bb.read (by omega) (by omega)) ?_
  refine qD rfl (zH (r := d.getD i 0) rfl ag3 (z := (i : Int)) rfl bb.read (Gadd.pins ax.pins u3) (by omega) (by omega)) ?_
  refine qM (vJ (d.getD i 0)) ?_
  refine qe (zA (zB (zC ?_)))
  refine qM kva ?_
  refine qM (vJ (d.getD i 0)) ?_
  refine qI rfl (zL (vs := [kva, (vJ (d.getD i 0)), (vJ 36)]) Tryz.func130 nm130 rfl rfl rfl ?_)
  refine Calls.mono (appendInt_spec (i := d.getD i 0) ax.pins (bu.weaken (Nat.zero_le _)) (by omega) (by omega)) ?_
  rintro _ ln ⟨cs, dq, rfl, g7, b0, bc⟩
  refine ⟨_, rfl, ?_⟩
  have dr := np_turn bz cr b0
  have ct := ax.trans bc (fun i hi => (yC bu) i hi)
  have g8 := bb.extS bc (notO bv.symm)
  have g9 := cq.extS bc (notO bw.symm)
  have ha := cr.extS bc (fun k hk hx => bz k hx hk)
  have ds : Apart u3.ownBlock cs.ownBlock := ap_turn b0 bv.symm (qE bb)
  have dt : Apart t.ownBlock cs.ownBlock := ap_turn b0 bw.symm (qE cq)
  have hc := g7.up (lo := w.heap.size) (fun k hk => (b0 k hk).elim (fun h => Nat.le_trans ax.size h) (fun h => (bu.lt k h).1))
  have lq : (kxa ++ dig36 (d.getD i 0).toNat).length = kxa.length + (dig36 (d.getD i 0).toNat).length := List.length_append
  refine qI rfl (yS (E := eByte) (e := 5) [(.int .u8 44)] [44] Tryz.underlying132 sz5 zr5 (by exact xV (by rfl)) (xC (by rfl)) rfl rfl rfl rfl (by decide) ct.pins (fun du hd he dv bd ls => ?_))
  have cu := ct.step dv bd
  have dw := g8.below bd
  have dx := g9.below bd
  have dy := hc.below bd
  have dz := ha.below bd dv
  have hf : Own eByte 5 dq hd w.heap.size du ([44]) := he.weaken ct.size
  refine qI rfl (oA (E := eByte) (v := cs) (u := du) 1 Tryz.underlying132 ap5 (by decide) rfl rfl cu.pins dy hf.src (cu.size) (fun b1 lu hg d0 b2 cv => ?_))
  have d1 := cu.write d0 b2 ((yC dy))
  have hh := dw.keptA b2 ds
  have hj := dx.keptA b2 dt
  have b3 := dz.kept b2 d0 dr
  have hm : Apart u3.ownBlock b1.ownBlock := zF ds cv dw.lt
  have hn : Apart t.ownBlock b1.ownBlock := zF dt cv dx.lt
  have ho := np_app dr dz cv
  have lv : ((kxa ++ dig36 (d.getD i 0).toNat) ++ ([44])).length = (kxa ++ dig36 (d.getD i 0).toNat).length + 1 := List.length_append
  refine qM b1 ?_
  refine qe (zA (zC ?_))
  refine qM (vJ bn) ?_
  refine qM (.pointer (some ⟨p, 0, none⟩)) ?_
  refine qD rfl (xF rfl) ?_
  refine qD rfl (zN (k := 2) rfl Tryz.underlying72 rfl nz65 rfl) ?_
  refine qD rfl (zO (u := B) ag65 rfl (b3.bx.cell (o := 2) rfl)) ?_
  refine qM (vJ (d.getD i 0)) ?_
  refine qD rfl (zI Tryz.underlying65 sz3 (v := B) rfl rfl b3.ob.read (by omega) (by omega)) ?_
  refine qD rfl (zH (r := q.bs.getD (d.getD i 0).toNat 0) rfl ag3 (z := (d.getD i 0)) rfl b3.ob.read (Gadd.pins d1.pins B) (by omega) (by omega)) ?_
  refine qD rfl (yP rfl rfl (by omega)) ?_
  refine qD rfl (r_max rfl rfl) ?_
  refine qM (vJ (max bn ((q.bs.getD (d.getD i 0).toNat 0) + 1))) ?_
  refine qe ?_
  refine yH ?_
  refine zA (zC ?_)
  refine qD rfl (yP rfl rfl (by omega)) ?_
  refine qM (vJ ((i : Int) + 1)) ?_
  refine qe ?_
  refine yG ?_
  refine ⟨_, ?_, _, rfl, _, i + 1, b1, (kxa ++ dig36 (d.getD i 0).toNat) ++ ([44]), max bn ((q.bs.getD (d.getD i 0).toNat 0) + 1), dq, (pS 30 (pS 29 (pS 28 (pS 8 (pS 7 (pS 6 (pS 2 (pS 1 (pU 0))))))))), rfl, d1, (Pin.le_trans g4 bc.le), (by omega), (by rw [key_next (by omega), hka]), (by rw [hbbn, born_next (by omega)]), (by omega), hg, hh, hj, hm.symm, hn.symm, b3, ho⟩
  omega
 refine wp_exit ?_
 refine zX ?_
 refine yJ ?_
 refine yI ?_
 refine zA (zB (zC ?_))
 refine qM kva ?_
 refine qI rfl (yS (E := eByte) (e := 5) [(.int .u8 124)] [124] Tryz.underlying132 sz5 zr5 (by exact xV (by rfl)) (xC (by rfl)) rfl rfl rfl rfl (by decide) ax.pins (fun d2 hq hs d3 be lw => ?_))
 have cw := ax.step d3 be
 have d4 := bu.below be
 have d5 := bb.below be
 have d6 := cq.below be
 have d7 := cr.below be d3
 have ht : Own eByte 5 GLa hq w.heap.size d2 ([124]) := hs.weaken ax.size
 refine qI rfl (oA (E := eByte) (v := kva) (u := d2) 1 Tryz.underlying132 ap5 (by decide) rfl rfl cw.pins d4 ht.src (cw.size) (fun b4 lx hu d8 b5 cx => ?_))
 have hv := cw.write d8 b5 ((yC d4))
 have hw := d5.keptA b5 bv.symm
 have d9 := d6.keptA b5 bw.symm
 have h0 := d7.kept b5 d8 bz
 have h1 : Apart u3.ownBlock b4.ownBlock := zF bv.symm cx d5.lt
 have h3 : Apart t.ownBlock b4.ownBlock := zF bw.symm cx d6.lt
 have h4 := np_app bz d7 cx
 have ly : (kxa ++ ([124])).length = kxa.length + 1 := List.length_append
 refine qM b4 ?_
 refine qe (zA (zB (zB (zC ?_))))
 rw [xZ (by omega)] at hka hbbn
 have hkk : keyL d ++ [124] = kxa ++ [124] := by rw [hka]
 refine qM t ?_
 refine qD rfl (zM Tryz.underlying65 (v := t) rfl d9.read) ?_
 refine qM (vJ 0) ?_
 refine qe (zA ?_)
 refine zW ?_
 refine yL (fun (k : Nat) (en : Nat → Value) (W : World) => ∃ (ba : Nat → Value) (m : Nat) (kvb : Value) (kxb : List UInt8) (bm : Int) (GLb : Pin), en = (upd (upd (upd (upd (upd (upd (upd (upd (upd ba 0 (.pointer (some ⟨p, 0, none⟩))) 1 u3) 2 t) 6 (vJ 0)) 7 kvb) 8 (vJ bm)) 53 t) 54 (vJ (g.length : Int))) 55 (vJ (m : Int))) ∧ k = g.length - m ∧ Ext (inP p L R B mm) G w GLb W ∧ Pin.le GLa GLb ∧ (m ≤ g.length) ∧ (kxb = keyL d ++ [124] ++ keyL (g.take m)) ∧ (bm = bornOf q.bs (g.take m) bn) ∧ (0 ≤ bm ∧ bm ≤ q.ns.length) ∧ (Own eByte 5 GLb W w.heap.size kvb (kxb)) ∧ (Own eInt 3 GLb W w.heap.size u3 (d)) ∧ (Own eInt 3 GLb W w.heap.size t (g)) ∧ (Apart kvb.ownBlock u3.ownBlock) ∧ (Apart kvb.ownBlock t.ownBlock) ∧ (Pk 65 3 GLb W p L R B mm q) ∧ (NP p L R B mm kvb.ownBlock)) _ ⟨_, 0, b4, kxa ++ ([124]), bn, GLa, (pS 55 (pS 54 (pS 53 (pS 8 (pS 7 (pS 6 (pS 2 (pS 1 (pU 0))))))))), rfl, hv, Pin.le_refl _, Nat.zero_le _, (by rw [← hkk]; simp [keyL]), rfl, (by omega), hu, hw, d9, h1.symm, h3.symm, h0, h4⟩ ?_
 rintro lz _ av ⟨ba, m, kvb, kxb, bm, GLb, rfl, l0, ay, h5, l1, hkb, hbbm, hlbm, bf, cy, bg, ea, eb, cz, ec⟩
 have hklb : kxb.length ≤ 117440640 := by
  have := key_bound (j := m) cg hok.ar.ok.lim
  have h2 := key_bound (j := d.length) bo hok.ar.ok.lim; rw [hkb, List.length_append, List.length_append]; simp only [List.length_cons, List.length_nil]; rw [xZ (Nat.le_refl _)] at h2; omega
 refine zB (zC ?_)
 refine qD rfl (yM rfl rfl) ?_
 refine qe (zA (zB ?_))
 refine yD (p := ((m : Int) : Int) < (g.length : Int)) rfl rfl (fun h7 => ?_) (fun h7 => ?_)
 ·skip
  have hki := cg m (by omega)
  have hbk := hok.ar.ok.born (g.getD m 0).toNat (by omega)
  have g6 := dig13 (n := (g.getD m 0).toNat) (by omega)
  refine wp_skip ?_
  refine zA (zB ?_)
  refine zW ?_
  refine zB (zC ?_)
  refine qD rfl (zI Tryz.underlying65 sz3 (v := t) rfl rfl bg.read (by omega) (by omega)) ?_
  refine qD rfl (zH (r := g.getD m 0) rfl ag3 (z := (m : Int)) rfl bg.read (Gadd.pins ay.pins t) (by omega) (by omega)) ?_
  refine qM (vJ (g.getD m 0)) ?_
  refine qe (zA (zB (zC ?_)))
  refine qM kvb ?_
  refine qM (vJ (g.getD m 0)) ?_
  refine qI rfl (zL (vs := [kvb, (vJ (g.getD m 0)), (vJ 36)]) Tryz.func130 nm130 rfl rfl rfl ?_)
  refine Calls.mono (appendInt_spec (i := g.getD m 0) ay.pins (bf.weaken (Nat.zero_le _)) (by omega) (by omega)) ?_
  rintro _ l2 ⟨c0, ed, rfl, h8, b6, bh⟩
  refine ⟨_, rfl, ?_⟩
  have ee := np_turn ec cz b6
  have c1 := ay.trans bh (fun i hi => (yC bf) i hi)
  have h9 := cy.extS bh (notO ea.symm)
  have ia := bg.extS bh (notO eb.symm)
  have ib := cz.extS bh (fun k hk hx => ec k hx hk)
  have eg : Apart u3.ownBlock c0.ownBlock := ap_turn b6 ea.symm (qE cy)
  have eh : Apart t.ownBlock c0.ownBlock := ap_turn b6 eb.symm (qE bg)
  have ic := h8.up (lo := w.heap.size) (fun k hk => (b6 k hk).elim (fun h => Nat.le_trans ay.size h) (fun h => (bf.lt k h).1))
  have l3 : (kxb ++ dig36 (g.getD m 0).toNat).length = kxb.length + (dig36 (g.getD m 0).toNat).length := List.length_append
  refine qI rfl (yS (E := eByte) (e := 5) [(.int .u8 44)] [44] Tryz.underlying132 sz5 zr5 (by exact xV (by rfl)) (xC (by rfl)) rfl rfl rfl rfl (by decide) c1.pins (fun ei ie ig ej bi l4 => ?_))
  have c2 := c1.step ej bi
  have ek := h9.below bi
  have em := ia.below bi
  have eo := ic.below bi
  have ep := ib.below bi ej
  have ih : Own eByte 5 ed ie w.heap.size ei ([44]) := ig.weaken c1.size
  refine qI rfl (oA (E := eByte) (v := c0) (u := ei) 1 Tryz.underlying132 ap5 (by decide) rfl rfl c2.pins eo ih.src (c2.size) (fun b7 l5 ii eq b8 c3 => ?_))
  have es := c2.write eq b8 ((yC eo))
  have ij := ek.keptA b8 eg
  have ik := em.keptA b8 eh
  have b9 := ep.kept b8 eq ee
  have il : Apart u3.ownBlock b7.ownBlock := zF eg c3 ek.lt
  have im : Apart t.ownBlock b7.ownBlock := zF eh c3 em.lt
  have io := np_app ee ep c3
  have l6 : ((kxb ++ dig36 (g.getD m 0).toNat) ++ ([44])).length = (kxb ++ dig36 (g.getD m 0).toNat).length + 1 := List.length_append
  refine qM b7 ?_
  refine qe (zA (zC ?_))
  refine qM (vJ bm) ?_
  refine qM (.pointer (some ⟨p, 0, none⟩)) ?_
  refine qD rfl (xF rfl) ?_
  refine qD rfl (zN (k := 2) rfl Tryz.underlying72 rfl nz65 rfl) ?_
  refine qD rfl (zO (u := B) ag65 rfl (b9.bx.cell (o := 2) rfl)) ?_
  refine qM (vJ (g.getD m 0)) ?_
  refine qD rfl (zI Tryz.underlying65 sz3 (v := B) rfl rfl b9.ob.read (by omega) (by omega)) ?_
  refine qD rfl (zH (r := q.bs.getD (g.getD m 0).toNat 0) rfl ag3 (z := (g.getD m 0)) rfl b9.ob.read (Gadd.pins es.pins B) (by omega) (by omega)) ?_
  refine qD rfl (yP rfl rfl (by omega)) ?_
  refine qD rfl (r_max rfl rfl) ?_
  refine qM (vJ (max bm ((q.bs.getD (g.getD m 0).toNat 0) + 1))) ?_
  refine qe ?_
  refine yH ?_
  refine zA (zC ?_)
  refine qD rfl (yP rfl rfl (by omega)) ?_
  refine qM (vJ ((m : Int) + 1)) ?_
  refine qe ?_
  refine yG ?_
  refine ⟨_, ?_, _, rfl, _, m + 1, b7, (kxb ++ dig36 (g.getD m 0).toNat) ++ ([44]), max bm ((q.bs.getD (g.getD m 0).toNat 0) + 1), ed, (pS 55 (pS 54 (pS 53 (pS 8 (pS 7 (pS 6 (pS 2 (pS 1 (pU 0))))))))), rfl, es, (Pin.le_trans h5 bh.le), (by omega), (by rw [key_next (by omega), hkb]; simp only [List.append_assoc]), (by rw [hbbm, born_next (by omega)]), (by omega), ii, ij, ik, il.symm, im.symm, b9, io⟩
  omega
 refine wp_exit ?_
 refine zX ?_
 refine yJ ?_
 refine yI ?_
 refine zA (zB (zB ?_))
 rw [xZ (by omega)] at hkb hbbm
 have hkey : kxb = keyN d g := by rw [hkb]; rfl
 have ip := Gadd.pins ay.pins kvb
 have l7 := bf.read
 refine yU (S := fun wz => BxR wz p [L, R, B, (.map (some mm.f)), (.map (some mm.o)), (.map (some mm.c)), (.map (some mm.s)), (.map (some mm.n))] ∧ Pins (Gadd GLb av kvb) wz) (last := 12) (by kernel_rfl) rfl ?_
 have az : Below av.heap.size av av.drew := (Below.refl _ _).drew
 have et := ay.pins.below az
 have bj := ay.step et az
 have c4 := bf.below az
 have iq := cy.below az
 have ir := bg.below az
 have a := cz.below az et
 have ad := ip.below az
 refine dT (i := 0) rfl rfl (by kernel_rfl) (fun _ _ => zU (v := (.pointer (some ⟨p, 0, none⟩))) rfl) ⟨a.bx.reads, ad⟩ ?_
 refine dT (i := 1) rfl rfl (by kernel_rfl) (fun _ _ => xF rfl) ⟨a.bx.reads, ad⟩ ?_
 refine dT (i := 2) rfl rfl (by kernel_rfl) (fun _ _ => zN (k := 3) rfl Tryz.underlying72 rfl nz67 rfl) ⟨a.bx.reads, ad⟩ ?_
 refine dT (i := 3) rfl rfl (by kernel_rfl) (fun _ hS => zO (u := (.map (some mm.f))) ag67 rfl (hS.1 3 _ rfl)) ⟨a.bx.reads, ad⟩ ?_
 refine dT (i := 4) rfl rfl (by kernel_rfl) (fun _ _ => zU (v := kvb) rfl) ⟨a.bx.reads, ad⟩ ?_
 refine dO (i := 5) (zR (i := 5) rfl rfl rfl (zD rfl _) (EO.run (r_b2s Tryz.underlying132 Tryz.underlying5 Tryz.underlying9 rfl c4.read (Gadd.pins bj.pins kvb)) ?_))
 refine ⟨fun _ => ⟨a.bx.reads, ad⟩, ?_⟩
 refine dO (i := 6) (zR (i := 6) rfl rfl rfl (zD rfl _) (EO.run (run_lookv_int (k := (b2s kxb)) (key_str Tryz.underlying9) Tryz.underlying67 zr3 a.ff rfl rfl) ?_))
 refine ⟨fun _ => ⟨a.bx.reads, ad⟩, ?_⟩
 refine dT (i := 7) rfl rfl (by kernel_rfl) (fun _ _ => zU (v := (.tuple #[(vJ ((Go.GL.look q.fl (b2s kxb)).getD 0)), (.bool ((Go.GL.look q.fl (b2s kxb)).isSome))])) rfl) ⟨a.bx.reads, ad⟩ ?_
 refine dT (i := 8) rfl rfl (by kernel_rfl) (fun _ _ => xJ (v := (vJ ((Go.GL.look q.fl (b2s kxb)).getD 0))) rfl rfl) ⟨a.bx.reads, ad⟩ ?_
 refine dT (i := 9) rfl rfl (by kernel_rfl) (fun _ _ => xJ (v := (.bool ((Go.GL.look q.fl (b2s kxb)).isSome))) rfl rfl) ⟨a.bx.reads, ad⟩ ?_
 refine dT (i := 10) rfl rfl (by kernel_rfl) (fun _ _ => r_assign (v := (vJ ((Go.GL.look q.fl (b2s kxb)).getD 0))) rfl) ⟨a.bx.reads, ad⟩ ?_
 refine dT (i := 11) rfl rfl (by kernel_rfl) (fun _ _ => r_assign (v := (.bool ((Go.GL.look q.fl (b2s kxb)).isSome))) rfl) ⟨a.bx.reads, ad⟩ ?_
 refine yK (by kernel_rfl) ?_
 refine zA (zB (zC ?_))
 refine qM (.bool ((Go.GL.look q.fl (b2s kxb)).isSome)) ?_
 refine qe (zA ?_)
 refine c_if rfl rfl (fun c5 => ?_) (fun c5 => ?_)
 ·skip
  refine zB (zC ?_)
  refine qM (vJ ((Go.GL.look q.fl (b2s kxb)).getD 0)) ?_
  refine qM (vJ ((Go.GL.look q.fl (b2s kxb)).getD 0)) ?_
  refine qe (zA ?_)
  refine wp_ret ?_
  refine zT ?_
  refine zP (v := (vJ ((Go.GL.look q.fl (b2s kxb)).getD 0))) rfl rfl rfl ?_
  obtain ⟨z, hz⟩ := Option.isSome_iff_exists.1 c5
  have hlk := hz
  rw [hkey, aq, au] at hlk
  obtain ⟨f1, f2⟩ := lookF hok hk1 hk2 hlk
  rw [hz]
  exact ⟨z, L, R, B, q, GLb, rfl, a, hok, (PX.refl _), PIn.lo hpin rfl, bj, f1, f2, by omega, rfl, Or.inl rfl⟩
 refine wp_skip ?_
 refine zA (zB (zC ?_))
 refine qM (.pointer (some ⟨p, 0, none⟩)) ?_
 refine qD rfl (xF rfl) ?_
 refine qD rfl (zN (k := 2) rfl Tryz.underlying72 rfl nz65 rfl) ?_
 refine qD rfl (zO (u := B) ag65 rfl (a.bx.cell (o := 2) rfl)) ?_
 refine qD rfl (zM Tryz.underlying65 (v := B) rfl a.ob.read) ?_
 refine qM (vJ (q.bs.length : Int)) ?_
 refine qe (zA (zB ?_))
 have hnone : Go.GL.look q.fl (b2s kxb) = none := by simpa using c5
 rw [hkey, aq, au] at hnone
 have hadd := hok.add (b := bm) hlim hls hk1 hk2 hnone (by rw [hbbm, hbbn, aq, au])
 have iv := Gadd.pins bj.pins kvb
 have l8 := c4.read
 refine yU (S := fun wz => BxR wz p [L, R, B, (.map (some mm.f)), (.map (some mm.o)), (.map (some mm.c)), (.map (some mm.s)), (.map (some mm.n))] ∧ Pins (Gadd GLb av.drew kvb) wz) (last := 7) (by kernel_rfl) rfl ?_
 have ab : Below av.drew.heap.size av.drew av.drew.drew := (Below.refl _ _).drew
 have iw := bj.pins.below ab
 have c6 := bj.step iw ab
 have ix := c4.below ab
 have eu := iq.below ab
 have ev := ir.below ab
 have ew := a.ol.below ab
 have ex := a.rr.below ab
 have ey := a.ob.below ab
 have al := a.bx.below ab
 have a0 := a.ff.below ab
 have iy := a.fo.below ab
 have iz := a.fc.below ab
 have i0 := a.fs.below ab
 have i1 := a.fn.below ab
 have a1 := iv.below ab
 refine dT (i := 0) rfl rfl (by kernel_rfl) (fun _ _ => zU (v := (.pointer (some ⟨p, 0, none⟩))) rfl) ⟨al.reads, a1⟩ ?_
 refine dT (i := 1) rfl rfl (by kernel_rfl) (fun _ _ => xF rfl) ⟨al.reads, a1⟩ ?_
 refine dT (i := 2) rfl rfl (by kernel_rfl) (fun _ _ => zN (k := 3) rfl Tryz.underlying72 rfl nz67 rfl) ⟨al.reads, a1⟩ ?_
 refine dT (i := 3) rfl rfl (by kernel_rfl) (fun _ hS => zO (u := (.map (some mm.f))) ag67 rfl (hS.1 3 _ rfl)) ⟨al.reads, a1⟩ ?_
 refine dT (i := 4) rfl rfl (by kernel_rfl) (fun _ _ => zU (v := kvb) rfl) ⟨al.reads, a1⟩ ?_
 refine dT (i := 6) rfl rfl (by kernel_rfl) (fun _ _ => zU (v := (vJ (q.bs.length : Int))) rfl) ⟨al.reads, a1⟩ ?_
 refine dO (i := 5) (zR (i := 5) rfl rfl rfl (zD rfl _) (EO.run (r_b2s Tryz.underlying132 Tryz.underlying5 Tryz.underlying9 rfl ix.read (Gadd.pins c6.pins kvb)) ?_))
 refine ⟨fun _ => ⟨al.reads, a1⟩, ?_⟩
 refine dO (i := 7) (drOp0 (i := 7) rfl rfl rfl (zD rfl _) (o_mapUpdate (val := (fun v : Int => Value.int .i64 v)) (k := (b2s kxb)) (v := (q.bs.length : Int)) (key_str Tryz.underlying9) Tryz.underlying67 rfl rfl rfl c6.pins a0 (fun l9 i3 i4 ae ma => ?_)))
 have i5 := c6.write i4 ae ((PIn.f hpin))
 have i6 := eu.keptA ae (yF a0 eu).symm
 have i7 := ev.keptA ae (yF a0 ev).symm
 have i8 := ew.keptA ae (yF a0 ew).symm
 have i9 := ex.keptA ae (yF a0 ex).symm
 have ja := ey.keptA ae (yF a0 ey).symm
 have ez := al.keptA ae (yZ a0 al).symm
 have jb := iy.kept ae (apart_maps a.df.fo).symm
 have jc := iz.kept ae (apart_maps a.df.fc).symm
 have jd := i0.kept ae (apart_maps a.df.fs).symm
 have je := i1.kept ae (apart_maps a.df.fn).symm
 refine ⟨fun h => absurd rfl h, ?_⟩
 refine yK (by kernel_rfl) ?_
 refine zA (zB (zC ?_))
 refine qM (.pointer (some ⟨p, 0, none⟩)) ?_
 refine qM (.pointer (some ⟨p, 0, none⟩)) ?_
 refine qD rfl (xF rfl) ?_
 refine qD rfl (zN (k := 0) rfl Tryz.underlying72 rfl nz66 rfl) ?_
 refine qD rfl (zO (u := L) ag66 rfl (ez.cell (o := 0) rfl)) ?_
 refine qM u3 ?_
 obtain ⟨jf, ca, c7, e0, bk⟩ := i6.sealed i5
 have jg := i7.moreO ca bk gu
 have jh := i8.moreO ca bk (NP.hl bp).symm
 have ji := i9.moreO ca bk (NP.hr bp).symm
 have jj := ja.moreO ca bk (NP.hb bp).symm
 have jk := ez.moreO bk (NP.hp bp).symm
 refine qI rfl (yS (E := (eSl eInt)) (e := 65) [u3] [d] Tryz.underlying66 sz65 zr65 (by exact xV (⟨_, rfl, e0⟩)) (xC e0.one) rfl rfl rfl rfl (by decide) c7.pins (fun e1 jl jm jn af mb => ?_))
 have c8 := c7.step jn af
 have e2 := jg.below af
 have a4 := jh.below af
 have e3 := ji.below af
 have e4 := jj.below af
 have e5 := jk.below af
 have e6 := i3.below af
 have e7 := jb.below af
 have e8 := jc.below af
 have e9 := jd.below af
 have fa := je.below af
 have jo : Own (eSl eInt) 65 jf jl w.heap.size e1 ([d]) := jm.weaken c7.size
 refine qI rfl (oA (E := (eSl eInt)) (v := L) (u := e1) 24 Tryz.underlying66 ap65 (by decide) rfl rfl c8.pins a4 jo.src (Nat.zero_le _) (fun ac mc c9 jp ag bl => ?_))
 have fb := c8.write jp ag ((PIn.ll hpin))
 have jq := e2.keptA ag (NP.hl a2)
 have jr := e3.keptA ag a.alr.symm
 have js := e4.keptA ag a.alb.symm
 have a5 := e5.keptA ag a.apl
 have fd := e6.kept ag (yF e6 a4)
 have fe := e7.kept ag (yF e7 a4)
 have fg := e8.kept ag (yF e8 a4)
 have fh := e9.kept ag (yF e9 a4)
 have fi := fa.kept ag (yF fa a4)
 have jt : Apart t.ownBlock ac.ownBlock := zF (NP.hl a2) bl e2.lt
 have fj : Apart R.ownBlock ac.ownBlock := zF a.alr.symm bl e3.lt
 have fk : Apart B.ownBlock ac.ownBlock := zF a.alb.symm bl e4.lt
 have cb : Apart (some p) ac.ownBlock := zJ a.apl bl e5.lt
 have ju : Lo w (inP p L R B mm) ac.ownBlock := lo_app (PIn.ll hpin) bl c8.size
 have md : ((q.ns.map Nd.l) ++ ([d])).length = (q.ns.map Nd.l).length + 1 := List.length_append
 refine qD rfl (xF rfl) ?_
 refine qD rfl (zN (k := 0) rfl Tryz.underlying72 rfl nz66 rfl) ?_
 refine q0 rfl rfl rfl (xK (cs' := [ac, R, B, (.map (some mm.f)), (.map (some mm.o)), (.map (some mm.c)), (.map (some mm.s)), (.map (some mm.n))]) (us := [ac]) (v := ac) sz66 rfl rfl (cells1 c9.one) (xC c9.one) fb.pins a5 (Nat.le_of_ble_eq_true rfl) rfl (fun me fm jv ah mf => ?_))
 have jw := fb.write jv ah ((PIn.lp hpin))
 have jx := jq.keptA ah (NP.hp a2)
 have jy := jr.keptA ah a.apr.symm
 have jz := js.keptA ah a.apb.symm
 have j0 := c9.keptA ah cb.symm
 have j1 := fd.kept ah (yZ fd a5)
 have j2 := fe.kept ah (yZ fe a5)
 have j3 := fg.kept ah (yZ fg a5)
 have j4 := fh.kept ah (yZ fh a5)
 have j5 := fi.kept ah (yZ fi a5)
 refine qe (zA (zB (zC ?_)))
 refine qM (.pointer (some ⟨p, 0, none⟩)) ?_
 refine qM (.pointer (some ⟨p, 0, none⟩)) ?_
 refine qD rfl (xF rfl) ?_
 refine qD rfl (zN (k := 1) rfl Tryz.underlying72 rfl nz66 rfl) ?_
 refine qD rfl (zO (u := R) ag66 rfl (fm.cell (o := 1) rfl)) ?_
 refine qM t ?_
 obtain ⟨da, db, dc, fp, cc⟩ := jx.sealed jw
 have j6 := jy.moreO db cc (NP.hr a2).symm
 have j7 := jz.moreO db cc (NP.hb a2).symm
 have j8 := j0.moreO db cc jt.symm
 have j9 := fm.moreO cc (NP.hp a2).symm
 refine qI rfl (yS (E := (eSl eInt)) (e := 65) [t] [g] Tryz.underlying66 sz65 zr65 (by exact xV (⟨_, rfl, fp⟩)) (xC fp.one) rfl rfl rfl rfl (by decide) dc.pins (fun fq ka kb kc ai mg => ?_))
 have dd := dc.step kc ai
 have a6 := j6.below ai
 have fr := j7.below ai
 have ft := j8.below ai
 have fu := j9.below ai
 have fv := j1.below ai
 have fw := j2.below ai
 have fx := j3.below ai
 have fy := j4.below ai
 have fz := j5.below ai
 have kd : Own (eSl eInt) 65 da ka w.heap.size fq ([g]) := kb.weaken dc.size
 refine qI rfl (oA (E := (eSl eInt)) (v := R) (u := fq) 24 Tryz.underlying66 ap65 (by decide) rfl rfl dd.pins a6 kd.src (Nat.zero_le _) (fun aj mh de ke am cd => ?_))
 have f0 := dd.write ke am ((PIn.lr hpin))
 have kf := fr.keptA am a.arb.symm
 have kg := ft.keptA am fj.symm
 have a7 := fu.keptA am a.apr
 have f3 := fv.kept am (yF fv a6)
 have f4 := fw.kept am (yF fw a6)
 have f5 := fx.kept am (yF fx a6)
 have f6 := fy.kept am (yF fy a6)
 have f7 := fz.kept am (yF fz a6)
 have f8 : Apart B.ownBlock aj.ownBlock := zF a.arb.symm cd fr.lt
 have kh : Apart ac.ownBlock aj.ownBlock := zF fj.symm cd ft.lt
 have dg : Apart (some p) aj.ownBlock := zJ a.apr cd fu.lt
 have ki : Lo w (inP p L R B mm) aj.ownBlock := lo_app (PIn.lr hpin) cd dd.size
 have mi : ((q.ns.map Nd.r) ++ ([g])).length = (q.ns.map Nd.r).length + 1 := List.length_append
 refine qD rfl (xF rfl) ?_
 refine qD rfl (zN (k := 1) rfl Tryz.underlying72 rfl nz66 rfl) ?_
 refine q0 rfl rfl rfl (xK (cs' := [ac, aj, B, (.map (some mm.f)), (.map (some mm.o)), (.map (some mm.c)), (.map (some mm.s)), (.map (some mm.n))]) (us := [aj]) (v := aj) sz66 rfl rfl (cells1 de.one) (xC de.one) f0.pins a7 (Nat.le_of_ble_eq_true rfl) rfl (fun mj f9 kj an mk => ?_))
 have dh := f0.write kj an ((PIn.lp hpin))
 have kk := kf.keptA an a.apb.symm
 have kl := kg.keptA an cb.symm
 have km := de.keptA an dg.symm
 have kn := f3.kept an (yZ f3 a7)
 have ko := f4.kept an (yZ f4 a7)
 have kp := f5.kept an (yZ f5 a7)
 have kq := f6.kept an (yZ f6 a7)
 have kr := f7.kept an (yZ f7 a7)
 refine qe (zA (zB (zC ?_)))
 refine qM (.pointer (some ⟨p, 0, none⟩)) ?_
 refine qM (.pointer (some ⟨p, 0, none⟩)) ?_
 refine qD rfl (xF rfl) ?_
 refine qD rfl (zN (k := 2) rfl Tryz.underlying72 rfl nz65 rfl) ?_
 refine qD rfl (zO (u := B) ag65 rfl (f9.cell (o := 2) rfl)) ?_
 refine qM (vJ bm) ?_
 refine qI rfl (yS (E := eInt) (e := 3) [(vJ bm)] [bm] Tryz.underlying65 sz3 zr3 (by exact xV (by rfl)) (xC (by rfl)) rfl rfl rfl rfl (by decide) dh.pins (fun ga ks kt ku ak ml => ?_))
 have di := dh.step ku ak
 have a8 := kk.below ak
 have gb := kl.below ak
 have gc := km.below ak
 have gd := f9.below ak
 have ge := kn.below ak
 have gf := ko.below ak
 have gg := kp.below ak
 have gh := kq.below ak
 have gi := kr.below ak
 have kv : Own eInt 3 da ks w.heap.size ga ([bm]) := kt.weaken dh.size
 refine qI rfl (oA (E := eInt) (v := B) (u := ga) 8 Tryz.underlying65 ap3 (by decide) rfl rfl di.pins a8 kv.src (Nat.zero_le _) (fun aw mn dj kw ao ce => ?_))
 have gj := di.write kw ao ((PIn.lb hpin))
 have kx := gb.keptA ao fk.symm
 have ky := gc.keptA ao f8.symm
 have a9 := gd.keptA ao a.apb
 have gk := ge.kept ao (yF ge a8)
 have gl := gf.kept ao (yF gf a8)
 have gm := gg.kept ao (yF gg a8)
 have gn := gh.kept ao (yF gh a8)
 have gp := gi.kept ao (yF gi a8)
 have kz : Apart ac.ownBlock aw.ownBlock := zF fk.symm ce gb.lt
 have k0 : Apart aj.ownBlock aw.ownBlock := zF f8.symm ce gc.lt
 have gq : Apart (some p) aw.ownBlock := zJ a.apb ce gd.lt
 have k1 : Lo w (inP p L R B mm) aw.ownBlock := lo_app (PIn.lb hpin) ce di.size
 have mo : (q.bs ++ ([bm])).length = q.bs.length + 1 := List.length_append
 refine qD rfl (xF rfl) ?_
 refine qD rfl (zN (k := 2) rfl Tryz.underlying72 rfl nz65 rfl) ?_
 refine q0 rfl rfl rfl (xK (cs' := [ac, aj, aw, (.map (some mm.f)), (.map (some mm.o)), (.map (some mm.c)), (.map (some mm.s)), (.map (some mm.n))]) (us := [aw]) (v := aw) sz65 rfl rfl (cells1 dj.one) (xC dj.one) gj.pins a9 (Nat.le_of_ble_eq_true rfl) rfl (fun mp k2 k3 ap mq => ?_))
 have k4 := gj.write k3 ap ((PIn.lp hpin))
 have k5 := kx.keptA ap cb.symm
 have k6 := ky.keptA ap dg.symm
 have k7 := dj.keptA ap gq.symm
 have k8 := gk.kept ap (yZ gk a9)
 have k9 := gl.kept ap (yZ gl a9)
 have la := gm.kept ap (yZ gm a9)
 have lc := gn.kept ap (yZ gn a9)
 have ld := gp.kept ap (yZ gp a9)
 refine qe (zA (zB (zC ?_)))
 refine qM (vJ (q.bs.length : Int)) ?_
 refine qM (vJ (q.bs.length : Int)) ?_
 refine qe (zA ?_)
 refine wp_ret ?_
 refine zT ?_
 refine zP (v := (vJ (q.bs.length : Int))) rfl rfl rfl ?_
 have el : (q.ns.map Nd.l) ++ [d] = (addQ q xs ys bm).ns.map Nd.l := by rw [aq]; simp [addQ]
 have er : (q.ns.map Nd.r) ++ [g] = (addQ q xs ys bm).ns.map Nd.r := by rw [au]; simp [addQ]
 have ef : putE q.fl (b2s kxb) (q.bs.length : Int) = (addQ q xs ys bm).fl := by rw [hkey, aq, au, hok.ar.ok.len]; rfl
 have hol := k5
 have hor := k6
 have hff := k8
 rw [el] at hol
 rw [er] at hor
 rw [ef] at hff
 exact ⟨(q.bs.length : Int), ac, aj, aw, addQ q xs ys bm, da, rfl, ⟨k2, hol, hor, k7, hff, k9, la, lc, ld, cb, dg, gq, kh, kz, k0, a.df⟩, hadd.1, hadd.2.1, ⟨ju, ki, k1⟩, k4, by rw [hok.ar.ok.len]; exact hadd.2.2.1, by rw [hok.ar.ok.len]; exact hadd.2.2.2.1, hadd.2.2.2.2, rfl, Or.inr (by omega)⟩

end PO1
end Go.Proofs.YtfnginkcmcfdfaaGreatDoor
