/- Texts of this claim in one file: E1, K1, PO1, PL1, PA1, SO1. -/
import Derived.Test.YtkfgdhanaijddaaGreatDoorTi4
import Derived.Test.YtkfgdhanaijddaaGreatDoorChecked
set_option maxRecDepth 20000
set_option maxHeartbeats 2000000
namespace Go.Proofs.YtkfgdhanaijddaaGreatDoor
namespace E1
open Go.RowKit Go.GL Go.Proofs
open Go.Proofs.YtkfgdhanaijddaaGreatDoor.C1
open Go.Proofs.YtkfgdhanaijddaaGreatDoor.D1








theorem mk3 : (Tryz.prog.info? 3).map (fun i => (i.size, i.bytes, i.zero)) = some (1, 8, some (.int .i64 0)) := by kernel_rfl
theorem mk4 : (Tryz.prog.info? 4).map (fun i => (i.size, i.bytes, i.zero)) = some (1, 1, some (.bool false)) := by kernel_rfl













theorem pl133 : (Tryz.prog.underlying 133).bind (placesD Tryz.prog) = some [(0, 1), (1, 1)] := by kernel_rfl
theorem pl28 : (Tryz.prog.underlying 28).bind (placesD Tryz.prog) = some [(0, 1)] := by kernel_rfl
theorem pl68 : (Tryz.prog.underlying 68).bind (placesD Tryz.prog) = some [(0, 1), (1, 1)] := by kernel_rfl









theorem add_spec {w : World} {G : Pin} {b : Nat} {bu bv : Value} {ns : List Nd} {bs : List Int} (hP : Pins G w) (hB : Bk 68 3 G w b bu bv ns bs) (hok : BookOk ns bs) {x : Value} {fs : List Nd} (hx : RSl eNode G x fs) (hf : FormOk fs) (hl : ns.length + fs.length ≤ 1048576) :
  Calls Tryz.prog 136 [(.pointer (some ⟨b, 0, none⟩)), (.agg [x].toArray)].toArray w fun e w' => ∃ (r u' v' : Value) (G' : Pin), e = .returned r ∧ RSl eInt G' r (addM ns bs fs).1 ∧ Bk 68 3 G' w' b u' v' (addM ns bs fs).2.1 (addM ns bs fs).2.2 ∧ Ext (inS b bu bv) G w G' w' ∧ Lo w (inS b bu bv) u'.ownBlock ∧ Lo w (inS b bu bv) v'.ownBlock := by
 refine yD (n := 37) Tryz.func136 Tryz.ntmps136 rfl rfl ?_
 have ay : Ext (inS b bu bv) G w G w := Ext.refl hP
 have hbx := hB.bx
 have hou := hB.ou
 have hov := hB.ov
 have habu := hB.abu
 have habv := hB.abv
 have hauv := hB.auv
 have hlob : Lo w (inS b bu bv) (some b) := lo_b
 have hlou : Lo w (inS b bu bv) bu.ownBlock := lo_u
 have hlov : Lo w (inS b bu bv) bv.ownBlock := lo_v
 have hlen := hok.len
 have hlim := hok.lim
 refine zB (zC ?_)
 refine qI rfl (qA [x] (v := (.agg [x].toArray)) rfl rfl ay.pins (fun b1 w2 az co cp am => ?_))
 have cq := ay.step cp am
 have cr := hou.below am
 have cs := hov.below am
 have ct := hbx.below am
 have cu : Apart (some b1) bu.ownBlock := zI (congrArg some az) hou.lt
 have cv : Apart (some b1) bv.ownBlock := zI (congrArg some az) hov.lt
 have cw : Apart (some b1) (some b) := zH (congrArg some az) hbx.lt
 have cx : w.heap.size ≤ b1 := by have := ay.size; omega
 obtain ⟨a0, ab, a1, a2, a3⟩ := co.shut cq cx
 have bg := cr.moreA ab a3 cu.symm
 have bh := cs.moreA ab a3 cv.symm
 have bi := ct.moreA a3 cw.symm
 refine qM (.slice none 0 0) ?_
 refine qe (zA (zB (zC ?_)))
 refine qI rfl (yZ (E := eInt) (e := 3) Tryz.underlying57 sz3 a1.pins (fun ac cy cz c0 an a4 => ?_))
 have c1 := a1.step c0 an
 have c2 := bg.below an
 have c3 := bh.below an
 have c4 := bi.below an
 have c5 : Apart ac.ownBlock bu.ownBlock := zI a4 bg.lt
 have c6 : Apart ac.ownBlock bv.ownBlock := zI a4 bh.lt
 have c7 : Apart ac.ownBlock (some b) := zH a4 bi.lt
 have c8 : Own eInt 3 a0 cy w.heap.size ac ([]) := cz.weaken a1.size
 refine qM ac ?_
 refine qe (zA (zB (zB (zC ?_))))
 refine qM (vJ 0) ?_
 refine qe (zA ?_)
 refine zX ?_
 refine yQ (fun (k : Nat) (en : Nat → Value) (W : World) => ∃ (bj : Nat → Value) (a : Nat) (at_ : Value) (ats : List Int) (m : Value) (o : Value) (g : List Nd) (h : List Int) (t : Pin), en = (upd (upd (upd (upd (upd bj 0 (.pointer (some ⟨b, 0, none⟩))) 3 (.pointer (some ⟨b1, 0, none⟩))) 4 (.slice none 0 0)) 5 at_) 6 (vJ (a : Int))) ∧ k = fs.length - a ∧ Ext (inS b bu bv) G w t W ∧ Pin.le a0 t ∧ (a ≤ fs.length) ∧ (addM ns bs (fs.take a) = (ats, g, h)) ∧ (AddOk ns a ats g h) ∧ (Own eInt 3 t W w.heap.size at_ (ats)) ∧ (Own eNode 68 t W 0 m (g)) ∧ (Own eInt 3 t W 0 o (h)) ∧ (Bx t W b [m, o]) ∧ (Apart at_.ownBlock m.ownBlock) ∧ (Apart at_.ownBlock o.ownBlock) ∧ (Apart at_.ownBlock (some b)) ∧ (Apart m.ownBlock o.ownBlock) ∧ (Apart m.ownBlock (some b)) ∧ (Apart o.ownBlock (some b)) ∧ (Lo w (inS b bu bv) m.ownBlock) ∧ (Lo w (inS b bu bv) o.ownBlock)) _ ⟨_, 0, ac, [], bu, bv, ns, bs, a0, (pS 6 (pS 5 (pS 4 (pS 3 (pU 0))))), rfl, c1, Pin.le_refl _, Nat.zero_le _, rfl, AddOk.start hok, c8, c2, c3, c4, c5, c6, c7, hauv, habu.symm, habv.symm, hlou, hlov⟩ ?_
 rintro e2 _ a5 ⟨bj, a, at_, ats, m, o, g, h, t, rfl, e3, ao, y, hj, hr, hao, bk, bl, bm, bn, bo, bp, ap, bq, br, bt, bw, bz⟩
 have hal := hao.len
 have hah := hao.hi
 have hfl := hf.len
 refine zB (zB (zC ?_))
 refine qM (vJ (a : Int)) ?_
 refine qD rfl (zO (k := 0) rfl Tryz.underlying28 rfl nz26 rfl) ?_
 refine qD rfl (zP (u := x) ag26 rfl ((Pins.of_le ao.pins y) _ _ _ (a2 0 _ rfl))) ?_
 refine qD rfl (zN Tryz.underlying26 (v := x) rfl hx) ?_
 refine qD rfl (yV rfl rfl) ?_
 refine qe (zA ?_)
 refine yI (p := ((a : Int) : Int) < (fs.length : Int)) rfl rfl (fun c9 => ?_) (fun c9 => ?_)
 ·skip
  have aq := hao.at1 hf (by omega)
  have hfe := hf.lens a (by omega)
  refine wp_skip ?_
  refine zA (zB ?_)
  refine zX ?_
  refine xG (S := fun wz => Pins t wz) (last := 22) (by kernel_rfl) rfl ?_
  have ad : Below a5.heap.size a5 a5.drew := (Below.refl _ _).drew
  have da := ao.pins.below ad
  have c := ao.step da ad
  have a6 := bk.below ad
  have b0 := bl.below ad
  have b2 := bm.below ad
  have b3 := bn.below ad
  refine dM 0 at_ c.pins ?_
  refine dM 1 (.pointer (some ⟨b, 0, none⟩)) c.pins ?_
  refine dM 2 at_ c.pins ?_
  refine dT (i := 3) rfl rfl (by kernel_rfl) (fun _ _ => zO (k := 0) rfl Tryz.underlying28 rfl nz26 rfl) c.pins ?_
  refine dT (i := 4) rfl rfl (by kernel_rfl) (fun _ hS => zP (u := x) ag26 rfl ((Pins.of_le hS y) _ _ _ (a2 0 _ rfl))) c.pins ?_
  refine dM 5 (vJ (a : Int)) c.pins ?_
  refine dT (i := 6) rfl rfl (by kernel_rfl) (fun _ _ => zJ Tryz.underlying26 sz68 (v := x) rfl rfl hx (by omega) (by omega)) c.pins ?_
  refine dT (i := 7) rfl rfl (by kernel_rfl) (fun _ _ => xD (off := 0) Tryz.underlying68 rfl rfl nz57 (z := (a : Int)) (k := 0) rfl hx (by omega) (by omega)) c.pins ?_
  obtain ⟨db, b4, dc⟩ := nm_nl (hx.at (z := (a : Int)) (by omega) (by omega)) (j := a) rfl
  have e4 := b4.max
  refine dT (i := 8) rfl rfl (by kernel_rfl) (fun _ hS => dc ag57 rfl (Pins.of_le hS (Pin.le_trans ab y))) c.pins ?_
  refine dM 10 at_ c.pins ?_
  refine dT (i := 11) rfl rfl (by kernel_rfl) (fun _ _ => zO (k := 0) rfl Tryz.underlying28 rfl nz26 rfl) c.pins ?_
  refine dT (i := 12) rfl rfl (by kernel_rfl) (fun _ hS => zP (u := x) ag26 rfl ((Pins.of_le hS y) _ _ _ (a2 0 _ rfl))) c.pins ?_
  refine dM 13 (vJ (a : Int)) c.pins ?_
  refine dT (i := 14) rfl rfl (by kernel_rfl) (fun _ _ => zJ Tryz.underlying26 sz68 (v := x) rfl rfl hx (by omega) (by omega)) c.pins ?_
  refine dT (i := 15) rfl rfl (by kernel_rfl) (fun _ _ => xD (off := 1) Tryz.underlying68 rfl rfl nz57 (z := (a : Int)) (k := 0) rfl hx (by omega) (by omega)) c.pins ?_
  obtain ⟨dd, b5, de⟩ := nm_nr (hx.at (z := (a : Int)) (by omega) (by omega)) (j := a) rfl
  have e5 := b5.max
  refine dT (i := 16) rfl rfl (by kernel_rfl) (fun _ hS => de ag57 rfl (Pins.of_le hS (Pin.le_trans ab y))) c.pins ?_
  refine dO (i := 9) (zT (i := 9) rfl rfl rfl (zD rfl _) (zM (vs := [at_, db]) Tryz.func137 nm137 rfl rfl rfl ?_))
  refine Calls.mono (jA c.pins (Gadd.pins c.pins at_) a6.read (b4.mono (Pin.le_trans ab y)) (by omega) aq.1) ?_
  rintro _ df ⟨b6, dg, rfl, ah, d⟩
  refine ⟨_, rfl, ?_⟩
  have ai := c.tr d
  have a7 := a6.ext d
  have b7 := b0.ext d
  have b8 := b2.ext d
  have b9 := b3.ext d
  have dh := zS ah.lt a6.lt
  have di := zS ah.lt b0.lt
  have dj := zS ah.lt b2.lt
  have dk := zZ ah.lt b3.lt
  have ca : Own eInt 3 dg df w.heap.size b6 (atL ats ((fs.getD a default).l)) := ah.weaken c.size
  refine ⟨fun _ => (Pins.of_le ai.pins d.le), ?_⟩
  refine dO (i := 17) (zT (i := 17) rfl rfl rfl (zD rfl _) (zM (vs := [at_, dd]) Tryz.func137 nm137 rfl rfl rfl ?_))
  refine Calls.mono (jA ai.pins (Gadd.pins ai.pins at_) a7.read (b5.mono (Pin.le_trans (Pin.le_trans ab y) d.le)) (by omega) aq.2) ?_
  rintro _ dl ⟨cb, dm, rfl, ae, f⟩
  refine ⟨_, rfl, ?_⟩
  have cc := ai.tr f
  have dn := a7.ext f
  have dp := b7.ext f
  have dq := b8.ext f
  have dr := ca.ext f
  have ds := b9.ext f
  have dt := zS ae.lt a7.lt
  have du := zS ae.lt b7.lt
  have dv := zS ae.lt b8.lt
  have dw := zS ae.lt ca.lt
  have dx := zZ ae.lt b9.lt
  have dy : Own eInt 3 dm dl w.heap.size cb (atL ats ((fs.getD a default).r)) := ae.weaken ai.size
  refine ⟨fun _ => (Pins.of_le cc.pins (Pin.le_trans d.le f.le)), ?_⟩
  obtain ⟨e6, q, dz, d0, aj⟩ := dr.sealed cc
  have d1 := dn.moreO q aj dh.symm
  have d2 := dp.moreO q aj di.symm
  have d3 := dq.moreO q aj dj.symm
  have d4 := dy.moreO q aj dw
  have d5 := ds.moreO aj dk.symm
  obtain ⟨e7, s, ar, d6, au⟩ := d4.sealed dz
  have a8 := d1.moreO s au dt.symm
  have d7 := d2.moreO s au du.symm
  have d8 := d3.moreO s au dv.symm
  have d9 := d5.moreO au dx.symm
  refine dO (i := 18) (zT (i := 18) rfl rfl rfl (zD rfl _) (zM (vs := [(.pointer (some ⟨b, 0, none⟩)), b6, cb]) Tryz.func124 nm124 rfl rfl rfl ?_))
  refine Calls.mono (put_spec ar.pins ⟨d9, d7, d8, br.symm, bt.symm, bq⟩ hao.book (d0.mono s) d6 ⟨by rw [xH]; omega, by rw [xH]; omega⟩ (at_bounds hao.places aq.1) (at_bounds hao.places aq.2)) ?_
  rintro _ e8 ⟨a9, ba, cd, rfl, af, aa, ce, cf⟩
  refine ⟨_, rfl, ?_⟩
  have bb : ∀ i, inS b m o i → w.heap.size ≤ i ∨ (inS b bu bv) i := inS_lo hlob bw bz
  have av := ar.trans aa bb
  have bc := notS (u := m) (v := o) ap bo bp
  have ea := a8.extS aa bc
  have cg : Apart at_.ownBlock a9.ownBlock := xZ ce bc (xV a8)
  have ch : Apart at_.ownBlock ba.ownBlock := xZ cf bc (xV a8)
  have eb := af.bx
  have ec := af.ou
  have ed := af.ov
  have ee := af.abu
  have ef := af.abv
  have eg := af.auv
  have eh := qL ce bb ar.size
  have ei := qL cf bb ar.size
  refine ⟨fun _ => (Pins.of_le av.pins (Pin.le_trans (Pin.le_trans (Pin.le_trans (Pin.le_trans d.le f.le) q) s) aa.le)), ?_⟩
  refine dO (i := 19) (zT (i := 19) rfl rfl rfl (zD rfl _) (yU (E := eInt) (e := 3) [(vJ (putK g h (atL ats ((fs.getD a default).l)) (atL ats ((fs.getD a default).r))))] [putK g h (atL ats ((fs.getD a default).l)) (atL ats ((fs.getD a default).r))] Tryz.underlying57 sz3 zr3 (by exact xQ (by rfl)) (yC (by rfl)) rfl rfl rfl rfl (by decide) av.pins (fun ci ej ek el ak e9 => ?_)))
  have aw := av.step el ak
  have cj := ea.below ak
  have ck := ec.below ak
  have cl := ed.below ak
  have cm := eb.below ak
  have em : Own eInt 3 cd ej w.heap.size ci ([putK g h (atL ats ((fs.getD a default).l)) (atL ats ((fs.getD a default).r))]) := ek.weaken av.size
  refine ⟨fun _ => (Pins.of_le aw.pins (Pin.le_trans (Pin.le_trans (Pin.le_trans (Pin.le_trans d.le f.le) q) s) aa.le)), ?_⟩
  refine dO (i := 20) (zT (i := 20) rfl rfl rfl (zD rfl _) (oA (E := eInt) (v := at_) (u := ci) 8 Tryz.underlying57 ap3 (by decide) rfl rfl aw.pins cj em.src (aw.size) (fun al fa eo ep ax bd => ?_)))
  have be := aw.write ep ax ((yB cj))
  have eq := ck.keptA ax cg.symm
  have er := cl.keptA ax ch.symm
  have es := cm.keptA ax ap.symm
  have et : Apart a9.ownBlock al.ownBlock := zG cg.symm bd ck.lt
  have eu : Apart ba.ownBlock al.ownBlock := zG ch.symm bd cl.lt
  have ev : Apart (some b) al.ownBlock := zL ap.symm bd cm.lt
  have fb : (ats ++ ([putK g h (atL ats ((fs.getD a default).l)) (atL ats ((fs.getD a default).r))])).length = ats.length + 1 := List.length_append
  refine ⟨fun _ => (Pins.of_le be.pins (Pin.le_trans (Pin.le_trans (Pin.le_trans (Pin.le_trans d.le f.le) q) s) aa.le)), ?_⟩
  refine dM 21 al (Pins.of_le be.pins (Pin.le_trans (Pin.le_trans (Pin.le_trans (Pin.le_trans d.le f.le) q) s) aa.le)) ?_
  refine yT (by kernel_rfl) ?_
  refine yJ ?_
  refine zA (zC ?_)
  refine qM (vJ (a : Int)) ?_
  refine qD rfl (yR rfl rfl (by omega)) ?_
  refine qM (vJ ((a : Int) + 1)) ?_
  refine qe ?_
  refine yK ?_
  refine ⟨_, ?_, _, rfl, _, a + 1, al, (addStep (ats, g, h) (fs.getD a default)).1, a9, ba, (addStep (ats, g, h) (fs.getD a default)).2.1, (addStep (ats, g, h) (fs.getD a default)).2.2, cd, (pS 6 (pS 5 (pS 4 (pS 3 (pU 0))))), rfl, be, (Pin.le_trans (Pin.le_trans (Pin.le_trans (Pin.le_trans (Pin.le_trans y d.le) f.le) q) s) aa.le), (by omega), ((jC (by omega)).trans (by rw [hr])), (hao.step hf (by omega) hl), eo, eq, er, es, et.symm, eu.symm, ev.symm, eg, ee.symm, ef.symm, eh, ei⟩
  omega
 refine wp_exit ?_
 refine yA ?_
 refine yN ?_
 refine yL ?_
 refine zA (zB (zC ?_))
 refine qM at_ ?_
 refine qM at_ ?_
 refine qe (zA ?_)
 refine wp_ret ?_
 refine zR ?_
 refine zQ (v := at_) rfl rfl rfl ?_
 obtain ⟨fc, cn, ew, ex, bf⟩ := bk.sealed ao
 have ey := bl.moreO cn bf bo.symm
 have ez := bm.moreO cn bf bp.symm
 have e0 := bn.moreO bf ap.symm
 rw [qF (by omega)] at hr
 refine ⟨_, m, o, _, rfl, ?_, ?_, ew, bw, bz⟩
 ·rw [hr]; exact ex
 ·rw [hr]; exact ⟨e0, ey, ez, br.symm, bt.symm, bq⟩

theorem root_spec {w : World} {G : Pin} {b : Nat} {bu bv : Value} {ns : List Nd} {bs : List Int} (hP : Pins G w) (hB : Bk 68 3 G w b bu bv ns bs) (hok : BookOk ns bs) {x : Value} {fs : List Nd} (hx : RSl eNode G x fs) (hf : FormOk fs ∧ 1 ≤ fs.length) (hl : ns.length + fs.length ≤ 1048576) :
  Calls Tryz.prog 116 [(.pointer (some ⟨b, 0, none⟩)), (.agg [x].toArray)].toArray w fun e w' => ∃ (u' v' : Value) (G' : Pin), e = .returned (vJ (rootM ns bs fs)) ∧ Bk 68 3 G' w' b u' v' (addM ns bs fs).2.1 (addM ns bs fs).2.2 ∧ Ext (inS b bu bv) G w G' w' ∧ Lo w (inS b bu bv) u'.ownBlock ∧ Lo w (inS b bu bv) v'.ownBlock := by
 refine yD (n := 15) Tryz.func116 Tryz.ntmps116 rfl rfl ?_
 have h : Ext (inS b bu bv) G w G w := Ext.refl hP
 have hbx := hB.bx
 have hou := hB.ou
 have hov := hB.ov
 have habu := hB.abu
 have habv := hB.abv
 have hauv := hB.auv
 have hlob : Lo w (inS b bu bv) (some b) := lo_b
 have hlou : Lo w (inS b bu bv) bu.ownBlock := lo_u
 have hlov : Lo w (inS b bu bv) bv.ownBlock := lo_v
 have hlen := hok.len
 have hlim := hok.lim
 have hal := (addM_all hok hf.1 hl).len
 have hfl := hf.1.len
 refine zB (zC ?_)
 refine qI rfl (qA [x] (v := (.agg [x].toArray)) rfl rfl h.pins (fun f w2 k s t g => ?_))
 have y := h.step t g
 have aa := hou.below g
 have ab := hov.below g
 have ac := hbx.below g
 have ad : Apart (some f) bu.ownBlock := zI (congrArg some k) hou.lt
 have ae : Apart (some f) bv.ownBlock := zI (congrArg some k) hov.lt
 have af : Apart (some f) (some b) := zH (congrArg some k) hbx.lt
 have ag : w.heap.size ≤ f := by have := h.size; omega
 obtain ⟨az, l, c, ah, m⟩ := s.shut y ag
 have ai := aa.moreA l m ad.symm
 have aj := ab.moreA l m ae.symm
 have ak := ac.moreA m af.symm
 refine qM (vJ 0) ?_
 refine qe (zA (zB (zC ?_)))
 refine qM (.pointer (some ⟨b, 0, none⟩)) ?_
 refine qD rfl (yF (cs := [x]) ag28 sz28 rfl (fun j u hj => c.pins _ _ _ (ah _ _ (by simpa using hj)))) ?_
 refine qI rfl (zM (vs := [(.pointer (some ⟨b, 0, none⟩)), (.agg [x].toArray)]) Tryz.func136 nm136 rfl rfl rfl ?_)
 refine Calls.mono (add_spec c.pins ⟨ak, ai, aj, habu, habv, hauv⟩ hok (hx.mono l) hf.1 (by first | omega | (simp; omega))) ?_
 rintro _ a0 ⟨d, a1, a2, a3, rfl, o, a, al, am, an⟩
 refine ⟨_, rfl, ?_⟩
 have p : ∀ i, inS b bu bv i → w.heap.size ≤ i ∨ (inS b bu bv) i := inS_lo hlob hlou hlov
 have q := c.trans al p
 have ao := a.bx
 have ap := a.ou
 have aq := a.ov
 have ar := a.abu
 have au := a.abv
 have av := a.auv
 have aw := qL am p c.size
 have ax := qL an p c.size
 refine qM d ?_
 refine qe (zA (zB (zC ?_)))
 refine qM d ?_
 refine qM d ?_
 refine qD rfl (zN Tryz.underlying57 (v := d) rfl o) ?_
 refine qD rfl (qU rfl rfl (by omega)) ?_
 refine qD rfl (zJ Tryz.underlying57 sz3 (v := d) rfl rfl o (by omega) (by omega)) ?_
 refine qD rfl (zK (r := ((addM ns bs fs).1).getD ((((addM ns bs fs).1).length : Int) - 1).toNat 0) rfl ag3 (z := ((((addM ns bs fs).1).length : Int) - 1)) rfl o q.pins (by omega) (by omega)) ?_
 refine qM (vJ (((addM ns bs fs).1).getD ((((addM ns bs fs).1).length : Int) - 1).toNat 0)) ?_
 refine qe (zA ?_)
 refine wp_ret ?_
 refine zR ?_
 refine zQ (v := (vJ (((addM ns bs fs).1).getD ((((addM ns bs fs).1).length : Int) - 1).toNat 0))) rfl rfl rfl ?_
 exact ⟨_, _, _, congrArg (fun z => Ending.returned (Value.int .i64 z)) (by unfold rootM; rw [show (((addM ns bs fs).1.length : Int) - 1).toNat = (addM ns bs fs).1.length - 1 by omega]), ⟨ao, ap, aq, ar, au, av⟩, q, aw, ax⟩

theorem reached_spec {w : World} {G : Pin} {b : Nat} {bu bv : Value} {ns : List Nd} {bs : List Int} (hP : Pins G w) (hB : Bk 68 3 G w b bu bv ns bs) (hok : BookOk ns bs) {m : Int} (hm : 0 ≤ m ∧ m < ns.length) :
  Calls Tryz.prog 144 [(.pointer (some ⟨b, 0, none⟩)), (vJ m)].toArray w fun e w' => ∃ (u : Value) (G' : Pin), e = .returned u ∧ Own eBool 4 G' w' w.heap.size u (reachM ns m.toNat) ∧ Ext noS G w G' w' := by
 refine yD (n := 78) Tryz.func144 Tryz.ntmps144 rfl rfl ?_
 have ai : Ext noS G w G w := Ext.refl hP
 have hbx := hB.bx
 have hou := hB.ou
 have hov := hB.ov
 have habu := hB.abu
 have habv := hB.abv
 have hauv := hB.auv
 have hlob : Lo w (inS b bu bv) (some b) := lo_b
 have hlou : Lo w (inS b bu bv) bu.ownBlock := lo_u
 have hlov : Lo w (inS b bu bv) bv.ownBlock := lo_v
 have hlen := hok.len
 have hlim := hok.lim
 have hoo : OptsOk ns := hok.optsOk
 refine zB (zC ?_)
 refine qM (.slice none 0 0) ?_
 refine qe (zA (zB (zC ?_)))
 refine qM (vJ m) ?_
 refine qD rfl (yR rfl rfl (by omega)) ?_
 refine qI rfl (o_make (E := eBool) false 1 (.bool false) Tryz.underlying125 mk4 (fun _ => rfl) rfl rfl ai.pins (by omega) (by omega) (by omega) (fun a w2 a6 a7 y aj => ?_))
 have ar := ai.step a7 y
 have a8 := hou.below y
 have a9 := hov.below y
 have ba := hbx.below y
 have ak : Apart a.ownBlock bu.ownBlock := zI aj hou.lt
 have al : Apart a.ownBlock bv.ownBlock := zI aj hov.lt
 have am : Apart a.ownBlock (some b) := zH aj hbx.lt
 have an : Own eBool 4 G w2 w.heap.size a (List.replicate (m + 1).toNat false) := a6.weaken ai.size
 have b9 : (List.replicate (m + 1).toNat false).length = (m + 1).toNat := List.length_replicate ..
 refine qM a ?_
 refine qe (zA (zB (zC ?_)))
 refine qM a ?_
 refine qM (vJ m) ?_
 refine qD rfl (zJ Tryz.underlying125 sz4 (v := a) rfl rfl an.read (by omega) (by omega)) ?_
 refine q0 rfl rfl rfl (o_set (E := eBool) (v := a) (u := (.bool true)) (z := m) (true) sz4 rfl rfl rfl rfl ar.pins an (by omega) (by omega) (fun ca bb bc aa cb => ?_))
 have bd := ar.write bc aa ((yB an))
 have be := a8.keptA aa ak.symm
 have bf := a9.keptA aa al.symm
 have bg := ba.keptA aa am.symm
 refine qe (zA (zB (zB (zC ?_))))
 refine qM (vJ m) ?_
 refine qM (vJ m) ?_
 refine qe (zA ?_)
 refine zX ?_
 refine yQ (fun (k : Nat) (en : Nat → Value) (W : World) => ∃ (d : Nat → Value) (z : Int) (is : List Bool), en = (upd (upd (upd (upd d 0 (.pointer (some ⟨b, 0, none⟩))) 4 (.slice none 0 0)) 5 a) 6 (vJ z)) ∧ k = (z + 1).toNat ∧ Ext noS G w G W ∧ (-1 ≤ z ∧ z ≤ m) ∧ (is.length = m.toNat + 1) ∧ (reachM ns m.toNat = ugo ns (z + 1).toNat is) ∧ (Own eBool 4 G W w.heap.size a (is)) ∧ (Own eNode 68 G W 0 bu (ns)) ∧ (Own eInt 3 G W 0 bv (bs)) ∧ (Bx G W b [bu, bv])) _ ⟨_, m, (List.replicate (m + 1).toNat false).set m.toNat true, (pS 6 (pS 5 (pS 4 (pU 0)))), rfl, bd, (by omega), (by simp; omega), (by rw [show (m + 1).toNat = m.toNat + 1 by omega]; rfl), bb, be, bf, bg⟩ ?_
 rintro cc _ cd ⟨d, z, is, rfl, ce, ab, hz, hnis, hr, x, au, av, aw⟩
 refine zB (zB (zC ?_))
 refine qM (vJ z) ?_
 refine qD rfl (r_geq rfl rfl) ?_
 refine qe (zA ?_)
 refine yI (p := (0 : Int) ≤ z) rfl rfl (fun bh => ?_) (fun bh => ?_)
 ·skip
  refine wp_skip ?_
  refine zA (zB ?_)
  refine zX ?_
  refine zB (zB (zC ?_))
  refine qM a ?_
  refine qM (vJ z) ?_
  refine qD rfl (zJ Tryz.underlying125 sz4 (v := a) rfl rfl x.read (by omega) (by omega)) ?_
  refine qD rfl (run_load_bool (r := is.getD (z).toNat false) rfl ag4 (z := z) rfl x.read (Gadd.pins ab.pins a) (by omega) (by omega)) ?_
  refine qD rfl (qC rfl) ?_
  refine qe (zA ?_)
  refine c_ifn rfl rfl (fun ao => ?_) (fun ao => ?_)
  ·skip
   refine wp_skip ?_
   refine zA (zB (zB (zC ?_)))
   refine qM (vJ 0) ?_
   refine qe (zA ?_)
   refine zX ?_
   refine yQ (fun (k : Nat) (en : Nat → Value) (W : World) => ∃ (d : Nat → Value) (i : Nat) (h : List Bool), en = (upd (upd (upd (upd (upd d 0 (.pointer (some ⟨b, 0, none⟩))) 4 (.slice none 0 0)) 5 a) 6 (vJ z)) 7 (vJ (i : Int))) ∧ k = (ns.getD (z).toNat default).l.length - i ∧ Ext noS G w G W ∧ (i ≤ (ns.getD (z).toNat default).l.length) ∧ (h.length = m.toNat + 1) ∧ (setAll is (ns.getD (z).toNat default).l = setAll h ((ns.getD (z).toNat default).l.drop i)) ∧ (Own eBool 4 G W w.heap.size a (h)) ∧ (Own eNode 68 G W 0 bu (ns)) ∧ (Own eInt 3 G W 0 bv (bs)) ∧ (Bx G W b [bu, bv])) _ ⟨_, 0, is, (pS 7 (pS 6 (pS 5 (pS 4 (pU 0))))), rfl, ab, Nat.zero_le _, hnis, rfl, x, au, av, aw⟩ ?_
   rintro cf _ cg ⟨d, i, h, rfl, ch, q, hii, ax, ay, ac, f, az, ad⟩
   refine zB (zB (zC ?_))
   refine qM (vJ (i : Int)) ?_
   refine qM (.pointer (some ⟨b, 0, none⟩)) ?_
   refine qD rfl (xB rfl) ?_
   refine qD rfl (zO (k := 0) rfl Tryz.underlying133 rfl nz26 rfl) ?_
   refine qD rfl (zP (u := bu) ag26 rfl (ad.cell (o := 0) rfl)) ?_
   refine qM (vJ z) ?_
   refine qD rfl (zJ Tryz.underlying26 sz68 (v := bu) rfl rfl f.read (by omega) (by omega)) ?_
   refine qD rfl (xD (off := 0) Tryz.underlying68 rfl rfl nz57 (z := z) (k := 0) rfl f.read (by omega) (by omega)) ?_
   obtain ⟨bi, a0, bj⟩ := nm_nl (f.at (z := z) (by omega) (by omega)) (j := (z).toNat) rfl
   have ci := a0.max
   refine qD rfl (bj ag57 rfl (Gadd.pins q.pins bu)) ?_
   refine qD rfl (zN Tryz.underlying57 (v := bi) rfl a0) ?_
   refine qD rfl (yV rfl rfl) ?_
   refine qe (zA ?_)
   refine yI (p := ((i : Int) : Int) < (((ns.getD (z).toNat default).l).length : Int)) rfl rfl (fun bk => ?_) (fun bk => ?_)
   ·skip
    have hk := hoo.left (j := (z).toNat) (i := i) (by omega) (by omega)
    refine wp_skip ?_
    refine zA (zB ?_)
    refine zX ?_
    refine zC ?_
    refine qM a ?_
    refine qM (.pointer (some ⟨b, 0, none⟩)) ?_
    refine qD rfl (xB rfl) ?_
    refine qD rfl (zO (k := 0) rfl Tryz.underlying133 rfl nz26 rfl) ?_
    refine qD rfl (zP (u := bu) ag26 rfl (ad.cell (o := 0) rfl)) ?_
    refine qM (vJ z) ?_
    refine qD rfl (zJ Tryz.underlying26 sz68 (v := bu) rfl rfl f.read (by omega) (by omega)) ?_
    refine qD rfl (xD (off := 0) Tryz.underlying68 rfl rfl nz57 (z := z) (k := 0) rfl f.read (by omega) (by omega)) ?_
    obtain ⟨bl, ap, bm⟩ := nm_nl (f.at (z := z) (by omega) (by omega)) (j := (z).toNat) rfl
    have cj := ap.max
    refine qD rfl (bm ag57 rfl (Gadd.pins q.pins bu)) ?_
    refine qM (vJ (i : Int)) ?_
    refine qD rfl (zJ Tryz.underlying57 sz3 (v := bl) rfl rfl ap (by omega) (by omega)) ?_
    refine qD rfl (zK (r := ((ns.getD (z).toNat default).l).getD i 0) rfl ag3 (z := (i : Int)) rfl ap q.pins (by omega) (by omega)) ?_
    refine qD rfl (zJ Tryz.underlying125 sz4 (v := a) rfl rfl ac.read (by omega) (by omega)) ?_
    refine q0 rfl rfl rfl (o_set (E := eBool) (v := a) (u := (.bool true)) (z := (((ns.getD (z).toNat default).l).getD i 0)) (true) sz4 rfl rfl rfl rfl q.pins ac (by omega) (by omega) (fun ck bn bo ae cl => ?_))
    have bp := q.write bo ae ((yB ac))
    have bq := f.keptA ae ak.symm
    have br := az.keptA ae al.symm
    have bt := ad.keptA ae am.symm
    refine qe ?_
    refine yJ ?_
    refine zA (zC ?_)
    refine qM (vJ (i : Int)) ?_
    refine qD rfl (yR rfl rfl (by omega)) ?_
    refine qM (vJ ((i : Int) + 1)) ?_
    refine qe ?_
    refine yK ?_
    refine ⟨_, ?_, _, rfl, _, i + 1, h.set ((ns.getD (z).toNat default).l.getD i 0).toNat true, (pS 7 (pS 6 (pS 5 (pS 4 (pU 0))))), rfl, bp, (by omega), ((List.length_set ..).trans ax), (ay.trans (setAll_next (by omega))), bn, bq, br, bt⟩
    omega
   refine wp_exit ?_
   refine yA ?_
   refine yN ?_
   refine yL ?_
   refine zA (zB (zC ?_))
   refine qM (vJ 0) ?_
   refine qe (zA ?_)
   refine zX ?_
   refine yQ (fun (k : Nat) (en : Nat → Value) (W : World) => ∃ (d : Nat → Value) (c : Nat) (s : List Bool), en = (upd (upd (upd (upd (upd d 0 (.pointer (some ⟨b, 0, none⟩))) 4 (.slice none 0 0)) 5 a) 6 (vJ z)) 8 (vJ (c : Int))) ∧ k = (ns.getD (z).toNat default).r.length - c ∧ Ext noS G w G W ∧ (c ≤ (ns.getD (z).toNat default).r.length) ∧ (s.length = m.toNat + 1) ∧ (setAll h (ns.getD (z).toNat default).r = setAll s ((ns.getD (z).toNat default).r.drop c)) ∧ (Own eBool 4 G W w.heap.size a (s)) ∧ (Own eNode 68 G W 0 bu (ns)) ∧ (Own eInt 3 G W 0 bv (bs)) ∧ (Bx G W b [bu, bv])) _ ⟨_, 0, h, (pS 8 (pS 6 (pS 5 (pS 4 (pU 0))))), rfl, q, Nat.zero_le _, ax, rfl, ac, f, az, ad⟩ ?_
   rintro cm _ cn ⟨d, c, s, rfl, co, t, cp, a1, a2, af, g, a3, ag⟩
   refine zB (zB (zC ?_))
   refine qM (vJ (c : Int)) ?_
   refine qM (.pointer (some ⟨b, 0, none⟩)) ?_
   refine qD rfl (xB rfl) ?_
   refine qD rfl (zO (k := 0) rfl Tryz.underlying133 rfl nz26 rfl) ?_
   refine qD rfl (zP (u := bu) ag26 rfl (ag.cell (o := 0) rfl)) ?_
   refine qM (vJ z) ?_
   refine qD rfl (zJ Tryz.underlying26 sz68 (v := bu) rfl rfl g.read (by omega) (by omega)) ?_
   refine qD rfl (xD (off := 1) Tryz.underlying68 rfl rfl nz57 (z := z) (k := 0) rfl g.read (by omega) (by omega)) ?_
   obtain ⟨bw, a4, bz⟩ := nm_nr (g.at (z := z) (by omega) (by omega)) (j := (z).toNat) rfl
   have cq := a4.max
   refine qD rfl (bz ag57 rfl (Gadd.pins t.pins bu)) ?_
   refine qD rfl (zN Tryz.underlying57 (v := bw) rfl a4) ?_
   refine qD rfl (yV rfl rfl) ?_
   refine qe (zA ?_)
   refine yI (p := ((c : Int) : Int) < (((ns.getD (z).toNat default).r).length : Int)) rfl rfl (fun b0 => ?_) (fun b0 => ?_)
   ·skip
    have hk := hoo.right (j := (z).toNat) (i := c) (by omega) (by omega)
    refine wp_skip ?_
    refine zA (zB ?_)
    refine zX ?_
    refine zC ?_
    refine qM a ?_
    refine qM (.pointer (some ⟨b, 0, none⟩)) ?_
    refine qD rfl (xB rfl) ?_
    refine qD rfl (zO (k := 0) rfl Tryz.underlying133 rfl nz26 rfl) ?_
    refine qD rfl (zP (u := bu) ag26 rfl (ag.cell (o := 0) rfl)) ?_
    refine qM (vJ z) ?_
    refine qD rfl (zJ Tryz.underlying26 sz68 (v := bu) rfl rfl g.read (by omega) (by omega)) ?_
    refine qD rfl (xD (off := 1) Tryz.underlying68 rfl rfl nz57 (z := z) (k := 0) rfl g.read (by omega) (by omega)) ?_
    obtain ⟨b1, aq, b2⟩ := nm_nr (g.at (z := z) (by omega) (by omega)) (j := (z).toNat) rfl
    have cr := aq.max
    refine qD rfl (b2 ag57 rfl (Gadd.pins t.pins bu)) ?_
    refine qM (vJ (c : Int)) ?_
    refine qD rfl (zJ Tryz.underlying57 sz3 (v := b1) rfl rfl aq (by omega) (by omega)) ?_
    refine qD rfl (zK (r := ((ns.getD (z).toNat default).r).getD c 0) rfl ag3 (z := (c : Int)) rfl aq t.pins (by omega) (by omega)) ?_
    refine qD rfl (zJ Tryz.underlying125 sz4 (v := a) rfl rfl af.read (by omega) (by omega)) ?_
    refine q0 rfl rfl rfl (o_set (E := eBool) (v := a) (u := (.bool true)) (z := (((ns.getD (z).toNat default).r).getD c 0)) (true) sz4 rfl rfl rfl rfl t.pins af (by omega) (by omega) (fun cs b3 b4 ah ct => ?_))
    have b5 := t.write b4 ah ((yB af))
    have b6 := g.keptA ah ak.symm
    have b7 := a3.keptA ah al.symm
    have b8 := ag.keptA ah am.symm
    refine qe ?_
    refine yJ ?_
    refine zA (zC ?_)
    refine qM (vJ (c : Int)) ?_
    refine qD rfl (yR rfl rfl (by omega)) ?_
    refine qM (vJ ((c : Int) + 1)) ?_
    refine qe ?_
    refine yK ?_
    refine ⟨_, ?_, _, rfl, _, c + 1, s.set ((ns.getD (z).toNat default).r.getD c 0).toNat true, (pS 8 (pS 6 (pS 5 (pS 4 (pU 0))))), rfl, b5, (by omega), ((List.length_set ..).trans a1), (a2.trans (setAll_next (by omega))), b3, b6, b7, b8⟩
    omega
   refine wp_exit ?_
   refine yA ?_
   refine yN ?_
   refine yL ?_
   refine yJ ?_
   refine zA (zC ?_)
   refine qM (vJ z) ?_
   refine qD rfl (qU rfl rfl (by omega)) ?_
   refine qM (vJ (z - 1)) ?_
   refine qe ?_
   refine yK ?_
   refine ⟨_, ?_, _, rfl, _, z - 1, s, (pS 6 (pS 5 (pS 4 (pU 0)))), rfl, t, (by omega), a1, (hr.trans ((ugo_step (by omega)).trans (by rw [ustep_yes ao, ay, setAll_end (by omega), a2, setAll_end (by omega)]))), af, g, a3, ag⟩
   omega
  refine wp_exit ?_
  refine yA ?_
  refine yL ?_
  refine zA (zC ?_)
  refine qM (vJ z) ?_
  refine qD rfl (qU rfl rfl (by omega)) ?_
  refine qM (vJ (z - 1)) ?_
  refine qe ?_
  refine yK ?_
  refine ⟨_, ?_, _, rfl, _, z - 1, is, (pS 6 (pS 5 (pS 4 (pU 0)))), rfl, ab, (by omega), hnis, (hr.trans ((ugo_step (by omega)).trans (by rw [ustep_no ao]))), x, au, av, aw⟩
  omega
 refine wp_exit ?_
 refine yA ?_
 refine yN ?_
 refine yL ?_
 refine zA (zB (zC ?_))
 refine qM a ?_
 refine qM a ?_
 refine qe (zA ?_)
 refine wp_ret ?_
 refine zR ?_
 refine zQ (v := a) rfl rfl rfl ?_
 exact ⟨_, _, rfl, (by rw [hr, ugo_end (by omega)]; exact x), ab⟩

theorem form_own {w : World} {G : Pin} {b : Nat} {bu bv : Value} {ns : List Nd} {bs : List Int} (hP : Pins G w) (hB : Bk 68 3 G w b bu bv ns bs) (hok : BookOk ns bs) {m : Int} (hm : 0 ≤ m ∧ m < ns.length) :
  Calls Tryz.prog 115 [(.pointer (some ⟨b, 0, none⟩)), (vJ m)].toArray w fun e w' => ∃ (u : Value) (G' : Pin), e = .returned (.agg [u].toArray) ∧ RSl eNode G' u (formM ns bs m.toNat) ∧ Ext noS G w G' w' ∧ ∃ Gi, Own eNode 68 Gi w' w.heap.size u (formM ns bs m.toNat) ∧ Pin.le Gi G' := by
 refine yD (n := 143) Tryz.func115 Tryz.ntmps115 rfl rfl ?_
 have jo : Ext noS G w G w := Ext.refl hP
 have hbx := hB.bx
 have hou := hB.ou
 have hov := hB.ov
 have habu := hB.abu
 have habv := hB.abv
 have hauv := hB.auv
 have hlob : Lo w (inS b bu bv) (some b) := lo_b
 have hlou : Lo w (inS b bu bv) bu.ownBlock := lo_u
 have hlov : Lo w (inS b bu bv) bv.ownBlock := lo_v
 have hlen := hok.len
 have hlim := hok.lim
 have hoo : OptsOk ns := hok.optsOk
 refine zB (zC ?_)
 refine qI rfl (yH [(.slice none 0 0)] zr28 rfl jo.pins (fun f w2 hk3 nc hp5 hk => ?_))
 have jp := jo.step hp5 hk
 have jq := hou.below hk
 have jr := hov.below hk
 have js := hbx.below hk
 have aao : w.heap.size ≤ f := by have := jo.size; omega
 refine qe (zA (zB (zC ?_)))
 refine qM (.pointer (some ⟨b, 0, none⟩)) ?_
 refine qM (vJ m) ?_
 refine qI rfl (zM (vs := [(.pointer (some ⟨b, 0, none⟩)), (vJ m)]) Tryz.func144 nm144 rfl rfl rfl ?_)
 refine Calls.mono (reached_spec jp.pins ⟨js, jq, jr, habu, habv, hauv⟩ hok hm) ?_
 rintro _ w17 ⟨ax, G16, rfl, gu, gv⟩
 refine ⟨_, rfl, ?_⟩
 have aar := jp.tr gv
 have aas := jq.ext gv
 have aat := jr.ext gv
 have aau := js.ext gv
 have aav := nc.ext gv
 have aaw := zS gu.lt jq.lt
 have aax := zS gu.lt jr.lt
 have aay := zZ gu.lt js.lt
 have aaz := zZ gu.lt nc.lt
 have aa0 : Own eBool 4 G16 w17 w.heap.size ax (reachM ns (m).toNat) := gu.weaken jp.size
 obtain ⟨hl, nd, jt, ne, hn⟩ := aa0.sealed aar
 have nf := aas.moreO nd hn aaw.symm
 have ng := aat.moreO nd hn aax.symm
 have nh := aau.moreO hn aay.symm
 have ni := aav.moreO hn aaz.symm
 have hnl := reach_length ns m.toNat
 refine qM ax ?_
 refine qe (zA (zB (zC ?_)))
 refine qM (vJ m) ?_
 refine qD rfl (yR rfl rfl (by omega)) ?_
 refine qI rfl (o_make (E := eInt) 0 8 (vJ 0) Tryz.underlying57 mk3 (fun _ => rfl) rfl rfl jt.pins (by omega) (by omega) (by omega) (fun b8 w40 aa2 aa3 gw ho => ?_))
 have ju := jt.step aa3 gw
 have nj := nf.below gw
 have nk := ng.below gw
 have nl := nh.below gw
 have nm := ni.below gw
 have aa4 : Apart b8.ownBlock bu.ownBlock := zI ho nf.lt
 have aa5 : Apart b8.ownBlock bv.ownBlock := zI ho ng.lt
 have aa6 : Apart b8.ownBlock (some b) := zH ho nh.lt
 have aa7 : Apart b8.ownBlock (some f) := zH ho ni.lt
 have nn : Own eInt 3 hl w40 w.heap.size b8 (List.replicate (m + 1).toNat 0) := aa2.weaken jt.size
 have avc : (List.replicate (m + 1).toNat 0).length = (m + 1).toNat := List.length_replicate ..
 refine qM b8 ?_
 refine qe (zA (zB (zC ?_)))
 refine qI rfl (yZ (E := eNode) (e := 68) Tryz.underlying26 sz68 ju.pins (fun ap w57 aa9 aba gc gx => ?_))
 have jv := ju.step aba gc
 have no := nj.below gc
 have np := nk.below gc
 have nq := nn.below gc
 have nr := nl.below gc
 have nt := nm.below gc
 have abb : Apart ap.ownBlock bu.ownBlock := zI gx nj.lt
 have abc : Apart ap.ownBlock bv.ownBlock := zI gx nk.lt
 have abd : Apart ap.ownBlock b8.ownBlock := zI gx nn.lt
 have abe : Apart ap.ownBlock (some b) := zH gx nl.lt
 have abf : Apart ap.ownBlock (some f) := zH gx nm.lt
 have jw : Own eNode 68 hl w57 w.heap.size ap ([]) := aa9.weaken ju.size
 refine qD rfl (xF [(.slice none 0 0)] [ap] [(0, ap, [ap])] Tryz.underlying28 zr28 rfl pl28 rfl (List.forall_mem_cons.2 ⟨(yY jw.one), (fun _ h => by cases h)⟩) rfl) ?_
 refine qI rfl (yH [(.slice none 0 0)] zr28 rfl jv.pins (fun d w75 gd abg abh ey => ?_))
 have nu := jv.step abh ey
 have abi := no.below ey
 have abj := np.below ey
 have abk := nq.below ey
 have nv := jw.below ey
 have abl := nr.below ey
 have abm := nt.below ey
 have nw : Apart (some d) bu.ownBlock := zI (congrArg some gd) no.lt
 have nx : Apart (some d) bv.ownBlock := zI (congrArg some gd) np.lt
 have ny : Apart (some d) b8.ownBlock := zI (congrArg some gd) nq.lt
 have nz : Apart (some d) ap.ownBlock := zI (congrArg some gd) jw.lt
 have n0 : Apart (some d) (some b) := zH (congrArg some gd) nr.lt
 have n1 : Apart (some d) (some f) := zH (congrArg some gd) nt.lt
 have n2 : w.heap.size ≤ d := by have := jv.size; omega
 refine q0 rfl rfl rfl (yM (cs' := [ap]) (us := [ap]) (v := (.agg [ap].toArray)) sz28 rfl rfl rfl (yC nv.one) nu.pins abg (Nat.le_of_ble_eq_true rfl) rfl (fun w94 abn abo ez avf => ?_))
 have abp := nu.write abo ez ((zV n2))
 have abq := abi.keptA ez nw.symm
 have abr := abj.keptA ez nx.symm
 have abs := abk.keptA ez ny.symm
 have abt := nv.keptA ez nz.symm
 have abw := abl.keptA ez n0.symm
 have abx := abm.keptA ez n1.symm
 refine qe (zA (zB (zB (zC ?_))))
 refine qM (vJ 0) ?_
 refine qe (zA ?_)
 refine zX ?_
 refine yQ (fun (k : Nat) (en : Nat → Value) (W : World) => ∃ (ac : Nat → Value) (q : Nat) (at_ : Value) (ats : List Int) (ov : Value) (outs : List Nd) (ar : Pin), en = (upd (upd (upd (upd (upd (upd (upd ac 0 (.pointer (some ⟨b, 0, none⟩))) 1 (vJ m)) 4 (.pointer (some ⟨f, 0, none⟩))) 5 ax) 6 at_) 7 (.pointer (some ⟨d, 0, none⟩))) 8 (vJ (q : Int))) ∧ k = (bs.getD m.toNat 0).toNat + 1 - q ∧ Ext noS G w ar W ∧ Pin.le hl ar ∧ (q ≤ (bs.getD m.toNat 0).toNat + 1) ∧ (formGo ns bs (reachM ns m.toNat) (m.toNat + 1) q = (ats, outs)) ∧ (ats.length = m.toNat + 1) ∧ (outs.length ≤ q * 1048576) ∧ (Own eInt 3 ar W w.heap.size at_ (ats)) ∧ (Own eNode 68 ar W w.heap.size ov (outs)) ∧ (Own eNode 68 ar W 0 bu (ns)) ∧ (Own eInt 3 ar W 0 bv (bs)) ∧ (Bx ar W b [bu, bv]) ∧ (Bx ar W f [(.slice none 0 0)]) ∧ (Bx ar W d [ov]) ∧ (Apart at_.ownBlock ov.ownBlock) ∧ (Apart at_.ownBlock bu.ownBlock) ∧ (Apart at_.ownBlock bv.ownBlock) ∧ (Apart at_.ownBlock (some b)) ∧ (Apart at_.ownBlock (some f)) ∧ (Apart at_.ownBlock (some d)) ∧ (Apart ov.ownBlock bu.ownBlock) ∧ (Apart ov.ownBlock bv.ownBlock) ∧ (Apart ov.ownBlock (some b)) ∧ (Apart ov.ownBlock (some f)) ∧ (Apart ov.ownBlock (some d))) _ ⟨_, 0, b8, List.replicate (m + 1).toNat 0, ap, [], hl, (pS 8 (pS 7 (pS 6 (pS 5 (pS 4 (pS 1 (pU 0))))))), rfl, abp, Pin.le_refl _, Nat.zero_le _, (by rw [show (m + 1).toNat = m.toNat + 1 by omega]; rfl), (by simp; omega), Nat.le_refl 0, abs, abt, abq, abr, abw, abx, abn, abd.symm, aa4, aa5, aa6, aa7, ny.symm, abb, abc, abe, abf, nz.symm⟩ ?_
 rintro avg _ avh ⟨ac, q, at_, ats, ov, outs, ar, rfl, avi, ge, n3, hq, hr, hatl, hol, n4, hp, n5, hs, jx, jy, jz, aby, abz, ab0, ab1, ab2, ab3, ab4, ab5, ab6, n6, ab7⟩
 have hbm := hok.born m.toNat (by omega)
 refine zB (zB (zC ?_))
 refine qM (vJ (q : Int)) ?_
 refine qM (.pointer (some ⟨b, 0, none⟩)) ?_
 refine qD rfl (xB rfl) ?_
 refine qD rfl (zO (k := 1) rfl Tryz.underlying133 rfl nz57 rfl) ?_
 refine qD rfl (zP (u := bv) ag57 rfl (jx.cell (o := 1) rfl)) ?_
 refine qM (vJ m) ?_
 refine qD rfl (zJ Tryz.underlying57 sz3 (v := bv) rfl rfl hs.read (by omega) (by omega)) ?_
 refine qD rfl (zK (r := bs.getD (m).toNat 0) rfl ag3 (z := m) rfl hs.read (Gadd.pins ge.pins bv) (by omega) (by omega)) ?_
 refine qD rfl (r_leq rfl rfl) ?_
 refine qe (zA ?_)
 refine yI (p := ((q : Int) : Int) ≤ (bs.getD (m).toNat 0)) rfl rfl (fun ab8 => ?_) (fun ab8 => ?_)
 ·skip
  refine wp_skip ?_
  refine zA (zB ?_)
  refine zX ?_
  refine zB (zC ?_)
  refine qI rfl (yZ (E := eNode) (e := 68) Tryz.underlying26 sz68 ge.pins (fun bc ab9 aca acb dj e0 => ?_))
  have j0 := ge.step acb dj
  have n7 := n4.below dj
  have n8 := hp.below dj
  have n9 := n5.below dj
  have oa := hs.below dj
  have ob := jx.below dj
  have oc := jy.below dj
  have od := jz.below dj
  have acc : Apart bc.ownBlock at_.ownBlock := zI e0 n4.lt
  have acd : Apart bc.ownBlock ov.ownBlock := zI e0 hp.lt
  have ace : Apart bc.ownBlock bu.ownBlock := zI e0 n5.lt
  have acf : Apart bc.ownBlock bv.ownBlock := zI e0 hs.lt
  have acg : Apart bc.ownBlock (some b) := zH e0 jx.lt
  have ach : Apart bc.ownBlock (some f) := zH e0 jy.lt
  have aci : Apart bc.ownBlock (some d) := zH e0 jz.lt
  have oe : Own eNode 68 ar ab9 w.heap.size bc ([]) := aca.weaken ge.size
  refine qI rfl (yZ (E := eInt) (e := 3) Tryz.underlying57 sz3 j0.pins (fun bd acj ack acl b9 dk => ?_))
  have acm := j0.step acl b9
  have acn := n7.below b9
  have aco := n8.below b9
  have acp := n9.below b9
  have acq := oa.below b9
  have acr := oe.below b9
  have acs := ob.below b9
  have act := oc.below b9
  have acu := od.below b9
  have acv : Apart bd.ownBlock at_.ownBlock := zI dk n7.lt
  have acw : Apart bd.ownBlock ov.ownBlock := zI dk n8.lt
  have acx : Apart bd.ownBlock bu.ownBlock := zI dk n9.lt
  have acy : Apart bd.ownBlock bv.ownBlock := zI dk oa.lt
  have acz : Apart bd.ownBlock bc.ownBlock := zI dk oe.lt
  have ac0 : Apart bd.ownBlock (some b) := zH dk ob.lt
  have ac1 : Apart bd.ownBlock (some f) := zH dk oc.lt
  have ac2 : Apart bd.ownBlock (some d) := zH dk od.lt
  have ac3 : Own eInt 3 ar acj w.heap.size bd ([]) := ack.weaken j0.size
  refine qM bc ?_
  refine qM bd ?_
  refine qe (zA (zB (zB (zC ?_))))
  refine qM (vJ 0) ?_
  refine qe (zA ?_)
  refine zX ?_
  obtain ⟨avj, e1, ac4, ac5, dl⟩ := acr.sealed acm
  have ac6 := acn.moreO e1 dl acc.symm
  have ac7 := aco.moreO e1 dl acd.symm
  have ac8 := acp.moreO e1 dl ace.symm
  have ac9 := acq.moreO e1 dl acf.symm
  have ada := ac3.moreO e1 dl acz
  have adb := acs.moreO dl acg.symm
  have adc := act.moreO dl ach.symm
  have add := acu.moreO dl aci.symm
  obtain ⟨og, e2, ade, adf, e3⟩ := ada.sealed ac4
  have adg := ac6.moreO e2 e3 acv.symm
  have adh := ac7.moreO e2 e3 acw.symm
  have adi := ac8.moreO e2 e3 acx.symm
  have adj := ac9.moreO e2 e3 acy.symm
  have adk := adb.moreO e3 ac0.symm
  have adl := adc.moreO e3 ac1.symm
  have adm := add.moreO e3 ac2.symm
  refine yQ (fun (k : Nat) (en : Nat → Value) (W : World) => ∃ (ac : Nat → Value) (c : Nat) (lv : Value) (ls : List Nd) (fv : Value) (fr : List Int) (ai : Pin), en = (upd (upd (upd (upd (upd (upd (upd (upd (upd (upd ac 0 (.pointer (some ⟨b, 0, none⟩))) 1 (vJ m)) 4 (.pointer (some ⟨f, 0, none⟩))) 5 ax) 6 at_) 7 (.pointer (some ⟨d, 0, none⟩))) 8 (vJ (q : Int))) 9 lv) 10 fv) 11 (vJ (c : Int))) ∧ k = m.toNat + 1 - c ∧ Ext noS G w ai W ∧ Pin.le og ai ∧ (c ≤ m.toNat + 1) ∧ (lvM ns bs (reachM ns m.toNat) ats q c = (ls, fr)) ∧ (ls.length = fr.length ∧ ls.length ≤ c) ∧ (∀ i, i < fr.length → 0 ≤ fr.getD i 0 ∧ fr.getD i 0 ≤ m) ∧ (Own eInt 3 ai W w.heap.size at_ (ats)) ∧ (Own eNode 68 ai W w.heap.size ov (outs)) ∧ (Own eNode 68 ai W 0 bu (ns)) ∧ (Own eInt 3 ai W 0 bv (bs)) ∧ (Bx ai W b [bu, bv]) ∧ (Bx ai W f [(.slice none 0 0)]) ∧ (Bx ai W d [ov]) ∧ (RSl eNode ai lv (ls)) ∧ (RSl eInt ai fv (fr))) _ ⟨_, 0, bc, [], bd, [], og, (pS 11 (pS 10 (pS 9 (pS 8 (pS 7 (pS 6 (pS 5 (pS 4 (pS 1 (pU 0)))))))))), rfl, ade, Pin.le_refl _, Nat.zero_le _, rfl, ⟨rfl, Nat.le_refl 0⟩, (fun i hi => absurd hi (Nat.not_lt_zero i)), adg, adh, adi, adj, adk, adl, adm, (ac5.mono e2), adf⟩ ?_
  rintro avk _ ht ⟨ac, c, lv, ls, fv, fr, ai, rfl, avl, dm, gy, hk5, hrl, hll, hfb, hu, hv, e4, gf, gz, hw, hx, bk, gg⟩
  refine zB (zB (zC ?_))
  refine qM (vJ (c : Int)) ?_
  refine qM (vJ m) ?_
  refine qD rfl (r_leq rfl rfl) ?_
  refine qe (zA ?_)
  refine yI (p := ((c : Int) : Int) ≤ m) rfl rfl (fun adn => ?_) (fun adn => ?_)
  ·skip
   have hlk := hok.lens c (by omega)
   refine wp_skip ?_
   refine zA (zB ?_)
   refine zX ?_
   refine zB (zB (zC ?_))
   refine qM ax ?_
   refine qM (vJ (c : Int)) ?_
   refine qD rfl (zJ Tryz.underlying125 sz4 (v := ax) rfl rfl ne (by omega) (by omega)) ?_
   refine qD rfl (run_load_bool (r := (reachM ns (m).toNat).getD c false) rfl ag4 (z := (c : Int)) rfl ne (Pins.of_le dm.pins (Pin.le_trans (Pin.le_trans (Pin.le_trans n3 e1) e2) gy)) (by omega) (by omega)) ?_
   refine qD rfl (qC rfl) ?_
   refine qM (.bool (!((reachM ns (m).toNat).getD c false))) ?_
   refine qbn (t := 46) rfl (fun j1 => ?_) (fun j1 => ?_)
   ·skip
    refine qN (zU (v := (.pointer (some ⟨b, 0, none⟩))) rfl) ?_
    refine qN (xB rfl) ?_
    refine qN (zO (k := 1) rfl Tryz.underlying133 rfl nz57 rfl) ?_
    refine qN (zP (u := bv) ag57 rfl (gz.cell (o := 1) rfl)) ?_
    refine qN (zU (v := (vJ (c : Int))) rfl) ?_
    refine qN (zJ Tryz.underlying57 sz3 (v := bv) rfl rfl gf.read (by omega) (by omega)) ?_
    refine qN (zK (r := bs.getD c 0) rfl ag3 (z := (c : Int)) rfl gf.read (Gadd.pins dm.pins bv) (by omega) (by omega)) ?_
    refine qN (zU (v := (vJ (q : Int))) rfl) ?_
    refine qN (r_neq rfl rfl) ?_
    refine qD rfl (xA (v := (.bool (decide ((bs.getD c 0 : Int) ≠ (q : Int))))) rfl rfl) ?_
    refine qe (zA ?_)
    refine yI (p := (bs.getD c 0 : Int) ≠ (q : Int)) rfl rfl (fun ado => ?_) (fun ado => ?_)
    ·skip
     refine wp_exit ?_
     refine yA ?_
     refine yL ?_
     refine zA (zC ?_)
     refine qM (vJ (c : Int)) ?_
     refine qD rfl (yR rfl rfl (by omega)) ?_
     refine qM (vJ ((c : Int) + 1)) ?_
     refine qe ?_
     refine yK ?_
     refine ⟨_, ?_, _, rfl, _, c + 1, lv, ls, fv, fr, ai, (pS 11 (pS 10 (pS 9 (pS 8 (pS 7 (pS 6 (pS 5 (pS 4 (pS 1 (pU 0)))))))))), rfl, dm, gy, (by omega), (lv_skip hrl (fun g => by have := g.2; omega)), (by omega), hfb, hu, hv, e4, gf, gz, hw, hx, bk, gg⟩
     omega
    refine wp_skip ?_
    refine zA (zB ?_)
    refine c_cut (fun (en : Nat → Value) (W : World) => ∃ (ac : Nat → Value) (g0 : Nat) (ca : Value) (cb : Value) (am : Pin), en = (upd (upd (upd (upd (upd (upd (upd (upd (upd (upd (upd ac 0 (.pointer (some ⟨b, 0, none⟩))) 1 (vJ m)) 4 (.pointer (some ⟨f, 0, none⟩))) 5 ax) 6 at_) 7 (.pointer (some ⟨d, 0, none⟩))) 8 (vJ (q : Int))) 9 lv) 10 fv) 11 (vJ (c : Int))) 12 (.pointer (some ⟨g0, 0, none⟩))) ∧ Ext noS G w am W ∧ Pin.le ai am ∧ (RSl eInt am ca (sortL (atL ats ((ns.getD c default).l)))) ∧ (RSl eInt am cb (sortL (atL ats ((ns.getD c default).r)))) ∧ (Own eInt 3 am W w.heap.size at_ ats) ∧ (Own eNode 68 am W w.heap.size ov outs) ∧ (Own eNode 68 am W 0 bu ns) ∧ (Own eInt 3 am W 0 bv bs) ∧ (Bx am W b [bu, bv]) ∧ (Bx am W f [(.slice none 0 0)]) ∧ (Bx am W d [ov]) ∧ (BxP am g0 [ca, cb])) ?_ ?_
    ·rintro _ avn ⟨ac, g0, ca, cb, am, rfl, adp, an, hy, hz, adq, adr, ads, adt, adu, adv, adw, oh⟩
     refine zA (zB (zC ?_))
     refine qM (vJ 0) ?_
     refine qe (zA (zB ?_))
     refine zX ?_
     refine c_cutE (fun (en : Nat → Value) (W : World) => ∃ (ac : Nat → Value) (i : Nat) (s : Pin), en = (upd (upd (upd (upd (upd (upd (upd (upd (upd (upd (upd (upd ac 0 (.pointer (some ⟨b, 0, none⟩))) 1 (vJ m)) 4 (.pointer (some ⟨f, 0, none⟩))) 5 ax) 6 at_) 7 (.pointer (some ⟨d, 0, none⟩))) 8 (vJ (q : Int))) 9 lv) 10 fv) 11 (vJ (c : Int))) 12 (.pointer (some ⟨g0, 0, none⟩))) 13 (vJ (i : Int))) ∧ Ext noS G w s W ∧ Pin.le am s ∧ (i ≤ ls.length) ∧ (posM ls (ndAt ats (ns.getD c default)) = i) ∧ (Own eInt 3 s W w.heap.size at_ (ats)) ∧ (Own eNode 68 s W w.heap.size ov (outs)) ∧ (Own eNode 68 s W 0 bu (ns)) ∧ (Own eInt 3 s W 0 bv (bs)) ∧ (Bx s W b [bu, bv]) ∧ (Bx s W f [(.slice none 0 0)]) ∧ (Bx s W d [ov])) 4 ?_ ?_
     ·rintro _ e5 ⟨ac, i, s, rfl, g1, y, hi, hpe, j2, j3, j4, j5, j6, j7, j8⟩
      refine yL ?_
      refine zA (zB ?_)
      refine c_cut (fun (en : Nat → Value) (W : World) => ∃ (ac : Nat → Value) (ab : Value) (ae : Pin), en = (upd (upd (upd (upd (upd (upd (upd (upd (upd (upd (upd ac 0 (.pointer (some ⟨b, 0, none⟩))) 1 (vJ m)) 4 (.pointer (some ⟨f, 0, none⟩))) 5 ax) 6 at_) 7 (.pointer (some ⟨d, 0, none⟩))) 8 (vJ (q : Int))) 9 ab) 10 fv) 11 (vJ (c : Int))) 13 (vJ (i : Int))) ∧ Ext noS G w ae W ∧ Pin.le s ae ∧ (Own eInt 3 ae W w.heap.size at_ ats) ∧ (Own eNode 68 ae W w.heap.size ov outs) ∧ (Own eNode 68 ae W 0 bu ns) ∧ (Own eInt 3 ae W 0 bv bs) ∧ (Own eNode 68 ae W w.heap.size ab (((([]) ++ ((ls.take i).drop 0)) ++ ([(⟨sortL (atL ats ((ns.getD c default).l)), sortL (atL ats ((ns.getD c default).r))⟩ : Nd)])) ++ ((ls.take ls.length).drop i))) ∧ (Bx ae W b [bu, bv]) ∧ (Bx ae W f [(.slice none 0 0)]) ∧ (Bx ae W d [ov]) ∧ (Apart at_.ownBlock ab.ownBlock) ∧ (Apart ov.ownBlock ab.ownBlock) ∧ (Apart bu.ownBlock ab.ownBlock) ∧ (Apart bv.ownBlock ab.ownBlock) ∧ (Apart ab.ownBlock (some b)) ∧ (Apart ab.ownBlock (some f)) ∧ (Apart ab.ownBlock (some d))) ?_ ?_
      ·rintro _ j9 ⟨ac, ab, ae, rfl, oi, e6, adx, ady, adz, ad0, ad1, ad2, ad3, ad4, ad5, ad6, ad7, ad8, ad9, aea, aeb⟩
       refine zA ?_
       refine c_cut (fun (en : Nat → Value) (W : World) => ∃ (ac : Nat → Value) (ay : Value) (az : Pin), en = (upd (upd (upd (upd (upd (upd (upd (upd (upd (upd ac 0 (.pointer (some ⟨b, 0, none⟩))) 1 (vJ m)) 4 (.pointer (some ⟨f, 0, none⟩))) 5 ax) 6 at_) 7 (.pointer (some ⟨d, 0, none⟩))) 8 (vJ (q : Int))) 9 ab) 10 ay) 11 (vJ (c : Int))) ∧ Ext noS G w az W ∧ Pin.le ae az ∧ (Own eInt 3 az W w.heap.size at_ ats) ∧ (Own eNode 68 az W w.heap.size ov outs) ∧ (Own eNode 68 az W 0 bu ns) ∧ (Own eInt 3 az W 0 bv bs) ∧ (Own eNode 68 az W w.heap.size ab (((([]) ++ ((ls.take i).drop 0)) ++ ([(⟨sortL (atL ats ((ns.getD c default).l)), sortL (atL ats ((ns.getD c default).r))⟩ : Nd)])) ++ ((ls.take ls.length).drop i))) ∧ (Own eInt 3 az W w.heap.size ay (((([]) ++ ((fr.take i).drop 0)) ++ ([(c : Int)])) ++ ((fr.take fr.length).drop i))) ∧ (Bx az W b [bu, bv]) ∧ (Bx az W f [(.slice none 0 0)]) ∧ (Bx az W d [ov]) ∧ (Apart at_.ownBlock ay.ownBlock) ∧ (Apart ov.ownBlock ay.ownBlock) ∧ (Apart bu.ownBlock ay.ownBlock) ∧ (Apart bv.ownBlock ay.ownBlock) ∧ (Apart ab.ownBlock ay.ownBlock) ∧ (Apart ay.ownBlock (some b)) ∧ (Apart ay.ownBlock (some f)) ∧ (Apart ay.ownBlock (some d))) ?_ ?_
       ·rintro _ avo ⟨ac, ay, az, rfl, aec, aed, aee, aef, aeg, aeh, aei, aej, aek, ael, aem, aen, aeo, aep, aeq, aer, aes, aet, aeu⟩
        refine yJ ?_
        refine zA (zC ?_)
        refine qM (vJ (c : Int)) ?_
        refine qD rfl (yR rfl rfl (by omega)) ?_
        refine qM (vJ ((c : Int) + 1)) ?_
        refine qe ?_
        refine yK ?_
        obtain ⟨avp, gh, aev, aew, dn⟩ := aei.sealed aec
        have aex := aee.moreO gh dn ad5
        have aey := aef.moreO gh dn ad6
        have aez := aeg.moreO gh dn ad7
        have ae0 := aeh.moreO gh dn ad8
        have ae1 := aej.moreO gh dn aer.symm
        have ae2 := aek.moreO dn ad9.symm
        have ae3 := ael.moreO dn aea.symm
        have ae4 := aem.moreO dn aeb.symm
        obtain ⟨ae5, gi, ae6, ae7, e7⟩ := ae1.sealed aev
        have ae8 := aex.moreO gi e7 aen
        have ae9 := aey.moreO gi e7 aeo
        have afa := aez.moreO gi e7 aep
        have afb := ae0.moreO gi e7 aeq
        have afc := ae2.moreO e7 aes.symm
        have afd := ae3.moreO e7 aet.symm
        have afe := ae4.moreO e7 aeu.symm
        have ka := ins_len (x := ndAt ats (ns.getD c default)) (l := ls) (i := i) (by omega)
        have hi2 := ins_len (x := (c : Int)) (l := fr) (i := i) (by omega)
        refine ⟨_, ?_, _, rfl, _, c + 1, ab, ((([]) ++ ((ls.take i).drop 0)) ++ ([(⟨sortL (atL ats ((ns.getD c default).l)), sortL (atL ats ((ns.getD c default).r))⟩ : Nd)])) ++ ((ls.take ls.length).drop i), ay, ((([]) ++ ((fr.take i).drop 0)) ++ ([(c : Int)])) ++ ((fr.take fr.length).drop i), ae5, (pS 11 (pS 10 (pS 9 (pS 8 (pS 7 (pS 6 (pS 5 (pS 4 (pS 1 (pU 0)))))))))), rfl, ae6, (Pin.le_trans (Pin.le_trans (Pin.le_trans (Pin.le_trans (Pin.le_trans (Pin.le_trans gy an) y) e6) aed) gh) gi), (by omega), (lv_ins hrl j1 (by omega) hpe), ⟨ka.trans ((congrArg (· + 1) hll.1).trans hi2.symm), (by have : _ = _ := ka; exact Nat.le_trans (Nat.le_of_eq ka) (by omega))⟩, (ins_all (P := fun x => 0 ≤ x ∧ x ≤ m) hfb (by omega)), ae8, ae9, afa, afb, afc, afd, afe, (aew.mono gi), ae7⟩
        omega
       ·skip
        refine xG (S := fun wz => Pins ae wz) (last := 13) (by kernel_rfl) rfl ?_
        have bl : Below j9.heap.size j9 j9.drew := (Below.refl _ _).drew
        have afg := oi.pins.below bl
        have au := oi.step afg bl
        have kb := adx.below bl
        have kc := ady.below bl
        have kd := adz.below bl
        have ke := ad0.below bl
        have kf := ad1.below bl
        have kg := ad2.below bl
        have kh := ad3.below bl
        have ki := ad4.below bl
        refine dM 1 fv au.pins ?_
        refine dM 2 (vJ (i : Int)) au.pins ?_
        obtain ⟨kj, kk, afh⟩ := qQ gg (lo := none) (hi := (some ((i : Int)))) (0) (i) (Or.inl ⟨rfl, rfl⟩) (Or.inr ⟨_, rfl, (by omega), rfl⟩) (by omega) (by omega)
        refine dT (i := 3) rfl rfl (by kernel_rfl) (fun _ _ => afh Tryz.underlying57 sz3 rfl rfl rfl) au.pins ?_
        refine dM 5 (vJ (c : Int)) au.pins ?_
        refine dM 8 fv au.pins ?_
        refine dM 9 (vJ (i : Int)) au.pins ?_
        obtain ⟨kl, km, afi⟩ := qQ gg (lo := (some ((i : Int)))) (hi := none) (i) (fr.length) (Or.inr ⟨_, rfl, (by omega), rfl⟩) (Or.inl ⟨rfl, rfl⟩) (by omega) (by omega)
        refine dT (i := 10) rfl rfl (by kernel_rfl) (fun _ _ => afi Tryz.underlying57 sz3 rfl rfl rfl) au.pins ?_
        refine qK (i := 0) (j := 6) (by kernel_rfl) ?_ ?_
        ·skip
         refine (zT (i := 0) rfl rfl rfl (zD rfl _) (yZ (E := eInt) (e := 3) Tryz.underlying57 sz3 au.pins (fun a0 afj afk afl cc dp => ?_)))
         have dq := au.step afl cc
         have kn := kb.below cc
         have ko := kc.below cc
         have kp := kd.below cc
         have kq := ke.below cc
         have kr := kf.below cc
         have ks := kg.below cc
         have kt := kh.below cc
         have ku := ki.below cc
         have h0 : Apart a0.ownBlock at_.ownBlock := zI dp kb.lt
         have h1 : Apart a0.ownBlock ov.ownBlock := zI dp kc.lt
         have h2 : Apart a0.ownBlock bu.ownBlock := zI dp kd.lt
         have h3 : Apart a0.ownBlock bv.ownBlock := zI dp ke.lt
         have h4 : Apart a0.ownBlock ab.ownBlock := zI dp kf.lt
         have h5 : Apart a0.ownBlock (some b) := zH dp kg.lt
         have h6 : Apart a0.ownBlock (some f) := zH dp kh.lt
         have h7 : Apart a0.ownBlock (some d) := zH dp ki.lt
         have h8 : Own eInt 3 ae afj w.heap.size a0 ([]) := afk.weaken au.size
         refine ⟨fun _ => dq.pins, ?_⟩
         refine qK (i := 4) (j := 6) (by kernel_rfl) ?_ ?_
         ·skip
          refine (zT (i := 4) rfl rfl rfl (zD rfl _) (oA (E := eInt) (v := a0) (u := kj) 8 Tryz.underlying57 ap3 (by decide) rfl rfl dq.pins h8 ((kk.mono (Pin.le_trans (Pin.le_trans an y) e6)).src dq.pins (by decide)) (dq.size) (fun cd avq afm afn ce dr => ?_)))
          have h9 := dq.write afn ce ((yB h8))
          have afo := kn.keptA ce h0.symm
          have afp := ko.keptA ce h1.symm
          have afq := kp.keptA ce h2.symm
          have afr := kq.keptA ce h3.symm
          have afs := kr.keptA ce h4.symm
          have aft := ks.keptA ce h5.symm
          have afu := kt.keptA ce h6.symm
          have afv := ku.keptA ce h7.symm
          have oj : Apart at_.ownBlock cd.ownBlock := zG h0.symm dr kn.lt
          have ok : Apart ov.ownBlock cd.ownBlock := zG h1.symm dr ko.lt
          have ol : Apart bu.ownBlock cd.ownBlock := zG h2.symm dr kp.lt
          have om : Apart bv.ownBlock cd.ownBlock := zG h3.symm dr kq.lt
          have oo : Apart ab.ownBlock cd.ownBlock := zG h4.symm dr kr.lt
          have op : Apart (some b) cd.ownBlock := zL h5.symm dr ks.lt
          have oq : Apart (some f) cd.ownBlock := zL h6.symm dr kt.lt
          have os : Apart (some d) cd.ownBlock := zL h7.symm dr ku.lt
          have avr : (([]) ++ ((fr.take i).drop 0)).length = ([]).length + ((fr.take i).drop 0).length := List.length_append
          refine ⟨fun _ => h9.pins, ?_⟩
          refine dO (i := 6) (zT (i := 6) rfl rfl rfl (zD rfl _) (yU (E := eInt) (e := 3) [(vJ (c : Int))] [(c : Int)] Tryz.underlying57 sz3 zr3 (by exact xQ (by rfl)) (yC (by rfl)) rfl rfl rfl rfl (by decide) h9.pins (fun ot afw afx afy bm avs => ?_)))
          have ia := h9.step afy bm
          have ow := afo.below bm
          have ox := afp.below bm
          have oy := afq.below bm
          have oz := afr.below bm
          have o0 := afs.below bm
          have o1 := afm.below bm
          have o2 := aft.below bm
          have o3 := afu.below bm
          have o4 := afv.below bm
          have afz : Own eInt 3 ae afw w.heap.size ot ([(c : Int)]) := afx.weaken h9.size
          refine ⟨fun _ => ia.pins, ?_⟩
          refine dO (i := 7) (zT (i := 7) rfl rfl rfl (zD rfl _) (oA (E := eInt) (v := cd) (u := ot) 8 Tryz.underlying57 ap3 (by decide) rfl rfl ia.pins o1 afz.src (ia.size) (fun cf avt o5 af0 cg ds => ?_)))
          have g2 := ia.write af0 cg ((yB o1))
          have o6 := ow.keptA cg oj
          have o7 := ox.keptA cg ok
          have o8 := oy.keptA cg ol
          have o9 := oz.keptA cg om
          have pa := o0.keptA cg oo
          have pb := o2.keptA cg op
          have pc := o3.keptA cg oq
          have pd := o4.keptA cg os
          have pe : Apart at_.ownBlock cf.ownBlock := zG oj ds ow.lt
          have pf : Apart ov.ownBlock cf.ownBlock := zG ok ds ox.lt
          have pg : Apart bu.ownBlock cf.ownBlock := zG ol ds oy.lt
          have ph : Apart bv.ownBlock cf.ownBlock := zG om ds oz.lt
          have pi : Apart ab.ownBlock cf.ownBlock := zG oo ds o0.lt
          have pj : Apart (some b) cf.ownBlock := zL op ds o2.lt
          have pk : Apart (some f) cf.ownBlock := zL oq ds o3.lt
          have pl : Apart (some d) cf.ownBlock := zL os ds o4.lt
          have avu : ((([]) ++ ((fr.take i).drop 0)) ++ ([(c : Int)])).length = (([]) ++ ((fr.take i).drop 0)).length + 1 := List.length_append
          refine ⟨fun _ => g2.pins, ?_⟩
          refine dO (i := 11) (zT (i := 11) rfl rfl rfl (zD rfl _) (oA (E := eInt) (v := cf) (u := kl) 8 Tryz.underlying57 ap3 (by decide) rfl rfl g2.pins o5 ((km.mono (Pin.le_trans (Pin.le_trans an y) e6)).src g2.pins (by decide)) (g2.size) (fun bn avv af1 af2 ch dt => ?_)))
          have kv := g2.write af2 ch ((yB o5))
          have af3 := o6.keptA ch pe
          have af4 := o7.keptA ch pf
          have af5 := o8.keptA ch pg
          have af6 := o9.keptA ch ph
          have af7 := pa.keptA ch pi
          have af8 := pb.keptA ch pj
          have af9 := pc.keptA ch pk
          have aga := pd.keptA ch pl
          have agb : Apart at_.ownBlock bn.ownBlock := zG pe dt o6.lt
          have agc : Apart ov.ownBlock bn.ownBlock := zG pf dt o7.lt
          have agd : Apart bu.ownBlock bn.ownBlock := zG pg dt o8.lt
          have age : Apart bv.ownBlock bn.ownBlock := zG ph dt o9.lt
          have agf : Apart ab.ownBlock bn.ownBlock := zG pi dt pa.lt
          have agh : Apart (some b) bn.ownBlock := zL pj dt pb.lt
          have agi : Apart (some f) bn.ownBlock := zL pk dt pc.lt
          have agj : Apart (some d) bn.ownBlock := zL pl dt pd.lt
          have avw : (((([]) ++ ((fr.take i).drop 0)) ++ ([(c : Int)])) ++ ((fr.take fr.length).drop i)).length = ((([]) ++ ((fr.take i).drop 0)) ++ ([(c : Int)])).length + ((fr.take fr.length).drop i).length := List.length_append
          refine ⟨fun _ => kv.pins, ?_⟩
          refine dM 12 bn kv.pins ?_
          refine yT (by kernel_rfl) ?_
          exact xR ⟨_, bn, ae, (pS 11 (pS 10 (pS 9 (pS 8 (pS 7 (pS 6 (pS 5 (pS 4 (pS 1 (pU 0)))))))))), kv, (Pin.le_refl _), af3, af4, af5, af6, af7, af1, af8, af9, aga, agb, agc, agd, age, agf, agh.symm, agi.symm, agj.symm⟩
         ·skip
          refine (zT (i := 6) rfl rfl rfl (zD rfl _) (yU (E := eInt) (e := 3) [(vJ (c : Int))] [(c : Int)] Tryz.underlying57 sz3 zr3 (by exact xQ (by rfl)) (yC (by rfl)) rfl rfl rfl rfl (by decide) dq.pins (fun kw agk agl agm bo agn => ?_)))
          have g3 := dq.step agm bo
          have pm := kn.below bo
          have pn := ko.below bo
          have po := kp.below bo
          have pp := kq.below bo
          have pq := kr.below bo
          have pr := h8.below bo
          have ps := ks.below bo
          have pt := kt.below bo
          have pu := ku.below bo
          have ago : Apart kw.ownBlock a0.ownBlock := zI agn h8.lt
          have agp : Own eInt 3 ae agk w.heap.size kw ([(c : Int)]) := agl.weaken dq.size
          refine ⟨fun _ => g3.pins, ?_⟩
          refine dO (i := 4) (zT (i := 4) rfl rfl rfl (zD rfl _) (oA (E := eInt) (v := a0) (u := kj) 8 Tryz.underlying57 ap3 (by decide) rfl rfl g3.pins pr ((kk.mono (Pin.le_trans (Pin.le_trans an y) e6)).src g3.pins (by decide)) (g3.size) (fun ci avx pv agq bp du => ?_)))
          have ib := g3.write agq bp ((yB pr))
          have pw := pm.keptA bp h0.symm
          have px := pn.keptA bp h1.symm
          have py := po.keptA bp h2.symm
          have pz := pp.keptA bp h3.symm
          have p0 := pq.keptA bp h4.symm
          have agr := agp.keptA bp ago
          have p1 := ps.keptA bp h5.symm
          have p2 := pt.keptA bp h6.symm
          have p3 := pu.keptA bp h7.symm
          have p4 : Apart at_.ownBlock ci.ownBlock := zG h0.symm du pm.lt
          have p5 : Apart ov.ownBlock ci.ownBlock := zG h1.symm du pn.lt
          have p6 : Apart bu.ownBlock ci.ownBlock := zG h2.symm du po.lt
          have p7 : Apart bv.ownBlock ci.ownBlock := zG h3.symm du pp.lt
          have p8 : Apart ab.ownBlock ci.ownBlock := zG h4.symm du pq.lt
          have p9 : Apart (some b) ci.ownBlock := zL h5.symm du ps.lt
          have qa : Apart (some f) ci.ownBlock := zL h6.symm du pt.lt
          have qb : Apart (some d) ci.ownBlock := zL h7.symm du pu.lt
          have avy : (([]) ++ ((fr.take i).drop 0)).length = ([]).length + ((fr.take i).drop 0).length := List.length_append
          refine ⟨fun _ => ib.pins, ?_⟩
          refine dO (i := 7) (zT (i := 7) rfl rfl rfl (zD rfl _) (oA (E := eInt) (v := ci) (u := kw) 8 Tryz.underlying57 ap3 (by decide) rfl rfl ib.pins pv agr.src (ib.size) (fun cj avz qc ags ck dv => ?_)))
          have g4 := ib.write ags ck ((yB pv))
          have qf := pw.keptA ck p4
          have qg := px.keptA ck p5
          have qh := py.keptA ck p6
          have qi := pz.keptA ck p7
          have qj := p0.keptA ck p8
          have qk := p1.keptA ck p9
          have ql := p2.keptA ck qa
          have qm := p3.keptA ck qb
          have qn : Apart at_.ownBlock cj.ownBlock := zG p4 dv pw.lt
          have qo : Apart ov.ownBlock cj.ownBlock := zG p5 dv px.lt
          have qp : Apart bu.ownBlock cj.ownBlock := zG p6 dv py.lt
          have qq : Apart bv.ownBlock cj.ownBlock := zG p7 dv pz.lt
          have qr : Apart ab.ownBlock cj.ownBlock := zG p8 dv p0.lt
          have qs : Apart (some b) cj.ownBlock := zL p9 dv p1.lt
          have qt : Apart (some f) cj.ownBlock := zL qa dv p2.lt
          have qu : Apart (some d) cj.ownBlock := zL qb dv p3.lt
          have av0 : ((([]) ++ ((fr.take i).drop 0)) ++ ([(c : Int)])).length = (([]) ++ ((fr.take i).drop 0)).length + 1 := List.length_append
          refine ⟨fun _ => g4.pins, ?_⟩
          refine dO (i := 11) (zT (i := 11) rfl rfl rfl (zD rfl _) (oA (E := eInt) (v := cj) (u := kl) 8 Tryz.underlying57 ap3 (by decide) rfl rfl g4.pins qc ((km.mono (Pin.le_trans (Pin.le_trans an y) e6)).src g4.pins (by decide)) (g4.size) (fun bq av1 agt agu cl dw => ?_)))
          have kx := g4.write agu cl ((yB qc))
          have agv := qf.keptA cl qn
          have agw := qg.keptA cl qo
          have agx := qh.keptA cl qp
          have agy := qi.keptA cl qq
          have agz := qj.keptA cl qr
          have ag0 := qk.keptA cl qs
          have ag1 := ql.keptA cl qt
          have ag2 := qm.keptA cl qu
          have ag5 : Apart at_.ownBlock bq.ownBlock := zG qn dw qf.lt
          have ag6 : Apart ov.ownBlock bq.ownBlock := zG qo dw qg.lt
          have ag7 : Apart bu.ownBlock bq.ownBlock := zG qp dw qh.lt
          have ag8 : Apart bv.ownBlock bq.ownBlock := zG qq dw qi.lt
          have ag9 : Apart ab.ownBlock bq.ownBlock := zG qr dw qj.lt
          have aha : Apart (some b) bq.ownBlock := zL qs dw qk.lt
          have ahb : Apart (some f) bq.ownBlock := zL qt dw ql.lt
          have ahc : Apart (some d) bq.ownBlock := zL qu dw qm.lt
          have av2 : (((([]) ++ ((fr.take i).drop 0)) ++ ([(c : Int)])) ++ ((fr.take fr.length).drop i)).length = ((([]) ++ ((fr.take i).drop 0)) ++ ([(c : Int)])).length + ((fr.take fr.length).drop i).length := List.length_append
          refine ⟨fun _ => kx.pins, ?_⟩
          refine dM 12 bq kx.pins ?_
          refine yT (by kernel_rfl) ?_
          exact xR ⟨_, bq, ae, (pS 11 (pS 10 (pS 9 (pS 8 (pS 7 (pS 6 (pS 5 (pS 4 (pS 1 (pU 0)))))))))), kx, (Pin.le_refl _), agv, agw, agx, agy, agz, agt, ag0, ag1, ag2, ag5, ag6, ag7, ag8, ag9, aha.symm, ahb.symm, ahc.symm⟩
        ·skip
         refine (zT (i := 6) rfl rfl rfl (zD rfl _) (yU (E := eInt) (e := 3) [(vJ (c : Int))] [(c : Int)] Tryz.underlying57 sz3 zr3 (by exact xQ (by rfl)) (yC (by rfl)) rfl rfl rfl rfl (by decide) au.pins (fun ky ahd ahe ahf cm av3 => ?_)))
         have ic := au.step ahf cm
         have qv := kb.below cm
         have qw := kc.below cm
         have qx := kd.below cm
         have qy := ke.below cm
         have qz := kf.below cm
         have q2 := kg.below cm
         have q3 := kh.below cm
         have q4 := ki.below cm
         have q5 : Own eInt 3 ae ahd w.heap.size ky ([(c : Int)]) := ahe.weaken au.size
         refine ⟨fun _ => ic.pins, ?_⟩
         refine dO (i := 0) (zT (i := 0) rfl rfl rfl (zD rfl _) (yZ (E := eInt) (e := 3) Tryz.underlying57 sz3 ic.pins (fun be ahg ahh ahi br cn => ?_)))
         have g5 := ic.step ahi br
         have q6 := qv.below br
         have q7 := qw.below br
         have q8 := qx.below br
         have q9 := qy.below br
         have ra := qz.below br
         have ahj := q5.below br
         have rb := q2.below br
         have rc := q3.below br
         have rd := q4.below br
         have re : Apart be.ownBlock at_.ownBlock := zI cn qv.lt
         have rf : Apart be.ownBlock ov.ownBlock := zI cn qw.lt
         have rg : Apart be.ownBlock bu.ownBlock := zI cn qx.lt
         have rh : Apart be.ownBlock bv.ownBlock := zI cn qy.lt
         have ri : Apart be.ownBlock ab.ownBlock := zI cn qz.lt
         have ahk : Apart be.ownBlock ky.ownBlock := zI cn q5.lt
         have rj : Apart be.ownBlock (some b) := zH cn q2.lt
         have rk : Apart be.ownBlock (some f) := zH cn q3.lt
         have rl : Apart be.ownBlock (some d) := zH cn q4.lt
         have rm : Own eInt 3 ae ahg w.heap.size be ([]) := ahh.weaken ic.size
         refine ⟨fun _ => g5.pins, ?_⟩
         refine dO (i := 4) (zT (i := 4) rfl rfl rfl (zD rfl _) (oA (E := eInt) (v := be) (u := kj) 8 Tryz.underlying57 ap3 (by decide) rfl rfl g5.pins rm ((kk.mono (Pin.le_trans (Pin.le_trans an y) e6)).src g5.pins (by decide)) (g5.size) (fun co av4 rn ahl bt dx => ?_)))
         have ie := g5.write ahl bt ((yB rm))
         have ro := q6.keptA bt re.symm
         have rp := q7.keptA bt rf.symm
         have rq := q8.keptA bt rg.symm
         have rr := q9.keptA bt rh.symm
         have rs := ra.keptA bt ri.symm
         have ahm := ahj.keptA bt ahk.symm
         have rt := rb.keptA bt rj.symm
         have ru := rc.keptA bt rk.symm
         have rv := rd.keptA bt rl.symm
         have rx : Apart at_.ownBlock co.ownBlock := zG re.symm dx q6.lt
         have ry : Apart ov.ownBlock co.ownBlock := zG rf.symm dx q7.lt
         have rz : Apart bu.ownBlock co.ownBlock := zG rg.symm dx q8.lt
         have r0 : Apart bv.ownBlock co.ownBlock := zG rh.symm dx q9.lt
         have r1 : Apart ab.ownBlock co.ownBlock := zG ri.symm dx ra.lt
         have r2 : Apart (some b) co.ownBlock := zL rj.symm dx rb.lt
         have r3 : Apart (some f) co.ownBlock := zL rk.symm dx rc.lt
         have r4 : Apart (some d) co.ownBlock := zL rl.symm dx rd.lt
         have av5 : (([]) ++ ((fr.take i).drop 0)).length = ([]).length + ((fr.take i).drop 0).length := List.length_append
         refine ⟨fun _ => ie.pins, ?_⟩
         refine dO (i := 7) (zT (i := 7) rfl rfl rfl (zD rfl _) (oA (E := eInt) (v := co) (u := ky) 8 Tryz.underlying57 ap3 (by decide) rfl rfl ie.pins rn ahm.src (ie.size) (fun cp av6 r5 ahn cq dy => ?_)))
         have g6 := ie.write ahn cq ((yB rn))
         have r6 := ro.keptA cq rx
         have r7 := rp.keptA cq ry
         have r8 := rq.keptA cq rz
         have r9 := rr.keptA cq r0
         have sa := rs.keptA cq r1
         have sb := rt.keptA cq r2
         have sc := ru.keptA cq r3
         have sd := rv.keptA cq r4
         have se : Apart at_.ownBlock cp.ownBlock := zG rx dy ro.lt
         have sf : Apart ov.ownBlock cp.ownBlock := zG ry dy rp.lt
         have sg : Apart bu.ownBlock cp.ownBlock := zG rz dy rq.lt
         have sh : Apart bv.ownBlock cp.ownBlock := zG r0 dy rr.lt
         have si : Apart ab.ownBlock cp.ownBlock := zG r1 dy rs.lt
         have sj : Apart (some b) cp.ownBlock := zL r2 dy rt.lt
         have sk : Apart (some f) cp.ownBlock := zL r3 dy ru.lt
         have sl : Apart (some d) cp.ownBlock := zL r4 dy rv.lt
         have av7 : ((([]) ++ ((fr.take i).drop 0)) ++ ([(c : Int)])).length = (([]) ++ ((fr.take i).drop 0)).length + 1 := List.length_append
         refine ⟨fun _ => g6.pins, ?_⟩
         refine dO (i := 11) (zT (i := 11) rfl rfl rfl (zD rfl _) (oA (E := eInt) (v := cp) (u := kl) 8 Tryz.underlying57 ap3 (by decide) rfl rfl g6.pins r5 ((km.mono (Pin.le_trans (Pin.le_trans an y) e6)).src g6.pins (by decide)) (g6.size) (fun bw av8 aho ahp cr dz => ?_)))
         have kz := g6.write ahp cr ((yB r5))
         have ahq := r6.keptA cr se
         have ahr := r7.keptA cr sf
         have ahs := r8.keptA cr sg
         have aht := r9.keptA cr sh
         have ahu := sa.keptA cr si
         have ahv := sb.keptA cr sj
         have ahw := sc.keptA cr sk
         have ahx := sd.keptA cr sl
         have ahy : Apart at_.ownBlock bw.ownBlock := zG se dz r6.lt
         have ahz : Apart ov.ownBlock bw.ownBlock := zG sf dz r7.lt
         have ah0 : Apart bu.ownBlock bw.ownBlock := zG sg dz r8.lt
         have ah1 : Apart bv.ownBlock bw.ownBlock := zG sh dz r9.lt
         have ah2 : Apart ab.ownBlock bw.ownBlock := zG si dz sa.lt
         have ah3 : Apart (some b) bw.ownBlock := zL sj dz sb.lt
         have ah4 : Apart (some f) bw.ownBlock := zL sk dz sc.lt
         have ah5 : Apart (some d) bw.ownBlock := zL sl dz sd.lt
         have av9 : (((([]) ++ ((fr.take i).drop 0)) ++ ([(c : Int)])) ++ ((fr.take fr.length).drop i)).length = ((([]) ++ ((fr.take i).drop 0)) ++ ([(c : Int)])).length + ((fr.take fr.length).drop i).length := List.length_append
         refine ⟨fun _ => kz.pins, ?_⟩
         refine dM 12 bw kz.pins ?_
         refine yT (by kernel_rfl) ?_
         exact xR ⟨_, bw, ae, (pS 11 (pS 10 (pS 9 (pS 8 (pS 7 (pS 6 (pS 5 (pS 4 (pS 1 (pU 0)))))))))), kz, (Pin.le_refl _), ahq, ahr, ahs, aht, ahu, aho, ahv, ahw, ahx, ahy, ahz, ah0, ah1, ah2, ah3.symm, ah4.symm, ah5.symm⟩
      ·skip
       refine xG (S := fun wz => Pins s wz) (last := 13) (by kernel_rfl) rfl ?_
       have ct : Below e5.heap.size e5 e5.drew := (Below.refl _ _).drew
       have ah6 := g1.pins.below ct
       have av := g1.step ah6 ct
       have k0 := j2.below ct
       have k1 := j3.below ct
       have k2 := j4.below ct
       have k3 := j5.below ct
       have k4 := j6.below ct
       have k6 := j7.below ct
       have k7 := j8.below ct
       refine dM 1 lv av.pins ?_
       refine dM 2 (vJ (i : Int)) av.pins ?_
       obtain ⟨k8, k9, ah7⟩ := qQ bk (lo := none) (hi := (some ((i : Int)))) (0) (i) (Or.inl ⟨rfl, rfl⟩) (Or.inr ⟨_, rfl, (by omega), rfl⟩) (by omega) (by omega)
       refine dT (i := 3) rfl rfl (by kernel_rfl) (fun _ _ => ah7 Tryz.underlying26 sz68 rfl rfl rfl) av.pins ?_
       refine dT (i := 5) rfl rfl (by kernel_rfl) (fun _ hS => yF (cs := [ca, cb]) ag68 sz68 rfl (fun j u hj => (Pins.of_le hS y) _ _ _ (oh _ _ (by simpa using hj)))) av.pins ?_
       refine dM 8 lv av.pins ?_
       refine dM 9 (vJ (i : Int)) av.pins ?_
       obtain ⟨la, lb, ah8⟩ := qQ bk (lo := (some ((i : Int)))) (hi := none) (i) (ls.length) (Or.inr ⟨_, rfl, (by omega), rfl⟩) (Or.inl ⟨rfl, rfl⟩) (by omega) (by omega)
       refine dT (i := 10) rfl rfl (by kernel_rfl) (fun _ _ => ah8 Tryz.underlying26 sz68 rfl rfl rfl) av.pins ?_
       refine qK (i := 0) (j := 6) (by kernel_rfl) ?_ ?_
       ·skip
        refine (zT (i := 0) rfl rfl rfl (zD rfl _) (yZ (E := eNode) (e := 68) Tryz.underlying26 sz68 av.pins (fun bf ah9 aia aib d0 e8 => ?_)))
        have d1 := av.step aib d0
        have lc := k0.below d0
        have ld := k1.below d0
        have lf := k2.below d0
        have lg := k3.below d0
        have lh := k4.below d0
        have li := k6.below d0
        have lj := k7.below d0
        have ig : Apart bf.ownBlock at_.ownBlock := zI e8 k0.lt
        have ih : Apart bf.ownBlock ov.ownBlock := zI e8 k1.lt
        have ii : Apart bf.ownBlock bu.ownBlock := zI e8 k2.lt
        have ij : Apart bf.ownBlock bv.ownBlock := zI e8 k3.lt
        have ik : Apart bf.ownBlock (some b) := zH e8 k4.lt
        have il : Apart bf.ownBlock (some f) := zH e8 k6.lt
        have im : Apart bf.ownBlock (some d) := zH e8 k7.lt
        have io : Own eNode 68 s ah9 w.heap.size bf ([]) := aia.weaken av.size
        refine ⟨fun _ => d1.pins, ?_⟩
        refine qK (i := 4) (j := 6) (by kernel_rfl) ?_ ?_
        ·skip
         refine (zT (i := 4) rfl rfl rfl (zD rfl _) (oA (E := eNode) (v := bf) (u := k8) 48 Tryz.underlying26 ap68 (by decide) rfl rfl d1.pins io ((k9.mono (Pin.le_trans an y)).src d1.pins (by decide)) (d1.size) (fun d2 awa aic aid d3 e9 => ?_)))
         have ip := d1.write aid d3 ((yB io))
         have aie := lc.keptA d3 ig.symm
         have aif := ld.keptA d3 ih.symm
         have aig := lf.keptA d3 ii.symm
         have aih := lg.keptA d3 ij.symm
         have aii := lh.keptA d3 ik.symm
         have aij := li.keptA d3 il.symm
         have aik := lj.keptA d3 im.symm
         have sm : Apart at_.ownBlock d2.ownBlock := zG ig.symm e9 lc.lt
         have sn : Apart ov.ownBlock d2.ownBlock := zG ih.symm e9 ld.lt
         have sp : Apart bu.ownBlock d2.ownBlock := zG ii.symm e9 lf.lt
         have sq : Apart bv.ownBlock d2.ownBlock := zG ij.symm e9 lg.lt
         have sr : Apart (some b) d2.ownBlock := zL ik.symm e9 lh.lt
         have ss : Apart (some f) d2.ownBlock := zL il.symm e9 li.lt
         have st : Apart (some d) d2.ownBlock := zL im.symm e9 lj.lt
         have awb : (([]) ++ ((ls.take i).drop 0)).length = ([]).length + ((ls.take i).drop 0).length := List.length_append
         refine ⟨fun _ => ip.pins, ?_⟩
         refine dO (i := 6) (zT (i := 6) rfl rfl rfl (zD rfl _) (xC (E := eNode) (e := 68) [ca, cb] (⟨sortL (atL ats ((ns.getD c default).l)), sortL (atL ats ((ns.getD c default).r))⟩ : Nd) Tryz.underlying26 sz68 zr68 ⟨_, _, rfl, (hy.mono y), (hz.mono y)⟩ rfl (by decide) ip.pins (fun su ail aim ain cu awc => ?_)))
         have iq := ip.step ain cu
         have sv := aie.below cu
         have sw := aif.below cu
         have sx := aig.below cu
         have sy := aih.below cu
         have sz := aic.below cu
         have s0 := aii.below cu
         have s1 := aij.below cu
         have s2 := aik.below cu
         have aio : Own eNode 68 s ail w.heap.size su ([(⟨sortL (atL ats ((ns.getD c default).l)), sortL (atL ats ((ns.getD c default).r))⟩ : Nd)]) := aim.weaken ip.size
         refine ⟨fun _ => iq.pins, ?_⟩
         refine dO (i := 7) (zT (i := 7) rfl rfl rfl (zD rfl _) (oA (E := eNode) (v := d2) (u := su) 48 Tryz.underlying26 ap68 (by decide) rfl rfl iq.pins sz aio.src (iq.size) (fun d4 awd s3 aip d5 fa => ?_)))
         have g7 := iq.write aip d5 ((yB sz))
         have s4 := sv.keptA d5 sm
         have s5 := sw.keptA d5 sn
         have s6 := sx.keptA d5 sp
         have s7 := sy.keptA d5 sq
         have s8 := s0.keptA d5 sr
         have s9 := s1.keptA d5 ss
         have ta := s2.keptA d5 st
         have tb : Apart at_.ownBlock d4.ownBlock := zG sm fa sv.lt
         have tc : Apart ov.ownBlock d4.ownBlock := zG sn fa sw.lt
         have td : Apart bu.ownBlock d4.ownBlock := zG sp fa sx.lt
         have te : Apart bv.ownBlock d4.ownBlock := zG sq fa sy.lt
         have tf : Apart (some b) d4.ownBlock := zL sr fa s0.lt
         have tg : Apart (some f) d4.ownBlock := zL ss fa s1.lt
         have th : Apart (some d) d4.ownBlock := zL st fa s2.lt
         have awe : ((([]) ++ ((ls.take i).drop 0)) ++ ([(⟨sortL (atL ats ((ns.getD c default).l)), sortL (atL ats ((ns.getD c default).r))⟩ : Nd)])).length = (([]) ++ ((ls.take i).drop 0)).length + 1 := List.length_append
         refine ⟨fun _ => g7.pins, ?_⟩
         refine dO (i := 11) (zT (i := 11) rfl rfl rfl (zD rfl _) (oA (E := eNode) (v := d4) (u := la) 48 Tryz.underlying26 ap68 (by decide) rfl rfl g7.pins s3 ((lb.mono (Pin.le_trans an y)).src g7.pins (by decide)) (g7.size) (fun cv awf aiq air d6 fb => ?_)))
         have lk := g7.write air d6 ((yB s3))
         have ais := s4.keptA d6 tb
         have ait := s5.keptA d6 tc
         have aiu := s6.keptA d6 td
         have aiv := s7.keptA d6 te
         have aiw := s8.keptA d6 tf
         have aix := s9.keptA d6 tg
         have aiy := ta.keptA d6 th
         have aiz : Apart at_.ownBlock cv.ownBlock := zG tb fb s4.lt
         have ai0 : Apart ov.ownBlock cv.ownBlock := zG tc fb s5.lt
         have ai1 : Apart bu.ownBlock cv.ownBlock := zG td fb s6.lt
         have ai2 : Apart bv.ownBlock cv.ownBlock := zG te fb s7.lt
         have ai3 : Apart (some b) cv.ownBlock := zL tf fb s8.lt
         have ai4 : Apart (some f) cv.ownBlock := zL tg fb s9.lt
         have ai5 : Apart (some d) cv.ownBlock := zL th fb ta.lt
         have awg : (((([]) ++ ((ls.take i).drop 0)) ++ ([(⟨sortL (atL ats ((ns.getD c default).l)), sortL (atL ats ((ns.getD c default).r))⟩ : Nd)])) ++ ((ls.take ls.length).drop i)).length = ((([]) ++ ((ls.take i).drop 0)) ++ ([(⟨sortL (atL ats ((ns.getD c default).l)), sortL (atL ats ((ns.getD c default).r))⟩ : Nd)])).length + ((ls.take ls.length).drop i).length := List.length_append
         refine ⟨fun _ => lk.pins, ?_⟩
         refine dM 12 cv lk.pins ?_
         refine yT (by kernel_rfl) ?_
         exact xR ⟨_, cv, s, (pS 13 (pS 11 (pS 10 (pS 9 (pS 8 (pS 7 (pS 6 (pS 5 (pS 4 (pS 1 (pU 0))))))))))), lk, (Pin.le_refl _), ais, ait, aiu, aiv, aiq, aiw, aix, aiy, aiz, ai0, ai1, ai2, ai3.symm, ai4.symm, ai5.symm⟩
        ·skip
         refine (zT (i := 6) rfl rfl rfl (zD rfl _) (xC (E := eNode) (e := 68) [ca, cb] (⟨sortL (atL ats ((ns.getD c default).l)), sortL (atL ats ((ns.getD c default).r))⟩ : Nd) Tryz.underlying26 sz68 zr68 ⟨_, _, rfl, (hy.mono y), (hz.mono y)⟩ rfl (by decide) d1.pins (fun ll ai6 ai7 ai8 cw ai9 => ?_)))
         have g8 := d1.step ai8 cw
         have ti := lc.below cw
         have tj := ld.below cw
         have tk := lf.below cw
         have tl := lg.below cw
         have tm := io.below cw
         have tn := lh.below cw
         have tp := li.below cw
         have tq := lj.below cw
         have aja : Apart ll.ownBlock bf.ownBlock := zI ai9 io.lt
         have ajb : Own eNode 68 s ai6 w.heap.size ll ([(⟨sortL (atL ats ((ns.getD c default).l)), sortL (atL ats ((ns.getD c default).r))⟩ : Nd)]) := ai7.weaken d1.size
         refine ⟨fun _ => g8.pins, ?_⟩
         refine dO (i := 4) (zT (i := 4) rfl rfl rfl (zD rfl _) (oA (E := eNode) (v := bf) (u := k8) 48 Tryz.underlying26 ap68 (by decide) rfl rfl g8.pins tm ((k9.mono (Pin.le_trans an y)).src g8.pins (by decide)) (g8.size) (fun d7 awh ts ajc cx fc => ?_)))
         have ir := g8.write ajc cx ((yB tm))
         have tt := ti.keptA cx ig.symm
         have tu := tj.keptA cx ih.symm
         have tv := tk.keptA cx ii.symm
         have tw := tl.keptA cx ij.symm
         have ajd := ajb.keptA cx aja
         have tx := tn.keptA cx ik.symm
         have ty := tp.keptA cx il.symm
         have tz := tq.keptA cx im.symm
         have t0 : Apart at_.ownBlock d7.ownBlock := zG ig.symm fc ti.lt
         have t1 : Apart ov.ownBlock d7.ownBlock := zG ih.symm fc tj.lt
         have t2 : Apart bu.ownBlock d7.ownBlock := zG ii.symm fc tk.lt
         have t3 : Apart bv.ownBlock d7.ownBlock := zG ij.symm fc tl.lt
         have t4 : Apart (some b) d7.ownBlock := zL ik.symm fc tn.lt
         have t5 : Apart (some f) d7.ownBlock := zL il.symm fc tp.lt
         have t6 : Apart (some d) d7.ownBlock := zL im.symm fc tq.lt
         have awi : (([]) ++ ((ls.take i).drop 0)).length = ([]).length + ((ls.take i).drop 0).length := List.length_append
         refine ⟨fun _ => ir.pins, ?_⟩
         refine dO (i := 7) (zT (i := 7) rfl rfl rfl (zD rfl _) (oA (E := eNode) (v := d7) (u := ll) 48 Tryz.underlying26 ap68 (by decide) rfl rfl ir.pins ts ajd.src (ir.size) (fun d8 awj t7 aje d9 fd => ?_)))
         have g9 := ir.write aje d9 ((yB ts))
         have t8 := tt.keptA d9 t0
         have t9 := tu.keptA d9 t1
         have ua := tv.keptA d9 t2
         have ub := tw.keptA d9 t3
         have uc := tx.keptA d9 t4
         have ud := ty.keptA d9 t5
         have ue := tz.keptA d9 t6
         have uf : Apart at_.ownBlock d8.ownBlock := zG t0 fd tt.lt
         have ug : Apart ov.ownBlock d8.ownBlock := zG t1 fd tu.lt
         have uh : Apart bu.ownBlock d8.ownBlock := zG t2 fd tv.lt
         have ui : Apart bv.ownBlock d8.ownBlock := zG t3 fd tw.lt
         have uj : Apart (some b) d8.ownBlock := zL t4 fd tx.lt
         have uk : Apart (some f) d8.ownBlock := zL t5 fd ty.lt
         have ul : Apart (some d) d8.ownBlock := zL t6 fd tz.lt
         have awk : ((([]) ++ ((ls.take i).drop 0)) ++ ([(⟨sortL (atL ats ((ns.getD c default).l)), sortL (atL ats ((ns.getD c default).r))⟩ : Nd)])).length = (([]) ++ ((ls.take i).drop 0)).length + 1 := List.length_append
         refine ⟨fun _ => g9.pins, ?_⟩
         refine dO (i := 11) (zT (i := 11) rfl rfl rfl (zD rfl _) (oA (E := eNode) (v := d8) (u := la) 48 Tryz.underlying26 ap68 (by decide) rfl rfl g9.pins t7 ((lb.mono (Pin.le_trans an y)).src g9.pins (by decide)) (g9.size) (fun cy awl ajf ajg ea fe => ?_)))
         have lm := g9.write ajg ea ((yB t7))
         have ajh := t8.keptA ea uf
         have aji := t9.keptA ea ug
         have ajj := ua.keptA ea uh
         have ajk := ub.keptA ea ui
         have ajl := uc.keptA ea uj
         have ajm := ud.keptA ea uk
         have ajn := ue.keptA ea ul
         have ajo : Apart at_.ownBlock cy.ownBlock := zG uf fe t8.lt
         have ajp : Apart ov.ownBlock cy.ownBlock := zG ug fe t9.lt
         have ajq : Apart bu.ownBlock cy.ownBlock := zG uh fe ua.lt
         have ajr : Apart bv.ownBlock cy.ownBlock := zG ui fe ub.lt
         have ajs : Apart (some b) cy.ownBlock := zL uj fe uc.lt
         have ajt : Apart (some f) cy.ownBlock := zL uk fe ud.lt
         have aju : Apart (some d) cy.ownBlock := zL ul fe ue.lt
         have awm : (((([]) ++ ((ls.take i).drop 0)) ++ ([(⟨sortL (atL ats ((ns.getD c default).l)), sortL (atL ats ((ns.getD c default).r))⟩ : Nd)])) ++ ((ls.take ls.length).drop i)).length = ((([]) ++ ((ls.take i).drop 0)) ++ ([(⟨sortL (atL ats ((ns.getD c default).l)), sortL (atL ats ((ns.getD c default).r))⟩ : Nd)])).length + ((ls.take ls.length).drop i).length := List.length_append
         refine ⟨fun _ => lm.pins, ?_⟩
         refine dM 12 cy lm.pins ?_
         refine yT (by kernel_rfl) ?_
         exact xR ⟨_, cy, s, (pS 13 (pS 11 (pS 10 (pS 9 (pS 8 (pS 7 (pS 6 (pS 5 (pS 4 (pS 1 (pU 0))))))))))), lm, (Pin.le_refl _), ajh, aji, ajj, ajk, ajf, ajl, ajm, ajn, ajo, ajp, ajq, ajr, ajs.symm, ajt.symm, aju.symm⟩
       ·skip
        refine (zT (i := 6) rfl rfl rfl (zD rfl _) (xC (E := eNode) (e := 68) [ca, cb] (⟨sortL (atL ats ((ns.getD c default).l)), sortL (atL ats ((ns.getD c default).r))⟩ : Nd) Tryz.underlying26 sz68 zr68 ⟨_, _, rfl, (hy.mono y), (hz.mono y)⟩ rfl (by decide) av.pins (fun ln ajv ajw ajx eb awn => ?_)))
        have it := av.step ajx eb
        have um := k0.below eb
        have un := k1.below eb
        have uo := k2.below eb
        have up := k3.below eb
        have uq := k4.below eb
        have ur := k6.below eb
        have ut := k7.below eb
        have uu : Own eNode 68 s ajv w.heap.size ln ([(⟨sortL (atL ats ((ns.getD c default).l)), sortL (atL ats ((ns.getD c default).r))⟩ : Nd)]) := ajw.weaken av.size
        refine ⟨fun _ => it.pins, ?_⟩
        refine dO (i := 0) (zT (i := 0) rfl rfl rfl (zD rfl _) (yZ (E := eNode) (e := 68) Tryz.underlying26 sz68 it.pins (fun bz ajy ajz aj0 cz ec => ?_)))
        have ha := it.step aj0 cz
        have uv := um.below cz
        have uw := un.below cz
        have ux := uo.below cz
        have uy := up.below cz
        have aj1 := uu.below cz
        have uz := uq.below cz
        have u0 := ur.below cz
        have u1 := ut.below cz
        have u2 : Apart bz.ownBlock at_.ownBlock := zI ec um.lt
        have u3 : Apart bz.ownBlock ov.ownBlock := zI ec un.lt
        have u4 : Apart bz.ownBlock bu.ownBlock := zI ec uo.lt
        have u5 : Apart bz.ownBlock bv.ownBlock := zI ec up.lt
        have aj2 : Apart bz.ownBlock ln.ownBlock := zI ec uu.lt
        have u6 : Apart bz.ownBlock (some b) := zH ec uq.lt
        have u7 : Apart bz.ownBlock (some f) := zH ec ur.lt
        have u8 : Apart bz.ownBlock (some d) := zH ec ut.lt
        have u9 : Own eNode 68 s ajy w.heap.size bz ([]) := ajz.weaken it.size
        refine ⟨fun _ => ha.pins, ?_⟩
        refine dO (i := 4) (zT (i := 4) rfl rfl rfl (zD rfl _) (oA (E := eNode) (v := bz) (u := k8) 48 Tryz.underlying26 ap68 (by decide) rfl rfl ha.pins u9 ((k9.mono (Pin.le_trans an y)).src ha.pins (by decide)) (ha.size) (fun ed awo va aj3 c0 ff => ?_)))
        have iu := ha.write aj3 c0 ((yB u9))
        have vb := uv.keptA c0 u2.symm
        have vc := uw.keptA c0 u3.symm
        have vd := ux.keptA c0 u4.symm
        have ve := uy.keptA c0 u5.symm
        have aj4 := aj1.keptA c0 aj2.symm
        have vf := uz.keptA c0 u6.symm
        have vg := u0.keptA c0 u7.symm
        have vh := u1.keptA c0 u8.symm
        have vi : Apart at_.ownBlock ed.ownBlock := zG u2.symm ff uv.lt
        have vj : Apart ov.ownBlock ed.ownBlock := zG u3.symm ff uw.lt
        have vk : Apart bu.ownBlock ed.ownBlock := zG u4.symm ff ux.lt
        have vl : Apart bv.ownBlock ed.ownBlock := zG u5.symm ff uy.lt
        have vm : Apart (some b) ed.ownBlock := zL u6.symm ff uz.lt
        have vn : Apart (some f) ed.ownBlock := zL u7.symm ff u0.lt
        have vo : Apart (some d) ed.ownBlock := zL u8.symm ff u1.lt
        have awp : (([]) ++ ((ls.take i).drop 0)).length = ([]).length + ((ls.take i).drop 0).length := List.length_append
        refine ⟨fun _ => iu.pins, ?_⟩
        refine dO (i := 7) (zT (i := 7) rfl rfl rfl (zD rfl _) (oA (E := eNode) (v := ed) (u := ln) 48 Tryz.underlying26 ap68 (by decide) rfl rfl iu.pins va aj4.src (iu.size) (fun ee awq vp aj5 ef fg => ?_)))
        have hb := iu.write aj5 ef ((yB va))
        have vq := vb.keptA ef vi
        have vr := vc.keptA ef vj
        have vt := vd.keptA ef vk
        have vu := ve.keptA ef vl
        have vv := vf.keptA ef vm
        have vw := vg.keptA ef vn
        have vx := vh.keptA ef vo
        have vy : Apart at_.ownBlock ee.ownBlock := zG vi fg vb.lt
        have vz : Apart ov.ownBlock ee.ownBlock := zG vj fg vc.lt
        have v0 : Apart bu.ownBlock ee.ownBlock := zG vk fg vd.lt
        have v1 : Apart bv.ownBlock ee.ownBlock := zG vl fg ve.lt
        have v2 : Apart (some b) ee.ownBlock := zL vm fg vf.lt
        have v3 : Apart (some f) ee.ownBlock := zL vn fg vg.lt
        have v4 : Apart (some d) ee.ownBlock := zL vo fg vh.lt
        have awr : ((([]) ++ ((ls.take i).drop 0)) ++ ([(⟨sortL (atL ats ((ns.getD c default).l)), sortL (atL ats ((ns.getD c default).r))⟩ : Nd)])).length = (([]) ++ ((ls.take i).drop 0)).length + 1 := List.length_append
        refine ⟨fun _ => hb.pins, ?_⟩
        refine dO (i := 11) (zT (i := 11) rfl rfl rfl (zD rfl _) (oA (E := eNode) (v := ee) (u := la) 48 Tryz.underlying26 ap68 (by decide) rfl rfl hb.pins vp ((lb.mono (Pin.le_trans an y)).src hb.pins (by decide)) (hb.size) (fun c1 aws aj6 aj7 eg fh => ?_)))
        have lp := hb.write aj7 eg ((yB vp))
        have aj8 := vq.keptA eg vy
        have aj9 := vr.keptA eg vz
        have aka := vt.keptA eg v0
        have akb := vu.keptA eg v1
        have akc := vv.keptA eg v2
        have akd := vw.keptA eg v3
        have ake := vx.keptA eg v4
        have akf : Apart at_.ownBlock c1.ownBlock := zG vy fh vq.lt
        have akg : Apart ov.ownBlock c1.ownBlock := zG vz fh vr.lt
        have akh : Apart bu.ownBlock c1.ownBlock := zG v0 fh vt.lt
        have aki : Apart bv.ownBlock c1.ownBlock := zG v1 fh vu.lt
        have akj : Apart (some b) c1.ownBlock := zL v2 fh vv.lt
        have akk : Apart (some f) c1.ownBlock := zL v3 fh vw.lt
        have akl : Apart (some d) c1.ownBlock := zL v4 fh vx.lt
        have awt : (((([]) ++ ((ls.take i).drop 0)) ++ ([(⟨sortL (atL ats ((ns.getD c default).l)), sortL (atL ats ((ns.getD c default).r))⟩ : Nd)])) ++ ((ls.take ls.length).drop i)).length = ((([]) ++ ((ls.take i).drop 0)) ++ ([(⟨sortL (atL ats ((ns.getD c default).l)), sortL (atL ats ((ns.getD c default).r))⟩ : Nd)])).length + ((ls.take ls.length).drop i).length := List.length_append
        refine ⟨fun _ => lp.pins, ?_⟩
        refine dM 12 c1 lp.pins ?_
        refine yT (by kernel_rfl) ?_
        exact xR ⟨_, c1, s, (pS 13 (pS 11 (pS 10 (pS 9 (pS 8 (pS 7 (pS 6 (pS 5 (pS 4 (pS 1 (pU 0))))))))))), lp, (Pin.le_refl _), aj8, aj9, aka, akb, aj6, akc, akd, ake, akf, akg, akh, aki, akj.symm, akk.symm, akl.symm⟩
     ·skip
      refine yQ (fun (k : Nat) (en : Nat → Value) (W : World) => ∃ (ac : Nat → Value) (i : Nat) (s : Pin), en = (upd (upd (upd (upd (upd (upd (upd (upd (upd (upd (upd (upd ac 0 (.pointer (some ⟨b, 0, none⟩))) 1 (vJ m)) 4 (.pointer (some ⟨f, 0, none⟩))) 5 ax) 6 at_) 7 (.pointer (some ⟨d, 0, none⟩))) 8 (vJ (q : Int))) 9 lv) 10 fv) 11 (vJ (c : Int))) 12 (.pointer (some ⟨g0, 0, none⟩))) 13 (vJ (i : Int))) ∧ k = ls.length - i ∧ Ext noS G w s W ∧ Pin.le am s ∧ (i ≤ ls.length) ∧ (posM ls (ndAt ats (ns.getD c default)) = i + posM (ls.drop i) (ndAt ats (ns.getD c default))) ∧ (Own eInt 3 s W w.heap.size at_ (ats)) ∧ (Own eNode 68 s W w.heap.size ov (outs)) ∧ (Own eNode 68 s W 0 bu (ns)) ∧ (Own eInt 3 s W 0 bv (bs)) ∧ (Bx s W b [bu, bv]) ∧ (Bx s W f [(.slice none 0 0)]) ∧ (Bx s W d [ov])) _ ⟨_, 0, am, (pS 13 (pS 12 (pS 11 (pS 10 (pS 9 (pS 8 (pS 7 (pS 6 (pS 5 (pS 4 (pS 1 (pU 0)))))))))))), rfl, adp, Pin.le_refl _, Nat.zero_le _, (Nat.zero_add _).symm, adq, adr, ads, adt, adu, adv, adw⟩ ?_
      rintro awu _ e5 ⟨ac, i, s, rfl, awv, g1, y, hi, hpp, j2, j3, j4, j5, j6, j7, j8⟩
      refine zB (zB ?_)
      refine xG (S := fun wz => Pins s wz) (last := 12) (by kernel_rfl) rfl ?_
      have c2 : Below e5.heap.size e5 e5.drew := (Below.refl _ _).drew
      have akm := g1.pins.below c2
      have ag := g1.step akm c2
      have v5 := j2.below c2
      have v6 := j3.below c2
      have v7 := j4.below c2
      have v8 := j5.below c2
      have v9 := j6.below c2
      have wa := j7.below c2
      have wb := j8.below c2
      refine dM 0 (vJ (i : Int)) ag.pins ?_
      refine dM 1 lv ag.pins ?_
      refine dT (i := 2) rfl rfl (by kernel_rfl) (fun _ _ => zN Tryz.underlying26 (v := lv) rfl bk) ag.pins ?_
      refine dT (i := 3) rfl rfl (by kernel_rfl) (fun _ _ => yV rfl rfl) ag.pins ?_
      refine dM 4 (.bool (decide (((i : Int) : Int) < (ls.length : Int)))) ag.pins ?_
      refine drbd (p := ((i : Int) : Int) < (ls.length : Int)) (t := 84) rfl (fun akn => ?_) (fun akn => ?_)
      ·skip
       refine yG (i := 5) rfl rfl rfl (zW rfl rfl rfl rfl) (by kernel_rfl) (fun _ _ => zU (v := lv) rfl) ag.pins ?_
       refine yG (i := 6) rfl rfl rfl (zW rfl rfl rfl rfl) (by kernel_rfl) (fun _ _ => zU (v := (vJ (i : Int))) rfl) ag.pins ?_
       refine yG (i := 7) rfl rfl rfl (zW rfl rfl rfl rfl) (by kernel_rfl) (fun _ _ => zJ Tryz.underlying26 sz68 (v := lv) rfl rfl bk (by omega) (by omega)) ag.pins ?_
       obtain ⟨ako, akp, wc, wd, akq⟩ := nm_node (bk.at (z := (i : Int)) (by omega) (by omega)) (j := i) rfl
       have aww := wc.max
       have awx := wd.max
       refine yG (i := 8) rfl rfl rfl (zW rfl rfl rfl rfl) (by kernel_rfl) (fun _ hS => akq ag68 sz68 rfl (Pins.of_le hS (Pin.le_trans an y))) ag.pins ?_
       refine yG (i := 9) rfl rfl rfl (zW rfl rfl rfl rfl) (by kernel_rfl) (fun _ hS => yF (cs := [ca, cb]) ag68 sz68 rfl (fun j u hj => (Pins.of_le hS y) _ _ _ (oh _ _ (by simpa using hj)))) ag.pins ?_
       refine dO (i := 10) (zT (i := 10) rfl rfl rfl (zW rfl rfl rfl rfl) (zM (vs := [(.agg [ako, akp].toArray), (.agg [ca, cb].toArray)]) Tryz.func146 nm146 rfl rfl rfl ?_))
       refine Calls.mono (l3NodeAhead_spec (a := ⟨(ls.getD i default).l, (ls.getD i default).r⟩) (b := ⟨sortL (atL ats ((ns.getD c default).l)), sortL (atL ats ((ns.getD c default).r))⟩) ag.pins (wc.mono (Pin.le_trans an y)) (wd.mono (Pin.le_trans an y)) (hy.mono y) (hz.mono y)) ?_
       rintro _ awy ⟨we, rfl, a1⟩
       refine ⟨_, rfl, ?_⟩
       have iv := ag.tr a1
       have wf := v5.ext a1
       have wg := v6.ext a1
       have wh := v7.ext a1
       have wi := v8.ext a1
       have wj := v9.ext a1
       have wk := wa.ext a1
       have wl := wb.ext a1
       refine ⟨fun _ => (Pins.of_le iv.pins a1.le), ?_⟩
       refine dT (i := 11) rfl rfl (by kernel_rfl) (fun _ _ => xE (v := (.bool (decide ((aheadI (⟨(ls.getD i default).l, (ls.getD i default).r⟩ : Nd) (⟨sortL (atL ats ((ns.getD c default).l)), sortL (atL ats ((ns.getD c default).r))⟩ : Nd)) < 0)))) rfl rfl) (Pins.of_le iv.pins a1.le) ?_
       refine yT (by kernel_rfl) ?_
       refine zA ?_
       refine yI (p := ((aheadI (⟨(ls.getD i default).l, (ls.getD i default).r⟩ : Nd) (⟨sortL (atL ats ((ns.getD c default).l)), sortL (atL ats ((ns.getD c default).r))⟩ : Nd)) < 0)) rfl rfl (fun lq => ?_) (fun lq => ?_)
       ·skip
        refine wp_skip ?_
        refine zA ?_
        refine zX ?_
        refine zC ?_
        refine qM (vJ (i : Int)) ?_
        refine qD rfl (yR rfl rfl (by omega)) ?_
        refine qM (vJ ((i : Int) + 1)) ?_
        refine qe ?_
        refine yJ ?_
        refine yK ?_
        refine ⟨_, ?_, _, rfl, _, i + 1, we, (pS 13 (pS 12 (pS 11 (pS 10 (pS 9 (pS 8 (pS 7 (pS 6 (pS 5 (pS 4 (pS 1 (pU 0)))))))))))), rfl, iv, (Pin.le_trans y a1.le), (by omega), (pos_next (by omega) lq hpp), wf, wg, wh, wi, wj, wk, wl⟩
        omega
       refine wp_exit ?_
       refine yA ?_
       refine yN ?_
       exact cutE_in ⟨_, i, we, (pS 13 (pS 12 (pS 11 (pS 10 (pS 9 (pS 8 (pS 7 (pS 6 (pS 5 (pS 4 (pS 1 (pU 0)))))))))))), iv, (Pin.le_trans y a1.le), hi, (pos_stop (by omega) lq hpp), wf, wg, wh, wi, wj, wk, wl⟩
      refine zY (i := 5) rfl rfl (yE rfl rfl rfl rfl rfl) (by kernel_rfl) ag.pins ?_
      refine zY (i := 6) rfl rfl (yE rfl rfl rfl rfl rfl) (by kernel_rfl) ag.pins ?_
      refine zY (i := 7) rfl rfl (yE rfl rfl rfl rfl rfl) (by kernel_rfl) ag.pins ?_
      refine zY (i := 8) rfl rfl (yE rfl rfl rfl rfl rfl) (by kernel_rfl) ag.pins ?_
      refine zY (i := 9) rfl rfl (yE rfl rfl rfl rfl rfl) (by kernel_rfl) ag.pins ?_
      refine zY (i := 10) rfl rfl (yE rfl rfl rfl rfl rfl) (by kernel_rfl) ag.pins ?_
      refine dT (i := 11) rfl rfl (by kernel_rfl) (fun _ _ => xA (v := (.bool false)) rfl rfl) ag.pins ?_
      refine yT (by kernel_rfl) ?_
      refine zA ?_
      refine c_ifF rfl rfl ?_
      refine wp_exit ?_
      refine yA ?_
      refine yN ?_
      exact cutE_in ⟨_, i, s, (pS 13 (pS 12 (pS 11 (pS 10 (pS 9 (pS 8 (pS 7 (pS 6 (pS 5 (pS 4 (pS 1 (pU 0)))))))))))), ag, y, hi, (pos_end (by omega) hpp), v5, v6, v7, v8, v9, wa, wb⟩
    ·skip
     have akr := Gadd.pins dm.pins bu
     have iw := e4.read
     refine xG (S := fun wz => BxR wz b [bu, bv] ∧ Pins (Gadd ai ht bu) wz) (last := 24) (by kernel_rfl) rfl ?_
     have b0 : Below ht.heap.size ht ht.drew := (Below.refl _ _).drew
     have aks := dm.pins.below b0
     have fi := dm.step aks b0
     have hc := hu.below b0
     have ix := hv.below b0
     have iy := e4.below b0
     have iz := gf.below b0
     have ad := gz.below b0
     have i0 := hw.below b0
     have i1 := hx.below b0
     have ah := akr.below b0
     refine dT (i := 0) rfl rfl (by kernel_rfl) (fun _ _ => zU (v := at_) rfl) ⟨ad.reads, ah⟩ ?_
     refine dT (i := 1) rfl rfl (by kernel_rfl) (fun _ _ => zU (v := (.pointer (some ⟨b, 0, none⟩))) rfl) ⟨ad.reads, ah⟩ ?_
     refine dT (i := 2) rfl rfl (by kernel_rfl) (fun _ _ => xB rfl) ⟨ad.reads, ah⟩ ?_
     refine dT (i := 3) rfl rfl (by kernel_rfl) (fun _ _ => zO (k := 0) rfl Tryz.underlying133 rfl nz26 rfl) ⟨ad.reads, ah⟩ ?_
     refine dT (i := 4) rfl rfl (by kernel_rfl) (fun _ hS => zP (u := bu) ag26 rfl (hS.1 0 _ rfl)) ⟨ad.reads, ah⟩ ?_
     refine dT (i := 5) rfl rfl (by kernel_rfl) (fun _ _ => zU (v := (vJ (c : Int))) rfl) ⟨ad.reads, ah⟩ ?_
     refine dT (i := 6) rfl rfl (by kernel_rfl) (fun _ _ => zJ Tryz.underlying26 sz68 (v := bu) rfl rfl iw (by omega) (by omega)) ⟨ad.reads, ah⟩ ?_
     refine dT (i := 7) rfl rfl (by kernel_rfl) (fun _ _ => xD (off := 0) Tryz.underlying68 rfl rfl nz57 (z := (c : Int)) (k := 0) rfl iw (by omega) (by omega)) ⟨ad.reads, ah⟩ ?_
     obtain ⟨wm, lr, akt⟩ := nm_nl (e4.at (z := (c : Int)) (by omega) (by omega)) (j := c) rfl
     have awz := lr.max
     refine dT (i := 8) rfl rfl (by kernel_rfl) (fun _ hS => akt ag57 rfl hS.2) ⟨ad.reads, ah⟩ ?_
     refine dT (i := 11) rfl rfl (by kernel_rfl) (fun _ _ => zU (v := at_) rfl) ⟨ad.reads, ah⟩ ?_
     refine dT (i := 12) rfl rfl (by kernel_rfl) (fun _ _ => zU (v := (.pointer (some ⟨b, 0, none⟩))) rfl) ⟨ad.reads, ah⟩ ?_
     refine dT (i := 13) rfl rfl (by kernel_rfl) (fun _ _ => xB rfl) ⟨ad.reads, ah⟩ ?_
     refine dT (i := 14) rfl rfl (by kernel_rfl) (fun _ _ => zO (k := 0) rfl Tryz.underlying133 rfl nz26 rfl) ⟨ad.reads, ah⟩ ?_
     refine dT (i := 15) rfl rfl (by kernel_rfl) (fun _ hS => zP (u := bu) ag26 rfl (hS.1 0 _ rfl)) ⟨ad.reads, ah⟩ ?_
     refine dT (i := 16) rfl rfl (by kernel_rfl) (fun _ _ => zU (v := (vJ (c : Int))) rfl) ⟨ad.reads, ah⟩ ?_
     refine dT (i := 17) rfl rfl (by kernel_rfl) (fun _ _ => zJ Tryz.underlying26 sz68 (v := bu) rfl rfl iw (by omega) (by omega)) ⟨ad.reads, ah⟩ ?_
     refine dT (i := 18) rfl rfl (by kernel_rfl) (fun _ _ => xD (off := 1) Tryz.underlying68 rfl rfl nz57 (z := (c : Int)) (k := 0) rfl iw (by omega) (by omega)) ⟨ad.reads, ah⟩ ?_
     obtain ⟨i2, hd, aku⟩ := nm_nr (e4.at (z := (c : Int)) (by omega) (by omega)) (j := c) rfl
     have aw0 := hd.max
     refine dT (i := 19) rfl rfl (by kernel_rfl) (fun _ hS => aku ag57 rfl hS.2) ⟨ad.reads, ah⟩ ?_
     refine qK (i := 9) (j := 23) (by kernel_rfl) ?_ ?_
     ·skip
      refine (zT (i := 9) rfl rfl rfl (zD rfl _) (zM (vs := [at_, wm]) Tryz.func137 nm137 rfl rfl rfl ?_))
      refine Calls.mono (jA fi.pins (Gadd.pins fi.pins at_) hc.read lr (by omega) (fun i hi => by have := hoo.left (j := c) (by omega) hi; omega)) ?_
      rintro _ akv ⟨i3, akw, rfl, eh, ao⟩
      refine ⟨_, rfl, ?_⟩
      have i5 := fi.tr ao
      have lu := hc.ext ao
      have lw := ix.ext ao
      have lx := iy.ext ao
      have ly := iz.ext ao
      have i6 := ad.ext ao
      have lz := i0.ext ao
      have l0 := i1.ext ao
      have wn := zS eh.lt hc.lt
      have wo := zS eh.lt ix.lt
      have wp := zS eh.lt iy.lt
      have wq := zS eh.lt iz.lt
      have wr := zZ eh.lt ad.lt
      have ws := zZ eh.lt i0.lt
      have wt := zZ eh.lt i1.lt
      have l1 : Own eInt 3 akw akv w.heap.size i3 (atL ats ((ns.getD c default).l)) := eh.weaken fi.size
      have l2 := ah.below ao.below
      refine ⟨fun _ => ⟨i6.reads, l2⟩, ?_⟩
      refine qK (i := 10) (j := 23) (by kernel_rfl) ?_ ?_
      ·skip
       obtain ⟨aw1, c3, wu, akx, fj⟩ := l1.sealed i5
       have aky := lu.moreO c3 fj wn.symm
       have akz := lw.moreO c3 fj wo.symm
       have ak0 := lx.moreO c3 fj wp.symm
       have ak1 := ly.moreO c3 fj wq.symm
       have ak2 := i6.moreO fj wr.symm
       have ak3 := lz.moreO fj ws.symm
       have ak4 := l0.moreO fj wt.symm
       refine (zT (i := 10) rfl rfl rfl (zD rfl _) (zM (vs := [i3]) Tryz.func145 nm145 rfl rfl rfl ?_))
       refine Calls.mono (xW wu.pins akx (by first | omega | (rw [xH]; omega))) ?_
       rintro _ aw2 ⟨af, aw3, rfl, c4, aq⟩
       refine ⟨_, rfl, ?_⟩
       have fk := wu.tr aq
       have he := aky.ext aq
       have i7 := akz.ext aq
       have i8 := ak0.ext aq
       have i9 := ak1.ext aq
       have hf := ak2.ext aq
       have ja := ak3.ext aq
       have jb := ak4.ext aq
       have l3 := l2.below aq.below
       refine ⟨fun _ => ⟨hf.reads, l3⟩, ?_⟩
       refine qK (i := 20) (j := 23) (by kernel_rfl) ?_ ?_
       ·skip
        refine (zT (i := 20) rfl rfl rfl (zD rfl _) (zM (vs := [at_, i2]) Tryz.func137 nm137 rfl rfl rfl ?_))
        refine Calls.mono (jA fk.pins (Gadd.pins fk.pins at_) he.read (hd.mono (Pin.le_trans (Pin.le_trans ao.le c3) aq.le)) (by omega) (fun i hi => by have := hoo.right (j := c) (by omega) hi; omega)) ?_
        rintro _ ak5 ⟨jc, ak6, rfl, ei, aw⟩
        refine ⟨_, rfl, ?_⟩
        have jd := fk.tr aw
        have l4 := he.ext aw
        have l5 := i7.ext aw
        have l6 := i8.ext aw
        have l7 := i9.ext aw
        have je := hf.ext aw
        have l8 := ja.ext aw
        have l9 := jb.ext aw
        have wv := zS ei.lt he.lt
        have ww := zS ei.lt i7.lt
        have wx := zS ei.lt i8.lt
        have wy := zS ei.lt i9.lt
        have w0 := zZ ei.lt hf.lt
        have w1 := zZ ei.lt ja.lt
        have w3 := zZ ei.lt jb.lt
        have ma : Own eInt 3 ak6 ak5 w.heap.size jc (atL ats ((ns.getD c default).r)) := ei.weaken fk.size
        have mb := l3.below aw.below
        refine ⟨fun _ => ⟨je.reads, mb⟩, ?_⟩
        refine qK (i := 21) (j := 23) (by kernel_rfl) ?_ ?_
        ·skip
         obtain ⟨aw4, gj, w4, ak7, fl⟩ := ma.sealed jd
         have ak8 := l4.moreO gj fl wv.symm
         have ak9 := l5.moreO gj fl ww.symm
         have ala := l6.moreO gj fl wx.symm
         have alb := l7.moreO gj fl wy.symm
         have alc := je.moreO fl w0.symm
         have ald := l8.moreO fl w1.symm
         have ale := l9.moreO fl w3.symm
         refine (zT (i := 21) rfl rfl rfl (zD rfl _) (zM (vs := [jc]) Tryz.func145 nm145 rfl rfl rfl ?_))
         refine Calls.mono (xW w4.pins ak7 (by first | omega | (rw [xH]; omega))) ?_
         rintro _ aw5 ⟨fm, aw6, rfl, mc, bg⟩
         refine ⟨_, rfl, ?_⟩
         have md := w4.tr bg
         have w5 := ak8.ext bg
         have w6 := ak9.ext bg
         have w7 := ala.ext bg
         have w8 := alb.ext bg
         have jf := alc.ext bg
         have w9 := ald.ext bg
         have xa := ale.ext bg
         have me := mb.below bg.below
         refine ⟨fun _ => ⟨jf.reads, me⟩, ?_⟩
         refine dT (i := 22) rfl rfl (by kernel_rfl) (fun _ _ => xF [(.slice none 0 0), (.slice none 0 0)] [af, fm] [(0, af, [af]), (1, fm, [fm])] Tryz.underlying68 zr68 rfl pl68 rfl (List.forall_mem_cons.2 ⟨(yY c4.one), (List.forall_mem_cons.2 ⟨(yY mc.one), (fun _ h => by cases h)⟩)⟩) rfl) ⟨jf.reads, me⟩ ?_
         refine dO (i := 23) (zT (i := 23) rfl rfl rfl (zD rfl _) (yH [(.slice none 0 0), (.slice none 0 0)] zr68 rfl md.pins (fun c5 aw7 fn alf alg c6 => ?_)))
         have xb := md.step alg c6
         have alh := w5.below c6
         have ali := w6.below c6
         have alj := w7.below c6
         have alk := w8.below c6
         have xc := jf.below c6
         have all := w9.below c6
         have alm := xa.below c6
         have xd : Apart (some c5) at_.ownBlock := zI (congrArg some fn) w5.lt
         have xe : Apart (some c5) ov.ownBlock := zI (congrArg some fn) w6.lt
         have xf : Apart (some c5) bu.ownBlock := zI (congrArg some fn) w7.lt
         have xg : Apart (some c5) bv.ownBlock := zI (congrArg some fn) w8.lt
         have xh : Apart (some c5) (some b) := zH (congrArg some fn) jf.lt
         have xi : Apart (some c5) (some f) := zH (congrArg some fn) w9.lt
         have xj : Apart (some c5) (some d) := zH (congrArg some fn) xa.lt
         have xk : w.heap.size ≤ c5 := by have := md.size; omega
         have aln := me.below c6
         refine ⟨fun _ => ⟨xc.reads, aln⟩, ?_⟩
         refine dO (i := 24) (xP (i := 24) rfl rfl rfl (zD rfl _) (yM (cs' := [af, fm]) (us := [af, fm]) (v := (.agg [af, fm].toArray)) sz68 rfl rfl rfl (ones2 c4.one mc.one) xb.pins alf (Nat.le_of_ble_eq_true rfl) rfl (fun aw8 alo alp ej aw9 => ?_)))
         have alq := xb.write alp ej ((zV xk))
         have alr := alh.keptA ej xd.symm
         have als := ali.keptA ej xe.symm
         have alt := alj.keptA ej xf.symm
         have alu := alk.keptA ej xg.symm
         have alv := xc.keptA ej xh.symm
         have alw := all.keptA ej xi.symm
         have alx := alm.keptA ej xj.symm
         obtain ⟨aly, fo, alz, al0, fp⟩ := alo.shut alq xk
         have al1 := alr.moreA fo fp xd.symm
         have al2 := als.moreA fo fp xe.symm
         have al3 := alt.moreA fo fp xf.symm
         have al4 := alu.moreA fo fp xg.symm
         have al5 := alv.moreA fp xh.symm
         have al6 := alw.moreA fp xi.symm
         have al7 := alx.moreA fp xj.symm
         refine ⟨fun h => absurd rfl h, ?_⟩
         refine yT (by kernel_rfl) ?_
         exact xR ⟨_, c5, af, fm, aly, (pS 12 (pS 11 (pS 10 (pS 9 (pS 8 (pS 7 (pS 6 (pS 5 (pS 4 (pS 1 (pU 0))))))))))), alz, (Pin.le_trans (Pin.le_trans (Pin.le_trans (Pin.le_trans (Pin.le_trans (Pin.le_trans ao.le c3) aq.le) aw.le) gj) bg.le) fo), (c4.mono (Pin.le_trans (Pin.le_trans (Pin.le_trans aw.le gj) bg.le) fo)), (mc.mono fo), al1, al2, al3, al4, al5, al6, al7, (al0.mono (Pin.le_refl _))⟩
        ·skip
         refine (zT (i := 23) rfl rfl rfl (zD rfl _) (yH [(.slice none 0 0), (.slice none 0 0)] zr68 rfl jd.pins (fun b2 axa ek al8 al9 b3 => ?_)))
         have ama := jd.step al9 b3
         have amb := l4.below b3
         have amc := l5.below b3
         have amd := l6.below b3
         have ame := l7.below b3
         have amf := ma.below b3
         have xl := je.below b3
         have amg := l8.below b3
         have amh := l9.below b3
         have xm : Apart (some b2) at_.ownBlock := zI (congrArg some ek) l4.lt
         have xn : Apart (some b2) ov.ownBlock := zI (congrArg some ek) l5.lt
         have xo : Apart (some b2) bu.ownBlock := zI (congrArg some ek) l6.lt
         have xp : Apart (some b2) bv.ownBlock := zI (congrArg some ek) l7.lt
         have ami : Apart (some b2) jc.ownBlock := zI (congrArg some ek) ma.lt
         have xq : Apart (some b2) (some b) := zH (congrArg some ek) je.lt
         have xr : Apart (some b2) (some f) := zH (congrArg some ek) l8.lt
         have xs : Apart (some b2) (some d) := zH (congrArg some ek) l9.lt
         have xt : w.heap.size ≤ b2 := by have := jd.size; omega
         have xu := mb.below b3
         refine ⟨fun _ => ⟨xl.reads, xu⟩, ?_⟩
         obtain ⟨axb, gk, xv, amj, el⟩ := amf.sealed ama
         have amk := amb.moreO gk el wv.symm
         have aml := amc.moreO gk el ww.symm
         have amm := amd.moreO gk el wx.symm
         have amn := ame.moreO gk el wy.symm
         have amo := xl.moreO el w0.symm
         have amp := amg.moreO el w1.symm
         have amq := amh.moreO el w3.symm
         have amr := al8.moreO el ami
         refine dO (i := 21) (zT (i := 21) rfl rfl rfl (zD rfl _) (zM (vs := [jc]) Tryz.func145 nm145 rfl rfl rfl ?_))
         refine Calls.mono (xW xv.pins amj (by first | omega | (rw [xH]; omega))) ?_
         rintro _ axc ⟨fq, axd, rfl, mf, a2⟩
         refine ⟨_, rfl, ?_⟩
         have xw := xv.tr a2
         have ams := amk.ext a2
         have amt := aml.ext a2
         have amu := amm.ext a2
         have amv := amn.ext a2
         have mg := amo.ext a2
         have amw := amp.ext a2
         have amx := amq.ext a2
         have amy := amr.ext a2
         have xx := xu.below a2.below
         refine ⟨fun _ => ⟨mg.reads, xx⟩, ?_⟩
         refine dT (i := 22) rfl rfl (by kernel_rfl) (fun _ _ => xF [(.slice none 0 0), (.slice none 0 0)] [af, fq] [(0, af, [af]), (1, fq, [fq])] Tryz.underlying68 zr68 rfl pl68 rfl (List.forall_mem_cons.2 ⟨(yY c4.one), (List.forall_mem_cons.2 ⟨(yY mf.one), (fun _ h => by cases h)⟩)⟩) rfl) ⟨mg.reads, xx⟩ ?_
         refine dO (i := 24) (xP (i := 24) rfl rfl rfl (zD rfl _) (yM (cs' := [af, fq]) (us := [af, fq]) (v := (.agg [af, fq].toArray)) sz68 rfl rfl rfl (ones2 c4.one mf.one) xw.pins amy (Nat.le_of_ble_eq_true rfl) rfl (fun axe amz am0 em axf => ?_)))
         have am1 := xw.write am0 em ((zV xt))
         have am2 := ams.keptA em xm.symm
         have am3 := amt.keptA em xn.symm
         have am4 := amu.keptA em xo.symm
         have am5 := amv.keptA em xp.symm
         have am6 := mg.keptA em xq.symm
         have am7 := amw.keptA em xr.symm
         have am8 := amx.keptA em xs.symm
         obtain ⟨am9, fs, ana, anb, ft⟩ := amz.shut am1 xt
         have anc := am2.moreA fs ft xm.symm
         have ane := am3.moreA fs ft xn.symm
         have anf := am4.moreA fs ft xo.symm
         have ang := am5.moreA fs ft xp.symm
         have anh := am6.moreA ft xq.symm
         have ani := am7.moreA ft xr.symm
         have anj := am8.moreA ft xs.symm
         refine ⟨fun h => absurd rfl h, ?_⟩
         refine yT (by kernel_rfl) ?_
         exact xR ⟨_, b2, af, fq, am9, (pS 12 (pS 11 (pS 10 (pS 9 (pS 8 (pS 7 (pS 6 (pS 5 (pS 4 (pS 1 (pU 0))))))))))), ana, (Pin.le_trans (Pin.le_trans (Pin.le_trans (Pin.le_trans (Pin.le_trans (Pin.le_trans ao.le c3) aq.le) aw.le) gk) a2.le) fs), (c4.mono (Pin.le_trans (Pin.le_trans (Pin.le_trans aw.le gk) a2.le) fs)), (mf.mono fs), anc, ane, anf, ang, anh, ani, anj, (anb.mono (Pin.le_refl _))⟩
       ·skip
        refine (zT (i := 23) rfl rfl rfl (zD rfl _) (yH [(.slice none 0 0), (.slice none 0 0)] zr68 rfl fk.pins (fun c7 axg fu xy ank c8 => ?_)))
        have jg := fk.step ank c8
        have mh := he.below c8
        have xz := i7.below c8
        have x0 := i8.below c8
        have x1 := i9.below c8
        have mi := hf.below c8
        have x2 := ja.below c8
        have x3 := jb.below c8
        have x4 : Apart (some c7) at_.ownBlock := zI (congrArg some fu) he.lt
        have x5 : Apart (some c7) ov.ownBlock := zI (congrArg some fu) i7.lt
        have x6 : Apart (some c7) bu.ownBlock := zI (congrArg some fu) i8.lt
        have x7 : Apart (some c7) bv.ownBlock := zI (congrArg some fu) i9.lt
        have x8 : Apart (some c7) (some b) := zH (congrArg some fu) hf.lt
        have x9 : Apart (some c7) (some f) := zH (congrArg some fu) ja.lt
        have ya : Apart (some c7) (some d) := zH (congrArg some fu) jb.lt
        have yb : w.heap.size ≤ c7 := by have := fk.size; omega
        have yc := l3.below c8
        refine ⟨fun _ => ⟨mi.reads, yc⟩, ?_⟩
        refine dO (i := 20) (zT (i := 20) rfl rfl rfl (zD rfl _) (zM (vs := [at_, i2]) Tryz.func137 nm137 rfl rfl rfl ?_))
        refine Calls.mono (jA jg.pins (Gadd.pins jg.pins at_) mh.read (hd.mono (Pin.le_trans (Pin.le_trans ao.le c3) aq.le)) (by omega) (fun i hi => by have := hoo.right (j := c) (by omega) hi; omega)) ?_
        rintro _ anl ⟨yd, anm, rfl, c9, a3⟩
        refine ⟨_, rfl, ?_⟩
        have ann := jg.tr a3
        have ano := mh.ext a3
        have anp := xz.ext a3
        have anq := x0.ext a3
        have anr := x1.ext a3
        have ye := mi.ext a3
        have ans := x2.ext a3
        have ant := x3.ext a3
        have anu := xy.ext a3
        have anv := zS c9.lt mh.lt
        have anw := zS c9.lt xz.lt
        have anx := zS c9.lt x0.lt
        have any := zS c9.lt x1.lt
        have anz := zZ c9.lt mi.lt
        have an0 := zZ c9.lt x2.lt
        have an1 := zZ c9.lt x3.lt
        have an2 := zZ c9.lt xy.lt
        have an3 : Own eInt 3 anm anl w.heap.size yd (atL ats ((ns.getD c default).r)) := c9.weaken jg.size
        have yf := yc.below a3.below
        refine ⟨fun _ => ⟨ye.reads, yf⟩, ?_⟩
        obtain ⟨axh, gl, yg, an4, eo⟩ := an3.sealed ann
        have an5 := ano.moreO gl eo anv.symm
        have an6 := anp.moreO gl eo anw.symm
        have an7 := anq.moreO gl eo anx.symm
        have an8 := anr.moreO gl eo any.symm
        have an9 := ye.moreO eo anz.symm
        have aoa := ans.moreO eo an0.symm
        have aob := ant.moreO eo an1.symm
        have aoc := anu.moreO eo an2.symm
        refine dO (i := 21) (zT (i := 21) rfl rfl rfl (zD rfl _) (zM (vs := [yd]) Tryz.func145 nm145 rfl rfl rfl ?_))
        refine Calls.mono (xW yg.pins an4 (by first | omega | (rw [xH]; omega))) ?_
        rintro _ axi ⟨fw, axj, rfl, mj, a4⟩
        refine ⟨_, rfl, ?_⟩
        have yh := yg.tr a4
        have aod := an5.ext a4
        have aoe := an6.ext a4
        have aof := an7.ext a4
        have aog := an8.ext a4
        have mk := an9.ext a4
        have aoh := aoa.ext a4
        have aoi := aob.ext a4
        have aoj := aoc.ext a4
        have yi := yf.below a4.below
        refine ⟨fun _ => ⟨mk.reads, yi⟩, ?_⟩
        refine dT (i := 22) rfl rfl (by kernel_rfl) (fun _ _ => xF [(.slice none 0 0), (.slice none 0 0)] [af, fw] [(0, af, [af]), (1, fw, [fw])] Tryz.underlying68 zr68 rfl pl68 rfl (List.forall_mem_cons.2 ⟨(yY c4.one), (List.forall_mem_cons.2 ⟨(yY mj.one), (fun _ h => by cases h)⟩)⟩) rfl) ⟨mk.reads, yi⟩ ?_
        refine dO (i := 24) (xP (i := 24) rfl rfl rfl (zD rfl _) (yM (cs' := [af, fw]) (us := [af, fw]) (v := (.agg [af, fw].toArray)) sz68 rfl rfl rfl (ones2 c4.one mj.one) yh.pins aoj (Nat.le_of_ble_eq_true rfl) rfl (fun axk aok aol ep axl => ?_)))
        have aom := yh.write aol ep ((zV yb))
        have aon := aod.keptA ep x4.symm
        have aoo := aoe.keptA ep x5.symm
        have aop := aof.keptA ep x6.symm
        have aoq := aog.keptA ep x7.symm
        have aor := mk.keptA ep x8.symm
        have aos := aoh.keptA ep x9.symm
        have aot := aoi.keptA ep ya.symm
        obtain ⟨aou, fx, aov, aow, fy⟩ := aok.shut aom yb
        have aox := aon.moreA fx fy x4.symm
        have aoy := aoo.moreA fx fy x5.symm
        have aoz := aop.moreA fx fy x6.symm
        have ao0 := aoq.moreA fx fy x7.symm
        have ao1 := aor.moreA fy x8.symm
        have ao2 := aos.moreA fy x9.symm
        have ao3 := aot.moreA fy ya.symm
        refine ⟨fun h => absurd rfl h, ?_⟩
        refine yT (by kernel_rfl) ?_
        exact xR ⟨_, c7, af, fw, aou, (pS 12 (pS 11 (pS 10 (pS 9 (pS 8 (pS 7 (pS 6 (pS 5 (pS 4 (pS 1 (pU 0))))))))))), aov, (Pin.le_trans (Pin.le_trans (Pin.le_trans (Pin.le_trans (Pin.le_trans (Pin.le_trans ao.le c3) aq.le) a3.le) gl) a4.le) fx), (c4.mono (Pin.le_trans (Pin.le_trans (Pin.le_trans a3.le gl) a4.le) fx)), (mj.mono fx), aox, aoy, aoz, ao0, ao1, ao2, ao3, (aow.mono (Pin.le_refl _))⟩
      ·skip
       refine (zT (i := 23) rfl rfl rfl (zD rfl _) (yH [(.slice none 0 0), (.slice none 0 0)] zr68 rfl i5.pins (fun b4 axm eq ao4 ao5 b5 => ?_)))
       have ao6 := i5.step ao5 b5
       have ao7 := lu.below b5
       have ao8 := lw.below b5
       have ao9 := lx.below b5
       have apa := ly.below b5
       have apb := l1.below b5
       have yj := i6.below b5
       have apc := lz.below b5
       have apd := l0.below b5
       have yk : Apart (some b4) at_.ownBlock := zI (congrArg some eq) lu.lt
       have yl : Apart (some b4) ov.ownBlock := zI (congrArg some eq) lw.lt
       have ym : Apart (some b4) bu.ownBlock := zI (congrArg some eq) lx.lt
       have yn : Apart (some b4) bv.ownBlock := zI (congrArg some eq) ly.lt
       have ape : Apart (some b4) i3.ownBlock := zI (congrArg some eq) l1.lt
       have yo : Apart (some b4) (some b) := zH (congrArg some eq) i6.lt
       have yp : Apart (some b4) (some f) := zH (congrArg some eq) lz.lt
       have yq : Apart (some b4) (some d) := zH (congrArg some eq) l0.lt
       have yr : w.heap.size ≤ b4 := by have := i5.size; omega
       have ys := l2.below b5
       refine ⟨fun _ => ⟨yj.reads, ys⟩, ?_⟩
       obtain ⟨axn, gm, yt, apf, er⟩ := apb.sealed ao6
       have apg := ao7.moreO gm er wn.symm
       have aph := ao8.moreO gm er wo.symm
       have api := ao9.moreO gm er wp.symm
       have apj := apa.moreO gm er wq.symm
       have apk := yj.moreO er wr.symm
       have apl := apc.moreO er ws.symm
       have apm := apd.moreO er wt.symm
       have apn := ao4.moreO er ape
       refine dO (i := 10) (zT (i := 10) rfl rfl rfl (zD rfl _) (zM (vs := [i3]) Tryz.func145 nm145 rfl rfl rfl ?_))
       refine Calls.mono (xW yt.pins apf (by first | omega | (rw [xH]; omega))) ?_
       rintro _ axo ⟨fz, axp, rfl, ml, a5⟩
       refine ⟨_, rfl, ?_⟩
       have jh := yt.tr a5
       have mm := apg.ext a5
       have yu := aph.ext a5
       have yv := api.ext a5
       have yw := apj.ext a5
       have mn := apk.ext a5
       have yx := apl.ext a5
       have yy := apm.ext a5
       have yz := apn.ext a5
       have y0 := ys.below a5.below
       refine ⟨fun _ => ⟨mn.reads, y0⟩, ?_⟩
       refine dO (i := 20) (zT (i := 20) rfl rfl rfl (zD rfl _) (zM (vs := [at_, i2]) Tryz.func137 nm137 rfl rfl rfl ?_))
       refine Calls.mono (jA jh.pins (Gadd.pins jh.pins at_) mm.read (hd.mono (Pin.le_trans (Pin.le_trans ao.le gm) a5.le)) (by omega) (fun i hi => by have := hoo.right (j := c) (by omega) hi; omega)) ?_
       rintro _ apo ⟨y1, app, rfl, da, a6⟩
       refine ⟨_, rfl, ?_⟩
       have apq := jh.tr a6
       have apr := mm.ext a6
       have aps := yu.ext a6
       have apt := yv.ext a6
       have apu := yw.ext a6
       have y2 := mn.ext a6
       have apv := yx.ext a6
       have apw := yy.ext a6
       have apx := yz.ext a6
       have apy := zS da.lt mm.lt
       have apz := zS da.lt yu.lt
       have ap0 := zS da.lt yv.lt
       have ap1 := zS da.lt yw.lt
       have ap2 := zZ da.lt mn.lt
       have ap4 := zZ da.lt yx.lt
       have ap5 := zZ da.lt yy.lt
       have ap6 := zZ da.lt yz.lt
       have ap7 : Own eInt 3 app apo w.heap.size y1 (atL ats ((ns.getD c default).r)) := da.weaken jh.size
       have y3 := y0.below a6.below
       refine ⟨fun _ => ⟨y2.reads, y3⟩, ?_⟩
       obtain ⟨axq, gn, y4, ap8, es⟩ := ap7.sealed apq
       have ap9 := apr.moreO gn es apy.symm
       have aqa := aps.moreO gn es apz.symm
       have aqb := apt.moreO gn es ap0.symm
       have aqc := apu.moreO gn es ap1.symm
       have aqd := y2.moreO es ap2.symm
       have aqe := apv.moreO es ap4.symm
       have aqf := apw.moreO es ap5.symm
       have aqg := apx.moreO es ap6.symm
       refine dO (i := 21) (zT (i := 21) rfl rfl rfl (zD rfl _) (zM (vs := [y1]) Tryz.func145 nm145 rfl rfl rfl ?_))
       refine Calls.mono (xW y4.pins ap8 (by first | omega | (rw [xH]; omega))) ?_
       rintro _ axr ⟨f0, axs, rfl, mo, a7⟩
       refine ⟨_, rfl, ?_⟩
       have y5 := y4.tr a7
       have aqh := ap9.ext a7
       have aqi := aqa.ext a7
       have aqj := aqb.ext a7
       have aqk := aqc.ext a7
       have mp := aqd.ext a7
       have aql := aqe.ext a7
       have aqm := aqf.ext a7
       have aqn := aqg.ext a7
       have y6 := y3.below a7.below
       refine ⟨fun _ => ⟨mp.reads, y6⟩, ?_⟩
       refine dT (i := 22) rfl rfl (by kernel_rfl) (fun _ _ => xF [(.slice none 0 0), (.slice none 0 0)] [fz, f0] [(0, fz, [fz]), (1, f0, [f0])] Tryz.underlying68 zr68 rfl pl68 rfl (List.forall_mem_cons.2 ⟨(yY ml.one), (List.forall_mem_cons.2 ⟨(yY mo.one), (fun _ h => by cases h)⟩)⟩) rfl) ⟨mp.reads, y6⟩ ?_
       refine dO (i := 24) (xP (i := 24) rfl rfl rfl (zD rfl _) (yM (cs' := [fz, f0]) (us := [fz, f0]) (v := (.agg [fz, f0].toArray)) sz68 rfl rfl rfl (ones2 ml.one mo.one) y5.pins aqn (Nat.le_of_ble_eq_true rfl) rfl (fun axt aqo aqp et axu => ?_)))
       have aqq := y5.write aqp et ((zV yr))
       have aqr := aqh.keptA et yk.symm
       have aqs := aqi.keptA et yl.symm
       have aqt := aqj.keptA et ym.symm
       have aqu := aqk.keptA et yn.symm
       have aqv := mp.keptA et yo.symm
       have aqw := aql.keptA et yp.symm
       have aqx := aqm.keptA et yq.symm
       obtain ⟨aqy, f1, aqz, aq0, f2⟩ := aqo.shut aqq yr
       have aq1 := aqr.moreA f1 f2 yk.symm
       have aq2 := aqs.moreA f1 f2 yl.symm
       have aq3 := aqt.moreA f1 f2 ym.symm
       have aq4 := aqu.moreA f1 f2 yn.symm
       have aq5 := aqv.moreA f2 yo.symm
       have aq6 := aqw.moreA f2 yp.symm
       have aq7 := aqx.moreA f2 yq.symm
       refine ⟨fun h => absurd rfl h, ?_⟩
       refine yT (by kernel_rfl) ?_
       exact xR ⟨_, b4, fz, f0, aqy, (pS 12 (pS 11 (pS 10 (pS 9 (pS 8 (pS 7 (pS 6 (pS 5 (pS 4 (pS 1 (pU 0))))))))))), aqz, (Pin.le_trans (Pin.le_trans (Pin.le_trans (Pin.le_trans (Pin.le_trans (Pin.le_trans ao.le gm) a5.le) a6.le) gn) a7.le) f1), (ml.mono (Pin.le_trans (Pin.le_trans (Pin.le_trans a6.le gn) a7.le) f1)), (mo.mono f1), aq1, aq2, aq3, aq4, aq5, aq6, aq7, (aq0.mono (Pin.le_refl _))⟩
     ·skip
      refine (zT (i := 23) rfl rfl rfl (zD rfl _) (yH [(.slice none 0 0), (.slice none 0 0)] zr68 rfl fi.pins (fun db axv f3 y7 aq8 dc => ?_)))
      have ji := fi.step aq8 dc
      have mq := hc.below dc
      have y8 := ix.below dc
      have y9 := iy.below dc
      have za := iz.below dc
      have mr := ad.below dc
      have zb := i0.below dc
      have zc := i1.below dc
      have zd : Apart (some db) at_.ownBlock := zI (congrArg some f3) hc.lt
      have ze : Apart (some db) ov.ownBlock := zI (congrArg some f3) ix.lt
      have zf : Apart (some db) bu.ownBlock := zI (congrArg some f3) iy.lt
      have zg : Apart (some db) bv.ownBlock := zI (congrArg some f3) iz.lt
      have zh : Apart (some db) (some b) := zH (congrArg some f3) ad.lt
      have zi : Apart (some db) (some f) := zH (congrArg some f3) i0.lt
      have zj : Apart (some db) (some d) := zH (congrArg some f3) i1.lt
      have zk : w.heap.size ≤ db := by have := fi.size; omega
      have zl := ah.below dc
      refine ⟨fun _ => ⟨mr.reads, zl⟩, ?_⟩
      refine dO (i := 9) (zT (i := 9) rfl rfl rfl (zD rfl _) (zM (vs := [at_, wm]) Tryz.func137 nm137 rfl rfl rfl ?_))
      refine Calls.mono (jA ji.pins (Gadd.pins ji.pins at_) mq.read lr (by omega) (fun i hi => by have := hoo.left (j := c) (by omega) hi; omega)) ?_
      rintro _ aq9 ⟨zm, ara, rfl, dd, a8⟩
      refine ⟨_, rfl, ?_⟩
      have arb := ji.tr a8
      have arc := mq.ext a8
      have ard := y8.ext a8
      have are := y9.ext a8
      have arf := za.ext a8
      have zn := mr.ext a8
      have arg := zb.ext a8
      have arh := zc.ext a8
      have ari := y7.ext a8
      have arj := zS dd.lt mq.lt
      have ark := zS dd.lt y8.lt
      have arl := zS dd.lt y9.lt
      have arm := zS dd.lt za.lt
      have arn := zZ dd.lt mr.lt
      have aro := zZ dd.lt zb.lt
      have arp := zZ dd.lt zc.lt
      have arq := zZ dd.lt y7.lt
      have arr : Own eInt 3 ara aq9 w.heap.size zm (atL ats ((ns.getD c default).l)) := dd.weaken ji.size
      have zo := zl.below a8.below
      refine ⟨fun _ => ⟨zn.reads, zo⟩, ?_⟩
      obtain ⟨axw, gp, zp, ars, eu⟩ := arr.sealed arb
      have art := arc.moreO gp eu arj.symm
      have aru := ard.moreO gp eu ark.symm
      have arv := are.moreO gp eu arl.symm
      have arw := arf.moreO gp eu arm.symm
      have arx := zn.moreO eu arn.symm
      have ary := arg.moreO eu aro.symm
      have arz := arh.moreO eu arp.symm
      have ar0 := ari.moreO eu arq.symm
      refine dO (i := 10) (zT (i := 10) rfl rfl rfl (zD rfl _) (zM (vs := [zm]) Tryz.func145 nm145 rfl rfl rfl ?_))
      refine Calls.mono (xW zp.pins ars (by first | omega | (rw [xH]; omega))) ?_
      rintro _ axx ⟨f4, axy, rfl, ms, a9⟩
      refine ⟨_, rfl, ?_⟩
      have jj := zp.tr a9
      have mt := art.ext a9
      have zq := aru.ext a9
      have zr := arv.ext a9
      have zs := arw.ext a9
      have mu := arx.ext a9
      have zt := ary.ext a9
      have zu := arz.ext a9
      have zv := ar0.ext a9
      have zw := zo.below a9.below
      refine ⟨fun _ => ⟨mu.reads, zw⟩, ?_⟩
      refine dO (i := 20) (zT (i := 20) rfl rfl rfl (zD rfl _) (zM (vs := [at_, i2]) Tryz.func137 nm137 rfl rfl rfl ?_))
      refine Calls.mono (jA jj.pins (Gadd.pins jj.pins at_) mt.read (hd.mono (Pin.le_trans (Pin.le_trans a8.le gp) a9.le)) (by omega) (fun i hi => by have := hoo.right (j := c) (by omega) hi; omega)) ?_
      rintro _ ar1 ⟨zx, ar2, rfl, de, ba⟩
      refine ⟨_, rfl, ?_⟩
      have ar3 := jj.tr ba
      have ar4 := mt.ext ba
      have ar5 := zq.ext ba
      have ar6 := zr.ext ba
      have ar7 := zs.ext ba
      have zy := mu.ext ba
      have ar8 := zt.ext ba
      have ar9 := zu.ext ba
      have asa := zv.ext ba
      have asb := zS de.lt mt.lt
      have asc := zS de.lt zq.lt
      have asd := zS de.lt zr.lt
      have ase := zS de.lt zs.lt
      have asf := zZ de.lt mu.lt
      have asg := zZ de.lt zt.lt
      have ash := zZ de.lt zu.lt
      have asi := zZ de.lt zv.lt
      have asj : Own eInt 3 ar2 ar1 w.heap.size zx (atL ats ((ns.getD c default).r)) := de.weaken jj.size
      have zz := zw.below ba.below
      refine ⟨fun _ => ⟨zy.reads, zz⟩, ?_⟩
      obtain ⟨axz, gq, z0, ask, ev⟩ := asj.sealed ar3
      have asl := ar4.moreO gq ev asb.symm
      have asm := ar5.moreO gq ev asc.symm
      have asn := ar6.moreO gq ev asd.symm
      have aso := ar7.moreO gq ev ase.symm
      have asp := zy.moreO ev asf.symm
      have asq := ar8.moreO ev asg.symm
      have asr := ar9.moreO ev ash.symm
      have ass := asa.moreO ev asi.symm
      refine dO (i := 21) (zT (i := 21) rfl rfl rfl (zD rfl _) (zM (vs := [zx]) Tryz.func145 nm145 rfl rfl rfl ?_))
      refine Calls.mono (xW z0.pins ask (by first | omega | (rw [xH]; omega))) ?_
      rintro _ ax0 ⟨f5, ax1, rfl, mv, bb⟩
      refine ⟨_, rfl, ?_⟩
      have z1 := z0.tr bb
      have ast := asl.ext bb
      have asu := asm.ext bb
      have asv := asn.ext bb
      have asw := aso.ext bb
      have mw := asp.ext bb
      have asx := asq.ext bb
      have asy := asr.ext bb
      have asz := ass.ext bb
      have z2 := zz.below bb.below
      refine ⟨fun _ => ⟨mw.reads, z2⟩, ?_⟩
      refine dT (i := 22) rfl rfl (by kernel_rfl) (fun _ _ => xF [(.slice none 0 0), (.slice none 0 0)] [f4, f5] [(0, f4, [f4]), (1, f5, [f5])] Tryz.underlying68 zr68 rfl pl68 rfl (List.forall_mem_cons.2 ⟨(yY ms.one), (List.forall_mem_cons.2 ⟨(yY mv.one), (fun _ h => by cases h)⟩)⟩) rfl) ⟨mw.reads, z2⟩ ?_
      refine dO (i := 24) (xP (i := 24) rfl rfl rfl (zD rfl _) (yM (cs' := [f4, f5]) (us := [f4, f5]) (v := (.agg [f4, f5].toArray)) sz68 rfl rfl rfl (ones2 ms.one mv.one) z1.pins asz (Nat.le_of_ble_eq_true rfl) rfl (fun ax2 as0 as1 ew ax3 => ?_)))
      have as2 := z1.write as1 ew ((zV zk))
      have as3 := ast.keptA ew zd.symm
      have as4 := asu.keptA ew ze.symm
      have as5 := asv.keptA ew zf.symm
      have as6 := asw.keptA ew zg.symm
      have as7 := mw.keptA ew zh.symm
      have as8 := asx.keptA ew zi.symm
      have as9 := asy.keptA ew zj.symm
      obtain ⟨ata, f6, atb, atc, f7⟩ := as0.shut as2 zk
      have atd := as3.moreA f6 f7 zd.symm
      have ate := as4.moreA f6 f7 ze.symm
      have atf := as5.moreA f6 f7 zf.symm
      have atg := as6.moreA f6 f7 zg.symm
      have ath := as7.moreA f7 zh.symm
      have ati := as8.moreA f7 zi.symm
      have atj := as9.moreA f7 zj.symm
      refine ⟨fun h => absurd rfl h, ?_⟩
      refine yT (by kernel_rfl) ?_
      exact xR ⟨_, db, f4, f5, ata, (pS 12 (pS 11 (pS 10 (pS 9 (pS 8 (pS 7 (pS 6 (pS 5 (pS 4 (pS 1 (pU 0))))))))))), atb, (Pin.le_trans (Pin.le_trans (Pin.le_trans (Pin.le_trans (Pin.le_trans (Pin.le_trans a8.le gp) a9.le) ba.le) gq) bb.le) f6), (ms.mono (Pin.le_trans (Pin.le_trans (Pin.le_trans ba.le gq) bb.le) f6)), (mv.mono f6), atd, ate, atf, atg, ath, ati, atj, (atc.mono (Pin.le_refl _))⟩
   refine qW ?_
   refine qW ?_
   refine qW ?_
   refine qW ?_
   refine qW ?_
   refine qW ?_
   refine qW ?_
   refine qW ?_
   refine qW ?_
   refine qD rfl (xE (v := (.bool true)) rfl rfl) ?_
   refine qe (zA ?_)
   refine c_ifT rfl rfl ?_
   refine wp_exit ?_
   refine yA ?_
   refine yL ?_
   refine zA (zC ?_)
   refine qM (vJ (c : Int)) ?_
   refine qD rfl (yR rfl rfl (by omega)) ?_
   refine qM (vJ ((c : Int) + 1)) ?_
   refine qe ?_
   refine yK ?_
   refine ⟨_, ?_, _, rfl, _, c + 1, lv, ls, fv, fr, ai, (pS 11 (pS 10 (pS 9 (pS 8 (pS 7 (pS 6 (pS 5 (pS 4 (pS 1 (pU 0)))))))))), rfl, dm, gy, (by omega), (lv_skip hrl (fun g => by have := g.1; rw [j1] at this; cases this)), (by omega), hfb, hu, hv, e4, gf, gz, hw, hx, bk, gg⟩
   omega
  refine wp_exit ?_
  refine yA ?_
  refine yN ?_
  refine yL ?_
  refine zA (zB (zC ?_))
  refine qM (vJ 0) ?_
  refine qe (zA ?_)
  refine zX ?_
  refine yQ (fun (k : Nat) (en : Nat → Value) (W : World) => ∃ (ac : Nat → Value) (i4 : Nat) (ak : Value) (gr : List Int) (aj : Value) (bh : List Nd) (al : Pin), en = (upd (upd (upd (upd (upd (upd (upd (upd (upd (upd ac 0 (.pointer (some ⟨b, 0, none⟩))) 1 (vJ m)) 4 (.pointer (some ⟨f, 0, none⟩))) 5 ax) 6 ak) 7 (.pointer (some ⟨d, 0, none⟩))) 8 (vJ (q : Int))) 9 lv) 10 fv) 14 (vJ (i4 : Int))) ∧ k = ls.length - i4 ∧ Ext noS G w al W ∧ Pin.le ai al ∧ (i4 ≤ ls.length) ∧ (placeM ls fr ats outs = placeM (ls.drop i4) (fr.drop i4) gr bh) ∧ (gr.length = m.toNat + 1) ∧ (bh.length = outs.length + i4) ∧ (Own eInt 3 al W w.heap.size ak (gr)) ∧ (Own eNode 68 al W w.heap.size aj (bh)) ∧ (Own eNode 68 al W 0 bu (ns)) ∧ (Own eInt 3 al W 0 bv (bs)) ∧ (Bx al W b [bu, bv]) ∧ (Bx al W f [(.slice none 0 0)]) ∧ (Bx al W d [aj]) ∧ (Apart ak.ownBlock aj.ownBlock) ∧ (Apart ak.ownBlock bu.ownBlock) ∧ (Apart ak.ownBlock bv.ownBlock) ∧ (Apart ak.ownBlock (some b)) ∧ (Apart ak.ownBlock (some f)) ∧ (Apart ak.ownBlock (some d)) ∧ (Apart aj.ownBlock bu.ownBlock) ∧ (Apart aj.ownBlock bv.ownBlock) ∧ (Apart aj.ownBlock (some b)) ∧ (Apart aj.ownBlock (some f)) ∧ (Apart aj.ownBlock (some d))) _ ⟨_, 0, at_, ats, ov, outs, ai, (pS 14 (pS 10 (pS 9 (pS 8 (pS 7 (pS 6 (pS 5 (pS 4 (pS 1 (pU 0)))))))))), rfl, dm, Pin.le_refl _, Nat.zero_le _, rfl, hatl, rfl, hu, hv, e4, gf, gz, hw, hx, aby, abz, ab0, ab1, ab2, ab3, ab4, ab5, ab6, n6, ab7⟩ ?_
  rintro ax4 _ hg ⟨ac, i4, ak, gr, aj, bh, al, rfl, ax5, hh, gs, hi4, hrp, z3, ax7, mx, my, z4, z5, z6, z7, z8, jk, mz, m0, m1, m2, jl, m3, m4, m5, m6, m7⟩
  refine zB (zB (zC ?_))
  refine qM (vJ (i4 : Int)) ?_
  refine qM lv ?_
  refine qD rfl (zN Tryz.underlying26 (v := lv) rfl bk) ?_
  refine qD rfl (yV rfl rfl) ?_
  refine qe (zA ?_)
  refine yI (p := ((i4 : Int) : Int) < (ls.length : Int)) rfl rfl (fun atk => ?_) (fun atk => ?_)
  ·skip
   have hf4 := hfb i4 (by omega)
   refine wp_skip ?_
   refine zA (zB ?_)
   refine zX ?_
   refine zB ?_
   have atl := Gadd.pins hh.pins aj
   have atm := Gadd.pins hh.pins ak
   have atn := my.read
   have ato := mx.read
   refine xG (S := fun wz => Pins al wz ∧ BxR wz d [aj] ∧ Pins (Gadd al hg aj) wz ∧ Pins (Gadd al hg ak) wz) (last := 9) (by kernel_rfl) rfl ?_
   have bi : Below hg.heap.size hg hg.drew := (Below.refl _ _).drew
   have atp := hh.pins.below bi
   have bj := hh.step atp bi
   have z9 := mx.below bi
   have atq := my.below bi
   have atr := z4.below bi
   have att := z5.below bi
   have atu := z6.below bi
   have atv := z7.below bi
   have b6 := z8.below bi
   have df := atl.below bi
   have dg := atm.below bi
   refine dT (i := 0) rfl rfl (by kernel_rfl) (fun _ _ => zU (v := ak) rfl) ⟨bj.pins, b6.reads, df, dg⟩ ?_
   refine dT (i := 1) rfl rfl (by kernel_rfl) (fun _ _ => zU (v := fv) rfl) ⟨bj.pins, b6.reads, df, dg⟩ ?_
   refine dT (i := 2) rfl rfl (by kernel_rfl) (fun _ _ => zU (v := (vJ (i4 : Int))) rfl) ⟨bj.pins, b6.reads, df, dg⟩ ?_
   refine dT (i := 3) rfl rfl (by kernel_rfl) (fun _ _ => zJ Tryz.underlying57 sz3 (v := fv) rfl rfl gg (by omega) (by omega)) ⟨bj.pins, b6.reads, df, dg⟩ ?_
   refine dT (i := 4) rfl rfl (by kernel_rfl) (fun _ hS => zK (r := fr.getD i4 0) rfl ag3 (z := (i4 : Int)) rfl gg (Pins.of_le hS.1 gs) (by omega) (by omega)) ⟨bj.pins, b6.reads, df, dg⟩ ?_
   refine dT (i := 5) rfl rfl (by kernel_rfl) (fun _ _ => zO (k := 0) rfl Tryz.underlying28 rfl nz26 rfl) ⟨bj.pins, b6.reads, df, dg⟩ ?_
   refine dT (i := 6) rfl rfl (by kernel_rfl) (fun _ hS => zP (u := aj) ag26 rfl (hS.2.1 0 _ rfl)) ⟨bj.pins, b6.reads, df, dg⟩ ?_
   refine dT (i := 7) rfl rfl (by kernel_rfl) (fun _ _ => zN Tryz.underlying26 (v := aj) rfl atn) ⟨bj.pins, b6.reads, df, dg⟩ ?_
   refine dT (i := 8) rfl rfl (by kernel_rfl) (fun _ _ => zJ Tryz.underlying57 sz3 (v := ak) rfl rfl ato (by omega) (by omega)) ⟨bj.pins, b6.reads, df, dg⟩ ?_
   refine dO (i := 9) (xP (i := 9) rfl rfl rfl (zD rfl _) (o_set (E := eInt) (v := ak) (u := (vJ (bh.length : Int))) (z := (fr.getD i4 0)) ((bh.length : Int)) sz3 rfl rfl rfl rfl bj.pins z9 (by omega) (by omega) (fun m8 atw atx f8 ax9 => ?_)))
   have aaa := bj.write atx f8 ((yB z9))
   have aty := atq.keptA f8 jk.symm
   have atz := atr.keptA f8 mz.symm
   have at0 := att.keptA f8 m0.symm
   have at1 := atu.keptA f8 m1.symm
   have at3 := atv.keptA f8 m2.symm
   have at4 := b6.keptA f8 jl.symm
   refine ⟨fun h => absurd rfl h, ?_⟩
   refine yT (by kernel_rfl) ?_
   refine zA ?_
   refine xG (S := fun wz => BxR wz d [aj] ∧ Pins al wz) (last := 9) (by kernel_rfl) rfl ?_
   have dh : Below m8.heap.size m8 m8.drew := (Below.refl _ _).drew
   have at5 := aaa.pins.below dh
   have di := aaa.step at5 dh
   have at6 := atw.below dh
   have at7 := aty.below dh
   have at8 := atz.below dh
   have at9 := at0.below dh
   have aua := at1.below dh
   have aub := at3.below dh
   have f9 := at4.below dh
   refine dT (i := 0) rfl rfl (by kernel_rfl) (fun _ _ => zO (k := 0) rfl Tryz.underlying28 rfl nz26 rfl) ⟨f9.reads, di.pins⟩ ?_
   refine dT (i := 1) rfl rfl (by kernel_rfl) (fun _ hS => zP (u := aj) ag26 rfl (hS.1 0 _ rfl)) ⟨f9.reads, di.pins⟩ ?_
   refine dT (i := 2) rfl rfl (by kernel_rfl) (fun _ _ => zU (v := lv) rfl) ⟨f9.reads, di.pins⟩ ?_
   refine dT (i := 3) rfl rfl (by kernel_rfl) (fun _ _ => zU (v := (vJ (i4 : Int))) rfl) ⟨f9.reads, di.pins⟩ ?_
   refine dT (i := 4) rfl rfl (by kernel_rfl) (fun _ _ => zJ Tryz.underlying26 sz68 (v := lv) rfl rfl bk (by omega) (by omega)) ⟨f9.reads, di.pins⟩ ?_
   obtain ⟨auc, aud, aab, aac, aue⟩ := nm_node (bk.at (z := (i4 : Int)) (by omega) (by omega)) (j := i4) rfl
   have aya := aab.max
   have ayb := aac.max
   refine dT (i := 5) rfl rfl (by kernel_rfl) (fun _ hS => aue ag68 sz68 rfl (Pins.of_le hS.2 gs)) ⟨f9.reads, di.pins⟩ ?_
   refine dO (i := 6) (zT (i := 6) rfl rfl rfl (zD rfl _) (xC (E := eNode) (e := 68) [auc, aud] (⟨(ls.getD i4 default).l, (ls.getD i4 default).r⟩ : Nd) Tryz.underlying26 sz68 zr68 ⟨_, _, rfl, (aab.mono gs), (aac.mono gs)⟩ rfl (by decide) di.pins (fun aad auf aug auh ex ayc => ?_)))
   have jm := di.step auh ex
   have aae := at6.below ex
   have aaf := at7.below ex
   have aag := at8.below ex
   have aah := at9.below ex
   have aai := aua.below ex
   have aaj := aub.below ex
   have m9 := f9.below ex
   have aui : Own eNode 68 al auf w.heap.size aad ([(⟨(ls.getD i4 default).l, (ls.getD i4 default).r⟩ : Nd)]) := aug.weaken di.size
   refine ⟨fun _ => ⟨m9.reads, jm.pins⟩, ?_⟩
   refine dO (i := 7) (zT (i := 7) rfl rfl rfl (zD rfl _) (oA (E := eNode) (v := aj) (u := aad) 48 Tryz.underlying26 ap68 (by decide) rfl rfl jm.pins aaf aui.src (jm.size) (fun b7 ayd na auj ga gt => ?_)))
   have jn := jm.write auj ga ((yB aaf))
   have auk := aae.keptA ga jk
   have aul := aag.keptA ga m3.symm
   have aum := aah.keptA ga m4.symm
   have aun := aai.keptA ga m5.symm
   have auo := aaj.keptA ga m6.symm
   have nb := m9.keptA ga m7.symm
   have aup : Apart ak.ownBlock b7.ownBlock := zG jk gt aae.lt
   have auq : Apart bu.ownBlock b7.ownBlock := zG m3.symm gt aag.lt
   have aur : Apart bv.ownBlock b7.ownBlock := zG m4.symm gt aah.lt
   have aus : Apart (some b) b7.ownBlock := zL m5.symm gt aai.lt
   have aut : Apart (some f) b7.ownBlock := zL m6.symm gt aaj.lt
   have aak : Apart (some d) b7.ownBlock := zL m7.symm gt m9.lt
   have aye : (bh ++ ([(⟨(ls.getD i4 default).l, (ls.getD i4 default).r⟩ : Nd)])).length = bh.length + 1 := List.length_append
   refine ⟨fun _ => ⟨nb.reads, jn.pins⟩, ?_⟩
   refine dT (i := 8) rfl rfl (by kernel_rfl) (fun _ _ => zO (k := 0) rfl Tryz.underlying28 rfl nz26 rfl) ⟨nb.reads, jn.pins⟩ ?_
   refine dO (i := 9) (xP (i := 9) rfl rfl rfl (zD rfl _) (yM (cs' := [b7]) (us := [b7]) (v := b7) sz26 rfl rfl (cells1 na.one) (yC na.one) jn.pins nb (Nat.le_of_ble_eq_true rfl) rfl (fun ayf auu auw gb ayg => ?_)))
   have aux := jn.write auw gb ((zV n2))
   have auy := auk.keptA gb jl
   have auz := aul.keptA gb nw.symm
   have au0 := aum.keptA gb nx.symm
   have au1 := na.keptA gb aak.symm
   have au2 := aun.keptA gb n0.symm
   have au3 := auo.keptA gb n1.symm
   refine ⟨fun h => absurd rfl h, ?_⟩
   refine yT (by kernel_rfl) ?_
   refine yJ ?_
   refine zA (zC ?_)
   refine qM (vJ (i4 : Int)) ?_
   refine qD rfl (yR rfl rfl (by omega)) ?_
   refine qM (vJ ((i4 : Int) + 1)) ?_
   refine qe ?_
   refine yK ?_
   refine ⟨_, ?_, _, rfl, _, i4 + 1, ak, (gr).set (fr.getD i4 0).toNat (bh.length : Int), b7, bh ++ ([(⟨(ls.getD i4 default).l, (ls.getD i4 default).r⟩ : Nd)]), al, (pS 14 (pS 10 (pS 9 (pS 8 (pS 7 (pS 6 (pS 5 (pS 4 (pS 1 (pU 0)))))))))), rfl, aux, gs, (by omega), (hrp.trans (place_next (by omega) (by omega))), ((List.length_set ..).trans z3), (by simp; omega), auy, au1, auz, au0, au2, au3, auu, aup, mz, m0, m1, m2, jl, auq.symm, aur.symm, aus.symm, aut.symm, aak.symm⟩
   omega
  refine wp_exit ?_
  refine yA ?_
  refine yN ?_
  refine yL ?_
  refine yJ ?_
  refine zA (zC ?_)
  refine qM (vJ (q : Int)) ?_
  refine qD rfl (yR rfl rfl (by omega)) ?_
  refine qM (vJ ((q : Int) + 1)) ?_
  refine qe ?_
  refine yK ?_
  refine ⟨_, ?_, _, rfl, _, q + 1, ak, gr, aj, bh, al, (pS 8 (pS 7 (pS 6 (pS 5 (pS 4 (pS 1 (pU 0))))))), rfl, hh, (Pin.le_trans (Pin.le_trans (Pin.le_trans (Pin.le_trans n3 e1) e2) gy) gs), (by omega), (form_step hr (by rw [show m.toNat + 1 = c by omega]; exact hrl) (hrp.trans (place_end (by omega)))), z3, (by omega), mx, my, z4, z5, z6, z7, z8, jk, mz, m0, m1, m2, jl, m3, m4, m5, m6, m7⟩
  omega
 refine wp_exit ?_
 refine yA ?_
 refine yN ?_
 refine yL ?_
 refine zA (zB (zC ?_))
 refine qD rfl (yF (cs := [ov]) ag28 sz28 rfl (fun j u hj => jz.cell (by simpa using hj))) ?_
 refine q0 rfl rfl rfl (yM (cs' := [ov]) (us := [ov]) (v := (.agg [ov].toArray)) sz28 rfl rfl rfl (yC hp.one) ge.pins jy (Nat.le_of_ble_eq_true rfl) rfl (fun ayh au4 au5 aal ayi => ?_))
 have au6 := ge.write au5 aal ((zV aao))
 have aam := hp.keptA aal n6
 refine qe (zA ?_)
 refine wp_ret ?_
 refine zR ?_
 refine c_retc (cs := [ov]) rfl rfl rfl ag28 sz28 (fun j u hj => by rw [Nat.zero_add]; exact au4.cell hj) ?_
 obtain ⟨ayj, au7, au8, au9, ayk⟩ := aam.sealed au6
 have hfd := form_done hr (by omega)
 exact ⟨_, _, rfl, (by rw [hfd]; exact au9), au8, (by rw [hfd]; exact ⟨ar, aam, au7⟩)⟩

theorem form_spec {w : World} {G : Pin} {b : Nat} {bu bv : Value} {ns : List Nd} {bs : List Int} (hP : Pins G w) (hB : Bk 68 3 G w b bu bv ns bs) (hok : BookOk ns bs) {m : Int} (hm : 0 ≤ m ∧ m < ns.length) :
  Calls Tryz.prog 115 [(.pointer (some ⟨b, 0, none⟩)), (.int .i64 m)].toArray w fun e w' => ∃ (u : Value) (G' : Pin), e = .returned (.agg [u].toArray) ∧ RSl eNode G' u (formM ns bs m.toNat) ∧ Ext noS G w G' w' :=
 (form_own hP hB hok hm).mono fun _ _ ⟨u, G', h1, h2, h3, _⟩ => ⟨u, G', h1, h2, h3⟩

theorem l3Good_spec {w : World} {G : Pin} {v : Value} {ns : List Nd} (hP : Pins G w) (hv : RSl eNode G v ns) :
  Calls Tryz.prog 59 [(.agg [v].toArray)].toArray w fun e w' => ∃ G', e = .returned (.bool (decP (GoodS ns))) ∧ Ext noS G w G' w' := by
 refine yD (n := 46) Tryz.func59 Tryz.ntmps59 rfl rfl ?_
 have ae : Ext noS G w G w := Ext.refl hP
 have hm := hv.max
 refine zB (zC ?_)
 refine qI rfl (qA [v] (v := (.agg [v].toArray)) rfl rfl ae.pins (fun b1 w2 bq az a0 a1 => ?_))
 have a2 := ae.step a0 a1
 have a3 : w.heap.size ≤ b1 := by have := ae.size; omega
 obtain ⟨G9, f, af, o, bs⟩ := az.shut a2 a3
 refine qM (.bool false) ?_
 refine qe (zA (zB (zB (zC ?_))))
 refine qD rfl (yF (cs := [v]) ag28 sz28 rfl (fun j u hj => af.pins _ _ _ (o _ _ (by simpa using hj)))) ?_
 refine qI rfl (zM (vs := [(.agg [v].toArray)]) Tryz.func113 nm113 rfl rfl rfl ?_)
 refine Calls.mono (l3Fits_spec af.pins (hv.mono f)) ?_
 rintro _ bt ⟨ao, rfl, a⟩
 refine ⟨_, rfl, ?_⟩
 have ap := af.tr a
 refine qD rfl (qC rfl) ?_
 refine qe (zA ?_)
 refine c_ifn rfl rfl (fun ab => ?_) (fun ab => ?_)
 ·skip
  refine wp_skip ?_
  refine zA (zB (zB (zC ?_)))
  refine qM (vJ 0) ?_
  refine qe (zA ?_)
  refine zX ?_
  have hfit := decP_true.1 ab
  refine yQ (fun (k : Nat) (en : Nat → Value) (W : World) => ∃ (aq : Nat → Value) (j : Nat) (x : Pin), en = (upd (upd aq 1 (.pointer (some ⟨b1, 0, none⟩))) 3 (vJ (j : Int))) ∧ k = ns.length - j ∧ Ext noS G w x W ∧ Pin.le ao x ∧ (j ≤ ns.length) ∧ (∀ i, i < j → Rise (ns.getD i default).l 0 ((i : Int) - 1) ∧ Rise (ns.getD i default).r 0 ((i : Int) - 1))) _ ⟨_, 0, ao, (pS 3 (pU 1)), rfl, ap, Pin.le_refl _, Nat.zero_le _, (fun i hi => absurd hi (Nat.not_lt_zero i))⟩ ?_
  rintro bu _ bv ⟨aq, j, x, rfl, bw, c, b, hj, hp⟩
  refine zB (zB (zC ?_))
  refine qM (vJ (j : Int)) ?_
  refine qD rfl (zO (k := 0) rfl Tryz.underlying28 rfl nz26 rfl) ?_
  refine qD rfl (zP (u := v) ag26 rfl ((Pins.of_le c.pins (Pin.le_trans a.le b)) _ _ _ (o 0 _ rfl))) ?_
  refine qD rfl (zN Tryz.underlying26 (v := v) rfl hv) ?_
  refine qD rfl (yV rfl rfl) ?_
  refine qe (zA ?_)
  refine yI (p := ((j : Int) : Int) < (ns.length : Int)) rfl rfl (fun a4 => ?_) (fun a4 => ?_)
  ·skip
   refine wp_skip ?_
   refine zA (zB ?_)
   refine zX ?_
   refine zB (zC ?_)
   refine qD rfl (zO (k := 0) rfl Tryz.underlying28 rfl nz26 rfl) ?_
   refine qD rfl (zP (u := v) ag26 rfl ((Pins.of_le c.pins (Pin.le_trans a.le b)) _ _ _ (o 0 _ rfl))) ?_
   refine qM (vJ (j : Int)) ?_
   refine qD rfl (zJ Tryz.underlying26 sz68 (v := v) rfl rfl hv (by omega) (by omega)) ?_
   refine qD rfl (xD (off := 0) Tryz.underlying68 rfl rfl nz57 (z := (j : Int)) (k := 0) rfl hv (by omega) (by omega)) ?_
   obtain ⟨a5, ar, a6⟩ := nm_nl (hv.at (z := (j : Int)) (by omega) (by omega)) (j := j) rfl
   have bz := ar.max
   refine qD rfl (a6 ag57 rfl (Pins.of_le c.pins (Pin.le_trans (Pin.le_trans f a.le) b))) ?_
   refine qM (vJ (j : Int)) ?_
   refine qD rfl (qU rfl rfl (by omega)) ?_
   refine qI rfl (zM (vs := [a5, (vJ 0), (vJ ((j : Int) - 1))]) Tryz.func114 nm114 rfl rfl rfl ?_)
   refine Calls.mono (l1Rising_spec c.pins (ar.mono (Pin.le_trans (Pin.le_trans f a.le) b))) ?_
   rintro _ b0 ⟨rfl, au⟩
   refine ⟨_, rfl, ?_⟩
   have y := c.step au.pins au.below
   refine qD rfl (qC rfl) ?_
   refine qM (.bool (!(decP (Rise ((ns.getD j default).l) 0 ((j : Int) - 1))))) ?_
   refine qbn (t := 25) rfl (fun ac => ?_) (fun ac => ?_)
   ·skip
    refine qN (zO (k := 0) rfl Tryz.underlying28 rfl nz26 rfl) ?_
    refine qN (zP (u := v) ag26 rfl ((Pins.of_le y.pins (Pin.le_trans a.le b)) _ _ _ (o 0 _ rfl))) ?_
    refine qN (zU (v := (vJ (j : Int))) rfl) ?_
    refine qN (zJ Tryz.underlying26 sz68 (v := v) rfl rfl hv (by omega) (by omega)) ?_
    refine qN (xD (off := 1) Tryz.underlying68 rfl rfl nz57 (z := (j : Int)) (k := 0) rfl hv (by omega) (by omega)) ?_
    obtain ⟨a7, av, a8⟩ := nm_nr (hv.at (z := (j : Int)) (by omega) (by omega)) (j := j) rfl
    have b2 := av.max
    refine qN (a8 ag57 rfl (Pins.of_le y.pins (Pin.le_trans (Pin.le_trans f a.le) b))) ?_
    refine qN (zU (v := (vJ (j : Int))) rfl) ?_
    refine qN (qU rfl rfl (by omega)) ?_
    refine q1g rfl rfl rfl rfl rfl rfl (zM (vs := [a7, (vJ 0), (vJ ((j : Int) - 1))]) Tryz.func114 nm114 rfl rfl rfl ?_)
    refine Calls.mono (l1Rising_spec y.pins (av.mono (Pin.le_trans (Pin.le_trans f a.le) b))) ?_
    rintro _ b3 ⟨rfl, aw⟩
    refine ⟨_, rfl, ?_⟩
    have ax := y.step aw.pins aw.below
    refine qN (qC rfl) ?_
    refine qD rfl (xA (v := (.bool (!(decP (Rise ((ns.getD j default).r) 0 ((j : Int) - 1)))))) rfl rfl) ?_
    refine qe (zA ?_)
    refine c_ifn rfl rfl (fun ad => ?_) (fun ad => ?_)
    ·skip
     refine wp_skip ?_
     refine yJ ?_
     refine zA (zC ?_)
     refine qM (vJ (j : Int)) ?_
     refine qD rfl (yR rfl rfl (by omega)) ?_
     refine qM (vJ ((j : Int) + 1)) ?_
     refine qe ?_
     refine yK ?_
     refine ⟨_, ?_, _, rfl, _, j + 1, x, (pS 3 (pU 1)), rfl, ax, b, (by omega), (fun k hk => if h3 : k = j then h3 ▸ ⟨decP_true.1 ac, decP_true.1 ad⟩ else hp k (by omega))⟩
     omega
    refine zB (zC ?_)
    refine qM (.bool false) ?_
    refine qe (zA ?_)
    refine wp_ret ?_
    refine zR ?_
    refine zQ (v := (.bool false)) rfl rfl rfl ?_
    exact ⟨_, congrArg (fun z => Ending.returned (Value.bool z)) (decP_false.2 (fun g => by rw [decP_true.2 (g.rise j (by omega)).2] at ad; cases ad)).symm, ax⟩
   refine qW ?_
   refine qW ?_
   refine qW ?_
   refine qW ?_
   refine qW ?_
   refine qW ?_
   refine qW ?_
   refine qW ?_
   refine qW ?_
   refine qW ?_
   refine qD rfl (xE (v := (.bool true)) rfl rfl) ?_
   refine qe (zA ?_)
   refine c_ifT rfl rfl ?_
   refine zB (zC ?_)
   refine qM (.bool false) ?_
   refine qe (zA ?_)
   refine wp_ret ?_
   refine zR ?_
   refine zQ (v := (.bool false)) rfl rfl rfl ?_
   exact ⟨_, congrArg (fun z => Ending.returned (Value.bool z)) (decP_false.2 (fun g => by rw [decP_true.2 (g.rise j (by omega)).1] at ac; cases ac)).symm, y⟩
  refine wp_exit ?_
  refine yA ?_
  refine yN ?_
  refine yL ?_
  refine zA (zB (zC ?_))
  have hrise : ∀ i, i < ns.length → Rise (ns.getD i default).l 0 ((i : Int) - 1) ∧ Rise (ns.getD i default).r 0 ((i : Int) - 1) := fun i hi => hp i (by omega)
  have hfok := formOk_of hfit hrise
  have hlim := hfit.lim
  have hao := addM_all book_empty hfok (by simp; omega)
  refine qD rfl (xF [(.slice none 0 0), (.slice none 0 0)] [(.slice none 0 0), (.slice none 0 0)] [] Tryz.underlying133 zr133 rfl pl133 rfl (fun _ h => by cases h) rfl) ?_
  refine qI rfl (qA [(.slice none 0 0), (.slice none 0 0)] (v := (.agg [(.slice none 0 0), (.slice none 0 0)].toArray)) rfl rfl c.pins (fun m ag b4 a9 ba bb => ?_))
  have ay := c.step ba bb
  have bc : w.heap.size ≤ m := by have := c.size; omega
  refine qM (.pointer (some ⟨m, 0, none⟩)) ?_
  refine qe (zA (zB ?_))
  refine xG (S := fun wz => Pins x wz) (last := 8) (by kernel_rfl) rfl ?_
  have ah : Below ag.heap.size ag ag.drew := (Below.refl _ _).drew
  have bd := ay.pins.below ah
  have d := ay.step bd ah
  have be := a9.below ah
  refine dM 0 (.pointer (some ⟨m, 0, none⟩)) d.pins ?_
  refine dM 1 (.pointer (some ⟨m, 0, none⟩)) d.pins ?_
  refine dT (i := 2) rfl rfl (by kernel_rfl) (fun _ hS => yF (cs := [v]) ag28 sz28 rfl (fun j u hj => (Pins.of_le hS (Pin.le_trans a.le b)) _ _ _ (o _ _ (by simpa using hj)))) d.pins ?_
  refine dT (i := 5) rfl rfl (by kernel_rfl) (fun _ hS => yF (cs := [v]) ag28 sz28 rfl (fun j u hj => (Pins.of_le hS (Pin.le_trans a.le b)) _ _ _ (o _ _ (by simpa using hj)))) d.pins ?_
  refine dO (i := 3) (zT (i := 3) rfl rfl rfl (zD rfl _) (zM (vs := [(.pointer (some ⟨m, 0, none⟩)), (.agg [v].toArray)]) Tryz.func116 nm116 rfl rfl rfl ?_))
  refine Calls.mono (root_spec d.pins ⟨be, (Own.nil _ _ _ _ _), (Own.nil _ _ _ _ _), apart_none.symm, apart_none.symm, apart_none⟩ book_empty (hv.mono (Pin.le_trans (Pin.le_trans f a.le) b)) ⟨hfok, hlim.1⟩ (by first | omega | (simp; omega))) ?_
  rintro _ b5 ⟨b6, b7, b8, rfl, q, s, bf, bg⟩
  refine ⟨_, rfl, ?_⟩
  have ai : ∀ i, inS m (.slice none 0 0) (.slice none 0 0) i → w.heap.size ≤ i ∨ noS i := inS_lo (zV bc) (lo_none _ _) (lo_none _ _)
  have aj := d.trans s ai
  have bh := q.bx
  have bi := q.ou
  have bj := q.ov
  have bk := q.abu
  have bl := q.abv
  have bm := q.auv
  have b9 := qL bf ai d.size
  have ca := qL bg ai d.size
  refine ⟨fun _ => (Pins.of_le aj.pins s.le), ?_⟩
  refine dO (i := 4) (zT (i := 4) rfl rfl rfl (zD rfl _) (zM (vs := [(.pointer (some ⟨m, 0, none⟩)), (vJ (rootM ([]) ([]) ns))]) Tryz.func115 nm115 rfl rfl rfl ?_))
  refine Calls.mono (form_spec aj.pins ⟨bh, bi, bj, bk, bl, bm⟩ hao.book (root_lt hao hlim.1)) ?_
  rintro _ cb ⟨bn, cc, rfl, bo, aa⟩
  refine ⟨_, rfl, ?_⟩
  have ak := aj.tr aa
  refine ⟨fun _ => (Pins.of_le ak.pins (Pin.le_trans s.le aa.le)), ?_⟩
  refine dO (i := 6) (zT (i := 6) rfl rfl rfl (zD rfl _) (zM (vs := [(.agg [bn].toArray), (.agg [v].toArray)]) Tryz.func69 nm69 rfl rfl rfl ?_))
  refine Calls.mono (l3Same_spec ak.pins bo (hv.mono (Pin.le_trans (Pin.le_trans (Pin.le_trans (Pin.le_trans f a.le) b) s.le) aa.le))) ?_
  rintro _ cd ⟨ce, rfl, al⟩
  refine ⟨_, rfl, ?_⟩
  have am := ak.tr al
  refine ⟨fun _ => (Pins.of_le am.pins (Pin.le_trans (Pin.le_trans s.le aa.le) al.le)), ?_⟩
  refine dM 7 (.bool (decide ((formM ((addM ([]) ([]) ns).2.1) ((addM ([]) ([]) ns).2.2) (rootM ([]) ([]) ns).toNat) = ns))) (Pins.of_le am.pins (Pin.le_trans (Pin.le_trans s.le aa.le) al.le)) ?_
  refine yT (by kernel_rfl) ?_
  refine zA ?_
  refine wp_ret ?_
  refine zR ?_
  refine zQ (v := (.bool (decide ((formM ((addM ([]) ([]) ns).2.1) ((addM ([]) ([]) ns).2.2) (rootM ([]) ([]) ns).toNat) = ns)))) rfl rfl rfl ?_
  exact ⟨_, congrArg (fun z => Ending.returned (Value.bool z)) (decP_dec.symm.trans (decP_iff ⟨fun h => ⟨hfit, hrise, h⟩, fun h => h.same⟩)), am⟩
 refine zB (zC ?_)
 refine qM (.bool false) ?_
 refine qe (zA ?_)
 refine wp_ret ?_
 refine zR ?_
 refine zQ (v := (.bool false)) rfl rfl rfl ?_
 exact ⟨_, congrArg (fun z => Ending.returned (Value.bool z)) (decP_false.2 (fun g => by rw [decP_true.2 g.fits] at ab; cases ab)).symm, ap⟩

end E1
end Go.Proofs.YtkfgdhanaijddaaGreatDoor

set_option maxRecDepth 20000
set_option maxHeartbeats 2000000
namespace Go.Proofs.YtkfgdhanaijddaaGreatDoor
namespace K1
open Go.RowKit Go.GL Go.Proofs







theorem isPow_spec {w : World} {G : Pin} (hP : Pins G w) :
  Calls Tryz.prog 216 [(.int .i64 36)].toArray w fun e w' => e = .returned (.bool false) ∧ w' = w := by
 refine yD (n := 8) Tryz.func216 Tryz.ntmps216 rfl rfl ?_
 have hX0 : Ext noS G w G w := Ext.refl hP
 refine zB (zC ?_)
 refine qM (.bool false) ?_
 refine qe (zA (zB (zC ?_)))
 refine qM (.int .i64 36) ?_
 refine qM (.int .i64 36) ?_
 refine qD rfl (qU rfl rfl (by omega)) ?_
 refine qD rfl (r_and rfl rfl) ?_
 refine qD rfl (r_eql rfl rfl) ?_
 refine qM (.bool (decide ((andW .i64 36 (36 - 1) : Int) = 0))) ?_
 refine qe (zA ?_)
 refine wp_ret ?_
 refine zR ?_
 refine zQ (v := (.bool (decide ((andW .i64 36 (36 - 1) : Int) = 0)))) rfl rfl rfl ?_
 exact ⟨congrArg (fun z => Ending.returned (Value.bool z)) not_pow36, rfl⟩

theorem formatBits_spec {w : World} {G : Pin} {v : Value} {xs : List UInt8} {i : Int} (hP : Pins G w) (hv : Own eByte 5 G w 0 v xs) (hxl : xs.length ≤ 1099511627776) (hi : 0 ≤ i ∧ i ≤ 9223372036854775807) :
  Calls Tryz.prog 208 [v, (.int .u64 i), (vJ 36), (.bool false), (.bool true)].toArray w fun e w' => ∃ (u : Value) (G' : Pin), e = .returned (.tuple #[u, .string (⟨#[]⟩ : ByteArray)]) ∧ Own eByte 5 G' w' 0 u (xs ++ dig36 i.toNat) ∧ Lo w (inO v.ownBlock) u.ownBlock ∧ Ext (inO v.ownBlock) G w G' w' := by
 refine yD (n := 102) Tryz.func208 Tryz.ntmps208 rfl rfl ?_
 have d : Ext (inO v.ownBlock) G w G w := Ext.refl hP
 have hlov : Lo w (inO v.ownBlock) v.ownBlock := xM
 refine zB (zC ?_)
 refine qM (.slice none 0 0) ?_
 refine qM (.string (⟨#[]⟩ : ByteArray)) ?_
 refine qe (zA (zB (zB (zC ?_))))
 refine qM (vJ 36) ?_
 refine qD rfl (yV rfl rfl) ?_
 refine qM (.bool false) ?_
 refine qN (zU (v := (vJ 36)) rfl) ?_
 refine qN (r_eql rfl rfl) ?_
 refine qD rfl (xA (v := (.bool false)) rfl rfl) ?_
 refine qM (.bool false) ?_
 refine qN (zU (v := (vJ 36)) rfl) ?_
 refine qN (r_gtr rfl rfl) ?_
 refine qD rfl (xA (v := (.bool false)) rfl rfl) ?_
 refine qe (zA ?_)
 refine c_ifF rfl rfl ?_
 refine wp_skip ?_
 refine zA (zB (zC ?_))
 refine qI rfl (yH (arrV (List.replicate 65 0)) zr212 rfl d.pins (fun a w2 x y aa l => ?_))
 have m := d.step aa l
 have ab := hv.below l
 have f : Apart (some a) v.ownBlock := zI (congrArg some x) hv.lt
 have g : w.heap.size ≤ a := by have := d.size; omega
 refine qe (zA (zB (zC ?_)))
 refine qM (vJ 65) ?_
 refine qe (zA (zB (zB (zC ?_))))
 refine qM (.bool false) ?_
 refine qe (zA ?_)
 refine c_ifF rfl rfl ?_
 refine wp_skip ?_
 refine zA (zB (zB (zC ?_)))
 refine qM (vJ 36) ?_
 refine qI rfl (zM (vs := [(vJ 36)]) Tryz.func216 nm216 rfl rfl rfl ?_)
 refine Calls.mono (isPow_spec m.pins ) ?_
 rintro _ _ ⟨rfl, rfl⟩
 refine ⟨_, rfl, ?_⟩
 refine qe (zA ?_)
 refine c_ifF rfl rfl ?_
 refine zB (zC ?_)
 refine qM (vJ 36) ?_
 refine qD rfl (r_conv (j := 36) Tryz.underlying3 Tryz.underlying61 rfl (wrapU (by omega))) ?_
 refine qM (.int .u64 36) ?_
 refine qe (zA (zB ?_))
 refine zX ?_
 refine yQ (fun (k : Nat) (en : Nat → Value) (W : World) => ∃ (o : Nat → Value) (uz : Int) (iz : Int) (L : List UInt8), en = (upd (upd (upd (upd (upd (upd (upd (upd (upd o 0 v) 1 (.int .u64 uz)) 3 (.bool false)) 4 (.bool true)) 10 (.slice none 0 0)) 11 (.string (⟨#[]⟩ : ByteArray))) 12 (.pointer (some ⟨a, 0, none⟩))) 13 (vJ iz)) 17 (.int .u64 36)) ∧ k = uz.toNat ∧ Ext (inO v.ownBlock) G w G W ∧ (L.length = 65) ∧ (0 ≤ uz ∧ uz ≤ 9223372036854775807) ∧ (iz ≤ 65) ∧ (dig36 i.toNat = dig36 uz.toNat ++ L.drop iz.toNat) ∧ (Own eByte 5 G W 0 v (xs)) ∧ (Bx G W a (arrV (L)))) _ ⟨_, i, 65, List.replicate 65 0, (pS 17 (pS 13 (pS 12 (pS 11 (pS 10 (pS 4 (pS 3 (pS 1 (pU 0))))))))), rfl, m, List.length_replicate, hi, (Int.le_refl _), (by simp), ab, y⟩ ?_
 rintro a1 _ a2 ⟨o, uz, iz, L, rfl, a3, b, hL, hu, hiz, hd, q, r⟩
 have hpl := dig_place hd hL (by omega)
 refine zB (zB (zC ?_))
 refine qM (.int .u64 uz) ?_
 refine qM (.int .u64 36) ?_
 refine qD rfl (r_geq rfl rfl) ?_
 refine qe (zA ?_)
 refine yI (p := (36 : Int) ≤ uz) rfl rfl (fun ac => ?_) (fun ac => ?_)
 ·skip
  refine wp_skip ?_
  refine zA ?_
  refine zX ?_
  refine zB (zC ?_)
  refine qM (vJ iz) ?_
  refine qD rfl (qU rfl rfl (by omega)) ?_
  refine qM (vJ (iz - 1)) ?_
  refine qe (zA (zB (zC ?_)))
  refine qM (.int .u64 uz) ?_
  refine qM (.int .u64 36) ?_
  refine qD rfl (r_quoX rfl rfl (by omega) (by omega) (by omega)) ?_
  refine qM (.int .u64 (uz / 36)) ?_
  refine qe (zA (zB (zC ?_)))
  refine qM (vJ (iz - 1)) ?_
  refine qM (.int .u64 uz) ?_
  refine qM (.int .u64 (uz / 36)) ?_
  refine qM (.int .u64 36) ?_
  refine qD rfl (r_mulX rfl rfl (by omega)) ?_
  refine qD rfl (r_subX rfl rfl (by omega)) ?_
  refine qD rfl (r_digit Tryz.underlying9 rfl rfl (by omega)) ?_
  refine qD rfl (r_idxb (k := (iz - 1).toNat) Tryz.underlying212 sz5 rfl rfl (by omega) (by omega) (by omega)) ?_
  refine q0 rfl rfl rfl (o_stpk (k := (iz - 1).toNat) (x0 := digC (uz - ((uz / 36) * 36)).toNat) sz5 rfl rfl (by first | omega | (simp only [List.length_set]; omega)) b.pins r (fun a4 ad ae s a5 => ?_))
  have af := b.write ae s ((zV g))
  have ag := q.keptA s f.symm
  refine qe (zA (zC ?_))
  refine qM (.int .u64 (uz / 36)) ?_
  refine qM (.int .u64 (uz / 36)) ?_
  refine qe ?_
  refine yJ ?_
  refine yK ?_
  refine ⟨_, ?_, _, rfl, _, uz / 36, iz - 1, L.set (iz - 1).toNat (digC (uz - ((uz / 36) * 36)).toNat), (pS 17 (pS 13 (pS 12 (pS 11 (pS 10 (pS 4 (pS 3 (pS 1 (pU 0))))))))), rfl, af, (by rw [List.length_set]; exact hL), (by omega), (by omega), (dig_step hd hL (by omega) (by omega)), ag, ad⟩
  omega
 refine wp_exit ?_
 refine yA ?_
 refine yN ?_
 refine yL ?_
 refine zA (zB (zC ?_))
 refine qM (vJ iz) ?_
 refine qD rfl (qU rfl rfl (by omega)) ?_
 refine qM (vJ (iz - 1)) ?_
 refine qe (zA (zC ?_))
 refine qM (vJ (iz - 1)) ?_
 refine qM (.int .u64 uz) ?_
 refine qD rfl (r_digit Tryz.underlying9 rfl rfl (by omega)) ?_
 refine qD rfl (r_idxb (k := (iz - 1).toNat) Tryz.underlying212 sz5 rfl rfl (by omega) (by omega) (by omega)) ?_
 refine q0 rfl rfl rfl (o_stpk (k := (iz - 1).toNat) (x0 := digC (uz).toNat) sz5 rfl rfl (by first | omega | (simp only [List.length_set]; omega)) b.pins r (fun a6 ah ai t a7 => ?_))
 have aj := b.write ai t ((zV g))
 have ak := q.keptA t f.symm
 refine qe (zA (zB (zB (zC ?_))))
 refine qM (.bool false) ?_
 refine qe (zA ?_)
 refine c_ifF rfl rfl ?_
 refine wp_skip ?_
 refine zA (zB (zB (zC ?_)))
 refine qM (.bool true) ?_
 refine qe (zA ?_)
 refine c_ifT rfl rfl ?_
 refine zB (zC ?_)
 refine qM v ?_
 refine qM (vJ (iz - 1)) ?_
 obtain ⟨a8, al, c, am, an⟩ := ah.shut aj g
 have ao := ak.moreA al an f.symm
 obtain ⟨ap, aq, ar⟩ := name_arr (z := iz - 1) (n := 65) am (by rw [List.length_set]; exact hL) (by omega) (by decide)
 refine qD rfl (ar Tryz.underlying212 sz5 rfl rfl) ?_
 refine qI rfl (oA (E := eByte) (v := v) (u := ap) 1 Tryz.underlying22 ap5 (by decide) rfl rfl c.pins ao ((aq.mono (Pin.le_refl _)).src c.pins (by decide)) (Nat.zero_le _) (fun h a9 au av aw ax => ?_))
 have ay := c.write av aw (hlov)
 have az : Lo w (inO v.ownBlock) h.ownBlock := lo_app hlov ax c.size
 have ba : (xs ++ ((L.set (iz - 1).toNat (digC (uz).toNat)).drop (iz - 1).toNat)).length = xs.length + ((L.set (iz - 1).toNat (digC (uz).toNat)).drop (iz - 1).toNat).length := List.length_append
 refine qM h ?_
 refine qe (zA ?_)
 refine wp_ret ?_
 refine zR ?_
 refine c_ret2 (v := h) (u := (.string (⟨#[]⟩ : ByteArray))) rfl rfl rfl rfl rfl ?_
 have hown := au
 rw [dig_last hd hL (by omega) (by omega)] at hown
 exact ⟨_, _, rfl, hown, az, ay⟩

theorem appendUint_spec {w : World} {G : Pin} {v : Value} {xs : List UInt8} {i : Int} (hP : Pins G w) (hv : Own eByte 5 G w 0 v xs) (hxl : xs.length ≤ 1099511627776) (hi : 0 ≤ i ∧ i ≤ 9223372036854775807) :
  Calls Tryz.prog 187 [v, (.int .u64 i), (.int .i64 36)].toArray w fun e w' => ∃ (u : Value) (G' : Pin), e = .returned u ∧ Own eByte 5 G' w' 0 u (xs ++ dig36 i.toNat) ∧ Lo w (inO v.ownBlock) u.ownBlock ∧ Ext (inO v.ownBlock) G w G' w' := by
 refine yD (n := 36) Tryz.func187 Tryz.ntmps187 rfl rfl ?_
 have b : Ext (inO v.ownBlock) G w G w := Ext.refl hP
 have hlov : Lo w (inO v.ownBlock) v.ownBlock := xM
 refine zB (zC ?_)
 refine qM (.slice none 0 0) ?_
 refine qe (zA (zB (zB (zC ?_))))
 refine qM (.int .i64 36) ?_
 refine qD rfl (r_eql rfl rfl) ?_
 refine qe (zA ?_)
 refine c_ifF rfl rfl ?_
 refine wp_skip ?_
 refine zA (zB (zC ?_))
 refine qM v ?_
 refine qM (.int .u64 i) ?_
 refine qM (.int .i64 36) ?_
 refine qI rfl (zM (vs := [v, (.int .u64 i), (.int .i64 36), (.bool false), (.bool true)]) Tryz.func208 nm208 rfl rfl rfl ?_)
 refine Calls.mono (formatBits_spec (i := i) b.pins hv (by omega) (by omega)) ?_
 rintro _ j ⟨a, k, rfl, c, d, f⟩
 refine ⟨_, rfl, ?_⟩
 have g := b.trans f (fun i hi => hlov i hi)
 have h := lo_turn d hlov b.size
 have l : (xs ++ dig36 (i).toNat).length = xs.length + (dig36 (i).toNat).length := List.length_append
 refine qM (.tuple #[a, (.string (⟨#[]⟩ : ByteArray))]) ?_
 refine qD rfl (yW (v := a) rfl rfl) ?_
 refine qD rfl (yW (v := (.string (⟨#[]⟩ : ByteArray))) rfl rfl) ?_
 refine qM a ?_
 refine qe (zA (zB (zC ?_)))
 refine qM a ?_
 refine qM a ?_
 refine qe (zA ?_)
 refine wp_ret ?_
 refine zR ?_
 refine zQ (v := a) rfl rfl rfl ?_
 exact ⟨_, _, rfl, c, h, g⟩

theorem iAppendInt_spec {w : World} {G : Pin} {v : Value} {xs : List UInt8} {i : Int} (hP : Pins G w) (hv : Own eByte 5 G w 0 v xs) (hxl : xs.length ≤ 1099511627776) (hi : 0 ≤ i ∧ i ≤ 9223372036854775807) :
  Calls Tryz.prog 163 [v, (.int .i64 i), (.int .i64 36)].toArray w fun e w' => ∃ (u : Value) (G' : Pin), e = .returned u ∧ Own eByte 5 G' w' 0 u (xs ++ dig36 i.toNat) ∧ Lo w (inO v.ownBlock) u.ownBlock ∧ Ext (inO v.ownBlock) G w G' w' := by
 refine yD (n := 21) Tryz.func163 Tryz.ntmps163 rfl rfl ?_
 have a : Ext (inO v.ownBlock) G w G w := Ext.refl hP
 have hlov : Lo w (inO v.ownBlock) v.ownBlock := xM
 refine zB (zC ?_)
 refine qM (.slice none 0 0) ?_
 refine qe (zA (zB (zC ?_)))
 refine qM (.int .i64 i) ?_
 refine qD rfl (r_conv (j := i) Tryz.underlying2 Tryz.underlying61 rfl (wrapU (by omega))) ?_
 refine qM (.int .u64 i) ?_
 refine qe (zA (zB (zB (zC ?_))))
 refine qM (.int .i64 i) ?_
 refine qD rfl (yV rfl rfl) ?_
 refine qe (zA ?_)
 refine yI (p := (i : Int) < 0) rfl rfl (fun c => ?_) (fun c => ?_)
 ·skip
  exfalso; omega
 refine wp_skip ?_
 refine zA (zB (zC ?_))
 refine qM v ?_
 refine qM (.int .u64 i) ?_
 refine qM (.int .i64 36) ?_
 refine qI rfl (zM (vs := [v, (.int .u64 i), (.int .i64 36)]) Tryz.func187 nm187 rfl rfl rfl ?_)
 refine Calls.mono (appendUint_spec (i := i) a.pins hv (by omega) (by omega)) ?_
 rintro _ l ⟨b, m, rfl, d, f, g⟩
 refine ⟨_, rfl, ?_⟩
 have h := a.trans g (fun i hi => hlov i hi)
 have k := lo_turn f hlov a.size
 have o : (xs ++ dig36 (i).toNat).length = xs.length + (dig36 (i).toNat).length := List.length_append
 refine qM b ?_
 refine qe (zA ?_)
 refine wp_ret ?_
 refine zR ?_
 refine zQ (v := b) rfl rfl rfl ?_
 exact ⟨_, _, rfl, d, k, h⟩

theorem appendInt_spec {w : World} {G : Pin} {v : Value} {xs : List UInt8} {i : Int} (hP : Pins G w) (hv : Own eByte 5 G w 0 v xs) (hxl : xs.length ≤ 1099511627776) (hi : 0 ≤ i ∧ i ≤ 9223372036854775807) :
  Calls Tryz.prog 139 [v, (.int .i64 i), (.int .i64 36)].toArray w fun e w' => ∃ (u : Value) (G' : Pin), e = .returned u ∧ Own eByte 5 G' w' 0 u (xs ++ dig36 i.toNat) ∧ Lo w (inO v.ownBlock) u.ownBlock ∧ Ext (inO v.ownBlock) G w G' w' := by
 refine yD (n := 11) Tryz.func139 Tryz.ntmps139 rfl rfl ?_
 have a : Ext (inO v.ownBlock) G w G w := Ext.refl hP
 have hlov : Lo w (inO v.ownBlock) v.ownBlock := xM
 refine zB (zC ?_)
 refine qM (.slice none 0 0) ?_
 refine qe (zA (zB (zC ?_)))
 refine qM v ?_
 refine qM (.int .i64 i) ?_
 refine qM (.int .i64 36) ?_
 refine qI rfl (zM (vs := [v, (.int .i64 i), (.int .i64 36)]) Tryz.func163 nm163 rfl rfl rfl ?_)
 refine Calls.mono (iAppendInt_spec (i := i) a.pins hv (by omega) (by omega)) ?_
 rintro _ j ⟨b, k, rfl, c, d, f⟩
 refine ⟨_, rfl, ?_⟩
 have g := a.trans f (fun i hi => hlov i hi)
 have h := lo_turn d hlov a.size
 have l : (xs ++ dig36 (i).toNat).length = xs.length + (dig36 (i).toNat).length := List.length_append
 refine qM b ?_
 refine qe (zA ?_)
 refine wp_ret ?_
 refine zR ?_
 refine zQ (v := b) rfl rfl rfl ?_
 exact ⟨_, _, rfl, c, h, g⟩

end K1
end Go.Proofs.YtkfgdhanaijddaaGreatDoor

set_option maxRecDepth 20000
set_option maxHeartbeats 2000000
namespace Go.Proofs.YtkfgdhanaijddaaGreatDoor
namespace PO1
open Go.RowKit Go.GL Go.Proofs
open Go.Proofs.YtkfgdhanaijddaaGreatDoor.B1
open Go.Proofs.YtkfgdhanaijddaaGreatDoor.K1







theorem mk5 : (Tryz.prog.info? 5).map (fun i => (i.size, i.bytes, i.zero)) = some (1, 1, some (.int .u8 0)) := by kernel_rfl















theorem clone_spec {w : World} {G : Pin} {v : Value} {xs : List Int} (hP : Pins G w) (hv : RSl eInt G v xs) (hs : xs.length ≤ 1048576) :
  Calls Tryz.prog 161 [v].toArray w fun e w' => ∃ (u : Value) (G' : Pin), e = .returned u ∧ Own eInt 3 G' w' w.heap.size u xs ∧ Ext noS G w G' w' := by
 refine yD (n := 8) Tryz.func161 Tryz.ntmps161 rfl rfl ?_
 have a : Ext noS G w G w := Ext.refl hP
 refine zB (zC ?_)
 refine qM (.slice none 0 0) ?_
 refine qe (zA (zB (zB (zC ?_))))
 refine qM v ?_
 refine qD rfl (r_eqlNil Tryz.underlying57 hv rfl rfl) ?_
 refine qe (zA ?_)
 refine c_if rfl rfl (fun c => ?_) (fun c => ?_)
 ·skip
  refine zB (zC ?_)
  refine qM (.slice none 0 0) ?_
  refine qe (zA ?_)
  refine wp_ret ?_
  refine zR ?_
  refine zQ (v := (.slice none 0 0)) rfl rfl rfl ?_
  have h := nil_of hv c
  subst h
  exact ⟨_, _, rfl, Own.nil _ _ _ _ _, a⟩
 refine wp_skip ?_
 refine zA (zB (zC ?_))
 refine qI rfl (yZ (E := eInt) (e := 3) Tryz.underlying57 sz3 a.pins (fun d i j k l r => ?_))
 have b := a.step k l
 have f : Own eInt 3 G i w.heap.size d ([]) := j.weaken a.size
 refine qM v ?_
 refine qI rfl (oA (E := eInt) (v := d) (u := v) 8 Tryz.underlying57 ap3 (by decide) rfl rfl b.pins f ((hv.mono (Pin.le_refl _)).src b.pins (by decide)) (b.size) (fun g s m o p t => ?_))
 have q := b.write o p ((yB f))
 have x : (([]) ++ xs).length = ([]).length + xs.length := List.length_append
 refine qM g ?_
 refine qe (zA ?_)
 refine wp_ret ?_
 refine zR ?_
 refine zQ (v := g) rfl rfl rfl ?_
 exact ⟨_, _, rfl, m, q⟩

theorem sortI_spec {w : World} {G : Pin} {e base : Nat} {v : Value} {xs : List Int} (hP : Pins G w) (hv : Own eInt e G w base v xs) (hl : xs.length ≤ 1073741824) :
  Calls Tryz.prog 150 [v].toArray w fun en w' => ∃ G', en = .returned (.tuple #[]) ∧ Own eInt e G' w' base v (sortM xs) ∧ Ext (inO v.ownBlock) G w G' w' := by
 rcases own_cases hv with ⟨rfl, rfl⟩ | ⟨g, cap, rfl⟩
 ·refine (Tryz.slices_Sort_int_none none 0 w).mono ?_
  rintro en w' ⟨rfl, rfl⟩
  exact ⟨G, rfl, by simpa [sortM] using hv, Ext.refl hP⟩
 ·obtain ⟨_, h1, h2, h3⟩ := own_holds hv
  refine (Tryz.slices_Sort_int g 0 cap xs w h3 h1 (by omega)).mono ?_
  rintro en w' ⟨rfl, m, os, hw⟩
  obtain ⟨a, b, c⟩ := own_put (ys := sortM xs) hv hP hw (sortM_length xs) (List.take_length ..)
  rw [sortM_length] at a
  exact ⟨G, rfl, a, Ext.one b c⟩
theorem compactI_spec {w : World} {G : Pin} {e base : Nat} {v : Value} {xs : List Int} (hP : Pins G w) (hv : Own eInt e G w base v xs) (hl : xs.length ≤ 1073741824) :
  Calls Tryz.prog 162 [v].toArray w fun en w' => ∃ (u : Value) (G' : Pin), en = .returned u ∧ Own eInt e G' w' base u (Go.Lib.compact xs) ∧ Lo w (inO v.ownBlock) u.ownBlock ∧ Ext (inO v.ownBlock) G w G' w' := by
 rcases own_cases hv with ⟨rfl, rfl⟩ | ⟨g, cap, rfl⟩
 ·refine (Tryz.slices_Compact_int_empty none 0 w).mono ?_
  rintro en w' ⟨rfl, rfl⟩
  exact ⟨_, G, rfl, hv, xM, Ext.refl hP⟩
 ·obtain ⟨_, h1, h2, h3⟩ := own_holds hv
  refine (Tryz.slices_Compact_int g 0 cap xs w h3 (by omega) h2).mono ?_
  rintro en w' ⟨rfl, m, hw⟩
  have hcl := compact_len xs
  obtain ⟨a, b, c⟩ := own_put (os := #[]) (ys := Go.Lib.compact xs) hv hP (hw.trans (Go.Sort.grow_empty _).symm) (by simp; omega) (List.take_left ..)
  exact ⟨_, G, rfl, a, xM, Ext.one b c⟩

theorem distinct_spec {w : World} {G : Pin} {v : Value} {xs : List Int} (hP : Pins G w) (hv : RSl eInt G v xs) (hs : xs.length ≤ 1048576) :
  Calls Tryz.prog 138 [v].toArray w fun e w' => ∃ (u : Value) (G' : Pin), e = .returned u ∧ Own eInt 3 G' w' w.heap.size u (sortL xs) ∧ Ext noS G w G' w' := by
 refine yD (n := 10) Tryz.func138 Tryz.ntmps138 rfl rfl ?_
 have b : Ext noS G w G w := Ext.refl hP
 refine zB (zC ?_)
 refine qM (.slice none 0 0) ?_
 refine qe (zA (zB (zC ?_)))
 refine qM v ?_
 refine qI rfl (zM (vs := [v]) Tryz.func161 nm161 rfl rfl rfl ?_)
 refine Calls.mono (clone_spec b.pins hv (by omega)) ?_
 rintro _ l ⟨a, m, rfl, o, p⟩
 refine ⟨_, rfl, ?_⟩
 have f := b.tr p
 have g : Own eInt 3 m l w.heap.size a xs := o.weaken b.size
 refine qM a ?_
 refine qe (zA (zB (zC ?_)))
 refine qM a ?_
 refine qI rfl (zM (vs := [a]) Tryz.func150 nm150 rfl rfl rfl ?_)
 refine Calls.mono (sortI_spec f.pins g (by omega)) ?_
 rintro _ z ⟨G8, rfl, c, q⟩
 refine ⟨_, rfl, ?_⟩
 have d := f.trans q (fun i hi => (yB g) i hi)
 have ab := sortM_length xs
 refine qe (zA (zB (zC ?_)))
 refine qM a ?_
 refine qI rfl (zM (vs := [a]) Tryz.func162 nm162 rfl rfl rfl ?_)
 refine Calls.mono (compactI_spec d.pins (c.weaken (Nat.zero_le _)) (by omega)) ?_
 rintro _ ac ⟨j, ad, rfl, r, s, t⟩
 refine ⟨_, rfl, ?_⟩
 have x := d.trans t (fun i hi => (yB c) i hi)
 have y := r.up (lo := w.heap.size) (fun k hk => (s k hk).elim (fun h => Nat.le_trans d.size h) (fun h => (c.lt k h).1))
 refine qM j ?_
 refine qe (zA ?_)
 refine wp_ret ?_
 refine zR ?_
 refine zQ (v := j) rfl rfl rfl ?_
 exact ⟨_, _, rfl, (by rw [← distinct_eq]; simpa using y), x⟩

theorem node_spec {w : World} {G : Pin} {p : Nat} {L R B : Value} {mm : PM} {q : PSt} (hP : Pins G w) (hpk : Pk 57 3 G w p L R B mm q) (hok : PoolOk q) {x y : Value} {xs ys : List Int} (hx : RSl eInt G x xs) (hy : RSl eInt G y ys) (hlim : q.ns.length + 1 ≤ 1048576) (hls : xs.length ≤ 1048576 ∧ ys.length ≤ 1048576) (hk1 : ∀ i, i < xs.length → 0 ≤ xs.getD i 0 ∧ xs.getD i 0 < q.ns.length) (hk2 : ∀ i, i < ys.length → 0 ≤ ys.getD i 0 ∧ ys.getD i 0 < q.ns.length) :
  Calls Tryz.prog 102 [(.pointer (some ⟨p, 0, none⟩)), x, y].toArray w fun e w' => ∃ (z : Int) (L' R' B' : Value) (q' : PSt) (G' : Pin), e = .returned (vJ z) ∧ Pk 57 3 G' w' p L' R' B' mm q' ∧ PoolOk q' ∧ PX q q' ∧ PLo w p L R B mm L' R' B' ∧ Ext (inP p L R B mm) G w G' w' ∧ PlaceOk q' z ∧ pd q' z = mkG (xs.map (pd q)) (ys.map (pd q)) ∧ q'.ns.length ≤ q.ns.length + 1 ∧ (q'.cm = q.cm ∧ (q'.ns.length = q.ns.length ∨ z = q.ns.length)) := by
 refine yD (n := 130) Tryz.func102 Tryz.ntmps102 rfl rfl ?_
 have cf : Ext (inP p L R B mm) G w G w := Ext.refl hP
 have hpin : PIn w (inP p L R B mm) p L R B mm := PIn.self
 have lf : (q.ns.map Nd.l).length = q.ns.length ∧ (q.ns.map Nd.r).length = q.ns.length := ⟨List.length_map .., List.length_map ..⟩
 have lg : q.bs.length = q.ns.length ∧ q.ns.length ≤ 1048576 := ⟨hok.ar.ok.len, hok.ar.ok.lim⟩
 obtain ⟨d, aq⟩ : ∃ l, l = sortL xs := ⟨_, rfl⟩
 obtain ⟨g, au⟩ : ∃ l, l = sortL ys := ⟨_, rfl⟩
 have bo := sort_bounds hk1
 have cg := sort_bounds hk2
 rw [← aq] at bo
 rw [← au] at cg
 have lh : d.length ≤ 1048576 := by rw [aq]; exact Nat.le_trans qY hls.1
 have li : g.length ≤ 1048576 := by rw [au]; exact Nat.le_trans qY hls.2
 refine zB (zC ?_)
 refine qM (vJ 0) ?_
 refine qe (zA (zB (zC ?_)))
 refine qM x ?_
 refine qI rfl (zM (vs := [x]) Tryz.func138 nm138 rfl rfl rfl ?_)
 refine Calls.mono (distinct_spec cf.pins hx (by omega)) ?_
 rintro _ w5 ⟨u3, G4, rfl, ch, ci⟩
 refine ⟨_, rfl, ?_⟩
 rw [← aq] at ch
 have cj := cf.tr ci
 have dk := hpk.ext ci
 have bp := hpk.new (x := u3.ownBlock) (fun k hk => (ch.lt k hk).1)
 have dl : Own eInt 3 G4 w5 w.heap.size u3 d := ch.weaken cf.size
 refine qM y ?_
 refine qI rfl (zM (vs := [y]) Tryz.func138 nm138 rfl rfl rfl ?_)
 refine Calls.mono (distinct_spec cj.pins (hy.mono ci.le) (by omega)) ?_
 rintro _ gt ⟨t, bq, rfl, br, ck⟩
 refine ⟨_, rfl, ?_⟩
 rw [← au] at br
 have cl := cj.tr ck
 have cn := dl.ext ck
 have dm := dk.ext ck
 have gu := zS br.lt dl.lt
 have a2 := dk.new (x := t.ownBlock) (fun k hk => (br.lt k hk).1)
 have co : Own eInt 3 bq gt w.heap.size t g := br.weaken cj.size
 refine qM u3 ?_
 refine qM t ?_
 refine qe (zA (zB (zC ?_)))
 refine qM u3 ?_
 refine qD rfl (zN Tryz.underlying57 (v := u3) rfl cn.read) ?_
 refine qM t ?_
 refine qD rfl (zN Tryz.underlying57 (v := t) rfl co.read) ?_
 refine qD rfl (yR rfl rfl (by omega)) ?_
 refine qD rfl (r_mul rfl rfl (by omega)) ?_
 refine qD rfl (yR rfl rfl (by omega)) ?_
 refine qI rfl (o_make0 (E := eByte) Tryz.underlying22 mk5 rfl rfl cl.pins (by omega) (by omega) (by omega) (fun a3 gv gw dn bt cp => ?_))
 have gx := cl.step dn bt
 have dp := cn.below bt
 have gy := co.below bt
 have gz := dm.below bt dn
 have g0 : Apart a3.ownBlock u3.ownBlock := zI cp cn.lt
 have g1 : Apart a3.ownBlock t.ownBlock := zI cp co.lt
 have g2 := dm.new (x := a3.ownBlock) (fun k hk => by rw [cp] at hk; cases hk; exact Nat.le_refl _)
 have g3 : Own eByte 5 bq gv w.heap.size a3 ([]) := gw.weaken cl.size
 refine qM a3 ?_
 refine qe (zA (zB (zC ?_)))
 refine qM (vJ 0) ?_
 refine qe (zA (zB (zB (zC ?_))))
 refine qM u3 ?_
 refine qD rfl (zN Tryz.underlying57 (v := u3) rfl dp.read) ?_
 refine qM (vJ 0) ?_
 refine qe (zA ?_)
 refine zX ?_
 refine yQ (fun (k : Nat) (en : Nat → Value) (W : World) => ∃ (ba : Nat → Value) (i : Nat) (kva : Value) (kxa : List UInt8) (bn : Int) (GLa : Pin), en = (upd (upd (upd (upd (upd (upd (upd (upd (upd ba 0 (.pointer (some ⟨p, 0, none⟩))) 1 u3) 2 t) 6 (vJ 0)) 7 kva) 8 (vJ bn)) 28 u3) 29 (vJ (d.length : Int))) 30 (vJ (i : Int))) ∧ k = d.length - i ∧ Ext (inP p L R B mm) G w GLa W ∧ Pin.le bq GLa ∧ (i ≤ d.length) ∧ (kxa = keyL (d.take i)) ∧ (bn = bornOf q.bs (d.take i) 0) ∧ (0 ≤ bn ∧ bn ≤ q.ns.length) ∧ (Own eByte 5 GLa W w.heap.size kva (kxa)) ∧ (Own eInt 3 GLa W w.heap.size u3 (d)) ∧ (Own eInt 3 GLa W w.heap.size t (g)) ∧ (Apart kva.ownBlock u3.ownBlock) ∧ (Apart kva.ownBlock t.ownBlock) ∧ (Pk 57 3 GLa W p L R B mm q) ∧ (NP p L R B mm kva.ownBlock)) _ ⟨_, 0, a3, [], 0, bq, (pS 30 (pS 29 (pS 28 (pS 8 (pS 7 (pS 6 (pS 2 (pS 1 (pU 0))))))))), rfl, gx, Pin.le_refl _, Nat.zero_le _, (by simp [keyL]), rfl, (by omega), g3, dp, gy, g0, g1, gz, g2⟩ ?_
 rintro lj _ lk ⟨ba, i, kva, kxa, bn, GLa, rfl, lm, ax, g4, hji, hka, hbbn, hlbn, bu, bb, cq, bv, bw, cr, bz⟩
 have hkla : kxa.length ≤ 117440640 := by
  have := key_bound (j := i) bo hok.ar.ok.lim
  rw [hka]; omega
 refine zB (zC ?_)
 refine qD rfl (yV rfl rfl) ?_
 refine qe (zA (zB ?_))
 refine yI (p := ((i : Int) : Int) < (d.length : Int)) rfl rfl (fun g5 => ?_) (fun g5 => ?_)
 ·skip
  have hki := bo i (by omega)
  have hbk := hok.ar.ok.born (d.getD i 0).toNat (by omega)
  have g6 := dig13 (n := (d.getD i 0).toNat) (by omega)
  refine wp_skip ?_
  refine zA (zB ?_)
  refine zX ?_
  refine zB (zC ?_)
  refine qD rfl (zJ Tryz.underlying57 sz3 (v := u3) rfl rfl bb.read (by omega) (by omega)) ?_
  refine qD rfl (zK (r := d.getD i 0) rfl ag3 (z := (i : Int)) rfl bb.read (Gadd.pins ax.pins u3) (by omega) (by omega)) ?_
  refine qM (vJ (d.getD i 0)) ?_
  refine qe (zA (zB (zC ?_)))
  refine qM kva ?_
  refine qM (vJ (d.getD i 0)) ?_
  refine qI rfl (zM (vs := [kva, (vJ (d.getD i 0)), (vJ 36)]) Tryz.func139 nm139 rfl rfl rfl ?_)
  refine Calls.mono (appendInt_spec (i := d.getD i 0) ax.pins (bu.weaken (Nat.zero_le _)) (by omega) (by omega)) ?_
  rintro _ ln ⟨cs, dq, rfl, g7, b0, bc⟩
  refine ⟨_, rfl, ?_⟩
  have dr := np_turn bz cr b0
  have ct := ax.trans bc (fun i hi => (yB bu) i hi)
  have g8 := bb.extS bc (notO bv.symm)
  have g9 := cq.extS bc (notO bw.symm)
  have ha := cr.extS bc (fun k hk hx => bz k hx hk)
  have ds : Apart u3.ownBlock cs.ownBlock := ap_turn b0 bv.symm (xV bb)
  have dt : Apart t.ownBlock cs.ownBlock := ap_turn b0 bw.symm (xV cq)
  have hc := g7.up (lo := w.heap.size) (fun k hk => (b0 k hk).elim (fun h => Nat.le_trans ax.size h) (fun h => (bu.lt k h).1))
  have lq : (kxa ++ dig36 (d.getD i 0).toNat).length = kxa.length + (dig36 (d.getD i 0).toNat).length := List.length_append
  refine qI rfl (yU (E := eByte) (e := 5) [(.int .u8 44)] [44] Tryz.underlying22 sz5 zr5 (by exact xQ (by rfl)) (yC (by rfl)) rfl rfl rfl rfl (by decide) ct.pins (fun du hd he dv bd ls => ?_))
  have cu := ct.step dv bd
  have dw := g8.below bd
  have dx := g9.below bd
  have dy := hc.below bd
  have dz := ha.below bd dv
  have hf : Own eByte 5 dq hd w.heap.size du ([44]) := he.weaken ct.size
  refine qI rfl (oA (E := eByte) (v := cs) (u := du) 1 Tryz.underlying22 ap5 (by decide) rfl rfl cu.pins dy hf.src (cu.size) (fun b1 lu hg d0 b2 cv => ?_))
  have d1 := cu.write d0 b2 ((yB dy))
  have hh := dw.keptA b2 ds
  have hj := dx.keptA b2 dt
  have b3 := dz.kept b2 d0 dr
  have hm : Apart u3.ownBlock b1.ownBlock := zG ds cv dw.lt
  have hn : Apart t.ownBlock b1.ownBlock := zG dt cv dx.lt
  have ho := np_app dr dz cv
  have lv : ((kxa ++ dig36 (d.getD i 0).toNat) ++ ([44])).length = (kxa ++ dig36 (d.getD i 0).toNat).length + 1 := List.length_append
  refine qM b1 ?_
  refine qe (zA (zC ?_))
  refine qM (vJ bn) ?_
  refine qM (.pointer (some ⟨p, 0, none⟩)) ?_
  refine qD rfl (xB rfl) ?_
  refine qD rfl (zO (k := 2) rfl Tryz.underlying117 rfl nz57 rfl) ?_
  refine qD rfl (zP (u := B) ag57 rfl (b3.bx.cell (o := 2) rfl)) ?_
  refine qM (vJ (d.getD i 0)) ?_
  refine qD rfl (zJ Tryz.underlying57 sz3 (v := B) rfl rfl b3.ob.read (by omega) (by omega)) ?_
  refine qD rfl (zK (r := q.bs.getD (d.getD i 0).toNat 0) rfl ag3 (z := (d.getD i 0)) rfl b3.ob.read (Gadd.pins d1.pins B) (by omega) (by omega)) ?_
  refine qD rfl (yR rfl rfl (by omega)) ?_
  refine qD rfl (r_max rfl rfl) ?_
  refine qM (vJ (max bn ((q.bs.getD (d.getD i 0).toNat 0) + 1))) ?_
  refine qe ?_
  refine yJ ?_
  refine zA (zC ?_)
  refine qD rfl (yR rfl rfl (by omega)) ?_
  refine qM (vJ ((i : Int) + 1)) ?_
  refine qe ?_
  refine yK ?_
  refine ⟨_, ?_, _, rfl, _, i + 1, b1, (kxa ++ dig36 (d.getD i 0).toNat) ++ ([44]), max bn ((q.bs.getD (d.getD i 0).toNat 0) + 1), dq, (pS 30 (pS 29 (pS 28 (pS 8 (pS 7 (pS 6 (pS 2 (pS 1 (pU 0))))))))), rfl, d1, (Pin.le_trans g4 bc.le), (by omega), (by rw [key_next (by omega), hka]), (by rw [hbbn, born_next (by omega)]), (by omega), hg, hh, hj, hm.symm, hn.symm, b3, ho⟩
  omega
 refine wp_exit ?_
 refine yA ?_
 refine yN ?_
 refine yL ?_
 refine zA (zB (zC ?_))
 refine qM kva ?_
 refine qI rfl (yU (E := eByte) (e := 5) [(.int .u8 124)] [124] Tryz.underlying22 sz5 zr5 (by exact xQ (by rfl)) (yC (by rfl)) rfl rfl rfl rfl (by decide) ax.pins (fun d2 hq hs d3 be lw => ?_))
 have cw := ax.step d3 be
 have d4 := bu.below be
 have d5 := bb.below be
 have d6 := cq.below be
 have d7 := cr.below be d3
 have ht : Own eByte 5 GLa hq w.heap.size d2 ([124]) := hs.weaken ax.size
 refine qI rfl (oA (E := eByte) (v := kva) (u := d2) 1 Tryz.underlying22 ap5 (by decide) rfl rfl cw.pins d4 ht.src (cw.size) (fun b4 lx hu d8 b5 cx => ?_))
 have hv := cw.write d8 b5 ((yB d4))
 have hw := d5.keptA b5 bv.symm
 have d9 := d6.keptA b5 bw.symm
 have h0 := d7.kept b5 d8 bz
 have h1 : Apart u3.ownBlock b4.ownBlock := zG bv.symm cx d5.lt
 have h3 : Apart t.ownBlock b4.ownBlock := zG bw.symm cx d6.lt
 have h4 := np_app bz d7 cx
 have ly : (kxa ++ ([124])).length = kxa.length + 1 := List.length_append
 refine qM b4 ?_
 refine qe (zA (zB (zB (zC ?_))))
 rw [qF (by omega)] at hka hbbn
 have hkk : keyL d ++ [124] = kxa ++ [124] := by rw [hka]
 refine qM t ?_
 refine qD rfl (zN Tryz.underlying57 (v := t) rfl d9.read) ?_
 refine qM (vJ 0) ?_
 refine qe (zA ?_)
 refine zX ?_
 refine yQ (fun (k : Nat) (en : Nat → Value) (W : World) => ∃ (ba : Nat → Value) (m : Nat) (kvb : Value) (kxb : List UInt8) (bm : Int) (GLb : Pin), en = (upd (upd (upd (upd (upd (upd (upd (upd (upd ba 0 (.pointer (some ⟨p, 0, none⟩))) 1 u3) 2 t) 6 (vJ 0)) 7 kvb) 8 (vJ bm)) 53 t) 54 (vJ (g.length : Int))) 55 (vJ (m : Int))) ∧ k = g.length - m ∧ Ext (inP p L R B mm) G w GLb W ∧ Pin.le GLa GLb ∧ (m ≤ g.length) ∧ (kxb = keyL d ++ [124] ++ keyL (g.take m)) ∧ (bm = bornOf q.bs (g.take m) bn) ∧ (0 ≤ bm ∧ bm ≤ q.ns.length) ∧ (Own eByte 5 GLb W w.heap.size kvb (kxb)) ∧ (Own eInt 3 GLb W w.heap.size u3 (d)) ∧ (Own eInt 3 GLb W w.heap.size t (g)) ∧ (Apart kvb.ownBlock u3.ownBlock) ∧ (Apart kvb.ownBlock t.ownBlock) ∧ (Pk 57 3 GLb W p L R B mm q) ∧ (NP p L R B mm kvb.ownBlock)) _ ⟨_, 0, b4, kxa ++ ([124]), bn, GLa, (pS 55 (pS 54 (pS 53 (pS 8 (pS 7 (pS 6 (pS 2 (pS 1 (pU 0))))))))), rfl, hv, Pin.le_refl _, Nat.zero_le _, (by rw [← hkk]; simp [keyL]), rfl, (by omega), hu, hw, d9, h1.symm, h3.symm, h0, h4⟩ ?_
 rintro lz _ av ⟨ba, m, kvb, kxb, bm, GLb, rfl, l0, ay, h5, l1, hkb, hbbm, hlbm, bf, cy, bg, ea, eb, cz, ec⟩
 have hklb : kxb.length ≤ 117440640 := by
  have := key_bound (j := m) cg hok.ar.ok.lim
  have h2 := key_bound (j := d.length) bo hok.ar.ok.lim; rw [hkb, List.length_append, List.length_append]; simp only [List.length_cons, List.length_nil]; rw [qF (Nat.le_refl _)] at h2; omega
 refine zB (zC ?_)
 refine qD rfl (yV rfl rfl) ?_
 refine qe (zA (zB ?_))
 refine yI (p := ((m : Int) : Int) < (g.length : Int)) rfl rfl (fun h7 => ?_) (fun h7 => ?_)
 ·skip
  have hki := cg m (by omega)
  have hbk := hok.ar.ok.born (g.getD m 0).toNat (by omega)
  have g6 := dig13 (n := (g.getD m 0).toNat) (by omega)
  refine wp_skip ?_
  refine zA (zB ?_)
  refine zX ?_
  refine zB (zC ?_)
  refine qD rfl (zJ Tryz.underlying57 sz3 (v := t) rfl rfl bg.read (by omega) (by omega)) ?_
  refine qD rfl (zK (r := g.getD m 0) rfl ag3 (z := (m : Int)) rfl bg.read (Gadd.pins ay.pins t) (by omega) (by omega)) ?_
  refine qM (vJ (g.getD m 0)) ?_
  refine qe (zA (zB (zC ?_)))
  refine qM kvb ?_
  refine qM (vJ (g.getD m 0)) ?_
  refine qI rfl (zM (vs := [kvb, (vJ (g.getD m 0)), (vJ 36)]) Tryz.func139 nm139 rfl rfl rfl ?_)
  refine Calls.mono (appendInt_spec (i := g.getD m 0) ay.pins (bf.weaken (Nat.zero_le _)) (by omega) (by omega)) ?_
  rintro _ l2 ⟨c0, ed, rfl, h8, b6, bh⟩
  refine ⟨_, rfl, ?_⟩
  have ee := np_turn ec cz b6
  have c1 := ay.trans bh (fun i hi => (yB bf) i hi)
  have h9 := cy.extS bh (notO ea.symm)
  have ia := bg.extS bh (notO eb.symm)
  have ib := cz.extS bh (fun k hk hx => ec k hx hk)
  have eg : Apart u3.ownBlock c0.ownBlock := ap_turn b6 ea.symm (xV cy)
  have eh : Apart t.ownBlock c0.ownBlock := ap_turn b6 eb.symm (xV bg)
  have ic := h8.up (lo := w.heap.size) (fun k hk => (b6 k hk).elim (fun h => Nat.le_trans ay.size h) (fun h => (bf.lt k h).1))
  have l3 : (kxb ++ dig36 (g.getD m 0).toNat).length = kxb.length + (dig36 (g.getD m 0).toNat).length := List.length_append
  refine qI rfl (yU (E := eByte) (e := 5) [(.int .u8 44)] [44] Tryz.underlying22 sz5 zr5 (by exact xQ (by rfl)) (yC (by rfl)) rfl rfl rfl rfl (by decide) c1.pins (fun ei ie ig ej bi l4 => ?_))
  have c2 := c1.step ej bi
  have ek := h9.below bi
  have em := ia.below bi
  have eo := ic.below bi
  have ep := ib.below bi ej
  have ih : Own eByte 5 ed ie w.heap.size ei ([44]) := ig.weaken c1.size
  refine qI rfl (oA (E := eByte) (v := c0) (u := ei) 1 Tryz.underlying22 ap5 (by decide) rfl rfl c2.pins eo ih.src (c2.size) (fun b7 l5 ii eq b8 c3 => ?_))
  have es := c2.write eq b8 ((yB eo))
  have ij := ek.keptA b8 eg
  have ik := em.keptA b8 eh
  have b9 := ep.kept b8 eq ee
  have il : Apart u3.ownBlock b7.ownBlock := zG eg c3 ek.lt
  have im : Apart t.ownBlock b7.ownBlock := zG eh c3 em.lt
  have io := np_app ee ep c3
  have l6 : ((kxb ++ dig36 (g.getD m 0).toNat) ++ ([44])).length = (kxb ++ dig36 (g.getD m 0).toNat).length + 1 := List.length_append
  refine qM b7 ?_
  refine qe (zA (zC ?_))
  refine qM (vJ bm) ?_
  refine qM (.pointer (some ⟨p, 0, none⟩)) ?_
  refine qD rfl (xB rfl) ?_
  refine qD rfl (zO (k := 2) rfl Tryz.underlying117 rfl nz57 rfl) ?_
  refine qD rfl (zP (u := B) ag57 rfl (b9.bx.cell (o := 2) rfl)) ?_
  refine qM (vJ (g.getD m 0)) ?_
  refine qD rfl (zJ Tryz.underlying57 sz3 (v := B) rfl rfl b9.ob.read (by omega) (by omega)) ?_
  refine qD rfl (zK (r := q.bs.getD (g.getD m 0).toNat 0) rfl ag3 (z := (g.getD m 0)) rfl b9.ob.read (Gadd.pins es.pins B) (by omega) (by omega)) ?_
  refine qD rfl (yR rfl rfl (by omega)) ?_
  refine qD rfl (r_max rfl rfl) ?_
  refine qM (vJ (max bm ((q.bs.getD (g.getD m 0).toNat 0) + 1))) ?_
  refine qe ?_
  refine yJ ?_
  refine zA (zC ?_)
  refine qD rfl (yR rfl rfl (by omega)) ?_
  refine qM (vJ ((m : Int) + 1)) ?_
  refine qe ?_
  refine yK ?_
  refine ⟨_, ?_, _, rfl, _, m + 1, b7, (kxb ++ dig36 (g.getD m 0).toNat) ++ ([44]), max bm ((q.bs.getD (g.getD m 0).toNat 0) + 1), ed, (pS 55 (pS 54 (pS 53 (pS 8 (pS 7 (pS 6 (pS 2 (pS 1 (pU 0))))))))), rfl, es, (Pin.le_trans h5 bh.le), (by omega), (by rw [key_next (by omega), hkb]; simp only [List.append_assoc]), (by rw [hbbm, born_next (by omega)]), (by omega), ii, ij, ik, il.symm, im.symm, b9, io⟩
  omega
 refine wp_exit ?_
 refine yA ?_
 refine yN ?_
 refine yL ?_
 refine zA (zB (zB ?_))
 rw [qF (by omega)] at hkb hbbm
 have hkey : kxb = keyN d g := by rw [hkb]; rfl
 have ip := Gadd.pins ay.pins kvb
 have l7 := bf.read
 refine xG (S := fun wz => BxR wz p [L, R, B, (.map (some mm.f)), (.map (some mm.o)), (.map (some mm.c)), (.map (some mm.s)), (.map (some mm.n))] ∧ Pins (Gadd GLb av kvb) wz) (last := 12) (by kernel_rfl) rfl ?_
 have az : Below av.heap.size av av.drew := (Below.refl _ _).drew
 have et := ay.pins.below az
 have bj := ay.step et az
 have c4 := bf.below az
 have iq := cy.below az
 have ir := bg.below az
 have a := cz.below az et
 have ad := ip.below az
 refine dT (i := 0) rfl rfl (by kernel_rfl) (fun _ _ => zU (v := (.pointer (some ⟨p, 0, none⟩))) rfl) ⟨a.bx.reads, ad⟩ ?_
 refine dT (i := 1) rfl rfl (by kernel_rfl) (fun _ _ => xB rfl) ⟨a.bx.reads, ad⟩ ?_
 refine dT (i := 2) rfl rfl (by kernel_rfl) (fun _ _ => zO (k := 3) rfl Tryz.underlying117 rfl nz111 rfl) ⟨a.bx.reads, ad⟩ ?_
 refine dT (i := 3) rfl rfl (by kernel_rfl) (fun _ hS => zP (u := (.map (some mm.f))) ag111 rfl (hS.1 3 _ rfl)) ⟨a.bx.reads, ad⟩ ?_
 refine dT (i := 4) rfl rfl (by kernel_rfl) (fun _ _ => zU (v := kvb) rfl) ⟨a.bx.reads, ad⟩ ?_
 refine dO (i := 5) (zT (i := 5) rfl rfl rfl (zD rfl _) (EO.run (r_b2s Tryz.underlying22 Tryz.underlying5 Tryz.underlying9 rfl c4.read (Gadd.pins bj.pins kvb)) ?_))
 refine ⟨fun _ => ⟨a.bx.reads, ad⟩, ?_⟩
 refine dO (i := 6) (zT (i := 6) rfl rfl rfl (zD rfl _) (EO.run (run_lookv_int (k := (b2s kxb)) (key_str Tryz.underlying9) Tryz.underlying111 zr3 a.ff rfl rfl) ?_))
 refine ⟨fun _ => ⟨a.bx.reads, ad⟩, ?_⟩
 refine dT (i := 7) rfl rfl (by kernel_rfl) (fun _ _ => zU (v := (.tuple #[(vJ ((Go.GL.look q.fl (b2s kxb)).getD 0)), (.bool ((Go.GL.look q.fl (b2s kxb)).isSome))])) rfl) ⟨a.bx.reads, ad⟩ ?_
 refine dT (i := 8) rfl rfl (by kernel_rfl) (fun _ _ => yW (v := (vJ ((Go.GL.look q.fl (b2s kxb)).getD 0))) rfl rfl) ⟨a.bx.reads, ad⟩ ?_
 refine dT (i := 9) rfl rfl (by kernel_rfl) (fun _ _ => yW (v := (.bool ((Go.GL.look q.fl (b2s kxb)).isSome))) rfl rfl) ⟨a.bx.reads, ad⟩ ?_
 refine dT (i := 10) rfl rfl (by kernel_rfl) (fun _ _ => qG (v := (vJ ((Go.GL.look q.fl (b2s kxb)).getD 0))) rfl) ⟨a.bx.reads, ad⟩ ?_
 refine dT (i := 11) rfl rfl (by kernel_rfl) (fun _ _ => qG (v := (.bool ((Go.GL.look q.fl (b2s kxb)).isSome))) rfl) ⟨a.bx.reads, ad⟩ ?_
 refine yT (by kernel_rfl) ?_
 refine zA (zB (zC ?_))
 refine qM (.bool ((Go.GL.look q.fl (b2s kxb)).isSome)) ?_
 refine qe (zA ?_)
 refine c_if rfl rfl (fun c5 => ?_) (fun c5 => ?_)
 ·skip
  refine zB (zC ?_)
  refine qM (vJ ((Go.GL.look q.fl (b2s kxb)).getD 0)) ?_
  refine qM (vJ ((Go.GL.look q.fl (b2s kxb)).getD 0)) ?_
  refine qe (zA ?_)
  refine wp_ret ?_
  refine zR ?_
  refine zQ (v := (vJ ((Go.GL.look q.fl (b2s kxb)).getD 0))) rfl rfl rfl ?_
  obtain ⟨z, hz⟩ := Option.isSome_iff_exists.1 c5
  have hlk := hz
  rw [hkey, aq, au] at hlk
  obtain ⟨f1, f2⟩ := lookF hok hk1 hk2 hlk
  rw [hz]
  exact ⟨z, L, R, B, q, GLb, rfl, a, hok, (PX.refl _), PIn.lo hpin rfl, bj, f1, f2, by omega, rfl, Or.inl rfl⟩
 refine wp_skip ?_
 refine zA (zB (zC ?_))
 refine qM (.pointer (some ⟨p, 0, none⟩)) ?_
 refine qD rfl (xB rfl) ?_
 refine qD rfl (zO (k := 2) rfl Tryz.underlying117 rfl nz57 rfl) ?_
 refine qD rfl (zP (u := B) ag57 rfl (a.bx.cell (o := 2) rfl)) ?_
 refine qD rfl (zN Tryz.underlying57 (v := B) rfl a.ob.read) ?_
 refine qM (vJ (q.bs.length : Int)) ?_
 refine qe (zA (zB ?_))
 have hnone : Go.GL.look q.fl (b2s kxb) = none := by simpa using c5
 rw [hkey, aq, au] at hnone
 have hadd := hok.add (b := bm) hlim hls hk1 hk2 hnone (by rw [hbbm, hbbn, aq, au])
 have iv := Gadd.pins bj.pins kvb
 have l8 := c4.read
 refine xG (S := fun wz => BxR wz p [L, R, B, (.map (some mm.f)), (.map (some mm.o)), (.map (some mm.c)), (.map (some mm.s)), (.map (some mm.n))] ∧ Pins (Gadd GLb av.drew kvb) wz) (last := 7) (by kernel_rfl) rfl ?_
 have ab : Below av.drew.heap.size av.drew av.drew.drew := (Below.refl _ _).drew
 have iw := bj.pins.below ab
 have c6 := bj.step iw ab
 have ix := c4.below ab
 have eu := iq.below ab
 have ev := ir.below ab
 have ew := a.ol.below ab
 have ex := a.rr.below ab
 have ey := a.ob.below ab
 have al := a.bx.below ab
 have a0 := a.ff.below ab
 have iy := a.fo.below ab
 have iz := a.fc.below ab
 have i0 := a.fs.below ab
 have i1 := a.fn.below ab
 have a1 := iv.below ab
 refine dT (i := 0) rfl rfl (by kernel_rfl) (fun _ _ => zU (v := (.pointer (some ⟨p, 0, none⟩))) rfl) ⟨al.reads, a1⟩ ?_
 refine dT (i := 1) rfl rfl (by kernel_rfl) (fun _ _ => xB rfl) ⟨al.reads, a1⟩ ?_
 refine dT (i := 2) rfl rfl (by kernel_rfl) (fun _ _ => zO (k := 3) rfl Tryz.underlying117 rfl nz111 rfl) ⟨al.reads, a1⟩ ?_
 refine dT (i := 3) rfl rfl (by kernel_rfl) (fun _ hS => zP (u := (.map (some mm.f))) ag111 rfl (hS.1 3 _ rfl)) ⟨al.reads, a1⟩ ?_
 refine dT (i := 4) rfl rfl (by kernel_rfl) (fun _ _ => zU (v := kvb) rfl) ⟨al.reads, a1⟩ ?_
 refine dT (i := 6) rfl rfl (by kernel_rfl) (fun _ _ => zU (v := (vJ (q.bs.length : Int))) rfl) ⟨al.reads, a1⟩ ?_
 refine dO (i := 5) (zT (i := 5) rfl rfl rfl (zD rfl _) (EO.run (r_b2s Tryz.underlying22 Tryz.underlying5 Tryz.underlying9 rfl ix.read (Gadd.pins c6.pins kvb)) ?_))
 refine ⟨fun _ => ⟨al.reads, a1⟩, ?_⟩
 refine dO (i := 7) (xP (i := 7) rfl rfl rfl (zD rfl _) (o_mapUpdate (val := (fun v : Int => Value.int .i64 v)) (k := (b2s kxb)) (v := (q.bs.length : Int)) (key_str Tryz.underlying9) Tryz.underlying111 rfl rfl rfl c6.pins a0 (fun l9 i3 i4 ae ma => ?_)))
 have i5 := c6.write i4 ae ((PIn.f hpin))
 have i6 := eu.keptA ae (yO a0 eu).symm
 have i7 := ev.keptA ae (yO a0 ev).symm
 have i8 := ew.keptA ae (yO a0 ew).symm
 have i9 := ex.keptA ae (yO a0 ex).symm
 have ja := ey.keptA ae (yO a0 ey).symm
 have ez := al.keptA ae (xK a0 al).symm
 have jb := iy.kept ae (apart_maps a.df.fo).symm
 have jc := iz.kept ae (apart_maps a.df.fc).symm
 have jd := i0.kept ae (apart_maps a.df.fs).symm
 have je := i1.kept ae (apart_maps a.df.fn).symm
 refine ⟨fun h => absurd rfl h, ?_⟩
 refine yT (by kernel_rfl) ?_
 refine zA (zB (zC ?_))
 refine qM (.pointer (some ⟨p, 0, none⟩)) ?_
 refine qM (.pointer (some ⟨p, 0, none⟩)) ?_
 refine qD rfl (xB rfl) ?_
 refine qD rfl (zO (k := 0) rfl Tryz.underlying117 rfl nz115 rfl) ?_
 refine qD rfl (zP (u := L) ag115 rfl (ez.cell (o := 0) rfl)) ?_
 refine qM u3 ?_
 obtain ⟨jf, ca, c7, e0, bk⟩ := i6.sealed i5
 have jg := i7.moreO ca bk gu
 have jh := i8.moreO ca bk (NP.hl bp).symm
 have ji := i9.moreO ca bk (NP.hr bp).symm
 have jj := ja.moreO ca bk (NP.hb bp).symm
 have jk := ez.moreO bk (NP.hp bp).symm
 refine qI rfl (yU (E := (eSl eInt)) (e := 57) [u3] [d] Tryz.underlying115 sz57 zr57 (by exact xQ (⟨_, rfl, e0⟩)) (yC e0.one) rfl rfl rfl rfl (by decide) c7.pins (fun e1 jl jm jn af mb => ?_))
 have c8 := c7.step jn af
 have e2 := jg.below af
 have a4 := jh.below af
 have e3 := ji.below af
 have e4 := jj.below af
 have e5 := jk.below af
 have e6 := i3.below af
 have e7 := jb.below af
 have e8 := jc.below af
 have e9 := jd.below af
 have fa := je.below af
 have jo : Own (eSl eInt) 57 jf jl w.heap.size e1 ([d]) := jm.weaken c7.size
 refine qI rfl (oA (E := (eSl eInt)) (v := L) (u := e1) 24 Tryz.underlying115 ap57 (by decide) rfl rfl c8.pins a4 jo.src (Nat.zero_le _) (fun ac mc c9 jp ag bl => ?_))
 have fb := c8.write jp ag ((PIn.ll hpin))
 have jq := e2.keptA ag (NP.hl a2)
 have jr := e3.keptA ag a.alr.symm
 have js := e4.keptA ag a.alb.symm
 have a5 := e5.keptA ag a.apl
 have fd := e6.kept ag (yO e6 a4)
 have fe := e7.kept ag (yO e7 a4)
 have fg := e8.kept ag (yO e8 a4)
 have fh := e9.kept ag (yO e9 a4)
 have fi := fa.kept ag (yO fa a4)
 have jt : Apart t.ownBlock ac.ownBlock := zG (NP.hl a2) bl e2.lt
 have fj : Apart R.ownBlock ac.ownBlock := zG a.alr.symm bl e3.lt
 have fk : Apart B.ownBlock ac.ownBlock := zG a.alb.symm bl e4.lt
 have cb : Apart (some p) ac.ownBlock := zL a.apl bl e5.lt
 have ju : Lo w (inP p L R B mm) ac.ownBlock := lo_app (PIn.ll hpin) bl c8.size
 have md : ((q.ns.map Nd.l) ++ ([d])).length = (q.ns.map Nd.l).length + 1 := List.length_append
 refine qD rfl (xB rfl) ?_
 refine qD rfl (zO (k := 0) rfl Tryz.underlying117 rfl nz115 rfl) ?_
 refine q0 rfl rfl rfl (yM (cs' := [ac, R, B, (.map (some mm.f)), (.map (some mm.o)), (.map (some mm.c)), (.map (some mm.s)), (.map (some mm.n))]) (us := [ac]) (v := ac) sz115 rfl rfl (cells1 c9.one) (yC c9.one) fb.pins a5 (Nat.le_of_ble_eq_true rfl) rfl (fun me fm jv ah mf => ?_))
 have jw := fb.write jv ah ((PIn.lp hpin))
 have jx := jq.keptA ah (NP.hp a2)
 have jy := jr.keptA ah a.apr.symm
 have jz := js.keptA ah a.apb.symm
 have j0 := c9.keptA ah cb.symm
 have j1 := fd.kept ah (xK fd a5)
 have j2 := fe.kept ah (xK fe a5)
 have j3 := fg.kept ah (xK fg a5)
 have j4 := fh.kept ah (xK fh a5)
 have j5 := fi.kept ah (xK fi a5)
 refine qe (zA (zB (zC ?_)))
 refine qM (.pointer (some ⟨p, 0, none⟩)) ?_
 refine qM (.pointer (some ⟨p, 0, none⟩)) ?_
 refine qD rfl (xB rfl) ?_
 refine qD rfl (zO (k := 1) rfl Tryz.underlying117 rfl nz115 rfl) ?_
 refine qD rfl (zP (u := R) ag115 rfl (fm.cell (o := 1) rfl)) ?_
 refine qM t ?_
 obtain ⟨da, db, dc, fp, cc⟩ := jx.sealed jw
 have j6 := jy.moreO db cc (NP.hr a2).symm
 have j7 := jz.moreO db cc (NP.hb a2).symm
 have j8 := j0.moreO db cc jt.symm
 have j9 := fm.moreO cc (NP.hp a2).symm
 refine qI rfl (yU (E := (eSl eInt)) (e := 57) [t] [g] Tryz.underlying115 sz57 zr57 (by exact xQ (⟨_, rfl, fp⟩)) (yC fp.one) rfl rfl rfl rfl (by decide) dc.pins (fun fq ka kb kc ai mg => ?_))
 have dd := dc.step kc ai
 have a6 := j6.below ai
 have fr := j7.below ai
 have ft := j8.below ai
 have fu := j9.below ai
 have fv := j1.below ai
 have fw := j2.below ai
 have fx := j3.below ai
 have fy := j4.below ai
 have fz := j5.below ai
 have kd : Own (eSl eInt) 57 da ka w.heap.size fq ([g]) := kb.weaken dc.size
 refine qI rfl (oA (E := (eSl eInt)) (v := R) (u := fq) 24 Tryz.underlying115 ap57 (by decide) rfl rfl dd.pins a6 kd.src (Nat.zero_le _) (fun aj mh de ke am cd => ?_))
 have f0 := dd.write ke am ((PIn.lr hpin))
 have kf := fr.keptA am a.arb.symm
 have kg := ft.keptA am fj.symm
 have a7 := fu.keptA am a.apr
 have f3 := fv.kept am (yO fv a6)
 have f4 := fw.kept am (yO fw a6)
 have f5 := fx.kept am (yO fx a6)
 have f6 := fy.kept am (yO fy a6)
 have f7 := fz.kept am (yO fz a6)
 have f8 : Apart B.ownBlock aj.ownBlock := zG a.arb.symm cd fr.lt
 have kh : Apart ac.ownBlock aj.ownBlock := zG fj.symm cd ft.lt
 have dg : Apart (some p) aj.ownBlock := zL a.apr cd fu.lt
 have ki : Lo w (inP p L R B mm) aj.ownBlock := lo_app (PIn.lr hpin) cd dd.size
 have mi : ((q.ns.map Nd.r) ++ ([g])).length = (q.ns.map Nd.r).length + 1 := List.length_append
 refine qD rfl (xB rfl) ?_
 refine qD rfl (zO (k := 1) rfl Tryz.underlying117 rfl nz115 rfl) ?_
 refine q0 rfl rfl rfl (yM (cs' := [ac, aj, B, (.map (some mm.f)), (.map (some mm.o)), (.map (some mm.c)), (.map (some mm.s)), (.map (some mm.n))]) (us := [aj]) (v := aj) sz115 rfl rfl (cells1 de.one) (yC de.one) f0.pins a7 (Nat.le_of_ble_eq_true rfl) rfl (fun mj f9 kj an mk => ?_))
 have dh := f0.write kj an ((PIn.lp hpin))
 have kk := kf.keptA an a.apb.symm
 have kl := kg.keptA an cb.symm
 have km := de.keptA an dg.symm
 have kn := f3.kept an (xK f3 a7)
 have ko := f4.kept an (xK f4 a7)
 have kp := f5.kept an (xK f5 a7)
 have kq := f6.kept an (xK f6 a7)
 have kr := f7.kept an (xK f7 a7)
 refine qe (zA (zB (zC ?_)))
 refine qM (.pointer (some ⟨p, 0, none⟩)) ?_
 refine qM (.pointer (some ⟨p, 0, none⟩)) ?_
 refine qD rfl (xB rfl) ?_
 refine qD rfl (zO (k := 2) rfl Tryz.underlying117 rfl nz57 rfl) ?_
 refine qD rfl (zP (u := B) ag57 rfl (f9.cell (o := 2) rfl)) ?_
 refine qM (vJ bm) ?_
 refine qI rfl (yU (E := eInt) (e := 3) [(vJ bm)] [bm] Tryz.underlying57 sz3 zr3 (by exact xQ (by rfl)) (yC (by rfl)) rfl rfl rfl rfl (by decide) dh.pins (fun ga ks kt ku ak ml => ?_))
 have di := dh.step ku ak
 have a8 := kk.below ak
 have gb := kl.below ak
 have gc := km.below ak
 have gd := f9.below ak
 have ge := kn.below ak
 have gf := ko.below ak
 have gg := kp.below ak
 have gh := kq.below ak
 have gi := kr.below ak
 have kv : Own eInt 3 da ks w.heap.size ga ([bm]) := kt.weaken dh.size
 refine qI rfl (oA (E := eInt) (v := B) (u := ga) 8 Tryz.underlying57 ap3 (by decide) rfl rfl di.pins a8 kv.src (Nat.zero_le _) (fun aw mn dj kw ao ce => ?_))
 have gj := di.write kw ao ((PIn.lb hpin))
 have kx := gb.keptA ao fk.symm
 have ky := gc.keptA ao f8.symm
 have a9 := gd.keptA ao a.apb
 have gk := ge.kept ao (yO ge a8)
 have gl := gf.kept ao (yO gf a8)
 have gm := gg.kept ao (yO gg a8)
 have gn := gh.kept ao (yO gh a8)
 have gp := gi.kept ao (yO gi a8)
 have kz : Apart ac.ownBlock aw.ownBlock := zG fk.symm ce gb.lt
 have k0 : Apart aj.ownBlock aw.ownBlock := zG f8.symm ce gc.lt
 have gq : Apart (some p) aw.ownBlock := zL a.apb ce gd.lt
 have k1 : Lo w (inP p L R B mm) aw.ownBlock := lo_app (PIn.lb hpin) ce di.size
 have mo : (q.bs ++ ([bm])).length = q.bs.length + 1 := List.length_append
 refine qD rfl (xB rfl) ?_
 refine qD rfl (zO (k := 2) rfl Tryz.underlying117 rfl nz57 rfl) ?_
 refine q0 rfl rfl rfl (yM (cs' := [ac, aj, aw, (.map (some mm.f)), (.map (some mm.o)), (.map (some mm.c)), (.map (some mm.s)), (.map (some mm.n))]) (us := [aw]) (v := aw) sz57 rfl rfl (cells1 dj.one) (yC dj.one) gj.pins a9 (Nat.le_of_ble_eq_true rfl) rfl (fun mp k2 k3 ap mq => ?_))
 have k4 := gj.write k3 ap ((PIn.lp hpin))
 have k5 := kx.keptA ap cb.symm
 have k6 := ky.keptA ap dg.symm
 have k7 := dj.keptA ap gq.symm
 have k8 := gk.kept ap (xK gk a9)
 have k9 := gl.kept ap (xK gl a9)
 have la := gm.kept ap (xK gm a9)
 have lc := gn.kept ap (xK gn a9)
 have ld := gp.kept ap (xK gp a9)
 refine qe (zA (zB (zC ?_)))
 refine qM (vJ (q.bs.length : Int)) ?_
 refine qM (vJ (q.bs.length : Int)) ?_
 refine qe (zA ?_)
 refine wp_ret ?_
 refine zR ?_
 refine zQ (v := (vJ (q.bs.length : Int))) rfl rfl rfl ?_
 have el : (q.ns.map Nd.l) ++ [d] = (addQ q xs ys bm).ns.map Nd.l := by rw [aq]; simp [addQ]
 have er : (q.ns.map Nd.r) ++ [g] = (addQ q xs ys bm).ns.map Nd.r := by rw [au]; simp [addQ]
 have ef : putE q.fl (b2s kxb) (q.bs.length : Int) = (addQ q xs ys bm).fl := by rw [hkey, aq, au, hok.ar.ok.len]; rfl
 have hol := k5
 have hor := k6
 have hff := k8
 rw [el] at hol
 rw [er] at hor
 rw [ef] at hff
 exact ⟨(q.bs.length : Int), ac, aj, aw, addQ q xs ys bm, da, rfl, ⟨k2, hol, hor, k7, hff, k9, la, lc, ld, cb, dg, gq, kh, kz, k0, a.df⟩, hadd.1, hadd.2.1, ⟨ju, ki, k1⟩, k4, by rw [hok.ar.ok.len]; exact hadd.2.2.1, by rw [hok.ar.ok.len]; exact hadd.2.2.2.1, hadd.2.2.2.2, rfl, Or.inr (by omega)⟩

end PO1
end Go.Proofs.YtkfgdhanaijddaaGreatDoor

set_option maxRecDepth 20000
set_option maxHeartbeats 2000000
namespace Go.Proofs.YtkfgdhanaijddaaGreatDoor
namespace PL1
open Go.RowKit Go.GL Go.Proofs
open Go.Proofs.YtkfgdhanaijddaaGreatDoor.B1
open Go.Proofs.YtkfgdhanaijddaaGreatDoor.K1
open Go.Proofs.YtkfgdhanaijddaaGreatDoor.PO1






theorem mk3 : (Tryz.prog.info? 3).map (fun i => (i.size, i.bytes, i.zero)) = some (1, 8, some (.int .i64 0)) := by kernel_rfl





theorem pl117 : (Tryz.prog.underlying 117).bind (placesD Tryz.prog) = some [(0, 1), (1, 1), (2, 1), (3, 1), (4, 1), (5, 1), (6, 1), (7, 1)] := by kernel_rfl






theorem newPool_spec {w : World} {G : Pin} (hP : Pins G w) :
  Calls Tryz.prog 46 [].toArray w fun e w' => ∃ (p : Nat) (mm : PM) (G' : Pin), e = .returned (.pointer (some ⟨p, 0, none⟩)) ∧ Pk 57 3 G' w' p (.slice none 0 0) (.slice none 0 0) (.slice none 0 0) mm ⟨[], [], [], [], [], [], []⟩ ∧ (∀ k, inP p (.slice none 0 0) (.slice none 0 0) (.slice none 0 0) mm k → w.heap.size ≤ k) ∧ Ext noS G w G' w' := by
 refine yD (n := 8) Tryz.func46 Tryz.ntmps46 rfl rfl ?_
 have o : Ext noS G w G w := Ext.refl hP
 refine zB (zC ?_)
 refine qM (.pointer none) ?_
 refine qe (zA (zB (zC ?_)))
 refine qI rfl (o_makeMap (fun k : ByteArray => Value.string k) (fun v : Int => Value.int .i64 v) o.pins (fun a w2 bo z al am => ?_))
 have q := o.step al am
 have an : w.heap.size ≤ a := by have := o.size; omega
 refine qI rfl (o_makeMap encP2 (fun v : Bool => Value.bool v) q.pins (fun b bp ao aa ap ab => ?_))
 have r := q.step ap ab
 have ac := z.below ab
 have aq : Apart (some b) (some a) := zH (congrArg some ao) z.lt
 have ar : w.heap.size ≤ b := by have := q.size; omega
 refine qI rfl (o_makeMap (fun k : Int => Value.int .i64 k) (fun v : Int => Value.int .i64 v) r.pins (fun c bq ad ae au s => ?_))
 have t := r.step au s
 have af := ac.below s
 have ag := aa.below s
 have av : Apart (some c) (some a) := zH (congrArg some ad) ac.lt
 have aw : Apart (some c) (some b) := zH (congrArg some ad) aa.lt
 have ax : w.heap.size ≤ c := by have := r.size; omega
 refine qI rfl (o_makeMap encP2 (fun v : Int => Value.int .i64 v) t.pins (fun d br u ah ay l => ?_))
 have x := t.step ay l
 have ai := af.below l
 have aj := ag.below l
 have ak := ae.below l
 have az : Apart (some d) (some a) := zH (congrArg some u) af.lt
 have a0 : Apart (some d) (some b) := zH (congrArg some u) ag.lt
 have a1 : Apart (some d) (some c) := zH (congrArg some u) ae.lt
 have a2 : w.heap.size ≤ d := by have := t.size; omega
 refine qI rfl (o_makeMap (fun k : Int => Value.int .i64 k) (fun v : Int => Value.int .i64 v) x.pins (fun f bs m a3 a4 i => ?_))
 have y := x.step a4 i
 have a5 := ai.below i
 have a6 := aj.below i
 have a7 := ak.below i
 have a8 := ah.below i
 have a9 : Apart (some f) (some a) := zH (congrArg some m) ai.lt
 have ba : Apart (some f) (some b) := zH (congrArg some m) aj.lt
 have bb : Apart (some f) (some c) := zH (congrArg some m) ak.lt
 have bc : Apart (some f) (some d) := zH (congrArg some m) ah.lt
 have bd : w.heap.size ≤ f := by have := x.size; omega
 refine qD rfl (xF [(.slice none 0 0), (.slice none 0 0), (.slice none 0 0), (.map none), (.map none), (.map none), (.map none), (.map none)] [(.slice none 0 0), (.slice none 0 0), (.slice none 0 0), (.map (some a)), (.map (some b)), (.map (some c)), (.map (some d)), (.map (some f))] [(3, (.map (some a)), [(.map (some a))]), (4, (.map (some b)), [(.map (some b))]), (5, (.map (some c)), [(.map (some c))]), (6, (.map (some d)), [(.map (some d))]), (7, (.map (some f)), [(.map (some f))])] Tryz.underlying117 zr117 rfl pl117 rfl (List.forall_mem_cons.2 ⟨rfl, (List.forall_mem_cons.2 ⟨rfl, (List.forall_mem_cons.2 ⟨rfl, (List.forall_mem_cons.2 ⟨rfl, (List.forall_mem_cons.2 ⟨rfl, (fun _ h => by cases h)⟩)⟩)⟩)⟩)⟩) rfl) ?_
 refine qI rfl (qA [(.slice none 0 0), (.slice none 0 0), (.slice none 0 0), (.map (some a)), (.map (some b)), (.map (some c)), (.map (some d)), (.map (some f))] (v := (.agg [(.slice none 0 0), (.slice none 0 0), (.slice none 0 0), (.map (some a)), (.map (some b)), (.map (some c)), (.map (some d)), (.map (some f))].toArray)) rfl rfl y.pins (fun j bt bu be bf g => ?_))
 have bg := y.step bf g
 have bh := a5.below g
 have bi := a6.below g
 have bj := a7.below g
 have bk := a8.below g
 have bl := a3.below g
 have bm : w.heap.size ≤ j := by have := y.size; omega
 refine qM (.pointer (some ⟨j, 0, none⟩)) ?_
 refine qe (zA ?_)
 refine wp_ret ?_
 refine zR ?_
 refine zQ (v := (.pointer (some ⟨j, 0, none⟩))) rfl rfl rfl ?_
 have hdf : PDiff ⟨a, b, c, d, f⟩ := ⟨fun e => aq.symm _ rfl (congrArg some e.symm), fun e => av.symm _ rfl (congrArg some e.symm), fun e => az.symm _ rfl (congrArg some e.symm), fun e => a9.symm _ rfl (congrArg some e.symm), fun e => aw.symm _ rfl (congrArg some e.symm), fun e => a0.symm _ rfl (congrArg some e.symm), fun e => ba.symm _ rfl (congrArg some e.symm), fun e => a1.symm _ rfl (congrArg some e.symm), fun e => bb.symm _ rfl (congrArg some e.symm), fun e => bc.symm _ rfl (congrArg some e.symm)⟩
 have hfr : ∀ k, inP j (.slice none 0 0) (.slice none 0 0) (.slice none 0 0) ⟨a, b, c, d, f⟩ k → w.heap.size ≤ k := by rintro k (rfl | hk | hk | hk | rfl | rfl | rfl | rfl | rfl) <;> first | (cases hk; done) | exact bm | exact an | exact ar | exact ax | exact a2 | exact bd
 exact ⟨j, ⟨a, b, c, d, f⟩, _, rfl, ⟨be, (Own.nil _ _ _ _ _), (Own.nil _ _ _ _ _), (Own.nil _ _ _ _ _), bh, bi, bj, bk, bl, apart_none.symm, apart_none.symm, apart_none.symm, apart_none, apart_none, apart_none, hdf⟩, hfr, bg⟩

theorem renamed_spec {w : World} {G : Pin} {u v : Value} {xs ys : List Int} (hP : Pins G w) (hu : RSl eInt G u xs) (hv : RSl eInt G v ys) (hs : xs.length ≤ 1048576) (hb : ∀ i, i < xs.length → 0 ≤ xs.getD i 0 ∧ xs.getD i 0 < ys.length) :
  Calls Tryz.prog 127 [u, v].toArray w fun e w' => ∃ (u : Value) (G' : Pin), e = .returned u ∧ Own eInt 3 G' w' w.heap.size u (atL ys xs) ∧ Ext noS G w G' w' := by
 refine yD (n := 27) Tryz.func127 Tryz.ntmps127 rfl rfl ?_
 have d : Ext noS G w G w := Ext.refl hP
 have hm := hu.max
 have hal : (atL ys xs).length = xs.length := xH
 have hrl : (List.replicate xs.length (0 : Int)).length = xs.length := List.length_replicate
 refine zB (zC ?_)
 refine qM (.slice none 0 0) ?_
 refine qe (zA (zB (zC ?_)))
 refine qM u ?_
 refine qD rfl (zN Tryz.underlying57 (v := u) rfl hu) ?_
 refine qI rfl (o_make (E := eInt) 0 8 (vJ 0) Tryz.underlying57 mk3 (fun _ => rfl) rfl rfl d.pins (by omega) (by omega) (by omega) (fun a g h l m ab => ?_))
 have o := d.step l m
 have q : Own eInt 3 G g w.heap.size a (List.replicate xs.length 0) := h.weaken d.size
 have ac : (List.replicate xs.length 0).length = xs.length := List.length_replicate ..
 refine qM a ?_
 refine qe (zA (zB (zB (zC ?_))))
 refine qM u ?_
 refine qD rfl (zN Tryz.underlying57 (v := u) rfl hu) ?_
 refine qM (vJ 0) ?_
 refine qe (zA ?_)
 refine zX ?_
 refine yQ (fun (k : Nat) (en : Nat → Value) (W : World) => ∃ (f : Nat → Value) (j : Nat) (os : List Int), en = (upd (upd (upd (upd (upd (upd f 1 v) 4 (.slice none 0 0)) 5 a) 11 u) 12 (vJ (xs.length : Int))) 13 (vJ (j : Int))) ∧ k = xs.length - j ∧ Ext noS G w G W ∧ (j ≤ xs.length) ∧ (os = (atL ys xs).take j ++ (List.replicate xs.length 0).drop j) ∧ (os.length = xs.length) ∧ (Own eInt 3 G W w.heap.size a (os))) _ ⟨_, 0, List.replicate xs.length 0, (pS 13 (pS 12 (pS 11 (pS 5 (pS 4 (pU 1)))))), rfl, o, Nat.zero_le _, rfl, hrl, q⟩ ?_
 rintro ad _ ae ⟨f, j, os, rfl, af, b, hj, hr, hol, c⟩
 refine zB (zC ?_)
 refine qD rfl (yV rfl rfl) ?_
 refine qe (zA (zB ?_))
 refine yI (p := ((j : Int) : Int) < (xs.length : Int)) rfl rfl (fun s => ?_) (fun s => ?_)
 ·skip
  have hbj := hb j (by omega)
  refine wp_skip ?_
  refine zA (zB ?_)
  refine zX ?_
  refine zB (zC ?_)
  refine qM (vJ (j : Int)) ?_
  refine qD rfl (zJ Tryz.underlying57 sz3 (v := u) rfl rfl hu (by omega) (by omega)) ?_
  refine qD rfl (zK (r := xs.getD j 0) rfl ag3 (z := (j : Int)) rfl hu b.pins (by omega) (by omega)) ?_
  refine qM (vJ (j : Int)) ?_
  refine qM (vJ (xs.getD j 0)) ?_
  refine qe (zA (zC ?_))
  refine qM a ?_
  refine qM (vJ (j : Int)) ?_
  refine qM v ?_
  refine qM (vJ (xs.getD j 0)) ?_
  refine qD rfl (zJ Tryz.underlying57 sz3 (v := v) rfl rfl hv (by omega) (by omega)) ?_
  refine qD rfl (zK (r := ys.getD (xs.getD j 0).toNat 0) rfl ag3 (z := (xs.getD j 0)) rfl hv b.pins (by omega) (by omega)) ?_
  refine qD rfl (zJ Tryz.underlying57 sz3 (v := a) rfl rfl c.read (by omega) (by omega)) ?_
  refine q0 rfl rfl rfl (o_set (E := eInt) (v := a) (u := (vJ (ys.getD (xs.getD j 0).toNat 0))) (z := (j : Int)) (ys.getD (xs.getD j 0).toNat 0) sz3 rfl rfl rfl rfl b.pins c (by omega) (by omega) (fun ag t x y ah => ?_))
  have aa := b.write x y ((yB c))
  refine qe ?_
  refine yJ ?_
  refine zA (zC ?_)
  refine qD rfl (yR rfl rfl (by omega)) ?_
  refine qM (vJ ((j : Int) + 1)) ?_
  refine qe ?_
  refine yK ?_
  refine ⟨_, ?_, _, rfl, _, j + 1, os.set j (ys.getD (xs.getD j 0).toNat 0), (pS 13 (pS 12 (pS 11 (pS 5 (pS 4 (pU 1)))))), rfl, aa, (by omega), (by rw [hr]; exact cur_set 0 (by omega) (by omega) (at_getD (by omega))), ((List.length_set ..).trans hol), t⟩
  omega
 refine wp_exit ?_
 refine yA ?_
 refine yN ?_
 refine yL ?_
 refine zA (zB (zC ?_))
 refine qM a ?_
 refine qM a ?_
 refine qe (zA ?_)
 refine wp_ret ?_
 refine zR ?_
 refine zQ (v := a) rfl rfl rfl ?_
 rw [cur_end (by omega) (by omega)] at hr
 exact ⟨_, _, rfl, (by rw [← hr]; exact c), b⟩

theorem load_spec {w : World} {G : Pin} {p : Nat} {L R B : Value} {mm : PM} {q : PSt} (hP : Pins G w) (hpk : Pk 57 3 G w p L R B mm q) (hok : PoolOk q) {x : Value} {fs : List Nd} (hx : RSl eNode G x fs) (hf : FormOk fs) (hl : q.ns.length + fs.length ≤ 1048576) :
  Calls Tryz.prog 93 [(.pointer (some ⟨p, 0, none⟩)), (.agg [x].toArray)].toArray w fun e w' => ∃ (u : Value) (ats : List Int) (L' R' B' : Value) (q' : PSt) (G' : Pin), e = .returned u ∧ Pk 57 3 G' w' p L' R' B' mm q' ∧ PoolOk q' ∧ PX q q' ∧ PLo w p L R B mm L' R' B' ∧ Ext (inP p L R B mm) G w G' w' ∧ Own eInt 3 G' w' w.heap.size u ats ∧ NP p L' R' B' mm u.ownBlock ∧ LdOk fs q q' fs.length ats := by
 refine yD (n := 34) Tryz.func93 Tryz.ntmps93 rfl rfl ?_
 have ax : Ext (inP p L R B mm) G w G w := Ext.refl hP
 have hpin : PIn w (inP p L R B mm) p L R B mm := PIn.self
 have ee : (q.ns.map Nd.l).length = q.ns.length ∧ (q.ns.map Nd.r).length = q.ns.length := ⟨List.length_map .., List.length_map ..⟩
 have ef : q.bs.length = q.ns.length ∧ q.ns.length ≤ 1048576 := ⟨hok.ar.ok.len, hok.ar.ok.lim⟩
 refine zB (zC ?_)
 refine qI rfl (qA [x] (v := (.agg [x].toArray)) rfl rfl ax.pins (fun b3 w4 cp cq bk bl => ?_))
 have cr := ax.step bk bl
 have cs := hpk.below bl bk
 have ct := hpk.new (x := (some b3)) (fun k hk => by rw [(congrArg some cp)] at hk; cases hk; exact Nat.le_refl _)
 have cu : w.heap.size ≤ b3 := by have := ax.size; omega
 obtain ⟨ay, ak, al, bm, cv⟩ := cq.shut cr cu
 have bn := cs.more ak cv ct
 refine qM (.slice none 0 0) ?_
 refine qe (zA (zB (zC ?_)))
 refine qD rfl (zO (k := 0) rfl Tryz.underlying28 rfl nz26 rfl) ?_
 refine qD rfl (zP (u := x) ag26 rfl (al.pins _ _ _ (bm 0 _ rfl))) ?_
 refine qD rfl (zN Tryz.underlying26 (v := x) rfl hx) ?_
 refine qI rfl (o_make0 (E := eInt) Tryz.underlying57 mk3 rfl rfl al.pins (by omega) (by omega) (by omega) (fun am cw cx bo bp cy => ?_))
 have bq := al.step bo bp
 have cz := bn.below bp bo
 have c0 := bn.new (x := am.ownBlock) (fun k hk => by rw [cy] at hk; cases hk; exact Nat.le_refl _)
 have c1 : Own eInt 3 ay cw w.heap.size am ([]) := cx.weaken al.size
 refine qM am ?_
 refine qe (zA (zB (zB (zC ?_))))
 refine qD rfl (zO (k := 0) rfl Tryz.underlying28 rfl nz26 rfl) ?_
 refine qD rfl (zP (u := x) ag26 rfl (bq.pins _ _ _ (bm 0 _ rfl))) ?_
 refine qD rfl (zN Tryz.underlying26 (v := x) rfl hx) ?_
 refine qM (vJ 0) ?_
 refine qe (zA ?_)
 refine zX ?_
 refine yQ (fun (k : Nat) (en : Nat → Value) (W : World) => ∃ (br : Nat → Value) (a : Nat) (at_ : Value) (ats : List Int) (t : Value) (y : Value) (aa : Value) (b : PSt) (o : Pin), en = (upd (upd (upd (upd (upd (upd br 0 (.pointer (some ⟨p, 0, none⟩))) 4 (.slice none 0 0)) 5 at_) 13 x) 14 (vJ (fs.length : Int))) 15 (vJ (a : Int))) ∧ k = fs.length - a ∧ Ext (inP p L R B mm) G w o W ∧ Pin.le ay o ∧ (a ≤ fs.length) ∧ (LdOk fs q b a ats) ∧ (Own eInt 3 o W w.heap.size at_ (ats)) ∧ (Pk 57 3 o W p t y aa mm b) ∧ (PIn w ((inP p L R B mm)) p t y aa mm) ∧ (PoolOk b) ∧ (PX q b) ∧ (NP p t y aa mm at_.ownBlock)) _ ⟨_, 0, am, [], L, R, B, q, ay, (pS 15 (pS 14 (pS 13 (pS 5 (pS 4 (pU 0)))))), rfl, bq, Pin.le_refl _, Nat.zero_le _, LdOk.start, c1, cz, hpin, hok, (PX.refl _), c0⟩ ?_
 rintro eh _ ei ⟨br, a, at_, ats, t, y, aa, b, o, rfl, ej, ab, an, hk, hld, az, a0, a1, ac, a2, a3⟩
 have ek := a2.len
 have el : (b.ns.map Nd.l).length = b.ns.length ∧ (b.ns.map Nd.r).length = b.ns.length := ⟨List.length_map .., List.length_map ..⟩
 have em : b.bs.length = b.ns.length ∧ b.ns.length ≤ 1048576 := ⟨ac.ar.ok.len, ac.ar.ok.lim⟩
 have hal := hld.len
 have hah := hld.hi
 have hfl := hf.len
 refine zB (zC ?_)
 refine qD rfl (yV rfl rfl) ?_
 refine qe (zA (zB ?_))
 refine yI (p := ((a : Int) : Int) < (fs.length : Int)) rfl rfl (fun c2 => ?_) (fun c2 => ?_)
 ·skip
  have oo := xI hf.opts (show a < fs.length by omega)
  have hfe := hf.lens a (by omega)
  refine wp_skip ?_
  refine zA (zB ?_)
  refine zX ?_
  refine zB (zC ?_)
  refine qD rfl (zJ Tryz.underlying26 sz68 (v := x) rfl rfl hx (by omega) (by omega)) ?_
  obtain ⟨ad, ae, a4, a5, c3⟩ := nm_node (hx.at (z := (a : Int)) (by omega) (by omega)) (j := a) rfl
  have eo := a4.max
  have ep := a5.max
  refine qD rfl (c3 ag68 sz68 rfl (Pins.of_le ab.pins (Pin.le_trans ak an))) ?_
  refine qI rfl (yH [(.slice none 0 0), (.slice none 0 0)] zr68 rfl ab.pins (fun a6 eq bt c4 bu a7 => ?_))
  have bv := ab.step bu a7
  have c5 := az.below a7
  have c6 := a0.below a7 bu
  have bw : Apart (some a6) at_.ownBlock := zI (congrArg some bt) az.lt
  have bx := a0.new (x := (some a6)) (fun k hk => by rw [(congrArg some bt)] at hk; cases hk; exact Nat.le_refl _)
  have bz : w.heap.size ≤ a6 := by have := ab.size; omega
  refine q0 rfl rfl rfl (yM (cs' := [ad, ae]) (us := [ad, ae]) (v := (.agg [ad, ae].toArray)) sz68 rfl rfl rfl (ones2 a4.one a5.one) bv.pins c4 (Nat.le_of_ble_eq_true rfl) rfl (fun ao c7 b0 a8 er => ?_))
  have c8 := bv.write b0 a8 ((zV bz))
  have c9 := c5.keptA a8 bw.symm
  have da := c6.kept a8 b0 bx
  obtain ⟨af, ag, b1, b2, b4⟩ := c7.shut c8 bz
  have db := c9.moreA ag b4 bw.symm
  have dc := da.more ag b4 bx
  refine qe (zA ?_)
  refine xG (S := fun wz => Pins af wz) (last := 14) (by kernel_rfl) rfl ?_
  have ap : Below ao.heap.size ao ao.drew := (Below.refl _ _).drew
  have b5 := b1.pins.below ap
  have c := b1.step b5 ap
  have a9 := db.below ap
  have b6 := dc.below ap b5
  refine dM 0 at_ c.pins ?_
  refine dM 1 (.pointer (some ⟨p, 0, none⟩)) c.pins ?_
  refine dT (i := 2) rfl rfl (by kernel_rfl) (fun _ _ => zO (k := 0) rfl Tryz.underlying68 rfl nz57 rfl) c.pins ?_
  refine dT (i := 3) rfl rfl (by kernel_rfl) (fun _ hS => zP (u := ad) ag57 rfl (hS _ _ _ (b2 0 _ rfl))) c.pins ?_
  refine dM 4 at_ c.pins ?_
  refine dT (i := 6) rfl rfl (by kernel_rfl) (fun _ _ => zO (k := 1) rfl Tryz.underlying68 rfl nz57 rfl) c.pins ?_
  refine dT (i := 7) rfl rfl (by kernel_rfl) (fun _ hS => zP (u := ae) ag57 rfl (hS _ _ _ (b2 1 _ rfl))) c.pins ?_
  refine dM 8 at_ c.pins ?_
  refine dO (i := 5) (zT (i := 5) rfl rfl rfl (zD rfl _) (zM (vs := [ad, at_]) Tryz.func127 nm127 rfl rfl rfl ?_))
  refine Calls.mono (renamed_spec (Gadd.pins c.pins at_) ((a4.mono (Pin.le_trans (Pin.le_trans ak an) ag)).mono (Gadd.le _ _ _)) a9.read (by omega) (fun i hi => by have h7 := oo.1 _ (yS (d := (0 : Int)) hi); omega)) ?_
  rintro _ b7 ⟨ba, es, rfl, de, b8⟩
  refine ⟨_, rfl, ?_⟩
  have ah := deep_back c.pins b8
  have bb := de.anti flat_int (Pin.le_trans (Gadd.le af ao.drew at_) b8.le)
  have ai := c.step ah.pins ah.below
  have bc := a9.below ah.below
  have b9 := b6.below ah.below ah.pins
  have df := zS bb.lt a9.lt
  have dg := b6.new (x := ba.ownBlock) (fun k hk => (bb.lt k hk).1)
  have ca : Own eInt 3 af b7 w.heap.size ba (atL ats ((fs.getD a default).l)) := bb.weaken c.size
  have et : (atL ats ((fs.getD a default).l)).length = ((fs.getD a default).l).length := xH
  refine ⟨fun _ => ai.pins, ?_⟩
  refine dO (i := 9) (zT (i := 9) rfl rfl rfl (zD rfl _) (zM (vs := [ae, at_]) Tryz.func127 nm127 rfl rfl rfl ?_))
  refine Calls.mono (renamed_spec (Gadd.pins ai.pins at_) ((a5.mono (Pin.le_trans (Pin.le_trans ak an) ag)).mono (Gadd.le _ _ _)) bc.read (by omega) (fun i hi => by have h7 := oo.2 _ (yS (d := (0 : Int)) hi); omega)) ?_
  rintro _ dh ⟨bd, eu, rfl, di, cb⟩
  refine ⟨_, rfl, ?_⟩
  have s := deep_back ai.pins cb
  have aq := di.anti flat_int (Pin.le_trans (Gadd.le af b7 at_) cb.le)
  have cc := ai.step s.pins s.below
  have dj := bc.below s.below
  have dk := ca.below s.below
  have dl := b9.below s.below s.pins
  have dm := zS aq.lt bc.lt
  have dn := zS aq.lt ca.lt
  have dp := b9.new (x := bd.ownBlock) (fun k hk => (aq.lt k hk).1)
  have dq : Own eInt 3 af dh w.heap.size bd (atL ats ((fs.getD a default).r)) := aq.weaken ai.size
  have ev : (atL ats ((fs.getD a default).r)).length = ((fs.getD a default).r).length := xH
  refine ⟨fun _ => cc.pins, ?_⟩
  obtain ⟨ew, f, dr, ds, be⟩ := dk.sealed cc
  have dt := dj.moreO f be df.symm
  have du := dq.moreO f be dn
  have dv := dl.moreO f be dg
  obtain ⟨ex, g, bf, dw, cd⟩ := du.sealed dr
  have ce := dt.moreO g cd dm.symm
  have dx := dv.moreO g cd dp
  refine dO (i := 10) (zT (i := 10) rfl rfl rfl (zD rfl _) (zM (vs := [(.pointer (some ⟨p, 0, none⟩)), ba, bd]) Tryz.func102 nm102 rfl rfl rfl ?_))
  refine Calls.mono (node_spec bf.pins dx ac (ds.mono g) dw (by omega) ⟨by rw [xH]; omega, by rw [xH]; omega⟩ (hld.opt oo.1) (hld.opt oo.2)) ?_
  rintro _ ey ⟨aj, dy, dz, d0, h, cf, rfl, d1, au, bg, cg, m, d2, d3, d4, ez⟩
  refine ⟨_, rfl, ?_⟩
  have av := bf.trans m a1
  have d5 := ce.extS m a3
  have ch := NP.call a3 cg (xV ce)
  have d6 := PIn.call a1 cg bf.size
  have e0 := bg.len
  have e1 : (h.ns.map Nd.l).length = h.ns.length ∧ (h.ns.map Nd.r).length = h.ns.length := ⟨List.length_map .., List.length_map ..⟩
  have e2 : h.bs.length = h.ns.length ∧ h.ns.length ≤ 1048576 := ⟨au.ar.ok.len, au.ar.ok.lim⟩
  refine ⟨fun _ => (Pins.of_le av.pins (Pin.le_trans (Pin.le_trans f g) m.le)), ?_⟩
  refine dO (i := 11) (zT (i := 11) rfl rfl rfl (zD rfl _) (yU (E := eInt) (e := 3) [(vJ aj)] [aj] Tryz.underlying57 sz3 zr3 (by exact xQ (by rfl)) (yC (by rfl)) rfl rfl rfl rfl (by decide) av.pins (fun ci d7 d8 cj bh e3 => ?_)))
  have aw := av.step cj bh
  have ck := d5.below bh
  have cl := d1.below bh cj
  have d9 : Own eInt 3 cf d7 w.heap.size ci ([aj]) := d8.weaken av.size
  refine ⟨fun _ => (Pins.of_le aw.pins (Pin.le_trans (Pin.le_trans f g) m.le)), ?_⟩
  refine dO (i := 12) (zT (i := 12) rfl rfl rfl (zD rfl _) (oA (E := eInt) (v := at_) (u := ci) 8 Tryz.underlying57 ap3 (by decide) rfl rfl aw.pins ck d9.src (aw.size) (fun cm e4 ea cn co eb => ?_)))
  have bi := aw.write cn co ((yB ck))
  have ec := cl.kept co cn ch
  have ed := np_app ch cl eb
  have e5 : (ats ++ ([aj])).length = ats.length + 1 := List.length_append
  refine ⟨fun _ => (Pins.of_le bi.pins (Pin.le_trans (Pin.le_trans f g) m.le)), ?_⟩
  refine dM 13 cm (Pins.of_le bi.pins (Pin.le_trans (Pin.le_trans f g) m.le)) ?_
  refine yT (by kernel_rfl) ?_
  refine yJ ?_
  refine zA (zC ?_)
  refine qD rfl (yR rfl rfl (by omega)) ?_
  refine qM (vJ ((a : Int) + 1)) ?_
  refine qe ?_
  refine yK ?_
  refine ⟨_, ?_, _, rfl, _, a + 1, cm, ats ++ ([aj]), dy, dz, d0, h, cf, (pS 15 (pS 14 (pS 13 (pS 5 (pS 4 (pU 0)))))), rfl, bi, (Pin.le_trans (Pin.le_trans (Pin.le_trans (Pin.le_trans an ag) f) g) m.le), (by omega), (hld.step hf (by omega) ac au bg d2 d3 d4), ea, ec, d6, au, (PX.trans a2 bg), ed⟩
  omega
 refine wp_exit ?_
 refine yA ?_
 refine yN ?_
 refine yL ?_
 refine zA (zB (zC ?_))
 refine qM at_ ?_
 refine qM at_ ?_
 refine qe (zA ?_)
 refine wp_ret ?_
 refine zR ?_
 refine zQ (v := at_) rfl rfl rfl ?_
 have hkf : a = fs.length := by omega
 rw [hkf] at hld
 exact ⟨at_, ats, t, y, aa, b, o, rfl, a0, ac, a2, PIn.lo a1 rfl, ab, az, a3, hld⟩

theorem root_spec {w : World} {G : Pin} {p : Nat} {L R B : Value} {mm : PM} {q : PSt} (hP : Pins G w) (hpk : Pk 57 3 G w p L R B mm q) (hok : PoolOk q) {x : Value} {fs : List Nd} (hx : RSl eNode G x fs) (hf : FormOk fs) (hl : q.ns.length + fs.length ≤ 1048576) (hf1 : 1 ≤ fs.length) :
  Calls Tryz.prog 49 [(.pointer (some ⟨p, 0, none⟩)), (.agg [x].toArray)].toArray w fun e w' => ∃ (z : Int) (L' R' B' : Value) (q' : PSt) (G' : Pin), e = .returned (vJ z) ∧ Pk 57 3 G' w' p L' R' B' mm q' ∧ PoolOk q' ∧ PX q q' ∧ PLo w p L R B mm L' R' B' ∧ Ext (inP p L R B mm) G w G' w' ∧ PlaceOk q' z ∧ pd q' z = gOf fs ∧ q'.ns.length ≤ q.ns.length + fs.length := by
 refine yD (n := 15) Tryz.func49 Tryz.ntmps49 rfl rfl ?_
 have d : Ext (inP p L R B mm) G w G w := Ext.refl hP
 have hpin : PIn w (inP p L R B mm) p L R B mm := PIn.self
 have av : (q.ns.map Nd.l).length = q.ns.length ∧ (q.ns.map Nd.r).length = q.ns.length := ⟨List.length_map .., List.length_map ..⟩
 have aw : q.bs.length = q.ns.length ∧ q.ns.length ≤ 1048576 := ⟨hok.ar.ok.len, hok.ar.ok.lim⟩
 have hfl := hf.len
 refine zB (zC ?_)
 refine qI rfl (qA [x] (v := (.agg [x].toArray)) rfl rfl d.pins (fun i w4 aa ab m o => ?_))
 have ac := d.step m o
 have ad := hpk.below o m
 have ae := hpk.new (x := (some i)) (fun k hk => by rw [(congrArg some aa)] at hk; cases hk; exact Nat.le_refl _)
 have af : w.heap.size ≤ i := by have := d.size; omega
 obtain ⟨ay, s, c, ag, ah⟩ := ab.shut ac af
 have ai := ad.more s ah ae
 refine qM (vJ 0) ?_
 refine qe (zA (zB (zC ?_)))
 refine qM (.pointer (some ⟨p, 0, none⟩)) ?_
 refine qD rfl (yF (cs := [x]) ag28 sz28 rfl (fun j u hj => c.pins _ _ _ (ag _ _ (by simpa using hj)))) ?_
 refine qI rfl (zM (vs := [(.pointer (some ⟨p, 0, none⟩)), (.agg [x].toArray)]) Tryz.func93 nm93 rfl rfl rfl ?_)
 refine Calls.mono (load_spec c.pins ai hok (hx.mono s) hf hl) ?_
 rintro _ az ⟨b, ats, aj, ak, al, a, am, rfl, an, f, t, ao, ap, aq, a0, g⟩
 refine ⟨_, rfl, ?_⟩
 have y := c.trans ap hpin
 have au := PIn.call hpin ao c.size
 have a1 := t.len
 have a2 : (a.ns.map Nd.l).length = a.ns.length ∧ (a.ns.map Nd.r).length = a.ns.length := ⟨List.length_map .., List.length_map ..⟩
 have a3 : a.bs.length = a.ns.length ∧ a.ns.length ≤ 1048576 := ⟨f.ar.ok.len, f.ar.ok.lim⟩
 have h := aq.weaken c.size
 have a4 := g.len
 refine qM b ?_
 refine qe (zA (zB (zC ?_)))
 refine qM b ?_
 refine qM b ?_
 refine qD rfl (zN Tryz.underlying57 (v := b) rfl h.read) ?_
 refine qD rfl (qU rfl rfl (by omega)) ?_
 refine qD rfl (zJ Tryz.underlying57 sz3 (v := b) rfl rfl h.read (by omega) (by omega)) ?_
 refine qD rfl (zK (r := ats.getD ((ats.length : Int) - 1).toNat 0) rfl ag3 (z := ((ats.length : Int) - 1)) rfl h.read (Gadd.pins y.pins b) (by omega) (by omega)) ?_
 refine qM (vJ (ats.getD ((ats.length : Int) - 1).toNat 0)) ?_
 refine qe (zA ?_)
 refine wp_ret ?_
 refine zR ?_
 refine zQ (v := (vJ (ats.getD ((ats.length : Int) - 1).toNat 0))) rfl rfl rfl ?_
 have hrt := g.root hf1
 rw [show fs.length - 1 = ((ats.length : Int) - 1).toNat by omega] at hrt
 exact ⟨_, aj, ak, al, a, am, rfl, an, f, t, PIn.lo au rfl, y, hrt.1, hrt.2, g.hi⟩

end PL1
end Go.Proofs.YtkfgdhanaijddaaGreatDoor

set_option maxRecDepth 20000
set_option maxHeartbeats 2000000
namespace Go.Proofs.YtkfgdhanaijddaaGreatDoor
namespace PA1
open Go.RowKit Go.GL Go.Proofs










theorem parts_spec {w : World} {G : Pin} {p : Nat} {L R B : Value} {mm : PM} {q : PSt} (hP : Pins G w) (hpk : Pk 57 3 G w p L R B mm q) (hok : PoolOk q) {x : Value} {xs : List Int} (hx : RSl eInt G x xs) (hr : ∀ i, i < xs.length → PlaceOk q (xs.getD i 0)) (hxl : xs.length ≤ 1048576) :
  Calls Tryz.prog 101 [(.pointer (some ⟨p, 0, none⟩)), x].toArray w fun e w' => ∃ (u : Value) (zs : List Int) (G' : Pin), e = .returned u ∧ Own eInt 3 G' w' w.heap.size u zs ∧ PtOk q xs zs zs.length ∧ Ext noS G w G' w' := by
 refine yD (n := 82) Tryz.func101 Tryz.ntmps101 rfl rfl ?_
 have bl : Ext noS G w G w := Ext.refl hP
 have hpin : PIn w (inP p L R B mm) p L R B mm := PIn.self
 have eg : (q.ns.map Nd.l).length = q.ns.length ∧ (q.ns.map Nd.r).length = q.ns.length := ⟨List.length_map .., List.length_map ..⟩
 have eh : q.bs.length = q.ns.length ∧ q.ns.length ≤ 1048576 := ⟨hok.ar.ok.len, hok.ar.ok.lim⟩
 have hm := hx.max
 refine zB (zC ?_)
 refine qM (.slice none 0 0) ?_
 refine qe (zA (zB (zC ?_)))
 refine qI rfl (o_makeMap (fun k : Int => Value.int .i64 k) (fun v : Bool => Value.bool v) bl.pins (fun m3 w4 ej cx b6 b7 => ?_))
 have bm := bl.step b6 b7
 have b8 := hpk.below b7 b6
 have b9 := hpk.new (x := some m3) (fun k hk => by cases hk; omega)
 have ca : w.heap.size ≤ m3 := by have := bl.size; omega
 refine qM (.map (some m3)) ?_
 refine qe (zA (zB (zC ?_)))
 refine qI rfl (yZ (E := eInt) (e := 3) Tryz.underlying57 sz3 bm.pins (fun a5 cy cz cb bn c0 => ?_))
 have c1 := bm.step cb bn
 have c2 := cx.below bn
 have c3 := b8.below bn cb
 have c4 := b8.new (x := a5.ownBlock) (fun k hk => by rw [c0] at hk; cases hk; exact Nat.le_refl _)
 have c5 : Own eInt 3 G cy w.heap.size a5 ([]) := cz.weaken bm.size
 refine qM a5 ?_
 refine qe (zA (zB (zB (zC ?_))))
 refine qM x ?_
 refine qD rfl (zN Tryz.underlying57 (v := x) rfl hx) ?_
 refine qM (vJ 0) ?_
 refine qe (zA ?_)
 refine zX ?_
 refine yQ (fun (k : Nat) (en : Nat → Value) (W : World) => ∃ (ad : Nat → Value) (i : Nat) (lv : Value) (ls : List Int) (sn : List (Int × Bool)) (ae : Pin), en = (upd (upd (upd (upd (upd (upd (upd ad 0 (.pointer (some ⟨p, 0, none⟩))) 4 (.slice none 0 0)) 5 (.map (some m3))) 6 lv) 16 x) 17 (vJ (xs.length : Int))) 18 (vJ (i : Int))) ∧ k = xs.length - i ∧ Ext noS G w ae W ∧ Pin.le G ae ∧ (i ≤ xs.length) ∧ (PtOk q (xs.take i) ls 0) ∧ (SnOk sn ls) ∧ (Own eInt 3 ae W w.heap.size lv (ls)) ∧ (Mp (fun k : Int => Value.int .i64 k) (fun v : Bool => Value.bool v) W m3 (sn)) ∧ (Pk 57 3 ae W p L R B mm q) ∧ (NP p L R B mm lv.ownBlock)) _ ⟨_, 0, a5, [], [], G, (pS 18 (pS 17 (pS 16 (pS 6 (pS 5 (pS 4 (pU 0))))))), rfl, c1, Pin.le_refl _, Nat.zero_le _, PtOk.start, SnOk.start, c5, c2, c3, c4⟩ ?_
 rintro ek _ el ⟨ad, i, lv, ls, sn, ae, rfl, em, au, bo, hi, hpt, hsn, a6, av, bp, a7⟩
 have eo := hpt.len
 refine zB (zC ?_)
 refine qD rfl (yV rfl rfl) ?_
 refine qe (zA (zB ?_))
 refine yI (p := ((i : Int) : Int) < (xs.length : Int)) rfl rfl (fun c6 => ?_) (fun c6 => ?_)
 ·skip
  refine wp_skip ?_
  refine zA (zB ?_)
  refine zX ?_
  refine zB (zC ?_)
  refine qD rfl (zJ Tryz.underlying57 sz3 (v := x) rfl rfl hx (by omega) (by omega)) ?_
  refine qD rfl (zK (r := xs.getD i 0) rfl ag3 (z := (i : Int)) rfl hx (Pins.of_le au.pins bo) (by omega) (by omega)) ?_
  refine qM (vJ (xs.getD i 0)) ?_
  refine qe (zA (zB (zC ?_)))
  refine qM (.map (some m3)) ?_
  refine qM (vJ (xs.getD i 0)) ?_
  refine qD rfl (run_look1_bool (k := (xs.getD i 0)) (key_int Tryz.underlying3) Tryz.underlying148 zr4 av rfl rfl) ?_
  refine qD rfl (qC rfl) ?_
  refine qe (zA ?_)
  refine c_ifn rfl rfl (fun bq => ?_) (fun bq => ?_)
  ·skip
   refine wp_skip ?_
   refine yJ ?_
   refine zA (zC ?_)
   refine qD rfl (yR rfl rfl (by omega)) ?_
   refine qM (vJ ((i : Int) + 1)) ?_
   refine qe ?_
   refine yK ?_
   refine ⟨_, ?_, _, rfl, _, i + 1, lv, ls, sn, ae, (pS 18 (pS 17 (pS 16 (pS 6 (pS 5 (pS 4 (pU 0))))))), rfl, au, bo, (by omega), (hpt.rseen (by omega) (hsn.yes bq)), hsn, a6, av, bp, a7⟩
   omega
  refine zB (zC ?_)
  refine qM (.map (some m3)) ?_
  refine qM (vJ (xs.getD i 0)) ?_
  refine q0 rfl rfl rfl (o_mapUpdate (val := (fun v : Bool => Value.bool v)) (k := (xs.getD i 0)) (v := true) (key_int Tryz.underlying3) Tryz.underlying148 rfl rfl rfl au.pins av (fun ep c7 cc br eq => ?_))
  have bt := au.write cc br ((zV ca))
  have c8 := a6.keptA br (yO av a6).symm
  have c9 := bp.kept br cc b9
  refine qe (zA (zC ?_))
  refine qM lv ?_
  refine qM (vJ (xs.getD i 0)) ?_
  refine qI rfl (yU (E := eInt) (e := 3) [(vJ (xs.getD i 0))] [xs.getD i 0] Tryz.underlying57 sz3 zr3 (by exact xQ (by rfl)) (yC (by rfl)) rfl rfl rfl rfl (by decide) bt.pins (fun cd da db ce a8 er => ?_))
  have bu := bt.step ce a8
  have bv := c8.below a8
  have cf := c7.below a8
  have cg := c9.below a8 ce
  have dc : Own eInt 3 ae da w.heap.size cd ([xs.getD i 0]) := db.weaken bt.size
  refine qI rfl (oA (E := eInt) (v := lv) (u := cd) 8 Tryz.underlying57 ap3 (by decide) rfl rfl bu.pins bv dc.src (bu.size) (fun ch es dd ci bw de => ?_))
  have df := bu.write ci bw ((yB bv))
  have dg := cf.kept bw (yO cf bv)
  have dh := cg.kept bw ci a7
  have di := np_app a7 cg de
  have et : (ls ++ ([xs.getD i 0])).length = ls.length + 1 := List.length_append
  refine qM ch ?_
  refine qe ?_
  refine yJ ?_
  refine zA (zC ?_)
  refine qD rfl (yR rfl rfl (by omega)) ?_
  refine qM (vJ ((i : Int) + 1)) ?_
  refine qe ?_
  refine yK ?_
  refine ⟨_, ?_, _, rfl, _, i + 1, ch, ls ++ ([xs.getD i 0]), putE sn (xs.getD i 0) true, ae, (pS 18 (pS 17 (pS 16 (pS 6 (pS 5 (pS 4 (pU 0))))))), rfl, df, bo, (by omega), (hpt.rnew (by omega) (hsn.no bq) (hr i (by omega))), hsn.put, dd, dg, dh, di⟩
  omega
 refine wp_exit ?_
 refine yA ?_
 refine yN ?_
 refine yL ?_
 refine zA (zB (zB (zC ?_)))
 refine qM (vJ 0) ?_
 refine qe (zA ?_)
 refine zX ?_
 have hin : i = xs.length := by omega
 rw [hin, qF (Nat.le_refl _)] at hpt
 refine yQ (fun (k : Nat) (en : Nat → Value) (W : World) => ∃ (ad : Nat → Value) (a : Nat) (ab : Value) (b : List Int) (a9 : List (Int × Bool)) (af : Pin), en = (upd (upd (upd (upd (upd ad 0 (.pointer (some ⟨p, 0, none⟩))) 4 (.slice none 0 0)) 5 (.map (some m3))) 6 ab) 9 (vJ (a : Int))) ∧ k = q.ns.length - a ∧ Ext noS G w af W ∧ Pin.le ae af ∧ (PtOk q xs b a) ∧ (SnOk a9 b) ∧ (Own eInt 3 af W w.heap.size ab (b)) ∧ (Mp (fun k : Int => Value.int .i64 k) (fun v : Bool => Value.bool v) W m3 (a9)) ∧ (Pk 57 3 af W p L R B mm q) ∧ (NP p L R B mm ab.ownBlock)) _ ⟨_, 0, lv, ls, sn, ae, (pS 9 (pS 6 (pS 5 (pS 4 (pU 0))))), rfl, au, Pin.le_refl _, hpt, hsn, a6, av, bp, a7⟩ ?_
 rintro eu _ al ⟨ad, a, ab, b, a9, af, rfl, ev, am, dj, an, dk, ba, dl, aw, dm⟩
 have ew := an.len
 have ex := an.kl
 refine zB (zB (zC ?_))
 refine qM (vJ (a : Int)) ?_
 refine qM ab ?_
 refine qD rfl (zN Tryz.underlying57 (v := ab) rfl ba.read) ?_
 refine qD rfl (yV rfl rfl) ?_
 refine qe (zA ?_)
 refine yI (p := ((a : Int) : Int) < (b.length : Int)) rfl rfl (fun dn => ?_) (fun dn => ?_)
 ·skip
  have hzp := an.pl _ (yS (d := (0 : Int)) (show a < b.length by omega))
  have ey := hzp.1
  have ez := hzp.2
  have holl := hok.ar.ok.lens (b.getD a 0).toNat (by omega)
  refine wp_skip ?_
  refine zA (zB ?_)
  refine zX ?_
  refine zB ?_
  have dp := Gadd.pins am.pins ab
  have dq := Gadd.pins am.pins L
  have dr := Gadd.pins am.pins R
  have bb := ba.read
  have ds := aw.ol.read
  have dt := aw.rr.read
  refine xG (S := fun wz => BxR wz p [L, R, B, (.map (some mm.f)), (.map (some mm.o)), (.map (some mm.c)), (.map (some mm.s)), (.map (some mm.n))] ∧ Pins (Gadd af al ab) wz ∧ Pins (Gadd af al L) wz ∧ Pins (Gadd af al R) wz) (last := 22) (by kernel_rfl) rfl ?_
  have ai : Below al.heap.size al al.drew := (Below.refl _ _).drew
  have cj := am.pins.below ai
  have du := am.step cj ai
  have dv := ba.below ai
  have dw := dl.below ai
  have g := aw.below ai cj
  have t := dp.below ai
  have y := dq.below ai
  have aa := dr.below ai
  refine dT (i := 0) rfl rfl (by kernel_rfl) (fun _ _ => zU (v := (.pointer (some ⟨p, 0, none⟩))) rfl) ⟨g.bx.reads, t, y, aa⟩ ?_
  refine dT (i := 1) rfl rfl (by kernel_rfl) (fun _ _ => xB rfl) ⟨g.bx.reads, t, y, aa⟩ ?_
  refine dT (i := 2) rfl rfl (by kernel_rfl) (fun _ _ => zO (k := 0) rfl Tryz.underlying117 rfl nz115 rfl) ⟨g.bx.reads, t, y, aa⟩ ?_
  refine dT (i := 3) rfl rfl (by kernel_rfl) (fun _ hS => zP (u := L) ag115 rfl (hS.1 0 _ rfl)) ⟨g.bx.reads, t, y, aa⟩ ?_
  refine dT (i := 4) rfl rfl (by kernel_rfl) (fun _ _ => zU (v := ab) rfl) ⟨g.bx.reads, t, y, aa⟩ ?_
  refine dT (i := 5) rfl rfl (by kernel_rfl) (fun _ _ => zU (v := (vJ (a : Int))) rfl) ⟨g.bx.reads, t, y, aa⟩ ?_
  refine dT (i := 6) rfl rfl (by kernel_rfl) (fun _ _ => zJ Tryz.underlying57 sz3 (v := ab) rfl rfl bb (by omega) (by omega)) ⟨g.bx.reads, t, y, aa⟩ ?_
  refine dT (i := 7) rfl rfl (by kernel_rfl) (fun _ hS => zK (r := b.getD a 0) rfl ag3 (z := (a : Int)) rfl bb hS.2.1 (by omega) (by omega)) ⟨g.bx.reads, t, y, aa⟩ ?_
  refine dT (i := 8) rfl rfl (by kernel_rfl) (fun _ _ => zJ Tryz.underlying115 sz57 (v := L) rfl rfl ds (by omega) (by omega)) ⟨g.bx.reads, t, y, aa⟩ ?_
  obtain ⟨ax, bc, dx⟩ := nm_sl (aw.ol.at (z := (b.getD a 0)) (by omega) (by omega)) (j := (b.getD a 0).toNat) rfl
  rw [mapl_getD] at bc
  have e0 := bc.max
  refine dT (i := 9) rfl rfl (by kernel_rfl) (fun _ hS => dx ag57 rfl hS.2.2.1) ⟨g.bx.reads, t, y, aa⟩ ?_
  refine dT (i := 10) rfl rfl (by kernel_rfl) (fun _ _ => zU (v := (.pointer (some ⟨p, 0, none⟩))) rfl) ⟨g.bx.reads, t, y, aa⟩ ?_
  refine dT (i := 11) rfl rfl (by kernel_rfl) (fun _ _ => xB rfl) ⟨g.bx.reads, t, y, aa⟩ ?_
  refine dT (i := 12) rfl rfl (by kernel_rfl) (fun _ _ => zO (k := 1) rfl Tryz.underlying117 rfl nz115 rfl) ⟨g.bx.reads, t, y, aa⟩ ?_
  refine dT (i := 13) rfl rfl (by kernel_rfl) (fun _ hS => zP (u := R) ag115 rfl (hS.1 1 _ rfl)) ⟨g.bx.reads, t, y, aa⟩ ?_
  refine dT (i := 14) rfl rfl (by kernel_rfl) (fun _ _ => zU (v := ab) rfl) ⟨g.bx.reads, t, y, aa⟩ ?_
  refine dT (i := 15) rfl rfl (by kernel_rfl) (fun _ _ => zU (v := (vJ (a : Int))) rfl) ⟨g.bx.reads, t, y, aa⟩ ?_
  refine dT (i := 16) rfl rfl (by kernel_rfl) (fun _ _ => zJ Tryz.underlying57 sz3 (v := ab) rfl rfl bb (by omega) (by omega)) ⟨g.bx.reads, t, y, aa⟩ ?_
  refine dT (i := 17) rfl rfl (by kernel_rfl) (fun _ hS => zK (r := b.getD a 0) rfl ag3 (z := (a : Int)) rfl bb hS.2.1 (by omega) (by omega)) ⟨g.bx.reads, t, y, aa⟩ ?_
  refine dT (i := 18) rfl rfl (by kernel_rfl) (fun _ _ => zJ Tryz.underlying115 sz57 (v := R) rfl rfl dt (by omega) (by omega)) ⟨g.bx.reads, t, y, aa⟩ ?_
  obtain ⟨ay, bd, dy⟩ := nm_sl (aw.rr.at (z := (b.getD a 0)) (by omega) (by omega)) (j := (b.getD a 0).toNat) rfl
  rw [mapr_getD] at bd
  have e1 := bd.max
  refine dT (i := 19) rfl rfl (by kernel_rfl) (fun _ hS => dy ag57 rfl hS.2.2.2) ⟨g.bx.reads, t, y, aa⟩ ?_
  refine dT (i := 20) rfl rfl (by kernel_rfl) (fun _ _ => r_buildA (m := 1) [(.slice none 0 0), (.slice none 0 0)] [ax, ay] [(0, ax, [ax]), (1, ay, [ay])] Tryz.underlying149 zr149 rfl sz57 rfl (List.forall_mem_cons.2 ⟨(yY bc.one), (List.forall_mem_cons.2 ⟨(yY bd.one), (fun _ h => by cases h)⟩)⟩) rfl) ⟨g.bx.reads, t, y, aa⟩ ?_
  refine dT (i := 21) rfl rfl (by kernel_rfl) (fun _ _ => zU (v := (vJ 0)) rfl) ⟨g.bx.reads, t, y, aa⟩ ?_
  refine yT (by kernel_rfl) ?_
  refine zA ?_
  refine zX ?_
  refine yQ (fun (k : Nat) (en : Nat → Value) (W : World) => ∃ (ad : Nat → Value) (s : Nat) (ao : Value) (ap : List Int) (az : List (Int × Bool)) (aj : Pin), en = (upd (upd (upd (upd (upd (upd (upd ad 0 (.pointer (some ⟨p, 0, none⟩))) 4 (.slice none 0 0)) 5 (.map (some m3))) 6 ao) 9 (vJ (a : Int))) 59 (.agg [ax, ay].toArray)) 60 (vJ (s : Int))) ∧ k = 2 - s ∧ Ext noS G w aj W ∧ Pin.le af aj ∧ (s ≤ 2) ∧ (PtIn q xs ap a (b.getD a 0) (dzL (q.ns.getD (b.getD a 0).toNat default).l (q.ns.getD (b.getD a 0).toNat default).r s)) ∧ (SnOk az ap) ∧ (Own eInt 3 aj W w.heap.size ao (ap)) ∧ (Mp (fun k : Int => Value.int .i64 k) (fun v : Bool => Value.bool v) W m3 (az)) ∧ (Pk 57 3 aj W p L R B mm q) ∧ (NP p L R B mm ao.ownBlock)) _ ⟨_, 0, ab, b, a9, af, (pS 60 (pS 59 (pS 9 (pS 6 (pS 5 (pS 4 (pU 0))))))), rfl, du, Pin.le_refl _, Nat.zero_le _, (PtIn.start an (by omega)), dk, dv, dw, g, dm⟩ ?_
  rintro e2 _ e3 ⟨ad, s, ao, ap, az, aj, rfl, e4, ck, be, hs, bf, cl, cm, cn, co, cp⟩
  have e5 := bf.ok.len
  refine zB (zC ?_)
  refine qD rfl (yV rfl rfl) ?_
  refine qe (zA (zB ?_))
  refine yI (p := ((s : Int) : Int) < 2) rfl rfl (fun dz => ?_) (fun dz => ?_)
  ·skip
   refine wp_skip ?_
   refine zA (zB ?_)
   refine zX ?_
   refine zB (zC ?_)
   obtain ⟨a0, bg, d0⟩ := name_index2 (bc.mono be) (bd.mono be) (z := (s : Int)) s (by omega) (by omega) rfl
   have e6 := bg.max
   refine qD rfl (d0 Tryz.underlying149 rfl sz57 ag57 rfl rfl) ?_
   refine qM a0 ?_
   refine qe (zA (zB (zC ?_)))
   refine qM a0 ?_
   refine qD rfl (zN Tryz.underlying57 (v := a0) rfl bg) ?_
   refine qM (vJ 0) ?_
   refine qe (zA ?_)
   refine zX ?_
   refine yQ (fun (k : Nat) (en : Nat → Value) (W : World) => ∃ (ad : Nat → Value) (j : Nat) (ak : Value) (ag : List Int) (aq : List (Int × Bool)) (ah : Pin), en = (upd (upd (upd (upd (upd (upd (upd (upd (upd (upd ad 0 (.pointer (some ⟨p, 0, none⟩))) 4 (.slice none 0 0)) 5 (.map (some m3))) 6 ak) 9 (vJ (a : Int))) 59 (.agg [ax, ay].toArray)) 60 (vJ (s : Int))) 63 a0) 64 (vJ ((pick2 s ((q.ns.getD (b.getD a 0).toNat default).l) ((q.ns.getD (b.getD a 0).toNat default).r)).length : Int))) 65 (vJ (j : Int))) ∧ k = (pick2 s (q.ns.getD (b.getD a 0).toNat default).l (q.ns.getD (b.getD a 0).toNat default).r).length - j ∧ Ext noS G w ah W ∧ Pin.le aj ah ∧ (j ≤ (pick2 s (q.ns.getD (b.getD a 0).toNat default).l (q.ns.getD (b.getD a 0).toNat default).r).length) ∧ (PtIn q xs ag a (b.getD a 0) (dzL (q.ns.getD (b.getD a 0).toNat default).l (q.ns.getD (b.getD a 0).toNat default).r s ++ (pick2 s (q.ns.getD (b.getD a 0).toNat default).l (q.ns.getD (b.getD a 0).toNat default).r).take j)) ∧ (SnOk aq ag) ∧ (Own eInt 3 ah W w.heap.size ak (ag)) ∧ (Mp (fun k : Int => Value.int .i64 k) (fun v : Bool => Value.bool v) W m3 (aq)) ∧ (Pk 57 3 ah W p L R B mm q) ∧ (NP p L R B mm ak.ownBlock)) _ ⟨_, 0, ao, ap, az, aj, (pS 65 (pS 64 (pS 63 (pS 60 (pS 59 (pS 9 (pS 6 (pS 5 (pS 4 (pU 0)))))))))), rfl, ck, Pin.le_refl _, Nat.zero_le _, (by rw [List.take_zero, List.append_nil]; exact bf), cl, cm, cn, co, cp⟩ ?_
   rintro e7 _ e8 ⟨ad, j, ak, ag, aq, ah, rfl, e9, a1, bh, hj, a2, a3, bi, a4, bz, bj⟩
   have fa := a2.ok.len
   refine zB (zC ?_)
   refine qD rfl (yV rfl rfl) ?_
   refine qe (zA (zB ?_))
   refine yI (p := ((j : Int) : Int) < ((pick2 s ((q.ns.getD (b.getD a 0).toNat default).l) ((q.ns.getD (b.getD a 0).toNat default).r)).length : Int)) rfl rfl (fun d1 => ?_) (fun d1 => ?_)
   ·skip
    refine wp_skip ?_
    refine zA (zB ?_)
    refine zX ?_
    refine zB (zC ?_)
    refine qD rfl (zJ Tryz.underlying57 sz3 (v := a0) rfl rfl bg (by omega) (by omega)) ?_
    refine qD rfl (zK (r := (pick2 s ((q.ns.getD (b.getD a 0).toNat default).l) ((q.ns.getD (b.getD a 0).toNat default).r)).getD j 0) rfl ag3 (z := (j : Int)) rfl bg (Pins.of_le a1.pins bh) (by omega) (by omega)) ?_
    refine qM (vJ ((pick2 s ((q.ns.getD (b.getD a 0).toNat default).l) ((q.ns.getD (b.getD a 0).toNat default).r)).getD j 0)) ?_
    refine qe (zA (zB (zC ?_)))
    refine qM (.map (some m3)) ?_
    refine qM (vJ ((pick2 s ((q.ns.getD (b.getD a 0).toNat default).l) ((q.ns.getD (b.getD a 0).toNat default).r)).getD j 0)) ?_
    refine qD rfl (run_look1_bool (k := ((pick2 s ((q.ns.getD (b.getD a 0).toNat default).l) ((q.ns.getD (b.getD a 0).toNat default).r)).getD j 0)) (key_int Tryz.underlying3) Tryz.underlying148 zr4 a4 rfl rfl) ?_
    refine qD rfl (qC rfl) ?_
    refine qe (zA ?_)
    refine c_ifn rfl rfl (fun b0 => ?_) (fun b0 => ?_)
    ·skip
     refine wp_skip ?_
     refine yJ ?_
     refine zA (zC ?_)
     refine qD rfl (yR rfl rfl (by omega)) ?_
     refine qM (vJ ((j : Int) + 1)) ?_
     refine qe ?_
     refine yK ?_
     refine ⟨_, ?_, _, rfl, _, j + 1, ak, ag, aq, ah, (pS 65 (pS 64 (pS 63 (pS 60 (pS 59 (pS 9 (pS 6 (pS 5 (pS 4 (pU 0)))))))))), rfl, a1, bh, (by omega), (by rw [xX _ 0 (show j < (pick2 s (q.ns.getD (b.getD a 0).toNat default).l (q.ns.getD (b.getD a 0).toNat default).r).length by omega), ← List.append_assoc]; exact a2.seen (a3.yes b0)), a3, bi, a4, bz, bj⟩
     omega
    refine zB (zC ?_)
    refine qM (.map (some m3)) ?_
    refine qM (vJ ((pick2 s ((q.ns.getD (b.getD a 0).toNat default).l) ((q.ns.getD (b.getD a 0).toNat default).r)).getD j 0)) ?_
    refine q0 rfl rfl rfl (o_mapUpdate (val := (fun v : Bool => Value.bool v)) (k := ((pick2 s ((q.ns.getD (b.getD a 0).toNat default).l) ((q.ns.getD (b.getD a 0).toNat default).r)).getD j 0)) (v := true) (key_int Tryz.underlying3) Tryz.underlying148 rfl rfl rfl a1.pins a4 (fun fb d2 cq b1 fc => ?_))
    have b2 := a1.write cq b1 ((zV ca))
    have d3 := bi.keptA b1 (yO a4 bi).symm
    have d4 := bz.kept b1 cq b9
    refine qe (zA (zC ?_))
    refine qM ak ?_
    refine qM (vJ ((pick2 s ((q.ns.getD (b.getD a 0).toNat default).l) ((q.ns.getD (b.getD a 0).toNat default).r)).getD j 0)) ?_
    refine qI rfl (yU (E := eInt) (e := 3) [(vJ ((pick2 s ((q.ns.getD (b.getD a 0).toNat default).l) ((q.ns.getD (b.getD a 0).toNat default).r)).getD j 0))] [(pick2 s ((q.ns.getD (b.getD a 0).toNat default).l) ((q.ns.getD (b.getD a 0).toNat default).r)).getD j 0] Tryz.underlying57 sz3 zr3 (by exact xQ (by rfl)) (yC (by rfl)) rfl rfl rfl rfl (by decide) b2.pins (fun cr d5 d6 cs bk fd => ?_))
    have b3 := b2.step cs bk
    have b4 := d3.below bk
    have ct := d2.below bk
    have cu := d4.below bk cs
    have d7 : Own eInt 3 ah d5 w.heap.size cr ([(pick2 s ((q.ns.getD (b.getD a 0).toNat default).l) ((q.ns.getD (b.getD a 0).toNat default).r)).getD j 0]) := d6.weaken b2.size
    refine qI rfl (oA (E := eInt) (v := ak) (u := cr) 8 Tryz.underlying57 ap3 (by decide) rfl rfl b3.pins b4 d7.src (b3.size) (fun cv fe d8 cw b5 d9 => ?_))
    have ea := b3.write cw b5 ((yB b4))
    have eb := ct.kept b5 (yO ct b4)
    have ec := cu.kept b5 cw bj
    have ed := np_app bj cu d9
    have ff : (ag ++ ([(pick2 s ((q.ns.getD (b.getD a 0).toNat default).l) ((q.ns.getD (b.getD a 0).toNat default).r)).getD j 0])).length = ag.length + 1 := List.length_append
    refine qM cv ?_
    refine qe ?_
    refine yJ ?_
    refine zA (zC ?_)
    refine qD rfl (yR rfl rfl (by omega)) ?_
    refine qM (vJ ((j : Int) + 1)) ?_
    refine qe ?_
    refine yK ?_
    refine ⟨_, ?_, _, rfl, _, j + 1, cv, ag ++ ([(pick2 s ((q.ns.getD (b.getD a 0).toNat default).l) ((q.ns.getD (b.getD a 0).toNat default).r)).getD j 0]), putE aq ((pick2 s ((q.ns.getD (b.getD a 0).toNat default).l) ((q.ns.getD (b.getD a 0).toNat default).r)).getD j 0) true, ah, (pS 65 (pS 64 (pS 63 (pS 60 (pS 59 (pS 9 (pS 6 (pS 5 (pS 4 (pU 0)))))))))), rfl, ea, bh, (by omega), (by rw [xX _ 0 (show j < (pick2 s (q.ns.getD (b.getD a 0).toNat default).l (q.ns.getD (b.getD a 0).toNat default).r).length by omega), ← List.append_assoc]; exact a2.new hok (a3.no b0) (dz_in (by omega) (by omega))), a3.put, d8, eb, ec, ed⟩
    omega
   have hjn : j = (pick2 s (q.ns.getD (b.getD a 0).toNat default).l (q.ns.getD (b.getD a 0).toNat default).r).length := by omega
   rw [hjn, qF (Nat.le_refl _)] at a2
   have ee : PtIn q xs ag a (b.getD a 0) (dzL (q.ns.getD (b.getD a 0).toNat default).l (q.ns.getD (b.getD a 0).toNat default).r (s + 1)) := by rw [dz_next (by omega)]; exact a2
   refine wp_exit ?_
   refine yA ?_
   refine yN ?_
   refine yL ?_
   refine yJ ?_
   refine zA (zC ?_)
   refine qD rfl (yR rfl rfl (by omega)) ?_
   refine qM (vJ ((s : Int) + 1)) ?_
   refine qe ?_
   refine yK ?_
   refine ⟨_, ?_, _, rfl, _, s + 1, ak, ag, aq, ah, (pS 60 (pS 59 (pS 9 (pS 6 (pS 5 (pS 4 (pU 0))))))), rfl, a1, (Pin.le_trans be bh), (by omega), ee, a3, bi, a4, bz, bj⟩
   omega
  have ef : s = 2 := by omega
  rw [ef] at bf
  have hdone := bf.done (fun o ho => ho)
  have fg := hdone.kl
  refine wp_exit ?_
  refine yA ?_
  refine yN ?_
  refine yL ?_
  refine yJ ?_
  refine zA (zC ?_)
  refine qM (vJ (a : Int)) ?_
  refine qD rfl (yR rfl rfl (by omega)) ?_
  refine qM (vJ ((a : Int) + 1)) ?_
  refine qe ?_
  refine yK ?_
  refine ⟨_, ?_, _, rfl, _, a + 1, ao, ap, az, aj, (pS 9 (pS 6 (pS 5 (pS 4 (pU 0))))), rfl, ck, (Pin.le_trans dj be), hdone, cl, cm, cn, co, cp⟩
  omega
 refine wp_exit ?_
 refine yA ?_
 refine yN ?_
 refine yL ?_
 refine zA (zB (zC ?_))
 refine qM ab ?_
 refine qM ab ?_
 refine qe (zA ?_)
 refine wp_ret ?_
 refine zR ?_
 refine zQ (v := ab) rfl rfl rfl ?_
 have hkk : a = b.length := by omega
 rw [hkk] at an
 exact ⟨_, _, _, rfl, ba, an, am⟩

end PA1
end Go.Proofs.YtkfgdhanaijddaaGreatDoor

set_option maxRecDepth 20000
set_option maxHeartbeats 2000000
namespace Go.Proofs.YtkfgdhanaijddaaGreatDoor
namespace SO1
open Go.RowKit Go.GL Go.Proofs
open Go.Proofs.YtkfgdhanaijddaaGreatDoor.B1










theorem cmpB_spec {w : World} {G : Pin} {p : Nat} {L R B : Value} {mm : PM} {q : PSt} (hP : Pins G w) (hpk : Pk 57 3 G w p L R B mm q) (hok : PoolOk q) {bx : Nat} (hbx : BxP G bx [.pointer (some ⟨p, 0, none⟩)]) {a b : Int} (ha : PlaceOk q a) (hb : PlaceOk q b) :
  Calls Tryz.prog 120 [(vJ a), (vJ b), (.pointer (some ⟨bx, 0, none⟩))].toArray w fun e w' => e = .returned (vJ (cmpI (bn q a) (bn q b))) ∧ ∃ n os, w' = Go.Sort.grow (w.drewN n) os := by
 refine yD (n := 21) Tryz.func120 Tryz.ntmps120 rfl rfl ?_
 have t : Ext noS G w G w := Ext.refl hP
 have hpin : PIn w (inP p L R B mm) p L R B mm := PIn.self
 have aa : (q.ns.map Nd.l).length = q.ns.length ∧ (q.ns.map Nd.r).length = q.ns.length := ⟨List.length_map .., List.length_map ..⟩
 have ab : q.bs.length = q.ns.length ∧ q.ns.length ≤ 1048576 := ⟨hok.ar.ok.len, hok.ar.ok.lim⟩
 have ac := ha.1
 have ad := ha.2
 have ae := hb.1
 have af := hb.2
 refine zB (zC ?_)
 refine qM (vJ 0) ?_
 refine qe (zA (zB ?_))
 have y := Gadd.pins t.pins B
 have j := hpk.ob.read
 refine xG (S := fun wz => Pins G wz ∧ BxR wz p [L, R, B, (.map (some mm.f)), (.map (some mm.o)), (.map (some mm.c)), (.map (some mm.s)), (.map (some mm.n))] ∧ Pins (Gadd G w B) wz) (last := 16) (by kernel_rfl) rfl ?_
 have m : Below w.heap.size w w.drew := (Below.refl _ _).drew
 have x := t.pins.below m
 have ag : w.drew.drawn = w.drawn + 1 := rfl
 have d := t.step x m
 have g := hpk.below m x
 have h := y.below m
 refine dT (i := 0) rfl rfl (by kernel_rfl) (fun _ hS => zP (u := (.pointer (some ⟨p, 0, none⟩))) ag69 rfl (hS.1 _ _ _ (hbx 0 _ rfl))) ⟨d.pins, g.bx.reads, h⟩ ?_
 refine dT (i := 1) rfl rfl (by kernel_rfl) (fun _ _ => xB rfl) ⟨d.pins, g.bx.reads, h⟩ ?_
 refine dT (i := 2) rfl rfl (by kernel_rfl) (fun _ _ => zO (k := 2) rfl Tryz.underlying117 rfl nz57 rfl) ⟨d.pins, g.bx.reads, h⟩ ?_
 refine dT (i := 3) rfl rfl (by kernel_rfl) (fun _ hS => zP (u := B) ag57 rfl (hS.2.1 2 _ rfl)) ⟨d.pins, g.bx.reads, h⟩ ?_
 refine dT (i := 4) rfl rfl (by kernel_rfl) (fun _ _ => zU (v := (vJ a)) rfl) ⟨d.pins, g.bx.reads, h⟩ ?_
 refine dT (i := 5) rfl rfl (by kernel_rfl) (fun _ _ => zJ Tryz.underlying57 sz3 (v := B) rfl rfl j (by omega) (by omega)) ⟨d.pins, g.bx.reads, h⟩ ?_
 refine dT (i := 6) rfl rfl (by kernel_rfl) (fun _ hS => zK (r := q.bs.getD (a).toNat 0) rfl ag3 (z := a) rfl j hS.2.2 (by omega) (by omega)) ⟨d.pins, g.bx.reads, h⟩ ?_
 refine dT (i := 7) rfl rfl (by kernel_rfl) (fun _ hS => zP (u := (.pointer (some ⟨p, 0, none⟩))) ag69 rfl (hS.1 _ _ _ (hbx 0 _ rfl))) ⟨d.pins, g.bx.reads, h⟩ ?_
 refine dT (i := 8) rfl rfl (by kernel_rfl) (fun _ _ => xB rfl) ⟨d.pins, g.bx.reads, h⟩ ?_
 refine dT (i := 9) rfl rfl (by kernel_rfl) (fun _ _ => zO (k := 2) rfl Tryz.underlying117 rfl nz57 rfl) ⟨d.pins, g.bx.reads, h⟩ ?_
 refine dT (i := 10) rfl rfl (by kernel_rfl) (fun _ hS => zP (u := B) ag57 rfl (hS.2.1 2 _ rfl)) ⟨d.pins, g.bx.reads, h⟩ ?_
 refine dT (i := 11) rfl rfl (by kernel_rfl) (fun _ _ => zU (v := (vJ b)) rfl) ⟨d.pins, g.bx.reads, h⟩ ?_
 refine dT (i := 12) rfl rfl (by kernel_rfl) (fun _ _ => zJ Tryz.underlying57 sz3 (v := B) rfl rfl j (by omega) (by omega)) ⟨d.pins, g.bx.reads, h⟩ ?_
 refine dT (i := 13) rfl rfl (by kernel_rfl) (fun _ hS => zK (r := q.bs.getD (b).toNat 0) rfl ag3 (z := b) rfl j hS.2.2 (by omega) (by omega)) ⟨d.pins, g.bx.reads, h⟩ ?_
 refine dO (i := 14) (zT (i := 14) rfl rfl rfl (zD rfl _) (zM (vs := [(vJ (q.bs.getD (a).toNat 0)), (vJ (q.bs.getD (b).toNat 0))]) Tryz.func85 nm85 rfl rfl rfl ?_))
 refine Calls.mono (cmpCompare_spec d.pins) ?_
 rintro _ _ ⟨rfl, rfl⟩
 refine ⟨_, rfl, ?_⟩
 refine ⟨fun _ => ⟨d.pins, g.bx.reads, h⟩, ?_⟩
 refine dT (i := 15) rfl rfl (by kernel_rfl) (fun _ _ => qG (v := (vJ (cmpI (q.bs.getD (a).toNat 0) (q.bs.getD (b).toNat 0)))) rfl) ⟨d.pins, g.bx.reads, h⟩ ?_
 refine yT (by kernel_rfl) ?_
 refine zA ?_
 refine wp_ret ?_
 refine zR ?_
 refine zQ (v := (vJ (cmpI (q.bs.getD (a).toNat 0) (q.bs.getD (b).toNat 0)))) rfl rfl rfl ?_
 exact ⟨rfl, grow_of d.below (by omega)⟩

theorem cmpE_spec {w : World} {G : Pin} {x y : Ent} (hP : Pins G w) (hx : EntOk G x) (hy : EntOk G y) :
  Calls Tryz.prog 123 [(.agg [(vJ x.id), x.l, x.r].toArray), (.agg [(vJ y.id), y.l, y.r].toArray)].toArray w fun e w' => e = .returned (vJ (orL [cmpL x.nd.l y.nd.l, cmpL x.nd.r y.nd.r])) ∧ ∃ n os, w' = Go.Sort.grow (w.drewN n) os := by
 refine yD (n := 21) Tryz.func123 Tryz.ntmps123 rfl rfl ?_
 have g : Ext noS G w G w := Ext.refl hP
 refine zB (zC ?_)
 refine qI rfl (o_boxd [(vJ x.id), x.l, x.r] (v := (.agg [(vJ x.id), x.l, x.r].toArray)) rfl rfl g.pins (fun b1 w2 aw ax ab ac ad => ?_))
 have ae := g.step ac ad
 have af : w.heap.size ≤ b1 := by have := g.size; omega
 obtain ⟨ay, d, h, j, az⟩ := ab.shut ae af
 refine qI rfl (o_boxd [(vJ y.id), y.l, y.r] (v := (.agg [(vJ y.id), y.l, y.r].toArray)) rfl rfl h.pins (fun ag c a0 a1 ah ai aj => ?_))
 have ak := h.step ai aj
 have al : w.heap.size ≤ ag := by have := h.size; omega
 obtain ⟨m, b, o, p, a2⟩ := ah.shut ak al
 refine qM (vJ 0) ?_
 refine qe (zA (zB ?_))
 refine xG (S := fun wz => Pins m wz) (last := 17) (by kernel_rfl) rfl ?_
 have q : Below c.heap.size c c.drew := (Below.refl _ _).drew
 have am := o.pins.below q
 have a3 : c.drew.drawn = c.drawn + 1 := rfl
 have a := o.step am q
 refine dT (i := 0) rfl rfl (by kernel_rfl) (fun _ _ => zO (k := 1) rfl Tryz.underlying139 rfl nz68 rfl) a.pins ?_
 refine dT (i := 1) rfl rfl (by kernel_rfl) (fun _ _ => zO (k := 1) rfl Tryz.underlying68 rfl nz57 rfl) a.pins ?_
 refine dT (i := 2) rfl rfl (by kernel_rfl) (fun _ hS => zP (u := x.l) ag57 rfl ((Pins.of_le hS b) _ _ _ (j 1 _ rfl))) a.pins ?_
 refine dT (i := 3) rfl rfl (by kernel_rfl) (fun _ _ => zO (k := 1) rfl Tryz.underlying139 rfl nz68 rfl) a.pins ?_
 refine dT (i := 4) rfl rfl (by kernel_rfl) (fun _ _ => zO (k := 1) rfl Tryz.underlying68 rfl nz57 rfl) a.pins ?_
 refine dT (i := 5) rfl rfl (by kernel_rfl) (fun _ hS => zP (u := y.l) ag57 rfl (hS _ _ _ (p 1 _ rfl))) a.pins ?_
 refine dT (i := 7) rfl rfl (by kernel_rfl) (fun _ _ => zO (k := 1) rfl Tryz.underlying139 rfl nz68 rfl) a.pins ?_
 refine dT (i := 8) rfl rfl (by kernel_rfl) (fun _ _ => zO (k := 2) rfl Tryz.underlying68 rfl nz57 rfl) a.pins ?_
 refine dT (i := 9) rfl rfl (by kernel_rfl) (fun _ hS => zP (u := x.r) ag57 rfl ((Pins.of_le hS b) _ _ _ (j 2 _ rfl))) a.pins ?_
 refine dT (i := 10) rfl rfl (by kernel_rfl) (fun _ _ => zO (k := 1) rfl Tryz.underlying139 rfl nz68 rfl) a.pins ?_
 refine dT (i := 11) rfl rfl (by kernel_rfl) (fun _ _ => zO (k := 2) rfl Tryz.underlying68 rfl nz57 rfl) a.pins ?_
 refine dT (i := 12) rfl rfl (by kernel_rfl) (fun _ hS => zP (u := y.r) ag57 rfl (hS _ _ _ (p 2 _ rfl))) a.pins ?_
 refine dO (i := 6) (zT (i := 6) rfl rfl rfl (zD rfl _) (zM (vs := [x.l, y.l]) Tryz.func107 nm107 rfl rfl rfl ?_))
 refine Calls.mono (slCompare_spec a.pins (hx.1.mono (Pin.le_trans d b)) (hy.1.mono (Pin.le_trans d b))) ?_
 rintro _ _ ⟨rfl, rfl⟩
 refine ⟨_, rfl, ?_⟩
 refine ⟨fun _ => a.pins, ?_⟩
 refine dO (i := 13) (zT (i := 13) rfl rfl rfl (zD rfl _) (zM (vs := [x.r, y.r]) Tryz.func107 nm107 rfl rfl rfl ?_))
 refine Calls.mono (slCompare_spec a.pins (hx.2.1.mono (Pin.le_trans d b)) (hy.2.1.mono (Pin.le_trans d b))) ?_
 rintro _ _ ⟨rfl, rfl⟩
 refine ⟨_, rfl, ?_⟩
 refine ⟨fun _ => a.pins, ?_⟩
 refine dO (i := 14) (zT (i := 14) rfl rfl rfl (zD rfl _) (o_buildFd (E := eInt) (e := 3) [(vJ (cmpL x.nd.l y.nd.l)), (vJ (cmpL x.nd.r y.nd.r))] [cmpL x.nd.l y.nd.l, cmpL x.nd.r y.nd.r] Tryz.underlying57 sz3 zr3 (by exact reps2 (by rfl) (by rfl)) (ones2 (by rfl) (by rfl)) rfl rfl rfl rfl (by decide) a.pins (fun s an a4 ao ap aq a5 => ?_)))
 have t := a.step ap aq
 have ar : Own eInt 3 m an w.heap.size s ([cmpL x.nd.l y.nd.l, cmpL x.nd.r y.nd.r]) := ao.weaken a.size
 refine ⟨fun _ => t.pins, ?_⟩
 obtain ⟨a6, z, f, au, a7⟩ := ar.sealed t
 refine dO (i := 15) (zT (i := 15) rfl rfl rfl (zD rfl _) (zM (vs := [s]) Tryz.func106 nm106 rfl rfl rfl ?_))
 refine Calls.mono (cmpOr_spec f.pins au) ?_
 rintro _ _ ⟨rfl, rfl⟩
 refine ⟨_, rfl, ?_⟩
 refine ⟨fun _ => (Pins.of_le f.pins z), ?_⟩
 refine dM 16 (vJ (orL ([cmpL x.nd.l y.nd.l, cmpL x.nd.r y.nd.r]))) (Pins.of_le f.pins z) ?_
 refine yT (by kernel_rfl) ?_
 refine zA ?_
 refine wp_ret ?_
 refine zR ?_
 refine zQ (v := (vJ (orL ([cmpL x.nd.l y.nd.l, cmpL x.nd.r y.nd.r])))) rfl rfl rfl ?_
 exact ⟨rfl, grow_of f.below (by omega)⟩

theorem sortB_spec {w : World} {G : Pin} {p : Nat} {L R B : Value} {mm : PM} {q : PSt} (hP : Pins G w) (hpk : Pk 57 3 G w p L R B mm q) (hok : PoolOk q) {bx base : Nat} (hbx : BxP G bx [.pointer (some ⟨p, 0, none⟩)]) {v : Value} {zs : List Int} (hv : Own eInt 3 G w base v zs) (hz : ∀ z ∈ zs, PlaceOk q z) (hnp : NP p L R B mm v.ownBlock) (hl : zs.length ≤ 1048576) :
  Calls Tryz.prog 119 [v, (.func (.func 120) #[] #[(.pointer (some ⟨bx, 0, none⟩))])].toArray w fun en w' => ∃ ys : List Int, en = .returned (.tuple #[]) ∧ Own eInt 3 G w' base v ys ∧ ys.Perm zs ∧ (∀ i j, i < j → j < ys.length → bn q (ys.getD i 0) ≤ bn q (ys.getD j 0)) ∧ Ext (inO v.ownBlock) G w G w' := by
 have hnone : ∀ a cap, v = .slice a 0 cap → zs = [] → Calls Tryz.prog 119 [v, (.func (.func 120) #[] #[(.pointer (some ⟨bx, 0, none⟩))])].toArray w fun en w' => ∃ ys : List Int, en = .returned (.tuple #[]) ∧ Own eInt 3 G w' base v ys ∧ ys.Perm zs ∧ (∀ i j, i < j → j < ys.length → bn q (ys.getD i 0) ≤ bn q (ys.getD j 0)) ∧ Ext (inO v.ownBlock) G w G w' := by
  rintro a cap rfl rfl
  refine (Tryz.slices_SortFunc_none (α := Int) a cap _ w).mono ?_
  rintro en w' ⟨rfl, rfl⟩
  exact ⟨[], rfl, hv, List.Perm.refl _, fun i j _ hj => absurd hj (Nat.not_lt_zero j), Ext.refl hP⟩
 rcases own_cases hv with ⟨l, o⟩ | ⟨g, cap, hvg⟩
 ·exact hnone _ _ l o
 by_cases h0 : zs.length = 0
 ·exact hnone _ _ (by rw [hvg, h0]) (List.eq_nil_of_length_eq_zero h0)
 subst hvg
 letI : Inhabited (Plc q) := ⟨⟨zs.getD 0 0, hz _ (yS (by omega))⟩⟩
 obtain ⟨_, r, u, s⟩ := own_holds hv
 obtain ⟨d, hd⟩ : ∃ d, d = (plcs q zs hz).toArray := ⟨_, rfl⟩
 have hdm : d.map (·.1) = zs.toArray := by rw [hd]; simp only [List.map_toArray]; rw [plcs_val hz]
 have hds : d.size = zs.length := by have := congrArg Array.size hdm; simpa using this
 have hH : Go.Sort.Holds (fun x : Plc q => Value.int .i64 x.1) w g 0 d := holds_map (enc' := Value.int .i64) (f := fun x : Plc q => x.1) (fun _ => rfl) (by rw [hdm]; exact s)
 have hcmp : Go.Proofs.CmpLays1 Tryz.prog 120 #[(.pointer (some ⟨bx, 0, none⟩))] (fun x : Plc q => Value.int .i64 x.1) (cfB q) g 0 d.size w := fun m os dk hs x y => by
  have hgr : w.grownBy (Go.Proofs.sortWorld (fun x : Plc q => Value.int .i64 x.1) w g 0 m dk os) (some g) := by
   unfold Go.Proofs.sortWorld
   rw [putRow_map (enc := fun x : Plc q => Value.int .i64 x.1) (enc' := id) (f := fun x : Plc q => Value.int .i64 x.1) (fun _ => rfl)]
   exact grownBy_put
  have hx := Ext.one (hP.grown hgr (fun k hk => by cases hk; exact hv.free g rfl)) hgr
  exact cmpB_spec hx.pins (hpk.extS hx fun k hk hs => hnp k hs hk) hok hbx x.2 y.2
 have hcon := Tryz.slices_SortFunc (fun x : Plc q => Value.int .i64 x.1) (fun _ => rfl) (cfB q) (swoB q) 120 #[(.pointer (some ⟨bx, 0, none⟩))] g 0 cap d w (Go.Proofs.enters_of Tryz.func120 (by kernel_rfl) rfl) hcmp hH r (by omega)
 rw [hds] at hcon
 refine hcon.mono ?_
 rintro en w' ⟨rfl, d', n, os, hp, hs, hw⟩
 rw [← hds] at hp hs
 obtain ⟨hsz, hpl⟩ := perm_list hp
 have hyl : (d'.map (·.1)).toList.length = zs.length := by simp [hsz, hds]
 obtain ⟨a, b, c⟩ := own_put (w' := w') (ys := (d'.map (·.1)).toList) (d := d'.map (·.1)) (os := os) (m := n) hv hP (by rw [hw]; unfold Go.Proofs.sortWorld; rw [putRow_map (enc := fun x : Plc q => Value.int .i64 x.1) (enc' := Value.int .i64) (f := fun x : Plc q => x.1) (fun _ => rfl)]) (by simp [hsz, hds]) (List.take_length ..)
 rw [hyl] at a
 refine ⟨_, rfl, a, ?_, fun i j hij hj => ?_, Ext.one b c⟩
 ·have e := hpl.map (·.1)
  have t : d.toList.map (·.1) = zs := by rw [hd]; exact plcs_val hz
  rw [t] at e; simpa using e
 ·rw [hyl] at hj
  have e := hs i j (Nat.zero_le _) hij (by omega)
  rw [ltB] at e
  have h : ∀ i, i < zs.length → (d'.map (·.1)).toList.getD i 0 = (d'[i]!).1 := fun i hi => by
   rw [getElem!_pos d' i (by omega)]
   simp [List.getD, show i < d'.size by omega]
  rw [h i (by omega), h j hj]
  have := of_decide_eq_false e
  omega

theorem sortE_spec {w : World} {G : Pin} {base lo hi : Nat} {v : Value} {es : List Ent} {LV : List Leaf} (hP : Pins G w) (hv : Own eEnt 139 G w base v es) (hL : Lvs 3 G w lo hi LV) (hm : ∀ x ∈ es, (x.l, x.nd.l) ∈ LV ∧ (x.r, x.nd.r) ∈ LV) (hap : ApL LV v.ownBlock) (hl : es.length ≤ 1048576) :
  Calls Tryz.prog 122 [v, (.func (.func 123) #[] #[])].toArray w fun en w' => ∃ ys : List Ent, en = .returned (.tuple #[]) ∧ Own eEnt 139 G w' base v ys ∧ ys.Perm es ∧ (∀ i j, i < j → j < ys.length → ¬ aheadI (ys.getD j default).nd (ys.getD i default).nd < 0) ∧ Ext (inO v.ownBlock) G w G w' := by
 have hnone : ∀ a cap, v = .slice a 0 cap → es = [] → Calls Tryz.prog 122 [v, (.func (.func 123) #[] #[])].toArray w fun en w' => ∃ ys : List Ent, en = .returned (.tuple #[]) ∧ Own eEnt 139 G w' base v ys ∧ ys.Perm es ∧ (∀ i j, i < j → j < ys.length → ¬ aheadI (ys.getD j default).nd (ys.getD i default).nd < 0) ∧ Ext (inO v.ownBlock) G w G w' := by
  rintro a cap rfl rfl
  refine (Tryz.slices_SortFunc_ent_none (α := Int) a cap _ w).mono ?_
  rintro en w' ⟨rfl, rfl⟩
  exact ⟨[], rfl, hv, List.Perm.refl _, fun i j _ hj => absurd hj (Nat.not_lt_zero j), Ext.refl hP⟩
 rcases own_casesF hv with ⟨q, s⟩ | ⟨g, cap, hvg⟩
 ·exact hnone _ _ q s
 by_cases h0 : es.length = 0
 ·exact hnone _ _ (by rw [hvg, h0]) (List.eq_nil_of_length_eq_zero h0)
 subst hvg
 have hz : ∀ x ∈ es, EntOk (GLv G w LV) x := fun x hx => ⟨hL.read (hm x hx).1, hL.read (hm x hx).2, (hL.own _ (hm x hx).1).one, (hL.own _ (hm x hx).2).one⟩
 letI : Inhabited (EntS (GLv G w LV)) := ⟨⟨es.getD 0 default, hz _ (yS (by omega))⟩⟩
 obtain ⟨_, t, cells, hcl, hr, z⟩ := own_cellsF hv
 obtain ⟨d, hd⟩ : ∃ d, d = (ents (GLv G w LV) es hz).toArray := ⟨_, rfl⟩
 have hdm : d.toList.map (·.1) = es := by rw [hd]; exact ents_val hz
 have hds : d.size = es.length := by have := congrArg List.length hdm; simpa using this
 have hdi : ∀ i, i < d.size → (d[i]!).1 = es.getD i default := fun i hi => by
  rw [getElem!_pos d i hi]
  have := congrArg (fun l : List Ent => l[i]?) hdm
  simp only [List.getElem?_map, Array.getElem?_toList, Array.getElem?_eq_getElem hi, Option.map_some] at this
  simp [List.getD, ← this]
 have hflat : Go.Sort.flatK (encE (G := GLv G w LV)) 3 d = cells.toArray := flatK_cells (by rw [hds]; exact hcl) fun i hi => by
  have h4 := hr i (es.getD i default) (by simp [List.getD, show i < es.length by omega])
  have e : (cells.drop (i * 3)).take 3 = [.int .i64 (es.getD i default).id, (es.getD i default).l, (es.getD i default).r] := h4.1
  rw [e, ← hdi i hi]; rfl
 have hH : Go.Sort.HoldsK (encE (G := GLv G w LV)) 3 w g 0 d := by unfold Go.Sort.HoldsK; rw [hflat]; exact z
 have hcmp : Go.Proofs.CmpLays Tryz.prog 123 #[] (encE (G := GLv G w LV)) 3 cfE g 0 d.size w := fun m os dk hs x y => by
  have hgr : w.grownBy (Go.Proofs.sortWorldK (encE (G := GLv G w LV)) 3 w g 0 m dk os) (some g) := by
   unfold Go.Proofs.sortWorldK Go.Sort.putRowK
   exact grownBy_put
  have hpp : Pins (GLv G w LV) (Go.Proofs.sortWorldK (encE (G := GLv G w LV)) 3 w g 0 m dk os) := (GLv.pins hP).grown hgr fun k hk o u hG => by
   cases hk
   rcases hG with hG | ⟨⟨p, hp, hpo⟩, _⟩
   ·exact hv.free g rfl o u hG
   ·exact hap p hp g hpo rfl
  exact cmpE_spec hpp x.2 y.2
 have hcon := Tryz.slices_SortFunc_ent 3 (Go.GL.run_isAgg (by kernel_rfl)) (Go.GL.run_sizeOf (by kernel_rfl)) (encE (G := GLv G w LV)) (fun _ => rfl) (fun x u hu => by
  simp only [encE, List.mem_cons, List.not_mem_nil, or_false] at hu
  rcases hu with rfl | rfl | rfl
  ·rfl
  ·exact x.2.2.2.1
  ·exact x.2.2.2.2) cfE (swoE _) 123 #[] g 0 cap d w (Go.Proofs.enters_of Tryz.func123 (by kernel_rfl) rfl) hcmp hH t (by omega)
 rw [hds] at hcon
 refine hcon.mono ?_
 rintro en w' ⟨rfl, d', n, os, hp, hs, hw⟩
 rw [← hds] at hp hs
 obtain ⟨hsz, hpl⟩ := perm_list hp
 have hyl : (d'.toList.map (·.1)).length = es.length := by simp [hsz, hds]
 have f : ∀ i, i < es.length → (d'.toList.map (·.1)).getD i default = (d'[i]!).1 := fun i hi => by
  rw [getElem!_pos d' i (by omega)]
  simp [List.getD, show i < d'.size by omega]
 obtain ⟨a, b, c⟩ := own_putF (ys := d'.toList.map (·.1)) (F := Go.Sort.flatK (encE (G := GLv G w LV)) 3 d') (os := os) (m := n) hv hP hw (by rw [Go.Sort.size_flatK, hsz, hds]; rfl) hyl (fun i y hy => by
  have hi : i < es.length := by have := (List.getElem?_eq_some_iff.1 hy).1; omega
  have e1 := f i hi
  have e0 : (d'.toList.map (·.1)).getD i default = y := by rw [List.getD_eq_getElem?_getD, hy]; rfl
  have h : y = (d'[i]!).1 := e0.symm.trans e1
  have e := chunkK (enc := encE (G := GLv G w LV)) (k := 3) (fun _ => rfl) (d := d') (i := i) (by omega)
  refine ⟨e.trans ?_, ?_, ?_⟩
  ·rw [h]; rfl
  ·rw [h]; exact (d'[i]!).2.2.2.1
  ·rw [h]; exact (d'[i]!).2.2.2.2)
 refine ⟨_, rfl, a, ?_, fun i j hij hj => ?_, Ext.one b c⟩
 ·have e := hpl.map (·.1)
  rw [hdm] at e; exact e
 ·rw [hyl] at hj
  have e := hs i j (Nat.zero_le _) hij (by omega)
  rw [ltE] at e
  rw [f i (by omega), f j hj]
  exact of_decide_eq_false e

end SO1
end Go.Proofs.YtkfgdhanaijddaaGreatDoor
