/- Texts of this claim in one file: E1, K1, PO1, PL1, NU1, NU2, NU3, NB4. -/
import Derived.Test.YtakkjmlnmcemaaaGreatDoorXs4
import Derived.Test.YtakkjmlnmcemaaaGreatDoorChecked
set_option maxRecDepth 20000
set_option maxHeartbeats 2000000
namespace Go.Proofs.YtakkjmlnmcemaaaGreatDoor
namespace E1
open Go.RowKit Go.GL Go.Proofs
open C1 D1








theorem mk3 : (Tryz.prog.info? 3).map (fun i => (i.size, i.bytes, i.zero)) = some (1, 8, some (.int .i64 0)) := by kernel_rfl
theorem mk4 : (Tryz.prog.info? 4).map (fun i => (i.size, i.bytes, i.zero)) = some (1, 1, some (.bool false)) := by kernel_rfl













theorem pl32 : (Tryz.prog.underlying 32).bind (placesD Tryz.prog) = some [(0, 1)] := by kernel_rfl
theorem pl65 : (Tryz.prog.underlying 65).bind (placesD Tryz.prog) = some [(0, 1), (1, 1)] := by kernel_rfl
theorem pl77 : (Tryz.prog.underlying 77).bind (placesD Tryz.prog) = some [(0, 1), (1, 1)] := by kernel_rfl









theorem add_spec {w : World} {G : Pin} {b : Nat} {bu bv : Value} {ns : List Nd} {bs : List Int} (hP : Pins G w) (hB : Bk 65 3 G w b bu bv ns bs) (hok : BookOk ns bs) {x : Value} {fs : List Nd} (hx : RSl eNode G x fs) (hf : FormOk fs) (hl : ns.length + fs.length ≤ 1048576) :
  Calls Tryz.prog 82 [(.pointer (some ⟨b, 0, none⟩)), (.agg [x].toArray)].toArray w fun e w' => ∃ (r u' v' : Value) (G' : Pin), e = .returned r ∧ RSl eInt G' r (addM ns bs fs).1 ∧ Bk 65 3 G' w' b u' v' (addM ns bs fs).2.1 (addM ns bs fs).2.2 ∧ Ext (inS b bu bv) G w G' w' ∧ Lo w (inS b bu bv) u'.ownBlock ∧ Lo w (inS b bu bv) v'.ownBlock := by
 refine zV (n := 37) Tryz.func82 Tryz.ntmps82 rfl rfl ?_
 have ay : Ext (inS b bu bv) G w G w := Ext.refl hP
 have hbx := hB.bx
 have hou := hB.ou
 have hov := hB.ov
 have habu := hB.abu
 have habv := hB.abv
 have hauv := hB.auv
 have hlob : Lo w (inS b bu bv) (some b) := lo_b
 have hlou : Lo w (inS b bu bv) bu.ownBlock := lo_u
 have hlov : Lo w (inS b bu bv) bv.ownBlock := lo_v
 have hlen := hok.len
 have hlim := hok.lim
 refine zB (zC ?_)
 refine qI rfl (xG [x] (v := (.agg [x].toArray)) rfl rfl ay.pins (fun b1 w2 az co cp am => ?_))
 have cq := ay.step cp am
 have cr := hou.below am
 have cs := hov.below am
 have ct := hbx.below am
 have cu : Apart (some b1) bu.ownBlock := zI (congrArg some az) hou.lt
 have cv : Apart (some b1) bv.ownBlock := zI (congrArg some az) hov.lt
 have cw : Apart (some b1) (some b) := zJ (congrArg some az) hbx.lt
 have cx : w.heap.size ≤ b1 := by have := ay.size; omega
 obtain ⟨a0, ab, a1, a2, a3⟩ := co.shut cq cx
 have bg := cr.moreA ab a3 cu.symm
 have bh := cs.moreA ab a3 cv.symm
 have bi := ct.moreA a3 cw.symm
 refine qM (.slice none 0 0) ?_
 refine qe (zA (zB (zC ?_)))
 refine qI rfl (xD (E := eInt) (e := 3) Tryz.underlying56 sz3 a1.pins (fun ac cy cz c0 an a4 => ?_))
 have c1 := a1.step c0 an
 have c2 := bg.below an
 have c3 := bh.below an
 have c4 := bi.below an
 have c5 : Apart ac.ownBlock bu.ownBlock := zI a4 bg.lt
 have c6 : Apart ac.ownBlock bv.ownBlock := zI a4 bh.lt
 have c7 : Apart ac.ownBlock (some b) := zJ a4 bi.lt
 have c8 : Own eInt 3 a0 cy w.heap.size ac ([]) := cz.weaken a1.size
 refine qM ac ?_
 refine qe (zA (zB (zB (zC ?_))))
 refine qM (vJ 0) ?_
 refine qe (zA ?_)
 refine zX (yT (fun (k : Nat) (en : Nat → Value) (W : World) => ∃ (bj : Nat → Value) (a : Nat) (at_ : Value) (ats : List Int) (m : Value) (o : Value) (g : List Nd) (h : List Int) (t : Pin), en = (upd (upd (upd (upd (upd bj 0 (.pointer (some ⟨b, 0, none⟩))) 3 (.pointer (some ⟨b1, 0, none⟩))) 4 (.slice none 0 0)) 5 at_) 6 (vJ (a : Int))) ∧ k = fs.length - a ∧ Ext (inS b bu bv) G w t W ∧ Pin.le a0 t ∧ (a ≤ fs.length) ∧ (addM ns bs (fs.take a) = (ats, g, h)) ∧ (AddOk ns a ats g h) ∧ (Own eInt 3 t W w.heap.size at_ (ats)) ∧ (Own eNode 65 t W 0 m (g)) ∧ (Own eInt 3 t W 0 o (h)) ∧ (Bx t W b [m, o]) ∧ (Apart at_.ownBlock m.ownBlock) ∧ (Apart at_.ownBlock o.ownBlock) ∧ (Apart at_.ownBlock (some b)) ∧ (Apart m.ownBlock o.ownBlock) ∧ (Apart m.ownBlock (some b)) ∧ (Apart o.ownBlock (some b)) ∧ (Lo w (inS b bu bv) m.ownBlock) ∧ (Lo w (inS b bu bv) o.ownBlock)) _ ⟨_, 0, ac, [], bu, bv, ns, bs, a0, (pS 6 (pS 5 (pS 4 (pS 3 (pU 0))))), rfl, c1, Pin.le_refl _, Nat.zero_le _, rfl, AddOk.start hok, c8, c2, c3, c4, c5, c6, c7, hauv, habu.symm, habv.symm, hlou, hlov⟩ ?_)
 rintro e2 _ a5 ⟨bj, a, at_, ats, m, o, g, h, t, rfl, e3, ao, y, hj, hr, hao, bk, bl, bm, bn, bo, bp, ap, bq, br, bt, bw, bz⟩
 have hal := hao.len
 have hah := hao.hi
 have hfl := hf.len
 refine zB (zB (zC ?_))
 refine qM (vJ (a : Int)) ?_
 refine qD rfl (zK (k := 0) rfl Tryz.underlying32 rfl nz30 rfl) (qD rfl (zL (u := x) ag30 rfl ((Pins.of_le ao.pins y) _ _ _ (a2 0 _ rfl))) (qD rfl (zM Tryz.underlying30 (v := x) rfl hx) (qD rfl (yV rfl rfl) (qe (zA ?_)))))
 refine yA (p := ((a : Int) : Int) < (fs.length : Int)) rfl rfl (fun c9 => ?_) (fun c9 => ?_)
 have aq := hao.at1 hf (by omega)
 have hfe := hf.lens a (by omega)
 refine wp_skip (zA (zB ?_))
 refine zX (yZ (S := fun wz => Pins t wz) (last := 22) (by kernel_rfl) rfl ?_)
 have ad : Below a5.heap.size a5 a5.drew := (Below.refl _ _).drew
 have da := ao.pins.below ad
 have c := ao.step da ad
 have a6 := bk.below ad
 have b0 := bl.below ad
 have b2 := bm.below ad
 have b3 := bn.below ad
 refine dM 0 at_ c.pins ?_
 refine dM 1 (.pointer (some ⟨b, 0, none⟩)) c.pins ?_
 refine dM 2 at_ c.pins ?_
 refine dT (i := 3) rfl rfl (by kernel_rfl) (fun _ _ => zK (k := 0) rfl Tryz.underlying32 rfl nz30 rfl) c.pins ?_
 refine dT (i := 4) rfl rfl (by kernel_rfl) (fun _ hS => zL (u := x) ag30 rfl ((Pins.of_le hS y) _ _ _ (a2 0 _ rfl))) c.pins ?_
 refine dM 5 (vJ (a : Int)) c.pins ?_
 refine dT (i := 6) rfl rfl (by kernel_rfl) (fun _ _ => zF Tryz.underlying30 sz65 (v := x) rfl rfl hx (by omega) (by omega)) c.pins ?_
 refine dT (i := 7) rfl rfl (by kernel_rfl) (fun _ _ => xI (off := 0) Tryz.underlying65 rfl rfl nz56 (z := (a : Int)) (k := 0) rfl hx (by omega) (by omega)) c.pins ?_
 obtain ⟨db, b4, dc⟩ := nm_nl (hx.at (z := (a : Int)) (by omega) (by omega)) (j := a) rfl
 have e4 := b4.max
 refine dT (i := 8) rfl rfl (by kernel_rfl) (fun _ hS => dc ag56 rfl (Pins.of_le hS (Pin.le_trans ab y))) c.pins ?_
 refine dM 10 at_ c.pins ?_
 refine dT (i := 11) rfl rfl (by kernel_rfl) (fun _ _ => zK (k := 0) rfl Tryz.underlying32 rfl nz30 rfl) c.pins ?_
 refine dT (i := 12) rfl rfl (by kernel_rfl) (fun _ hS => zL (u := x) ag30 rfl ((Pins.of_le hS y) _ _ _ (a2 0 _ rfl))) c.pins ?_
 refine dM 13 (vJ (a : Int)) c.pins ?_
 refine dT (i := 14) rfl rfl (by kernel_rfl) (fun _ _ => zF Tryz.underlying30 sz65 (v := x) rfl rfl hx (by omega) (by omega)) c.pins ?_
 refine dT (i := 15) rfl rfl (by kernel_rfl) (fun _ _ => xI (off := 1) Tryz.underlying65 rfl rfl nz56 (z := (a : Int)) (k := 0) rfl hx (by omega) (by omega)) c.pins ?_
 obtain ⟨dd, b5, de⟩ := nm_nr (hx.at (z := (a : Int)) (by omega) (by omega)) (j := a) rfl
 have e5 := b5.max
 refine dT (i := 16) rfl rfl (by kernel_rfl) (fun _ hS => de ag56 rfl (Pins.of_le hS (Pin.le_trans ab y))) c.pins ?_
 refine dO (i := 9) (zU (i := 9) rfl rfl rfl (zD rfl _) (zH (vs := [at_, db]) Tryz.func58 nm58 rfl rfl rfl ?_))
 refine Calls.mono (qZ c.pins (Gadd.pins c.pins at_) a6.read (b4.mono (Pin.le_trans ab y)) (by omega) aq.1) ?_
 rintro _ df ⟨b6, dg, rfl, ah, d⟩
 refine ⟨_, rfl, ?_⟩
 have ai := c.tr d
 have a7 := a6.ext d
 have b7 := b0.ext d
 have b8 := b2.ext d
 have b9 := b3.ext d
 have dh := zT ah.lt a6.lt
 have di := zT ah.lt b0.lt
 have dj := zT ah.lt b2.lt
 have dk := yL ah.lt b3.lt
 have ca : Own eInt 3 dg df w.heap.size b6 (atL ats ((fs.getD a default).l)) := ah.weaken c.size
 refine ⟨fun _ => (Pins.of_le ai.pins d.le), ?_⟩
 refine dO (i := 17) (zU (i := 17) rfl rfl rfl (zD rfl _) (zH (vs := [at_, dd]) Tryz.func58 nm58 rfl rfl rfl ?_))
 refine Calls.mono (qZ ai.pins (Gadd.pins ai.pins at_) a7.read (b5.mono (Pin.le_trans (Pin.le_trans ab y) d.le)) (by omega) aq.2) ?_
 rintro _ dl ⟨cb, dm, rfl, ae, f⟩
 refine ⟨_, rfl, ?_⟩
 have cc := ai.tr f
 have dn := a7.ext f
 have dp := b7.ext f
 have dq := b8.ext f
 have dr := ca.ext f
 have ds := b9.ext f
 have dt := zT ae.lt a7.lt
 have du := zT ae.lt b7.lt
 have dv := zT ae.lt b8.lt
 have dw := zT ae.lt ca.lt
 have dx := yL ae.lt b9.lt
 have dy : Own eInt 3 dm dl w.heap.size cb (atL ats ((fs.getD a default).r)) := ae.weaken ai.size
 refine ⟨fun _ => (Pins.of_le cc.pins (Pin.le_trans d.le f.le)), ?_⟩
 obtain ⟨e6, q, dz, d0, aj⟩ := dr.sealed cc
 have d1 := dn.moreO q aj dh.symm
 have d2 := dp.moreO q aj di.symm
 have d3 := dq.moreO q aj dj.symm
 have d4 := dy.moreO q aj dw
 have d5 := ds.moreO aj dk.symm
 obtain ⟨e7, s, ar, d6, au⟩ := d4.sealed dz
 have a8 := d1.moreO s au dt.symm
 have d7 := d2.moreO s au du.symm
 have d8 := d3.moreO s au dv.symm
 have d9 := d5.moreO au dx.symm
 refine dO (i := 18) (zU (i := 18) rfl rfl rfl (zD rfl _) (zH (vs := [(.pointer (some ⟨b, 0, none⟩)), b6, cb]) Tryz.func84 nm84 rfl rfl rfl ?_))
 refine Calls.mono (put_spec ar.pins ⟨d9, d7, d8, br.symm, bt.symm, bq⟩ hao.book (d0.mono s) d6 ⟨by rw [xF]; omega, by rw [xF]; omega⟩ (at_bounds hao.places aq.1) (at_bounds hao.places aq.2)) ?_
 rintro _ e8 ⟨a9, ba, cd, rfl, af, aa, ce, cf⟩
 refine ⟨_, rfl, ?_⟩
 have bb : ∀ i, inS b m o i → w.heap.size ≤ i ∨ (inS b bu bv) i := inS_lo hlob bw bz
 have av := ar.trans aa bb
 have bc := notS (u := m) (v := o) ap bo bp
 have ea := a8.extS aa bc
 have cg : Apart at_.ownBlock a9.ownBlock := ap_call ce bc (jH a8)
 have ch : Apart at_.ownBlock ba.ownBlock := ap_call cf bc (jH a8)
 have eb := af.bx
 have ec := af.ou
 have ed := af.ov
 have ee := af.abu
 have ef := af.abv
 have eg := af.auv
 have eh := qR ce bb ar.size
 have ei := qR cf bb ar.size
 refine ⟨fun _ => (Pins.of_le av.pins (Pin.le_trans (Pin.le_trans (Pin.le_trans (Pin.le_trans d.le f.le) q) s) aa.le)), ?_⟩
 refine dO (i := 19) (zU (i := 19) rfl rfl rfl (zD rfl _) (xA (E := eInt) (e := 3) [(vJ (putK g h (atL ats ((fs.getD a default).l)) (atL ats ((fs.getD a default).r))))] [putK g h (atL ats ((fs.getD a default).l)) (atL ats ((fs.getD a default).r))] Tryz.underlying56 sz3 zr3 (by exact xZ (by rfl)) (xN (by rfl)) rfl rfl rfl rfl (by decide) av.pins (fun ci ej ek el ak e9 => ?_)))
 have aw := av.step el ak
 have cj := ea.below ak
 have ck := ec.below ak
 have cl := ed.below ak
 have cm := eb.below ak
 have em : Own eInt 3 cd ej w.heap.size ci ([putK g h (atL ats ((fs.getD a default).l)) (atL ats ((fs.getD a default).r))]) := ek.weaken av.size
 refine ⟨fun _ => (Pins.of_le aw.pins (Pin.le_trans (Pin.le_trans (Pin.le_trans (Pin.le_trans d.le f.le) q) s) aa.le)), ?_⟩
 refine dO (i := 20) (zU (i := 20) rfl rfl rfl (zD rfl _) (oA (E := eInt) (v := at_) (u := ci) 8 Tryz.underlying56 ap3 (by decide) rfl rfl aw.pins cj em.src (aw.size) (fun al fa eo ep ax bd => ?_)))
 have be := aw.write ep ax ((yN cj))
 have eq := ck.keptA ax cg.symm
 have er := cl.keptA ax ch.symm
 have es := cm.keptA ax ap.symm
 have et : Apart a9.ownBlock al.ownBlock := zG cg.symm bd ck.lt
 have eu : Apart ba.ownBlock al.ownBlock := zG ch.symm bd cl.lt
 have ev : Apart (some b) al.ownBlock := zR ap.symm bd cm.lt
 have fb : (ats ++ ([putK g h (atL ats ((fs.getD a default).l)) (atL ats ((fs.getD a default).r))])).length = ats.length + 1 := List.length_append
 refine ⟨fun _ => (Pins.of_le be.pins (Pin.le_trans (Pin.le_trans (Pin.le_trans (Pin.le_trans d.le f.le) q) s) aa.le)), ?_⟩
 refine dM 21 al (Pins.of_le be.pins (Pin.le_trans (Pin.le_trans (Pin.le_trans (Pin.le_trans d.le f.le) q) s) aa.le)) ?_
 refine yQ (by kernel_rfl) (yB (zA (zC ?_)))
 refine qM (vJ (a : Int)) ?_
 refine qD rfl (yJ rfl rfl (by omega)) (qM (vJ ((a : Int) + 1)) ?_)
 refine qe (zZ (⟨_, ?_, _, rfl, _, a + 1, al, (addStep (ats, g, h) (fs.getD a default)).1, a9, ba, (addStep (ats, g, h) (fs.getD a default)).2.1, (addStep (ats, g, h) (fs.getD a default)).2.2, cd, (pS 6 (pS 5 (pS 4 (pS 3 (pU 0))))), rfl, be, (Pin.le_trans (Pin.le_trans (Pin.le_trans (Pin.le_trans (Pin.le_trans y d.le) f.le) q) s) aa.le), (by omega), ((addM_next (by omega)).trans (by rw [hr])), (hao.step hf (by omega) hl), eo, eq, er, es, et.symm, eu.symm, ev.symm, eg, ee.symm, ef.symm, eh, ei⟩))
 omega
 refine wp_exit (zW (yO (yI (zA (zB (zC ?_))))))
 refine qM at_ ?_
 refine qM at_ ?_
 refine qe (zA ?_)
 refine wp_ret (zO (zP (v := at_) rfl rfl rfl ?_))
 obtain ⟨fc, cn, ew, ex, bf⟩ := bk.sealed ao
 have ey := bl.moreO cn bf bo.symm
 have ez := bm.moreO cn bf bp.symm
 have e0 := bn.moreO bf ap.symm
 rw [take_all (by omega)] at hr
 refine ⟨_, m, o, _, rfl, ?_, ?_, ew, bw, bz⟩
 ·rw [hr]; exact ex
 ·rw [hr]; exact ⟨e0, ey, ez, br.symm, bt.symm, bq⟩

theorem root_spec {w : World} {G : Pin} {b : Nat} {bu bv : Value} {ns : List Nd} {bs : List Int} (hP : Pins G w) (hB : Bk 65 3 G w b bu bv ns bs) (hok : BookOk ns bs) {x : Value} {fs : List Nd} (hx : RSl eNode G x fs) (hf : FormOk fs ∧ 1 ≤ fs.length) (hl : ns.length + fs.length ≤ 1048576) :
  Calls Tryz.prog 54 [(.pointer (some ⟨b, 0, none⟩)), (.agg [x].toArray)].toArray w fun e w' => ∃ (u' v' : Value) (G' : Pin), e = .returned (vJ (rootM ns bs fs)) ∧ Bk 65 3 G' w' b u' v' (addM ns bs fs).2.1 (addM ns bs fs).2.2 ∧ Ext (inS b bu bv) G w G' w' ∧ Lo w (inS b bu bv) u'.ownBlock ∧ Lo w (inS b bu bv) v'.ownBlock := by
 refine zV (n := 15) Tryz.func54 Tryz.ntmps54 rfl rfl ?_
 have h : Ext (inS b bu bv) G w G w := Ext.refl hP
 have hbx := hB.bx
 have hou := hB.ou
 have hov := hB.ov
 have habu := hB.abu
 have habv := hB.abv
 have hauv := hB.auv
 have hlob : Lo w (inS b bu bv) (some b) := lo_b
 have hlou : Lo w (inS b bu bv) bu.ownBlock := lo_u
 have hlov : Lo w (inS b bu bv) bv.ownBlock := lo_v
 have hlen := hok.len
 have hlim := hok.lim
 have hal := (addM_all hok hf.1 hl).len
 have hfl := hf.1.len
 refine zB (zC ?_)
 refine qI rfl (xG [x] (v := (.agg [x].toArray)) rfl rfl h.pins (fun f w2 k s t g => ?_))
 have y := h.step t g
 have aa := hou.below g
 have ab := hov.below g
 have ac := hbx.below g
 have ad : Apart (some f) bu.ownBlock := zI (congrArg some k) hou.lt
 have ae : Apart (some f) bv.ownBlock := zI (congrArg some k) hov.lt
 have af : Apart (some f) (some b) := zJ (congrArg some k) hbx.lt
 have ag : w.heap.size ≤ f := by have := h.size; omega
 obtain ⟨az, l, c, ah, m⟩ := s.shut y ag
 have ai := aa.moreA l m ad.symm
 have aj := ab.moreA l m ae.symm
 have ak := ac.moreA m af.symm
 refine qM (vJ 0) ?_
 refine qe (zA (zB (zC ?_)))
 refine qM (.pointer (some ⟨b, 0, none⟩)) ?_
 refine qD rfl (yH (cs := [x]) ag32 sz32 rfl (fun j u hj => c.pins _ _ _ (ah _ _ (by simpa using hj)))) (qI rfl (zH (vs := [(.pointer (some ⟨b, 0, none⟩)), (.agg [x].toArray)]) Tryz.func82 nm82 rfl rfl rfl ?_))
 refine Calls.mono (add_spec c.pins ⟨ak, ai, aj, habu, habv, hauv⟩ hok (hx.mono l) hf.1 (by first | omega | (simp; omega))) ?_
 rintro _ a0 ⟨d, a1, a2, a3, rfl, o, a, al, am, an⟩
 refine ⟨_, rfl, ?_⟩
 have p : ∀ i, inS b bu bv i → w.heap.size ≤ i ∨ (inS b bu bv) i := inS_lo hlob hlou hlov
 have q := c.trans al p
 have ao := a.bx
 have ap := a.ou
 have aq := a.ov
 have ar := a.abu
 have au := a.abv
 have av := a.auv
 have aw := qR am p c.size
 have ax := qR an p c.size
 refine qM d ?_
 refine qe (zA (zB (zC ?_)))
 refine qM d ?_
 refine qM d ?_
 refine qD rfl (zM Tryz.underlying56 (v := d) rfl o) (qD rfl (qE rfl rfl (by omega)) (qD rfl (zF Tryz.underlying56 sz3 (v := d) rfl rfl o (by omega) (by omega)) (qD rfl (zE (r := ((addM ns bs fs).1).getD ((((addM ns bs fs).1).length : Int) - 1).toNat 0) rfl ag3 (z := ((((addM ns bs fs).1).length : Int) - 1)) rfl o q.pins (by omega) (by omega)) (qM (vJ (((addM ns bs fs).1).getD ((((addM ns bs fs).1).length : Int) - 1).toNat 0)) ?_))))
 refine qe (zA ?_)
 exact wp_ret (zO (zP (v := (vJ (((addM ns bs fs).1).getD ((((addM ns bs fs).1).length : Int) - 1).toNat 0))) rfl rfl rfl (⟨_, _, _, congrArg (fun z => Ending.returned (Value.int .i64 z)) (by unfold rootM; rw [show (((addM ns bs fs).1.length : Int) - 1).toNat = (addM ns bs fs).1.length - 1 by omega]), ⟨ao, ap, aq, ar, au, av⟩, q, aw, ax⟩)))

theorem reached_spec {w : World} {G : Pin} {b : Nat} {bu bv : Value} {ns : List Nd} {bs : List Int} (hP : Pins G w) (hB : Bk 65 3 G w b bu bv ns bs) (hok : BookOk ns bs) {m : Int} (hm : 0 ≤ m ∧ m < ns.length) :
  Calls Tryz.prog 79 [(.pointer (some ⟨b, 0, none⟩)), (vJ m)].toArray w fun e w' => ∃ (u : Value) (G' : Pin), e = .returned u ∧ Own eBool 4 G' w' w.heap.size u (reachM ns m.toNat) ∧ Ext noS G w G' w' := by
 refine zV (n := 78) Tryz.func79 Tryz.ntmps79 rfl rfl ?_
 have ai : Ext noS G w G w := Ext.refl hP
 have hbx := hB.bx
 have hou := hB.ou
 have hov := hB.ov
 have habu := hB.abu
 have habv := hB.abv
 have hauv := hB.auv
 have hlob : Lo w (inS b bu bv) (some b) := lo_b
 have hlou : Lo w (inS b bu bv) bu.ownBlock := lo_u
 have hlov : Lo w (inS b bu bv) bv.ownBlock := lo_v
 have hlen := hok.len
 have hlim := hok.lim
 have hoo : OptsOk ns := hok.optsOk
 refine zB (zC ?_)
 refine qM (.slice none 0 0) ?_
 refine qe (zA (zB (zC ?_)))
 refine qM (vJ m) ?_
 refine qD rfl (yJ rfl rfl (by omega)) (qI rfl (o_make (E := eBool) false 1 (.bool false) Tryz.underlying60 mk4 (fun _ => rfl) rfl rfl ai.pins (by omega) (by omega) (by omega) (fun a w2 a6 a7 y aj => ?_)))
 have ar := ai.step a7 y
 have a8 := hou.below y
 have a9 := hov.below y
 have ba := hbx.below y
 have ak : Apart a.ownBlock bu.ownBlock := zI aj hou.lt
 have al : Apart a.ownBlock bv.ownBlock := zI aj hov.lt
 have am : Apart a.ownBlock (some b) := zJ aj hbx.lt
 have an : Own eBool 4 G w2 w.heap.size a (List.replicate (m + 1).toNat false) := a6.weaken ai.size
 have b9 : (List.replicate (m + 1).toNat false).length = (m + 1).toNat := List.length_replicate ..
 refine qM a ?_
 refine qe (zA (zB (zC ?_)))
 refine qM a ?_
 refine qM (vJ m) ?_
 refine qD rfl (zF Tryz.underlying60 sz4 (v := a) rfl rfl an.read (by omega) (by omega)) (q0 rfl rfl rfl (o_set (E := eBool) (v := a) (u := (.bool true)) (z := m) (true) sz4 rfl rfl rfl rfl ar.pins an (by omega) (by omega) (fun ca bb bc aa cb => ?_)))
 have bd := ar.write bc aa ((yN an))
 have be := a8.keptA aa ak.symm
 have bf := a9.keptA aa al.symm
 have bg := ba.keptA aa am.symm
 refine qe (zA (zB (zB (zC ?_))))
 refine qM (vJ m) ?_
 refine qM (vJ m) ?_
 refine qe (zA ?_)
 refine zX (yT (fun (k : Nat) (en : Nat → Value) (W : World) => ∃ (d : Nat → Value) (z : Int) (is : List Bool), en = (upd (upd (upd (upd d 0 (.pointer (some ⟨b, 0, none⟩))) 4 (.slice none 0 0)) 5 a) 6 (vJ z)) ∧ k = (z + 1).toNat ∧ Ext noS G w G W ∧ (-1 ≤ z ∧ z ≤ m) ∧ (is.length = m.toNat + 1) ∧ (reachM ns m.toNat = ugo ns (z + 1).toNat is) ∧ (Own eBool 4 G W w.heap.size a (is)) ∧ (Own eNode 65 G W 0 bu (ns)) ∧ (Own eInt 3 G W 0 bv (bs)) ∧ (Bx G W b [bu, bv])) _ ⟨_, m, (List.replicate (m + 1).toNat false).set m.toNat true, (pS 6 (pS 5 (pS 4 (pU 0)))), rfl, bd, (by omega), (by simp; omega), (by rw [show (m + 1).toNat = m.toNat + 1 by omega]; rfl), bb, be, bf, bg⟩ ?_)
 rintro cc _ cd ⟨d, z, is, rfl, ce, ab, hz, hnis, hr, x, au, av, aw⟩
 refine zB (zB (zC ?_))
 refine qM (vJ z) ?_
 refine qD rfl (r_geq rfl rfl) (qe (zA ?_))
 refine yA (p := (0 : Int) ≤ z) rfl rfl (fun bh => ?_) (fun bh => ?_)
 refine wp_skip (zA (zB ?_))
 refine zX (zB (zB (zC ?_)))
 refine qM a ?_
 refine qM (vJ z) ?_
 refine qD rfl (zF Tryz.underlying60 sz4 (v := a) rfl rfl x.read (by omega) (by omega)) (qD rfl (qC (r := is.getD (z).toNat false) rfl ag4 (z := z) rfl x.read (Gadd.pins ab.pins a) (by omega) (by omega)) (qD rfl (xE rfl) (qe (zA ?_))))
 refine xX rfl rfl (fun ao => ?_) (fun ao => ?_)
 refine wp_skip (zA (zB (zB (zC ?_))))
 refine qM (vJ 0) ?_
 refine qe (zA ?_)
 refine zX (yT (fun (k : Nat) (en : Nat → Value) (W : World) => ∃ (d : Nat → Value) (i : Nat) (h : List Bool), en = (upd (upd (upd (upd (upd d 0 (.pointer (some ⟨b, 0, none⟩))) 4 (.slice none 0 0)) 5 a) 6 (vJ z)) 7 (vJ (i : Int))) ∧ k = (ns.getD (z).toNat default).l.length - i ∧ Ext noS G w G W ∧ (i ≤ (ns.getD (z).toNat default).l.length) ∧ (h.length = m.toNat + 1) ∧ (setAll is (ns.getD (z).toNat default).l = setAll h ((ns.getD (z).toNat default).l.drop i)) ∧ (Own eBool 4 G W w.heap.size a (h)) ∧ (Own eNode 65 G W 0 bu (ns)) ∧ (Own eInt 3 G W 0 bv (bs)) ∧ (Bx G W b [bu, bv])) _ ⟨_, 0, is, (pS 7 (pS 6 (pS 5 (pS 4 (pU 0))))), rfl, ab, Nat.zero_le _, hnis, rfl, x, au, av, aw⟩ ?_)
 rintro cf _ cg ⟨d, i, h, rfl, ch, q, hii, ax, ay, ac, f, az, ad⟩
 refine zB (zB (zC ?_))
 refine qM (vJ (i : Int)) ?_
 refine qM (.pointer (some ⟨b, 0, none⟩)) ?_
 refine qD rfl (yW rfl) (qD rfl (zK (k := 0) rfl Tryz.underlying77 rfl nz30 rfl) (qD rfl (zL (u := bu) ag30 rfl (ad.cell (o := 0) rfl)) (qM (vJ z) ?_)))
 refine qD rfl (zF Tryz.underlying30 sz65 (v := bu) rfl rfl f.read (by omega) (by omega)) (qD rfl (xI (off := 0) Tryz.underlying65 rfl rfl nz56 (z := z) (k := 0) rfl f.read (by omega) (by omega)) ?_)
 obtain ⟨bi, a0, bj⟩ := nm_nl (f.at (z := z) (by omega) (by omega)) (j := (z).toNat) rfl
 have ci := a0.max
 refine qD rfl (bj ag56 rfl (Gadd.pins q.pins bu)) (qD rfl (zM Tryz.underlying56 (v := bi) rfl a0) (qD rfl (yV rfl rfl) (qe (zA ?_))))
 refine yA (p := ((i : Int) : Int) < (((ns.getD (z).toNat default).l).length : Int)) rfl rfl (fun bk => ?_) (fun bk => ?_)
 have hk := hoo.left (j := (z).toNat) (i := i) (by omega) (by omega)
 refine wp_skip (zA (zB ?_))
 refine zX (zC (qM a ?_))
 refine qM (.pointer (some ⟨b, 0, none⟩)) ?_
 refine qD rfl (yW rfl) (qD rfl (zK (k := 0) rfl Tryz.underlying77 rfl nz30 rfl) (qD rfl (zL (u := bu) ag30 rfl (ad.cell (o := 0) rfl)) (qM (vJ z) ?_)))
 refine qD rfl (zF Tryz.underlying30 sz65 (v := bu) rfl rfl f.read (by omega) (by omega)) (qD rfl (xI (off := 0) Tryz.underlying65 rfl rfl nz56 (z := z) (k := 0) rfl f.read (by omega) (by omega)) ?_)
 obtain ⟨bl, ap, bm⟩ := nm_nl (f.at (z := z) (by omega) (by omega)) (j := (z).toNat) rfl
 have cj := ap.max
 refine qD rfl (bm ag56 rfl (Gadd.pins q.pins bu)) (qM (vJ (i : Int)) ?_)
 refine qD rfl (zF Tryz.underlying56 sz3 (v := bl) rfl rfl ap (by omega) (by omega)) (qD rfl (zE (r := ((ns.getD (z).toNat default).l).getD i 0) rfl ag3 (z := (i : Int)) rfl ap q.pins (by omega) (by omega)) (qD rfl (zF Tryz.underlying60 sz4 (v := a) rfl rfl ac.read (by omega) (by omega)) (q0 rfl rfl rfl (o_set (E := eBool) (v := a) (u := (.bool true)) (z := (((ns.getD (z).toNat default).l).getD i 0)) (true) sz4 rfl rfl rfl rfl q.pins ac (by omega) (by omega) (fun ck bn bo ae cl => ?_)))))
 have bp := q.write bo ae ((yN ac))
 have bq := f.keptA ae ak.symm
 have br := az.keptA ae al.symm
 have bt := ad.keptA ae am.symm
 refine qe (yB (zA (zC ?_)))
 refine qM (vJ (i : Int)) ?_
 refine qD rfl (yJ rfl rfl (by omega)) (qM (vJ ((i : Int) + 1)) ?_)
 refine qe (zZ (⟨_, ?_, _, rfl, _, i + 1, h.set ((ns.getD (z).toNat default).l.getD i 0).toNat true, (pS 7 (pS 6 (pS 5 (pS 4 (pU 0))))), rfl, bp, (by omega), ((List.length_set ..).trans ax), (ay.trans (setAll_next (by omega))), bn, bq, br, bt⟩))
 omega
 refine wp_exit (zW (yO (yI (zA (zB (zC ?_))))))
 refine qM (vJ 0) ?_
 refine qe (zA ?_)
 refine zX (yT (fun (k : Nat) (en : Nat → Value) (W : World) => ∃ (d : Nat → Value) (c : Nat) (s : List Bool), en = (upd (upd (upd (upd (upd d 0 (.pointer (some ⟨b, 0, none⟩))) 4 (.slice none 0 0)) 5 a) 6 (vJ z)) 8 (vJ (c : Int))) ∧ k = (ns.getD (z).toNat default).r.length - c ∧ Ext noS G w G W ∧ (c ≤ (ns.getD (z).toNat default).r.length) ∧ (s.length = m.toNat + 1) ∧ (setAll h (ns.getD (z).toNat default).r = setAll s ((ns.getD (z).toNat default).r.drop c)) ∧ (Own eBool 4 G W w.heap.size a (s)) ∧ (Own eNode 65 G W 0 bu (ns)) ∧ (Own eInt 3 G W 0 bv (bs)) ∧ (Bx G W b [bu, bv])) _ ⟨_, 0, h, (pS 8 (pS 6 (pS 5 (pS 4 (pU 0))))), rfl, q, Nat.zero_le _, ax, rfl, ac, f, az, ad⟩ ?_)
 rintro cm _ cn ⟨d, c, s, rfl, co, t, cp, a1, a2, af, g, a3, ag⟩
 refine zB (zB (zC ?_))
 refine qM (vJ (c : Int)) ?_
 refine qM (.pointer (some ⟨b, 0, none⟩)) ?_
 refine qD rfl (yW rfl) (qD rfl (zK (k := 0) rfl Tryz.underlying77 rfl nz30 rfl) (qD rfl (zL (u := bu) ag30 rfl (ag.cell (o := 0) rfl)) (qM (vJ z) ?_)))
 refine qD rfl (zF Tryz.underlying30 sz65 (v := bu) rfl rfl g.read (by omega) (by omega)) (qD rfl (xI (off := 1) Tryz.underlying65 rfl rfl nz56 (z := z) (k := 0) rfl g.read (by omega) (by omega)) ?_)
 obtain ⟨bw, a4, bz⟩ := nm_nr (g.at (z := z) (by omega) (by omega)) (j := (z).toNat) rfl
 have cq := a4.max
 refine qD rfl (bz ag56 rfl (Gadd.pins t.pins bu)) (qD rfl (zM Tryz.underlying56 (v := bw) rfl a4) (qD rfl (yV rfl rfl) (qe (zA ?_))))
 refine yA (p := ((c : Int) : Int) < (((ns.getD (z).toNat default).r).length : Int)) rfl rfl (fun b0 => ?_) (fun b0 => ?_)
 have hk := hoo.right (j := (z).toNat) (i := c) (by omega) (by omega)
 refine wp_skip (zA (zB ?_))
 refine zX (zC (qM a ?_))
 refine qM (.pointer (some ⟨b, 0, none⟩)) ?_
 refine qD rfl (yW rfl) (qD rfl (zK (k := 0) rfl Tryz.underlying77 rfl nz30 rfl) (qD rfl (zL (u := bu) ag30 rfl (ag.cell (o := 0) rfl)) (qM (vJ z) ?_)))
 refine qD rfl (zF Tryz.underlying30 sz65 (v := bu) rfl rfl g.read (by omega) (by omega)) (qD rfl (xI (off := 1) Tryz.underlying65 rfl rfl nz56 (z := z) (k := 0) rfl g.read (by omega) (by omega)) ?_)
 obtain ⟨b1, aq, b2⟩ := nm_nr (g.at (z := z) (by omega) (by omega)) (j := (z).toNat) rfl
 have cr := aq.max
 refine qD rfl (b2 ag56 rfl (Gadd.pins t.pins bu)) (qM (vJ (c : Int)) ?_)
 refine qD rfl (zF Tryz.underlying56 sz3 (v := b1) rfl rfl aq (by omega) (by omega)) (qD rfl (zE (r := ((ns.getD (z).toNat default).r).getD c 0) rfl ag3 (z := (c : Int)) rfl aq t.pins (by omega) (by omega)) (qD rfl (zF Tryz.underlying60 sz4 (v := a) rfl rfl af.read (by omega) (by omega)) (q0 rfl rfl rfl (o_set (E := eBool) (v := a) (u := (.bool true)) (z := (((ns.getD (z).toNat default).r).getD c 0)) (true) sz4 rfl rfl rfl rfl t.pins af (by omega) (by omega) (fun cs b3 b4 ah ct => ?_)))))
 have b5 := t.write b4 ah ((yN af))
 have b6 := g.keptA ah ak.symm
 have b7 := a3.keptA ah al.symm
 have b8 := ag.keptA ah am.symm
 refine qe (yB (zA (zC ?_)))
 refine qM (vJ (c : Int)) ?_
 refine qD rfl (yJ rfl rfl (by omega)) (qM (vJ ((c : Int) + 1)) ?_)
 refine qe (zZ (⟨_, ?_, _, rfl, _, c + 1, s.set ((ns.getD (z).toNat default).r.getD c 0).toNat true, (pS 8 (pS 6 (pS 5 (pS 4 (pU 0))))), rfl, b5, (by omega), ((List.length_set ..).trans a1), (a2.trans (setAll_next (by omega))), b3, b6, b7, b8⟩))
 omega
 refine wp_exit (zW (yO (yI (yB (zA (zC ?_))))))
 refine qM (vJ z) ?_
 refine qD rfl (qE rfl rfl (by omega)) (qM (vJ (z - 1)) ?_)
 refine qe (zZ (⟨_, ?_, _, rfl, _, z - 1, s, (pS 6 (pS 5 (pS 4 (pU 0)))), rfl, t, (by omega), a1, (hr.trans ((ugo_step (by omega)).trans (by rw [ustep_yes ao, ay, setAll_end (by omega), a2, setAll_end (by omega)]))), af, g, a3, ag⟩))
 omega
 refine wp_exit (zW (yI (zA (zC ?_))))
 refine qM (vJ z) ?_
 refine qD rfl (qE rfl rfl (by omega)) (qM (vJ (z - 1)) ?_)
 refine qe (zZ (⟨_, ?_, _, rfl, _, z - 1, is, (pS 6 (pS 5 (pS 4 (pU 0)))), rfl, ab, (by omega), hnis, (hr.trans ((ugo_step (by omega)).trans (by rw [ustep_no ao]))), x, au, av, aw⟩))
 omega
 refine wp_exit (zW (yO (yI (zA (zB (zC ?_))))))
 refine qM a ?_
 refine qM a ?_
 refine qe (zA ?_)
 exact wp_ret (zO (zP (v := a) rfl rfl rfl (⟨_, _, rfl, (by rw [hr, ugo_end (by omega)]; exact x), ab⟩)))

theorem form_own {w : World} {G : Pin} {b : Nat} {bu bv : Value} {ns : List Nd} {bs : List Int} (hP : Pins G w) (hB : Bk 65 3 G w b bu bv ns bs) (hok : BookOk ns bs) {m : Int} (hm : 0 ≤ m ∧ m < ns.length) :
  Calls Tryz.prog 53 [(.pointer (some ⟨b, 0, none⟩)), (vJ m)].toArray w fun e w' => ∃ (u : Value) (G' : Pin), e = .returned (.agg [u].toArray) ∧ RSl eNode G' u (formM ns bs m.toNat) ∧ Ext noS G w G' w' ∧ ∃ Gi, Own eNode 65 Gi w' w.heap.size u (formM ns bs m.toNat) ∧ Pin.le Gi G' := by
 refine zV (n := 143) Tryz.func53 Tryz.ntmps53 rfl rfl ?_
 have jo : Ext noS G w G w := Ext.refl hP
 have hbx := hB.bx
 have hou := hB.ou
 have hov := hB.ov
 have habu := hB.abu
 have habv := hB.abv
 have hauv := hB.auv
 have hlob : Lo w (inS b bu bv) (some b) := lo_b
 have hlou : Lo w (inS b bu bv) bu.ownBlock := lo_u
 have hlov : Lo w (inS b bu bv) bv.ownBlock := lo_v
 have hlen := hok.len
 have hlim := hok.lim
 have hoo : OptsOk ns := hok.optsOk
 refine zB (zC ?_)
 refine qI rfl (yM [(.slice none 0 0)] zr32 rfl jo.pins (fun f w2 hk3 nc hp5 hk => ?_))
 have jp := jo.step hp5 hk
 have jq := hou.below hk
 have jr := hov.below hk
 have js := hbx.below hk
 have aao : w.heap.size ≤ f := by have := jo.size; omega
 refine qe (zA (zB (zC ?_)))
 refine qM (.pointer (some ⟨b, 0, none⟩)) ?_
 refine qM (vJ m) ?_
 refine qI rfl (zH (vs := [(.pointer (some ⟨b, 0, none⟩)), (vJ m)]) Tryz.func79 nm79 rfl rfl rfl ?_)
 refine Calls.mono (reached_spec jp.pins ⟨js, jq, jr, habu, habv, hauv⟩ hok hm) ?_
 rintro _ w17 ⟨ax, G16, rfl, gu, gv⟩
 refine ⟨_, rfl, ?_⟩
 have aar := jp.tr gv
 have aas := jq.ext gv
 have aat := jr.ext gv
 have aau := js.ext gv
 have aav := nc.ext gv
 have aaw := zT gu.lt jq.lt
 have aax := zT gu.lt jr.lt
 have aay := yL gu.lt js.lt
 have aaz := yL gu.lt nc.lt
 have aa0 : Own eBool 4 G16 w17 w.heap.size ax (reachM ns (m).toNat) := gu.weaken jp.size
 obtain ⟨hl, nd, jt, ne, hn⟩ := aa0.sealed aar
 have nf := aas.moreO nd hn aaw.symm
 have ng := aat.moreO nd hn aax.symm
 have nh := aau.moreO hn aay.symm
 have ni := aav.moreO hn aaz.symm
 have hnl := reach_length ns m.toNat
 refine qM ax ?_
 refine qe (zA (zB (zC ?_)))
 refine qM (vJ m) ?_
 refine qD rfl (yJ rfl rfl (by omega)) (qI rfl (o_make (E := eInt) 0 8 (vJ 0) Tryz.underlying56 mk3 (fun _ => rfl) rfl rfl jt.pins (by omega) (by omega) (by omega) (fun b8 w40 aa2 aa3 gw ho => ?_)))
 have ju := jt.step aa3 gw
 have nj := nf.below gw
 have nk := ng.below gw
 have nl := nh.below gw
 have nm := ni.below gw
 have aa4 : Apart b8.ownBlock bu.ownBlock := zI ho nf.lt
 have aa5 : Apart b8.ownBlock bv.ownBlock := zI ho ng.lt
 have aa6 : Apart b8.ownBlock (some b) := zJ ho nh.lt
 have aa7 : Apart b8.ownBlock (some f) := zJ ho ni.lt
 have nn : Own eInt 3 hl w40 w.heap.size b8 (List.replicate (m + 1).toNat 0) := aa2.weaken jt.size
 have avc : (List.replicate (m + 1).toNat 0).length = (m + 1).toNat := List.length_replicate ..
 refine qM b8 ?_
 refine qe (zA (zB (zC ?_)))
 refine qI rfl (xD (E := eNode) (e := 65) Tryz.underlying30 sz65 ju.pins (fun ap w57 aa9 aba gc gx => ?_))
 have jv := ju.step aba gc
 have no := nj.below gc
 have np := nk.below gc
 have nq := nn.below gc
 have nr := nl.below gc
 have nt := nm.below gc
 have abb : Apart ap.ownBlock bu.ownBlock := zI gx nj.lt
 have abc : Apart ap.ownBlock bv.ownBlock := zI gx nk.lt
 have abd : Apart ap.ownBlock b8.ownBlock := zI gx nn.lt
 have abe : Apart ap.ownBlock (some b) := zJ gx nl.lt
 have abf : Apart ap.ownBlock (some f) := zJ gx nm.lt
 have jw : Own eNode 65 hl w57 w.heap.size ap ([]) := aa9.weaken ju.size
 refine qD rfl (yG [(.slice none 0 0)] [ap] [(0, ap, [ap])] Tryz.underlying32 zr32 rfl pl32 rfl (List.forall_mem_cons.2 ⟨(xT jw.one), (fun _ h => by cases h)⟩) rfl) (qI rfl (yM [(.slice none 0 0)] zr32 rfl jv.pins (fun d w75 gd abg abh ey => ?_)))
 have nu := jv.step abh ey
 have abi := no.below ey
 have abj := np.below ey
 have abk := nq.below ey
 have nv := jw.below ey
 have abl := nr.below ey
 have abm := nt.below ey
 have nw : Apart (some d) bu.ownBlock := zI (congrArg some gd) no.lt
 have nx : Apart (some d) bv.ownBlock := zI (congrArg some gd) np.lt
 have ny : Apart (some d) b8.ownBlock := zI (congrArg some gd) nq.lt
 have nz : Apart (some d) ap.ownBlock := zI (congrArg some gd) jw.lt
 have n0 : Apart (some d) (some b) := zJ (congrArg some gd) nr.lt
 have n1 : Apart (some d) (some f) := zJ (congrArg some gd) nt.lt
 have n2 : w.heap.size ≤ d := by have := jv.size; omega
 refine q0 rfl rfl rfl (yF (cs' := [ap]) (us := [ap]) (v := (.agg [ap].toArray)) sz32 rfl rfl rfl (xN nv.one) nu.pins abg (Nat.le_of_ble_eq_true rfl) rfl (fun w94 abn abo ez avf => ?_))
 have abp := nu.write abo ez ((zS n2))
 have abq := abi.keptA ez nw.symm
 have abr := abj.keptA ez nx.symm
 have abs := abk.keptA ez ny.symm
 have abt := nv.keptA ez nz.symm
 have abw := abl.keptA ez n0.symm
 have abx := abm.keptA ez n1.symm
 refine qe (zA (zB (zB (zC ?_))))
 refine qM (vJ 0) ?_
 refine qe (zA ?_)
 refine zX (yT (fun (k : Nat) (en : Nat → Value) (W : World) => ∃ (ac : Nat → Value) (q : Nat) (at_ : Value) (ats : List Int) (ov : Value) (outs : List Nd) (ar : Pin), en = (upd (upd (upd (upd (upd (upd (upd ac 0 (.pointer (some ⟨b, 0, none⟩))) 1 (vJ m)) 4 (.pointer (some ⟨f, 0, none⟩))) 5 ax) 6 at_) 7 (.pointer (some ⟨d, 0, none⟩))) 8 (vJ (q : Int))) ∧ k = (bs.getD m.toNat 0).toNat + 1 - q ∧ Ext noS G w ar W ∧ Pin.le hl ar ∧ (q ≤ (bs.getD m.toNat 0).toNat + 1) ∧ (formGo ns bs (reachM ns m.toNat) (m.toNat + 1) q = (ats, outs)) ∧ (ats.length = m.toNat + 1) ∧ (outs.length ≤ q * 1048576) ∧ (Own eInt 3 ar W w.heap.size at_ (ats)) ∧ (Own eNode 65 ar W w.heap.size ov (outs)) ∧ (Own eNode 65 ar W 0 bu (ns)) ∧ (Own eInt 3 ar W 0 bv (bs)) ∧ (Bx ar W b [bu, bv]) ∧ (Bx ar W f [(.slice none 0 0)]) ∧ (Bx ar W d [ov]) ∧ (Apart at_.ownBlock ov.ownBlock) ∧ (Apart at_.ownBlock bu.ownBlock) ∧ (Apart at_.ownBlock bv.ownBlock) ∧ (Apart at_.ownBlock (some b)) ∧ (Apart at_.ownBlock (some f)) ∧ (Apart at_.ownBlock (some d)) ∧ (Apart ov.ownBlock bu.ownBlock) ∧ (Apart ov.ownBlock bv.ownBlock) ∧ (Apart ov.ownBlock (some b)) ∧ (Apart ov.ownBlock (some f)) ∧ (Apart ov.ownBlock (some d))) _ ⟨_, 0, b8, List.replicate (m + 1).toNat 0, ap, [], hl, (pS 8 (pS 7 (pS 6 (pS 5 (pS 4 (pS 1 (pU 0))))))), rfl, abp, Pin.le_refl _, Nat.zero_le _, (by rw [show (m + 1).toNat = m.toNat + 1 by omega]; rfl), (by simp; omega), Nat.le_refl 0, abs, abt, abq, abr, abw, abx, abn, abd.symm, aa4, aa5, aa6, aa7, ny.symm, abb, abc, abe, abf, nz.symm⟩ ?_)
 rintro avg _ avh ⟨ac, q, at_, ats, ov, outs, ar, rfl, avi, ge, n3, hq, hr, hatl, hol, n4, hp, n5, hs, jx, jy, jz, aby, abz, ab0, ab1, ab2, ab3, ab4, ab5, ab6, n6, ab7⟩
 have hbm := hok.born m.toNat (by omega)
 refine zB (zB (zC ?_))
 refine qM (vJ (q : Int)) ?_
 refine qM (.pointer (some ⟨b, 0, none⟩)) ?_
 refine qD rfl (yW rfl) (qD rfl (zK (k := 1) rfl Tryz.underlying77 rfl nz56 rfl) (qD rfl (zL (u := bv) ag56 rfl (jx.cell (o := 1) rfl)) (qM (vJ m) ?_)))
 refine qD rfl (zF Tryz.underlying56 sz3 (v := bv) rfl rfl hs.read (by omega) (by omega)) (qD rfl (zE (r := bs.getD (m).toNat 0) rfl ag3 (z := m) rfl hs.read (Gadd.pins ge.pins bv) (by omega) (by omega)) (qD rfl (r_leq rfl rfl) (qe (zA ?_))))
 refine yA (p := ((q : Int) : Int) ≤ (bs.getD (m).toNat 0)) rfl rfl (fun ab8 => ?_) (fun ab8 => ?_)
 refine wp_skip (zA (zB ?_))
 refine zX (zB (zC ?_))
 refine qI rfl (xD (E := eNode) (e := 65) Tryz.underlying30 sz65 ge.pins (fun bc ab9 aca acb dj e0 => ?_))
 have j0 := ge.step acb dj
 have n7 := n4.below dj
 have n8 := hp.below dj
 have n9 := n5.below dj
 have oa := hs.below dj
 have ob := jx.below dj
 have oc := jy.below dj
 have od := jz.below dj
 have acc : Apart bc.ownBlock at_.ownBlock := zI e0 n4.lt
 have acd : Apart bc.ownBlock ov.ownBlock := zI e0 hp.lt
 have ace : Apart bc.ownBlock bu.ownBlock := zI e0 n5.lt
 have acf : Apart bc.ownBlock bv.ownBlock := zI e0 hs.lt
 have acg : Apart bc.ownBlock (some b) := zJ e0 jx.lt
 have ach : Apart bc.ownBlock (some f) := zJ e0 jy.lt
 have aci : Apart bc.ownBlock (some d) := zJ e0 jz.lt
 have oe : Own eNode 65 ar ab9 w.heap.size bc ([]) := aca.weaken ge.size
 refine qI rfl (xD (E := eInt) (e := 3) Tryz.underlying56 sz3 j0.pins (fun bd acj ack acl b9 dk => ?_))
 have acm := j0.step acl b9
 have acn := n7.below b9
 have aco := n8.below b9
 have acp := n9.below b9
 have acq := oa.below b9
 have acr := oe.below b9
 have acs := ob.below b9
 have act := oc.below b9
 have acu := od.below b9
 have acv : Apart bd.ownBlock at_.ownBlock := zI dk n7.lt
 have acw : Apart bd.ownBlock ov.ownBlock := zI dk n8.lt
 have acx : Apart bd.ownBlock bu.ownBlock := zI dk n9.lt
 have acy : Apart bd.ownBlock bv.ownBlock := zI dk oa.lt
 have acz : Apart bd.ownBlock bc.ownBlock := zI dk oe.lt
 have ac0 : Apart bd.ownBlock (some b) := zJ dk ob.lt
 have ac1 : Apart bd.ownBlock (some f) := zJ dk oc.lt
 have ac2 : Apart bd.ownBlock (some d) := zJ dk od.lt
 have ac3 : Own eInt 3 ar acj w.heap.size bd ([]) := ack.weaken j0.size
 refine qM bc ?_
 refine qM bd ?_
 refine qe (zA (zB (zB (zC ?_))))
 refine qM (vJ 0) ?_
 refine qe (zA ?_)
 refine zX ?_
 obtain ⟨avj, e1, ac4, ac5, dl⟩ := acr.sealed acm
 have ac6 := acn.moreO e1 dl acc.symm
 have ac7 := aco.moreO e1 dl acd.symm
 have ac8 := acp.moreO e1 dl ace.symm
 have ac9 := acq.moreO e1 dl acf.symm
 have ada := ac3.moreO e1 dl acz
 have adb := acs.moreO dl acg.symm
 have adc := act.moreO dl ach.symm
 have add := acu.moreO dl aci.symm
 obtain ⟨og, e2, ade, adf, e3⟩ := ada.sealed ac4
 have adg := ac6.moreO e2 e3 acv.symm
 have adh := ac7.moreO e2 e3 acw.symm
 have adi := ac8.moreO e2 e3 acx.symm
 have adj := ac9.moreO e2 e3 acy.symm
 have adk := adb.moreO e3 ac0.symm
 have adl := adc.moreO e3 ac1.symm
 have adm := add.moreO e3 ac2.symm
 refine yT (fun (k : Nat) (en : Nat → Value) (W : World) => ∃ (ac : Nat → Value) (c : Nat) (lv : Value) (ls : List Nd) (fv : Value) (fr : List Int) (ai : Pin), en = (upd (upd (upd (upd (upd (upd (upd (upd (upd (upd ac 0 (.pointer (some ⟨b, 0, none⟩))) 1 (vJ m)) 4 (.pointer (some ⟨f, 0, none⟩))) 5 ax) 6 at_) 7 (.pointer (some ⟨d, 0, none⟩))) 8 (vJ (q : Int))) 9 lv) 10 fv) 11 (vJ (c : Int))) ∧ k = m.toNat + 1 - c ∧ Ext noS G w ai W ∧ Pin.le og ai ∧ (c ≤ m.toNat + 1) ∧ (lvM ns bs (reachM ns m.toNat) ats q c = (ls, fr)) ∧ (ls.length = fr.length ∧ ls.length ≤ c) ∧ (∀ i, i < fr.length → 0 ≤ fr.getD i 0 ∧ fr.getD i 0 ≤ m) ∧ (Own eInt 3 ai W w.heap.size at_ (ats)) ∧ (Own eNode 65 ai W w.heap.size ov (outs)) ∧ (Own eNode 65 ai W 0 bu (ns)) ∧ (Own eInt 3 ai W 0 bv (bs)) ∧ (Bx ai W b [bu, bv]) ∧ (Bx ai W f [(.slice none 0 0)]) ∧ (Bx ai W d [ov]) ∧ (RSl eNode ai lv (ls)) ∧ (RSl eInt ai fv (fr))) _ ⟨_, 0, bc, [], bd, [], og, (pS 11 (pS 10 (pS 9 (pS 8 (pS 7 (pS 6 (pS 5 (pS 4 (pS 1 (pU 0)))))))))), rfl, ade, Pin.le_refl _, Nat.zero_le _, rfl, ⟨rfl, Nat.le_refl 0⟩, (fun i hi => absurd hi (Nat.not_lt_zero i)), adg, adh, adi, adj, adk, adl, adm, (ac5.mono e2), adf⟩ ?_
 rintro avk _ ht ⟨ac, c, lv, ls, fv, fr, ai, rfl, avl, dm, gy, hk5, hrl, hll, hfb, hu, hv, e4, gf, gz, hw, hx, bk, gg⟩
 refine zB (zB (zC ?_))
 refine qM (vJ (c : Int)) ?_
 refine qM (vJ m) ?_
 refine qD rfl (r_leq rfl rfl) (qe (zA ?_))
 refine yA (p := ((c : Int) : Int) ≤ m) rfl rfl (fun adn => ?_) (fun adn => ?_)
 have hlk := hok.lens c (by omega)
 refine wp_skip (zA (zB ?_))
 refine zX (zB (zB (zC ?_)))
 refine qM ax ?_
 refine qM (vJ (c : Int)) ?_
 refine qD rfl (zF Tryz.underlying60 sz4 (v := ax) rfl rfl ne (by omega) (by omega)) (qD rfl (qC (r := (reachM ns (m).toNat).getD c false) rfl ag4 (z := (c : Int)) rfl ne (Pins.of_le dm.pins (Pin.le_trans (Pin.le_trans (Pin.le_trans n3 e1) e2) gy)) (by omega) (by omega)) (qD rfl (xE rfl) (qM (.bool (!((reachM ns (m).toNat).getD c false))) ?_)))
 refine qbn (t := 46) rfl (fun j1 => ?_) (fun j1 => ?_)
 refine qN (zQ (v := (.pointer (some ⟨b, 0, none⟩))) rfl) ?_
 refine qN (yW rfl) ?_
 refine qN (zK (k := 1) rfl Tryz.underlying77 rfl nz56 rfl) ?_
 refine qN (zL (u := bv) ag56 rfl (gz.cell (o := 1) rfl)) ?_
 refine qN (zQ (v := (vJ (c : Int))) rfl) ?_
 refine qN (zF Tryz.underlying56 sz3 (v := bv) rfl rfl gf.read (by omega) (by omega)) ?_
 refine qN (zE (r := bs.getD c 0) rfl ag3 (z := (c : Int)) rfl gf.read (Gadd.pins dm.pins bv) (by omega) (by omega)) ?_
 refine qN (zQ (v := (vJ (q : Int))) rfl) ?_
 refine qN (jG rfl rfl) ?_
 refine qD rfl (zY (v := (.bool (decide ((bs.getD c 0 : Int) ≠ (q : Int))))) rfl rfl) (qe (zA ?_))
 refine yA (p := (bs.getD c 0 : Int) ≠ (q : Int)) rfl rfl (fun ado => ?_) (fun ado => ?_)
 refine wp_exit (zW (yI (zA (zC ?_))))
 refine qM (vJ (c : Int)) ?_
 refine qD rfl (yJ rfl rfl (by omega)) (qM (vJ ((c : Int) + 1)) ?_)
 refine qe (zZ (⟨_, ?_, _, rfl, _, c + 1, lv, ls, fv, fr, ai, (pS 11 (pS 10 (pS 9 (pS 8 (pS 7 (pS 6 (pS 5 (pS 4 (pS 1 (pU 0)))))))))), rfl, dm, gy, (by omega), (lv_skip hrl (fun g => by have := g.2; omega)), (by omega), hfb, hu, hv, e4, gf, gz, hw, hx, bk, gg⟩))
 omega
 refine wp_skip (zA (zB ?_))
 refine c_cut (fun (en : Nat → Value) (W : World) => ∃ (ac : Nat → Value) (g0 : Nat) (ca : Value) (cb : Value) (am : Pin), en = (upd (upd (upd (upd (upd (upd (upd (upd (upd (upd (upd ac 0 (.pointer (some ⟨b, 0, none⟩))) 1 (vJ m)) 4 (.pointer (some ⟨f, 0, none⟩))) 5 ax) 6 at_) 7 (.pointer (some ⟨d, 0, none⟩))) 8 (vJ (q : Int))) 9 lv) 10 fv) 11 (vJ (c : Int))) 12 (.pointer (some ⟨g0, 0, none⟩))) ∧ Ext noS G w am W ∧ Pin.le ai am ∧ (RSl eInt am ca (sortL (atL ats ((ns.getD c default).l)))) ∧ (RSl eInt am cb (sortL (atL ats ((ns.getD c default).r)))) ∧ (Own eInt 3 am W w.heap.size at_ ats) ∧ (Own eNode 65 am W w.heap.size ov outs) ∧ (Own eNode 65 am W 0 bu ns) ∧ (Own eInt 3 am W 0 bv bs) ∧ (Bx am W b [bu, bv]) ∧ (Bx am W f [(.slice none 0 0)]) ∧ (Bx am W d [ov]) ∧ (BxP am g0 [ca, cb])) ?_ ?_
 ·rintro _ avn ⟨ac, g0, ca, cb, am, rfl, adp, an, hy, hz, adq, adr, ads, adt, adu, adv, adw, oh⟩
  refine zA (zB (zC ?_))
  refine qM (vJ 0) ?_
  refine qe (zA (zB ?_))
  refine zX (c_cutE (fun (en : Nat → Value) (W : World) => ∃ (ac : Nat → Value) (i : Nat) (s : Pin), en = (upd (upd (upd (upd (upd (upd (upd (upd (upd (upd (upd (upd ac 0 (.pointer (some ⟨b, 0, none⟩))) 1 (vJ m)) 4 (.pointer (some ⟨f, 0, none⟩))) 5 ax) 6 at_) 7 (.pointer (some ⟨d, 0, none⟩))) 8 (vJ (q : Int))) 9 lv) 10 fv) 11 (vJ (c : Int))) 12 (.pointer (some ⟨g0, 0, none⟩))) 13 (vJ (i : Int))) ∧ Ext noS G w s W ∧ Pin.le am s ∧ (i ≤ ls.length) ∧ (posM ls (ndAt ats (ns.getD c default)) = i) ∧ (Own eInt 3 s W w.heap.size at_ (ats)) ∧ (Own eNode 65 s W w.heap.size ov (outs)) ∧ (Own eNode 65 s W 0 bu (ns)) ∧ (Own eInt 3 s W 0 bv (bs)) ∧ (Bx s W b [bu, bv]) ∧ (Bx s W f [(.slice none 0 0)]) ∧ (Bx s W d [ov])) 4 ?_ ?_)
  ·rintro _ e5 ⟨ac, i, s, rfl, g1, y, hi, hpe, j2, j3, j4, j5, j6, j7, j8⟩
   refine yI (zA (zB ?_))
   refine c_cut (fun (en : Nat → Value) (W : World) => ∃ (ac : Nat → Value) (ab : Value) (ae : Pin), en = (upd (upd (upd (upd (upd (upd (upd (upd (upd (upd (upd ac 0 (.pointer (some ⟨b, 0, none⟩))) 1 (vJ m)) 4 (.pointer (some ⟨f, 0, none⟩))) 5 ax) 6 at_) 7 (.pointer (some ⟨d, 0, none⟩))) 8 (vJ (q : Int))) 9 ab) 10 fv) 11 (vJ (c : Int))) 13 (vJ (i : Int))) ∧ Ext noS G w ae W ∧ Pin.le s ae ∧ (Own eInt 3 ae W w.heap.size at_ ats) ∧ (Own eNode 65 ae W w.heap.size ov outs) ∧ (Own eNode 65 ae W 0 bu ns) ∧ (Own eInt 3 ae W 0 bv bs) ∧ (Own eNode 65 ae W w.heap.size ab (((([]) ++ ((ls.take i).drop 0)) ++ ([(⟨sortL (atL ats ((ns.getD c default).l)), sortL (atL ats ((ns.getD c default).r))⟩ : Nd)])) ++ ((ls.take ls.length).drop i))) ∧ (Bx ae W b [bu, bv]) ∧ (Bx ae W f [(.slice none 0 0)]) ∧ (Bx ae W d [ov]) ∧ (Apart at_.ownBlock ab.ownBlock) ∧ (Apart ov.ownBlock ab.ownBlock) ∧ (Apart bu.ownBlock ab.ownBlock) ∧ (Apart bv.ownBlock ab.ownBlock) ∧ (Apart ab.ownBlock (some b)) ∧ (Apart ab.ownBlock (some f)) ∧ (Apart ab.ownBlock (some d))) ?_ ?_
   ·rintro _ j9 ⟨ac, ab, ae, rfl, oi, e6, adx, ady, adz, ad0, ad1, ad2, ad3, ad4, ad5, ad6, ad7, ad8, ad9, aea, aeb⟩
    refine zA (c_cut (fun (en : Nat → Value) (W : World) => ∃ (ac : Nat → Value) (ay : Value) (az : Pin), en = (upd (upd (upd (upd (upd (upd (upd (upd (upd (upd ac 0 (.pointer (some ⟨b, 0, none⟩))) 1 (vJ m)) 4 (.pointer (some ⟨f, 0, none⟩))) 5 ax) 6 at_) 7 (.pointer (some ⟨d, 0, none⟩))) 8 (vJ (q : Int))) 9 ab) 10 ay) 11 (vJ (c : Int))) ∧ Ext noS G w az W ∧ Pin.le ae az ∧ (Own eInt 3 az W w.heap.size at_ ats) ∧ (Own eNode 65 az W w.heap.size ov outs) ∧ (Own eNode 65 az W 0 bu ns) ∧ (Own eInt 3 az W 0 bv bs) ∧ (Own eNode 65 az W w.heap.size ab (((([]) ++ ((ls.take i).drop 0)) ++ ([(⟨sortL (atL ats ((ns.getD c default).l)), sortL (atL ats ((ns.getD c default).r))⟩ : Nd)])) ++ ((ls.take ls.length).drop i))) ∧ (Own eInt 3 az W w.heap.size ay (((([]) ++ ((fr.take i).drop 0)) ++ ([(c : Int)])) ++ ((fr.take fr.length).drop i))) ∧ (Bx az W b [bu, bv]) ∧ (Bx az W f [(.slice none 0 0)]) ∧ (Bx az W d [ov]) ∧ (Apart at_.ownBlock ay.ownBlock) ∧ (Apart ov.ownBlock ay.ownBlock) ∧ (Apart bu.ownBlock ay.ownBlock) ∧ (Apart bv.ownBlock ay.ownBlock) ∧ (Apart ab.ownBlock ay.ownBlock) ∧ (Apart ay.ownBlock (some b)) ∧ (Apart ay.ownBlock (some f)) ∧ (Apart ay.ownBlock (some d))) ?_ ?_)
    ·rintro _ avo ⟨ac, ay, az, rfl, aec, aed, aee, aef, aeg, aeh, aei, aej, aek, ael, aem, aen, aeo, aep, aeq, aer, aes, aet, aeu⟩
     refine yB (zA (zC ?_))
     refine qM (vJ (c : Int)) ?_
     refine qD rfl (yJ rfl rfl (by omega)) (qM (vJ ((c : Int) + 1)) ?_)
     refine qe (zZ ?_)
     obtain ⟨avp, gh, aev, aew, dn⟩ := aei.sealed aec
     have aex := aee.moreO gh dn ad5
     have aey := aef.moreO gh dn ad6
     have aez := aeg.moreO gh dn ad7
     have ae0 := aeh.moreO gh dn ad8
     have ae1 := aej.moreO gh dn aer.symm
     have ae2 := aek.moreO dn ad9.symm
     have ae3 := ael.moreO dn aea.symm
     have ae4 := aem.moreO dn aeb.symm
     obtain ⟨ae5, gi, ae6, ae7, e7⟩ := ae1.sealed aev
     have ae8 := aex.moreO gi e7 aen
     have ae9 := aey.moreO gi e7 aeo
     have afa := aez.moreO gi e7 aep
     have afb := ae0.moreO gi e7 aeq
     have afc := ae2.moreO e7 aes.symm
     have afd := ae3.moreO e7 aet.symm
     have afe := ae4.moreO e7 aeu.symm
     have ka := ins_len (x := ndAt ats (ns.getD c default)) (l := ls) (i := i) (by omega)
     have hi2 := ins_len (x := (c : Int)) (l := fr) (i := i) (by omega)
     refine ⟨_, ?_, _, rfl, _, c + 1, ab, ((([]) ++ ((ls.take i).drop 0)) ++ ([(⟨sortL (atL ats ((ns.getD c default).l)), sortL (atL ats ((ns.getD c default).r))⟩ : Nd)])) ++ ((ls.take ls.length).drop i), ay, ((([]) ++ ((fr.take i).drop 0)) ++ ([(c : Int)])) ++ ((fr.take fr.length).drop i), ae5, (pS 11 (pS 10 (pS 9 (pS 8 (pS 7 (pS 6 (pS 5 (pS 4 (pS 1 (pU 0)))))))))), rfl, ae6, (Pin.le_trans (Pin.le_trans (Pin.le_trans (Pin.le_trans (Pin.le_trans (Pin.le_trans gy an) y) e6) aed) gh) gi), (by omega), (lv_ins hrl j1 (by omega) hpe), ⟨ka.trans ((congrArg (· + 1) hll.1).trans hi2.symm), (by have : _ = _ := ka; exact Nat.le_trans (Nat.le_of_eq ka) (by omega))⟩, (ins_all (P := fun x => 0 ≤ x ∧ x ≤ m) hfb (by omega)), ae8, ae9, afa, afb, afc, afd, afe, (aew.mono gi), ae7⟩
     omega
    refine yZ (S := fun wz => Pins ae wz) (last := 13) (by kernel_rfl) rfl ?_
    have bl : Below j9.heap.size j9 j9.drew := (Below.refl _ _).drew
    have afg := oi.pins.below bl
    have au := oi.step afg bl
    have kb := adx.below bl
    have kc := ady.below bl
    have kd := adz.below bl
    have ke := ad0.below bl
    have kf := ad1.below bl
    have kg := ad2.below bl
    have kh := ad3.below bl
    have ki := ad4.below bl
    refine dM 1 fv au.pins ?_
    refine dM 2 (vJ (i : Int)) au.pins ?_
    obtain ⟨kj, kk, afh⟩ := qU gg (lo := none) (hi := (some ((i : Int)))) (0) (i) (Or.inl ⟨rfl, rfl⟩) (Or.inr ⟨_, rfl, (by omega), rfl⟩) (by omega) (by omega)
    refine dT (i := 3) rfl rfl (by kernel_rfl) (fun _ _ => afh Tryz.underlying56 sz3 rfl rfl rfl) au.pins ?_
    refine dM 5 (vJ (c : Int)) au.pins ?_
    refine dM 8 fv au.pins ?_
    refine dM 9 (vJ (i : Int)) au.pins ?_
    obtain ⟨kl, km, afi⟩ := qU gg (lo := (some ((i : Int)))) (hi := none) (i) (fr.length) (Or.inr ⟨_, rfl, (by omega), rfl⟩) (Or.inl ⟨rfl, rfl⟩) (by omega) (by omega)
    refine dT (i := 10) rfl rfl (by kernel_rfl) (fun _ _ => afi Tryz.underlying56 sz3 rfl rfl rfl) au.pins ?_
    refine dr_two (i := 0) (j := 6) (by kernel_rfl) ?_ ?_
    refine (zU (i := 0) rfl rfl rfl (zD rfl _) (xD (E := eInt) (e := 3) Tryz.underlying56 sz3 au.pins (fun a0 afj afk afl cc dp => ?_)))
    have dq := au.step afl cc
    have kn := kb.below cc
    have ko := kc.below cc
    have kp := kd.below cc
    have kq := ke.below cc
    have kr := kf.below cc
    have ks := kg.below cc
    have kt := kh.below cc
    have ku := ki.below cc
    have h0 : Apart a0.ownBlock at_.ownBlock := zI dp kb.lt
    have h1 : Apart a0.ownBlock ov.ownBlock := zI dp kc.lt
    have h2 : Apart a0.ownBlock bu.ownBlock := zI dp kd.lt
    have h3 : Apart a0.ownBlock bv.ownBlock := zI dp ke.lt
    have h4 : Apart a0.ownBlock ab.ownBlock := zI dp kf.lt
    have h5 : Apart a0.ownBlock (some b) := zJ dp kg.lt
    have h6 : Apart a0.ownBlock (some f) := zJ dp kh.lt
    have h7 : Apart a0.ownBlock (some d) := zJ dp ki.lt
    have h8 : Own eInt 3 ae afj w.heap.size a0 ([]) := afk.weaken au.size
    refine ⟨fun _ => dq.pins, ?_⟩
    refine dr_two (i := 4) (j := 6) (by kernel_rfl) ?_ ?_
    refine (zU (i := 4) rfl rfl rfl (zD rfl _) (oA (E := eInt) (v := a0) (u := kj) 8 Tryz.underlying56 ap3 (by decide) rfl rfl dq.pins h8 ((kk.mono (Pin.le_trans (Pin.le_trans an y) e6)).src dq.pins (by decide)) (dq.size) (fun cd avq afm afn ce dr => ?_)))
    have h9 := dq.write afn ce ((yN h8))
    have afo := kn.keptA ce h0.symm
    have afp := ko.keptA ce h1.symm
    have afq := kp.keptA ce h2.symm
    have afr := kq.keptA ce h3.symm
    have afs := kr.keptA ce h4.symm
    have aft := ks.keptA ce h5.symm
    have afu := kt.keptA ce h6.symm
    have afv := ku.keptA ce h7.symm
    have oj : Apart at_.ownBlock cd.ownBlock := zG h0.symm dr kn.lt
    have ok : Apart ov.ownBlock cd.ownBlock := zG h1.symm dr ko.lt
    have ol : Apart bu.ownBlock cd.ownBlock := zG h2.symm dr kp.lt
    have om : Apart bv.ownBlock cd.ownBlock := zG h3.symm dr kq.lt
    have oo : Apart ab.ownBlock cd.ownBlock := zG h4.symm dr kr.lt
    have op : Apart (some b) cd.ownBlock := zR h5.symm dr ks.lt
    have oq : Apart (some f) cd.ownBlock := zR h6.symm dr kt.lt
    have os : Apart (some d) cd.ownBlock := zR h7.symm dr ku.lt
    have avr : (([]) ++ ((fr.take i).drop 0)).length = ([]).length + ((fr.take i).drop 0).length := List.length_append
    refine ⟨fun _ => h9.pins, ?_⟩
    refine dO (i := 6) (zU (i := 6) rfl rfl rfl (zD rfl _) (xA (E := eInt) (e := 3) [(vJ (c : Int))] [(c : Int)] Tryz.underlying56 sz3 zr3 (by exact xZ (by rfl)) (xN (by rfl)) rfl rfl rfl rfl (by decide) h9.pins (fun ot afw afx afy bm avs => ?_)))
    have ia := h9.step afy bm
    have ow := afo.below bm
    have ox := afp.below bm
    have oy := afq.below bm
    have oz := afr.below bm
    have o0 := afs.below bm
    have o1 := afm.below bm
    have o2 := aft.below bm
    have o3 := afu.below bm
    have o4 := afv.below bm
    have afz : Own eInt 3 ae afw w.heap.size ot ([(c : Int)]) := afx.weaken h9.size
    refine ⟨fun _ => ia.pins, ?_⟩
    refine dO (i := 7) (zU (i := 7) rfl rfl rfl (zD rfl _) (oA (E := eInt) (v := cd) (u := ot) 8 Tryz.underlying56 ap3 (by decide) rfl rfl ia.pins o1 afz.src (ia.size) (fun cf avt o5 af0 cg ds => ?_)))
    have g2 := ia.write af0 cg ((yN o1))
    have o6 := ow.keptA cg oj
    have o7 := ox.keptA cg ok
    have o8 := oy.keptA cg ol
    have o9 := oz.keptA cg om
    have pa := o0.keptA cg oo
    have pb := o2.keptA cg op
    have pc := o3.keptA cg oq
    have pd := o4.keptA cg os
    have pe : Apart at_.ownBlock cf.ownBlock := zG oj ds ow.lt
    have pf : Apart ov.ownBlock cf.ownBlock := zG ok ds ox.lt
    have pg : Apart bu.ownBlock cf.ownBlock := zG ol ds oy.lt
    have ph : Apart bv.ownBlock cf.ownBlock := zG om ds oz.lt
    have pi : Apart ab.ownBlock cf.ownBlock := zG oo ds o0.lt
    have pj : Apart (some b) cf.ownBlock := zR op ds o2.lt
    have pk : Apart (some f) cf.ownBlock := zR oq ds o3.lt
    have pl : Apart (some d) cf.ownBlock := zR os ds o4.lt
    have avu : ((([]) ++ ((fr.take i).drop 0)) ++ ([(c : Int)])).length = (([]) ++ ((fr.take i).drop 0)).length + 1 := List.length_append
    refine ⟨fun _ => g2.pins, ?_⟩
    refine dO (i := 11) (zU (i := 11) rfl rfl rfl (zD rfl _) (oA (E := eInt) (v := cf) (u := kl) 8 Tryz.underlying56 ap3 (by decide) rfl rfl g2.pins o5 ((km.mono (Pin.le_trans (Pin.le_trans an y) e6)).src g2.pins (by decide)) (g2.size) (fun bn avv af1 af2 ch dt => ?_)))
    have kv := g2.write af2 ch ((yN o5))
    have af3 := o6.keptA ch pe
    have af4 := o7.keptA ch pf
    have af5 := o8.keptA ch pg
    have af6 := o9.keptA ch ph
    have af7 := pa.keptA ch pi
    have af8 := pb.keptA ch pj
    have af9 := pc.keptA ch pk
    have aga := pd.keptA ch pl
    have agb : Apart at_.ownBlock bn.ownBlock := zG pe dt o6.lt
    have agc : Apart ov.ownBlock bn.ownBlock := zG pf dt o7.lt
    have agd : Apart bu.ownBlock bn.ownBlock := zG pg dt o8.lt
    have age : Apart bv.ownBlock bn.ownBlock := zG ph dt o9.lt
    have agf : Apart ab.ownBlock bn.ownBlock := zG pi dt pa.lt
    have agh : Apart (some b) bn.ownBlock := zR pj dt pb.lt
    have agi : Apart (some f) bn.ownBlock := zR pk dt pc.lt
    have agj : Apart (some d) bn.ownBlock := zR pl dt pd.lt
    have avw : (((([]) ++ ((fr.take i).drop 0)) ++ ([(c : Int)])) ++ ((fr.take fr.length).drop i)).length = ((([]) ++ ((fr.take i).drop 0)) ++ ([(c : Int)])).length + ((fr.take fr.length).drop i).length := List.length_append
    refine ⟨fun _ => kv.pins, ?_⟩
    refine dM 12 bn kv.pins ?_
    exact yQ (by kernel_rfl) (qV ⟨_, bn, ae, (pS 11 (pS 10 (pS 9 (pS 8 (pS 7 (pS 6 (pS 5 (pS 4 (pS 1 (pU 0)))))))))), kv, (Pin.le_refl _), af3, af4, af5, af6, af7, af1, af8, af9, aga, agb, agc, agd, age, agf, agh.symm, agi.symm, agj.symm⟩)
    refine (zU (i := 6) rfl rfl rfl (zD rfl _) (xA (E := eInt) (e := 3) [(vJ (c : Int))] [(c : Int)] Tryz.underlying56 sz3 zr3 (by exact xZ (by rfl)) (xN (by rfl)) rfl rfl rfl rfl (by decide) dq.pins (fun kw agk agl agm bo agn => ?_)))
    have g3 := dq.step agm bo
    have pm := kn.below bo
    have pn := ko.below bo
    have po := kp.below bo
    have pp := kq.below bo
    have pq := kr.below bo
    have pr := h8.below bo
    have ps := ks.below bo
    have pt := kt.below bo
    have pu := ku.below bo
    have ago : Apart kw.ownBlock a0.ownBlock := zI agn h8.lt
    have agp : Own eInt 3 ae agk w.heap.size kw ([(c : Int)]) := agl.weaken dq.size
    refine ⟨fun _ => g3.pins, ?_⟩
    refine dO (i := 4) (zU (i := 4) rfl rfl rfl (zD rfl _) (oA (E := eInt) (v := a0) (u := kj) 8 Tryz.underlying56 ap3 (by decide) rfl rfl g3.pins pr ((kk.mono (Pin.le_trans (Pin.le_trans an y) e6)).src g3.pins (by decide)) (g3.size) (fun ci avx pv agq bp du => ?_)))
    have ib := g3.write agq bp ((yN pr))
    have pw := pm.keptA bp h0.symm
    have px := pn.keptA bp h1.symm
    have py := po.keptA bp h2.symm
    have pz := pp.keptA bp h3.symm
    have p0 := pq.keptA bp h4.symm
    have agr := agp.keptA bp ago
    have p1 := ps.keptA bp h5.symm
    have p2 := pt.keptA bp h6.symm
    have p3 := pu.keptA bp h7.symm
    have p4 : Apart at_.ownBlock ci.ownBlock := zG h0.symm du pm.lt
    have p5 : Apart ov.ownBlock ci.ownBlock := zG h1.symm du pn.lt
    have p6 : Apart bu.ownBlock ci.ownBlock := zG h2.symm du po.lt
    have p7 : Apart bv.ownBlock ci.ownBlock := zG h3.symm du pp.lt
    have p8 : Apart ab.ownBlock ci.ownBlock := zG h4.symm du pq.lt
    have p9 : Apart (some b) ci.ownBlock := zR h5.symm du ps.lt
    have qa : Apart (some f) ci.ownBlock := zR h6.symm du pt.lt
    have qb : Apart (some d) ci.ownBlock := zR h7.symm du pu.lt
    have avy : (([]) ++ ((fr.take i).drop 0)).length = ([]).length + ((fr.take i).drop 0).length := List.length_append
    refine ⟨fun _ => ib.pins, ?_⟩
    refine dO (i := 7) (zU (i := 7) rfl rfl rfl (zD rfl _) (oA (E := eInt) (v := ci) (u := kw) 8 Tryz.underlying56 ap3 (by decide) rfl rfl ib.pins pv agr.src (ib.size) (fun cj avz qc ags ck dv => ?_)))
    have g4 := ib.write ags ck ((yN pv))
    have qf := pw.keptA ck p4
    have qg := px.keptA ck p5
    have qh := py.keptA ck p6
    have qi := pz.keptA ck p7
    have qj := p0.keptA ck p8
    have qk := p1.keptA ck p9
    have ql := p2.keptA ck qa
    have qm := p3.keptA ck qb
    have qn : Apart at_.ownBlock cj.ownBlock := zG p4 dv pw.lt
    have qo : Apart ov.ownBlock cj.ownBlock := zG p5 dv px.lt
    have qp : Apart bu.ownBlock cj.ownBlock := zG p6 dv py.lt
    have qq : Apart bv.ownBlock cj.ownBlock := zG p7 dv pz.lt
    have qr : Apart ab.ownBlock cj.ownBlock := zG p8 dv p0.lt
    have qs : Apart (some b) cj.ownBlock := zR p9 dv p1.lt
    have qt : Apart (some f) cj.ownBlock := zR qa dv p2.lt
    have qu : Apart (some d) cj.ownBlock := zR qb dv p3.lt
    have av0 : ((([]) ++ ((fr.take i).drop 0)) ++ ([(c : Int)])).length = (([]) ++ ((fr.take i).drop 0)).length + 1 := List.length_append
    refine ⟨fun _ => g4.pins, ?_⟩
    refine dO (i := 11) (zU (i := 11) rfl rfl rfl (zD rfl _) (oA (E := eInt) (v := cj) (u := kl) 8 Tryz.underlying56 ap3 (by decide) rfl rfl g4.pins qc ((km.mono (Pin.le_trans (Pin.le_trans an y) e6)).src g4.pins (by decide)) (g4.size) (fun bq av1 agt agu cl dw => ?_)))
    have kx := g4.write agu cl ((yN qc))
    have agv := qf.keptA cl qn
    have agw := qg.keptA cl qo
    have agx := qh.keptA cl qp
    have agy := qi.keptA cl qq
    have agz := qj.keptA cl qr
    have ag0 := qk.keptA cl qs
    have ag1 := ql.keptA cl qt
    have ag2 := qm.keptA cl qu
    have ag5 : Apart at_.ownBlock bq.ownBlock := zG qn dw qf.lt
    have ag6 : Apart ov.ownBlock bq.ownBlock := zG qo dw qg.lt
    have ag7 : Apart bu.ownBlock bq.ownBlock := zG qp dw qh.lt
    have ag8 : Apart bv.ownBlock bq.ownBlock := zG qq dw qi.lt
    have ag9 : Apart ab.ownBlock bq.ownBlock := zG qr dw qj.lt
    have aha : Apart (some b) bq.ownBlock := zR qs dw qk.lt
    have ahb : Apart (some f) bq.ownBlock := zR qt dw ql.lt
    have ahc : Apart (some d) bq.ownBlock := zR qu dw qm.lt
    have av2 : (((([]) ++ ((fr.take i).drop 0)) ++ ([(c : Int)])) ++ ((fr.take fr.length).drop i)).length = ((([]) ++ ((fr.take i).drop 0)) ++ ([(c : Int)])).length + ((fr.take fr.length).drop i).length := List.length_append
    refine ⟨fun _ => kx.pins, ?_⟩
    refine dM 12 bq kx.pins ?_
    exact yQ (by kernel_rfl) (qV ⟨_, bq, ae, (pS 11 (pS 10 (pS 9 (pS 8 (pS 7 (pS 6 (pS 5 (pS 4 (pS 1 (pU 0)))))))))), kx, (Pin.le_refl _), agv, agw, agx, agy, agz, agt, ag0, ag1, ag2, ag5, ag6, ag7, ag8, ag9, aha.symm, ahb.symm, ahc.symm⟩)
    refine (zU (i := 6) rfl rfl rfl (zD rfl _) (xA (E := eInt) (e := 3) [(vJ (c : Int))] [(c : Int)] Tryz.underlying56 sz3 zr3 (by exact xZ (by rfl)) (xN (by rfl)) rfl rfl rfl rfl (by decide) au.pins (fun ky ahd ahe ahf cm av3 => ?_)))
    have ic := au.step ahf cm
    have qv := kb.below cm
    have qw := kc.below cm
    have qx := kd.below cm
    have qy := ke.below cm
    have qz := kf.below cm
    have q2 := kg.below cm
    have q3 := kh.below cm
    have q4 := ki.below cm
    have q5 : Own eInt 3 ae ahd w.heap.size ky ([(c : Int)]) := ahe.weaken au.size
    refine ⟨fun _ => ic.pins, ?_⟩
    refine dO (i := 0) (zU (i := 0) rfl rfl rfl (zD rfl _) (xD (E := eInt) (e := 3) Tryz.underlying56 sz3 ic.pins (fun be ahg ahh ahi br cn => ?_)))
    have g5 := ic.step ahi br
    have q6 := qv.below br
    have q7 := qw.below br
    have q8 := qx.below br
    have q9 := qy.below br
    have ra := qz.below br
    have ahj := q5.below br
    have rb := q2.below br
    have rc := q3.below br
    have rd := q4.below br
    have re : Apart be.ownBlock at_.ownBlock := zI cn qv.lt
    have rf : Apart be.ownBlock ov.ownBlock := zI cn qw.lt
    have rg : Apart be.ownBlock bu.ownBlock := zI cn qx.lt
    have rh : Apart be.ownBlock bv.ownBlock := zI cn qy.lt
    have ri : Apart be.ownBlock ab.ownBlock := zI cn qz.lt
    have ahk : Apart be.ownBlock ky.ownBlock := zI cn q5.lt
    have rj : Apart be.ownBlock (some b) := zJ cn q2.lt
    have rk : Apart be.ownBlock (some f) := zJ cn q3.lt
    have rl : Apart be.ownBlock (some d) := zJ cn q4.lt
    have rm : Own eInt 3 ae ahg w.heap.size be ([]) := ahh.weaken ic.size
    refine ⟨fun _ => g5.pins, ?_⟩
    refine dO (i := 4) (zU (i := 4) rfl rfl rfl (zD rfl _) (oA (E := eInt) (v := be) (u := kj) 8 Tryz.underlying56 ap3 (by decide) rfl rfl g5.pins rm ((kk.mono (Pin.le_trans (Pin.le_trans an y) e6)).src g5.pins (by decide)) (g5.size) (fun co av4 rn ahl bt dx => ?_)))
    have ie := g5.write ahl bt ((yN rm))
    have ro := q6.keptA bt re.symm
    have rp := q7.keptA bt rf.symm
    have rq := q8.keptA bt rg.symm
    have rr := q9.keptA bt rh.symm
    have rs := ra.keptA bt ri.symm
    have ahm := ahj.keptA bt ahk.symm
    have rt := rb.keptA bt rj.symm
    have ru := rc.keptA bt rk.symm
    have rv := rd.keptA bt rl.symm
    have rx : Apart at_.ownBlock co.ownBlock := zG re.symm dx q6.lt
    have ry : Apart ov.ownBlock co.ownBlock := zG rf.symm dx q7.lt
    have rz : Apart bu.ownBlock co.ownBlock := zG rg.symm dx q8.lt
    have r0 : Apart bv.ownBlock co.ownBlock := zG rh.symm dx q9.lt
    have r1 : Apart ab.ownBlock co.ownBlock := zG ri.symm dx ra.lt
    have r2 : Apart (some b) co.ownBlock := zR rj.symm dx rb.lt
    have r3 : Apart (some f) co.ownBlock := zR rk.symm dx rc.lt
    have r4 : Apart (some d) co.ownBlock := zR rl.symm dx rd.lt
    have av5 : (([]) ++ ((fr.take i).drop 0)).length = ([]).length + ((fr.take i).drop 0).length := List.length_append
    refine ⟨fun _ => ie.pins, ?_⟩
    refine dO (i := 7) (zU (i := 7) rfl rfl rfl (zD rfl _) (oA (E := eInt) (v := co) (u := ky) 8 Tryz.underlying56 ap3 (by decide) rfl rfl ie.pins rn ahm.src (ie.size) (fun cp av6 r5 ahn cq dy => ?_)))
    have g6 := ie.write ahn cq ((yN rn))
    have r6 := ro.keptA cq rx
    have r7 := rp.keptA cq ry
    have r8 := rq.keptA cq rz
    have r9 := rr.keptA cq r0
    have sa := rs.keptA cq r1
    have sb := rt.keptA cq r2
    have sc := ru.keptA cq r3
    have sd := rv.keptA cq r4
    have se : Apart at_.ownBlock cp.ownBlock := zG rx dy ro.lt
    have sf : Apart ov.ownBlock cp.ownBlock := zG ry dy rp.lt
    have sg : Apart bu.ownBlock cp.ownBlock := zG rz dy rq.lt
    have sh : Apart bv.ownBlock cp.ownBlock := zG r0 dy rr.lt
    have si : Apart ab.ownBlock cp.ownBlock := zG r1 dy rs.lt
    have sj : Apart (some b) cp.ownBlock := zR r2 dy rt.lt
    have sk : Apart (some f) cp.ownBlock := zR r3 dy ru.lt
    have sl : Apart (some d) cp.ownBlock := zR r4 dy rv.lt
    have av7 : ((([]) ++ ((fr.take i).drop 0)) ++ ([(c : Int)])).length = (([]) ++ ((fr.take i).drop 0)).length + 1 := List.length_append
    refine ⟨fun _ => g6.pins, ?_⟩
    refine dO (i := 11) (zU (i := 11) rfl rfl rfl (zD rfl _) (oA (E := eInt) (v := cp) (u := kl) 8 Tryz.underlying56 ap3 (by decide) rfl rfl g6.pins r5 ((km.mono (Pin.le_trans (Pin.le_trans an y) e6)).src g6.pins (by decide)) (g6.size) (fun bw av8 aho ahp cr dz => ?_)))
    have kz := g6.write ahp cr ((yN r5))
    have ahq := r6.keptA cr se
    have ahr := r7.keptA cr sf
    have ahs := r8.keptA cr sg
    have aht := r9.keptA cr sh
    have ahu := sa.keptA cr si
    have ahv := sb.keptA cr sj
    have ahw := sc.keptA cr sk
    have ahx := sd.keptA cr sl
    have ahy : Apart at_.ownBlock bw.ownBlock := zG se dz r6.lt
    have ahz : Apart ov.ownBlock bw.ownBlock := zG sf dz r7.lt
    have ah0 : Apart bu.ownBlock bw.ownBlock := zG sg dz r8.lt
    have ah1 : Apart bv.ownBlock bw.ownBlock := zG sh dz r9.lt
    have ah2 : Apart ab.ownBlock bw.ownBlock := zG si dz sa.lt
    have ah3 : Apart (some b) bw.ownBlock := zR sj dz sb.lt
    have ah4 : Apart (some f) bw.ownBlock := zR sk dz sc.lt
    have ah5 : Apart (some d) bw.ownBlock := zR sl dz sd.lt
    have av9 : (((([]) ++ ((fr.take i).drop 0)) ++ ([(c : Int)])) ++ ((fr.take fr.length).drop i)).length = ((([]) ++ ((fr.take i).drop 0)) ++ ([(c : Int)])).length + ((fr.take fr.length).drop i).length := List.length_append
    refine ⟨fun _ => kz.pins, ?_⟩
    refine dM 12 bw kz.pins ?_
    exact yQ (by kernel_rfl) (qV ⟨_, bw, ae, (pS 11 (pS 10 (pS 9 (pS 8 (pS 7 (pS 6 (pS 5 (pS 4 (pS 1 (pU 0)))))))))), kz, (Pin.le_refl _), ahq, ahr, ahs, aht, ahu, aho, ahv, ahw, ahx, ahy, ahz, ah0, ah1, ah2, ah3.symm, ah4.symm, ah5.symm⟩)
   refine yZ (S := fun wz => Pins s wz) (last := 13) (by kernel_rfl) rfl ?_
   have ct : Below e5.heap.size e5 e5.drew := (Below.refl _ _).drew
   have ah6 := g1.pins.below ct
   have av := g1.step ah6 ct
   have k0 := j2.below ct
   have k1 := j3.below ct
   have k2 := j4.below ct
   have k3 := j5.below ct
   have k4 := j6.below ct
   have k6 := j7.below ct
   have k7 := j8.below ct
   refine dM 1 lv av.pins ?_
   refine dM 2 (vJ (i : Int)) av.pins ?_
   obtain ⟨k8, k9, ah7⟩ := qU bk (lo := none) (hi := (some ((i : Int)))) (0) (i) (Or.inl ⟨rfl, rfl⟩) (Or.inr ⟨_, rfl, (by omega), rfl⟩) (by omega) (by omega)
   refine dT (i := 3) rfl rfl (by kernel_rfl) (fun _ _ => ah7 Tryz.underlying30 sz65 rfl rfl rfl) av.pins ?_
   refine dT (i := 5) rfl rfl (by kernel_rfl) (fun _ hS => yH (cs := [ca, cb]) ag65 sz65 rfl (fun j u hj => (Pins.of_le hS y) _ _ _ (oh _ _ (by simpa using hj)))) av.pins ?_
   refine dM 8 lv av.pins ?_
   refine dM 9 (vJ (i : Int)) av.pins ?_
   obtain ⟨la, lb, ah8⟩ := qU bk (lo := (some ((i : Int)))) (hi := none) (i) (ls.length) (Or.inr ⟨_, rfl, (by omega), rfl⟩) (Or.inl ⟨rfl, rfl⟩) (by omega) (by omega)
   refine dT (i := 10) rfl rfl (by kernel_rfl) (fun _ _ => ah8 Tryz.underlying30 sz65 rfl rfl rfl) av.pins ?_
   refine dr_two (i := 0) (j := 6) (by kernel_rfl) ?_ ?_
   refine (zU (i := 0) rfl rfl rfl (zD rfl _) (xD (E := eNode) (e := 65) Tryz.underlying30 sz65 av.pins (fun bf ah9 aia aib d0 e8 => ?_)))
   have d1 := av.step aib d0
   have lc := k0.below d0
   have ld := k1.below d0
   have lf := k2.below d0
   have lg := k3.below d0
   have lh := k4.below d0
   have li := k6.below d0
   have lj := k7.below d0
   have ig : Apart bf.ownBlock at_.ownBlock := zI e8 k0.lt
   have ih : Apart bf.ownBlock ov.ownBlock := zI e8 k1.lt
   have ii : Apart bf.ownBlock bu.ownBlock := zI e8 k2.lt
   have ij : Apart bf.ownBlock bv.ownBlock := zI e8 k3.lt
   have ik : Apart bf.ownBlock (some b) := zJ e8 k4.lt
   have il : Apart bf.ownBlock (some f) := zJ e8 k6.lt
   have im : Apart bf.ownBlock (some d) := zJ e8 k7.lt
   have io : Own eNode 65 s ah9 w.heap.size bf ([]) := aia.weaken av.size
   refine ⟨fun _ => d1.pins, ?_⟩
   refine dr_two (i := 4) (j := 6) (by kernel_rfl) ?_ ?_
   refine (zU (i := 4) rfl rfl rfl (zD rfl _) (oA (E := eNode) (v := bf) (u := k8) 48 Tryz.underlying30 ap65 (by decide) rfl rfl d1.pins io ((k9.mono (Pin.le_trans an y)).src d1.pins (by decide)) (d1.size) (fun d2 awa aic aid d3 e9 => ?_)))
   have ip := d1.write aid d3 ((yN io))
   have aie := lc.keptA d3 ig.symm
   have aif := ld.keptA d3 ih.symm
   have aig := lf.keptA d3 ii.symm
   have aih := lg.keptA d3 ij.symm
   have aii := lh.keptA d3 ik.symm
   have aij := li.keptA d3 il.symm
   have aik := lj.keptA d3 im.symm
   have sm : Apart at_.ownBlock d2.ownBlock := zG ig.symm e9 lc.lt
   have sn : Apart ov.ownBlock d2.ownBlock := zG ih.symm e9 ld.lt
   have sp : Apart bu.ownBlock d2.ownBlock := zG ii.symm e9 lf.lt
   have sq : Apart bv.ownBlock d2.ownBlock := zG ij.symm e9 lg.lt
   have sr : Apart (some b) d2.ownBlock := zR ik.symm e9 lh.lt
   have ss : Apart (some f) d2.ownBlock := zR il.symm e9 li.lt
   have st : Apart (some d) d2.ownBlock := zR im.symm e9 lj.lt
   have awb : (([]) ++ ((ls.take i).drop 0)).length = ([]).length + ((ls.take i).drop 0).length := List.length_append
   refine ⟨fun _ => ip.pins, ?_⟩
   refine dO (i := 6) (zU (i := 6) rfl rfl rfl (zD rfl _) (o_build1 (E := eNode) (e := 65) [ca, cb] (⟨sortL (atL ats ((ns.getD c default).l)), sortL (atL ats ((ns.getD c default).r))⟩ : Nd) Tryz.underlying30 sz65 zr65 ⟨_, _, rfl, (hy.mono y), (hz.mono y)⟩ rfl (by decide) ip.pins (fun su ail aim ain cu awc => ?_)))
   have iq := ip.step ain cu
   have sv := aie.below cu
   have sw := aif.below cu
   have sx := aig.below cu
   have sy := aih.below cu
   have sz := aic.below cu
   have s0 := aii.below cu
   have s1 := aij.below cu
   have s2 := aik.below cu
   have aio : Own eNode 65 s ail w.heap.size su ([(⟨sortL (atL ats ((ns.getD c default).l)), sortL (atL ats ((ns.getD c default).r))⟩ : Nd)]) := aim.weaken ip.size
   refine ⟨fun _ => iq.pins, ?_⟩
   refine dO (i := 7) (zU (i := 7) rfl rfl rfl (zD rfl _) (oA (E := eNode) (v := d2) (u := su) 48 Tryz.underlying30 ap65 (by decide) rfl rfl iq.pins sz aio.src (iq.size) (fun d4 awd s3 aip d5 fa => ?_)))
   have g7 := iq.write aip d5 ((yN sz))
   have s4 := sv.keptA d5 sm
   have s5 := sw.keptA d5 sn
   have s6 := sx.keptA d5 sp
   have s7 := sy.keptA d5 sq
   have s8 := s0.keptA d5 sr
   have s9 := s1.keptA d5 ss
   have ta := s2.keptA d5 st
   have tb : Apart at_.ownBlock d4.ownBlock := zG sm fa sv.lt
   have tc : Apart ov.ownBlock d4.ownBlock := zG sn fa sw.lt
   have td : Apart bu.ownBlock d4.ownBlock := zG sp fa sx.lt
   have te : Apart bv.ownBlock d4.ownBlock := zG sq fa sy.lt
   have tf : Apart (some b) d4.ownBlock := zR sr fa s0.lt
   have tg : Apart (some f) d4.ownBlock := zR ss fa s1.lt
   have th : Apart (some d) d4.ownBlock := zR st fa s2.lt
   have awe : ((([]) ++ ((ls.take i).drop 0)) ++ ([(⟨sortL (atL ats ((ns.getD c default).l)), sortL (atL ats ((ns.getD c default).r))⟩ : Nd)])).length = (([]) ++ ((ls.take i).drop 0)).length + 1 := List.length_append
   refine ⟨fun _ => g7.pins, ?_⟩
   refine dO (i := 11) (zU (i := 11) rfl rfl rfl (zD rfl _) (oA (E := eNode) (v := d4) (u := la) 48 Tryz.underlying30 ap65 (by decide) rfl rfl g7.pins s3 ((lb.mono (Pin.le_trans an y)).src g7.pins (by decide)) (g7.size) (fun cv awf aiq air d6 fb => ?_)))
   have lk := g7.write air d6 ((yN s3))
   have ais := s4.keptA d6 tb
   have ait := s5.keptA d6 tc
   have aiu := s6.keptA d6 td
   have aiv := s7.keptA d6 te
   have aiw := s8.keptA d6 tf
   have aix := s9.keptA d6 tg
   have aiy := ta.keptA d6 th
   have aiz : Apart at_.ownBlock cv.ownBlock := zG tb fb s4.lt
   have ai0 : Apart ov.ownBlock cv.ownBlock := zG tc fb s5.lt
   have ai1 : Apart bu.ownBlock cv.ownBlock := zG td fb s6.lt
   have ai2 : Apart bv.ownBlock cv.ownBlock := zG te fb s7.lt
   have ai3 : Apart (some b) cv.ownBlock := zR tf fb s8.lt
   have ai4 : Apart (some f) cv.ownBlock := zR tg fb s9.lt
   have ai5 : Apart (some d) cv.ownBlock := zR th fb ta.lt
   have awg : (((([]) ++ ((ls.take i).drop 0)) ++ ([(⟨sortL (atL ats ((ns.getD c default).l)), sortL (atL ats ((ns.getD c default).r))⟩ : Nd)])) ++ ((ls.take ls.length).drop i)).length = ((([]) ++ ((ls.take i).drop 0)) ++ ([(⟨sortL (atL ats ((ns.getD c default).l)), sortL (atL ats ((ns.getD c default).r))⟩ : Nd)])).length + ((ls.take ls.length).drop i).length := List.length_append
   refine ⟨fun _ => lk.pins, ?_⟩
   refine dM 12 cv lk.pins ?_
   exact yQ (by kernel_rfl) (qV ⟨_, cv, s, (pS 13 (pS 11 (pS 10 (pS 9 (pS 8 (pS 7 (pS 6 (pS 5 (pS 4 (pS 1 (pU 0))))))))))), lk, (Pin.le_refl _), ais, ait, aiu, aiv, aiq, aiw, aix, aiy, aiz, ai0, ai1, ai2, ai3.symm, ai4.symm, ai5.symm⟩)
   refine (zU (i := 6) rfl rfl rfl (zD rfl _) (o_build1 (E := eNode) (e := 65) [ca, cb] (⟨sortL (atL ats ((ns.getD c default).l)), sortL (atL ats ((ns.getD c default).r))⟩ : Nd) Tryz.underlying30 sz65 zr65 ⟨_, _, rfl, (hy.mono y), (hz.mono y)⟩ rfl (by decide) d1.pins (fun ll ai6 ai7 ai8 cw ai9 => ?_)))
   have g8 := d1.step ai8 cw
   have ti := lc.below cw
   have tj := ld.below cw
   have tk := lf.below cw
   have tl := lg.below cw
   have tm := io.below cw
   have tn := lh.below cw
   have tp := li.below cw
   have tq := lj.below cw
   have aja : Apart ll.ownBlock bf.ownBlock := zI ai9 io.lt
   have ajb : Own eNode 65 s ai6 w.heap.size ll ([(⟨sortL (atL ats ((ns.getD c default).l)), sortL (atL ats ((ns.getD c default).r))⟩ : Nd)]) := ai7.weaken d1.size
   refine ⟨fun _ => g8.pins, ?_⟩
   refine dO (i := 4) (zU (i := 4) rfl rfl rfl (zD rfl _) (oA (E := eNode) (v := bf) (u := k8) 48 Tryz.underlying30 ap65 (by decide) rfl rfl g8.pins tm ((k9.mono (Pin.le_trans an y)).src g8.pins (by decide)) (g8.size) (fun d7 awh ts ajc cx fc => ?_)))
   have ir := g8.write ajc cx ((yN tm))
   have tt := ti.keptA cx ig.symm
   have tu := tj.keptA cx ih.symm
   have tv := tk.keptA cx ii.symm
   have tw := tl.keptA cx ij.symm
   have ajd := ajb.keptA cx aja
   have tx := tn.keptA cx ik.symm
   have ty := tp.keptA cx il.symm
   have tz := tq.keptA cx im.symm
   have t0 : Apart at_.ownBlock d7.ownBlock := zG ig.symm fc ti.lt
   have t1 : Apart ov.ownBlock d7.ownBlock := zG ih.symm fc tj.lt
   have t2 : Apart bu.ownBlock d7.ownBlock := zG ii.symm fc tk.lt
   have t3 : Apart bv.ownBlock d7.ownBlock := zG ij.symm fc tl.lt
   have t4 : Apart (some b) d7.ownBlock := zR ik.symm fc tn.lt
   have t5 : Apart (some f) d7.ownBlock := zR il.symm fc tp.lt
   have t6 : Apart (some d) d7.ownBlock := zR im.symm fc tq.lt
   have awi : (([]) ++ ((ls.take i).drop 0)).length = ([]).length + ((ls.take i).drop 0).length := List.length_append
   refine ⟨fun _ => ir.pins, ?_⟩
   refine dO (i := 7) (zU (i := 7) rfl rfl rfl (zD rfl _) (oA (E := eNode) (v := d7) (u := ll) 48 Tryz.underlying30 ap65 (by decide) rfl rfl ir.pins ts ajd.src (ir.size) (fun d8 awj t7 aje d9 fd => ?_)))
   have g9 := ir.write aje d9 ((yN ts))
   have t8 := tt.keptA d9 t0
   have t9 := tu.keptA d9 t1
   have ua := tv.keptA d9 t2
   have ub := tw.keptA d9 t3
   have uc := tx.keptA d9 t4
   have ud := ty.keptA d9 t5
   have ue := tz.keptA d9 t6
   have uf : Apart at_.ownBlock d8.ownBlock := zG t0 fd tt.lt
   have ug : Apart ov.ownBlock d8.ownBlock := zG t1 fd tu.lt
   have uh : Apart bu.ownBlock d8.ownBlock := zG t2 fd tv.lt
   have ui : Apart bv.ownBlock d8.ownBlock := zG t3 fd tw.lt
   have uj : Apart (some b) d8.ownBlock := zR t4 fd tx.lt
   have uk : Apart (some f) d8.ownBlock := zR t5 fd ty.lt
   have ul : Apart (some d) d8.ownBlock := zR t6 fd tz.lt
   have awk : ((([]) ++ ((ls.take i).drop 0)) ++ ([(⟨sortL (atL ats ((ns.getD c default).l)), sortL (atL ats ((ns.getD c default).r))⟩ : Nd)])).length = (([]) ++ ((ls.take i).drop 0)).length + 1 := List.length_append
   refine ⟨fun _ => g9.pins, ?_⟩
   refine dO (i := 11) (zU (i := 11) rfl rfl rfl (zD rfl _) (oA (E := eNode) (v := d8) (u := la) 48 Tryz.underlying30 ap65 (by decide) rfl rfl g9.pins t7 ((lb.mono (Pin.le_trans an y)).src g9.pins (by decide)) (g9.size) (fun cy awl ajf ajg ea fe => ?_)))
   have lm := g9.write ajg ea ((yN t7))
   have ajh := t8.keptA ea uf
   have aji := t9.keptA ea ug
   have ajj := ua.keptA ea uh
   have ajk := ub.keptA ea ui
   have ajl := uc.keptA ea uj
   have ajm := ud.keptA ea uk
   have ajn := ue.keptA ea ul
   have ajo : Apart at_.ownBlock cy.ownBlock := zG uf fe t8.lt
   have ajp : Apart ov.ownBlock cy.ownBlock := zG ug fe t9.lt
   have ajq : Apart bu.ownBlock cy.ownBlock := zG uh fe ua.lt
   have ajr : Apart bv.ownBlock cy.ownBlock := zG ui fe ub.lt
   have ajs : Apart (some b) cy.ownBlock := zR uj fe uc.lt
   have ajt : Apart (some f) cy.ownBlock := zR uk fe ud.lt
   have aju : Apart (some d) cy.ownBlock := zR ul fe ue.lt
   have awm : (((([]) ++ ((ls.take i).drop 0)) ++ ([(⟨sortL (atL ats ((ns.getD c default).l)), sortL (atL ats ((ns.getD c default).r))⟩ : Nd)])) ++ ((ls.take ls.length).drop i)).length = ((([]) ++ ((ls.take i).drop 0)) ++ ([(⟨sortL (atL ats ((ns.getD c default).l)), sortL (atL ats ((ns.getD c default).r))⟩ : Nd)])).length + ((ls.take ls.length).drop i).length := List.length_append
   refine ⟨fun _ => lm.pins, ?_⟩
   refine dM 12 cy lm.pins ?_
   exact yQ (by kernel_rfl) (qV ⟨_, cy, s, (pS 13 (pS 11 (pS 10 (pS 9 (pS 8 (pS 7 (pS 6 (pS 5 (pS 4 (pS 1 (pU 0))))))))))), lm, (Pin.le_refl _), ajh, aji, ajj, ajk, ajf, ajl, ajm, ajn, ajo, ajp, ajq, ajr, ajs.symm, ajt.symm, aju.symm⟩)
   refine (zU (i := 6) rfl rfl rfl (zD rfl _) (o_build1 (E := eNode) (e := 65) [ca, cb] (⟨sortL (atL ats ((ns.getD c default).l)), sortL (atL ats ((ns.getD c default).r))⟩ : Nd) Tryz.underlying30 sz65 zr65 ⟨_, _, rfl, (hy.mono y), (hz.mono y)⟩ rfl (by decide) av.pins (fun ln ajv ajw ajx eb awn => ?_)))
   have it := av.step ajx eb
   have um := k0.below eb
   have un := k1.below eb
   have uo := k2.below eb
   have up := k3.below eb
   have uq := k4.below eb
   have ur := k6.below eb
   have ut := k7.below eb
   have uu : Own eNode 65 s ajv w.heap.size ln ([(⟨sortL (atL ats ((ns.getD c default).l)), sortL (atL ats ((ns.getD c default).r))⟩ : Nd)]) := ajw.weaken av.size
   refine ⟨fun _ => it.pins, ?_⟩
   refine dO (i := 0) (zU (i := 0) rfl rfl rfl (zD rfl _) (xD (E := eNode) (e := 65) Tryz.underlying30 sz65 it.pins (fun bz ajy ajz aj0 cz ec => ?_)))
   have ha := it.step aj0 cz
   have uv := um.below cz
   have uw := un.below cz
   have ux := uo.below cz
   have uy := up.below cz
   have aj1 := uu.below cz
   have uz := uq.below cz
   have u0 := ur.below cz
   have u1 := ut.below cz
   have u2 : Apart bz.ownBlock at_.ownBlock := zI ec um.lt
   have u3 : Apart bz.ownBlock ov.ownBlock := zI ec un.lt
   have u4 : Apart bz.ownBlock bu.ownBlock := zI ec uo.lt
   have u5 : Apart bz.ownBlock bv.ownBlock := zI ec up.lt
   have aj2 : Apart bz.ownBlock ln.ownBlock := zI ec uu.lt
   have u6 : Apart bz.ownBlock (some b) := zJ ec uq.lt
   have u7 : Apart bz.ownBlock (some f) := zJ ec ur.lt
   have u8 : Apart bz.ownBlock (some d) := zJ ec ut.lt
   have u9 : Own eNode 65 s ajy w.heap.size bz ([]) := ajz.weaken it.size
   refine ⟨fun _ => ha.pins, ?_⟩
   refine dO (i := 4) (zU (i := 4) rfl rfl rfl (zD rfl _) (oA (E := eNode) (v := bz) (u := k8) 48 Tryz.underlying30 ap65 (by decide) rfl rfl ha.pins u9 ((k9.mono (Pin.le_trans an y)).src ha.pins (by decide)) (ha.size) (fun ed awo va aj3 c0 ff => ?_)))
   have iu := ha.write aj3 c0 ((yN u9))
   have vb := uv.keptA c0 u2.symm
   have vc := uw.keptA c0 u3.symm
   have vd := ux.keptA c0 u4.symm
   have ve := uy.keptA c0 u5.symm
   have aj4 := aj1.keptA c0 aj2.symm
   have vf := uz.keptA c0 u6.symm
   have vg := u0.keptA c0 u7.symm
   have vh := u1.keptA c0 u8.symm
   have vi : Apart at_.ownBlock ed.ownBlock := zG u2.symm ff uv.lt
   have vj : Apart ov.ownBlock ed.ownBlock := zG u3.symm ff uw.lt
   have vk : Apart bu.ownBlock ed.ownBlock := zG u4.symm ff ux.lt
   have vl : Apart bv.ownBlock ed.ownBlock := zG u5.symm ff uy.lt
   have vm : Apart (some b) ed.ownBlock := zR u6.symm ff uz.lt
   have vn : Apart (some f) ed.ownBlock := zR u7.symm ff u0.lt
   have vo : Apart (some d) ed.ownBlock := zR u8.symm ff u1.lt
   have awp : (([]) ++ ((ls.take i).drop 0)).length = ([]).length + ((ls.take i).drop 0).length := List.length_append
   refine ⟨fun _ => iu.pins, ?_⟩
   refine dO (i := 7) (zU (i := 7) rfl rfl rfl (zD rfl _) (oA (E := eNode) (v := ed) (u := ln) 48 Tryz.underlying30 ap65 (by decide) rfl rfl iu.pins va aj4.src (iu.size) (fun ee awq vp aj5 ef fg => ?_)))
   have hb := iu.write aj5 ef ((yN va))
   have vq := vb.keptA ef vi
   have vr := vc.keptA ef vj
   have vt := vd.keptA ef vk
   have vu := ve.keptA ef vl
   have vv := vf.keptA ef vm
   have vw := vg.keptA ef vn
   have vx := vh.keptA ef vo
   have vy : Apart at_.ownBlock ee.ownBlock := zG vi fg vb.lt
   have vz : Apart ov.ownBlock ee.ownBlock := zG vj fg vc.lt
   have v0 : Apart bu.ownBlock ee.ownBlock := zG vk fg vd.lt
   have v1 : Apart bv.ownBlock ee.ownBlock := zG vl fg ve.lt
   have v2 : Apart (some b) ee.ownBlock := zR vm fg vf.lt
   have v3 : Apart (some f) ee.ownBlock := zR vn fg vg.lt
   have v4 : Apart (some d) ee.ownBlock := zR vo fg vh.lt
   have awr : ((([]) ++ ((ls.take i).drop 0)) ++ ([(⟨sortL (atL ats ((ns.getD c default).l)), sortL (atL ats ((ns.getD c default).r))⟩ : Nd)])).length = (([]) ++ ((ls.take i).drop 0)).length + 1 := List.length_append
   refine ⟨fun _ => hb.pins, ?_⟩
   refine dO (i := 11) (zU (i := 11) rfl rfl rfl (zD rfl _) (oA (E := eNode) (v := ee) (u := la) 48 Tryz.underlying30 ap65 (by decide) rfl rfl hb.pins vp ((lb.mono (Pin.le_trans an y)).src hb.pins (by decide)) (hb.size) (fun c1 aws aj6 aj7 eg fh => ?_)))
   have lp := hb.write aj7 eg ((yN vp))
   have aj8 := vq.keptA eg vy
   have aj9 := vr.keptA eg vz
   have aka := vt.keptA eg v0
   have akb := vu.keptA eg v1
   have akc := vv.keptA eg v2
   have akd := vw.keptA eg v3
   have ake := vx.keptA eg v4
   have akf : Apart at_.ownBlock c1.ownBlock := zG vy fh vq.lt
   have akg : Apart ov.ownBlock c1.ownBlock := zG vz fh vr.lt
   have akh : Apart bu.ownBlock c1.ownBlock := zG v0 fh vt.lt
   have aki : Apart bv.ownBlock c1.ownBlock := zG v1 fh vu.lt
   have akj : Apart (some b) c1.ownBlock := zR v2 fh vv.lt
   have akk : Apart (some f) c1.ownBlock := zR v3 fh vw.lt
   have akl : Apart (some d) c1.ownBlock := zR v4 fh vx.lt
   have awt : (((([]) ++ ((ls.take i).drop 0)) ++ ([(⟨sortL (atL ats ((ns.getD c default).l)), sortL (atL ats ((ns.getD c default).r))⟩ : Nd)])) ++ ((ls.take ls.length).drop i)).length = ((([]) ++ ((ls.take i).drop 0)) ++ ([(⟨sortL (atL ats ((ns.getD c default).l)), sortL (atL ats ((ns.getD c default).r))⟩ : Nd)])).length + ((ls.take ls.length).drop i).length := List.length_append
   refine ⟨fun _ => lp.pins, ?_⟩
   refine dM 12 c1 lp.pins ?_
   exact yQ (by kernel_rfl) (qV ⟨_, c1, s, (pS 13 (pS 11 (pS 10 (pS 9 (pS 8 (pS 7 (pS 6 (pS 5 (pS 4 (pS 1 (pU 0))))))))))), lp, (Pin.le_refl _), aj8, aj9, aka, akb, aj6, akc, akd, ake, akf, akg, akh, aki, akj.symm, akk.symm, akl.symm⟩)
  refine yT (fun (k : Nat) (en : Nat → Value) (W : World) => ∃ (ac : Nat → Value) (i : Nat) (s : Pin), en = (upd (upd (upd (upd (upd (upd (upd (upd (upd (upd (upd (upd ac 0 (.pointer (some ⟨b, 0, none⟩))) 1 (vJ m)) 4 (.pointer (some ⟨f, 0, none⟩))) 5 ax) 6 at_) 7 (.pointer (some ⟨d, 0, none⟩))) 8 (vJ (q : Int))) 9 lv) 10 fv) 11 (vJ (c : Int))) 12 (.pointer (some ⟨g0, 0, none⟩))) 13 (vJ (i : Int))) ∧ k = ls.length - i ∧ Ext noS G w s W ∧ Pin.le am s ∧ (i ≤ ls.length) ∧ (posM ls (ndAt ats (ns.getD c default)) = i + posM (ls.drop i) (ndAt ats (ns.getD c default))) ∧ (Own eInt 3 s W w.heap.size at_ (ats)) ∧ (Own eNode 65 s W w.heap.size ov (outs)) ∧ (Own eNode 65 s W 0 bu (ns)) ∧ (Own eInt 3 s W 0 bv (bs)) ∧ (Bx s W b [bu, bv]) ∧ (Bx s W f [(.slice none 0 0)]) ∧ (Bx s W d [ov])) _ ⟨_, 0, am, (pS 13 (pS 12 (pS 11 (pS 10 (pS 9 (pS 8 (pS 7 (pS 6 (pS 5 (pS 4 (pS 1 (pU 0)))))))))))), rfl, adp, Pin.le_refl _, Nat.zero_le _, (Nat.zero_add _).symm, adq, adr, ads, adt, adu, adv, adw⟩ ?_
  rintro awu _ e5 ⟨ac, i, s, rfl, awv, g1, y, hi, hpp, j2, j3, j4, j5, j6, j7, j8⟩
  refine zB (zB ?_)
  refine yZ (S := fun wz => Pins s wz) (last := 12) (by kernel_rfl) rfl ?_
  have c2 : Below e5.heap.size e5 e5.drew := (Below.refl _ _).drew
  have akm := g1.pins.below c2
  have ag := g1.step akm c2
  have v5 := j2.below c2
  have v6 := j3.below c2
  have v7 := j4.below c2
  have v8 := j5.below c2
  have v9 := j6.below c2
  have wa := j7.below c2
  have wb := j8.below c2
  refine dM 0 (vJ (i : Int)) ag.pins ?_
  refine dM 1 lv ag.pins ?_
  refine dT (i := 2) rfl rfl (by kernel_rfl) (fun _ _ => zM Tryz.underlying30 (v := lv) rfl bk) ag.pins ?_
  refine dT (i := 3) rfl rfl (by kernel_rfl) (fun _ _ => yV rfl rfl) ag.pins ?_
  refine dM 4 (.bool (decide (((i : Int) : Int) < (ls.length : Int)))) ag.pins ?_
  refine drbd (p := ((i : Int) : Int) < (ls.length : Int)) (t := 84) rfl (fun akn => ?_) (fun akn => ?_)
  refine yY (i := 5) rfl rfl rfl (yS rfl rfl rfl rfl) (by kernel_rfl) (fun _ _ => zQ (v := lv) rfl) ag.pins (yY (i := 6) rfl rfl rfl (yS rfl rfl rfl rfl) (by kernel_rfl) (fun _ _ => zQ (v := (vJ (i : Int))) rfl) ag.pins (yY (i := 7) rfl rfl rfl (yS rfl rfl rfl rfl) (by kernel_rfl) (fun _ _ => zF Tryz.underlying30 sz65 (v := lv) rfl rfl bk (by omega) (by omega)) ag.pins ?_))
  obtain ⟨ako, akp, wc, wd, akq⟩ := jB (bk.at (z := (i : Int)) (by omega) (by omega)) (j := i) rfl
  have aww := wc.max
  have awx := wd.max
  refine yY (i := 8) rfl rfl rfl (yS rfl rfl rfl rfl) (by kernel_rfl) (fun _ hS => akq ag65 sz65 rfl (Pins.of_le hS (Pin.le_trans an y))) ag.pins (yY (i := 9) rfl rfl rfl (yS rfl rfl rfl rfl) (by kernel_rfl) (fun _ hS => yH (cs := [ca, cb]) ag65 sz65 rfl (fun j u hj => (Pins.of_le hS y) _ _ _ (oh _ _ (by simpa using hj)))) ag.pins ?_)
  refine dO (i := 10) (zU (i := 10) rfl rfl rfl (yS rfl rfl rfl rfl) (zH (vs := [(.agg [ako, akp].toArray), (.agg [ca, cb].toArray)]) Tryz.func81 nm81 rfl rfl rfl ?_))
  refine Calls.mono (l3NodeAhead_spec (a := ⟨(ls.getD i default).l, (ls.getD i default).r⟩) (b := ⟨sortL (atL ats ((ns.getD c default).l)), sortL (atL ats ((ns.getD c default).r))⟩) ag.pins (wc.mono (Pin.le_trans an y)) (wd.mono (Pin.le_trans an y)) (hy.mono y) (hz.mono y)) ?_
  rintro _ awy ⟨we, rfl, a1⟩
  refine ⟨_, rfl, ?_⟩
  have iv := ag.tr a1
  have wf := v5.ext a1
  have wg := v6.ext a1
  have wh := v7.ext a1
  have wi := v8.ext a1
  have wj := v9.ext a1
  have wk := wa.ext a1
  have wl := wb.ext a1
  refine ⟨fun _ => (Pins.of_le iv.pins a1.le), ?_⟩
  refine dT (i := 11) rfl rfl (by kernel_rfl) (fun _ _ => yD (v := (.bool (decide ((aheadI (⟨(ls.getD i default).l, (ls.getD i default).r⟩ : Nd) (⟨sortL (atL ats ((ns.getD c default).l)), sortL (atL ats ((ns.getD c default).r))⟩ : Nd)) < 0)))) rfl rfl) (Pins.of_le iv.pins a1.le) ?_
  refine yQ (by kernel_rfl) (zA (yA (p := ((aheadI (⟨(ls.getD i default).l, (ls.getD i default).r⟩ : Nd) (⟨sortL (atL ats ((ns.getD c default).l)), sortL (atL ats ((ns.getD c default).r))⟩ : Nd)) < 0)) rfl rfl (fun lq => ?_) (fun lq => ?_)))
  refine wp_skip (zA (zX (zC (qM (vJ (i : Int)) ?_))))
  refine qD rfl (yJ rfl rfl (by omega)) (qM (vJ ((i : Int) + 1)) ?_)
  refine qe (yB (zZ (⟨_, ?_, _, rfl, _, i + 1, we, (pS 13 (pS 12 (pS 11 (pS 10 (pS 9 (pS 8 (pS 7 (pS 6 (pS 5 (pS 4 (pS 1 (pU 0)))))))))))), rfl, iv, (Pin.le_trans y a1.le), (by omega), (pos_next (by omega) lq hpp), wf, wg, wh, wi, wj, wk, wl⟩)))
  omega
  exact wp_exit (zW (yO (cutE_in ⟨_, i, we, (pS 13 (pS 12 (pS 11 (pS 10 (pS 9 (pS 8 (pS 7 (pS 6 (pS 5 (pS 4 (pS 1 (pU 0)))))))))))), iv, (Pin.le_trans y a1.le), hi, (pos_stop (by omega) lq hpp), wf, wg, wh, wi, wj, wk, wl⟩)))
  refine yP (i := 5) rfl rfl (yU rfl rfl rfl rfl rfl) (by kernel_rfl) ag.pins (yP (i := 6) rfl rfl (yU rfl rfl rfl rfl rfl) (by kernel_rfl) ag.pins (yP (i := 7) rfl rfl (yU rfl rfl rfl rfl rfl) (by kernel_rfl) ag.pins (yP (i := 8) rfl rfl (yU rfl rfl rfl rfl rfl) (by kernel_rfl) ag.pins (yP (i := 9) rfl rfl (yU rfl rfl rfl rfl rfl) (by kernel_rfl) ag.pins (yP (i := 10) rfl rfl (yU rfl rfl rfl rfl rfl) (by kernel_rfl) ag.pins (dT (i := 11) rfl rfl (by kernel_rfl) (fun _ _ => zY (v := (.bool false)) rfl rfl) ag.pins ?_))))))
  exact yQ (by kernel_rfl) (zA (qA rfl rfl (wp_exit (zW (yO (cutE_in ⟨_, i, s, (pS 13 (pS 12 (pS 11 (pS 10 (pS 9 (pS 8 (pS 7 (pS 6 (pS 5 (pS 4 (pS 1 (pU 0)))))))))))), ag, y, hi, (pos_end (by omega) hpp), v5, v6, v7, v8, v9, wa, wb⟩))))))
 have akr := Gadd.pins dm.pins bu
 have iw := e4.read
 refine yZ (S := fun wz => BxR wz b [bu, bv] ∧ Pins (Gadd ai ht bu) wz) (last := 24) (by kernel_rfl) rfl ?_
 have b0 : Below ht.heap.size ht ht.drew := (Below.refl _ _).drew
 have aks := dm.pins.below b0
 have fi := dm.step aks b0
 have hc := hu.below b0
 have ix := hv.below b0
 have iy := e4.below b0
 have iz := gf.below b0
 have ad := gz.below b0
 have i0 := hw.below b0
 have i1 := hx.below b0
 have ah := akr.below b0
 refine dT (i := 0) rfl rfl (by kernel_rfl) (fun _ _ => zQ (v := at_) rfl) ⟨ad.reads, ah⟩ ?_
 refine dT (i := 1) rfl rfl (by kernel_rfl) (fun _ _ => zQ (v := (.pointer (some ⟨b, 0, none⟩))) rfl) ⟨ad.reads, ah⟩ ?_
 refine dT (i := 2) rfl rfl (by kernel_rfl) (fun _ _ => yW rfl) ⟨ad.reads, ah⟩ ?_
 refine dT (i := 3) rfl rfl (by kernel_rfl) (fun _ _ => zK (k := 0) rfl Tryz.underlying77 rfl nz30 rfl) ⟨ad.reads, ah⟩ ?_
 refine dT (i := 4) rfl rfl (by kernel_rfl) (fun _ hS => zL (u := bu) ag30 rfl (hS.1 0 _ rfl)) ⟨ad.reads, ah⟩ ?_
 refine dT (i := 5) rfl rfl (by kernel_rfl) (fun _ _ => zQ (v := (vJ (c : Int))) rfl) ⟨ad.reads, ah⟩ ?_
 refine dT (i := 6) rfl rfl (by kernel_rfl) (fun _ _ => zF Tryz.underlying30 sz65 (v := bu) rfl rfl iw (by omega) (by omega)) ⟨ad.reads, ah⟩ ?_
 refine dT (i := 7) rfl rfl (by kernel_rfl) (fun _ _ => xI (off := 0) Tryz.underlying65 rfl rfl nz56 (z := (c : Int)) (k := 0) rfl iw (by omega) (by omega)) ⟨ad.reads, ah⟩ ?_
 obtain ⟨wm, lr, akt⟩ := nm_nl (e4.at (z := (c : Int)) (by omega) (by omega)) (j := c) rfl
 have awz := lr.max
 refine dT (i := 8) rfl rfl (by kernel_rfl) (fun _ hS => akt ag56 rfl hS.2) ⟨ad.reads, ah⟩ ?_
 refine dT (i := 11) rfl rfl (by kernel_rfl) (fun _ _ => zQ (v := at_) rfl) ⟨ad.reads, ah⟩ ?_
 refine dT (i := 12) rfl rfl (by kernel_rfl) (fun _ _ => zQ (v := (.pointer (some ⟨b, 0, none⟩))) rfl) ⟨ad.reads, ah⟩ ?_
 refine dT (i := 13) rfl rfl (by kernel_rfl) (fun _ _ => yW rfl) ⟨ad.reads, ah⟩ ?_
 refine dT (i := 14) rfl rfl (by kernel_rfl) (fun _ _ => zK (k := 0) rfl Tryz.underlying77 rfl nz30 rfl) ⟨ad.reads, ah⟩ ?_
 refine dT (i := 15) rfl rfl (by kernel_rfl) (fun _ hS => zL (u := bu) ag30 rfl (hS.1 0 _ rfl)) ⟨ad.reads, ah⟩ ?_
 refine dT (i := 16) rfl rfl (by kernel_rfl) (fun _ _ => zQ (v := (vJ (c : Int))) rfl) ⟨ad.reads, ah⟩ ?_
 refine dT (i := 17) rfl rfl (by kernel_rfl) (fun _ _ => zF Tryz.underlying30 sz65 (v := bu) rfl rfl iw (by omega) (by omega)) ⟨ad.reads, ah⟩ ?_
 refine dT (i := 18) rfl rfl (by kernel_rfl) (fun _ _ => xI (off := 1) Tryz.underlying65 rfl rfl nz56 (z := (c : Int)) (k := 0) rfl iw (by omega) (by omega)) ⟨ad.reads, ah⟩ ?_
 obtain ⟨i2, hd, aku⟩ := nm_nr (e4.at (z := (c : Int)) (by omega) (by omega)) (j := c) rfl
 have aw0 := hd.max
 refine dT (i := 19) rfl rfl (by kernel_rfl) (fun _ hS => aku ag56 rfl hS.2) ⟨ad.reads, ah⟩ ?_
 refine dr_two (i := 9) (j := 23) (by kernel_rfl) ?_ ?_
 refine (zU (i := 9) rfl rfl rfl (zD rfl _) (zH (vs := [at_, wm]) Tryz.func58 nm58 rfl rfl rfl ?_))
 refine Calls.mono (qZ fi.pins (Gadd.pins fi.pins at_) hc.read lr (by omega) (fun i hi => by have := hoo.left (j := c) (by omega) hi; omega)) ?_
 rintro _ akv ⟨i3, akw, rfl, eh, ao⟩
 refine ⟨_, rfl, ?_⟩
 have i5 := fi.tr ao
 have lu := hc.ext ao
 have lw := ix.ext ao
 have lx := iy.ext ao
 have ly := iz.ext ao
 have i6 := ad.ext ao
 have lz := i0.ext ao
 have l0 := i1.ext ao
 have wn := zT eh.lt hc.lt
 have wo := zT eh.lt ix.lt
 have wp := zT eh.lt iy.lt
 have wq := zT eh.lt iz.lt
 have wr := yL eh.lt ad.lt
 have ws := yL eh.lt i0.lt
 have wt := yL eh.lt i1.lt
 have l1 : Own eInt 3 akw akv w.heap.size i3 (atL ats ((ns.getD c default).l)) := eh.weaken fi.size
 have l2 := ah.below ao.below
 refine ⟨fun _ => ⟨i6.reads, l2⟩, ?_⟩
 refine dr_two (i := 10) (j := 23) (by kernel_rfl) ?_ ?_
 obtain ⟨aw1, c3, wu, akx, fj⟩ := l1.sealed i5
 have aky := lu.moreO c3 fj wn.symm
 have akz := lw.moreO c3 fj wo.symm
 have ak0 := lx.moreO c3 fj wp.symm
 have ak1 := ly.moreO c3 fj wq.symm
 have ak2 := i6.moreO fj wr.symm
 have ak3 := lz.moreO fj ws.symm
 have ak4 := l0.moreO fj wt.symm
 refine (zU (i := 10) rfl rfl rfl (zD rfl _) (zH (vs := [i3]) Tryz.func80 nm80 rfl rfl rfl ?_))
 refine Calls.mono (qF wu.pins akx (by first | omega | (rw [xF]; omega))) ?_
 rintro _ aw2 ⟨af, aw3, rfl, c4, aq⟩
 refine ⟨_, rfl, ?_⟩
 have fk := wu.tr aq
 have he := aky.ext aq
 have i7 := akz.ext aq
 have i8 := ak0.ext aq
 have i9 := ak1.ext aq
 have hf := ak2.ext aq
 have ja := ak3.ext aq
 have jb := ak4.ext aq
 have l3 := l2.below aq.below
 refine ⟨fun _ => ⟨hf.reads, l3⟩, ?_⟩
 refine dr_two (i := 20) (j := 23) (by kernel_rfl) ?_ ?_
 refine (zU (i := 20) rfl rfl rfl (zD rfl _) (zH (vs := [at_, i2]) Tryz.func58 nm58 rfl rfl rfl ?_))
 refine Calls.mono (qZ fk.pins (Gadd.pins fk.pins at_) he.read (hd.mono (Pin.le_trans (Pin.le_trans ao.le c3) aq.le)) (by omega) (fun i hi => by have := hoo.right (j := c) (by omega) hi; omega)) ?_
 rintro _ ak5 ⟨jc, ak6, rfl, ei, aw⟩
 refine ⟨_, rfl, ?_⟩
 have jd := fk.tr aw
 have l4 := he.ext aw
 have l5 := i7.ext aw
 have l6 := i8.ext aw
 have l7 := i9.ext aw
 have je := hf.ext aw
 have l8 := ja.ext aw
 have l9 := jb.ext aw
 have wv := zT ei.lt he.lt
 have ww := zT ei.lt i7.lt
 have wx := zT ei.lt i8.lt
 have wy := zT ei.lt i9.lt
 have w0 := yL ei.lt hf.lt
 have w1 := yL ei.lt ja.lt
 have w3 := yL ei.lt jb.lt
 have ma : Own eInt 3 ak6 ak5 w.heap.size jc (atL ats ((ns.getD c default).r)) := ei.weaken fk.size
 have mb := l3.below aw.below
 refine ⟨fun _ => ⟨je.reads, mb⟩, ?_⟩
 refine dr_two (i := 21) (j := 23) (by kernel_rfl) ?_ ?_
 obtain ⟨aw4, gj, w4, ak7, fl⟩ := ma.sealed jd
 have ak8 := l4.moreO gj fl wv.symm
 have ak9 := l5.moreO gj fl ww.symm
 have ala := l6.moreO gj fl wx.symm
 have alb := l7.moreO gj fl wy.symm
 have alc := je.moreO fl w0.symm
 have ald := l8.moreO fl w1.symm
 have ale := l9.moreO fl w3.symm
 refine (zU (i := 21) rfl rfl rfl (zD rfl _) (zH (vs := [jc]) Tryz.func80 nm80 rfl rfl rfl ?_))
 refine Calls.mono (qF w4.pins ak7 (by first | omega | (rw [xF]; omega))) ?_
 rintro _ aw5 ⟨fm, aw6, rfl, mc, bg⟩
 refine ⟨_, rfl, ?_⟩
 have md := w4.tr bg
 have w5 := ak8.ext bg
 have w6 := ak9.ext bg
 have w7 := ala.ext bg
 have w8 := alb.ext bg
 have jf := alc.ext bg
 have w9 := ald.ext bg
 have xa := ale.ext bg
 have me := mb.below bg.below
 refine ⟨fun _ => ⟨jf.reads, me⟩, ?_⟩
 refine dT (i := 22) rfl rfl (by kernel_rfl) (fun _ _ => yG [(.slice none 0 0), (.slice none 0 0)] [af, fm] [(0, af, [af]), (1, fm, [fm])] Tryz.underlying65 zr65 rfl pl65 rfl (List.forall_mem_cons.2 ⟨(xT c4.one), (List.forall_mem_cons.2 ⟨(xT mc.one), (fun _ h => by cases h)⟩)⟩) rfl) ⟨jf.reads, me⟩ ?_
 refine dO (i := 23) (zU (i := 23) rfl rfl rfl (zD rfl _) (yM [(.slice none 0 0), (.slice none 0 0)] zr65 rfl md.pins (fun c5 aw7 fn alf alg c6 => ?_)))
 have xb := md.step alg c6
 have alh := w5.below c6
 have ali := w6.below c6
 have alj := w7.below c6
 have alk := w8.below c6
 have xc := jf.below c6
 have all := w9.below c6
 have alm := xa.below c6
 have xd : Apart (some c5) at_.ownBlock := zI (congrArg some fn) w5.lt
 have xe : Apart (some c5) ov.ownBlock := zI (congrArg some fn) w6.lt
 have xf : Apart (some c5) bu.ownBlock := zI (congrArg some fn) w7.lt
 have xg : Apart (some c5) bv.ownBlock := zI (congrArg some fn) w8.lt
 have xh : Apart (some c5) (some b) := zJ (congrArg some fn) jf.lt
 have xi : Apart (some c5) (some f) := zJ (congrArg some fn) w9.lt
 have xj : Apart (some c5) (some d) := zJ (congrArg some fn) xa.lt
 have xk : w.heap.size ≤ c5 := by have := md.size; omega
 have aln := me.below c6
 refine ⟨fun _ => ⟨xc.reads, aln⟩, ?_⟩
 refine dO (i := 24) (qB (i := 24) rfl rfl rfl (zD rfl _) (yF (cs' := [af, fm]) (us := [af, fm]) (v := (.agg [af, fm].toArray)) sz65 rfl rfl rfl (yK c4.one mc.one) xb.pins alf (Nat.le_of_ble_eq_true rfl) rfl (fun aw8 alo alp ej aw9 => ?_)))
 have alq := xb.write alp ej ((zS xk))
 have alr := alh.keptA ej xd.symm
 have als := ali.keptA ej xe.symm
 have alt := alj.keptA ej xf.symm
 have alu := alk.keptA ej xg.symm
 have alv := xc.keptA ej xh.symm
 have alw := all.keptA ej xi.symm
 have alx := alm.keptA ej xj.symm
 obtain ⟨aly, fo, alz, al0, fp⟩ := alo.shut alq xk
 have al1 := alr.moreA fo fp xd.symm
 have al2 := als.moreA fo fp xe.symm
 have al3 := alt.moreA fo fp xf.symm
 have al4 := alu.moreA fo fp xg.symm
 have al5 := alv.moreA fp xh.symm
 have al6 := alw.moreA fp xi.symm
 have al7 := alx.moreA fp xj.symm
 refine ⟨fun h => absurd rfl h, ?_⟩
 exact yQ (by kernel_rfl) (qV ⟨_, c5, af, fm, aly, (pS 12 (pS 11 (pS 10 (pS 9 (pS 8 (pS 7 (pS 6 (pS 5 (pS 4 (pS 1 (pU 0))))))))))), alz, (Pin.le_trans (Pin.le_trans (Pin.le_trans (Pin.le_trans (Pin.le_trans (Pin.le_trans ao.le c3) aq.le) aw.le) gj) bg.le) fo), (c4.mono (Pin.le_trans (Pin.le_trans (Pin.le_trans aw.le gj) bg.le) fo)), (mc.mono fo), al1, al2, al3, al4, al5, al6, al7, (al0.mono (Pin.le_refl _))⟩)
 refine (zU (i := 23) rfl rfl rfl (zD rfl _) (yM [(.slice none 0 0), (.slice none 0 0)] zr65 rfl jd.pins (fun b2 axa ek al8 al9 b3 => ?_)))
 have ama := jd.step al9 b3
 have amb := l4.below b3
 have amc := l5.below b3
 have amd := l6.below b3
 have ame := l7.below b3
 have amf := ma.below b3
 have xl := je.below b3
 have amg := l8.below b3
 have amh := l9.below b3
 have xm : Apart (some b2) at_.ownBlock := zI (congrArg some ek) l4.lt
 have xn : Apart (some b2) ov.ownBlock := zI (congrArg some ek) l5.lt
 have xo : Apart (some b2) bu.ownBlock := zI (congrArg some ek) l6.lt
 have xp : Apart (some b2) bv.ownBlock := zI (congrArg some ek) l7.lt
 have ami : Apart (some b2) jc.ownBlock := zI (congrArg some ek) ma.lt
 have xq : Apart (some b2) (some b) := zJ (congrArg some ek) je.lt
 have xr : Apart (some b2) (some f) := zJ (congrArg some ek) l8.lt
 have xs : Apart (some b2) (some d) := zJ (congrArg some ek) l9.lt
 have xt : w.heap.size ≤ b2 := by have := jd.size; omega
 have xu := mb.below b3
 refine ⟨fun _ => ⟨xl.reads, xu⟩, ?_⟩
 obtain ⟨axb, gk, xv, amj, el⟩ := amf.sealed ama
 have amk := amb.moreO gk el wv.symm
 have aml := amc.moreO gk el ww.symm
 have amm := amd.moreO gk el wx.symm
 have amn := ame.moreO gk el wy.symm
 have amo := xl.moreO el w0.symm
 have amp := amg.moreO el w1.symm
 have amq := amh.moreO el w3.symm
 have amr := al8.moreO el ami
 refine dO (i := 21) (zU (i := 21) rfl rfl rfl (zD rfl _) (zH (vs := [jc]) Tryz.func80 nm80 rfl rfl rfl ?_))
 refine Calls.mono (qF xv.pins amj (by first | omega | (rw [xF]; omega))) ?_
 rintro _ axc ⟨fq, axd, rfl, mf, a2⟩
 refine ⟨_, rfl, ?_⟩
 have xw := xv.tr a2
 have ams := amk.ext a2
 have amt := aml.ext a2
 have amu := amm.ext a2
 have amv := amn.ext a2
 have mg := amo.ext a2
 have amw := amp.ext a2
 have amx := amq.ext a2
 have amy := amr.ext a2
 have xx := xu.below a2.below
 refine ⟨fun _ => ⟨mg.reads, xx⟩, ?_⟩
 refine dT (i := 22) rfl rfl (by kernel_rfl) (fun _ _ => yG [(.slice none 0 0), (.slice none 0 0)] [af, fq] [(0, af, [af]), (1, fq, [fq])] Tryz.underlying65 zr65 rfl pl65 rfl (List.forall_mem_cons.2 ⟨(xT c4.one), (List.forall_mem_cons.2 ⟨(xT mf.one), (fun _ h => by cases h)⟩)⟩) rfl) ⟨mg.reads, xx⟩ ?_
 refine dO (i := 24) (qB (i := 24) rfl rfl rfl (zD rfl _) (yF (cs' := [af, fq]) (us := [af, fq]) (v := (.agg [af, fq].toArray)) sz65 rfl rfl rfl (yK c4.one mf.one) xw.pins amy (Nat.le_of_ble_eq_true rfl) rfl (fun axe amz am0 em axf => ?_)))
 have am1 := xw.write am0 em ((zS xt))
 have am2 := ams.keptA em xm.symm
 have am3 := amt.keptA em xn.symm
 have am4 := amu.keptA em xo.symm
 have am5 := amv.keptA em xp.symm
 have am6 := mg.keptA em xq.symm
 have am7 := amw.keptA em xr.symm
 have am8 := amx.keptA em xs.symm
 obtain ⟨am9, fs, ana, anb, ft⟩ := amz.shut am1 xt
 have anc := am2.moreA fs ft xm.symm
 have ane := am3.moreA fs ft xn.symm
 have anf := am4.moreA fs ft xo.symm
 have ang := am5.moreA fs ft xp.symm
 have anh := am6.moreA ft xq.symm
 have ani := am7.moreA ft xr.symm
 have anj := am8.moreA ft xs.symm
 refine ⟨fun h => absurd rfl h, ?_⟩
 exact yQ (by kernel_rfl) (qV ⟨_, b2, af, fq, am9, (pS 12 (pS 11 (pS 10 (pS 9 (pS 8 (pS 7 (pS 6 (pS 5 (pS 4 (pS 1 (pU 0))))))))))), ana, (Pin.le_trans (Pin.le_trans (Pin.le_trans (Pin.le_trans (Pin.le_trans (Pin.le_trans ao.le c3) aq.le) aw.le) gk) a2.le) fs), (c4.mono (Pin.le_trans (Pin.le_trans (Pin.le_trans aw.le gk) a2.le) fs)), (mf.mono fs), anc, ane, anf, ang, anh, ani, anj, (anb.mono (Pin.le_refl _))⟩)
 refine (zU (i := 23) rfl rfl rfl (zD rfl _) (yM [(.slice none 0 0), (.slice none 0 0)] zr65 rfl fk.pins (fun c7 axg fu xy ank c8 => ?_)))
 have jg := fk.step ank c8
 have mh := he.below c8
 have xz := i7.below c8
 have x0 := i8.below c8
 have x1 := i9.below c8
 have mi := hf.below c8
 have x2 := ja.below c8
 have x3 := jb.below c8
 have x4 : Apart (some c7) at_.ownBlock := zI (congrArg some fu) he.lt
 have x5 : Apart (some c7) ov.ownBlock := zI (congrArg some fu) i7.lt
 have x6 : Apart (some c7) bu.ownBlock := zI (congrArg some fu) i8.lt
 have x7 : Apart (some c7) bv.ownBlock := zI (congrArg some fu) i9.lt
 have x8 : Apart (some c7) (some b) := zJ (congrArg some fu) hf.lt
 have x9 : Apart (some c7) (some f) := zJ (congrArg some fu) ja.lt
 have ya : Apart (some c7) (some d) := zJ (congrArg some fu) jb.lt
 have yb : w.heap.size ≤ c7 := by have := fk.size; omega
 have yc := l3.below c8
 refine ⟨fun _ => ⟨mi.reads, yc⟩, ?_⟩
 refine dO (i := 20) (zU (i := 20) rfl rfl rfl (zD rfl _) (zH (vs := [at_, i2]) Tryz.func58 nm58 rfl rfl rfl ?_))
 refine Calls.mono (qZ jg.pins (Gadd.pins jg.pins at_) mh.read (hd.mono (Pin.le_trans (Pin.le_trans ao.le c3) aq.le)) (by omega) (fun i hi => by have := hoo.right (j := c) (by omega) hi; omega)) ?_
 rintro _ anl ⟨yd, anm, rfl, c9, a3⟩
 refine ⟨_, rfl, ?_⟩
 have ann := jg.tr a3
 have ano := mh.ext a3
 have anp := xz.ext a3
 have anq := x0.ext a3
 have anr := x1.ext a3
 have ye := mi.ext a3
 have ans := x2.ext a3
 have ant := x3.ext a3
 have anu := xy.ext a3
 have anv := zT c9.lt mh.lt
 have anw := zT c9.lt xz.lt
 have anx := zT c9.lt x0.lt
 have any := zT c9.lt x1.lt
 have anz := yL c9.lt mi.lt
 have an0 := yL c9.lt x2.lt
 have an1 := yL c9.lt x3.lt
 have an2 := yL c9.lt xy.lt
 have an3 : Own eInt 3 anm anl w.heap.size yd (atL ats ((ns.getD c default).r)) := c9.weaken jg.size
 have yf := yc.below a3.below
 refine ⟨fun _ => ⟨ye.reads, yf⟩, ?_⟩
 obtain ⟨axh, gl, yg, an4, eo⟩ := an3.sealed ann
 have an5 := ano.moreO gl eo anv.symm
 have an6 := anp.moreO gl eo anw.symm
 have an7 := anq.moreO gl eo anx.symm
 have an8 := anr.moreO gl eo any.symm
 have an9 := ye.moreO eo anz.symm
 have aoa := ans.moreO eo an0.symm
 have aob := ant.moreO eo an1.symm
 have aoc := anu.moreO eo an2.symm
 refine dO (i := 21) (zU (i := 21) rfl rfl rfl (zD rfl _) (zH (vs := [yd]) Tryz.func80 nm80 rfl rfl rfl ?_))
 refine Calls.mono (qF yg.pins an4 (by first | omega | (rw [xF]; omega))) ?_
 rintro _ axi ⟨fw, axj, rfl, mj, a4⟩
 refine ⟨_, rfl, ?_⟩
 have yh := yg.tr a4
 have aod := an5.ext a4
 have aoe := an6.ext a4
 have aof := an7.ext a4
 have aog := an8.ext a4
 have mk := an9.ext a4
 have aoh := aoa.ext a4
 have aoi := aob.ext a4
 have aoj := aoc.ext a4
 have yi := yf.below a4.below
 refine ⟨fun _ => ⟨mk.reads, yi⟩, ?_⟩
 refine dT (i := 22) rfl rfl (by kernel_rfl) (fun _ _ => yG [(.slice none 0 0), (.slice none 0 0)] [af, fw] [(0, af, [af]), (1, fw, [fw])] Tryz.underlying65 zr65 rfl pl65 rfl (List.forall_mem_cons.2 ⟨(xT c4.one), (List.forall_mem_cons.2 ⟨(xT mj.one), (fun _ h => by cases h)⟩)⟩) rfl) ⟨mk.reads, yi⟩ ?_
 refine dO (i := 24) (qB (i := 24) rfl rfl rfl (zD rfl _) (yF (cs' := [af, fw]) (us := [af, fw]) (v := (.agg [af, fw].toArray)) sz65 rfl rfl rfl (yK c4.one mj.one) yh.pins aoj (Nat.le_of_ble_eq_true rfl) rfl (fun axk aok aol ep axl => ?_)))
 have aom := yh.write aol ep ((zS yb))
 have aon := aod.keptA ep x4.symm
 have aoo := aoe.keptA ep x5.symm
 have aop := aof.keptA ep x6.symm
 have aoq := aog.keptA ep x7.symm
 have aor := mk.keptA ep x8.symm
 have aos := aoh.keptA ep x9.symm
 have aot := aoi.keptA ep ya.symm
 obtain ⟨aou, fx, aov, aow, fy⟩ := aok.shut aom yb
 have aox := aon.moreA fx fy x4.symm
 have aoy := aoo.moreA fx fy x5.symm
 have aoz := aop.moreA fx fy x6.symm
 have ao0 := aoq.moreA fx fy x7.symm
 have ao1 := aor.moreA fy x8.symm
 have ao2 := aos.moreA fy x9.symm
 have ao3 := aot.moreA fy ya.symm
 refine ⟨fun h => absurd rfl h, ?_⟩
 exact yQ (by kernel_rfl) (qV ⟨_, c7, af, fw, aou, (pS 12 (pS 11 (pS 10 (pS 9 (pS 8 (pS 7 (pS 6 (pS 5 (pS 4 (pS 1 (pU 0))))))))))), aov, (Pin.le_trans (Pin.le_trans (Pin.le_trans (Pin.le_trans (Pin.le_trans (Pin.le_trans ao.le c3) aq.le) a3.le) gl) a4.le) fx), (c4.mono (Pin.le_trans (Pin.le_trans (Pin.le_trans a3.le gl) a4.le) fx)), (mj.mono fx), aox, aoy, aoz, ao0, ao1, ao2, ao3, (aow.mono (Pin.le_refl _))⟩)
 refine (zU (i := 23) rfl rfl rfl (zD rfl _) (yM [(.slice none 0 0), (.slice none 0 0)] zr65 rfl i5.pins (fun b4 axm eq ao4 ao5 b5 => ?_)))
 have ao6 := i5.step ao5 b5
 have ao7 := lu.below b5
 have ao8 := lw.below b5
 have ao9 := lx.below b5
 have apa := ly.below b5
 have apb := l1.below b5
 have yj := i6.below b5
 have apc := lz.below b5
 have apd := l0.below b5
 have yk : Apart (some b4) at_.ownBlock := zI (congrArg some eq) lu.lt
 have yl : Apart (some b4) ov.ownBlock := zI (congrArg some eq) lw.lt
 have ym : Apart (some b4) bu.ownBlock := zI (congrArg some eq) lx.lt
 have yn : Apart (some b4) bv.ownBlock := zI (congrArg some eq) ly.lt
 have ape : Apart (some b4) i3.ownBlock := zI (congrArg some eq) l1.lt
 have yo : Apart (some b4) (some b) := zJ (congrArg some eq) i6.lt
 have yp : Apart (some b4) (some f) := zJ (congrArg some eq) lz.lt
 have yq : Apart (some b4) (some d) := zJ (congrArg some eq) l0.lt
 have yr : w.heap.size ≤ b4 := by have := i5.size; omega
 have ys := l2.below b5
 refine ⟨fun _ => ⟨yj.reads, ys⟩, ?_⟩
 obtain ⟨axn, gm, yt, apf, er⟩ := apb.sealed ao6
 have apg := ao7.moreO gm er wn.symm
 have aph := ao8.moreO gm er wo.symm
 have api := ao9.moreO gm er wp.symm
 have apj := apa.moreO gm er wq.symm
 have apk := yj.moreO er wr.symm
 have apl := apc.moreO er ws.symm
 have apm := apd.moreO er wt.symm
 have apn := ao4.moreO er ape
 refine dO (i := 10) (zU (i := 10) rfl rfl rfl (zD rfl _) (zH (vs := [i3]) Tryz.func80 nm80 rfl rfl rfl ?_))
 refine Calls.mono (qF yt.pins apf (by first | omega | (rw [xF]; omega))) ?_
 rintro _ axo ⟨fz, axp, rfl, ml, a5⟩
 refine ⟨_, rfl, ?_⟩
 have jh := yt.tr a5
 have mm := apg.ext a5
 have yu := aph.ext a5
 have yv := api.ext a5
 have yw := apj.ext a5
 have mn := apk.ext a5
 have yx := apl.ext a5
 have yy := apm.ext a5
 have yz := apn.ext a5
 have y0 := ys.below a5.below
 refine ⟨fun _ => ⟨mn.reads, y0⟩, ?_⟩
 refine dO (i := 20) (zU (i := 20) rfl rfl rfl (zD rfl _) (zH (vs := [at_, i2]) Tryz.func58 nm58 rfl rfl rfl ?_))
 refine Calls.mono (qZ jh.pins (Gadd.pins jh.pins at_) mm.read (hd.mono (Pin.le_trans (Pin.le_trans ao.le gm) a5.le)) (by omega) (fun i hi => by have := hoo.right (j := c) (by omega) hi; omega)) ?_
 rintro _ apo ⟨y1, app, rfl, da, a6⟩
 refine ⟨_, rfl, ?_⟩
 have apq := jh.tr a6
 have apr := mm.ext a6
 have aps := yu.ext a6
 have apt := yv.ext a6
 have apu := yw.ext a6
 have y2 := mn.ext a6
 have apv := yx.ext a6
 have apw := yy.ext a6
 have apx := yz.ext a6
 have apy := zT da.lt mm.lt
 have apz := zT da.lt yu.lt
 have ap0 := zT da.lt yv.lt
 have ap1 := zT da.lt yw.lt
 have ap2 := yL da.lt mn.lt
 have ap4 := yL da.lt yx.lt
 have ap5 := yL da.lt yy.lt
 have ap6 := yL da.lt yz.lt
 have ap7 : Own eInt 3 app apo w.heap.size y1 (atL ats ((ns.getD c default).r)) := da.weaken jh.size
 have y3 := y0.below a6.below
 refine ⟨fun _ => ⟨y2.reads, y3⟩, ?_⟩
 obtain ⟨axq, gn, y4, ap8, es⟩ := ap7.sealed apq
 have ap9 := apr.moreO gn es apy.symm
 have aqa := aps.moreO gn es apz.symm
 have aqb := apt.moreO gn es ap0.symm
 have aqc := apu.moreO gn es ap1.symm
 have aqd := y2.moreO es ap2.symm
 have aqe := apv.moreO es ap4.symm
 have aqf := apw.moreO es ap5.symm
 have aqg := apx.moreO es ap6.symm
 refine dO (i := 21) (zU (i := 21) rfl rfl rfl (zD rfl _) (zH (vs := [y1]) Tryz.func80 nm80 rfl rfl rfl ?_))
 refine Calls.mono (qF y4.pins ap8 (by first | omega | (rw [xF]; omega))) ?_
 rintro _ axr ⟨f0, axs, rfl, mo, a7⟩
 refine ⟨_, rfl, ?_⟩
 have y5 := y4.tr a7
 have aqh := ap9.ext a7
 have aqi := aqa.ext a7
 have aqj := aqb.ext a7
 have aqk := aqc.ext a7
 have mp := aqd.ext a7
 have aql := aqe.ext a7
 have aqm := aqf.ext a7
 have aqn := aqg.ext a7
 have y6 := y3.below a7.below
 refine ⟨fun _ => ⟨mp.reads, y6⟩, ?_⟩
 refine dT (i := 22) rfl rfl (by kernel_rfl) (fun _ _ => yG [(.slice none 0 0), (.slice none 0 0)] [fz, f0] [(0, fz, [fz]), (1, f0, [f0])] Tryz.underlying65 zr65 rfl pl65 rfl (List.forall_mem_cons.2 ⟨(xT ml.one), (List.forall_mem_cons.2 ⟨(xT mo.one), (fun _ h => by cases h)⟩)⟩) rfl) ⟨mp.reads, y6⟩ ?_
 refine dO (i := 24) (qB (i := 24) rfl rfl rfl (zD rfl _) (yF (cs' := [fz, f0]) (us := [fz, f0]) (v := (.agg [fz, f0].toArray)) sz65 rfl rfl rfl (yK ml.one mo.one) y5.pins aqn (Nat.le_of_ble_eq_true rfl) rfl (fun axt aqo aqp et axu => ?_)))
 have aqq := y5.write aqp et ((zS yr))
 have aqr := aqh.keptA et yk.symm
 have aqs := aqi.keptA et yl.symm
 have aqt := aqj.keptA et ym.symm
 have aqu := aqk.keptA et yn.symm
 have aqv := mp.keptA et yo.symm
 have aqw := aql.keptA et yp.symm
 have aqx := aqm.keptA et yq.symm
 obtain ⟨aqy, f1, aqz, aq0, f2⟩ := aqo.shut aqq yr
 have aq1 := aqr.moreA f1 f2 yk.symm
 have aq2 := aqs.moreA f1 f2 yl.symm
 have aq3 := aqt.moreA f1 f2 ym.symm
 have aq4 := aqu.moreA f1 f2 yn.symm
 have aq5 := aqv.moreA f2 yo.symm
 have aq6 := aqw.moreA f2 yp.symm
 have aq7 := aqx.moreA f2 yq.symm
 refine ⟨fun h => absurd rfl h, ?_⟩
 exact yQ (by kernel_rfl) (qV ⟨_, b4, fz, f0, aqy, (pS 12 (pS 11 (pS 10 (pS 9 (pS 8 (pS 7 (pS 6 (pS 5 (pS 4 (pS 1 (pU 0))))))))))), aqz, (Pin.le_trans (Pin.le_trans (Pin.le_trans (Pin.le_trans (Pin.le_trans (Pin.le_trans ao.le gm) a5.le) a6.le) gn) a7.le) f1), (ml.mono (Pin.le_trans (Pin.le_trans (Pin.le_trans a6.le gn) a7.le) f1)), (mo.mono f1), aq1, aq2, aq3, aq4, aq5, aq6, aq7, (aq0.mono (Pin.le_refl _))⟩)
 refine (zU (i := 23) rfl rfl rfl (zD rfl _) (yM [(.slice none 0 0), (.slice none 0 0)] zr65 rfl fi.pins (fun db axv f3 y7 aq8 dc => ?_)))
 have ji := fi.step aq8 dc
 have mq := hc.below dc
 have y8 := ix.below dc
 have y9 := iy.below dc
 have za := iz.below dc
 have mr := ad.below dc
 have zb := i0.below dc
 have zc := i1.below dc
 have zd : Apart (some db) at_.ownBlock := zI (congrArg some f3) hc.lt
 have ze : Apart (some db) ov.ownBlock := zI (congrArg some f3) ix.lt
 have zf : Apart (some db) bu.ownBlock := zI (congrArg some f3) iy.lt
 have zg : Apart (some db) bv.ownBlock := zI (congrArg some f3) iz.lt
 have zh : Apart (some db) (some b) := zJ (congrArg some f3) ad.lt
 have zi : Apart (some db) (some f) := zJ (congrArg some f3) i0.lt
 have zj : Apart (some db) (some d) := zJ (congrArg some f3) i1.lt
 have zk : w.heap.size ≤ db := by have := fi.size; omega
 have zl := ah.below dc
 refine ⟨fun _ => ⟨mr.reads, zl⟩, ?_⟩
 refine dO (i := 9) (zU (i := 9) rfl rfl rfl (zD rfl _) (zH (vs := [at_, wm]) Tryz.func58 nm58 rfl rfl rfl ?_))
 refine Calls.mono (qZ ji.pins (Gadd.pins ji.pins at_) mq.read lr (by omega) (fun i hi => by have := hoo.left (j := c) (by omega) hi; omega)) ?_
 rintro _ aq9 ⟨zm, ara, rfl, dd, a8⟩
 refine ⟨_, rfl, ?_⟩
 have arb := ji.tr a8
 have arc := mq.ext a8
 have ard := y8.ext a8
 have are := y9.ext a8
 have arf := za.ext a8
 have zn := mr.ext a8
 have arg := zb.ext a8
 have arh := zc.ext a8
 have ari := y7.ext a8
 have arj := zT dd.lt mq.lt
 have ark := zT dd.lt y8.lt
 have arl := zT dd.lt y9.lt
 have arm := zT dd.lt za.lt
 have arn := yL dd.lt mr.lt
 have aro := yL dd.lt zb.lt
 have arp := yL dd.lt zc.lt
 have arq := yL dd.lt y7.lt
 have arr : Own eInt 3 ara aq9 w.heap.size zm (atL ats ((ns.getD c default).l)) := dd.weaken ji.size
 have zo := zl.below a8.below
 refine ⟨fun _ => ⟨zn.reads, zo⟩, ?_⟩
 obtain ⟨axw, gp, zp, ars, eu⟩ := arr.sealed arb
 have art := arc.moreO gp eu arj.symm
 have aru := ard.moreO gp eu ark.symm
 have arv := are.moreO gp eu arl.symm
 have arw := arf.moreO gp eu arm.symm
 have arx := zn.moreO eu arn.symm
 have ary := arg.moreO eu aro.symm
 have arz := arh.moreO eu arp.symm
 have ar0 := ari.moreO eu arq.symm
 refine dO (i := 10) (zU (i := 10) rfl rfl rfl (zD rfl _) (zH (vs := [zm]) Tryz.func80 nm80 rfl rfl rfl ?_))
 refine Calls.mono (qF zp.pins ars (by first | omega | (rw [xF]; omega))) ?_
 rintro _ axx ⟨f4, axy, rfl, ms, a9⟩
 refine ⟨_, rfl, ?_⟩
 have jj := zp.tr a9
 have mt := art.ext a9
 have zq := aru.ext a9
 have zr := arv.ext a9
 have zs := arw.ext a9
 have mu := arx.ext a9
 have zt := ary.ext a9
 have zu := arz.ext a9
 have zv := ar0.ext a9
 have zw := zo.below a9.below
 refine ⟨fun _ => ⟨mu.reads, zw⟩, ?_⟩
 refine dO (i := 20) (zU (i := 20) rfl rfl rfl (zD rfl _) (zH (vs := [at_, i2]) Tryz.func58 nm58 rfl rfl rfl ?_))
 refine Calls.mono (qZ jj.pins (Gadd.pins jj.pins at_) mt.read (hd.mono (Pin.le_trans (Pin.le_trans a8.le gp) a9.le)) (by omega) (fun i hi => by have := hoo.right (j := c) (by omega) hi; omega)) ?_
 rintro _ ar1 ⟨zx, ar2, rfl, de, ba⟩
 refine ⟨_, rfl, ?_⟩
 have ar3 := jj.tr ba
 have ar4 := mt.ext ba
 have ar5 := zq.ext ba
 have ar6 := zr.ext ba
 have ar7 := zs.ext ba
 have zy := mu.ext ba
 have ar8 := zt.ext ba
 have ar9 := zu.ext ba
 have asa := zv.ext ba
 have asb := zT de.lt mt.lt
 have asc := zT de.lt zq.lt
 have asd := zT de.lt zr.lt
 have ase := zT de.lt zs.lt
 have asf := yL de.lt mu.lt
 have asg := yL de.lt zt.lt
 have ash := yL de.lt zu.lt
 have asi := yL de.lt zv.lt
 have asj : Own eInt 3 ar2 ar1 w.heap.size zx (atL ats ((ns.getD c default).r)) := de.weaken jj.size
 have zz := zw.below ba.below
 refine ⟨fun _ => ⟨zy.reads, zz⟩, ?_⟩
 obtain ⟨axz, gq, z0, ask, ev⟩ := asj.sealed ar3
 have asl := ar4.moreO gq ev asb.symm
 have asm := ar5.moreO gq ev asc.symm
 have asn := ar6.moreO gq ev asd.symm
 have aso := ar7.moreO gq ev ase.symm
 have asp := zy.moreO ev asf.symm
 have asq := ar8.moreO ev asg.symm
 have asr := ar9.moreO ev ash.symm
 have ass := asa.moreO ev asi.symm
 refine dO (i := 21) (zU (i := 21) rfl rfl rfl (zD rfl _) (zH (vs := [zx]) Tryz.func80 nm80 rfl rfl rfl ?_))
 refine Calls.mono (qF z0.pins ask (by first | omega | (rw [xF]; omega))) ?_
 rintro _ ax0 ⟨f5, ax1, rfl, mv, bb⟩
 refine ⟨_, rfl, ?_⟩
 have z1 := z0.tr bb
 have ast := asl.ext bb
 have asu := asm.ext bb
 have asv := asn.ext bb
 have asw := aso.ext bb
 have mw := asp.ext bb
 have asx := asq.ext bb
 have asy := asr.ext bb
 have asz := ass.ext bb
 have z2 := zz.below bb.below
 refine ⟨fun _ => ⟨mw.reads, z2⟩, ?_⟩
 refine dT (i := 22) rfl rfl (by kernel_rfl) (fun _ _ => yG [(.slice none 0 0), (.slice none 0 0)] [f4, f5] [(0, f4, [f4]), (1, f5, [f5])] Tryz.underlying65 zr65 rfl pl65 rfl (List.forall_mem_cons.2 ⟨(xT ms.one), (List.forall_mem_cons.2 ⟨(xT mv.one), (fun _ h => by cases h)⟩)⟩) rfl) ⟨mw.reads, z2⟩ ?_
 refine dO (i := 24) (qB (i := 24) rfl rfl rfl (zD rfl _) (yF (cs' := [f4, f5]) (us := [f4, f5]) (v := (.agg [f4, f5].toArray)) sz65 rfl rfl rfl (yK ms.one mv.one) z1.pins asz (Nat.le_of_ble_eq_true rfl) rfl (fun ax2 as0 as1 ew ax3 => ?_)))
 have as2 := z1.write as1 ew ((zS zk))
 have as3 := ast.keptA ew zd.symm
 have as4 := asu.keptA ew ze.symm
 have as5 := asv.keptA ew zf.symm
 have as6 := asw.keptA ew zg.symm
 have as7 := mw.keptA ew zh.symm
 have as8 := asx.keptA ew zi.symm
 have as9 := asy.keptA ew zj.symm
 obtain ⟨ata, f6, atb, atc, f7⟩ := as0.shut as2 zk
 have atd := as3.moreA f6 f7 zd.symm
 have ate := as4.moreA f6 f7 ze.symm
 have atf := as5.moreA f6 f7 zf.symm
 have atg := as6.moreA f6 f7 zg.symm
 have ath := as7.moreA f7 zh.symm
 have ati := as8.moreA f7 zi.symm
 have atj := as9.moreA f7 zj.symm
 refine ⟨fun h => absurd rfl h, ?_⟩
 exact yQ (by kernel_rfl) (qV ⟨_, db, f4, f5, ata, (pS 12 (pS 11 (pS 10 (pS 9 (pS 8 (pS 7 (pS 6 (pS 5 (pS 4 (pS 1 (pU 0))))))))))), atb, (Pin.le_trans (Pin.le_trans (Pin.le_trans (Pin.le_trans (Pin.le_trans (Pin.le_trans a8.le gp) a9.le) ba.le) gq) bb.le) f6), (ms.mono (Pin.le_trans (Pin.le_trans (Pin.le_trans ba.le gq) bb.le) f6)), (mv.mono f6), atd, ate, atf, atg, ath, ati, atj, (atc.mono (Pin.le_refl _))⟩)
 refine qW ?_
 refine qW ?_
 refine qW ?_
 refine qW ?_
 refine qW ?_
 refine qW ?_
 refine qW ?_
 refine qW ?_
 refine qW ?_
 refine qD rfl (yD (v := (.bool true)) rfl rfl) (qe (zA ?_))
 refine xY rfl rfl (wp_exit (zW (yI (zA (zC ?_)))))
 refine qM (vJ (c : Int)) ?_
 refine qD rfl (yJ rfl rfl (by omega)) (qM (vJ ((c : Int) + 1)) ?_)
 refine qe (zZ (⟨_, ?_, _, rfl, _, c + 1, lv, ls, fv, fr, ai, (pS 11 (pS 10 (pS 9 (pS 8 (pS 7 (pS 6 (pS 5 (pS 4 (pS 1 (pU 0)))))))))), rfl, dm, gy, (by omega), (lv_skip hrl (fun g => by have := g.1; rw [j1] at this; cases this)), (by omega), hfb, hu, hv, e4, gf, gz, hw, hx, bk, gg⟩))
 omega
 refine wp_exit (zW (yO (yI (zA (zB (zC ?_))))))
 refine qM (vJ 0) ?_
 refine qe (zA ?_)
 refine zX (yT (fun (k : Nat) (en : Nat → Value) (W : World) => ∃ (ac : Nat → Value) (i4 : Nat) (ak : Value) (gr : List Int) (aj : Value) (bh : List Nd) (al : Pin), en = (upd (upd (upd (upd (upd (upd (upd (upd (upd (upd ac 0 (.pointer (some ⟨b, 0, none⟩))) 1 (vJ m)) 4 (.pointer (some ⟨f, 0, none⟩))) 5 ax) 6 ak) 7 (.pointer (some ⟨d, 0, none⟩))) 8 (vJ (q : Int))) 9 lv) 10 fv) 14 (vJ (i4 : Int))) ∧ k = ls.length - i4 ∧ Ext noS G w al W ∧ Pin.le ai al ∧ (i4 ≤ ls.length) ∧ (placeM ls fr ats outs = placeM (ls.drop i4) (fr.drop i4) gr bh) ∧ (gr.length = m.toNat + 1) ∧ (bh.length = outs.length + i4) ∧ (Own eInt 3 al W w.heap.size ak (gr)) ∧ (Own eNode 65 al W w.heap.size aj (bh)) ∧ (Own eNode 65 al W 0 bu (ns)) ∧ (Own eInt 3 al W 0 bv (bs)) ∧ (Bx al W b [bu, bv]) ∧ (Bx al W f [(.slice none 0 0)]) ∧ (Bx al W d [aj]) ∧ (Apart ak.ownBlock aj.ownBlock) ∧ (Apart ak.ownBlock bu.ownBlock) ∧ (Apart ak.ownBlock bv.ownBlock) ∧ (Apart ak.ownBlock (some b)) ∧ (Apart ak.ownBlock (some f)) ∧ (Apart ak.ownBlock (some d)) ∧ (Apart aj.ownBlock bu.ownBlock) ∧ (Apart aj.ownBlock bv.ownBlock) ∧ (Apart aj.ownBlock (some b)) ∧ (Apart aj.ownBlock (some f)) ∧ (Apart aj.ownBlock (some d))) _ ⟨_, 0, at_, ats, ov, outs, ai, (pS 14 (pS 10 (pS 9 (pS 8 (pS 7 (pS 6 (pS 5 (pS 4 (pS 1 (pU 0)))))))))), rfl, dm, Pin.le_refl _, Nat.zero_le _, rfl, hatl, rfl, hu, hv, e4, gf, gz, hw, hx, aby, abz, ab0, ab1, ab2, ab3, ab4, ab5, ab6, n6, ab7⟩ ?_)
 rintro ax4 _ hg ⟨ac, i4, ak, gr, aj, bh, al, rfl, ax5, hh, gs, hi4, hrp, z3, ax7, mx, my, z4, z5, z6, z7, z8, jk, mz, m0, m1, m2, jl, m3, m4, m5, m6, m7⟩
 refine zB (zB (zC ?_))
 refine qM (vJ (i4 : Int)) ?_
 refine qM lv ?_
 refine qD rfl (zM Tryz.underlying30 (v := lv) rfl bk) (qD rfl (yV rfl rfl) (qe (zA ?_)))
 refine yA (p := ((i4 : Int) : Int) < (ls.length : Int)) rfl rfl (fun atk => ?_) (fun atk => ?_)
 have hf4 := hfb i4 (by omega)
 refine wp_skip (zA (zB ?_))
 refine zX (zB ?_)
 have atl := Gadd.pins hh.pins aj
 have atm := Gadd.pins hh.pins ak
 have atn := my.read
 have ato := mx.read
 refine yZ (S := fun wz => Pins al wz ∧ BxR wz d [aj] ∧ Pins (Gadd al hg aj) wz ∧ Pins (Gadd al hg ak) wz) (last := 9) (by kernel_rfl) rfl ?_
 have bi : Below hg.heap.size hg hg.drew := (Below.refl _ _).drew
 have atp := hh.pins.below bi
 have bj := hh.step atp bi
 have z9 := mx.below bi
 have atq := my.below bi
 have atr := z4.below bi
 have att := z5.below bi
 have atu := z6.below bi
 have atv := z7.below bi
 have b6 := z8.below bi
 have df := atl.below bi
 have dg := atm.below bi
 refine dT (i := 0) rfl rfl (by kernel_rfl) (fun _ _ => zQ (v := ak) rfl) ⟨bj.pins, b6.reads, df, dg⟩ ?_
 refine dT (i := 1) rfl rfl (by kernel_rfl) (fun _ _ => zQ (v := fv) rfl) ⟨bj.pins, b6.reads, df, dg⟩ ?_
 refine dT (i := 2) rfl rfl (by kernel_rfl) (fun _ _ => zQ (v := (vJ (i4 : Int))) rfl) ⟨bj.pins, b6.reads, df, dg⟩ ?_
 refine dT (i := 3) rfl rfl (by kernel_rfl) (fun _ _ => zF Tryz.underlying56 sz3 (v := fv) rfl rfl gg (by omega) (by omega)) ⟨bj.pins, b6.reads, df, dg⟩ ?_
 refine dT (i := 4) rfl rfl (by kernel_rfl) (fun _ hS => zE (r := fr.getD i4 0) rfl ag3 (z := (i4 : Int)) rfl gg (Pins.of_le hS.1 gs) (by omega) (by omega)) ⟨bj.pins, b6.reads, df, dg⟩ ?_
 refine dT (i := 5) rfl rfl (by kernel_rfl) (fun _ _ => zK (k := 0) rfl Tryz.underlying32 rfl nz30 rfl) ⟨bj.pins, b6.reads, df, dg⟩ ?_
 refine dT (i := 6) rfl rfl (by kernel_rfl) (fun _ hS => zL (u := aj) ag30 rfl (hS.2.1 0 _ rfl)) ⟨bj.pins, b6.reads, df, dg⟩ ?_
 refine dT (i := 7) rfl rfl (by kernel_rfl) (fun _ _ => zM Tryz.underlying30 (v := aj) rfl atn) ⟨bj.pins, b6.reads, df, dg⟩ ?_
 refine dT (i := 8) rfl rfl (by kernel_rfl) (fun _ _ => zF Tryz.underlying56 sz3 (v := ak) rfl rfl ato (by omega) (by omega)) ⟨bj.pins, b6.reads, df, dg⟩ ?_
 refine dO (i := 9) (qB (i := 9) rfl rfl rfl (zD rfl _) (o_set (E := eInt) (v := ak) (u := (vJ (bh.length : Int))) (z := (fr.getD i4 0)) ((bh.length : Int)) sz3 rfl rfl rfl rfl bj.pins z9 (by omega) (by omega) (fun m8 atw atx f8 ax9 => ?_)))
 have aaa := bj.write atx f8 ((yN z9))
 have aty := atq.keptA f8 jk.symm
 have atz := atr.keptA f8 mz.symm
 have at0 := att.keptA f8 m0.symm
 have at1 := atu.keptA f8 m1.symm
 have at3 := atv.keptA f8 m2.symm
 have at4 := b6.keptA f8 jl.symm
 refine ⟨fun h => absurd rfl h, ?_⟩
 refine yQ (by kernel_rfl) (zA (yZ (S := fun wz => BxR wz d [aj] ∧ Pins al wz) (last := 9) (by kernel_rfl) rfl ?_))
 have dh : Below m8.heap.size m8 m8.drew := (Below.refl _ _).drew
 have at5 := aaa.pins.below dh
 have di := aaa.step at5 dh
 have at6 := atw.below dh
 have at7 := aty.below dh
 have at8 := atz.below dh
 have at9 := at0.below dh
 have aua := at1.below dh
 have aub := at3.below dh
 have f9 := at4.below dh
 refine dT (i := 0) rfl rfl (by kernel_rfl) (fun _ _ => zK (k := 0) rfl Tryz.underlying32 rfl nz30 rfl) ⟨f9.reads, di.pins⟩ ?_
 refine dT (i := 1) rfl rfl (by kernel_rfl) (fun _ hS => zL (u := aj) ag30 rfl (hS.1 0 _ rfl)) ⟨f9.reads, di.pins⟩ ?_
 refine dT (i := 2) rfl rfl (by kernel_rfl) (fun _ _ => zQ (v := lv) rfl) ⟨f9.reads, di.pins⟩ ?_
 refine dT (i := 3) rfl rfl (by kernel_rfl) (fun _ _ => zQ (v := (vJ (i4 : Int))) rfl) ⟨f9.reads, di.pins⟩ ?_
 refine dT (i := 4) rfl rfl (by kernel_rfl) (fun _ _ => zF Tryz.underlying30 sz65 (v := lv) rfl rfl bk (by omega) (by omega)) ⟨f9.reads, di.pins⟩ ?_
 obtain ⟨auc, aud, aab, aac, aue⟩ := jB (bk.at (z := (i4 : Int)) (by omega) (by omega)) (j := i4) rfl
 have aya := aab.max
 have ayb := aac.max
 refine dT (i := 5) rfl rfl (by kernel_rfl) (fun _ hS => aue ag65 sz65 rfl (Pins.of_le hS.2 gs)) ⟨f9.reads, di.pins⟩ ?_
 refine dO (i := 6) (zU (i := 6) rfl rfl rfl (zD rfl _) (o_build1 (E := eNode) (e := 65) [auc, aud] (⟨(ls.getD i4 default).l, (ls.getD i4 default).r⟩ : Nd) Tryz.underlying30 sz65 zr65 ⟨_, _, rfl, (aab.mono gs), (aac.mono gs)⟩ rfl (by decide) di.pins (fun aad auf aug auh ex ayc => ?_)))
 have jm := di.step auh ex
 have aae := at6.below ex
 have aaf := at7.below ex
 have aag := at8.below ex
 have aah := at9.below ex
 have aai := aua.below ex
 have aaj := aub.below ex
 have m9 := f9.below ex
 have aui : Own eNode 65 al auf w.heap.size aad ([(⟨(ls.getD i4 default).l, (ls.getD i4 default).r⟩ : Nd)]) := aug.weaken di.size
 refine ⟨fun _ => ⟨m9.reads, jm.pins⟩, ?_⟩
 refine dO (i := 7) (zU (i := 7) rfl rfl rfl (zD rfl _) (oA (E := eNode) (v := aj) (u := aad) 48 Tryz.underlying30 ap65 (by decide) rfl rfl jm.pins aaf aui.src (jm.size) (fun b7 ayd na auj ga gt => ?_)))
 have jn := jm.write auj ga ((yN aaf))
 have auk := aae.keptA ga jk
 have aul := aag.keptA ga m3.symm
 have aum := aah.keptA ga m4.symm
 have aun := aai.keptA ga m5.symm
 have auo := aaj.keptA ga m6.symm
 have nb := m9.keptA ga m7.symm
 have aup : Apart ak.ownBlock b7.ownBlock := zG jk gt aae.lt
 have auq : Apart bu.ownBlock b7.ownBlock := zG m3.symm gt aag.lt
 have aur : Apart bv.ownBlock b7.ownBlock := zG m4.symm gt aah.lt
 have aus : Apart (some b) b7.ownBlock := zR m5.symm gt aai.lt
 have aut : Apart (some f) b7.ownBlock := zR m6.symm gt aaj.lt
 have aak : Apart (some d) b7.ownBlock := zR m7.symm gt m9.lt
 have aye : (bh ++ ([(⟨(ls.getD i4 default).l, (ls.getD i4 default).r⟩ : Nd)])).length = bh.length + 1 := List.length_append
 refine ⟨fun _ => ⟨nb.reads, jn.pins⟩, ?_⟩
 refine dT (i := 8) rfl rfl (by kernel_rfl) (fun _ _ => zK (k := 0) rfl Tryz.underlying32 rfl nz30 rfl) ⟨nb.reads, jn.pins⟩ ?_
 refine dO (i := 9) (qB (i := 9) rfl rfl rfl (zD rfl _) (yF (cs' := [b7]) (us := [b7]) (v := b7) sz30 rfl rfl (cells1 na.one) (xN na.one) jn.pins nb (Nat.le_of_ble_eq_true rfl) rfl (fun ayf auu auw gb ayg => ?_)))
 have aux := jn.write auw gb ((zS n2))
 have auy := auk.keptA gb jl
 have auz := aul.keptA gb nw.symm
 have au0 := aum.keptA gb nx.symm
 have au1 := na.keptA gb aak.symm
 have au2 := aun.keptA gb n0.symm
 have au3 := auo.keptA gb n1.symm
 refine ⟨fun h => absurd rfl h, ?_⟩
 refine yQ (by kernel_rfl) (yB (zA (zC ?_)))
 refine qM (vJ (i4 : Int)) ?_
 refine qD rfl (yJ rfl rfl (by omega)) (qM (vJ ((i4 : Int) + 1)) ?_)
 refine qe (zZ (⟨_, ?_, _, rfl, _, i4 + 1, ak, (gr).set (fr.getD i4 0).toNat (bh.length : Int), b7, bh ++ ([(⟨(ls.getD i4 default).l, (ls.getD i4 default).r⟩ : Nd)]), al, (pS 14 (pS 10 (pS 9 (pS 8 (pS 7 (pS 6 (pS 5 (pS 4 (pS 1 (pU 0)))))))))), rfl, aux, gs, (by omega), (hrp.trans (place_next (by omega) (by omega))), ((List.length_set ..).trans z3), (by simp; omega), auy, au1, auz, au0, au2, au3, auu, aup, mz, m0, m1, m2, jl, auq.symm, aur.symm, aus.symm, aut.symm, aak.symm⟩))
 omega
 refine wp_exit (zW (yO (yI (yB (zA (zC ?_))))))
 refine qM (vJ (q : Int)) ?_
 refine qD rfl (yJ rfl rfl (by omega)) (qM (vJ ((q : Int) + 1)) ?_)
 refine qe (zZ (⟨_, ?_, _, rfl, _, q + 1, ak, gr, aj, bh, al, (pS 8 (pS 7 (pS 6 (pS 5 (pS 4 (pS 1 (pU 0))))))), rfl, hh, (Pin.le_trans (Pin.le_trans (Pin.le_trans (Pin.le_trans n3 e1) e2) gy) gs), (by omega), (form_step hr (by rw [show m.toNat + 1 = c by omega]; exact hrl) (hrp.trans (place_end (by omega)))), z3, (by omega), mx, my, z4, z5, z6, z7, z8, jk, mz, m0, m1, m2, jl, m3, m4, m5, m6, m7⟩))
 omega
 refine wp_exit (zW (yO (yI (zA (zB (zC ?_))))))
 refine qD rfl (yH (cs := [ov]) ag32 sz32 rfl (fun j u hj => jz.cell (by simpa using hj))) (q0 rfl rfl rfl (yF (cs' := [ov]) (us := [ov]) (v := (.agg [ov].toArray)) sz32 rfl rfl rfl (xN hp.one) ge.pins jy (Nat.le_of_ble_eq_true rfl) rfl (fun ayh au4 au5 aal ayi => ?_)))
 have au6 := ge.write au5 aal ((zS aao))
 have aam := hp.keptA aal n6
 refine qe (zA ?_)
 refine wp_ret (zO (c_retc (cs := [ov]) rfl rfl rfl ag32 sz32 (fun j u hj => by rw [Nat.zero_add]; exact au4.cell hj) ?_))
 obtain ⟨ayj, au7, au8, au9, ayk⟩ := aam.sealed au6
 have hfd := form_done hr (by omega)
 exact ⟨_, _, rfl, (by rw [hfd]; exact au9), au8, (by rw [hfd]; exact ⟨ar, aam, au7⟩)⟩

theorem form_spec {w : World} {G : Pin} {b : Nat} {bu bv : Value} {ns : List Nd} {bs : List Int} (hP : Pins G w) (hB : Bk 65 3 G w b bu bv ns bs) (hok : BookOk ns bs) {m : Int} (hm : 0 ≤ m ∧ m < ns.length) :
  Calls Tryz.prog 53 [(.pointer (some ⟨b, 0, none⟩)), (.int .i64 m)].toArray w fun e w' => ∃ (u : Value) (G' : Pin), e = .returned (.agg [u].toArray) ∧ RSl eNode G' u (formM ns bs m.toNat) ∧ Ext noS G w G' w' :=
 (form_own hP hB hok hm).mono fun _ _ ⟨u, G', h1, h2, h3, _⟩ => ⟨u, G', h1, h2, h3⟩

theorem l3Good_spec {w : World} {G : Pin} {v : Value} {ns : List Nd} (hP : Pins G w) (hv : RSl eNode G v ns) :
  Calls Tryz.prog 35 [(.agg [v].toArray)].toArray w fun e w' => ∃ G', e = .returned (.bool (decP (GoodS ns))) ∧ Ext noS G w G' w' := by
 refine zV (n := 46) Tryz.func35 Tryz.ntmps35 rfl rfl ?_
 have ae : Ext noS G w G w := Ext.refl hP
 have hm := hv.max
 refine zB (zC ?_)
 refine qI rfl (xG [v] (v := (.agg [v].toArray)) rfl rfl ae.pins (fun b1 w2 bq az a0 a1 => ?_))
 have a2 := ae.step a0 a1
 have a3 : w.heap.size ≤ b1 := by have := ae.size; omega
 obtain ⟨G9, f, af, o, bs⟩ := az.shut a2 a3
 refine qM (.bool false) ?_
 refine qe (zA (zB (zB (zC ?_))))
 refine qD rfl (yH (cs := [v]) ag32 sz32 rfl (fun j u hj => af.pins _ _ _ (o _ _ (by simpa using hj)))) (qI rfl (zH (vs := [(.agg [v].toArray)]) Tryz.func50 nm50 rfl rfl rfl ?_))
 refine Calls.mono (l3Fits_spec af.pins (hv.mono f)) ?_
 rintro _ bt ⟨ao, rfl, a⟩
 refine ⟨_, rfl, ?_⟩
 have ap := af.tr a
 refine qD rfl (xE rfl) (qe (zA ?_))
 refine xX rfl rfl (fun ab => ?_) (fun ab => ?_)
 refine wp_skip (zA (zB (zB (zC ?_))))
 refine qM (vJ 0) ?_
 refine qe (zA ?_)
 refine zX ?_
 have hfit := decP_true.1 ab
 refine yT (fun (k : Nat) (en : Nat → Value) (W : World) => ∃ (aq : Nat → Value) (j : Nat) (x : Pin), en = (upd (upd aq 1 (.pointer (some ⟨b1, 0, none⟩))) 3 (vJ (j : Int))) ∧ k = ns.length - j ∧ Ext noS G w x W ∧ Pin.le ao x ∧ (j ≤ ns.length) ∧ (∀ i, i < j → Rise (ns.getD i default).l 0 ((i : Int) - 1) ∧ Rise (ns.getD i default).r 0 ((i : Int) - 1))) _ ⟨_, 0, ao, (pS 3 (pU 1)), rfl, ap, Pin.le_refl _, Nat.zero_le _, (fun i hi => absurd hi (Nat.not_lt_zero i))⟩ ?_
 rintro bu _ bv ⟨aq, j, x, rfl, bw, c, b, hj, hp⟩
 refine zB (zB (zC ?_))
 refine qM (vJ (j : Int)) ?_
 refine qD rfl (zK (k := 0) rfl Tryz.underlying32 rfl nz30 rfl) (qD rfl (zL (u := v) ag30 rfl ((Pins.of_le c.pins (Pin.le_trans a.le b)) _ _ _ (o 0 _ rfl))) (qD rfl (zM Tryz.underlying30 (v := v) rfl hv) (qD rfl (yV rfl rfl) (qe (zA ?_)))))
 refine yA (p := ((j : Int) : Int) < (ns.length : Int)) rfl rfl (fun a4 => ?_) (fun a4 => ?_)
 refine wp_skip (zA (zB ?_))
 refine zX (zB (zC ?_))
 refine qD rfl (zK (k := 0) rfl Tryz.underlying32 rfl nz30 rfl) (qD rfl (zL (u := v) ag30 rfl ((Pins.of_le c.pins (Pin.le_trans a.le b)) _ _ _ (o 0 _ rfl))) (qM (vJ (j : Int)) ?_))
 refine qD rfl (zF Tryz.underlying30 sz65 (v := v) rfl rfl hv (by omega) (by omega)) (qD rfl (xI (off := 0) Tryz.underlying65 rfl rfl nz56 (z := (j : Int)) (k := 0) rfl hv (by omega) (by omega)) ?_)
 obtain ⟨a5, ar, a6⟩ := nm_nl (hv.at (z := (j : Int)) (by omega) (by omega)) (j := j) rfl
 have bz := ar.max
 refine qD rfl (a6 ag56 rfl (Pins.of_le c.pins (Pin.le_trans (Pin.le_trans f a.le) b))) (qM (vJ (j : Int)) ?_)
 refine qD rfl (qE rfl rfl (by omega)) (qI rfl (zH (vs := [a5, (vJ 0), (vJ ((j : Int) - 1))]) Tryz.func51 nm51 rfl rfl rfl ?_))
 refine Calls.mono (l1Rising_spec c.pins (ar.mono (Pin.le_trans (Pin.le_trans f a.le) b))) ?_
 rintro _ b0 ⟨rfl, au⟩
 refine ⟨_, rfl, ?_⟩
 have y := c.step au.pins au.below
 refine qD rfl (xE rfl) (qM (.bool (!(decP (Rise ((ns.getD j default).l) 0 ((j : Int) - 1))))) ?_)
 refine qbn (t := 25) rfl (fun ac => ?_) (fun ac => ?_)
 refine qN (zK (k := 0) rfl Tryz.underlying32 rfl nz30 rfl) ?_
 refine qN (zL (u := v) ag30 rfl ((Pins.of_le y.pins (Pin.le_trans a.le b)) _ _ _ (o 0 _ rfl))) ?_
 refine qN (zQ (v := (vJ (j : Int))) rfl) ?_
 refine qN (zF Tryz.underlying30 sz65 (v := v) rfl rfl hv (by omega) (by omega)) ?_
 refine qN (xI (off := 1) Tryz.underlying65 rfl rfl nz56 (z := (j : Int)) (k := 0) rfl hv (by omega) (by omega)) ?_
 obtain ⟨a7, av, a8⟩ := nm_nr (hv.at (z := (j : Int)) (by omega) (by omega)) (j := j) rfl
 have b2 := av.max
 refine qN (a8 ag56 rfl (Pins.of_le y.pins (Pin.le_trans (Pin.le_trans f a.le) b))) ?_
 refine qN (zQ (v := (vJ (j : Int))) rfl) ?_
 refine qN (qE rfl rfl (by omega)) ?_
 refine q1g rfl rfl rfl rfl rfl rfl (zH (vs := [a7, (vJ 0), (vJ ((j : Int) - 1))]) Tryz.func51 nm51 rfl rfl rfl ?_)
 refine Calls.mono (l1Rising_spec y.pins (av.mono (Pin.le_trans (Pin.le_trans f a.le) b))) ?_
 rintro _ b3 ⟨rfl, aw⟩
 refine ⟨_, rfl, ?_⟩
 have ax := y.step aw.pins aw.below
 refine qN (xE rfl) ?_
 refine qD rfl (zY (v := (.bool (!(decP (Rise ((ns.getD j default).r) 0 ((j : Int) - 1)))))) rfl rfl) (qe (zA ?_))
 refine xX rfl rfl (fun ad => ?_) (fun ad => ?_)
 refine wp_skip (yB (zA (zC ?_)))
 refine qM (vJ (j : Int)) ?_
 refine qD rfl (yJ rfl rfl (by omega)) (qM (vJ ((j : Int) + 1)) ?_)
 refine qe (zZ (⟨_, ?_, _, rfl, _, j + 1, x, (pS 3 (pU 1)), rfl, ax, b, (by omega), (fun k hk => if h3 : k = j then h3 ▸ ⟨decP_true.1 ac, decP_true.1 ad⟩ else hp k (by omega))⟩))
 omega
 refine zB (zC ?_)
 refine qM (.bool false) ?_
 refine qe (zA ?_)
 exact wp_ret (zO (zP (v := (.bool false)) rfl rfl rfl (⟨_, congrArg (fun z => Ending.returned (Value.bool z)) (decP_false.2 (fun g => by rw [decP_true.2 (g.rise j (by omega)).2] at ad; cases ad)).symm, ax⟩)))
 refine qW ?_
 refine qW ?_
 refine qW ?_
 refine qW ?_
 refine qW ?_
 refine qW ?_
 refine qW ?_
 refine qW ?_
 refine qW ?_
 refine qW ?_
 refine qD rfl (yD (v := (.bool true)) rfl rfl) (qe (zA ?_))
 refine xY rfl rfl (zB (zC ?_))
 refine qM (.bool false) ?_
 refine qe (zA ?_)
 exact wp_ret (zO (zP (v := (.bool false)) rfl rfl rfl (⟨_, congrArg (fun z => Ending.returned (Value.bool z)) (decP_false.2 (fun g => by rw [decP_true.2 (g.rise j (by omega)).1] at ac; cases ac)).symm, y⟩)))
 refine wp_exit (zW (yO (yI (zA (zB (zC ?_))))))
 have hrise : ∀ i, i < ns.length → Rise (ns.getD i default).l 0 ((i : Int) - 1) ∧ Rise (ns.getD i default).r 0 ((i : Int) - 1) := fun i hi => hp i (by omega)
 have hfok := formOk_of hfit hrise
 have hlim := hfit.lim
 have hao := addM_all jO hfok (by simp; omega)
 refine qD rfl (yG [(.slice none 0 0), (.slice none 0 0)] [(.slice none 0 0), (.slice none 0 0)] [] Tryz.underlying77 zr77 rfl pl77 rfl (fun _ h => by cases h) rfl) (qI rfl (xG [(.slice none 0 0), (.slice none 0 0)] (v := (.agg [(.slice none 0 0), (.slice none 0 0)].toArray)) rfl rfl c.pins (fun m ag b4 a9 ba bb => ?_)))
 have ay := c.step ba bb
 have bc : w.heap.size ≤ m := by have := c.size; omega
 refine qM (.pointer (some ⟨m, 0, none⟩)) ?_
 refine qe (zA (zB ?_))
 refine yZ (S := fun wz => Pins x wz) (last := 8) (by kernel_rfl) rfl ?_
 have ah : Below ag.heap.size ag ag.drew := (Below.refl _ _).drew
 have bd := ay.pins.below ah
 have d := ay.step bd ah
 have be := a9.below ah
 refine dM 0 (.pointer (some ⟨m, 0, none⟩)) d.pins ?_
 refine dM 1 (.pointer (some ⟨m, 0, none⟩)) d.pins ?_
 refine dT (i := 2) rfl rfl (by kernel_rfl) (fun _ hS => yH (cs := [v]) ag32 sz32 rfl (fun j u hj => (Pins.of_le hS (Pin.le_trans a.le b)) _ _ _ (o _ _ (by simpa using hj)))) d.pins ?_
 refine dT (i := 5) rfl rfl (by kernel_rfl) (fun _ hS => yH (cs := [v]) ag32 sz32 rfl (fun j u hj => (Pins.of_le hS (Pin.le_trans a.le b)) _ _ _ (o _ _ (by simpa using hj)))) d.pins ?_
 refine dO (i := 3) (zU (i := 3) rfl rfl rfl (zD rfl _) (zH (vs := [(.pointer (some ⟨m, 0, none⟩)), (.agg [v].toArray)]) Tryz.func54 nm54 rfl rfl rfl ?_))
 refine Calls.mono (root_spec d.pins ⟨be, (Own.nil _ _ _ _ _), (Own.nil _ _ _ _ _), apart_none.symm, apart_none.symm, apart_none⟩ jO (hv.mono (Pin.le_trans (Pin.le_trans f a.le) b)) ⟨hfok, hlim.1⟩ (by first | omega | (simp; omega))) ?_
 rintro _ b5 ⟨b6, b7, b8, rfl, q, s, bf, bg⟩
 refine ⟨_, rfl, ?_⟩
 have ai : ∀ i, inS m (.slice none 0 0) (.slice none 0 0) i → w.heap.size ≤ i ∨ noS i := inS_lo (zS bc) (lo_none _ _) (lo_none _ _)
 have aj := d.trans s ai
 have bh := q.bx
 have bi := q.ou
 have bj := q.ov
 have bk := q.abu
 have bl := q.abv
 have bm := q.auv
 have b9 := qR bf ai d.size
 have ca := qR bg ai d.size
 refine ⟨fun _ => (Pins.of_le aj.pins s.le), ?_⟩
 refine dO (i := 4) (zU (i := 4) rfl rfl rfl (zD rfl _) (zH (vs := [(.pointer (some ⟨m, 0, none⟩)), (vJ (rootM ([]) ([]) ns))]) Tryz.func53 nm53 rfl rfl rfl ?_))
 refine Calls.mono (form_spec aj.pins ⟨bh, bi, bj, bk, bl, bm⟩ hao.book (root_lt hao hlim.1)) ?_
 rintro _ cb ⟨bn, cc, rfl, bo, aa⟩
 refine ⟨_, rfl, ?_⟩
 have ak := aj.tr aa
 refine ⟨fun _ => (Pins.of_le ak.pins (Pin.le_trans s.le aa.le)), ?_⟩
 refine dO (i := 6) (zU (i := 6) rfl rfl rfl (zD rfl _) (zH (vs := [(.agg [bn].toArray), (.agg [v].toArray)]) Tryz.func52 nm52 rfl rfl rfl ?_))
 refine Calls.mono (l3Same_spec ak.pins bo (hv.mono (Pin.le_trans (Pin.le_trans (Pin.le_trans (Pin.le_trans f a.le) b) s.le) aa.le))) ?_
 rintro _ cd ⟨ce, rfl, al⟩
 refine ⟨_, rfl, ?_⟩
 have am := ak.tr al
 refine ⟨fun _ => (Pins.of_le am.pins (Pin.le_trans (Pin.le_trans s.le aa.le) al.le)), ?_⟩
 refine dM 7 (.bool (decide ((formM ((addM ([]) ([]) ns).2.1) ((addM ([]) ([]) ns).2.2) (rootM ([]) ([]) ns).toNat) = ns))) (Pins.of_le am.pins (Pin.le_trans (Pin.le_trans s.le aa.le) al.le)) ?_
 exact yQ (by kernel_rfl) (zA (wp_ret (zO (zP (v := (.bool (decide ((formM ((addM ([]) ([]) ns).2.1) ((addM ([]) ([]) ns).2.2) (rootM ([]) ([]) ns).toNat) = ns)))) rfl rfl rfl (⟨_, congrArg (fun z => Ending.returned (Value.bool z)) (decP_dec.symm.trans (decP_iff ⟨fun h => ⟨hfit, hrise, h⟩, fun h => h.same⟩)), am⟩)))))
 refine zB (zC ?_)
 refine qM (.bool false) ?_
 refine qe (zA ?_)
 exact wp_ret (zO (zP (v := (.bool false)) rfl rfl rfl (⟨_, congrArg (fun z => Ending.returned (Value.bool z)) (decP_false.2 (fun g => by rw [decP_true.2 g.fits] at ab; cases ab)).symm, ap⟩)))

end E1
end Go.Proofs.YtakkjmlnmcemaaaGreatDoor

set_option maxRecDepth 20000
set_option maxHeartbeats 2000000
namespace Go.Proofs.YtakkjmlnmcemaaaGreatDoor
namespace K1
open Go.RowKit Go.GL Go.Proofs







theorem isPow_spec {w : World} {G : Pin} (hP : Pins G w) :
  Calls Tryz.prog 144 [(.int .i64 36)].toArray w fun e w' => e = .returned (.bool false) ∧ w' = w := by
 refine zV (n := 8) Tryz.func144 Tryz.ntmps144 rfl rfl ?_
 have hX0 : Ext noS G w G w := Ext.refl hP
 refine zB (zC ?_)
 refine qM (.bool false) ?_
 refine qe (zA (zB (zC ?_)))
 refine qM (.int .i64 36) ?_
 refine qM (.int .i64 36) ?_
 refine qD rfl (qE rfl rfl (by omega)) (qD rfl (r_and rfl rfl) (qD rfl (xV rfl rfl) (qM (.bool (decide ((andW .i64 36 (36 - 1) : Int) = 0))) ?_)))
 refine qe (zA ?_)
 exact wp_ret (zO (zP (v := (.bool (decide ((andW .i64 36 (36 - 1) : Int) = 0)))) rfl rfl rfl (⟨congrArg (fun z => Ending.returned (Value.bool z)) not_pow36, rfl⟩)))

theorem formatBits_spec {w : World} {G : Pin} {v : Value} {xs : List UInt8} {i : Int} (hP : Pins G w) (hv : Own eByte 5 G w 0 v xs) (hxl : xs.length ≤ 1099511627776) (hi : 0 ≤ i ∧ i ≤ 9223372036854775807) :
  Calls Tryz.prog 136 [v, (.int .u64 i), (vJ 36), (.bool false), (.bool true)].toArray w fun e w' => ∃ (u : Value) (G' : Pin), e = .returned (.tuple #[u, .string (⟨#[]⟩ : ByteArray)]) ∧ Own eByte 5 G' w' 0 u (xs ++ dig36 i.toNat) ∧ Lo w (inO v.ownBlock) u.ownBlock ∧ Ext (inO v.ownBlock) G w G' w' := by
 refine zV (n := 102) Tryz.func136 Tryz.ntmps136 rfl rfl ?_
 have d : Ext (inO v.ownBlock) G w G w := Ext.refl hP
 have hlov : Lo w (inO v.ownBlock) v.ownBlock := xK
 refine zB (zC ?_)
 refine qM (.slice none 0 0) ?_
 refine qM (.string (⟨#[]⟩ : ByteArray)) ?_
 refine qe (zA (zB (zB (zC ?_))))
 refine qM (vJ 36) ?_
 refine qD rfl (yV rfl rfl) (qM (.bool false) ?_)
 refine qN (zQ (v := (vJ 36)) rfl) ?_
 refine qN (xV rfl rfl) ?_
 refine qD rfl (zY (v := (.bool false)) rfl rfl) (qM (.bool false) ?_)
 refine qN (zQ (v := (vJ 36)) rfl) ?_
 refine qN (r_gtr rfl rfl) ?_
 refine qD rfl (zY (v := (.bool false)) rfl rfl) (qe (zA ?_))
 refine qA rfl rfl (wp_skip (zA (zB (zC ?_))))
 refine qI rfl (yM (arrV (List.replicate 65 0)) zr162 rfl d.pins (fun a w2 x y aa l => ?_))
 have m := d.step aa l
 have ab := hv.below l
 have f : Apart (some a) v.ownBlock := zI (congrArg some x) hv.lt
 have g : w.heap.size ≤ a := by have := d.size; omega
 refine qe (zA (zB (zC ?_)))
 refine qM (vJ 65) ?_
 refine qe (zA (zB (zB (zC ?_))))
 refine qM (.bool false) ?_
 refine qe (zA ?_)
 refine qA rfl rfl (wp_skip (zA (zB (zB (zC ?_)))))
 refine qM (vJ 36) ?_
 refine qI rfl (zH (vs := [(vJ 36)]) Tryz.func144 nm144 rfl rfl rfl ?_)
 refine Calls.mono (isPow_spec m.pins ) ?_
 rintro _ _ ⟨rfl, rfl⟩
 refine ⟨_, rfl, ?_⟩
 refine qe (zA ?_)
 refine qA rfl rfl (zB (zC ?_))
 refine qM (vJ 36) ?_
 refine qD rfl (r_conv (j := 36) Tryz.underlying3 Tryz.underlying138 rfl (wrapU (by omega))) (qM (.int .u64 36) ?_)
 refine qe (zA (zB ?_))
 refine zX (yT (fun (k : Nat) (en : Nat → Value) (W : World) => ∃ (o : Nat → Value) (uz : Int) (iz : Int) (L : List UInt8), en = (upd (upd (upd (upd (upd (upd (upd (upd (upd o 0 v) 1 (.int .u64 uz)) 3 (.bool false)) 4 (.bool true)) 10 (.slice none 0 0)) 11 (.string (⟨#[]⟩ : ByteArray))) 12 (.pointer (some ⟨a, 0, none⟩))) 13 (vJ iz)) 17 (.int .u64 36)) ∧ k = uz.toNat ∧ Ext (inO v.ownBlock) G w G W ∧ (L.length = 65) ∧ (0 ≤ uz ∧ uz ≤ 9223372036854775807) ∧ (iz ≤ 65) ∧ (dig36 i.toNat = dig36 uz.toNat ++ L.drop iz.toNat) ∧ (Own eByte 5 G W 0 v (xs)) ∧ (Bx G W a (arrV (L)))) _ ⟨_, i, 65, List.replicate 65 0, (pS 17 (pS 13 (pS 12 (pS 11 (pS 10 (pS 4 (pS 3 (pS 1 (pU 0))))))))), rfl, m, List.length_replicate, hi, (Int.le_refl _), (by simp), ab, y⟩ ?_)
 rintro a1 _ a2 ⟨o, uz, iz, L, rfl, a3, b, hL, hu, hiz, hd, q, r⟩
 have hpl := dig_place hd hL (by omega)
 refine zB (zB (zC ?_))
 refine qM (.int .u64 uz) ?_
 refine qM (.int .u64 36) ?_
 refine qD rfl (r_geq rfl rfl) (qe (zA ?_))
 refine yA (p := (36 : Int) ≤ uz) rfl rfl (fun ac => ?_) (fun ac => ?_)
 refine wp_skip (zA (zX (zB (zC ?_))))
 refine qM (vJ iz) ?_
 refine qD rfl (qE rfl rfl (by omega)) (qM (vJ (iz - 1)) ?_)
 refine qe (zA (zB (zC ?_)))
 refine qM (.int .u64 uz) ?_
 refine qM (.int .u64 36) ?_
 refine qD rfl (r_quoX rfl rfl (by omega) (by omega) (by omega)) (qM (.int .u64 (uz / 36)) ?_)
 refine qe (zA (zB (zC ?_)))
 refine qM (vJ (iz - 1)) ?_
 refine qM (.int .u64 uz) ?_
 refine qM (.int .u64 (uz / 36)) ?_
 refine qM (.int .u64 36) ?_
 refine qD rfl (r_mulX rfl rfl (by omega)) (qD rfl (r_subX rfl rfl (by omega)) (qD rfl (r_digit Tryz.underlying9 rfl rfl (by omega)) (qD rfl (r_idxb (k := (iz - 1).toNat) Tryz.underlying162 sz5 rfl rfl (by omega) (by omega) (by omega)) (q0 rfl rfl rfl (o_stpk (k := (iz - 1).toNat) (x0 := digC (uz - ((uz / 36) * 36)).toNat) sz5 rfl rfl (by first | omega | (simp only [List.length_set]; omega)) b.pins r (fun a4 ad ae s a5 => ?_))))))
 have af := b.write ae s ((zS g))
 have ag := q.keptA s f.symm
 refine qe (zA (zC ?_))
 refine qM (.int .u64 (uz / 36)) ?_
 refine qM (.int .u64 (uz / 36)) ?_
 refine qe (yB (zZ (⟨_, ?_, _, rfl, _, uz / 36, iz - 1, L.set (iz - 1).toNat (digC (uz - ((uz / 36) * 36)).toNat), (pS 17 (pS 13 (pS 12 (pS 11 (pS 10 (pS 4 (pS 3 (pS 1 (pU 0))))))))), rfl, af, (by rw [List.length_set]; exact hL), (by omega), (by omega), (dig_step hd hL (by omega) (by omega)), ag, ad⟩)))
 omega
 refine wp_exit (zW (yO (yI (zA (zB (zC ?_))))))
 refine qM (vJ iz) ?_
 refine qD rfl (qE rfl rfl (by omega)) (qM (vJ (iz - 1)) ?_)
 refine qe (zA (zC ?_))
 refine qM (vJ (iz - 1)) ?_
 refine qM (.int .u64 uz) ?_
 refine qD rfl (r_digit Tryz.underlying9 rfl rfl (by omega)) (qD rfl (r_idxb (k := (iz - 1).toNat) Tryz.underlying162 sz5 rfl rfl (by omega) (by omega) (by omega)) (q0 rfl rfl rfl (o_stpk (k := (iz - 1).toNat) (x0 := digC (uz).toNat) sz5 rfl rfl (by first | omega | (simp only [List.length_set]; omega)) b.pins r (fun a6 ah ai t a7 => ?_))))
 have aj := b.write ai t ((zS g))
 have ak := q.keptA t f.symm
 refine qe (zA (zB (zB (zC ?_))))
 refine qM (.bool false) ?_
 refine qe (zA ?_)
 refine qA rfl rfl (wp_skip (zA (zB (zB (zC ?_)))))
 refine qM (.bool true) ?_
 refine qe (zA ?_)
 refine xY rfl rfl (zB (zC ?_))
 refine qM v ?_
 refine qM (vJ (iz - 1)) ?_
 obtain ⟨a8, al, c, am, an⟩ := ah.shut aj g
 have ao := ak.moreA al an f.symm
 obtain ⟨ap, aq, ar⟩ := name_arr (z := iz - 1) (n := 65) am (by rw [List.length_set]; exact hL) (by omega) (by decide)
 refine qD rfl (ar Tryz.underlying162 sz5 rfl rfl) (qI rfl (oA (E := eByte) (v := v) (u := ap) 1 Tryz.underlying128 ap5 (by decide) rfl rfl c.pins ao ((aq.mono (Pin.le_refl _)).src c.pins (by decide)) (Nat.zero_le _) (fun h a9 au av aw ax => ?_)))
 have ay := c.write av aw (hlov)
 have az : Lo w (inO v.ownBlock) h.ownBlock := lo_app hlov ax c.size
 have ba : (xs ++ ((L.set (iz - 1).toNat (digC (uz).toNat)).drop (iz - 1).toNat)).length = xs.length + ((L.set (iz - 1).toNat (digC (uz).toNat)).drop (iz - 1).toNat).length := List.length_append
 refine qM h ?_
 refine qe (zA ?_)
 refine wp_ret (zO (c_ret2 (v := h) (u := (.string (⟨#[]⟩ : ByteArray))) rfl rfl rfl rfl rfl ?_))
 have hown := au
 rw [dig_last hd hL (by omega) (by omega)] at hown
 exact ⟨_, _, rfl, hown, az, ay⟩

theorem appendUint_spec {w : World} {G : Pin} {v : Value} {xs : List UInt8} {i : Int} (hP : Pins G w) (hv : Own eByte 5 G w 0 v xs) (hxl : xs.length ≤ 1099511627776) (hi : 0 ≤ i ∧ i ≤ 9223372036854775807) :
  Calls Tryz.prog 121 [v, (.int .u64 i), (.int .i64 36)].toArray w fun e w' => ∃ (u : Value) (G' : Pin), e = .returned u ∧ Own eByte 5 G' w' 0 u (xs ++ dig36 i.toNat) ∧ Lo w (inO v.ownBlock) u.ownBlock ∧ Ext (inO v.ownBlock) G w G' w' := by
 refine zV (n := 36) Tryz.func121 Tryz.ntmps121 rfl rfl ?_
 have b : Ext (inO v.ownBlock) G w G w := Ext.refl hP
 have hlov : Lo w (inO v.ownBlock) v.ownBlock := xK
 refine zB (zC ?_)
 refine qM (.slice none 0 0) ?_
 refine qe (zA (zB (zB (zC ?_))))
 refine qM (.int .i64 36) ?_
 refine qD rfl (xV rfl rfl) (qe (zA ?_))
 refine qA rfl rfl (wp_skip (zA (zB (zC ?_))))
 refine qM v ?_
 refine qM (.int .u64 i) ?_
 refine qM (.int .i64 36) ?_
 refine qI rfl (zH (vs := [v, (.int .u64 i), (.int .i64 36), (.bool false), (.bool true)]) Tryz.func136 nm136 rfl rfl rfl ?_)
 refine Calls.mono (formatBits_spec (i := i) b.pins hv (by omega) (by omega)) ?_
 rintro _ j ⟨a, k, rfl, c, d, f⟩
 refine ⟨_, rfl, ?_⟩
 have g := b.trans f (fun i hi => hlov i hi)
 have h := lo_turn d hlov b.size
 have l : (xs ++ dig36 (i).toNat).length = xs.length + (dig36 (i).toNat).length := List.length_append
 refine qM (.tuple #[a, (.string (⟨#[]⟩ : ByteArray))]) ?_
 refine qD rfl (yE (v := a) rfl rfl) (qD rfl (yE (v := (.string (⟨#[]⟩ : ByteArray))) rfl rfl) (qM a ?_))
 refine qe (zA (zB (zC ?_)))
 refine qM a ?_
 refine qM a ?_
 refine qe (zA ?_)
 exact wp_ret (zO (zP (v := a) rfl rfl rfl (⟨_, _, rfl, c, h, g⟩)))

theorem iAppendInt_spec {w : World} {G : Pin} {v : Value} {xs : List UInt8} {i : Int} (hP : Pins G w) (hv : Own eByte 5 G w 0 v xs) (hxl : xs.length ≤ 1099511627776) (hi : 0 ≤ i ∧ i ≤ 9223372036854775807) :
  Calls Tryz.prog 118 [v, (.int .i64 i), (.int .i64 36)].toArray w fun e w' => ∃ (u : Value) (G' : Pin), e = .returned u ∧ Own eByte 5 G' w' 0 u (xs ++ dig36 i.toNat) ∧ Lo w (inO v.ownBlock) u.ownBlock ∧ Ext (inO v.ownBlock) G w G' w' := by
 refine zV (n := 21) Tryz.func118 Tryz.ntmps118 rfl rfl ?_
 have a : Ext (inO v.ownBlock) G w G w := Ext.refl hP
 have hlov : Lo w (inO v.ownBlock) v.ownBlock := xK
 refine zB (zC ?_)
 refine qM (.slice none 0 0) ?_
 refine qe (zA (zB (zC ?_)))
 refine qM (.int .i64 i) ?_
 refine qD rfl (r_conv (j := i) Tryz.underlying2 Tryz.underlying138 rfl (wrapU (by omega))) (qM (.int .u64 i) ?_)
 refine qe (zA (zB (zB (zC ?_))))
 refine qM (.int .i64 i) ?_
 refine qD rfl (yV rfl rfl) (qe (zA ?_))
 refine yA (p := (i : Int) < 0) rfl rfl (fun c => ?_) (fun c => ?_)
 exfalso; omega
 refine wp_skip (zA (zB (zC ?_)))
 refine qM v ?_
 refine qM (.int .u64 i) ?_
 refine qM (.int .i64 36) ?_
 refine qI rfl (zH (vs := [v, (.int .u64 i), (.int .i64 36)]) Tryz.func121 nm121 rfl rfl rfl ?_)
 refine Calls.mono (appendUint_spec (i := i) a.pins hv (by omega) (by omega)) ?_
 rintro _ l ⟨b, m, rfl, d, f, g⟩
 refine ⟨_, rfl, ?_⟩
 have h := a.trans g (fun i hi => hlov i hi)
 have k := lo_turn f hlov a.size
 have o : (xs ++ dig36 (i).toNat).length = xs.length + (dig36 (i).toNat).length := List.length_append
 refine qM b ?_
 refine qe (zA ?_)
 exact wp_ret (zO (zP (v := b) rfl rfl rfl (⟨_, _, rfl, d, k, h⟩)))

theorem appendInt_spec {w : World} {G : Pin} {v : Value} {xs : List UInt8} {i : Int} (hP : Pins G w) (hv : Own eByte 5 G w 0 v xs) (hxl : xs.length ≤ 1099511627776) (hi : 0 ≤ i ∧ i ≤ 9223372036854775807) :
  Calls Tryz.prog 108 [v, (.int .i64 i), (.int .i64 36)].toArray w fun e w' => ∃ (u : Value) (G' : Pin), e = .returned u ∧ Own eByte 5 G' w' 0 u (xs ++ dig36 i.toNat) ∧ Lo w (inO v.ownBlock) u.ownBlock ∧ Ext (inO v.ownBlock) G w G' w' := by
 refine zV (n := 11) Tryz.func108 Tryz.ntmps108 rfl rfl ?_
 have a : Ext (inO v.ownBlock) G w G w := Ext.refl hP
 have hlov : Lo w (inO v.ownBlock) v.ownBlock := xK
 refine zB (zC ?_)
 refine qM (.slice none 0 0) ?_
 refine qe (zA (zB (zC ?_)))
 refine qM v ?_
 refine qM (.int .i64 i) ?_
 refine qM (.int .i64 36) ?_
 refine qI rfl (zH (vs := [v, (.int .i64 i), (.int .i64 36)]) Tryz.func118 nm118 rfl rfl rfl ?_)
 refine Calls.mono (iAppendInt_spec (i := i) a.pins hv (by omega) (by omega)) ?_
 rintro _ j ⟨b, k, rfl, c, d, f⟩
 refine ⟨_, rfl, ?_⟩
 have g := a.trans f (fun i hi => hlov i hi)
 have h := lo_turn d hlov a.size
 have l : (xs ++ dig36 (i).toNat).length = xs.length + (dig36 (i).toNat).length := List.length_append
 refine qM b ?_
 refine qe (zA ?_)
 exact wp_ret (zO (zP (v := b) rfl rfl rfl (⟨_, _, rfl, c, h, g⟩)))

end K1
end Go.Proofs.YtakkjmlnmcemaaaGreatDoor

set_option maxRecDepth 20000
set_option maxHeartbeats 2000000
namespace Go.Proofs.YtakkjmlnmcemaaaGreatDoor
namespace PO1
open Go.RowKit Go.GL Go.Proofs
open B1 K1







theorem mk5 : (Tryz.prog.info? 5).map (fun i => (i.size, i.bytes, i.zero)) = some (1, 1, some (.int .u8 0)) := by kernel_rfl















theorem clone_spec {w : World} {G : Pin} {v : Value} {xs : List Int} (hP : Pins G w) (hv : RSl eInt G v xs) (hs : xs.length ≤ 1048576) :
  Calls Tryz.prog 115 [v].toArray w fun e w' => ∃ (u : Value) (G' : Pin), e = .returned u ∧ Own eInt 3 G' w' w.heap.size u xs ∧ Ext noS G w G' w' := by
 refine zV (n := 8) Tryz.func115 Tryz.ntmps115 rfl rfl ?_
 have a : Ext noS G w G w := Ext.refl hP
 refine zB (zC ?_)
 refine qM (.slice none 0 0) ?_
 refine qe (zA (zB (zB (zC ?_))))
 refine qM v ?_
 refine qD rfl (r_eqlNil Tryz.underlying56 hv rfl rfl) (qe (zA ?_))
 refine c_if rfl rfl (fun c => ?_) (fun c => ?_)
 refine zB (zC ?_)
 refine qM (.slice none 0 0) ?_
 refine qe (zA ?_)
 refine wp_ret (zO (zP (v := (.slice none 0 0)) rfl rfl rfl ?_))
 have h := nil_of hv c
 subst h
 exact ⟨_, _, rfl, Own.nil _ _ _ _ _, a⟩
 refine wp_skip (zA (zB (zC ?_)))
 refine qI rfl (xD (E := eInt) (e := 3) Tryz.underlying56 sz3 a.pins (fun d i j k l r => ?_))
 have b := a.step k l
 have f : Own eInt 3 G i w.heap.size d ([]) := j.weaken a.size
 refine qM v ?_
 refine qI rfl (oA (E := eInt) (v := d) (u := v) 8 Tryz.underlying56 ap3 (by decide) rfl rfl b.pins f ((hv.mono (Pin.le_refl _)).src b.pins (by decide)) (b.size) (fun g s m o p t => ?_))
 have q := b.write o p ((yN f))
 have x : (([]) ++ xs).length = ([]).length + xs.length := List.length_append
 refine qM g ?_
 refine qe (zA ?_)
 exact wp_ret (zO (zP (v := g) rfl rfl rfl (⟨_, _, rfl, m, q⟩)))

theorem sortI_spec {w : World} {G : Pin} {e base : Nat} {v : Value} {xs : List Int} (hP : Pins G w) (hv : Own eInt e G w base v xs) (hl : xs.length ≤ 1073741824) :
  Calls Tryz.prog 116 [v].toArray w fun en w' => ∃ G', en = .returned (.tuple #[]) ∧ Own eInt e G' w' base v (sortM xs) ∧ Ext (inO v.ownBlock) G w G' w' := by
 rcases own_cases hv with ⟨rfl, rfl⟩ | ⟨g, cap, rfl⟩
 ·refine (Tryz.slices_Sort_int_none none 0 w).mono ?_
  rintro en w' ⟨rfl, rfl⟩
  exact ⟨G, rfl, by simpa [sortM] using hv, Ext.refl hP⟩
 ·obtain ⟨_, h1, h2, h3⟩ := own_holds hv
  refine (Tryz.slices_Sort_int g 0 cap xs w h3 h1 (by omega)).mono ?_
  rintro en w' ⟨rfl, m, os, hw⟩
  obtain ⟨a, b, c⟩ := own_put (ys := sortM xs) hv hP hw (sortM_length xs) (List.take_length ..)
  rw [sortM_length] at a
  exact ⟨G, rfl, a, Ext.one b c⟩
theorem compactI_spec {w : World} {G : Pin} {e base : Nat} {v : Value} {xs : List Int} (hP : Pins G w) (hv : Own eInt e G w base v xs) (hl : xs.length ≤ 1073741824) :
  Calls Tryz.prog 117 [v].toArray w fun en w' => ∃ (u : Value) (G' : Pin), en = .returned u ∧ Own eInt e G' w' base u (Go.Lib.compact xs) ∧ Lo w (inO v.ownBlock) u.ownBlock ∧ Ext (inO v.ownBlock) G w G' w' := by
 rcases own_cases hv with ⟨rfl, rfl⟩ | ⟨g, cap, rfl⟩
 ·refine (Tryz.slices_Compact_int_empty none 0 w).mono ?_
  rintro en w' ⟨rfl, rfl⟩
  exact ⟨_, G, rfl, hv, xK, Ext.refl hP⟩
 ·obtain ⟨_, h1, h2, h3⟩ := own_holds hv
  refine (Tryz.slices_Compact_int g 0 cap xs w h3 (by omega) h2).mono ?_
  rintro en w' ⟨rfl, m, hw⟩
  have hcl := compact_len xs
  obtain ⟨a, b, c⟩ := own_put (os := #[]) (ys := Go.Lib.compact xs) hv hP (hw.trans (Go.Sort.grow_empty _).symm) (by simp; omega) (List.take_left ..)
  exact ⟨_, G, rfl, a, xK, Ext.one b c⟩

theorem distinct_spec {w : World} {G : Pin} {v : Value} {xs : List Int} (hP : Pins G w) (hv : RSl eInt G v xs) (hs : xs.length ≤ 1048576) :
  Calls Tryz.prog 107 [v].toArray w fun e w' => ∃ (u : Value) (G' : Pin), e = .returned u ∧ Own eInt 3 G' w' w.heap.size u (sortL xs) ∧ Ext noS G w G' w' := by
 refine zV (n := 10) Tryz.func107 Tryz.ntmps107 rfl rfl ?_
 have b : Ext noS G w G w := Ext.refl hP
 refine zB (zC ?_)
 refine qM (.slice none 0 0) ?_
 refine qe (zA (zB (zC ?_)))
 refine qM v ?_
 refine qI rfl (zH (vs := [v]) Tryz.func115 nm115 rfl rfl rfl ?_)
 refine Calls.mono (clone_spec b.pins hv (by omega)) ?_
 rintro _ l ⟨a, m, rfl, o, p⟩
 refine ⟨_, rfl, ?_⟩
 have f := b.tr p
 have g : Own eInt 3 m l w.heap.size a xs := o.weaken b.size
 refine qM a ?_
 refine qe (zA (zB (zC ?_)))
 refine qM a ?_
 refine qI rfl (zH (vs := [a]) Tryz.func116 nm116 rfl rfl rfl ?_)
 refine Calls.mono (sortI_spec f.pins g (by omega)) ?_
 rintro _ z ⟨G8, rfl, c, q⟩
 refine ⟨_, rfl, ?_⟩
 have d := f.trans q (fun i hi => (yN g) i hi)
 have ab := sortM_length xs
 refine qe (zA (zB (zC ?_)))
 refine qM a ?_
 refine qI rfl (zH (vs := [a]) Tryz.func117 nm117 rfl rfl rfl ?_)
 refine Calls.mono (compactI_spec d.pins (c.weaken (Nat.zero_le _)) (by omega)) ?_
 rintro _ ac ⟨j, ad, rfl, r, s, t⟩
 refine ⟨_, rfl, ?_⟩
 have x := d.trans t (fun i hi => (yN c) i hi)
 have y := r.up (lo := w.heap.size) (fun k hk => (s k hk).elim (fun h => Nat.le_trans d.size h) (fun h => (c.lt k h).1))
 refine qM j ?_
 refine qe (zA ?_)
 exact wp_ret (zO (zP (v := j) rfl rfl rfl (⟨_, _, rfl, (by rw [← distinct_eq]; simpa using y), x⟩)))

theorem node_spec {w : World} {G : Pin} {p : Nat} {L R B : Value} {mm : PM} {q : PSt} (hP : Pins G w) (hpk : Pk 56 3 G w p L R B mm q) (hok : PoolOk q) {x y : Value} {xs ys : List Int} (hx : RSl eInt G x xs) (hy : RSl eInt G y ys) (hlim : q.ns.length + 1 ≤ 1048576) (hls : xs.length ≤ 1048576 ∧ ys.length ≤ 1048576) (hk1 : ∀ i, i < xs.length → 0 ≤ xs.getD i 0 ∧ xs.getD i 0 < q.ns.length) (hk2 : ∀ i, i < ys.length → 0 ≤ ys.getD i 0 ∧ ys.getD i 0 < q.ns.length) :
  Calls Tryz.prog 93 [(.pointer (some ⟨p, 0, none⟩)), x, y].toArray w fun e w' => ∃ (z : Int) (L' R' B' : Value) (q' : PSt) (G' : Pin), e = .returned (vJ z) ∧ Pk 56 3 G' w' p L' R' B' mm q' ∧ PoolOk q' ∧ PX q q' ∧ PLo w p L R B mm L' R' B' ∧ Ext (inP p L R B mm) G w G' w' ∧ PlaceOk q' z ∧ pd q' z = mkG (xs.map (pd q)) (ys.map (pd q)) ∧ q'.ns.length ≤ q.ns.length + 1 ∧ (q'.cm = q.cm ∧ (q'.ns.length = q.ns.length ∨ z = q.ns.length)) := by
 refine zV (n := 130) Tryz.func93 Tryz.ntmps93 rfl rfl ?_
 have cf : Ext (inP p L R B mm) G w G w := Ext.refl hP
 have hpin : PIn w (inP p L R B mm) p L R B mm := PIn.self
 have lf : (q.ns.map Nd.l).length = q.ns.length ∧ (q.ns.map Nd.r).length = q.ns.length := ⟨List.length_map .., List.length_map ..⟩
 have lg : q.bs.length = q.ns.length ∧ q.ns.length ≤ 1048576 := ⟨hok.ar.ok.len, hok.ar.ok.lim⟩
 obtain ⟨d, aq⟩ : ∃ l, l = sortL xs := ⟨_, rfl⟩
 obtain ⟨g, au⟩ : ∃ l, l = sortL ys := ⟨_, rfl⟩
 have bo := sort_bounds hk1
 have cg := sort_bounds hk2
 rw [← aq] at bo
 rw [← au] at cg
 have lh : d.length ≤ 1048576 := by rw [aq]; exact Nat.le_trans jP hls.1
 have li : g.length ≤ 1048576 := by rw [au]; exact Nat.le_trans jP hls.2
 refine zB (zC ?_)
 refine qM (vJ 0) ?_
 refine qe (zA (zB (zC ?_)))
 refine qM x ?_
 refine qI rfl (zH (vs := [x]) Tryz.func107 nm107 rfl rfl rfl ?_)
 refine Calls.mono (distinct_spec cf.pins hx (by omega)) ?_
 rintro _ w5 ⟨u3, G4, rfl, ch, ci⟩
 refine ⟨_, rfl, ?_⟩
 rw [← aq] at ch
 have cj := cf.tr ci
 have dk := hpk.ext ci
 have bp := hpk.new (x := u3.ownBlock) (fun k hk => (ch.lt k hk).1)
 have dl : Own eInt 3 G4 w5 w.heap.size u3 d := ch.weaken cf.size
 refine qM y ?_
 refine qI rfl (zH (vs := [y]) Tryz.func107 nm107 rfl rfl rfl ?_)
 refine Calls.mono (distinct_spec cj.pins (hy.mono ci.le) (by omega)) ?_
 rintro _ gt ⟨t, bq, rfl, br, ck⟩
 refine ⟨_, rfl, ?_⟩
 rw [← au] at br
 have cl := cj.tr ck
 have cn := dl.ext ck
 have dm := dk.ext ck
 have gu := zT br.lt dl.lt
 have a2 := dk.new (x := t.ownBlock) (fun k hk => (br.lt k hk).1)
 have co : Own eInt 3 bq gt w.heap.size t g := br.weaken cj.size
 refine qM u3 ?_
 refine qM t ?_
 refine qe (zA (zB (zC ?_)))
 refine qM u3 ?_
 refine qD rfl (zM Tryz.underlying56 (v := u3) rfl cn.read) (qM t ?_)
 refine qD rfl (zM Tryz.underlying56 (v := t) rfl co.read) (qD rfl (yJ rfl rfl (by omega)) (qD rfl (r_mul rfl rfl (by omega)) (qD rfl (yJ rfl rfl (by omega)) (qI rfl (o_make0 (E := eByte) Tryz.underlying128 mk5 rfl rfl cl.pins (by omega) (by omega) (by omega) (fun a3 gv gw dn bt cp => ?_))))))
 have gx := cl.step dn bt
 have dp := cn.below bt
 have gy := co.below bt
 have gz := dm.below bt dn
 have g0 : Apart a3.ownBlock u3.ownBlock := zI cp cn.lt
 have g1 : Apart a3.ownBlock t.ownBlock := zI cp co.lt
 have g2 := dm.new (x := a3.ownBlock) (fun k hk => by rw [cp] at hk; cases hk; exact Nat.le_refl _)
 have g3 : Own eByte 5 bq gv w.heap.size a3 ([]) := gw.weaken cl.size
 refine qM a3 ?_
 refine qe (zA (zB (zC ?_)))
 refine qM (vJ 0) ?_
 refine qe (zA (zB (zB (zC ?_))))
 refine qM u3 ?_
 refine qD rfl (zM Tryz.underlying56 (v := u3) rfl dp.read) (qM (vJ 0) ?_)
 refine qe (zA ?_)
 refine zX (yT (fun (k : Nat) (en : Nat → Value) (W : World) => ∃ (ba : Nat → Value) (i : Nat) (kva : Value) (kxa : List UInt8) (bn : Int) (GLa : Pin), en = (upd (upd (upd (upd (upd (upd (upd (upd (upd ba 0 (.pointer (some ⟨p, 0, none⟩))) 1 u3) 2 t) 6 (vJ 0)) 7 kva) 8 (vJ bn)) 28 u3) 29 (vJ (d.length : Int))) 30 (vJ (i : Int))) ∧ k = d.length - i ∧ Ext (inP p L R B mm) G w GLa W ∧ Pin.le bq GLa ∧ (i ≤ d.length) ∧ (kxa = keyL (d.take i)) ∧ (bn = bornOf q.bs (d.take i) 0) ∧ (0 ≤ bn ∧ bn ≤ q.ns.length) ∧ (Own eByte 5 GLa W w.heap.size kva (kxa)) ∧ (Own eInt 3 GLa W w.heap.size u3 (d)) ∧ (Own eInt 3 GLa W w.heap.size t (g)) ∧ (Apart kva.ownBlock u3.ownBlock) ∧ (Apart kva.ownBlock t.ownBlock) ∧ (Pk 56 3 GLa W p L R B mm q) ∧ (NP p L R B mm kva.ownBlock)) _ ⟨_, 0, a3, [], 0, bq, (pS 30 (pS 29 (pS 28 (pS 8 (pS 7 (pS 6 (pS 2 (pS 1 (pU 0))))))))), rfl, gx, Pin.le_refl _, Nat.zero_le _, (by simp [keyL]), rfl, (by omega), g3, dp, gy, g0, g1, gz, g2⟩ ?_)
 rintro lj _ lk ⟨ba, i, kva, kxa, bn, GLa, rfl, lm, ax, g4, hji, hka, hbbn, hlbn, bu, bb, cq, bv, bw, cr, bz⟩
 have hkla : kxa.length ≤ 117440640 := by
  have := key_bound (j := i) bo hok.ar.ok.lim
  rw [hka]; omega
 refine zB (zC ?_)
 refine qD rfl (yV rfl rfl) (qe (zA (zB ?_)))
 refine yA (p := ((i : Int) : Int) < (d.length : Int)) rfl rfl (fun g5 => ?_) (fun g5 => ?_)
 have hki := bo i (by omega)
 have hbk := hok.ar.ok.born (d.getD i 0).toNat (by omega)
 have g6 := dig13 (n := (d.getD i 0).toNat) (by omega)
 refine wp_skip (zA (zB ?_))
 refine zX (zB (zC ?_))
 refine qD rfl (zF Tryz.underlying56 sz3 (v := u3) rfl rfl bb.read (by omega) (by omega)) (qD rfl (zE (r := d.getD i 0) rfl ag3 (z := (i : Int)) rfl bb.read (Gadd.pins ax.pins u3) (by omega) (by omega)) (qM (vJ (d.getD i 0)) ?_))
 refine qe (zA (zB (zC ?_)))
 refine qM kva ?_
 refine qM (vJ (d.getD i 0)) ?_
 refine qI rfl (zH (vs := [kva, (vJ (d.getD i 0)), (vJ 36)]) Tryz.func108 nm108 rfl rfl rfl ?_)
 refine Calls.mono (appendInt_spec (i := d.getD i 0) ax.pins (bu.weaken (Nat.zero_le _)) (by omega) (by omega)) ?_
 rintro _ ln ⟨cs, dq, rfl, g7, b0, bc⟩
 refine ⟨_, rfl, ?_⟩
 have dr := np_turn bz cr b0
 have ct := ax.trans bc (fun i hi => (yN bu) i hi)
 have g8 := bb.extS bc (notO bv.symm)
 have g9 := cq.extS bc (notO bw.symm)
 have ha := cr.extS bc (fun k hk hx => bz k hx hk)
 have ds : Apart u3.ownBlock cs.ownBlock := ap_turn b0 bv.symm (jH bb)
 have dt : Apart t.ownBlock cs.ownBlock := ap_turn b0 bw.symm (jH cq)
 have hc := g7.up (lo := w.heap.size) (fun k hk => (b0 k hk).elim (fun h => Nat.le_trans ax.size h) (fun h => (bu.lt k h).1))
 have lq : (kxa ++ dig36 (d.getD i 0).toNat).length = kxa.length + (dig36 (d.getD i 0).toNat).length := List.length_append
 refine qI rfl (xA (E := eByte) (e := 5) [(.int .u8 44)] [44] Tryz.underlying128 sz5 zr5 (by exact xZ (by rfl)) (xN (by rfl)) rfl rfl rfl rfl (by decide) ct.pins (fun du hd he dv bd ls => ?_))
 have cu := ct.step dv bd
 have dw := g8.below bd
 have dx := g9.below bd
 have dy := hc.below bd
 have dz := ha.below bd dv
 have hf : Own eByte 5 dq hd w.heap.size du ([44]) := he.weaken ct.size
 refine qI rfl (oA (E := eByte) (v := cs) (u := du) 1 Tryz.underlying128 ap5 (by decide) rfl rfl cu.pins dy hf.src (cu.size) (fun b1 lu hg d0 b2 cv => ?_))
 have d1 := cu.write d0 b2 ((yN dy))
 have hh := dw.keptA b2 ds
 have hj := dx.keptA b2 dt
 have b3 := dz.kept b2 d0 dr
 have hm : Apart u3.ownBlock b1.ownBlock := zG ds cv dw.lt
 have hn : Apart t.ownBlock b1.ownBlock := zG dt cv dx.lt
 have ho := np_app dr dz cv
 have lv : ((kxa ++ dig36 (d.getD i 0).toNat) ++ ([44])).length = (kxa ++ dig36 (d.getD i 0).toNat).length + 1 := List.length_append
 refine qM b1 ?_
 refine qe (zA (zC ?_))
 refine qM (vJ bn) ?_
 refine qM (.pointer (some ⟨p, 0, none⟩)) ?_
 refine qD rfl (yW rfl) (qD rfl (zK (k := 2) rfl Tryz.underlying97 rfl nz56 rfl) (qD rfl (zL (u := B) ag56 rfl (b3.bx.cell (o := 2) rfl)) (qM (vJ (d.getD i 0)) ?_)))
 refine qD rfl (zF Tryz.underlying56 sz3 (v := B) rfl rfl b3.ob.read (by omega) (by omega)) (qD rfl (zE (r := q.bs.getD (d.getD i 0).toNat 0) rfl ag3 (z := (d.getD i 0)) rfl b3.ob.read (Gadd.pins d1.pins B) (by omega) (by omega)) (qD rfl (yJ rfl rfl (by omega)) (qD rfl (r_max rfl rfl) (qM (vJ (max bn ((q.bs.getD (d.getD i 0).toNat 0) + 1))) ?_))))
 refine qe (yB (zA (zC ?_)))
 refine qD rfl (yJ rfl rfl (by omega)) (qM (vJ ((i : Int) + 1)) ?_)
 refine qe (zZ (⟨_, ?_, _, rfl, _, i + 1, b1, (kxa ++ dig36 (d.getD i 0).toNat) ++ ([44]), max bn ((q.bs.getD (d.getD i 0).toNat 0) + 1), dq, (pS 30 (pS 29 (pS 28 (pS 8 (pS 7 (pS 6 (pS 2 (pS 1 (pU 0))))))))), rfl, d1, (Pin.le_trans g4 bc.le), (by omega), (by rw [key_next (by omega), hka]), (by rw [hbbn, born_next (by omega)]), (by omega), hg, hh, hj, hm.symm, hn.symm, b3, ho⟩))
 omega
 refine wp_exit (zW (yO (yI (zA (zB (zC ?_))))))
 refine qM kva ?_
 refine qI rfl (xA (E := eByte) (e := 5) [(.int .u8 124)] [124] Tryz.underlying128 sz5 zr5 (by exact xZ (by rfl)) (xN (by rfl)) rfl rfl rfl rfl (by decide) ax.pins (fun d2 hq hs d3 be lw => ?_))
 have cw := ax.step d3 be
 have d4 := bu.below be
 have d5 := bb.below be
 have d6 := cq.below be
 have d7 := cr.below be d3
 have ht : Own eByte 5 GLa hq w.heap.size d2 ([124]) := hs.weaken ax.size
 refine qI rfl (oA (E := eByte) (v := kva) (u := d2) 1 Tryz.underlying128 ap5 (by decide) rfl rfl cw.pins d4 ht.src (cw.size) (fun b4 lx hu d8 b5 cx => ?_))
 have hv := cw.write d8 b5 ((yN d4))
 have hw := d5.keptA b5 bv.symm
 have d9 := d6.keptA b5 bw.symm
 have h0 := d7.kept b5 d8 bz
 have h1 : Apart u3.ownBlock b4.ownBlock := zG bv.symm cx d5.lt
 have h3 : Apart t.ownBlock b4.ownBlock := zG bw.symm cx d6.lt
 have h4 := np_app bz d7 cx
 have ly : (kxa ++ ([124])).length = kxa.length + 1 := List.length_append
 refine qM b4 ?_
 refine qe (zA (zB (zB (zC ?_))))
 rw [take_all (by omega)] at hka hbbn
 have hkk : keyL d ++ [124] = kxa ++ [124] := by rw [hka]
 refine qM t ?_
 refine qD rfl (zM Tryz.underlying56 (v := t) rfl d9.read) (qM (vJ 0) ?_)
 refine qe (zA ?_)
 refine zX (yT (fun (k : Nat) (en : Nat → Value) (W : World) => ∃ (ba : Nat → Value) (m : Nat) (kvb : Value) (kxb : List UInt8) (bm : Int) (GLb : Pin), en = (upd (upd (upd (upd (upd (upd (upd (upd (upd ba 0 (.pointer (some ⟨p, 0, none⟩))) 1 u3) 2 t) 6 (vJ 0)) 7 kvb) 8 (vJ bm)) 53 t) 54 (vJ (g.length : Int))) 55 (vJ (m : Int))) ∧ k = g.length - m ∧ Ext (inP p L R B mm) G w GLb W ∧ Pin.le GLa GLb ∧ (m ≤ g.length) ∧ (kxb = keyL d ++ [124] ++ keyL (g.take m)) ∧ (bm = bornOf q.bs (g.take m) bn) ∧ (0 ≤ bm ∧ bm ≤ q.ns.length) ∧ (Own eByte 5 GLb W w.heap.size kvb (kxb)) ∧ (Own eInt 3 GLb W w.heap.size u3 (d)) ∧ (Own eInt 3 GLb W w.heap.size t (g)) ∧ (Apart kvb.ownBlock u3.ownBlock) ∧ (Apart kvb.ownBlock t.ownBlock) ∧ (Pk 56 3 GLb W p L R B mm q) ∧ (NP p L R B mm kvb.ownBlock)) _ ⟨_, 0, b4, kxa ++ ([124]), bn, GLa, (pS 55 (pS 54 (pS 53 (pS 8 (pS 7 (pS 6 (pS 2 (pS 1 (pU 0))))))))), rfl, hv, Pin.le_refl _, Nat.zero_le _, (by rw [← hkk]; simp [keyL]), rfl, (by omega), hu, hw, d9, h1.symm, h3.symm, h0, h4⟩ ?_)
 rintro lz _ av ⟨ba, m, kvb, kxb, bm, GLb, rfl, l0, ay, h5, l1, hkb, hbbm, hlbm, bf, cy, bg, ea, eb, cz, ec⟩
 have hklb : kxb.length ≤ 117440640 := by
  have := key_bound (j := m) cg hok.ar.ok.lim
  have h2 := key_bound (j := d.length) bo hok.ar.ok.lim; rw [hkb, List.length_append, List.length_append]; simp only [List.length_cons, List.length_nil]; rw [take_all (Nat.le_refl _)] at h2; omega
 refine zB (zC ?_)
 refine qD rfl (yV rfl rfl) (qe (zA (zB ?_)))
 refine yA (p := ((m : Int) : Int) < (g.length : Int)) rfl rfl (fun h7 => ?_) (fun h7 => ?_)
 have hki := cg m (by omega)
 have hbk := hok.ar.ok.born (g.getD m 0).toNat (by omega)
 have g6 := dig13 (n := (g.getD m 0).toNat) (by omega)
 refine wp_skip (zA (zB ?_))
 refine zX (zB (zC ?_))
 refine qD rfl (zF Tryz.underlying56 sz3 (v := t) rfl rfl bg.read (by omega) (by omega)) (qD rfl (zE (r := g.getD m 0) rfl ag3 (z := (m : Int)) rfl bg.read (Gadd.pins ay.pins t) (by omega) (by omega)) (qM (vJ (g.getD m 0)) ?_))
 refine qe (zA (zB (zC ?_)))
 refine qM kvb ?_
 refine qM (vJ (g.getD m 0)) ?_
 refine qI rfl (zH (vs := [kvb, (vJ (g.getD m 0)), (vJ 36)]) Tryz.func108 nm108 rfl rfl rfl ?_)
 refine Calls.mono (appendInt_spec (i := g.getD m 0) ay.pins (bf.weaken (Nat.zero_le _)) (by omega) (by omega)) ?_
 rintro _ l2 ⟨c0, ed, rfl, h8, b6, bh⟩
 refine ⟨_, rfl, ?_⟩
 have ee := np_turn ec cz b6
 have c1 := ay.trans bh (fun i hi => (yN bf) i hi)
 have h9 := cy.extS bh (notO ea.symm)
 have ia := bg.extS bh (notO eb.symm)
 have ib := cz.extS bh (fun k hk hx => ec k hx hk)
 have eg : Apart u3.ownBlock c0.ownBlock := ap_turn b6 ea.symm (jH cy)
 have eh : Apart t.ownBlock c0.ownBlock := ap_turn b6 eb.symm (jH bg)
 have ic := h8.up (lo := w.heap.size) (fun k hk => (b6 k hk).elim (fun h => Nat.le_trans ay.size h) (fun h => (bf.lt k h).1))
 have l3 : (kxb ++ dig36 (g.getD m 0).toNat).length = kxb.length + (dig36 (g.getD m 0).toNat).length := List.length_append
 refine qI rfl (xA (E := eByte) (e := 5) [(.int .u8 44)] [44] Tryz.underlying128 sz5 zr5 (by exact xZ (by rfl)) (xN (by rfl)) rfl rfl rfl rfl (by decide) c1.pins (fun ei ie ig ej bi l4 => ?_))
 have c2 := c1.step ej bi
 have ek := h9.below bi
 have em := ia.below bi
 have eo := ic.below bi
 have ep := ib.below bi ej
 have ih : Own eByte 5 ed ie w.heap.size ei ([44]) := ig.weaken c1.size
 refine qI rfl (oA (E := eByte) (v := c0) (u := ei) 1 Tryz.underlying128 ap5 (by decide) rfl rfl c2.pins eo ih.src (c2.size) (fun b7 l5 ii eq b8 c3 => ?_))
 have es := c2.write eq b8 ((yN eo))
 have ij := ek.keptA b8 eg
 have ik := em.keptA b8 eh
 have b9 := ep.kept b8 eq ee
 have il : Apart u3.ownBlock b7.ownBlock := zG eg c3 ek.lt
 have im : Apart t.ownBlock b7.ownBlock := zG eh c3 em.lt
 have io := np_app ee ep c3
 have l6 : ((kxb ++ dig36 (g.getD m 0).toNat) ++ ([44])).length = (kxb ++ dig36 (g.getD m 0).toNat).length + 1 := List.length_append
 refine qM b7 ?_
 refine qe (zA (zC ?_))
 refine qM (vJ bm) ?_
 refine qM (.pointer (some ⟨p, 0, none⟩)) ?_
 refine qD rfl (yW rfl) (qD rfl (zK (k := 2) rfl Tryz.underlying97 rfl nz56 rfl) (qD rfl (zL (u := B) ag56 rfl (b9.bx.cell (o := 2) rfl)) (qM (vJ (g.getD m 0)) ?_)))
 refine qD rfl (zF Tryz.underlying56 sz3 (v := B) rfl rfl b9.ob.read (by omega) (by omega)) (qD rfl (zE (r := q.bs.getD (g.getD m 0).toNat 0) rfl ag3 (z := (g.getD m 0)) rfl b9.ob.read (Gadd.pins es.pins B) (by omega) (by omega)) (qD rfl (yJ rfl rfl (by omega)) (qD rfl (r_max rfl rfl) (qM (vJ (max bm ((q.bs.getD (g.getD m 0).toNat 0) + 1))) ?_))))
 refine qe (yB (zA (zC ?_)))
 refine qD rfl (yJ rfl rfl (by omega)) (qM (vJ ((m : Int) + 1)) ?_)
 refine qe (zZ (⟨_, ?_, _, rfl, _, m + 1, b7, (kxb ++ dig36 (g.getD m 0).toNat) ++ ([44]), max bm ((q.bs.getD (g.getD m 0).toNat 0) + 1), ed, (pS 55 (pS 54 (pS 53 (pS 8 (pS 7 (pS 6 (pS 2 (pS 1 (pU 0))))))))), rfl, es, (Pin.le_trans h5 bh.le), (by omega), (by rw [key_next (by omega), hkb]; simp only [List.append_assoc]), (by rw [hbbm, born_next (by omega)]), (by omega), ii, ij, ik, il.symm, im.symm, b9, io⟩))
 omega
 refine wp_exit (zW (yO (yI (zA (zB (zB ?_))))))
 rw [take_all (by omega)] at hkb hbbm
 have hkey : kxb = keyN d g := by rw [hkb]; rfl
 have ip := Gadd.pins ay.pins kvb
 have l7 := bf.read
 refine yZ (S := fun wz => BxR wz p [L, R, B, (.map (some mm.f)), (.map (some mm.o)), (.map (some mm.c)), (.map (some mm.s)), (.map (some mm.n))] ∧ Pins (Gadd GLb av kvb) wz) (last := 12) (by kernel_rfl) rfl ?_
 have az : Below av.heap.size av av.drew := (Below.refl _ _).drew
 have et := ay.pins.below az
 have bj := ay.step et az
 have c4 := bf.below az
 have iq := cy.below az
 have ir := bg.below az
 have a := cz.below az et
 have ad := ip.below az
 refine dT (i := 0) rfl rfl (by kernel_rfl) (fun _ _ => zQ (v := (.pointer (some ⟨p, 0, none⟩))) rfl) ⟨a.bx.reads, ad⟩ ?_
 refine dT (i := 1) rfl rfl (by kernel_rfl) (fun _ _ => yW rfl) ⟨a.bx.reads, ad⟩ ?_
 refine dT (i := 2) rfl rfl (by kernel_rfl) (fun _ _ => zK (k := 3) rfl Tryz.underlying97 rfl nz91 rfl) ⟨a.bx.reads, ad⟩ ?_
 refine dT (i := 3) rfl rfl (by kernel_rfl) (fun _ hS => zL (u := (.map (some mm.f))) ag91 rfl (hS.1 3 _ rfl)) ⟨a.bx.reads, ad⟩ ?_
 refine dT (i := 4) rfl rfl (by kernel_rfl) (fun _ _ => zQ (v := kvb) rfl) ⟨a.bx.reads, ad⟩ ?_
 refine dO (i := 5) (zU (i := 5) rfl rfl rfl (zD rfl _) (EO.run (r_b2s Tryz.underlying128 Tryz.underlying5 Tryz.underlying9 rfl c4.read (Gadd.pins bj.pins kvb)) ?_))
 refine ⟨fun _ => ⟨a.bx.reads, ad⟩, ?_⟩
 refine dO (i := 6) (zU (i := 6) rfl rfl rfl (zD rfl _) (EO.run (run_lookv_int (k := (b2s kxb)) (key_str Tryz.underlying9) Tryz.underlying91 zr3 a.ff rfl rfl) ?_))
 refine ⟨fun _ => ⟨a.bx.reads, ad⟩, ?_⟩
 refine dT (i := 7) rfl rfl (by kernel_rfl) (fun _ _ => zQ (v := (.tuple #[(vJ ((Go.GL.look q.fl (b2s kxb)).getD 0)), (.bool ((Go.GL.look q.fl (b2s kxb)).isSome))])) rfl) ⟨a.bx.reads, ad⟩ ?_
 refine dT (i := 8) rfl rfl (by kernel_rfl) (fun _ _ => yE (v := (vJ ((Go.GL.look q.fl (b2s kxb)).getD 0))) rfl rfl) ⟨a.bx.reads, ad⟩ ?_
 refine dT (i := 9) rfl rfl (by kernel_rfl) (fun _ _ => yE (v := (.bool ((Go.GL.look q.fl (b2s kxb)).isSome))) rfl rfl) ⟨a.bx.reads, ad⟩ ?_
 refine dT (i := 10) rfl rfl (by kernel_rfl) (fun _ _ => xW (v := (vJ ((Go.GL.look q.fl (b2s kxb)).getD 0))) rfl) ⟨a.bx.reads, ad⟩ ?_
 refine dT (i := 11) rfl rfl (by kernel_rfl) (fun _ _ => xW (v := (.bool ((Go.GL.look q.fl (b2s kxb)).isSome))) rfl) ⟨a.bx.reads, ad⟩ ?_
 refine yQ (by kernel_rfl) (zA (zB (zC ?_)))
 refine qM (.bool ((Go.GL.look q.fl (b2s kxb)).isSome)) ?_
 refine qe (zA ?_)
 refine c_if rfl rfl (fun c5 => ?_) (fun c5 => ?_)
 refine zB (zC ?_)
 refine qM (vJ ((Go.GL.look q.fl (b2s kxb)).getD 0)) ?_
 refine qM (vJ ((Go.GL.look q.fl (b2s kxb)).getD 0)) ?_
 refine qe (zA ?_)
 refine wp_ret (zO (zP (v := (vJ ((Go.GL.look q.fl (b2s kxb)).getD 0))) rfl rfl rfl ?_))
 obtain ⟨z, hz⟩ := Option.isSome_iff_exists.1 c5
 have hlk := hz
 rw [hkey, aq, au] at hlk
 obtain ⟨f1, f2⟩ := lookF hok hk1 hk2 hlk
 rw [hz]
 exact ⟨z, L, R, B, q, GLb, rfl, a, hok, (PX.refl _), PIn.lo hpin rfl, bj, f1, f2, by omega, rfl, Or.inl rfl⟩
 refine wp_skip (zA (zB (zC ?_)))
 refine qM (.pointer (some ⟨p, 0, none⟩)) ?_
 refine qD rfl (yW rfl) (qD rfl (zK (k := 2) rfl Tryz.underlying97 rfl nz56 rfl) (qD rfl (zL (u := B) ag56 rfl (a.bx.cell (o := 2) rfl)) (qD rfl (zM Tryz.underlying56 (v := B) rfl a.ob.read) (qM (vJ (q.bs.length : Int)) ?_))))
 refine qe (zA (zB ?_))
 have hnone : Go.GL.look q.fl (b2s kxb) = none := by simpa using c5
 rw [hkey, aq, au] at hnone
 have hadd := hok.add (b := bm) hlim hls hk1 hk2 hnone (by rw [hbbm, hbbn, aq, au])
 have iv := Gadd.pins bj.pins kvb
 have l8 := c4.read
 refine yZ (S := fun wz => BxR wz p [L, R, B, (.map (some mm.f)), (.map (some mm.o)), (.map (some mm.c)), (.map (some mm.s)), (.map (some mm.n))] ∧ Pins (Gadd GLb av.drew kvb) wz) (last := 7) (by kernel_rfl) rfl ?_
 have ab : Below av.drew.heap.size av.drew av.drew.drew := (Below.refl _ _).drew
 have iw := bj.pins.below ab
 have c6 := bj.step iw ab
 have ix := c4.below ab
 have eu := iq.below ab
 have ev := ir.below ab
 have ew := a.ol.below ab
 have ex := a.rr.below ab
 have ey := a.ob.below ab
 have al := a.bx.below ab
 have a0 := a.ff.below ab
 have iy := a.fo.below ab
 have iz := a.fc.below ab
 have i0 := a.fs.below ab
 have i1 := a.fn.below ab
 have a1 := iv.below ab
 refine dT (i := 0) rfl rfl (by kernel_rfl) (fun _ _ => zQ (v := (.pointer (some ⟨p, 0, none⟩))) rfl) ⟨al.reads, a1⟩ ?_
 refine dT (i := 1) rfl rfl (by kernel_rfl) (fun _ _ => yW rfl) ⟨al.reads, a1⟩ ?_
 refine dT (i := 2) rfl rfl (by kernel_rfl) (fun _ _ => zK (k := 3) rfl Tryz.underlying97 rfl nz91 rfl) ⟨al.reads, a1⟩ ?_
 refine dT (i := 3) rfl rfl (by kernel_rfl) (fun _ hS => zL (u := (.map (some mm.f))) ag91 rfl (hS.1 3 _ rfl)) ⟨al.reads, a1⟩ ?_
 refine dT (i := 4) rfl rfl (by kernel_rfl) (fun _ _ => zQ (v := kvb) rfl) ⟨al.reads, a1⟩ ?_
 refine dT (i := 6) rfl rfl (by kernel_rfl) (fun _ _ => zQ (v := (vJ (q.bs.length : Int))) rfl) ⟨al.reads, a1⟩ ?_
 refine dO (i := 5) (zU (i := 5) rfl rfl rfl (zD rfl _) (EO.run (r_b2s Tryz.underlying128 Tryz.underlying5 Tryz.underlying9 rfl ix.read (Gadd.pins c6.pins kvb)) ?_))
 refine ⟨fun _ => ⟨al.reads, a1⟩, ?_⟩
 refine dO (i := 7) (qB (i := 7) rfl rfl rfl (zD rfl _) (qT (val := (fun v : Int => Value.int .i64 v)) (k := (b2s kxb)) (v := (q.bs.length : Int)) (key_str Tryz.underlying9) Tryz.underlying91 rfl rfl rfl c6.pins a0 (fun l9 i3 i4 ae ma => ?_)))
 have i5 := c6.write i4 ae ((PIn.f hpin))
 have i6 := eu.keptA ae (yR a0 eu).symm
 have i7 := ev.keptA ae (yR a0 ev).symm
 have i8 := ew.keptA ae (yR a0 ew).symm
 have i9 := ex.keptA ae (yR a0 ex).symm
 have ja := ey.keptA ae (yR a0 ey).symm
 have ez := al.keptA ae (xM a0 al).symm
 have jb := iy.kept ae (apart_maps a.df.fo).symm
 have jc := iz.kept ae (apart_maps a.df.fc).symm
 have jd := i0.kept ae (apart_maps a.df.fs).symm
 have je := i1.kept ae (apart_maps a.df.fn).symm
 refine ⟨fun h => absurd rfl h, ?_⟩
 refine yQ (by kernel_rfl) (zA (zB (zC ?_)))
 refine qM (.pointer (some ⟨p, 0, none⟩)) ?_
 refine qM (.pointer (some ⟨p, 0, none⟩)) ?_
 refine qD rfl (yW rfl) (qD rfl (zK (k := 0) rfl Tryz.underlying97 rfl nz95 rfl) (qD rfl (zL (u := L) ag95 rfl (ez.cell (o := 0) rfl)) (qM u3 ?_)))
 obtain ⟨jf, ca, c7, e0, bk⟩ := i6.sealed i5
 have jg := i7.moreO ca bk gu
 have jh := i8.moreO ca bk (NP.hl bp).symm
 have ji := i9.moreO ca bk (NP.hr bp).symm
 have jj := ja.moreO ca bk (NP.hb bp).symm
 have jk := ez.moreO bk (NP.hp bp).symm
 refine qI rfl (xA (E := (eSl eInt)) (e := 56) [u3] [d] Tryz.underlying95 sz56 zr56 (by exact xZ (⟨_, rfl, e0⟩)) (xN e0.one) rfl rfl rfl rfl (by decide) c7.pins (fun e1 jl jm jn af mb => ?_))
 have c8 := c7.step jn af
 have e2 := jg.below af
 have a4 := jh.below af
 have e3 := ji.below af
 have e4 := jj.below af
 have e5 := jk.below af
 have e6 := i3.below af
 have e7 := jb.below af
 have e8 := jc.below af
 have e9 := jd.below af
 have fa := je.below af
 have jo : Own (eSl eInt) 56 jf jl w.heap.size e1 ([d]) := jm.weaken c7.size
 refine qI rfl (oA (E := (eSl eInt)) (v := L) (u := e1) 24 Tryz.underlying95 ap56 (by decide) rfl rfl c8.pins a4 jo.src (Nat.zero_le _) (fun ac mc c9 jp ag bl => ?_))
 have fb := c8.write jp ag ((PIn.ll hpin))
 have jq := e2.keptA ag (NP.hl a2)
 have jr := e3.keptA ag a.alr.symm
 have js := e4.keptA ag a.alb.symm
 have a5 := e5.keptA ag a.apl
 have fd := e6.kept ag (yR e6 a4)
 have fe := e7.kept ag (yR e7 a4)
 have fg := e8.kept ag (yR e8 a4)
 have fh := e9.kept ag (yR e9 a4)
 have fi := fa.kept ag (yR fa a4)
 have jt : Apart t.ownBlock ac.ownBlock := zG (NP.hl a2) bl e2.lt
 have fj : Apart R.ownBlock ac.ownBlock := zG a.alr.symm bl e3.lt
 have fk : Apart B.ownBlock ac.ownBlock := zG a.alb.symm bl e4.lt
 have cb : Apart (some p) ac.ownBlock := zR a.apl bl e5.lt
 have ju : Lo w (inP p L R B mm) ac.ownBlock := lo_app (PIn.ll hpin) bl c8.size
 have md : ((q.ns.map Nd.l) ++ ([d])).length = (q.ns.map Nd.l).length + 1 := List.length_append
 refine qD rfl (yW rfl) (qD rfl (zK (k := 0) rfl Tryz.underlying97 rfl nz95 rfl) (q0 rfl rfl rfl (yF (cs' := [ac, R, B, (.map (some mm.f)), (.map (some mm.o)), (.map (some mm.c)), (.map (some mm.s)), (.map (some mm.n))]) (us := [ac]) (v := ac) sz95 rfl rfl (cells1 c9.one) (xN c9.one) fb.pins a5 (Nat.le_of_ble_eq_true rfl) rfl (fun me fm jv ah mf => ?_))))
 have jw := fb.write jv ah ((PIn.lp hpin))
 have jx := jq.keptA ah (NP.hp a2)
 have jy := jr.keptA ah a.apr.symm
 have jz := js.keptA ah a.apb.symm
 have j0 := c9.keptA ah cb.symm
 have j1 := fd.kept ah (xM fd a5)
 have j2 := fe.kept ah (xM fe a5)
 have j3 := fg.kept ah (xM fg a5)
 have j4 := fh.kept ah (xM fh a5)
 have j5 := fi.kept ah (xM fi a5)
 refine qe (zA (zB (zC ?_)))
 refine qM (.pointer (some ⟨p, 0, none⟩)) ?_
 refine qM (.pointer (some ⟨p, 0, none⟩)) ?_
 refine qD rfl (yW rfl) (qD rfl (zK (k := 1) rfl Tryz.underlying97 rfl nz95 rfl) (qD rfl (zL (u := R) ag95 rfl (fm.cell (o := 1) rfl)) (qM t ?_)))
 obtain ⟨da, db, dc, fp, cc⟩ := jx.sealed jw
 have j6 := jy.moreO db cc (NP.hr a2).symm
 have j7 := jz.moreO db cc (NP.hb a2).symm
 have j8 := j0.moreO db cc jt.symm
 have j9 := fm.moreO cc (NP.hp a2).symm
 refine qI rfl (xA (E := (eSl eInt)) (e := 56) [t] [g] Tryz.underlying95 sz56 zr56 (by exact xZ (⟨_, rfl, fp⟩)) (xN fp.one) rfl rfl rfl rfl (by decide) dc.pins (fun fq ka kb kc ai mg => ?_))
 have dd := dc.step kc ai
 have a6 := j6.below ai
 have fr := j7.below ai
 have ft := j8.below ai
 have fu := j9.below ai
 have fv := j1.below ai
 have fw := j2.below ai
 have fx := j3.below ai
 have fy := j4.below ai
 have fz := j5.below ai
 have kd : Own (eSl eInt) 56 da ka w.heap.size fq ([g]) := kb.weaken dc.size
 refine qI rfl (oA (E := (eSl eInt)) (v := R) (u := fq) 24 Tryz.underlying95 ap56 (by decide) rfl rfl dd.pins a6 kd.src (Nat.zero_le _) (fun aj mh de ke am cd => ?_))
 have f0 := dd.write ke am ((PIn.lr hpin))
 have kf := fr.keptA am a.arb.symm
 have kg := ft.keptA am fj.symm
 have a7 := fu.keptA am a.apr
 have f3 := fv.kept am (yR fv a6)
 have f4 := fw.kept am (yR fw a6)
 have f5 := fx.kept am (yR fx a6)
 have f6 := fy.kept am (yR fy a6)
 have f7 := fz.kept am (yR fz a6)
 have f8 : Apart B.ownBlock aj.ownBlock := zG a.arb.symm cd fr.lt
 have kh : Apart ac.ownBlock aj.ownBlock := zG fj.symm cd ft.lt
 have dg : Apart (some p) aj.ownBlock := zR a.apr cd fu.lt
 have ki : Lo w (inP p L R B mm) aj.ownBlock := lo_app (PIn.lr hpin) cd dd.size
 have mi : ((q.ns.map Nd.r) ++ ([g])).length = (q.ns.map Nd.r).length + 1 := List.length_append
 refine qD rfl (yW rfl) (qD rfl (zK (k := 1) rfl Tryz.underlying97 rfl nz95 rfl) (q0 rfl rfl rfl (yF (cs' := [ac, aj, B, (.map (some mm.f)), (.map (some mm.o)), (.map (some mm.c)), (.map (some mm.s)), (.map (some mm.n))]) (us := [aj]) (v := aj) sz95 rfl rfl (cells1 de.one) (xN de.one) f0.pins a7 (Nat.le_of_ble_eq_true rfl) rfl (fun mj f9 kj an mk => ?_))))
 have dh := f0.write kj an ((PIn.lp hpin))
 have kk := kf.keptA an a.apb.symm
 have kl := kg.keptA an cb.symm
 have km := de.keptA an dg.symm
 have kn := f3.kept an (xM f3 a7)
 have ko := f4.kept an (xM f4 a7)
 have kp := f5.kept an (xM f5 a7)
 have kq := f6.kept an (xM f6 a7)
 have kr := f7.kept an (xM f7 a7)
 refine qe (zA (zB (zC ?_)))
 refine qM (.pointer (some ⟨p, 0, none⟩)) ?_
 refine qM (.pointer (some ⟨p, 0, none⟩)) ?_
 refine qD rfl (yW rfl) (qD rfl (zK (k := 2) rfl Tryz.underlying97 rfl nz56 rfl) (qD rfl (zL (u := B) ag56 rfl (f9.cell (o := 2) rfl)) (qM (vJ bm) ?_)))
 refine qI rfl (xA (E := eInt) (e := 3) [(vJ bm)] [bm] Tryz.underlying56 sz3 zr3 (by exact xZ (by rfl)) (xN (by rfl)) rfl rfl rfl rfl (by decide) dh.pins (fun ga ks kt ku ak ml => ?_))
 have di := dh.step ku ak
 have a8 := kk.below ak
 have gb := kl.below ak
 have gc := km.below ak
 have gd := f9.below ak
 have ge := kn.below ak
 have gf := ko.below ak
 have gg := kp.below ak
 have gh := kq.below ak
 have gi := kr.below ak
 have kv : Own eInt 3 da ks w.heap.size ga ([bm]) := kt.weaken dh.size
 refine qI rfl (oA (E := eInt) (v := B) (u := ga) 8 Tryz.underlying56 ap3 (by decide) rfl rfl di.pins a8 kv.src (Nat.zero_le _) (fun aw mn dj kw ao ce => ?_))
 have gj := di.write kw ao ((PIn.lb hpin))
 have kx := gb.keptA ao fk.symm
 have ky := gc.keptA ao f8.symm
 have a9 := gd.keptA ao a.apb
 have gk := ge.kept ao (yR ge a8)
 have gl := gf.kept ao (yR gf a8)
 have gm := gg.kept ao (yR gg a8)
 have gn := gh.kept ao (yR gh a8)
 have gp := gi.kept ao (yR gi a8)
 have kz : Apart ac.ownBlock aw.ownBlock := zG fk.symm ce gb.lt
 have k0 : Apart aj.ownBlock aw.ownBlock := zG f8.symm ce gc.lt
 have gq : Apart (some p) aw.ownBlock := zR a.apb ce gd.lt
 have k1 : Lo w (inP p L R B mm) aw.ownBlock := lo_app (PIn.lb hpin) ce di.size
 have mo : (q.bs ++ ([bm])).length = q.bs.length + 1 := List.length_append
 refine qD rfl (yW rfl) (qD rfl (zK (k := 2) rfl Tryz.underlying97 rfl nz56 rfl) (q0 rfl rfl rfl (yF (cs' := [ac, aj, aw, (.map (some mm.f)), (.map (some mm.o)), (.map (some mm.c)), (.map (some mm.s)), (.map (some mm.n))]) (us := [aw]) (v := aw) sz56 rfl rfl (cells1 dj.one) (xN dj.one) gj.pins a9 (Nat.le_of_ble_eq_true rfl) rfl (fun mp k2 k3 ap mq => ?_))))
 have k4 := gj.write k3 ap ((PIn.lp hpin))
 have k5 := kx.keptA ap cb.symm
 have k6 := ky.keptA ap dg.symm
 have k7 := dj.keptA ap gq.symm
 have k8 := gk.kept ap (xM gk a9)
 have k9 := gl.kept ap (xM gl a9)
 have la := gm.kept ap (xM gm a9)
 have lc := gn.kept ap (xM gn a9)
 have ld := gp.kept ap (xM gp a9)
 refine qe (zA (zB (zC ?_)))
 refine qM (vJ (q.bs.length : Int)) ?_
 refine qM (vJ (q.bs.length : Int)) ?_
 refine qe (zA ?_)
 refine wp_ret (zO (zP (v := (vJ (q.bs.length : Int))) rfl rfl rfl ?_))
 have el : (q.ns.map Nd.l) ++ [d] = (addQ q xs ys bm).ns.map Nd.l := by rw [aq]; simp [addQ]
 have er : (q.ns.map Nd.r) ++ [g] = (addQ q xs ys bm).ns.map Nd.r := by rw [au]; simp [addQ]
 have ef : putE q.fl (b2s kxb) (q.bs.length : Int) = (addQ q xs ys bm).fl := by rw [hkey, aq, au, hok.ar.ok.len]; rfl
 have hol := k5
 have hor := k6
 have hff := k8
 rw [el] at hol
 rw [er] at hor
 rw [ef] at hff
 exact ⟨(q.bs.length : Int), ac, aj, aw, addQ q xs ys bm, da, rfl, ⟨k2, hol, hor, k7, hff, k9, la, lc, ld, cb, dg, gq, kh, kz, k0, a.df⟩, hadd.1, hadd.2.1, ⟨ju, ki, k1⟩, k4, by rw [hok.ar.ok.len]; exact hadd.2.2.1, by rw [hok.ar.ok.len]; exact hadd.2.2.2.1, hadd.2.2.2.2, rfl, Or.inr (by omega)⟩

end PO1
end Go.Proofs.YtakkjmlnmcemaaaGreatDoor

set_option maxRecDepth 20000
set_option maxHeartbeats 2000000
namespace Go.Proofs.YtakkjmlnmcemaaaGreatDoor
namespace PL1
open Go.RowKit Go.GL Go.Proofs
open B1 K1 PO1









theorem mk3 : (Tryz.prog.info? 3).map (fun i => (i.size, i.bytes, i.zero)) = some (1, 8, some (.int .i64 0)) := by kernel_rfl








theorem pl97 : (Tryz.prog.underlying 97).bind (placesD Tryz.prog) = some [(0, 1), (1, 1), (2, 1), (3, 1), (4, 1), (5, 1), (6, 1), (7, 1)] := by kernel_rfl










theorem newPool_spec {w : World} {G : Pin} (hP : Pins G w) :
  Calls Tryz.prog 39 [].toArray w fun e w' => ∃ (p : Nat) (mm : PM) (G' : Pin), e = .returned (.pointer (some ⟨p, 0, none⟩)) ∧ Pk 56 3 G' w' p (.slice none 0 0) (.slice none 0 0) (.slice none 0 0) mm ⟨[], [], [], [], [], [], []⟩ ∧ (∀ k, inP p (.slice none 0 0) (.slice none 0 0) (.slice none 0 0) mm k → w.heap.size ≤ k) ∧ Ext noS G w G' w' := by
 refine zV (n := 8) Tryz.func39 Tryz.ntmps39 rfl rfl ?_
 have o : Ext noS G w G w := Ext.refl hP
 refine zB (zC ?_)
 refine qM (.pointer none) ?_
 refine qe (zA (zB (zC ?_)))
 refine qI rfl (o_makeMap (fun k : ByteArray => Value.string k) (fun v : Int => Value.int .i64 v) o.pins (fun a w2 bo z al am => ?_))
 have q := o.step al am
 have an : w.heap.size ≤ a := by have := o.size; omega
 refine qI rfl (o_makeMap encP2 (fun v : Bool => Value.bool v) q.pins (fun b bp ao aa ap ab => ?_))
 have r := q.step ap ab
 have ac := z.below ab
 have aq : Apart (some b) (some a) := zJ (congrArg some ao) z.lt
 have ar : w.heap.size ≤ b := by have := q.size; omega
 refine qI rfl (o_makeMap (fun k : Int => Value.int .i64 k) (fun v : Int => Value.int .i64 v) r.pins (fun c bq ad ae au s => ?_))
 have t := r.step au s
 have af := ac.below s
 have ag := aa.below s
 have av : Apart (some c) (some a) := zJ (congrArg some ad) ac.lt
 have aw : Apart (some c) (some b) := zJ (congrArg some ad) aa.lt
 have ax : w.heap.size ≤ c := by have := r.size; omega
 refine qI rfl (o_makeMap encP2 (fun v : Int => Value.int .i64 v) t.pins (fun d br u ah ay l => ?_))
 have x := t.step ay l
 have ai := af.below l
 have aj := ag.below l
 have ak := ae.below l
 have az : Apart (some d) (some a) := zJ (congrArg some u) af.lt
 have a0 : Apart (some d) (some b) := zJ (congrArg some u) ag.lt
 have a1 : Apart (some d) (some c) := zJ (congrArg some u) ae.lt
 have a2 : w.heap.size ≤ d := by have := t.size; omega
 refine qI rfl (o_makeMap (fun k : Int => Value.int .i64 k) (fun v : Int => Value.int .i64 v) x.pins (fun f bs m a3 a4 i => ?_))
 have y := x.step a4 i
 have a5 := ai.below i
 have a6 := aj.below i
 have a7 := ak.below i
 have a8 := ah.below i
 have a9 : Apart (some f) (some a) := zJ (congrArg some m) ai.lt
 have ba : Apart (some f) (some b) := zJ (congrArg some m) aj.lt
 have bb : Apart (some f) (some c) := zJ (congrArg some m) ak.lt
 have bc : Apart (some f) (some d) := zJ (congrArg some m) ah.lt
 have bd : w.heap.size ≤ f := by have := x.size; omega
 refine qD rfl (yG [(.slice none 0 0), (.slice none 0 0), (.slice none 0 0), (.map none), (.map none), (.map none), (.map none), (.map none)] [(.slice none 0 0), (.slice none 0 0), (.slice none 0 0), (.map (some a)), (.map (some b)), (.map (some c)), (.map (some d)), (.map (some f))] [(3, (.map (some a)), [(.map (some a))]), (4, (.map (some b)), [(.map (some b))]), (5, (.map (some c)), [(.map (some c))]), (6, (.map (some d)), [(.map (some d))]), (7, (.map (some f)), [(.map (some f))])] Tryz.underlying97 zr97 rfl pl97 rfl (List.forall_mem_cons.2 ⟨rfl, (List.forall_mem_cons.2 ⟨rfl, (List.forall_mem_cons.2 ⟨rfl, (List.forall_mem_cons.2 ⟨rfl, (List.forall_mem_cons.2 ⟨rfl, (fun _ h => by cases h)⟩)⟩)⟩)⟩)⟩) rfl) (qI rfl (xG [(.slice none 0 0), (.slice none 0 0), (.slice none 0 0), (.map (some a)), (.map (some b)), (.map (some c)), (.map (some d)), (.map (some f))] (v := (.agg [(.slice none 0 0), (.slice none 0 0), (.slice none 0 0), (.map (some a)), (.map (some b)), (.map (some c)), (.map (some d)), (.map (some f))].toArray)) rfl rfl y.pins (fun j bt bu be bf g => ?_)))
 have bg := y.step bf g
 have bh := a5.below g
 have bi := a6.below g
 have bj := a7.below g
 have bk := a8.below g
 have bl := a3.below g
 have bm : w.heap.size ≤ j := by have := y.size; omega
 refine qM (.pointer (some ⟨j, 0, none⟩)) ?_
 refine qe (zA ?_)
 refine wp_ret (zO (zP (v := (.pointer (some ⟨j, 0, none⟩))) rfl rfl rfl ?_))
 have hdf : PDiff ⟨a, b, c, d, f⟩ := ⟨fun e => aq.symm _ rfl (congrArg some e.symm), fun e => av.symm _ rfl (congrArg some e.symm), fun e => az.symm _ rfl (congrArg some e.symm), fun e => a9.symm _ rfl (congrArg some e.symm), fun e => aw.symm _ rfl (congrArg some e.symm), fun e => a0.symm _ rfl (congrArg some e.symm), fun e => ba.symm _ rfl (congrArg some e.symm), fun e => a1.symm _ rfl (congrArg some e.symm), fun e => bb.symm _ rfl (congrArg some e.symm), fun e => bc.symm _ rfl (congrArg some e.symm)⟩
 have hfr : ∀ k, inP j (.slice none 0 0) (.slice none 0 0) (.slice none 0 0) ⟨a, b, c, d, f⟩ k → w.heap.size ≤ k := by rintro k (rfl | hk | hk | hk | rfl | rfl | rfl | rfl | rfl) <;> first | (cases hk; done) | exact bm | exact an | exact ar | exact ax | exact a2 | exact bd
 exact ⟨j, ⟨a, b, c, d, f⟩, _, rfl, ⟨be, (Own.nil _ _ _ _ _), (Own.nil _ _ _ _ _), (Own.nil _ _ _ _ _), bh, bi, bj, bk, bl, apart_none.symm, apart_none.symm, apart_none.symm, apart_none, apart_none, apart_none, hdf⟩, hfr, bg⟩

theorem renamed_spec {w : World} {G : Pin} {u v : Value} {xs ys : List Int} (hP : Pins G w) (hu : RSl eInt G u xs) (hv : RSl eInt G v ys) (hs : xs.length ≤ 1048576) (hb : ∀ i, i < xs.length → 0 ≤ xs.getD i 0 ∧ xs.getD i 0 < ys.length) :
  Calls Tryz.prog 96 [u, v].toArray w fun e w' => ∃ (u : Value) (G' : Pin), e = .returned u ∧ Own eInt 3 G' w' w.heap.size u (atL ys xs) ∧ Ext noS G w G' w' := by
 refine zV (n := 27) Tryz.func96 Tryz.ntmps96 rfl rfl ?_
 have d : Ext noS G w G w := Ext.refl hP
 have hm := hu.max
 have hal : (atL ys xs).length = xs.length := xF
 have hrl : (List.replicate xs.length (0 : Int)).length = xs.length := List.length_replicate
 refine zB (zC ?_)
 refine qM (.slice none 0 0) ?_
 refine qe (zA (zB (zC ?_)))
 refine qM u ?_
 refine qD rfl (zM Tryz.underlying56 (v := u) rfl hu) (qI rfl (o_make (E := eInt) 0 8 (vJ 0) Tryz.underlying56 mk3 (fun _ => rfl) rfl rfl d.pins (by omega) (by omega) (by omega) (fun a g h l m ab => ?_)))
 have o := d.step l m
 have q : Own eInt 3 G g w.heap.size a (List.replicate xs.length 0) := h.weaken d.size
 have ac : (List.replicate xs.length 0).length = xs.length := List.length_replicate ..
 refine qM a ?_
 refine qe (zA (zB (zB (zC ?_))))
 refine qM u ?_
 refine qD rfl (zM Tryz.underlying56 (v := u) rfl hu) (qM (vJ 0) ?_)
 refine qe (zA ?_)
 refine zX (yT (fun (k : Nat) (en : Nat → Value) (W : World) => ∃ (f : Nat → Value) (j : Nat) (os : List Int), en = (upd (upd (upd (upd (upd (upd f 1 v) 4 (.slice none 0 0)) 5 a) 11 u) 12 (vJ (xs.length : Int))) 13 (vJ (j : Int))) ∧ k = xs.length - j ∧ Ext noS G w G W ∧ (j ≤ xs.length) ∧ (os = (atL ys xs).take j ++ (List.replicate xs.length 0).drop j) ∧ (os.length = xs.length) ∧ (Own eInt 3 G W w.heap.size a (os))) _ ⟨_, 0, List.replicate xs.length 0, (pS 13 (pS 12 (pS 11 (pS 5 (pS 4 (pU 1)))))), rfl, o, Nat.zero_le _, rfl, hrl, q⟩ ?_)
 rintro ad _ ae ⟨f, j, os, rfl, af, b, hj, hr, hol, c⟩
 refine zB (zC ?_)
 refine qD rfl (yV rfl rfl) (qe (zA (zB ?_)))
 refine yA (p := ((j : Int) : Int) < (xs.length : Int)) rfl rfl (fun s => ?_) (fun s => ?_)
 have hbj := hb j (by omega)
 refine wp_skip (zA (zB ?_))
 refine zX (zB (zC ?_))
 refine qM (vJ (j : Int)) ?_
 refine qD rfl (zF Tryz.underlying56 sz3 (v := u) rfl rfl hu (by omega) (by omega)) (qD rfl (zE (r := xs.getD j 0) rfl ag3 (z := (j : Int)) rfl hu b.pins (by omega) (by omega)) (qM (vJ (j : Int)) ?_))
 refine qM (vJ (xs.getD j 0)) ?_
 refine qe (zA (zC ?_))
 refine qM a ?_
 refine qM (vJ (j : Int)) ?_
 refine qM v ?_
 refine qM (vJ (xs.getD j 0)) ?_
 refine qD rfl (zF Tryz.underlying56 sz3 (v := v) rfl rfl hv (by omega) (by omega)) (qD rfl (zE (r := ys.getD (xs.getD j 0).toNat 0) rfl ag3 (z := (xs.getD j 0)) rfl hv b.pins (by omega) (by omega)) (qD rfl (zF Tryz.underlying56 sz3 (v := a) rfl rfl c.read (by omega) (by omega)) (q0 rfl rfl rfl (o_set (E := eInt) (v := a) (u := (vJ (ys.getD (xs.getD j 0).toNat 0))) (z := (j : Int)) (ys.getD (xs.getD j 0).toNat 0) sz3 rfl rfl rfl rfl b.pins c (by omega) (by omega) (fun ag t x y ah => ?_)))))
 have aa := b.write x y ((yN c))
 refine qe (yB (zA (zC ?_)))
 refine qD rfl (yJ rfl rfl (by omega)) (qM (vJ ((j : Int) + 1)) ?_)
 refine qe (zZ (⟨_, ?_, _, rfl, _, j + 1, os.set j (ys.getD (xs.getD j 0).toNat 0), (pS 13 (pS 12 (pS 11 (pS 5 (pS 4 (pU 1)))))), rfl, aa, (by omega), (by rw [hr]; exact cur_set 0 (by omega) (by omega) (at_getD (by omega))), ((List.length_set ..).trans hol), t⟩))
 omega
 refine wp_exit (zW (yO (yI (zA (zB (zC ?_))))))
 refine qM a ?_
 refine qM a ?_
 refine qe (zA ?_)
 refine wp_ret (zO (zP (v := a) rfl rfl rfl ?_))
 rw [cur_end (by omega) (by omega)] at hr
 exact ⟨_, _, rfl, (by rw [← hr]; exact c), b⟩

theorem load_spec {w : World} {G : Pin} {p : Nat} {L R B : Value} {mm : PM} {q : PSt} (hP : Pins G w) (hpk : Pk 56 3 G w p L R B mm q) (hok : PoolOk q) {x : Value} {fs : List Nd} (hx : RSl eNode G x fs) (hf : FormOk fs) (hl : q.ns.length + fs.length ≤ 1048576) :
  Calls Tryz.prog 75 [(.pointer (some ⟨p, 0, none⟩)), (.agg [x].toArray)].toArray w fun e w' => ∃ (u : Value) (ats : List Int) (L' R' B' : Value) (q' : PSt) (G' : Pin), e = .returned u ∧ Pk 56 3 G' w' p L' R' B' mm q' ∧ PoolOk q' ∧ PX q q' ∧ PLo w p L R B mm L' R' B' ∧ Ext (inP p L R B mm) G w G' w' ∧ Own eInt 3 G' w' w.heap.size u ats ∧ NP p L' R' B' mm u.ownBlock ∧ LdOk fs q q' fs.length ats := by
 refine zV (n := 34) Tryz.func75 Tryz.ntmps75 rfl rfl ?_
 have ax : Ext (inP p L R B mm) G w G w := Ext.refl hP
 have hpin : PIn w (inP p L R B mm) p L R B mm := PIn.self
 have ee : (q.ns.map Nd.l).length = q.ns.length ∧ (q.ns.map Nd.r).length = q.ns.length := ⟨List.length_map .., List.length_map ..⟩
 have ef : q.bs.length = q.ns.length ∧ q.ns.length ≤ 1048576 := ⟨hok.ar.ok.len, hok.ar.ok.lim⟩
 refine zB (zC ?_)
 refine qI rfl (xG [x] (v := (.agg [x].toArray)) rfl rfl ax.pins (fun b3 w4 cp cq bk bl => ?_))
 have cr := ax.step bk bl
 have cs := hpk.below bl bk
 have ct := hpk.new (x := (some b3)) (fun k hk => by rw [(congrArg some cp)] at hk; cases hk; exact Nat.le_refl _)
 have cu : w.heap.size ≤ b3 := by have := ax.size; omega
 obtain ⟨ay, ak, al, bm, cv⟩ := cq.shut cr cu
 have bn := cs.more ak cv ct
 refine qM (.slice none 0 0) ?_
 refine qe (zA (zB (zC ?_)))
 refine qD rfl (zK (k := 0) rfl Tryz.underlying32 rfl nz30 rfl) (qD rfl (zL (u := x) ag30 rfl (al.pins _ _ _ (bm 0 _ rfl))) (qD rfl (zM Tryz.underlying30 (v := x) rfl hx) (qI rfl (o_make0 (E := eInt) Tryz.underlying56 mk3 rfl rfl al.pins (by omega) (by omega) (by omega) (fun am cw cx bo bp cy => ?_)))))
 have bq := al.step bo bp
 have cz := bn.below bp bo
 have c0 := bn.new (x := am.ownBlock) (fun k hk => by rw [cy] at hk; cases hk; exact Nat.le_refl _)
 have c1 : Own eInt 3 ay cw w.heap.size am ([]) := cx.weaken al.size
 refine qM am ?_
 refine qe (zA (zB (zB (zC ?_))))
 refine qD rfl (zK (k := 0) rfl Tryz.underlying32 rfl nz30 rfl) (qD rfl (zL (u := x) ag30 rfl (bq.pins _ _ _ (bm 0 _ rfl))) (qD rfl (zM Tryz.underlying30 (v := x) rfl hx) (qM (vJ 0) ?_)))
 refine qe (zA ?_)
 refine zX (yT (fun (k : Nat) (en : Nat → Value) (W : World) => ∃ (br : Nat → Value) (a : Nat) (at_ : Value) (ats : List Int) (t : Value) (y : Value) (aa : Value) (b : PSt) (o : Pin), en = (upd (upd (upd (upd (upd (upd br 0 (.pointer (some ⟨p, 0, none⟩))) 4 (.slice none 0 0)) 5 at_) 13 x) 14 (vJ (fs.length : Int))) 15 (vJ (a : Int))) ∧ k = fs.length - a ∧ Ext (inP p L R B mm) G w o W ∧ Pin.le ay o ∧ (a ≤ fs.length) ∧ (LdOk fs q b a ats) ∧ (Own eInt 3 o W w.heap.size at_ (ats)) ∧ (Pk 56 3 o W p t y aa mm b) ∧ (PIn w ((inP p L R B mm)) p t y aa mm) ∧ (PoolOk b) ∧ (PX q b) ∧ (NP p t y aa mm at_.ownBlock)) _ ⟨_, 0, am, [], L, R, B, q, ay, (pS 15 (pS 14 (pS 13 (pS 5 (pS 4 (pU 0)))))), rfl, bq, Pin.le_refl _, Nat.zero_le _, LdOk.start, c1, cz, hpin, hok, (PX.refl _), c0⟩ ?_)
 rintro eh _ ei ⟨br, a, at_, ats, t, y, aa, b, o, rfl, ej, ab, an, hk, hld, az, a0, a1, ac, a2, a3⟩
 have ek := a2.len
 have el : (b.ns.map Nd.l).length = b.ns.length ∧ (b.ns.map Nd.r).length = b.ns.length := ⟨List.length_map .., List.length_map ..⟩
 have em : b.bs.length = b.ns.length ∧ b.ns.length ≤ 1048576 := ⟨ac.ar.ok.len, ac.ar.ok.lim⟩
 have hal := hld.len
 have hah := hld.hi
 have hfl := hf.len
 refine zB (zC ?_)
 refine qD rfl (yV rfl rfl) (qe (zA (zB ?_)))
 refine yA (p := ((a : Int) : Int) < (fs.length : Int)) rfl rfl (fun c2 => ?_) (fun c2 => ?_)
 have oo := xC hf.opts (show a < fs.length by omega)
 have hfe := hf.lens a (by omega)
 refine wp_skip (zA (zB ?_))
 refine zX (zB (zC ?_))
 refine qD rfl (zF Tryz.underlying30 sz65 (v := x) rfl rfl hx (by omega) (by omega)) ?_
 obtain ⟨ad, ae, a4, a5, c3⟩ := jB (hx.at (z := (a : Int)) (by omega) (by omega)) (j := a) rfl
 have eo := a4.max
 have ep := a5.max
 refine qD rfl (c3 ag65 sz65 rfl (Pins.of_le ab.pins (Pin.le_trans ak an))) (qI rfl (yM [(.slice none 0 0), (.slice none 0 0)] zr65 rfl ab.pins (fun a6 eq bt c4 bu a7 => ?_)))
 have bv := ab.step bu a7
 have c5 := az.below a7
 have c6 := a0.below a7 bu
 have bw : Apart (some a6) at_.ownBlock := zI (congrArg some bt) az.lt
 have bx := a0.new (x := (some a6)) (fun k hk => by rw [(congrArg some bt)] at hk; cases hk; exact Nat.le_refl _)
 have bz : w.heap.size ≤ a6 := by have := ab.size; omega
 refine q0 rfl rfl rfl (yF (cs' := [ad, ae]) (us := [ad, ae]) (v := (.agg [ad, ae].toArray)) sz65 rfl rfl rfl (yK a4.one a5.one) bv.pins c4 (Nat.le_of_ble_eq_true rfl) rfl (fun ao c7 b0 a8 er => ?_))
 have c8 := bv.write b0 a8 ((zS bz))
 have c9 := c5.keptA a8 bw.symm
 have da := c6.kept a8 b0 bx
 obtain ⟨af, ag, b1, b2, b4⟩ := c7.shut c8 bz
 have db := c9.moreA ag b4 bw.symm
 have dc := da.more ag b4 bx
 refine qe (zA ?_)
 refine yZ (S := fun wz => Pins af wz) (last := 14) (by kernel_rfl) rfl ?_
 have ap : Below ao.heap.size ao ao.drew := (Below.refl _ _).drew
 have b5 := b1.pins.below ap
 have c := b1.step b5 ap
 have a9 := db.below ap
 have b6 := dc.below ap b5
 refine dM 0 at_ c.pins ?_
 refine dM 1 (.pointer (some ⟨p, 0, none⟩)) c.pins ?_
 refine dT (i := 2) rfl rfl (by kernel_rfl) (fun _ _ => zK (k := 0) rfl Tryz.underlying65 rfl nz56 rfl) c.pins ?_
 refine dT (i := 3) rfl rfl (by kernel_rfl) (fun _ hS => zL (u := ad) ag56 rfl (hS _ _ _ (b2 0 _ rfl))) c.pins ?_
 refine dM 4 at_ c.pins ?_
 refine dT (i := 6) rfl rfl (by kernel_rfl) (fun _ _ => zK (k := 1) rfl Tryz.underlying65 rfl nz56 rfl) c.pins ?_
 refine dT (i := 7) rfl rfl (by kernel_rfl) (fun _ hS => zL (u := ae) ag56 rfl (hS _ _ _ (b2 1 _ rfl))) c.pins ?_
 refine dM 8 at_ c.pins ?_
 refine dO (i := 5) (zU (i := 5) rfl rfl rfl (zD rfl _) (zH (vs := [ad, at_]) Tryz.func96 nm96 rfl rfl rfl ?_))
 refine Calls.mono (renamed_spec (Gadd.pins c.pins at_) ((a4.mono (Pin.le_trans (Pin.le_trans ak an) ag)).mono (Gadd.le _ _ _)) a9.read (by omega) (fun i hi => by have h7 := oo.1 _ (yC (d := (0 : Int)) hi); omega)) ?_
 rintro _ b7 ⟨ba, es, rfl, de, b8⟩
 refine ⟨_, rfl, ?_⟩
 have ah := deep_back c.pins b8
 have bb := de.anti flat_int (Pin.le_trans (Gadd.le af ao.drew at_) b8.le)
 have ai := c.step ah.pins ah.below
 have bc := a9.below ah.below
 have b9 := b6.below ah.below ah.pins
 have df := zT bb.lt a9.lt
 have dg := b6.new (x := ba.ownBlock) (fun k hk => (bb.lt k hk).1)
 have ca : Own eInt 3 af b7 w.heap.size ba (atL ats ((fs.getD a default).l)) := bb.weaken c.size
 have et : (atL ats ((fs.getD a default).l)).length = ((fs.getD a default).l).length := xF
 refine ⟨fun _ => ai.pins, ?_⟩
 refine dO (i := 9) (zU (i := 9) rfl rfl rfl (zD rfl _) (zH (vs := [ae, at_]) Tryz.func96 nm96 rfl rfl rfl ?_))
 refine Calls.mono (renamed_spec (Gadd.pins ai.pins at_) ((a5.mono (Pin.le_trans (Pin.le_trans ak an) ag)).mono (Gadd.le _ _ _)) bc.read (by omega) (fun i hi => by have h7 := oo.2 _ (yC (d := (0 : Int)) hi); omega)) ?_
 rintro _ dh ⟨bd, eu, rfl, di, cb⟩
 refine ⟨_, rfl, ?_⟩
 have s := deep_back ai.pins cb
 have aq := di.anti flat_int (Pin.le_trans (Gadd.le af b7 at_) cb.le)
 have cc := ai.step s.pins s.below
 have dj := bc.below s.below
 have dk := ca.below s.below
 have dl := b9.below s.below s.pins
 have dm := zT aq.lt bc.lt
 have dn := zT aq.lt ca.lt
 have dp := b9.new (x := bd.ownBlock) (fun k hk => (aq.lt k hk).1)
 have dq : Own eInt 3 af dh w.heap.size bd (atL ats ((fs.getD a default).r)) := aq.weaken ai.size
 have ev : (atL ats ((fs.getD a default).r)).length = ((fs.getD a default).r).length := xF
 refine ⟨fun _ => cc.pins, ?_⟩
 obtain ⟨ew, f, dr, ds, be⟩ := dk.sealed cc
 have dt := dj.moreO f be df.symm
 have du := dq.moreO f be dn
 have dv := dl.moreO f be dg
 obtain ⟨ex, g, bf, dw, cd⟩ := du.sealed dr
 have ce := dt.moreO g cd dm.symm
 have dx := dv.moreO g cd dp
 refine dO (i := 10) (zU (i := 10) rfl rfl rfl (zD rfl _) (zH (vs := [(.pointer (some ⟨p, 0, none⟩)), ba, bd]) Tryz.func93 nm93 rfl rfl rfl ?_))
 refine Calls.mono (node_spec bf.pins dx ac (ds.mono g) dw (by omega) ⟨by rw [xF]; omega, by rw [xF]; omega⟩ (hld.opt oo.1) (hld.opt oo.2)) ?_
 rintro _ ey ⟨aj, dy, dz, d0, h, cf, rfl, d1, au, bg, cg, m, d2, d3, d4, ez⟩
 refine ⟨_, rfl, ?_⟩
 have av := bf.trans m a1
 have d5 := ce.extS m a3
 have ch := NP.call a3 cg (jH ce)
 have d6 := PIn.call a1 cg bf.size
 have e0 := bg.len
 have e1 : (h.ns.map Nd.l).length = h.ns.length ∧ (h.ns.map Nd.r).length = h.ns.length := ⟨List.length_map .., List.length_map ..⟩
 have e2 : h.bs.length = h.ns.length ∧ h.ns.length ≤ 1048576 := ⟨au.ar.ok.len, au.ar.ok.lim⟩
 refine ⟨fun _ => (Pins.of_le av.pins (Pin.le_trans (Pin.le_trans f g) m.le)), ?_⟩
 refine dO (i := 11) (zU (i := 11) rfl rfl rfl (zD rfl _) (xA (E := eInt) (e := 3) [(vJ aj)] [aj] Tryz.underlying56 sz3 zr3 (by exact xZ (by rfl)) (xN (by rfl)) rfl rfl rfl rfl (by decide) av.pins (fun ci d7 d8 cj bh e3 => ?_)))
 have aw := av.step cj bh
 have ck := d5.below bh
 have cl := d1.below bh cj
 have d9 : Own eInt 3 cf d7 w.heap.size ci ([aj]) := d8.weaken av.size
 refine ⟨fun _ => (Pins.of_le aw.pins (Pin.le_trans (Pin.le_trans f g) m.le)), ?_⟩
 refine dO (i := 12) (zU (i := 12) rfl rfl rfl (zD rfl _) (oA (E := eInt) (v := at_) (u := ci) 8 Tryz.underlying56 ap3 (by decide) rfl rfl aw.pins ck d9.src (aw.size) (fun cm e4 ea cn co eb => ?_)))
 have bi := aw.write cn co ((yN ck))
 have ec := cl.kept co cn ch
 have ed := np_app ch cl eb
 have e5 : (ats ++ ([aj])).length = ats.length + 1 := List.length_append
 refine ⟨fun _ => (Pins.of_le bi.pins (Pin.le_trans (Pin.le_trans f g) m.le)), ?_⟩
 refine dM 13 cm (Pins.of_le bi.pins (Pin.le_trans (Pin.le_trans f g) m.le)) ?_
 refine yQ (by kernel_rfl) (yB (zA (zC ?_)))
 refine qD rfl (yJ rfl rfl (by omega)) (qM (vJ ((a : Int) + 1)) ?_)
 refine qe (zZ (⟨_, ?_, _, rfl, _, a + 1, cm, ats ++ ([aj]), dy, dz, d0, h, cf, (pS 15 (pS 14 (pS 13 (pS 5 (pS 4 (pU 0)))))), rfl, bi, (Pin.le_trans (Pin.le_trans (Pin.le_trans (Pin.le_trans an ag) f) g) m.le), (by omega), (hld.step hf (by omega) ac au bg d2 d3 d4), ea, ec, d6, au, (PX.trans a2 bg), ed⟩))
 omega
 refine wp_exit (zW (yO (yI (zA (zB (zC ?_))))))
 refine qM at_ ?_
 refine qM at_ ?_
 refine qe (zA ?_)
 refine wp_ret (zO (zP (v := at_) rfl rfl rfl ?_))
 have hkf : a = fs.length := by omega
 rw [hkf] at hld
 exact ⟨at_, ats, t, y, aa, b, o, rfl, a0, ac, a2, PIn.lo a1 rfl, ab, az, a3, hld⟩

theorem root_spec {w : World} {G : Pin} {p : Nat} {L R B : Value} {mm : PM} {q : PSt} (hP : Pins G w) (hpk : Pk 56 3 G w p L R B mm q) (hok : PoolOk q) {x : Value} {fs : List Nd} (hx : RSl eNode G x fs) (hf : FormOk fs) (hl : q.ns.length + fs.length ≤ 1048576) (hf1 : 1 ≤ fs.length) :
  Calls Tryz.prog 69 [(.pointer (some ⟨p, 0, none⟩)), (.agg [x].toArray)].toArray w fun e w' => ∃ (z : Int) (L' R' B' : Value) (q' : PSt) (G' : Pin), e = .returned (vJ z) ∧ Pk 56 3 G' w' p L' R' B' mm q' ∧ PoolOk q' ∧ PX q q' ∧ PLo w p L R B mm L' R' B' ∧ Ext (inP p L R B mm) G w G' w' ∧ PlaceOk q' z ∧ pd q' z = gOf fs ∧ q'.ns.length ≤ q.ns.length + fs.length := by
 refine zV (n := 15) Tryz.func69 Tryz.ntmps69 rfl rfl ?_
 have d : Ext (inP p L R B mm) G w G w := Ext.refl hP
 have hpin : PIn w (inP p L R B mm) p L R B mm := PIn.self
 have av : (q.ns.map Nd.l).length = q.ns.length ∧ (q.ns.map Nd.r).length = q.ns.length := ⟨List.length_map .., List.length_map ..⟩
 have aw : q.bs.length = q.ns.length ∧ q.ns.length ≤ 1048576 := ⟨hok.ar.ok.len, hok.ar.ok.lim⟩
 have hfl := hf.len
 refine zB (zC ?_)
 refine qI rfl (xG [x] (v := (.agg [x].toArray)) rfl rfl d.pins (fun i w4 aa ab m o => ?_))
 have ac := d.step m o
 have ad := hpk.below o m
 have ae := hpk.new (x := (some i)) (fun k hk => by rw [(congrArg some aa)] at hk; cases hk; exact Nat.le_refl _)
 have af : w.heap.size ≤ i := by have := d.size; omega
 obtain ⟨ay, s, c, ag, ah⟩ := ab.shut ac af
 have ai := ad.more s ah ae
 refine qM (vJ 0) ?_
 refine qe (zA (zB (zC ?_)))
 refine qM (.pointer (some ⟨p, 0, none⟩)) ?_
 refine qD rfl (yH (cs := [x]) ag32 sz32 rfl (fun j u hj => c.pins _ _ _ (ag _ _ (by simpa using hj)))) (qI rfl (zH (vs := [(.pointer (some ⟨p, 0, none⟩)), (.agg [x].toArray)]) Tryz.func75 nm75 rfl rfl rfl ?_))
 refine Calls.mono (load_spec c.pins ai hok (hx.mono s) hf hl) ?_
 rintro _ az ⟨b, ats, aj, ak, al, a, am, rfl, an, f, t, ao, ap, aq, a0, g⟩
 refine ⟨_, rfl, ?_⟩
 have y := c.trans ap hpin
 have au := PIn.call hpin ao c.size
 have a1 := t.len
 have a2 : (a.ns.map Nd.l).length = a.ns.length ∧ (a.ns.map Nd.r).length = a.ns.length := ⟨List.length_map .., List.length_map ..⟩
 have a3 : a.bs.length = a.ns.length ∧ a.ns.length ≤ 1048576 := ⟨f.ar.ok.len, f.ar.ok.lim⟩
 have h := aq.weaken c.size
 have a4 := g.len
 refine qM b ?_
 refine qe (zA (zB (zC ?_)))
 refine qM b ?_
 refine qM b ?_
 refine qD rfl (zM Tryz.underlying56 (v := b) rfl h.read) (qD rfl (qE rfl rfl (by omega)) (qD rfl (zF Tryz.underlying56 sz3 (v := b) rfl rfl h.read (by omega) (by omega)) (qD rfl (zE (r := ats.getD ((ats.length : Int) - 1).toNat 0) rfl ag3 (z := ((ats.length : Int) - 1)) rfl h.read (Gadd.pins y.pins b) (by omega) (by omega)) (qM (vJ (ats.getD ((ats.length : Int) - 1).toNat 0)) ?_))))
 refine qe (zA ?_)
 refine wp_ret (zO (zP (v := (vJ (ats.getD ((ats.length : Int) - 1).toNat 0))) rfl rfl rfl ?_))
 have hrt := g.root hf1
 rw [show fs.length - 1 = ((ats.length : Int) - 1).toNat by omega] at hrt
 exact ⟨_, aj, ak, al, a, am, rfl, an, f, t, PIn.lo au rfl, y, hrt.1, hrt.2, g.hi⟩

def GeP (m : Nat) (p : Nat) (L R B : Value) (mm : PM) : Prop := ∀ {w : World} {G : Pin} {q : PSt} {a b : Int} (_ : Pins G w) (_ : Pk 56 3 G w p L R B mm q) (_ : PoolOk q) (_ : PlaceOk q a) (_ : PlaceOk q b), a.toNat + b.toNat < m →
  Calls Tryz.prog 97 [(.pointer (some ⟨p, 0, none⟩)), (.int .i64 a), (.int .i64 b)].toArray w fun e w' => ∃ (q' : PSt) (G' : Pin), e = .returned (.bool (geB q.ns a b)) ∧ Pk 56 3 G' w' p L R B mm q' ∧ PoolOk q' ∧ PX q q' ∧ (q'.ns = q.ns ∧ q'.bs = q.bs) ∧ Ext (inO (some mm.o)) G w G' w'

theorem ge_step {p : Nat} {L R B : Value} {mm : PM} {m : Nat} {w : World} {G : Pin} {q : PSt} {a b : Int} (hP : Pins G w) (hpk : Pk 56 3 G w p L R B mm q) (hok : PoolOk q) (ha : PlaceOk q a) (hb : PlaceOk q b) (ih : GeP m p L R B mm) (hm : a.toNat + b.toNat < m + 1) :
  Calls Tryz.prog 97 [(.pointer (some ⟨p, 0, none⟩)), (vJ a), (vJ b)].toArray w fun e w' => ∃ (q' : PSt) (G' : Pin), e = .returned (.bool (geB q.ns a b)) ∧ Pk 56 3 G' w' p L R B mm q' ∧ PoolOk q' ∧ PX q q' ∧ (q'.ns = q.ns ∧ q'.bs = q.bs) ∧ Ext (inO (some mm.o)) G w G' w' := by
 refine zV (n := 74) Tryz.func97 Tryz.ntmps97 rfl rfl ?_
 have a3 : Ext (inO (some mm.o)) G w G w := Ext.refl hP
 have hpin : PIn w (inP p L R B mm) p L R B mm := PIn.self
 have dj : (q.ns.map Nd.l).length = q.ns.length ∧ (q.ns.map Nd.r).length = q.ns.length := ⟨List.length_map .., List.length_map ..⟩
 have dk : q.bs.length = q.ns.length ∧ q.ns.length ≤ 1048576 := ⟨hok.ar.ok.len, hok.ar.ok.lim⟩
 have dl := ha.1
 have dm := ha.2
 have dn := hb.1
 have dp := hb.2
 refine zB (zC ?_)
 refine qM (.bool false) ?_
 refine qe (zA (zB (zB (zC ?_))))
 refine qM (vJ a) ?_
 refine qM (vJ b) ?_
 refine qD rfl (xV rfl rfl) (qe (zA ?_))
 refine yA (p := (a : Int) = b) rfl rfl (fun h3 => ?_) (fun h3 => ?_)
 refine zB (zC ?_)
 refine qM (.bool true) ?_
 refine qe (zA ?_)
 exact wp_ret (zO (zP (v := (.bool true)) rfl rfl rfl (⟨q, _, congrArg (fun z => Ending.returned (Value.bool z)) (by rw [h3]; exact geB_refl.symm), hpk, hok, (PX.refl _), ⟨rfl, rfl⟩, a3⟩)))
 refine wp_skip (zA (zB (zC ?_)))
 refine qM (vJ a) ?_
 refine qM (vJ b) ?_
 refine qD rfl (r_buildA (m := 1) [(vJ 0), (vJ 0)] [(vJ a), (vJ b)] [(0, (vJ a), [(vJ a)]), (1, (vJ b), [(vJ b)])] Tryz.underlying133 zr133 rfl sz3 rfl (List.forall_mem_cons.2 ⟨rfl, (List.forall_mem_cons.2 ⟨rfl, (fun _ h => by cases h)⟩)⟩) rfl) (qI rfl (yM [(vJ 0), (vJ 0)] zr133 rfl a3.pins (fun b4 w5 cz c0 b7 b8 => ?_)))
 have b9 := a3.step b7 b8
 have c1 := hpk.below b8 b7
 have ca := hpk.new (x := (some b4)) (fun k hk => by rw [(congrArg some cz)] at hk; cases hk; exact Nat.le_refl _)
 have cb : w.heap.size ≤ b4 := by have := a3.size; omega
 refine q0 rfl rfl rfl (yF (cs' := [(vJ a), (vJ b)]) (us := [(vJ a), (vJ b)]) (v := (.agg [(vJ a), (vJ b)].toArray)) sz133 rfl rfl rfl (yK (by rfl) (by rfl)) b9.pins c0 (Nat.le_of_ble_eq_true rfl) rfl (fun bh c2 cc cd dr => ?_))
 have c3 := b9.write cc cd ((zS cb))
 have c4 := c1.kept cd cc ca
 obtain ⟨bi, c5, ce, a5, c6⟩ := c2.shut c3 cb
 have c7 := c4.more c5 c6 ca
 refine qe (zA (zB (zB ?_)))
 refine yZ (S := fun wz => BxR wz p [L, R, B, (.map (some mm.f)), (.map (some mm.o)), (.map (some mm.c)), (.map (some mm.s)), (.map (some mm.n))] ∧ Pins bi wz) (last := 11) (by kernel_rfl) rfl ?_
 have bj : Below bh.heap.size bh bh.drew := (Below.refl _ _).drew
 have cf := ce.pins.below bj
 have ac := ce.step cf bj
 have aa := c7.below bj cf
 refine dT (i := 0) rfl rfl (by kernel_rfl) (fun _ _ => zQ (v := (.pointer (some ⟨p, 0, none⟩))) rfl) ⟨aa.bx.reads, ac.pins⟩ ?_
 refine dT (i := 1) rfl rfl (by kernel_rfl) (fun _ _ => yW rfl) ⟨aa.bx.reads, ac.pins⟩ ?_
 refine dT (i := 2) rfl rfl (by kernel_rfl) (fun _ _ => zK (k := 4) rfl Tryz.underlying97 rfl nz92 rfl) ⟨aa.bx.reads, ac.pins⟩ ?_
 refine dT (i := 3) rfl rfl (by kernel_rfl) (fun _ hS => zL (u := (.map (some mm.o))) ag92 rfl (hS.1 4 _ rfl)) ⟨aa.bx.reads, ac.pins⟩ ?_
 refine dT (i := 4) rfl rfl (by kernel_rfl) (fun _ hS => yH (cs := [(vJ a), (vJ b)]) ag133 sz133 rfl (fun j u hj => hS.2 _ _ _ (a5 _ _ (by simpa using hj)))) ⟨aa.bx.reads, ac.pins⟩ ?_
 refine dO (i := 5) (zU (i := 5) rfl rfl rfl (zD rfl _) (EO.run (run_lookv_bool (k := ((a, b) : Int × Int)) (key_pair Tryz.underlying133 Tryz.underlying3 sz3) Tryz.underlying92 zr4 aa.fo rfl rfl) ?_))
 refine ⟨fun _ => ⟨aa.bx.reads, ac.pins⟩, ?_⟩
 refine dT (i := 6) rfl rfl (by kernel_rfl) (fun _ _ => zQ (v := (.tuple #[(.bool ((Go.GL.look q.om ((a, b) : Int × Int)).getD false)), (.bool ((Go.GL.look q.om ((a, b) : Int × Int)).isSome))])) rfl) ⟨aa.bx.reads, ac.pins⟩ ?_
 refine dT (i := 7) rfl rfl (by kernel_rfl) (fun _ _ => yE (v := (.bool ((Go.GL.look q.om ((a, b) : Int × Int)).getD false))) rfl rfl) ⟨aa.bx.reads, ac.pins⟩ ?_
 refine dT (i := 8) rfl rfl (by kernel_rfl) (fun _ _ => yE (v := (.bool ((Go.GL.look q.om ((a, b) : Int × Int)).isSome))) rfl rfl) ⟨aa.bx.reads, ac.pins⟩ ?_
 refine dT (i := 9) rfl rfl (by kernel_rfl) (fun _ _ => xW (v := (.bool ((Go.GL.look q.om ((a, b) : Int × Int)).getD false))) rfl) ⟨aa.bx.reads, ac.pins⟩ ?_
 refine dT (i := 10) rfl rfl (by kernel_rfl) (fun _ _ => xW (v := (.bool ((Go.GL.look q.om ((a, b) : Int × Int)).isSome))) rfl) ⟨aa.bx.reads, ac.pins⟩ ?_
 refine yQ (by kernel_rfl) (zA (zB (zC ?_)))
 refine qM (.bool ((Go.GL.look q.om ((a, b) : Int × Int)).isSome)) ?_
 refine qe (zA ?_)
 refine c_if rfl rfl (fun cg => ?_) (fun cg => ?_)
 refine zB (zC ?_)
 refine qM (.bool ((Go.GL.look q.om ((a, b) : Int × Int)).getD false)) ?_
 refine qM (.bool ((Go.GL.look q.om ((a, b) : Int × Int)).getD false)) ?_
 refine qe (zA ?_)
 refine wp_ret (zO (zP (v := (.bool ((Go.GL.look q.om ((a, b) : Int × Int)).getD false))) rfl rfl rfl ?_))
 obtain ⟨z, hz⟩ := Option.isSome_iff_exists.1 cg
 exact ⟨q, _, congrArg (fun z => Ending.returned (Value.bool z)) (by rw [hz]; exact (hok.ord _ _ _ hz).2.2), aa, hok, (PX.refl _), ⟨rfl, rfl⟩, ac⟩
 refine wp_skip (zA (zB (zC ?_)))
 refine qM (.bool true) ?_
 refine qe (zA (zB (zB (zC ?_))))
 refine qM (.pointer (some ⟨p, 0, none⟩)) ?_
 refine qD rfl (yW rfl) (qD rfl (zK (k := 1) rfl Tryz.underlying97 rfl nz95 rfl) (qD rfl (zL (u := R) ag95 rfl (aa.bx.cell (o := 1) rfl)) (qM (vJ a) ?_)))
 refine qD rfl (zF Tryz.underlying95 sz56 (v := R) rfl rfl aa.rr.read (by omega) (by omega)) ?_
 obtain ⟨bk, av, c8⟩ := nm_sl (aa.rr.at (z := a) (by omega) (by omega)) (j := (a).toNat) rfl
 rw [jS] at av
 have ds := av.max
 refine qD rfl (c8 ag56 rfl (Gadd.pins ac.pins R)) (qD rfl (zM Tryz.underlying56 (v := bk) rfl av) (qM (vJ 0) ?_))
 refine qe (zA ?_)
 refine zX ?_
 have a6 : (q.ns.getD (a).toNat default).r = (q.ns.getD (a).toNat default).r := rfl
 refine yT (fun (k : Nat) (en : Nat → Value) (W : World) => ∃ (aw : Nat → Value) (i : Nat) (g : PSt) (GLr : Pin), en = (upd (upd (upd (upd (upd (upd (upd (upd (upd aw 0 (.pointer (some ⟨p, 0, none⟩))) 1 (vJ a)) 2 (vJ b)) 6 (.bool false)) 7 (.pointer (some ⟨b4, 0, none⟩))) 10 (.bool true)) 38 bk) 39 (vJ (((q.ns.getD (a).toNat default).r).length : Int))) 40 (vJ (i : Int))) ∧ k = (q.ns.getD (a).toNat default).r.length - i ∧ Ext (inO (some mm.o)) G w GLr W ∧ Pin.le bi GLr ∧ (i ≤ (q.ns.getD (a).toNat default).r.length) ∧ (∀ x, x < i → geB q.ns b ((q.ns.getD (a).toNat default).r.getD x 0) = false) ∧ (Pk 56 3 GLr W p L R B mm g) ∧ (PoolOk g) ∧ (PX q g) ∧ (g.ns = q.ns ∧ g.bs = q.bs)) _ ⟨_, 0, q, bi, (pS 40 (pS 39 (pS 38 (pS 10 (pS 7 (pS 6 (pS 2 (pS 1 (pU 0))))))))), rfl, ac, Pin.le_refl _, Nat.zero_le _, (fun q hq => absurd hq (Nat.not_lt_zero q)), aa, hok, (PX.refl _), ⟨rfl, rfl⟩⟩ ?_
 rintro dt _ du ⟨aw, i, g, GLr, rfl, dv, ax, ay, hji, hpr, az, a7, a0, t⟩
 have dw := a0.len
 have dx : (g.ns.map Nd.l).length = g.ns.length ∧ (g.ns.map Nd.r).length = g.ns.length := ⟨List.length_map .., List.length_map ..⟩
 have dy : g.bs.length = g.ns.length ∧ g.ns.length ≤ 1048576 := ⟨a7.ar.ok.len, a7.ar.ok.lim⟩
 have hlnr := congrArg List.length a6
 refine zB (zC ?_)
 refine qD rfl (yV rfl rfl) (qe (zA (zB ?_)))
 refine yA (p := ((i : Int) : Int) < (((q.ns.getD (a).toNat default).r).length : Int)) rfl rfl (fun c9 => ?_) (fun c9 => ?_)
 have hki := (xC hok.ar.opts (show (a).toNat < q.ns.length by omega)).2 _ (yC (d := (0 : Int)) (show i < (q.ns.getD (a).toNat default).r.length by omega))
 rw [← a6] at hki
 refine wp_skip (zA (zB ?_))
 refine zX (zB (zC ?_))
 refine qD rfl (zF Tryz.underlying56 sz3 (v := bk) rfl rfl av (by omega) (by omega)) (qD rfl (zE (r := ((q.ns.getD (a).toNat default).r).getD i 0) rfl ag3 (z := (i : Int)) rfl av (Pins.of_le ax.pins ay) (by omega) (by omega)) (qM (vJ (((q.ns.getD (a).toNat default).r).getD i 0)) ?_))
 refine qe (zA (zB (zC ?_)))
 refine qM (.pointer (some ⟨p, 0, none⟩)) ?_
 refine qM (vJ b) ?_
 refine qM (vJ (((q.ns.getD (a).toNat default).r).getD i 0)) ?_
 refine qI rfl (zH (vs := [(.pointer (some ⟨p, 0, none⟩)), (vJ b), (vJ (((q.ns.getD (a).toNat default).r).getD i 0))]) Tryz.func97 nm97 rfl rfl rfl ?_)
 refine Calls.mono (ih ax.pins az a7 ⟨by omega, by omega⟩ ⟨by omega, by omega⟩ (by omega)) ?_
 rintro _ bl ⟨ad, ch, rfl, ci, a8, bm, aq, bn⟩
 refine ⟨_, rfl, ?_⟩
 have bo := ax.trans bn (fun i hi => xK i hi)
 have dz := bm.len
 have d0 : (ad.ns.map Nd.l).length = ad.ns.length ∧ (ad.ns.map Nd.r).length = ad.ns.length := ⟨List.length_map .., List.length_map ..⟩
 have d1 : ad.bs.length = ad.ns.length ∧ ad.ns.length ≤ 1048576 := ⟨a8.ar.ok.len, a8.ar.ok.lim⟩
 have d2 := congrArg List.length aq.1
 refine qe (zA ?_)
 refine c_if rfl rfl (fun bp => ?_) (fun bp => ?_)
 refine zB (zC ?_)
 refine qM (.bool false) ?_
 refine qe (zA ?_)
 refine wp_exit (s_blkO rfl (zW (yO (yI (zA (zB (zB (zC ?_))))))))
 refine qM (.bool false) ?_
 refine qe (zA ?_)
 refine qA rfl rfl (wp_skip (zA (zB ?_)))
 refine yZ (S := fun wz => BxR wz p [L, R, B, (.map (some mm.f)), (.map (some mm.o)), (.map (some mm.c)), (.map (some mm.s)), (.map (some mm.n))] ∧ Pins ch wz) (last := 6) (by kernel_rfl) rfl ?_
 have bq : Below bl.heap.size bl bl.drew := (Below.refl _ _).drew
 have cj := bo.pins.below bq
 have aj := bo.step cj bq
 have ak := ci.below bq cj
 refine dT (i := 0) rfl rfl (by kernel_rfl) (fun _ _ => zQ (v := (.pointer (some ⟨p, 0, none⟩))) rfl) ⟨ak.bx.reads, aj.pins⟩ ?_
 refine dT (i := 1) rfl rfl (by kernel_rfl) (fun _ _ => yW rfl) ⟨ak.bx.reads, aj.pins⟩ ?_
 refine dT (i := 2) rfl rfl (by kernel_rfl) (fun _ _ => zK (k := 4) rfl Tryz.underlying97 rfl nz92 rfl) ⟨ak.bx.reads, aj.pins⟩ ?_
 refine dT (i := 3) rfl rfl (by kernel_rfl) (fun _ hS => zL (u := (.map (some mm.o))) ag92 rfl (hS.1 4 _ rfl)) ⟨ak.bx.reads, aj.pins⟩ ?_
 refine dT (i := 4) rfl rfl (by kernel_rfl) (fun _ hS => yH (cs := [(vJ a), (vJ b)]) ag133 sz133 rfl (fun j u hj => (Pins.of_le hS.2 (Pin.le_trans ay bn.le)) _ _ _ (a5 _ _ (by simpa using hj)))) ⟨ak.bx.reads, aj.pins⟩ ?_
 refine dT (i := 5) rfl rfl (by kernel_rfl) (fun _ _ => zQ (v := (.bool false)) rfl) ⟨ak.bx.reads, aj.pins⟩ ?_
 refine dO (i := 6) (qB (i := 6) rfl rfl rfl (zD rfl _) (qT (val := (fun v : Bool => Value.bool v)) (k := ((a, b) : Int × Int)) (v := false) (key_pair Tryz.underlying133 Tryz.underlying3 sz3) Tryz.underlying92 rfl rfl rfl aj.pins ak.fo (fun d3 da ck cl d4 => ?_)))
 have db := aj.trans (Ext.one ck cl) (fun i hi => xK i hi)
 have cm := ak.setO (Ext.one ck cl) da
 have hgv : geB q.ns a b = false := geB_no_right hok.ar.opts ha (i := i) (by omega) (by rw [← a6, ← xR t]; exact bp)
 have a9 := PoolOk.setO a8 (ha.same (zN t aq)) (hb.same (zN t aq)) (setO_ok (zN t aq) hgv)
 obtain ⟨af, br⟩ : ∃ q, q = ({ ad with om := putE ad.om ((a, b) : Int × Int) false } : PSt) := ⟨_, rfl⟩
 rw [← br] at cm a9
 have hq83n : af.ns = ad.ns ∧ af.bs = ad.bs := by rw [br]; exact ⟨rfl, rfl⟩
 have hq83x : PX ad af := by rw [br]; exact ⟨Nat.le_refl _, fun _ _ => rfl, fun _ h => h⟩
 have d5 : (af.ns.map Nd.l).length = af.ns.length ∧ (af.ns.map Nd.r).length = af.ns.length := ⟨List.length_map .., List.length_map ..⟩
 have d6 : af.bs.length = af.ns.length ∧ af.ns.length ≤ 1048576 := ⟨a9.ar.ok.len, a9.ar.ok.lim⟩
 have d7 := hq83x.len
 refine ⟨fun h => absurd rfl h, ?_⟩
 refine yQ (by kernel_rfl) (zA (zB (zC ?_)))
 refine qM (.bool false) ?_
 refine qM (.bool false) ?_
 refine qe (zA ?_)
 exact wp_ret (zO (zP (v := (.bool false)) rfl rfl rfl (⟨af, _, congrArg (fun z => Ending.returned (Value.bool z)) (hgv.symm), cm, a9, (PX.trans (PX.trans a0 bm) hq83x), (zN (zN t aq) hq83n), db⟩)))
 refine wp_skip (yB (zA (zC ?_)))
 refine qD rfl (yJ rfl rfl (by omega)) (qM (vJ ((i : Int) + 1)) ?_)
 refine qe (zZ (⟨_, ?_, _, rfl, _, i + 1, ad, ch, (pS 40 (pS 39 (pS 38 (pS 10 (pS 7 (pS 6 (pS 2 (pS 1 (pU 0))))))))), rfl, bo, (Pin.le_trans ay bn.le), (by omega), (fun x h2 => if h3 : x = i then h3 ▸ (by rw [← a6, ← xR t]; exact bp) else hpr x (by omega)), ci, a8, (PX.trans a0 bm), (zN t aq)⟩))
 omega
 refine wp_exit (zW (yO (yI (zA (zB (zB (zC ?_)))))))
 refine qM (.bool true) ?_
 refine qe (zA ?_)
 refine xY rfl rfl (zB (zC ?_))
 refine qM (.pointer (some ⟨p, 0, none⟩)) ?_
 refine qD rfl (yW rfl) (qD rfl (zK (k := 0) rfl Tryz.underlying97 rfl nz95 rfl) (qD rfl (zL (u := L) ag95 rfl (az.bx.cell (o := 0) rfl)) (qM (vJ b) ?_)))
 refine qD rfl (zF Tryz.underlying95 sz56 (v := L) rfl rfl az.ol.read (by omega) (by omega)) ?_
 obtain ⟨bt, a1, dd⟩ := nm_sl (az.ol.at (z := b) (by omega) (by omega)) (j := (b).toNat) rfl
 rw [jT] at a1
 have d8 := a1.max
 refine qD rfl (dd ag56 rfl (Gadd.pins ax.pins L)) (qD rfl (zM Tryz.underlying56 (v := bt) rfl a1) (qM (vJ 0) ?_))
 refine qe (zA ?_)
 refine zX ?_
 have ba : (g.ns.getD (b).toNat default).l = (q.ns.getD (b).toNat default).l := by rw [t.1]
 refine yT (fun (k : Nat) (en : Nat → Value) (W : World) => ∃ (aw : Nat → Value) (i2 : Nat) (y : PSt) (GLl : Pin), en = (upd (upd (upd (upd (upd (upd (upd (upd aw 0 (.pointer (some ⟨p, 0, none⟩))) 1 (vJ a)) 6 (.bool false)) 7 (.pointer (some ⟨b4, 0, none⟩))) 10 (.bool true)) 56 bt) 57 (vJ (((g.ns.getD (b).toNat default).l).length : Int))) 58 (vJ (i2 : Int))) ∧ k = (q.ns.getD (b).toNat default).l.length - i2 ∧ Ext (inO (some mm.o)) G w GLl W ∧ Pin.le GLr GLl ∧ (i2 ≤ (q.ns.getD (b).toNat default).l.length) ∧ (∀ x, x < i2 → geB q.ns ((q.ns.getD (b).toNat default).l.getD x 0) a = false) ∧ (Pk 56 3 GLl W p L R B mm y) ∧ (PoolOk y) ∧ (PX g y) ∧ (y.ns = g.ns ∧ y.bs = g.bs)) _ ⟨_, 0, g, GLr, (pS 58 (pS 57 (pS 56 (pS 10 (pS 7 (pS 6 (pS 1 (pU 0)))))))), rfl, ax, Pin.le_refl _, Nat.zero_le _, (fun q hq => absurd hq (Nat.not_lt_zero q)), az, a7, (PX.refl _), ⟨rfl, rfl⟩⟩ ?_
 rintro d9 _ bu ⟨aw, i2, y, GLl, rfl, ea, a2, bb, eb, hpl, cn, bc, bd, ag⟩
 have ec := bd.len
 have ed : (y.ns.map Nd.l).length = y.ns.length ∧ (y.ns.map Nd.r).length = y.ns.length := ⟨List.length_map .., List.length_map ..⟩
 have ee : y.bs.length = y.ns.length ∧ y.ns.length ≤ 1048576 := ⟨bc.ar.ok.len, bc.ar.ok.lim⟩
 have hlnl := congrArg List.length ba
 refine zB (zC ?_)
 refine qD rfl (yV rfl rfl) (qe (zA (zB ?_)))
 refine yA (p := ((i2 : Int) : Int) < (((g.ns.getD (b).toNat default).l).length : Int)) rfl rfl (fun de => ?_) (fun de => ?_)
 have hki := (xC hok.ar.opts (show (b).toNat < q.ns.length by omega)).1 _ (yC (d := (0 : Int)) (show i2 < (q.ns.getD (b).toNat default).l.length by omega))
 rw [← ba] at hki
 refine wp_skip (zA (zB ?_))
 refine zX (zB (zC ?_))
 refine qD rfl (zF Tryz.underlying56 sz3 (v := bt) rfl rfl a1 (by omega) (by omega)) (qD rfl (zE (r := ((g.ns.getD (b).toNat default).l).getD i2 0) rfl ag3 (z := (i2 : Int)) rfl a1 (Pins.of_le a2.pins bb) (by omega) (by omega)) (qM (vJ (((g.ns.getD (b).toNat default).l).getD i2 0)) ?_))
 refine qe (zA (zB (zC ?_)))
 refine qM (.pointer (some ⟨p, 0, none⟩)) ?_
 refine qM (vJ (((g.ns.getD (b).toNat default).l).getD i2 0)) ?_
 refine qM (vJ a) ?_
 refine qI rfl (zH (vs := [(.pointer (some ⟨p, 0, none⟩)), (vJ (((g.ns.getD (b).toNat default).l).getD i2 0)), (vJ a)]) Tryz.func97 nm97 rfl rfl rfl ?_)
 refine Calls.mono (ih a2.pins cn bc ⟨by omega, by omega⟩ ⟨by omega, by omega⟩ (by omega)) ?_
 rintro _ bv ⟨ae, co, rfl, cp, be, bw, au, bz⟩
 refine ⟨_, rfl, ?_⟩
 have b0 := a2.trans bz (fun i hi => xK i hi)
 have ef := bw.len
 have eg : (ae.ns.map Nd.l).length = ae.ns.length ∧ (ae.ns.map Nd.r).length = ae.ns.length := ⟨List.length_map .., List.length_map ..⟩
 have eh : ae.bs.length = ae.ns.length ∧ ae.ns.length ≤ 1048576 := ⟨be.ar.ok.len, be.ar.ok.lim⟩
 have ei := congrArg List.length au.1
 refine qe (zA ?_)
 refine c_if rfl rfl (fun b1 => ?_) (fun b1 => ?_)
 refine zB (zC ?_)
 refine qM (.bool false) ?_
 refine qe (zA ?_)
 refine wp_exit (s_blkO rfl (zW (yO (yI (zA (zB ?_))))))
 refine yZ (S := fun wz => BxR wz p [L, R, B, (.map (some mm.f)), (.map (some mm.o)), (.map (some mm.c)), (.map (some mm.s)), (.map (some mm.n))] ∧ Pins co wz) (last := 6) (by kernel_rfl) rfl ?_
 have b2 : Below bv.heap.size bv bv.drew := (Below.refl _ _).drew
 have cq := b0.pins.below b2
 have al := b0.step cq b2
 have am := cp.below b2 cq
 refine dT (i := 0) rfl rfl (by kernel_rfl) (fun _ _ => zQ (v := (.pointer (some ⟨p, 0, none⟩))) rfl) ⟨am.bx.reads, al.pins⟩ ?_
 refine dT (i := 1) rfl rfl (by kernel_rfl) (fun _ _ => yW rfl) ⟨am.bx.reads, al.pins⟩ ?_
 refine dT (i := 2) rfl rfl (by kernel_rfl) (fun _ _ => zK (k := 4) rfl Tryz.underlying97 rfl nz92 rfl) ⟨am.bx.reads, al.pins⟩ ?_
 refine dT (i := 3) rfl rfl (by kernel_rfl) (fun _ hS => zL (u := (.map (some mm.o))) ag92 rfl (hS.1 4 _ rfl)) ⟨am.bx.reads, al.pins⟩ ?_
 refine dT (i := 4) rfl rfl (by kernel_rfl) (fun _ hS => yH (cs := [(vJ a), (vJ b)]) ag133 sz133 rfl (fun j u hj => (Pins.of_le hS.2 (Pin.le_trans (Pin.le_trans ay bb) bz.le)) _ _ _ (a5 _ _ (by simpa using hj)))) ⟨am.bx.reads, al.pins⟩ ?_
 refine dT (i := 5) rfl rfl (by kernel_rfl) (fun _ _ => zQ (v := (.bool false)) rfl) ⟨am.bx.reads, al.pins⟩ ?_
 refine dO (i := 6) (qB (i := 6) rfl rfl rfl (zD rfl _) (qT (val := (fun v : Bool => Value.bool v)) (k := ((a, b) : Int × Int)) (v := false) (key_pair Tryz.underlying133 Tryz.underlying3 sz3) Tryz.underlying92 rfl rfl rfl al.pins am.fo (fun ej df cr ct ek => ?_)))
 have dg := al.trans (Ext.one cr ct) (fun i hi => xK i hi)
 have cu := am.setO (Ext.one cr ct) df
 have hgv : geB q.ns a b = false := geB_no_left hok.ar.opts hb (i := i2) (by omega) (by rw [← ba, ← xR (zN t ag)]; exact b1)
 have bf := PoolOk.setO be (ha.same (zN (zN t ag) au)) (hb.same (zN (zN t ag) au)) (setO_ok (zN (zN t ag) au) hgv)
 obtain ⟨ah, b3⟩ : ∃ q, q = ({ ae with om := putE ae.om ((a, b) : Int × Int) false } : PSt) := ⟨_, rfl⟩
 rw [← b3] at cu bf
 have hq135n : ah.ns = ae.ns ∧ ah.bs = ae.bs := by rw [b3]; exact ⟨rfl, rfl⟩
 have hq135x : PX ae ah := by rw [b3]; exact ⟨Nat.le_refl _, fun _ _ => rfl, fun _ h => h⟩
 have el : (ah.ns.map Nd.l).length = ah.ns.length ∧ (ah.ns.map Nd.r).length = ah.ns.length := ⟨List.length_map .., List.length_map ..⟩
 have em : ah.bs.length = ah.ns.length ∧ ah.ns.length ≤ 1048576 := ⟨bf.ar.ok.len, bf.ar.ok.lim⟩
 have eo := hq135x.len
 refine ⟨fun h => absurd rfl h, ?_⟩
 refine yQ (by kernel_rfl) (zA (zB (zC ?_)))
 refine qM (.bool false) ?_
 refine qM (.bool false) ?_
 refine qe (zA ?_)
 exact wp_ret (zO (zP (v := (.bool false)) rfl rfl rfl (⟨ah, _, congrArg (fun z => Ending.returned (Value.bool z)) (hgv.symm), cu, bf, (PX.trans (PX.trans (PX.trans a0 bd) bw) hq135x), (zN (zN (zN t ag) au) hq135n), dg⟩)))
 refine wp_skip (yB (zA (zC ?_)))
 refine qD rfl (yJ rfl rfl (by omega)) (qM (vJ ((i2 : Int) + 1)) ?_)
 refine qe (zZ (⟨_, ?_, _, rfl, _, i2 + 1, ae, co, (pS 58 (pS 57 (pS 56 (pS 10 (pS 7 (pS 6 (pS 1 (pU 0)))))))), rfl, b0, (Pin.le_trans bb bz.le), (by omega), (fun x h2 => if h3 : x = i2 then h3 ▸ (by rw [← ba, ← xR (zN t ag)]; exact b1) else hpl x (by omega)), cp, be, (PX.trans bd bw), (zN ag au)⟩))
 omega
 refine wp_exit (zW (yO (yI (zA (zB ?_)))))
 refine yZ (S := fun wz => BxR wz p [L, R, B, (.map (some mm.f)), (.map (some mm.o)), (.map (some mm.c)), (.map (some mm.s)), (.map (some mm.n))] ∧ Pins GLl wz) (last := 6) (by kernel_rfl) rfl ?_
 have b5 : Below bu.heap.size bu bu.drew := (Below.refl _ _).drew
 have cv := a2.pins.below b5
 have an := a2.step cv b5
 have ao := cn.below b5 cv
 refine dT (i := 0) rfl rfl (by kernel_rfl) (fun _ _ => zQ (v := (.pointer (some ⟨p, 0, none⟩))) rfl) ⟨ao.bx.reads, an.pins⟩ ?_
 refine dT (i := 1) rfl rfl (by kernel_rfl) (fun _ _ => yW rfl) ⟨ao.bx.reads, an.pins⟩ ?_
 refine dT (i := 2) rfl rfl (by kernel_rfl) (fun _ _ => zK (k := 4) rfl Tryz.underlying97 rfl nz92 rfl) ⟨ao.bx.reads, an.pins⟩ ?_
 refine dT (i := 3) rfl rfl (by kernel_rfl) (fun _ hS => zL (u := (.map (some mm.o))) ag92 rfl (hS.1 4 _ rfl)) ⟨ao.bx.reads, an.pins⟩ ?_
 refine dT (i := 4) rfl rfl (by kernel_rfl) (fun _ hS => yH (cs := [(vJ a), (vJ b)]) ag133 sz133 rfl (fun j u hj => (Pins.of_le hS.2 (Pin.le_trans ay bb)) _ _ _ (a5 _ _ (by simpa using hj)))) ⟨ao.bx.reads, an.pins⟩ ?_
 refine dT (i := 5) rfl rfl (by kernel_rfl) (fun _ _ => zQ (v := (.bool true)) rfl) ⟨ao.bx.reads, an.pins⟩ ?_
 refine dO (i := 6) (qB (i := 6) rfl rfl rfl (zD rfl _) (qT (val := (fun v : Bool => Value.bool v)) (k := ((a, b) : Int × Int)) (v := true) (key_pair Tryz.underlying133 Tryz.underlying3 sz3) Tryz.underlying92 rfl rfl rfl an.pins ao.fo (fun ep dh cw cx eq => ?_)))
 have di := an.trans (Ext.one cw cx) (fun i hi => xK i hi)
 have cy := ao.setO (Ext.one cw cx) dh
 have hgv : geB q.ns a b = true := geB_yes hok.ar.opts ha hb (fun i hi => hpr i (by omega)) (fun i hi => hpl i (by omega))
 have bg := PoolOk.setO bc (ha.same (zN t ag)) (hb.same (zN t ag)) (setO_ok (zN t ag) hgv)
 obtain ⟨ai, b6⟩ : ∃ q, q = ({ y with om := putE y.om ((a, b) : Int × Int) true } : PSt) := ⟨_, rfl⟩
 rw [← b6] at cy bg
 have hq152n : ai.ns = y.ns ∧ ai.bs = y.bs := by rw [b6]; exact ⟨rfl, rfl⟩
 have hq152x : PX y ai := by rw [b6]; exact ⟨Nat.le_refl _, fun _ _ => rfl, fun _ h => h⟩
 have er : (ai.ns.map Nd.l).length = ai.ns.length ∧ (ai.ns.map Nd.r).length = ai.ns.length := ⟨List.length_map .., List.length_map ..⟩
 have es : ai.bs.length = ai.ns.length ∧ ai.ns.length ≤ 1048576 := ⟨bg.ar.ok.len, bg.ar.ok.lim⟩
 have et := hq152x.len
 refine ⟨fun h => absurd rfl h, ?_⟩
 refine yQ (by kernel_rfl) (zA (zB (zC ?_)))
 refine qM (.bool true) ?_
 refine qM (.bool true) ?_
 refine qe (zA ?_)
 exact wp_ret (zO (zP (v := (.bool true)) rfl rfl rfl (⟨ai, _, congrArg (fun z => Ending.returned (Value.bool z)) (hgv.symm), cy, bg, (PX.trans (PX.trans a0 bd) hq152x), (zN (zN t ag) hq152n), di⟩)))

theorem geP_all {p : Nat} {L R B : Value} {mm : PM} : ∀ m, GeP m p L R B mm
 | 0 => fun _ _ _ _ _ h => absurd h (Nat.not_lt_zero _)
 | m + 1 => fun hP hpk hok ha hb hm => ge_step hP hpk hok ha hb (geP_all m) hm
theorem ge_spec {p : Nat} {L R B : Value} {mm : PM} {w : World} {G : Pin} {q : PSt} {a b : Int} (hP : Pins G w) (hpk : Pk 56 3 G w p L R B mm q) (hok : PoolOk q) (ha : PlaceOk q a) (hb : PlaceOk q b) :
  Calls Tryz.prog 97 [(.pointer (some ⟨p, 0, none⟩)), (.int .i64 a), (.int .i64 b)].toArray w fun e w' => ∃ (q' : PSt) (G' : Pin), e = .returned (.bool (geB q.ns a b)) ∧ Pk 56 3 G' w' p L R B mm q' ∧ PoolOk q' ∧ PX q q' ∧ (q'.ns = q.ns ∧ q'.bs = q.bs) ∧ Ext (inO (some mm.o)) G w G' w' :=
 geP_all _ hP hpk hok ha hb (Nat.lt_succ_self _)

end PL1
end Go.Proofs.YtakkjmlnmcemaaaGreatDoor

set_option maxRecDepth 20000
set_option maxHeartbeats 2000000
namespace Go.Proofs.YtakkjmlnmcemaaaGreatDoor
namespace NU1
open Go.RowKit Go.GL Go.Proofs
open B1 C1 D1 E1 K1 PO1 PL1


theorem qL {w : World} {G : Pin} {t z : Int} (hP : Pins G w) :
  Calls Tryz.prog 34 [(.agg [(vJ t), (vJ z)].toArray)].toArray w fun e w' => ∃ G', e = .returned (.bool (decP (GoodD t z))) ∧ Ext noS G w G' w' := by
 refine zV (n := 32) Tryz.func34 Tryz.ntmps34 rfl rfl ?_
 have d : Ext noS G w G w := Ext.refl hP
 refine zB (zC ?_)
 refine qI rfl (xG [(vJ t), (vJ z)] (v := (.agg [(vJ t), (vJ z)].toArray)) rfl rfl d.pins (fun j w2 ad l m o => ?_))
 have q := d.step m o
 have r : w.heap.size ≤ j := by have := d.size; omega
 obtain ⟨G9, af, a, b, ag⟩ := l.shut q r
 refine qM (.bool false) ?_
 refine qe (zA (zB (zC ?_)))
 refine qD rfl (zK (k := 0) rfl Tryz.underlying27 rfl nz3 rfl) (qD rfl (zL (u := (vJ t)) ag3 rfl (a.pins _ _ _ (b 0 _ rfl))) (qD rfl (r_geq rfl rfl) (qM (.bool (decide (((-1000000) : Int) ≤ t))) ?_)))
 refine qbd (p := ((-1000000) : Int) ≤ t) (t := 6) rfl (fun s => ?_) (fun s => ?_)
 refine qN (zK (k := 0) rfl Tryz.underlying27 rfl nz3 rfl) ?_
 refine qN (zL (u := (vJ t)) ag3 rfl (a.pins _ _ _ (b 0 _ rfl))) ?_
 refine qN (r_leq rfl rfl) ?_
 refine qD rfl (yD (v := (.bool (decide ((t : Int) ≤ 1000000)))) rfl rfl) (qM (.bool (decide ((t : Int) ≤ 1000000))) ?_)
 refine qbd (p := (t : Int) ≤ 1000000) (t := 11) rfl (fun x => ?_) (fun x => ?_)
 refine qN (zK (k := 1) rfl Tryz.underlying27 rfl nz3 rfl) ?_
 refine qN (zL (u := (vJ z)) ag3 rfl (a.pins _ _ _ (b 1 _ rfl))) ?_
 refine qN (r_geq rfl rfl) ?_
 refine qD rfl (yD (v := (.bool (decide ((0 : Int) ≤ z)))) rfl rfl) (qM (.bool (decide ((0 : Int) ≤ z))) ?_)
 refine qbd (p := (0 : Int) ≤ z) (t := 16) rfl (fun y => ?_) (fun y => ?_)
 refine qN (zK (k := 1) rfl Tryz.underlying27 rfl nz3 rfl) ?_
 refine qN (zL (u := (vJ z)) ag3 rfl (a.pins _ _ _ (b 1 _ rfl))) ?_
 refine qN (r_leq rfl rfl) ?_
 refine qD rfl (yD (v := (.bool (decide ((z : Int) ≤ 16)))) rfl rfl) (qM (.bool (decide ((z : Int) ≤ 16))) ?_)
 refine qbd (p := (z : Int) ≤ 16) (t := 21) rfl (fun aa => ?_) (fun aa => ?_)
 refine qN (zK (k := 1) rfl Tryz.underlying27 rfl nz3 rfl) ?_
 refine qN (zL (u := (vJ z)) ag3 rfl (a.pins _ _ _ (b 1 _ rfl))) ?_
 refine qN (xV rfl rfl) ?_
 refine qN (zQ (v := (.bool (decide ((z : Int) = 0)))) rfl) ?_
 refine qbd (p := (z : Int) = 0) (t := 25) rfl (fun ab => ?_) (fun ab => ?_)
 refine qW ?_
 refine qW ?_
 refine qW ?_
 refine qW ?_
 refine qN (yD (v := (.bool true)) rfl rfl) ?_
 refine qD rfl (yD (v := (.bool true)) rfl rfl) (qM (.bool true) ?_)
 refine qe (zA ?_)
 exact wp_ret (zO (zP (v := (.bool true)) rfl rfl rfl (⟨_, congrArg (fun z => Ending.returned (Value.bool z)) (decP_true.2 ⟨by omega, by omega, by omega⟩).symm, a⟩)))
 refine qN (zK (k := 0) rfl Tryz.underlying27 rfl nz3 rfl) ?_
 refine qN (zL (u := (vJ t)) ag3 rfl (a.pins _ _ _ (b 0 _ rfl))) ?_
 refine qN (r_rem2 rfl rfl) ?_
 refine qN (jG rfl rfl) ?_
 refine qN (zY (v := (.bool (decide ((t.tmod 2 : Int) ≠ 0)))) rfl rfl) ?_
 refine qD rfl (yD (v := (.bool (decide ((t.tmod 2 : Int) ≠ 0)))) rfl rfl) (qM (.bool (decide ((t.tmod 2 : Int) ≠ 0))) ?_)
 refine qe (zA ?_)
 exact wp_ret (zO (zP (v := (.bool (decide ((t.tmod 2 : Int) ≠ 0)))) rfl rfl rfl (⟨_, congrArg (fun z => Ending.returned (Value.bool z)) (decP_dec.symm.trans (decP_iff ⟨fun h => ⟨by omega, by omega, by omega⟩, fun g => by have c := g.odd; omega⟩)), a⟩)))
 refine qW ?_
 refine qW ?_
 refine qW ?_
 refine qW ?_
 refine qX ?_
 refine qX ?_
 refine qX ?_
 refine qX ?_
 refine qW ?_
 refine qD rfl (zY (v := (.bool false)) rfl rfl) (qM (.bool false) ?_)
 refine qe (zA ?_)
 exact wp_ret (zO (zP (v := (.bool false)) rfl rfl rfl (⟨_, congrArg (fun z => Ending.returned (Value.bool z)) (decP_false.2 (fun g => by have f := g.top; have i := g.pow; have c := g.odd; omega)).symm, a⟩)))
 refine qW ?_
 refine qW ?_
 refine qW ?_
 refine qD rfl (zY (v := (.bool false)) rfl rfl) (qM (.bool false) ?_)
 refine qW ?_
 refine qW ?_
 refine qW ?_
 refine qW ?_
 refine qX ?_
 refine qX ?_
 refine qX ?_
 refine qX ?_
 refine qW ?_
 refine qD rfl (zY (v := (.bool false)) rfl rfl) (qM (.bool false) ?_)
 refine qe (zA ?_)
 exact wp_ret (zO (zP (v := (.bool false)) rfl rfl rfl (⟨_, congrArg (fun z => Ending.returned (Value.bool z)) (decP_false.2 (fun g => by have f := g.top; have i := g.pow; have c := g.odd; omega)).symm, a⟩)))
 refine qW ?_
 refine qW ?_
 refine qW ?_
 refine qD rfl (zY (v := (.bool false)) rfl rfl) (qM (.bool false) ?_)
 refine qW ?_
 refine qW ?_
 refine qW ?_
 refine qD rfl (zY (v := (.bool false)) rfl rfl) (qM (.bool false) ?_)
 refine qW ?_
 refine qW ?_
 refine qW ?_
 refine qW ?_
 refine qX ?_
 refine qX ?_
 refine qX ?_
 refine qX ?_
 refine qW ?_
 refine qD rfl (zY (v := (.bool false)) rfl rfl) (qM (.bool false) ?_)
 refine qe (zA ?_)
 exact wp_ret (zO (zP (v := (.bool false)) rfl rfl rfl (⟨_, congrArg (fun z => Ending.returned (Value.bool z)) (decP_false.2 (fun g => by have f := g.top; have i := g.pow; have c := g.odd; omega)).symm, a⟩)))
 refine qW ?_
 refine qW ?_
 refine qW ?_
 refine qD rfl (zY (v := (.bool false)) rfl rfl) (qM (.bool false) ?_)
 refine qW ?_
 refine qW ?_
 refine qW ?_
 refine qD rfl (zY (v := (.bool false)) rfl rfl) (qM (.bool false) ?_)
 refine qW ?_
 refine qW ?_
 refine qW ?_
 refine qD rfl (zY (v := (.bool false)) rfl rfl) (qM (.bool false) ?_)
 refine qW ?_
 refine qW ?_
 refine qW ?_
 refine qW ?_
 refine qX ?_
 refine qX ?_
 refine qX ?_
 refine qX ?_
 refine qW ?_
 refine qD rfl (zY (v := (.bool false)) rfl rfl) (qM (.bool false) ?_)
 refine qe (zA ?_)
 exact wp_ret (zO (zP (v := (.bool false)) rfl rfl rfl (⟨_, congrArg (fun z => Ending.returned (Value.bool z)) (decP_false.2 (fun g => by have f := g.top; have i := g.pow; have c := g.odd; omega)).symm, a⟩)))

end NU1
end Go.Proofs.YtakkjmlnmcemaaaGreatDoor

set_option maxRecDepth 20000
set_option maxHeartbeats 2000000
namespace Go.Proofs.YtakkjmlnmcemaaaGreatDoor
namespace NU2
open Go.RowKit Go.GL Go.Proofs
open B1 C1 D1 E1 K1 PO1 PL1 NU1


theorem pl27 : (Tryz.prog.underlying 27).bind (placesD Tryz.prog) = some [(0, 1), (1, 1)] := by kernel_rfl


theorem lowest_spec {w : World} {G : Pin} {t : Int} {p : Nat} (hP : Pins G w) (hb : -1000000000000000 ≤ t ∧ t ≤ 1000000000000000) (hp : p ≤ 64) :
  Calls Tryz.prog 92 [(vJ t), (vJ (p : Int))].toArray w fun e w' => ∃ G', e = .returned (.tuple #[(.agg [.int .i64 (lowR (decP (GoodD (lowD p t).1 (((lowD p t).2 : Nat) : Int))) (lowD p t).1), .int .i64 (lowR (decP (GoodD (lowD p t).1 (((lowD p t).2 : Nat) : Int))) (((lowD p t).2 : Nat) : Int))].toArray), .bool (decP (GoodD (lowD p t).1 (((lowD p t).2 : Nat) : Int)))]) ∧ Ext noS G w G' w' := by
 refine zV (n := 26) Tryz.func92 Tryz.ntmps92 rfl rfl ?_
 have r : Ext noS G w G w := Ext.refl hP
 refine zB (zC ?_)
 refine qI rfl (yM [(vJ 0), (vJ 0)] zr27 rfl r.pins (fun f w2 b4 aw ax ay => ?_))
 have az := r.step ax ay
 have q : w.heap.size ≤ f := by have := r.size; omega
 refine qM (.bool false) ?_
 refine qe (zA (zB ?_))
 refine zX (yT (fun (k : Nat) (en : Nat → Value) (W : World) => ∃ (ad : Nat → Value) (a : Int) (zp : Int) (g : Pin), en = (upd (upd (upd (upd ad 0 (vJ a)) 1 (vJ zp)) 4 (.pointer (some ⟨f, 0, none⟩))) 5 (.bool false)) ∧ k = zp.toNat ∧ Ext noS G w g W ∧ Pin.le G g ∧ (lowD p t = lowD zp.toNat a) ∧ (0 ≤ zp ∧ zp ≤ 64) ∧ (-1000000000000000 ≤ a ∧ a ≤ 1000000000000000) ∧ (Bx g W f [(vJ 0), (vJ 0)])) _ ⟨_, t, (p : Int), G, (pS 5 (pS 4 (pS 1 (pU 0)))), rfl, az, Pin.le_refl _, (by rw [Int.toNat_natCast]), (by omega), hb, aw⟩ ?_)
 rintro k9 _ b6 ⟨ad, a, zp, g, rfl, b7, b, a0, hr, hz, hab, i⟩
 refine zB (zB (zC ?_))
 refine qM (vJ zp) ?_
 refine qD rfl (r_gtr rfl rfl) (qM (.bool (decide ((0 : Int) < zp))) ?_)
 refine qbd (p := (0 : Int) < zp) (t := 9) rfl (fun l => ?_) (fun l => ?_)
 refine qN (zQ (v := (vJ a)) rfl) ?_
 refine qN (r_rem2 rfl rfl) ?_
 refine qN (xV rfl rfl) ?_
 refine qD rfl (yD (v := (.bool (decide ((a.tmod 2 : Int) = 0)))) rfl rfl) (qe (zA ?_))
 refine yA (p := (a.tmod 2 : Int) = 0) rfl rfl (fun c => ?_) (fun c => ?_)
 refine wp_skip (zA (zX (zB (zC ?_))))
 refine qM (vJ a) ?_
 refine qD rfl (r_quo2 rfl rfl ((tmod2 _).1 c) (by omega)) (qM (vJ (a / 2)) ?_)
 refine qe (zA (zC ?_))
 refine qM (vJ zp) ?_
 refine qD rfl (qE rfl rfl (by omega)) (qM (vJ (zp - 1)) ?_)
 refine qe (yB (zZ (⟨_, ?_, _, rfl, _, a / 2, zp - 1, g, (pS 5 (pS 4 (pS 1 (pU 0)))), rfl, b, a0, (hr.trans (low_even (by omega) c)), (by omega), (by omega), i⟩)))
 omega
 refine wp_exit (zW (yO (yI (zA (zB (zC ?_))))))
 refine qM (vJ a) ?_
 refine qM (vJ zp) ?_
 refine qD rfl (yG [(vJ 0), (vJ 0)] [(vJ a), (vJ zp)] [(0, (vJ a), [(vJ a)]), (1, (vJ zp), [(vJ zp)])] Tryz.underlying27 zr27 rfl pl27 rfl (List.forall_mem_cons.2 ⟨rfl, (List.forall_mem_cons.2 ⟨rfl, (fun _ h => by cases h)⟩)⟩) rfl) (qI rfl (yM [(vJ 0), (vJ 0)] zr27 rfl b.pins (fun ae b8 a1 a2 a3 af => ?_)))
 have ag := b.step a3 af
 have a4 := i.below af
 have ah : Apart (some ae) (some f) := zJ (congrArg some a1) i.lt
 have ai : w.heap.size ≤ ae := by have := b.size; omega
 refine q0 rfl rfl rfl (yF (cs' := [(vJ a), (vJ zp)]) (us := [(vJ a), (vJ zp)]) (v := (.agg [(vJ a), (vJ zp)].toArray)) sz27 rfl rfl rfl (yK (by rfl) (by rfl)) ag.pins a2 (Nat.le_of_ble_eq_true rfl) rfl (fun b9 a5 a6 aj ca => ?_))
 have a7 := ag.write a6 aj ((zS ai))
 have a8 := a4.keptA aj ah.symm
 obtain ⟨cb, cc, s, ak, a9⟩ := a5.shut a7 ai
 have ba := a8.moreA a9 ah.symm
 refine qe (zA (zB (zB (zC ?_))))
 refine qD rfl (yH (cs := [(vJ a), (vJ zp)]) ag27 sz27 rfl (fun j u hj => s.pins _ _ _ (ak _ _ (by simpa using hj)))) (qI rfl (zH (vs := [(.agg [(vJ a), (vJ zp)].toArray)]) Tryz.func34 nm34 rfl rfl rfl ?_))
 refine Calls.mono (qL (t := a) (z := zp) s.pins) ?_
 rintro _ cd ⟨ce, rfl, x⟩
 refine ⟨_, rfl, ?_⟩
 have m := s.tr x
 have al := ba.ext x
 refine qD rfl (xE rfl) (qe (zA ?_))
 refine xX rfl rfl (fun y => ?_) (fun y => ?_)
 refine wp_skip (zA (zB (zC ?_)))
 refine qD rfl (yH (cs := [(vJ a), (vJ zp)]) ag27 sz27 rfl (fun j u hj => (Pins.of_le m.pins x.le) _ _ _ (ak _ _ (by simpa using hj)))) (q0 rfl rfl rfl (yF (cs' := [(vJ a), (vJ zp)]) (us := [(vJ a), (vJ zp)]) (v := (.agg [(vJ a), (vJ zp)].toArray)) sz27 rfl rfl rfl (yK (by rfl) (by rfl)) m.pins al (Nat.le_of_ble_eq_true rfl) rfl (fun cf bb bc bd cg => ?_)))
 have be := m.write bc bd ((zS q))
 refine qM (.bool true) ?_
 refine qe (zA ?_)
 refine wp_ret (zO (xL (cs := [(vJ a), (vJ zp)]) (v := (.bool true)) rfl rfl rfl rfl rfl ag27 sz27 (fun j u hj => by rw [Nat.zero_add]; exact bb.cell hj) ?_))
 have hst := hr.trans (low_stop hz.1 (by first | exact Or.inl c | exact Or.inr c))
 have d : ((zp.toNat : Nat) : Int) = zp := Int.toNat_of_nonneg hz.1
 rw [hst]
 simp only [d]
 exact ⟨_, by rw [y]; rfl, be⟩
 refine zB (zC ?_)
 refine qD rfl (yG [(vJ 0), (vJ 0)] [(vJ 0), (vJ 0)] [] Tryz.underlying27 zr27 rfl pl27 rfl (fun _ h => by cases h) rfl) (q0 rfl rfl rfl (yF (cs' := [(vJ 0), (vJ 0)]) (us := [(vJ 0), (vJ 0)]) (v := (.agg [(vJ 0), (vJ 0)].toArray)) sz27 rfl rfl rfl (yK (by rfl) (by rfl)) m.pins al (Nat.le_of_ble_eq_true rfl) rfl (fun ch bf bg bh ci => ?_)))
 have bi := m.write bg bh ((zS q))
 refine qM (.bool false) ?_
 refine qe (zA ?_)
 refine wp_ret (zO (xL (cs := [(vJ 0), (vJ 0)]) (v := (.bool false)) rfl rfl rfl rfl rfl ag27 sz27 (fun j u hj => by rw [Nat.zero_add]; exact bf.cell hj) ?_))
 have hst := hr.trans (low_stop hz.1 (by first | exact Or.inl c | exact Or.inr c))
 have d : ((zp.toNat : Nat) : Int) = zp := Int.toNat_of_nonneg hz.1
 rw [hst]
 simp only [d]
 exact ⟨_, by rw [y]; rfl, bi⟩
 refine qW ?_
 refine qW ?_
 refine qW ?_
 refine qD rfl (zY (v := (.bool false)) rfl rfl) (qe (zA ?_))
 refine qA rfl rfl (wp_exit (zW (yO (yI (zA (zB (zC ?_)))))))
 refine qM (vJ a) ?_
 refine qM (vJ zp) ?_
 refine qD rfl (yG [(vJ 0), (vJ 0)] [(vJ a), (vJ zp)] [(0, (vJ a), [(vJ a)]), (1, (vJ zp), [(vJ zp)])] Tryz.underlying27 zr27 rfl pl27 rfl (List.forall_mem_cons.2 ⟨rfl, (List.forall_mem_cons.2 ⟨rfl, (fun _ h => by cases h)⟩)⟩) rfl) (qI rfl (yM [(vJ 0), (vJ 0)] zr27 rfl b.pins (fun am cj bj bk bl an => ?_)))
 have ao := b.step bl an
 have bm := i.below an
 have ap : Apart (some am) (some f) := zJ (congrArg some bj) i.lt
 have aq : w.heap.size ≤ am := by have := b.size; omega
 refine q0 rfl rfl rfl (yF (cs' := [(vJ a), (vJ zp)]) (us := [(vJ a), (vJ zp)]) (v := (.agg [(vJ a), (vJ zp)].toArray)) sz27 rfl rfl rfl (yK (by rfl) (by rfl)) ao.pins bk (Nat.le_of_ble_eq_true rfl) rfl (fun ck bn bo ar cl => ?_))
 have bp := ao.write bo ar ((zS aq))
 have bq := bm.keptA ar ap.symm
 obtain ⟨cm, cn, aa, au, br⟩ := bn.shut bp aq
 have bs := bq.moreA br ap.symm
 refine qe (zA (zB (zB (zC ?_))))
 refine qD rfl (yH (cs := [(vJ a), (vJ zp)]) ag27 sz27 rfl (fun j u hj => aa.pins _ _ _ (au _ _ (by simpa using hj)))) (qI rfl (zH (vs := [(.agg [(vJ a), (vJ zp)].toArray)]) Tryz.func34 nm34 rfl rfl rfl ?_))
 refine Calls.mono (qL (t := a) (z := zp) aa.pins) ?_
 rintro _ co ⟨cp, rfl, ab⟩
 refine ⟨_, rfl, ?_⟩
 have o := aa.tr ab
 have av := bs.ext ab
 refine qD rfl (xE rfl) (qe (zA ?_))
 refine xX rfl rfl (fun ac => ?_) (fun ac => ?_)
 refine wp_skip (zA (zB (zC ?_)))
 refine qD rfl (yH (cs := [(vJ a), (vJ zp)]) ag27 sz27 rfl (fun j u hj => (Pins.of_le o.pins ab.le) _ _ _ (au _ _ (by simpa using hj)))) (q0 rfl rfl rfl (yF (cs' := [(vJ a), (vJ zp)]) (us := [(vJ a), (vJ zp)]) (v := (.agg [(vJ a), (vJ zp)].toArray)) sz27 rfl rfl rfl (yK (by rfl) (by rfl)) o.pins av (Nat.le_of_ble_eq_true rfl) rfl (fun cq bt bu bv cr => ?_)))
 have bw := o.write bu bv ((zS q))
 refine qM (.bool true) ?_
 refine qe (zA ?_)
 refine wp_ret (zO (xL (cs := [(vJ a), (vJ zp)]) (v := (.bool true)) rfl rfl rfl rfl rfl ag27 sz27 (fun j u hj => by rw [Nat.zero_add]; exact bt.cell hj) ?_))
 have hst := hr.trans (low_stop hz.1 (by first | exact Or.inl l | exact Or.inr l))
 have d : ((zp.toNat : Nat) : Int) = zp := Int.toNat_of_nonneg hz.1
 rw [hst]
 simp only [d]
 exact ⟨_, by rw [ac]; rfl, bw⟩
 refine zB (zC ?_)
 refine qD rfl (yG [(vJ 0), (vJ 0)] [(vJ 0), (vJ 0)] [] Tryz.underlying27 zr27 rfl pl27 rfl (fun _ h => by cases h) rfl) (q0 rfl rfl rfl (yF (cs' := [(vJ 0), (vJ 0)]) (us := [(vJ 0), (vJ 0)]) (v := (.agg [(vJ 0), (vJ 0)].toArray)) sz27 rfl rfl rfl (yK (by rfl) (by rfl)) o.pins av (Nat.le_of_ble_eq_true rfl) rfl (fun ct bx bz b0 cu => ?_)))
 have b2 := o.write bz b0 ((zS q))
 refine qM (.bool false) ?_
 refine qe (zA ?_)
 refine wp_ret (zO (xL (cs := [(vJ 0), (vJ 0)]) (v := (.bool false)) rfl rfl rfl rfl rfl ag27 sz27 (fun j u hj => by rw [Nat.zero_add]; exact bx.cell hj) ?_))
 have hst := hr.trans (low_stop hz.1 (by first | exact Or.inl l | exact Or.inr l))
 have d : ((zp.toNat : Nat) : Int) = zp := Int.toNat_of_nonneg hz.1
 rw [hst]
 simp only [d]
 exact ⟨_, by rw [ac]; rfl, b2⟩

end NU2
end Go.Proofs.YtakkjmlnmcemaaaGreatDoor

set_option maxRecDepth 20000
set_option maxHeartbeats 2000000
namespace Go.Proofs.YtakkjmlnmcemaaaGreatDoor
namespace NU3
open Go.RowKit Go.GL Go.Proofs
open B1 C1 D1 E1 K1 PO1 PL1 NU1

theorem pl27 : (Tryz.prog.underlying 27).bind (placesD Tryz.prog) = some [(0, 1), (1, 1)] := by kernel_rfl


theorem l2Make_spec {w : World} {G : Pin} {t : Int} {p : Nat} (hP : Pins G w) (hb : -1000000000000000 ≤ t ∧ t ≤ 1000000000000000) (hp : p ≤ 64) :
  Calls Tryz.prog 113 [(vJ t), (vJ (p : Int))].toArray w fun e w' => ∃ G', e = .returned (.agg [.int .i64 (lowD p t).1, .int .i64 (((lowD p t).2 : Nat) : Int)].toArray) ∧ Ext noS G w G' w' := by
 refine zV (n := 19) Tryz.func113 Tryz.ntmps113 rfl rfl ?_
 have f : Ext noS G w G w := Ext.refl hP
 refine zB (zC ?_)
 refine qI rfl (yM [(vJ 0), (vJ 0)] zr27 rfl f.pins (fun g w2 aj r s x => ?_))
 have y := f.step s x
 have o : w.heap.size ≤ g := by have := f.size; omega
 refine qe (zA (zB ?_))
 refine zX (yT (fun (k : Nat) (en : Nat → Value) (W : World) => ∃ (q : Nat → Value) (a : Int) (zp : Int) (b : Pin), en = (upd (upd (upd q 0 (vJ a)) 1 (vJ zp)) 4 (.pointer (some ⟨g, 0, none⟩))) ∧ k = zp.toNat ∧ Ext noS G w b W ∧ Pin.le G b ∧ (lowD p t = lowD zp.toNat a) ∧ (0 ≤ zp ∧ zp ≤ 64) ∧ (-1000000000000000 ≤ a ∧ a ≤ 1000000000000000) ∧ (Bx b W g [(vJ 0), (vJ 0)])) _ ⟨_, t, (p : Int), G, (pS 4 (pS 1 (pU 0))), rfl, y, Pin.le_refl _, (by rw [Int.toNat_natCast]), (by omega), hb, r⟩ ?_)
 rintro k9 _ al ⟨q, a, zp, b, rfl, am, c, z, hr, hz, hab, i⟩
 refine zB (zB (zC ?_))
 refine qM (vJ zp) ?_
 refine qD rfl (r_gtr rfl rfl) (qM (.bool (decide ((0 : Int) < zp))) ?_)
 refine qbd (p := (0 : Int) < zp) (t := 7) rfl (fun l => ?_) (fun l => ?_)
 refine qN (zQ (v := (vJ a)) rfl) ?_
 refine qN (r_rem2 rfl rfl) ?_
 refine qN (xV rfl rfl) ?_
 refine qD rfl (yD (v := (.bool (decide ((a.tmod 2 : Int) = 0)))) rfl rfl) (qe (zA ?_))
 refine yA (p := (a.tmod 2 : Int) = 0) rfl rfl (fun d => ?_) (fun d => ?_)
 refine wp_skip (zA (zX (zB (zC ?_))))
 refine qM (vJ a) ?_
 refine qD rfl (r_quo2 rfl rfl ((tmod2 _).1 d) (by omega)) (qM (vJ (a / 2)) ?_)
 refine qe (zA (zC ?_))
 refine qM (vJ zp) ?_
 refine qD rfl (qE rfl rfl (by omega)) (qM (vJ (zp - 1)) ?_)
 refine qe (yB (zZ (⟨_, ?_, _, rfl, _, a / 2, zp - 1, b, (pS 4 (pS 1 (pU 0))), rfl, c, z, (hr.trans (low_even (by omega) d)), (by omega), (by omega), i⟩)))
 omega
 refine wp_exit (zW (yO (yI (zA (zB (zC ?_))))))
 refine qM (vJ a) ?_
 refine qM (vJ zp) ?_
 refine qD rfl (yG [(vJ 0), (vJ 0)] [(vJ a), (vJ zp)] [(0, (vJ a), [(vJ a)]), (1, (vJ zp), [(vJ zp)])] Tryz.underlying27 zr27 rfl pl27 rfl (List.forall_mem_cons.2 ⟨rfl, (List.forall_mem_cons.2 ⟨rfl, (fun _ h => by cases h)⟩)⟩) rfl) (q0 rfl rfl rfl (yF (cs' := [(vJ a), (vJ zp)]) (us := [(vJ a), (vJ zp)]) (v := (.agg [(vJ a), (vJ zp)].toArray)) sz27 rfl rfl rfl (yK (by rfl) (by rfl)) c.pins i (Nat.le_of_ble_eq_true rfl) rfl (fun an aa ab ac ao => ?_)))
 have ad := c.write ab ac ((zS o))
 refine qe (zA ?_)
 refine wp_ret (zO (c_retc (cs := [(vJ a), (vJ zp)]) rfl rfl rfl ag27 sz27 (fun j u hj => by rw [Nat.zero_add]; exact aa.cell hj) ?_))
 have hst := hr.trans (low_stop hz.1 (by first | exact Or.inl d | exact Or.inr d))
 have m : ((zp.toNat : Nat) : Int) = zp := Int.toNat_of_nonneg hz.1
 exact ⟨_, by rw [hst]; simp only [m], ad⟩
 refine qW ?_
 refine qW ?_
 refine qW ?_
 refine qD rfl (zY (v := (.bool false)) rfl rfl) (qe (zA ?_))
 refine qA rfl rfl (wp_exit (zW (yO (yI (zA (zB (zC ?_)))))))
 refine qM (vJ a) ?_
 refine qM (vJ zp) ?_
 refine qD rfl (yG [(vJ 0), (vJ 0)] [(vJ a), (vJ zp)] [(0, (vJ a), [(vJ a)]), (1, (vJ zp), [(vJ zp)])] Tryz.underlying27 zr27 rfl pl27 rfl (List.forall_mem_cons.2 ⟨rfl, (List.forall_mem_cons.2 ⟨rfl, (fun _ h => by cases h)⟩)⟩) rfl) (q0 rfl rfl rfl (yF (cs' := [(vJ a), (vJ zp)]) (us := [(vJ a), (vJ zp)]) (v := (.agg [(vJ a), (vJ zp)].toArray)) sz27 rfl rfl rfl (yK (by rfl) (by rfl)) c.pins i (Nat.le_of_ble_eq_true rfl) rfl (fun ap ae af ag aq => ?_)))
 have ah := c.write af ag ((zS o))
 refine qe (zA ?_)
 refine wp_ret (zO (c_retc (cs := [(vJ a), (vJ zp)]) rfl rfl rfl ag27 sz27 (fun j u hj => by rw [Nat.zero_add]; exact ae.cell hj) ?_))
 have hst := hr.trans (low_stop hz.1 (by first | exact Or.inl l | exact Or.inr l))
 have m : ((zp.toNat : Nat) : Int) = zp := Int.toNat_of_nonneg hz.1
 exact ⟨_, by rw [hst]; simp only [m], ah⟩

end NU3
end Go.Proofs.YtakkjmlnmcemaaaGreatDoor

set_option maxRecDepth 20000
set_option maxHeartbeats 2000000
namespace Go.Proofs.YtakkjmlnmcemaaaGreatDoor
namespace NB4
open Go.RowKit Go.GL Go.Proofs
open B1 C1 D1 E1 K1 PO1 PL1 NU1 NU2 NU3






theorem pl27 : (Tryz.prog.underlying 27).bind (placesD Tryz.prog) = some [(0, 1), (1, 1)] := by kernel_rfl


theorem qP {w : World} {G : Pin} {t z : Int} (hP : Pins G w) (ht : -10000000 ≤ t ∧ t ≤ 10000000) (hz : 0 ≤ z ∧ z ≤ 24) :
  Calls Tryz.prog 47 [(.agg [(.int .i64 t), (.int .i64 z)].toArray)].toArray w fun e w' => ∃ G', e = .returned (.int .i64 (scI 24 t z)) ∧ Ext noS G w G' w' := by
 refine zV (n := 10) Tryz.func47 Tryz.ntmps47 rfl rfl ?_
 have a : Ext noS G w G w := Ext.refl hP
 have hsl := shl_lim (t := t) (k := (24 - z).toNat) ht (by omega)
 refine zB (zC ?_)
 refine qI rfl (xG [(.int .i64 t), (.int .i64 z)] (v := (.agg [(.int .i64 t), (.int .i64 z)].toArray)) rfl rfl a.pins (fun d m o f g h => ?_))
 have i := a.step g h
 have l : w.heap.size ≤ d := by have := a.size; omega
 obtain ⟨p, q, b, c, r⟩ := f.shut i l
 refine qM (.int .i64 0) ?_
 refine qe (zA (zB (zC ?_)))
 refine qD rfl (zK (k := 0) rfl Tryz.underlying27 rfl nz3 rfl) (qD rfl (zL (u := (.int .i64 t)) ag3 rfl (b.pins _ _ _ (c 0 _ rfl))) (qD rfl (zK (k := 1) rfl Tryz.underlying27 rfl nz3 rfl) (qD rfl (zL (u := (.int .i64 z)) ag3 rfl (b.pins _ _ _ (c 1 _ rfl))) (qD rfl (qE rfl rfl (by omega)) (qD rfl (r_conv (j := 24 - z) Tryz.underlying3 Tryz.underlying109 rfl (wrapU (by omega))) (qD rfl (r_shlI rfl rfl (by omega) (by omega)) (qM (.int .i64 (t * 2 ^ (24 - z : Int).toNat)) ?_)))))))
 refine qe (zA ?_)
 exact wp_ret (zO (zP (v := (.int .i64 (t * 2 ^ (24 - z : Int).toNat))) rfl rfl rfl (⟨_, rfl, b⟩)))

theorem jN {w : World} {G : Pin} {t z : Int} (hP : Pins G w) (ht : -1000000000000 ≤ t ∧ t ≤ 1000000000000) :
  Calls Tryz.prog 102 [(.agg [(.int .i64 t), (.int .i64 z)].toArray)].toArray w fun e w' => ∃ G', e = .returned (.agg [.int .i64 (-t), .int .i64 z].toArray) ∧ Ext noS G w G' w' := by
 refine zV (n := 9) Tryz.func102 Tryz.ntmps102 rfl rfl ?_
 have b : Ext noS G w G w := Ext.refl hP
 refine zB (zC ?_)
 refine qI rfl (xG [(.int .i64 t), (.int .i64 z)] (v := (.agg [(.int .i64 t), (.int .i64 z)].toArray)) rfl rfl b.pins (fun f w2 ae g i l => ?_))
 have m := b.step i l
 have o : w.heap.size ≤ f := by have := b.size; omega
 obtain ⟨G9, ag, c, d, ah⟩ := g.shut m o
 refine qI rfl (yM [(.int .i64 0), (.int .i64 0)] zr27 rfl c.pins (fun p ai aj q r s => ?_))
 have a := c.step r s
 have x : w.heap.size ≤ p := by have := c.size; omega
 refine qe (zA (zB (zC ?_)))
 refine qD rfl (zK (k := 0) rfl Tryz.underlying27 rfl nz3 rfl) (qD rfl (zL (u := (.int .i64 t)) ag3 rfl (a.pins _ _ _ (d 0 _ rfl))) (qD rfl (r_neg rfl (by omega)) (qD rfl (zK (k := 1) rfl Tryz.underlying27 rfl nz3 rfl) (qD rfl (zL (u := (.int .i64 z)) ag3 rfl (a.pins _ _ _ (d 1 _ rfl))) (qD rfl (yG [(.int .i64 0), (.int .i64 0)] [(.int .i64 (-t)), (.int .i64 z)] [(0, (.int .i64 (-t)), [(.int .i64 (-t))]), (1, (.int .i64 z), [(.int .i64 z)])] Tryz.underlying27 zr27 rfl pl27 rfl (List.forall_mem_cons.2 ⟨rfl, (List.forall_mem_cons.2 ⟨rfl, (fun _ h => by cases h)⟩)⟩) rfl) (q0 rfl rfl rfl (yF (cs' := [(.int .i64 (-t)), (.int .i64 z)]) (us := [(.int .i64 (-t)), (.int .i64 z)]) (v := (.agg [(.int .i64 (-t)), (.int .i64 z)].toArray)) sz27 rfl rfl rfl (yK (by rfl) (by rfl)) a.pins q (Nat.le_of_ble_eq_true rfl) rfl (fun ak y aa ab al => ?_))))))))
 have ac := a.write aa ab ((zS x))
 refine qe (zA ?_)
 exact wp_ret (zO (c_retc (cs := [(.int .i64 (-t)), (.int .i64 z)]) rfl rfl rfl ag27 sz27 (fun j u hj => by rw [Nat.zero_add]; exact y.cell hj) (⟨_, rfl, ac⟩)))

theorem l2Add_spec {w : World} {G : Pin} {t z s y : Int} (hP : Pins G w) (ht : -10000000 ≤ t ∧ t ≤ 10000000) (hz : 0 ≤ z ∧ z ≤ 24) (hs : -10000000 ≤ s ∧ s ≤ 10000000) (hy : 0 ≤ y ∧ y ≤ 24) :
  Calls Tryz.prog 101 [(.agg [(vJ t), (vJ z)].toArray), (.agg [(vJ s), (vJ y)].toArray)].toArray w fun e w' => ∃ G', e = .returned (.agg [.int .i64 (lowD 24 (scI 24 t z + scI 24 s y)).1, .int .i64 (((lowD 24 (scI 24 t z + scI 24 s y)).2 : Nat) : Int)].toArray) ∧ Ext noS G w G' w' := by
 refine zV (n := 11) Tryz.func101 Tryz.ntmps101 rfl rfl ?_
 have f : Ext noS G w G w := Ext.refl hP
 have a6 := scI_lim (D := 24) (t := t) (z := z) ht (by omega)
 have a7 := scI_lim (D := 24) (t := s) (z := y) hs (by omega)
 refine zB (zC ?_)
 refine qI rfl (xG [(vJ t), (vJ z)] (v := (.agg [(vJ t), (vJ z)].toArray)) rfl rfl f.pins (fun b1 w2 a9 ab ac ad => ?_))
 have ae := f.step ac ad
 have af : w.heap.size ≤ b1 := by have := f.size; omega
 obtain ⟨G9, bb, g, ag, bc⟩ := ab.shut ae af
 refine qI rfl (xG [(vJ s), (vJ y)] (v := (.agg [(vJ s), (vJ y)].toArray)) rfl rfl g.pins (fun ah bd be ai aj ak => ?_))
 have al := g.step aj ak
 have am : w.heap.size ≤ ah := by have := g.size; omega
 obtain ⟨an, ao, k, ap, bf⟩ := ai.shut al am
 refine qI rfl (yM [(vJ 0), (vJ 0)] zr27 rfl k.pins (fun aq l bg ar au av => ?_))
 have x := k.step au av
 have aw : w.heap.size ≤ aq := by have := k.size; omega
 refine qe (zA (zB ?_))
 refine yZ (S := fun wz => Pins an wz) (last := 6) (by kernel_rfl) rfl ?_
 have m : Below l.heap.size l l.drew := (Below.refl _ _).drew
 have ax := x.pins.below m
 have c := x.step ax m
 have ay := ar.below m
 refine dT (i := 0) rfl rfl (by kernel_rfl) (fun _ hS => yH (cs := [(vJ t), (vJ z)]) ag27 sz27 rfl (fun j u hj => (Pins.of_le hS ao) _ _ _ (ag _ _ (by simpa using hj)))) c.pins ?_
 refine dT (i := 2) rfl rfl (by kernel_rfl) (fun _ hS => yH (cs := [(vJ s), (vJ y)]) ag27 sz27 rfl (fun j u hj => hS _ _ _ (ap _ _ (by simpa using hj)))) c.pins ?_
 refine dO (i := 1) (zU (i := 1) rfl rfl rfl (zD rfl _) (zH (vs := [(.agg [(vJ t), (vJ z)].toArray)]) Tryz.func47 nm47 rfl rfl rfl ?_))
 refine Calls.mono (qP (t := t) (z := z) c.pins (by omega) (by omega)) ?_
 rintro _ bh ⟨bi, rfl, a⟩
 refine ⟨_, rfl, ?_⟩
 have o := c.tr a
 have az := ay.ext a
 refine ⟨fun _ => (Pins.of_le o.pins a.le), ?_⟩
 refine dO (i := 3) (zU (i := 3) rfl rfl rfl (zD rfl _) (zH (vs := [(.agg [(vJ s), (vJ y)].toArray)]) Tryz.func47 nm47 rfl rfl rfl ?_))
 refine Calls.mono (qP (t := s) (z := y) o.pins (by omega) (by omega)) ?_
 rintro _ bj ⟨bk, rfl, b⟩
 refine ⟨_, rfl, ?_⟩
 have d := o.tr b
 have a0 := az.ext b
 refine ⟨fun _ => (Pins.of_le d.pins (Pin.le_trans a.le b.le)), ?_⟩
 refine dT (i := 4) rfl rfl (by kernel_rfl) (fun _ _ => yJ rfl rfl (by omega)) (Pins.of_le d.pins (Pin.le_trans a.le b.le)) ?_
 refine dO (i := 5) (zU (i := 5) rfl rfl rfl (zD rfl _) (zH (vs := [(vJ ((scI 24 t z) + (scI 24 s y))), (vJ 24)]) Tryz.func113 nm113 rfl rfl rfl ?_))
 refine Calls.mono (l2Make_spec (p := 24) d.pins (by omega) (by omega)) ?_
 rintro _ bl ⟨bm, rfl, q⟩
 refine ⟨_, rfl, ?_⟩
 have r := d.tr q
 have a1 := a0.ext q
 refine ⟨fun _ => (Pins.of_le r.pins (Pin.le_trans (Pin.le_trans a.le b.le) q.le)), ?_⟩
 refine dO (i := 6) (qB (i := 6) rfl rfl rfl (zD rfl _) (yF (cs' := [(vJ ((lowD 24 ((scI 24 t z) + (scI 24 s y))).1)), (vJ (((lowD 24 ((scI 24 t z) + (scI 24 s y))).2 : Nat) : Int))]) (us := [(vJ ((lowD 24 ((scI 24 t z) + (scI 24 s y))).1)), (vJ (((lowD 24 ((scI 24 t z) + (scI 24 s y))).2 : Nat) : Int))]) (v := (.agg [(vJ ((lowD 24 ((scI 24 t z) + (scI 24 s y))).1)), (vJ (((lowD 24 ((scI 24 t z) + (scI 24 s y))).2 : Nat) : Int))].toArray)) sz27 rfl rfl rfl (yK (by rfl) (by rfl)) r.pins a1 (Nat.le_of_ble_eq_true rfl) rfl (fun bn a2 a3 a4 bo => ?_)))
 have a5 := r.write a3 a4 ((zS aw))
 refine ⟨fun h => absurd rfl h, ?_⟩
 exact yQ (by kernel_rfl) (zA (wp_ret (zO (c_retc (cs := [(vJ ((lowD 24 ((scI 24 t z) + (scI 24 s y))).1)), (vJ (((lowD 24 ((scI 24 t z) + (scI 24 s y))).2 : Nat) : Int))]) rfl rfl rfl ag27 sz27 (fun j u hj => by rw [Nat.zero_add]; exact a2.cell hj) (⟨_, rfl, a5⟩)))))

theorem l2Floor_spec {w : World} {G : Pin} {t z : Int} (hP : Pins G w) (ht : -10000000 ≤ t ∧ t ≤ 10000000) (hz : 0 ≤ z ∧ z ≤ 24) :
  Calls Tryz.prog 114 [(.agg [(.int .i64 t), (.int .i64 z)].toArray)].toArray w fun e w' => ∃ G', e = .returned (.int .i64 (Int.fdiv (scI 24 t z) (2 ^ (min (24 : Int).toNat 64)))) ∧ Ext noS G w G' w' := by
 refine zV (n := 6) Tryz.func114 Tryz.ntmps114 rfl rfl ?_
 have a : Ext noS G w G w := Ext.refl hP
 refine zB (zC ?_)
 refine qI rfl (xG [(.int .i64 t), (.int .i64 z)] (v := (.agg [(.int .i64 t), (.int .i64 z)].toArray)) rfl rfl a.pins (fun c o p d f g => ?_))
 have h := a.step f g
 have i : w.heap.size ≤ c := by have := a.size; omega
 obtain ⟨q, r, b, k, s⟩ := d.shut h i
 refine qM (.int .i64 0) ?_
 refine qe (zA (zB (zC ?_)))
 refine qD rfl (yH (cs := [(.int .i64 t), (.int .i64 z)]) ag27 sz27 rfl (fun j u hj => b.pins _ _ _ (k _ _ (by simpa using hj)))) (qI rfl (zH (vs := [(.agg [(.int .i64 t), (.int .i64 z)].toArray)]) Tryz.func47 nm47 rfl rfl rfl ?_))
 refine Calls.mono (qP (t := t) (z := z) b.pins (by omega) (by omega)) ?_
 rintro _ x ⟨y, rfl, l⟩
 refine ⟨_, rfl, ?_⟩
 have m := b.tr l
 refine qD rfl (r_shrI rfl rfl (by omega)) (qM (.int .i64 (Int.fdiv (scI 24 t z) (2 ^ (min (24 : Int).toNat 64)))) ?_)
 refine qe (zA ?_)
 exact wp_ret (zO (zP (v := (.int .i64 (Int.fdiv (scI 24 t z) (2 ^ (min (24 : Int).toNat 64))))) rfl rfl rfl (⟨_, rfl, m⟩)))

theorem l2Good_spec {w : World} {G : Pin} {t z : Int} (hP : Pins G w) :
  Calls Tryz.prog 33 [(.agg [(vJ t), (vJ z)].toArray)].toArray w fun e w' => ∃ G', e = .returned (.bool (decP (GoodD t z))) ∧ Ext noS G w G' w' := by
 refine zV (n := 22) Tryz.func33 Tryz.ntmps33 rfl rfl ?_
 have c : Ext noS G w G w := Ext.refl hP
 refine zB (zC ?_)
 refine qI rfl (xG [(vJ t), (vJ z)] (v := (.agg [(vJ t), (vJ z)].toArray)) rfl rfl c.pins (fun j w2 ab l m o => ?_))
 have q := c.step m o
 have r : w.heap.size ≤ j := by have := c.size; omega
 obtain ⟨G9, ad, a, b, ae⟩ := l.shut q r
 refine qM (.bool false) ?_
 refine qe (zA (zB (zC ?_)))
 refine qD rfl (zK (k := 0) rfl Tryz.underlying27 rfl nz3 rfl) (qD rfl (zL (u := (vJ t)) ag3 rfl (a.pins _ _ _ (b 0 _ rfl))) (qI rfl (zH (vs := [(vJ t), (vJ (-1000000)), (vJ 1000000)]) Tryz.func49 nm49 rfl rfl rfl ?_)))
 refine Calls.mono (l1In_spec a.pins) ?_
 rintro _ _ ⟨rfl, rfl⟩
 refine ⟨_, rfl, ?_⟩
 refine qM (.bool (decide (((-1000000) : Int) ≤ t ∧ (t : Int) ≤ 1000000))) ?_
 refine qbd (p := (((-1000000) : Int) ≤ t ∧ (t : Int) ≤ 1000000)) (t := 6) rfl (fun s => ?_) (fun s => ?_)
 refine qN (zK (k := 1) rfl Tryz.underlying27 rfl nz3 rfl) ?_
 refine qN (zL (u := (vJ z)) ag3 rfl (a.pins _ _ _ (b 1 _ rfl))) ?_
 refine q1g rfl rfl rfl rfl rfl rfl (zH (vs := [(vJ z), (vJ 0), (vJ 16)]) Tryz.func49 nm49 rfl rfl rfl ?_)
 refine Calls.mono (l1In_spec a.pins) ?_
 rintro _ _ ⟨rfl, rfl⟩
 refine ⟨_, rfl, ?_⟩
 refine qD rfl (yD (v := (.bool (decide ((0 : Int) ≤ z ∧ (z : Int) ≤ 16)))) rfl rfl) (qM (.bool (decide ((0 : Int) ≤ z ∧ (z : Int) ≤ 16))) ?_)
 refine qbd (p := ((0 : Int) ≤ z ∧ (z : Int) ≤ 16)) (t := 11) rfl (fun x => ?_) (fun x => ?_)
 refine qN (zK (k := 1) rfl Tryz.underlying27 rfl nz3 rfl) ?_
 refine qN (zL (u := (vJ z)) ag3 rfl (a.pins _ _ _ (b 1 _ rfl))) ?_
 refine qN (xV rfl rfl) ?_
 refine qN (zQ (v := (.bool (decide ((z : Int) = 0)))) rfl) ?_
 refine qbd (p := (z : Int) = 0) (t := 15) rfl (fun y => ?_) (fun y => ?_)
 refine qW ?_
 refine qW ?_
 refine qW ?_
 refine qW ?_
 refine qN (yD (v := (.bool true)) rfl rfl) ?_
 refine qD rfl (yD (v := (.bool true)) rfl rfl) (qM (.bool true) ?_)
 refine qe (zA ?_)
 exact wp_ret (zO (zP (v := (.bool true)) rfl rfl rfl (⟨_, congrArg (fun z => Ending.returned (Value.bool z)) (decP_true.2 ⟨by omega, by omega, by omega⟩).symm, a⟩)))
 refine qN (zK (k := 0) rfl Tryz.underlying27 rfl nz3 rfl) ?_
 refine qN (zL (u := (vJ t)) ag3 rfl (a.pins _ _ _ (b 0 _ rfl))) ?_
 refine qN (r_rem2 rfl rfl) ?_
 refine qN (jG rfl rfl) ?_
 refine qN (zY (v := (.bool (decide ((t.tmod 2 : Int) ≠ 0)))) rfl rfl) ?_
 refine qD rfl (yD (v := (.bool (decide ((t.tmod 2 : Int) ≠ 0)))) rfl rfl) (qM (.bool (decide ((t.tmod 2 : Int) ≠ 0))) ?_)
 refine qe (zA ?_)
 exact wp_ret (zO (zP (v := (.bool (decide ((t.tmod 2 : Int) ≠ 0)))) rfl rfl rfl (⟨_, congrArg (fun z => Ending.returned (Value.bool z)) (decP_dec.symm.trans (decP_iff ⟨fun h => ⟨by omega, by omega, by omega⟩, fun g => by have d := g.top; have f := g.pow; have i := g.odd; omega⟩)), a⟩)))
 refine qW ?_
 refine qW ?_
 refine qW ?_
 refine qW ?_
 refine qX ?_
 refine qX ?_
 refine qX ?_
 refine qX ?_
 refine qW ?_
 refine qD rfl (zY (v := (.bool false)) rfl rfl) (qM (.bool false) ?_)
 refine qe (zA ?_)
 exact wp_ret (zO (zP (v := (.bool false)) rfl rfl rfl (⟨_, congrArg (fun z => Ending.returned (Value.bool z)) (decP_false.2 (fun g => by have d := g.top; have f := g.pow; have i := g.odd; omega)).symm, a⟩)))
 refine qW ?_
 refine qW ?_
 refine qW ?_
 refine qD rfl (zY (v := (.bool false)) rfl rfl) (qM (.bool false) ?_)
 refine qW ?_
 refine qW ?_
 refine qW ?_
 refine qW ?_
 refine qX ?_
 refine qX ?_
 refine qX ?_
 refine qX ?_
 refine qW ?_
 refine qD rfl (zY (v := (.bool false)) rfl rfl) (qM (.bool false) ?_)
 refine qe (zA ?_)
 exact wp_ret (zO (zP (v := (.bool false)) rfl rfl rfl (⟨_, congrArg (fun z => Ending.returned (Value.bool z)) (decP_false.2 (fun g => by have d := g.top; have f := g.pow; have i := g.odd; omega)).symm, a⟩)))

end NB4
end Go.Proofs.YtakkjmlnmcemaaaGreatDoor
