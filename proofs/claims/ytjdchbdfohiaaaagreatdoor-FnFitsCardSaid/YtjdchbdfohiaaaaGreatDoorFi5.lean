/- Texts of this claim in one file: E1, DR1, MK1, DR2, DV1, DV2, K1, PO1. -/
import Derived.Test.YtjdchbdfohiaaaaGreatDoorFi4
import Derived.Test.YtjdchbdfohiaaaaGreatDoorChecked
set_option maxRecDepth 20000
set_option maxHeartbeats 2000000
namespace Go.Proofs.YtjdchbdfohiaaaaGreatDoor
namespace E1
open Go.RowKit Go.GL Go.Proofs
open C1 D1
theorem mk3 : (Tryz.prog.info? 3).map (fun i => (i.size, i.bytes, i.zero)) = some (1, 8, some (.int .i64 0)) := by kernel_rfl
theorem mk4 : (Tryz.prog.info? 4).map (fun i => (i.size, i.bytes, i.zero)) = some (1, 1, some (.bool false)) := by kernel_rfl
theorem pl26 : (Tryz.prog.underlying 26).bind (placesD Tryz.prog) = some [(0, 1)] := by kernel_rfl
theorem pl69 : (Tryz.prog.underlying 69).bind (placesD Tryz.prog) = some [(0, 1), (1, 1)] := by kernel_rfl
theorem pl87 : (Tryz.prog.underlying 87).bind (placesD Tryz.prog) = some [(0, 1), (1, 1)] := by kernel_rfl
variable {G : Pin} {b : Nat} {bu bv x : Value} {ns fs : List Nd} {bs : List Int} {m : Int}
theorem add_spec {w : World} (hP : Pins G w) (hB : Bk 69 3 G w b bu bv ns bs) (hok : BookOk ns bs) (hx : RSl eNode G x fs) (hf : FormOk fs) (hl : ns.length + fs.length ≤ 1048576) :
  Calls Tryz.prog 73 [(vP b), (.agg [x].toArray)].toArray w fun e w' => ∃ (r u' v' : Value) (G' : Pin), e = .returned r ∧ RSl eInt G' r (addM ns bs fs).1 ∧ Bk 69 3 G' w' b u' v' (addM ns bs fs).2.1 (addM ns bs fs).2.2 ∧ Ext (inS b bu bv) G w G' w' ∧ Lo w (inS b bu bv) u'.ownBlock ∧ Lo w (inS b bu bv) v'.ownBlock := by
 refine zU (n := 37) Tryz.func73 Tryz.ntmps73 rfl rfl ?_
 have av := exr (inS b bu bv) hP
 have hbx := hB.bx
 have hou := hB.ou
 have hov := hB.ov
 have habu := hB.abu
 have habv := hB.abv
 have hauv := hB.auv
 have hlob : Lo w (inS b bu bv) (some b) := lo_b
 have hlou : Lo w (inS b bu bv) bu.ownBlock := lo_u
 have hlov : Lo w (inS b bu bv) bv.ownBlock := lo_v
 have hlen := hok.len
 have hlim := hok.lim
 refine zB (zC ?_)
 refine qI rfl (xH [x] (v := (.agg [x].toArray)) rfl rfl av.pins (fun b1 w2 aw cm cn aj => ?_))
 have co := av.step cn aj
 have cp := hou.below aj
 have cq := hov.below aj
 have cr := hbx.below aj
 have cs := zG (congrArg some aw) hou.lt
 have ct := zG (congrArg some aw) hov.lt
 have cu := zH (congrArg some aw) hbx.lt
 have cv : w.heap.size ≤ b1 := by have := av.size; omega
 obtain ⟨ax, ab, ay, az, a0⟩ := cm.shut co cv
 have bd := cp.moreA ab a0 cs.symm
 have be := cq.moreA ab a0 ct.symm
 have bf := cr.moreA a0 cu.symm
 refine qM vN ?_
 refine qe (zA (zB (zC ?_)))
 refine qI rfl (xC (E := eInt) (e := 3) dB sz3 ay.pins (fun a1 cw cx cy ak a2 => ?_))
 have cz := ay.step cy ak
 have c0 := bd.below ak
 have c1 := be.below ak
 have c2 := bf.below ak
 have c3 := zG a2 bd.lt
 have c4 := zG a2 be.lt
 have c5 := zH a2 bf.lt
 have c6 := cx.weaken ay.size
 refine qM a1 ?_
 refine qe (zA (zB (zB (zC ?_))))
 refine qM (vJ 0) ?_
 refine qe (zA ?_)
 refine zW (yS (fun k en W => ∃ (bg : Nat → Value) (a : Nat) (at_ : Value) (ats : List Int) (m : Value) (o : Value) (g : List Nd) (h : List Int) (t : Pin), en = (upd (upd (upd (upd (upd bg 0 (vP b)) 3 (vP b1)) 4 vN) 5 at_) 6 (vJ (a : Int))) ∧ k = fs.length - a ∧ Ext (inS b bu bv) G w t W ∧ Pin.le ax t ∧ (a ≤ fs.length) ∧ (addM ns bs (fs.take a) = (ats, g, h)) ∧ (AddOk ns a ats g h) ∧ (Own eInt 3 t W w.heap.size at_ (ats)) ∧ (Own eNode 69 t W 0 m (g)) ∧ (Own eInt 3 t W 0 o (h)) ∧ (Bx t W b [m, o]) ∧ (Apart at_.ownBlock m.ownBlock) ∧ (Apart at_.ownBlock o.ownBlock) ∧ (Apart at_.ownBlock (some b)) ∧ (Apart m.ownBlock o.ownBlock) ∧ (Apart m.ownBlock (some b)) ∧ (Apart o.ownBlock (some b)) ∧ (Lo w (inS b bu bv) m.ownBlock) ∧ (Lo w (inS b bu bv) o.ownBlock)) _ ⟨_, 0, a1, [], bu, bv, ns, bs, ax, (pS 6 (pS 5 (pS 4 (pS 3 (pU 0))))), rfl, cz, Pin.le_refl _, Nat.zero_le _, rfl, AddOk.start hok, c6, c0, c1, c2, c3, c4, c5, hauv, habu.symm, habv.symm, hlou, hlov⟩ ?_)
 rintro e2 _ a3 ⟨bg, a, at_, ats, m, o, g, h, t, rfl, e3, al, y, hj, hr, hao, bh, bi, bj, bk, bl, bm, am, bn, bo, bp, bq, br⟩
 have hal := hao.len
 have hah := hao.hi
 have hfl := hf.len
 refine zB (zB (zC ?_))
 refine qM (vJ (a : Int)) ?_
 refine qD rfl (zK (k := 0) rfl dE rfl nz24 rfl) (qD rfl (zL (u := x) ag24 rfl ((dX al.pins y) _ _ _ (az 0 _ rfl))) (qD rfl (zP dC (v := x) rfl hx) (qD rfl (yX rfl rfl) (qe (zA ?_)))))
 refine yC (p := ((a : Int) : Int) < (fs.length : Int)) rfl rfl (fun c7 => ?_) (fun c7 => ?_)
 have an := hao.at1 hf (by omega)
 have hfe := hf.lens a (by omega)
 refine wp_skip (zA (zB ?_))
 refine zW (yZ (S := fun wz => Pins t wz) (last := 22) (by kernel_rfl) rfl ?_)
 have ac := bdr a3
 have c8 := al.pins.below ac
 have c := al.step c8 ac
 have a4 := bh.below ac
 have bt := bi.below ac
 have bw := bj.below ac
 have bz := bk.below ac
 refine dM 0 at_ c.pins ?_
 refine dM 1 (vP b) c.pins ?_
 refine dM 2 at_ c.pins ?_
 refine dT (i := 3) rfl rfl (by kernel_rfl) (fun _ _ => zK (k := 0) rfl dE rfl nz24 rfl) c.pins ?_
 refine dT (i := 4) rfl rfl (by kernel_rfl) (fun _ hS => zL (u := x) ag24 rfl ((dX hS y) _ _ _ (az 0 _ rfl))) c.pins ?_
 refine dM 5 (vJ (a : Int)) c.pins ?_
 refine dT (i := 6) rfl rfl (by kernel_rfl) (fun _ _ => zJ dC sz69 (v := x) rfl rfl hx (by omega) (by omega)) c.pins ?_
 refine dT (i := 7) rfl rfl (by kernel_rfl) (fun _ _ => xF (off := 0) dF rfl rfl nz48 (z := (a : Int)) (k := 0) rfl hx (by omega) (by omega)) c.pins ?_
 obtain ⟨c9, b0, da⟩ := kA (hx.at (z := (a : Int)) (by omega) (by omega)) (j := a) rfl
 have e4 := b0.max
 refine dT (i := 8) rfl rfl (by kernel_rfl) (fun _ hS => da ag48 rfl (dX hS (dW ab y))) c.pins ?_
 refine dM 10 at_ c.pins ?_
 refine dT (i := 11) rfl rfl (by kernel_rfl) (fun _ _ => zK (k := 0) rfl dE rfl nz24 rfl) c.pins ?_
 refine dT (i := 12) rfl rfl (by kernel_rfl) (fun _ hS => zL (u := x) ag24 rfl ((dX hS y) _ _ _ (az 0 _ rfl))) c.pins ?_
 refine dM 13 (vJ (a : Int)) c.pins ?_
 refine dT (i := 14) rfl rfl (by kernel_rfl) (fun _ _ => zJ dC sz69 (v := x) rfl rfl hx (by omega) (by omega)) c.pins ?_
 refine dT (i := 15) rfl rfl (by kernel_rfl) (fun _ _ => xF (off := 1) dF rfl rfl nz48 (z := (a : Int)) (k := 0) rfl hx (by omega) (by omega)) c.pins ?_
 obtain ⟨db, b2, dc⟩ := kE (hx.at (z := (a : Int)) (by omega) (by omega)) (j := a) rfl
 have e5 := b2.max
 refine dT (i := 16) rfl rfl (by kernel_rfl) (fun _ hS => dc ag48 rfl (dX hS (dW ab y))) c.pins ?_
 refine dO (i := 9) (zS (i := 9) rfl rfl rfl (zD rfl _) (zF (vs := [at_, c9]) Tryz.func71 nm71 rfl rfl rfl ?_))
 refine dY (vE c.pins (Gadd.pins c.pins at_) a4.read (b0.mono (dW ab y)) (by omega) an.1) ?_
 rintro _ dd ⟨b3, de, rfl, af, d⟩
 refine ⟨_, rfl, ?_⟩
 have ag := c.tr d
 have a5 := a4.ext d
 have b4 := bt.ext d
 have b5 := bw.ext d
 have b6 := bz.ext d
 have df := yB af.lt a4.lt
 have dg := yB af.lt bt.lt
 have dh := yB af.lt bw.lt
 have di := yF af.lt bz.lt
 have b7 := af.weaken c.size
 refine ⟨fun _ => (dX ag.pins d.le), ?_⟩
 refine dO (i := 17) (zS (i := 17) rfl rfl rfl (zD rfl _) (zF (vs := [at_, db]) Tryz.func71 nm71 rfl rfl rfl ?_))
 refine dY (vE ag.pins (Gadd.pins ag.pins at_) a5.read (b2.mono (dW (dW ab y) d.le)) (by omega) an.2) ?_
 rintro _ dj ⟨b8, dk, rfl, ad, f⟩
 refine ⟨_, rfl, ?_⟩
 have b9 := ag.tr f
 have dl := a5.ext f
 have dm := b4.ext f
 have dn := b5.ext f
 have dp := b7.ext f
 have dq := b6.ext f
 have dr := yB ad.lt a5.lt
 have ds := yB ad.lt b4.lt
 have dt := yB ad.lt b5.lt
 have du := yB ad.lt b7.lt
 have dv := yF ad.lt b6.lt
 have dw := ad.weaken ag.size
 refine ⟨fun _ => (dX b9.pins (dW d.le f.le)), ?_⟩
 obtain ⟨e6, q, dx, dy, ah⟩ := dp.sealed b9
 have dz := dl.moreO q ah df.symm
 have d0 := dm.moreO q ah dg.symm
 have d1 := dn.moreO q ah dh.symm
 have d2 := dw.moreO q ah du
 have d3 := dq.moreO ah di.symm
 obtain ⟨e7, s, ao, d4, ap⟩ := d2.sealed dx
 have a6 := dz.moreO s ap dr.symm
 have d5 := d0.moreO s ap ds.symm
 have d6 := d1.moreO s ap dt.symm
 have d7 := d3.moreO ap dv.symm
 refine dO (i := 18) (zS (i := 18) rfl rfl rfl (zD rfl _) (zF (vs := [(vP b), b3, b8]) Tryz.func78 nm78 rfl rfl rfl ?_))
 refine dY (kP ao.pins ⟨d7, d5, d6, bo.symm, bp.symm, bn⟩ hao.book (dy.mono s) d4 ⟨by rw [xJ]; omega, by rw [xJ]; omega⟩ (kL hao.places an.1) (kL hao.places an.2)) ?_
 rintro _ e8 ⟨d8, d9, ca, rfl, ae, aa, cb, cc⟩
 refine ⟨_, rfl, ?_⟩
 have a7 : ∀ i, inS b m o i → w.heap.size ≤ i ∨ (inS b bu bv) i := jD hlob bq br
 have aq := ao.trans aa a7
 have a8 := notS (u := m) (v := o) am bl bm
 have ea := a6.extS aa a8
 have cd := qO cb a8 (qK a6)
 have ce := qO cc a8 (qK a6)
 have eb := ae.bx
 have ec := ae.ou
 have ed := ae.ov
 have ee := ae.abu
 have ef := ae.abv
 have eg := ae.auv
 have eh := xD cb a7 ao.size
 have ei := xD cc a7 ao.size
 refine ⟨fun _ => (dX aq.pins (dW (dW (dW (dW d.le f.le) q) s) aa.le)), ?_⟩
 refine dO (i := 19) (zS (i := 19) rfl rfl rfl (zD rfl _) (yG (E := eInt) (e := 3) [(vJ (putK g h (atL ats ((fs.getD a default).l)) (atL ats ((fs.getD a default).r))))] [putK g h (atL ats ((fs.getD a default).l)) (atL ats ((fs.getD a default).r))] dB sz3 zr3 (by exact xK (by rfl)) (yO (by rfl)) rfl rfl rfl rfl (by decide) aq.pins (fun cf ej ek el ai e9 => ?_)))
 have ar := aq.step el ai
 have cg := ea.below ai
 have ch := ec.below ai
 have ci := ed.below ai
 have cj := eb.below ai
 have em := ek.weaken aq.size
 refine ⟨fun _ => (dX ar.pins (dW (dW (dW (dW d.le f.le) q) s) aa.le)), ?_⟩
 refine dO (i := 20) (zS (i := 20) rfl rfl rfl (zD rfl _) (oA (E := eInt) (v := at_) (u := cf) 8 dB ap3 (by decide) rfl rfl ar.pins cg em.src (ar.size) (fun ck fa eo ep au a9 => ?_)))
 have ba := ar.write ep au ((yH cg))
 have eq := ch.keptA au cd.symm
 have er := ci.keptA au ce.symm
 have es := cj.keptA au am.symm
 have et := zE cd.symm a9 ch.lt
 have eu := zE ce.symm a9 ci.lt
 have ev := zN am.symm a9 cj.lt
 have fb := la1 ats (putK g h (atL ats ((fs.getD a default).l)) (atL ats ((fs.getD a default).r)))
 refine ⟨fun _ => (dX ba.pins (dW (dW (dW (dW d.le f.le) q) s) aa.le)), ?_⟩
 refine dM 21 ck (dX ba.pins (dW (dW (dW (dW d.le f.le) q) s) aa.le)) ?_
 refine yP (by kernel_rfl) (yA (zA (zC ?_)))
 refine qM (vJ (a : Int)) ?_
 refine qD rfl (yJ rfl rfl (by omega)) (qM (vJ ((a : Int) + 1)) ?_)
 refine qe (yD (⟨_, ?_, _, rfl, _, a + 1, ck, (addStep (ats, g, h) (fs.getD a default)).1, d8, d9, (addStep (ats, g, h) (fs.getD a default)).2.1, (addStep (ats, g, h) (fs.getD a default)).2.2, ca, (pS 6 (pS 5 (pS 4 (pS 3 (pU 0))))), rfl, ba, (dW (dW (dW (dW (dW y d.le) f.le) q) s) aa.le), (by omega), ((vG (by omega)).trans (by rw [hr])), (hao.step hf (by omega) hl), eo, eq, er, es, et.symm, eu.symm, ev.symm, eg, ee.symm, ef.symm, eh, ei⟩))
 omega
 refine wp_exit (zV (yK (yE (zA (zB (zC ?_))))))
 refine qM at_ ?_
 refine qM at_ ?_
 refine qe (zA ?_)
 refine wp_ret (zO (zQ (v := at_) rfl rfl rfl ?_))
 obtain ⟨fc, cl, ew, ex, bb⟩ := bh.sealed al
 have ey := bi.moreO cl bb bl.symm
 have ez := bj.moreO cl bb bm.symm
 have e0 := bk.moreO bb am.symm
 rw [qS (by omega)] at hr
 refine ⟨_, m, o, _, rfl, ?_, ?_, ew, bq, br⟩
 ·rw [hr]; exact ex
 ·rw [hr]; exact ⟨e0, ey, ez, bo.symm, bp.symm, bn⟩
theorem jX {w : World} (hP : Pins G w) (hB : Bk 69 3 G w b bu bv ns bs) (hok : BookOk ns bs) (hx : RSl eNode G x fs) (hf : FormOk fs ∧ 1 ≤ fs.length) (hl : ns.length + fs.length ≤ 1048576) :
  Calls Tryz.prog 49 [(vP b), (.agg [x].toArray)].toArray w fun e w' => ∃ (u' v' : Value) (G' : Pin), e = .returned (vJ (rootM ns bs fs)) ∧ Bk 69 3 G' w' b u' v' (addM ns bs fs).2.1 (addM ns bs fs).2.2 ∧ Ext (inS b bu bv) G w G' w' ∧ Lo w (inS b bu bv) u'.ownBlock ∧ Lo w (inS b bu bv) v'.ownBlock := by
 refine zU (n := 15) Tryz.func49 Tryz.ntmps49 rfl rfl ?_
 have g := exr (inS b bu bv) hP
 have hbx := hB.bx
 have hou := hB.ou
 have hov := hB.ov
 have habu := hB.abu
 have habv := hB.abv
 have hauv := hB.auv
 have hlob : Lo w (inS b bu bv) (some b) := lo_b
 have hlou : Lo w (inS b bu bv) bu.ownBlock := lo_u
 have hlov : Lo w (inS b bu bv) bv.ownBlock := lo_v
 have hlen := hok.len
 have hlim := hok.lim
 have hal := (jK hok hf.1 hl).len
 have hfl := hf.1.len
 refine zB (zC ?_)
 refine qI rfl (xH [x] (v := (.agg [x].toArray)) rfl rfl g.pins (fun q w2 h s t f => ?_))
 have y := g.step t f
 have aa := hou.below f
 have ab := hov.below f
 have ac := hbx.below f
 have ad := zG (congrArg some h) hou.lt
 have ae := zG (congrArg some h) hov.lt
 have af := zH (congrArg some h) hbx.lt
 have ag : w.heap.size ≤ q := by have := g.size; omega
 obtain ⟨az, k, c, ah, l⟩ := s.shut y ag
 have ai := aa.moreA k l ad.symm
 have aj := ab.moreA k l ae.symm
 have ak := ac.moreA l af.symm
 refine qM (vJ 0) ?_
 refine qe (zA (zB (zC ?_)))
 refine qM (vP b) ?_
 refine qD rfl (zT (cs := [x]) ag26 sz26 rfl (fun j u hj => c.pins _ _ _ (ah _ _ (by simpa using hj)))) (qI rfl (zF (vs := [(vP b), (.agg [x].toArray)]) Tryz.func73 nm73 rfl rfl rfl ?_))
 refine dY (add_spec c.pins ⟨ak, ai, aj, habu, habv, hauv⟩ hok (hx.mono k) hf.1 (by first | omega | (simp; omega))) ?_
 rintro _ a0 ⟨d, a1, a2, a3, rfl, m, a, al, am, an⟩
 refine ⟨_, rfl, ?_⟩
 have o : ∀ i, inS b bu bv i → w.heap.size ≤ i ∨ (inS b bu bv) i := jD hlob hlou hlov
 have p := c.trans al o
 have ao := a.bx
 have ap := a.ou
 have aq := a.ov
 have ar := a.abu
 have au := a.abv
 have av := a.auv
 have aw := xD am o c.size
 have ax := xD an o c.size
 refine qM d ?_
 refine qe (zA (zB (zC ?_)))
 refine qM d ?_
 refine qM d ?_
 refine qD rfl (zP dB (v := d) rfl m) (qD rfl (qC rfl rfl (by omega)) (qD rfl (zJ dB sz3 (v := d) rfl rfl m (by omega) (by omega)) (qD rfl (zI (r := ((addM ns bs fs).1).getD ((((addM ns bs fs).1).length : Int) - 1).toNat 0) rfl ag3 (z := ((((addM ns bs fs).1).length : Int) - 1)) rfl m p.pins (by omega) (by omega)) (qM (vJ (((addM ns bs fs).1).getD ((((addM ns bs fs).1).length : Int) - 1).toNat 0)) ?_))))
 refine qe (zA ?_)
 exact wp_ret (zO (zQ (v := (vJ (((addM ns bs fs).1).getD ((((addM ns bs fs).1).length : Int) - 1).toNat 0))) rfl rfl rfl (⟨_, _, _, congrArg (fun z => Ending.returned (Value.int .i64 z)) (by unfold rootM; rw [show (((addM ns bs fs).1.length : Int) - 1).toNat = (addM ns bs fs).1.length - 1 by omega]), ⟨ao, ap, aq, ar, au, av⟩, p, aw, ax⟩)))
theorem reached_spec {w : World} (hP : Pins G w) (hB : Bk 69 3 G w b bu bv ns bs) (hok : BookOk ns bs) (hm : 0 ≤ m ∧ m < ns.length) :
  Calls Tryz.prog 69 [(vP b), (vJ m)].toArray w fun e w' => ∃ (u : Value) (G' : Pin), e = .returned u ∧ Own eBool 4 G' w' w.heap.size u (reachM ns m.toNat) ∧ Ext noS G w G' w' := by
 refine zU (n := 78) Tryz.func69 Tryz.ntmps69 rfl rfl ?_
 have ai := exr noS hP
 have hbx := hB.bx
 have hou := hB.ou
 have hov := hB.ov
 have habu := hB.abu
 have habv := hB.abv
 have hauv := hB.auv
 have hlob : Lo w (inS b bu bv) (some b) := lo_b
 have hlou : Lo w (inS b bu bv) bu.ownBlock := lo_u
 have hlov : Lo w (inS b bu bv) bv.ownBlock := lo_v
 have hlen := hok.len
 have hlim := hok.lim
 have hoo : OptsOk ns := hok.optsOk
 refine zB (zC ?_)
 refine qM vN ?_
 refine qe (zA (zB (zC ?_)))
 refine qM (vJ m) ?_
 refine qD rfl (yJ rfl rfl (by omega)) (qI rfl (nF (E := eBool) false 1 (.bool false) dS mk4 (fun _ => rfl) rfl rfl ai.pins (by omega) (by omega) (by omega) (fun a w2 a6 a7 y aj => ?_)))
 have ar := ai.step a7 y
 have a8 := hou.below y
 have a9 := hov.below y
 have ba := hbx.below y
 have ak := zG aj hou.lt
 have al := zG aj hov.lt
 have am := zH aj hbx.lt
 have an : Own eBool 4 G w2 w.heap.size a (List.replicate (m + 1).toNat false) := a6.weaken ai.size
 have b9 : (List.replicate (m + 1).toNat false).length = (m + 1).toNat := List.length_replicate ..
 refine qM a ?_
 refine qe (zA (zB (zC ?_)))
 refine qM a ?_
 refine qM (vJ m) ?_
 refine qD rfl (zJ dS sz4 (v := a) rfl rfl an.read (by omega) (by omega)) (q0 rfl rfl rfl (fD (E := eBool) (v := a) (u := (.bool true)) (z := m) (true) sz4 rfl rfl rfl rfl ar.pins an (by omega) (by omega) (fun ca bb bc aa cb => ?_)))
 have bd := ar.write bc aa ((yH an))
 have be := a8.keptA aa ak.symm
 have bf := a9.keptA aa al.symm
 have bg := ba.keptA aa am.symm
 refine qe (zA (zB (zB (zC ?_))))
 refine qM (vJ m) ?_
 refine qM (vJ m) ?_
 refine qe (zA ?_)
 refine zW (yS (fun k en W => ∃ (d : Nat → Value) (z : Int) (is : List Bool), en = (upd (upd (upd (upd d 0 (vP b)) 4 vN) 5 a) 6 (vJ z)) ∧ k = (z + 1).toNat ∧ Ext noS G w G W ∧ (-1 ≤ z ∧ z ≤ m) ∧ (is.length = m.toNat + 1) ∧ (reachM ns m.toNat = ugo ns (z + 1).toNat is) ∧ (Own eBool 4 G W w.heap.size a (is)) ∧ (Own eNode 69 G W 0 bu (ns)) ∧ (Own eInt 3 G W 0 bv (bs)) ∧ (Bx G W b [bu, bv])) _ ⟨_, m, (List.replicate (m + 1).toNat false).set m.toNat true, (pS 6 (pS 5 (pS 4 (pU 0)))), rfl, bd, (by omega), (by simp; omega), (by rw [show (m + 1).toNat = m.toNat + 1 by omega]; rfl), bb, be, bf, bg⟩ ?_)
 rintro cc _ cd ⟨d, z, is, rfl, ce, ab, hz, hnis, hr, x, au, av, aw⟩
 refine zB (zB (zC ?_))
 refine qM (vJ z) ?_
 refine qD rfl (fN rfl rfl) (qe (zA ?_))
 refine yC (p := (0 : Int) ≤ z) rfl rfl (fun bh => ?_) (fun bh => ?_)
 refine wp_skip (zA (zB ?_))
 refine zW (zB (zB (zC ?_)))
 refine qM a ?_
 refine qM (vJ z) ?_
 refine qD rfl (zJ dS sz4 (v := a) rfl rfl x.read (by omega) (by omega)) (qD rfl (vU (r := is.getD (z).toNat false) rfl ag4 (z := z) rfl x.read (Gadd.pins ab.pins a) (by omega) (by omega)) (qD rfl (xR rfl) (qe (zA ?_))))
 refine qY rfl rfl (fun ao => ?_) (fun ao => ?_)
 refine wp_skip (zA (zB (zB (zC ?_))))
 refine qM (vJ 0) ?_
 refine qe (zA ?_)
 refine zW (yS (fun k en W => ∃ (d : Nat → Value) (i : Nat) (h : List Bool), en = (upd (upd (upd (upd (upd d 0 (vP b)) 4 vN) 5 a) 6 (vJ z)) 7 (vJ (i : Int))) ∧ k = (ns.getD (z).toNat default).l.length - i ∧ Ext noS G w G W ∧ (i ≤ (ns.getD (z).toNat default).l.length) ∧ (h.length = m.toNat + 1) ∧ (setAll is (ns.getD (z).toNat default).l = setAll h ((ns.getD (z).toNat default).l.drop i)) ∧ (Own eBool 4 G W w.heap.size a (h)) ∧ (Own eNode 69 G W 0 bu (ns)) ∧ (Own eInt 3 G W 0 bv (bs)) ∧ (Bx G W b [bu, bv])) _ ⟨_, 0, is, (pS 7 (pS 6 (pS 5 (pS 4 (pU 0))))), rfl, ab, Nat.zero_le _, hnis, rfl, x, au, av, aw⟩ ?_)
 rintro cf _ cg ⟨d, i, h, rfl, ch, q, hii, ax, ay, ac, f, az, ad⟩
 refine zB (zB (zC ?_))
 refine qM (vJ (i : Int)) ?_
 refine qM (vP b) ?_
 refine qD rfl (yU rfl) (qD rfl (zK (k := 0) rfl dI rfl nz24 rfl) (qD rfl (zL (u := bu) ag24 rfl (ad.cell (o := 0) rfl)) (qM (vJ z) ?_)))
 refine qD rfl (zJ dC sz69 (v := bu) rfl rfl f.read (by omega) (by omega)) (qD rfl (xF (off := 0) dF rfl rfl nz48 (z := z) (k := 0) rfl f.read (by omega) (by omega)) ?_)
 obtain ⟨bi, a0, bj⟩ := kA (f.at (z := z) (by omega) (by omega)) (j := (z).toNat) rfl
 have ci := a0.max
 refine qD rfl (bj ag48 rfl (Gadd.pins q.pins bu)) (qD rfl (zP dB (v := bi) rfl a0) (qD rfl (yX rfl rfl) (qe (zA ?_))))
 refine yC (p := ((i : Int) : Int) < (((ns.getD (z).toNat default).l).length : Int)) rfl rfl (fun bk => ?_) (fun bk => ?_)
 have hk := hoo.left (j := (z).toNat) (i := i) (by omega) (by omega)
 refine wp_skip (zA (zB ?_))
 refine zW (zC (qM a ?_))
 refine qM (vP b) ?_
 refine qD rfl (yU rfl) (qD rfl (zK (k := 0) rfl dI rfl nz24 rfl) (qD rfl (zL (u := bu) ag24 rfl (ad.cell (o := 0) rfl)) (qM (vJ z) ?_)))
 refine qD rfl (zJ dC sz69 (v := bu) rfl rfl f.read (by omega) (by omega)) (qD rfl (xF (off := 0) dF rfl rfl nz48 (z := z) (k := 0) rfl f.read (by omega) (by omega)) ?_)
 obtain ⟨bl, ap, bm⟩ := kA (f.at (z := z) (by omega) (by omega)) (j := (z).toNat) rfl
 have cj := ap.max
 refine qD rfl (bm ag48 rfl (Gadd.pins q.pins bu)) (qM (vJ (i : Int)) ?_)
 refine qD rfl (zJ dB sz3 (v := bl) rfl rfl ap (by omega) (by omega)) (qD rfl (zI (r := ((ns.getD (z).toNat default).l).getD i 0) rfl ag3 (z := (i : Int)) rfl ap q.pins (by omega) (by omega)) (qD rfl (zJ dS sz4 (v := a) rfl rfl ac.read (by omega) (by omega)) (q0 rfl rfl rfl (fD (E := eBool) (v := a) (u := (.bool true)) (z := (((ns.getD (z).toNat default).l).getD i 0)) (true) sz4 rfl rfl rfl rfl q.pins ac (by omega) (by omega) (fun ck bn bo ae cl => ?_)))))
 have bp := q.write bo ae ((yH ac))
 have bq := f.keptA ae ak.symm
 have br := az.keptA ae al.symm
 have bt := ad.keptA ae am.symm
 refine qe (yA (zA (zC ?_)))
 refine qM (vJ (i : Int)) ?_
 refine qD rfl (yJ rfl rfl (by omega)) (qM (vJ ((i : Int) + 1)) ?_)
 refine qe (yD (⟨_, ?_, _, rfl, _, i + 1, h.set ((ns.getD (z).toNat default).l.getD i 0).toNat true, (pS 7 (pS 6 (pS 5 (pS 4 (pU 0))))), rfl, bp, (by omega), ((List.length_set ..).trans ax), (ay.trans (kZ (by omega))), bn, bq, br, bt⟩))
 omega
 refine wp_exit (zV (yK (yE (zA (zB (zC ?_))))))
 refine qM (vJ 0) ?_
 refine qe (zA ?_)
 refine zW (yS (fun k en W => ∃ (d : Nat → Value) (c : Nat) (s : List Bool), en = (upd (upd (upd (upd (upd d 0 (vP b)) 4 vN) 5 a) 6 (vJ z)) 8 (vJ (c : Int))) ∧ k = (ns.getD (z).toNat default).r.length - c ∧ Ext noS G w G W ∧ (c ≤ (ns.getD (z).toNat default).r.length) ∧ (s.length = m.toNat + 1) ∧ (setAll h (ns.getD (z).toNat default).r = setAll s ((ns.getD (z).toNat default).r.drop c)) ∧ (Own eBool 4 G W w.heap.size a (s)) ∧ (Own eNode 69 G W 0 bu (ns)) ∧ (Own eInt 3 G W 0 bv (bs)) ∧ (Bx G W b [bu, bv])) _ ⟨_, 0, h, (pS 8 (pS 6 (pS 5 (pS 4 (pU 0))))), rfl, q, Nat.zero_le _, ax, rfl, ac, f, az, ad⟩ ?_)
 rintro cm _ cn ⟨d, c, s, rfl, co, t, cp, a1, a2, af, g, a3, ag⟩
 refine zB (zB (zC ?_))
 refine qM (vJ (c : Int)) ?_
 refine qM (vP b) ?_
 refine qD rfl (yU rfl) (qD rfl (zK (k := 0) rfl dI rfl nz24 rfl) (qD rfl (zL (u := bu) ag24 rfl (ag.cell (o := 0) rfl)) (qM (vJ z) ?_)))
 refine qD rfl (zJ dC sz69 (v := bu) rfl rfl g.read (by omega) (by omega)) (qD rfl (xF (off := 1) dF rfl rfl nz48 (z := z) (k := 0) rfl g.read (by omega) (by omega)) ?_)
 obtain ⟨bw, a4, bz⟩ := kE (g.at (z := z) (by omega) (by omega)) (j := (z).toNat) rfl
 have cq := a4.max
 refine qD rfl (bz ag48 rfl (Gadd.pins t.pins bu)) (qD rfl (zP dB (v := bw) rfl a4) (qD rfl (yX rfl rfl) (qe (zA ?_))))
 refine yC (p := ((c : Int) : Int) < (((ns.getD (z).toNat default).r).length : Int)) rfl rfl (fun b0 => ?_) (fun b0 => ?_)
 have hk := hoo.right (j := (z).toNat) (i := c) (by omega) (by omega)
 refine wp_skip (zA (zB ?_))
 refine zW (zC (qM a ?_))
 refine qM (vP b) ?_
 refine qD rfl (yU rfl) (qD rfl (zK (k := 0) rfl dI rfl nz24 rfl) (qD rfl (zL (u := bu) ag24 rfl (ag.cell (o := 0) rfl)) (qM (vJ z) ?_)))
 refine qD rfl (zJ dC sz69 (v := bu) rfl rfl g.read (by omega) (by omega)) (qD rfl (xF (off := 1) dF rfl rfl nz48 (z := z) (k := 0) rfl g.read (by omega) (by omega)) ?_)
 obtain ⟨b1, aq, b2⟩ := kE (g.at (z := z) (by omega) (by omega)) (j := (z).toNat) rfl
 have cr := aq.max
 refine qD rfl (b2 ag48 rfl (Gadd.pins t.pins bu)) (qM (vJ (c : Int)) ?_)
 refine qD rfl (zJ dB sz3 (v := b1) rfl rfl aq (by omega) (by omega)) (qD rfl (zI (r := ((ns.getD (z).toNat default).r).getD c 0) rfl ag3 (z := (c : Int)) rfl aq t.pins (by omega) (by omega)) (qD rfl (zJ dS sz4 (v := a) rfl rfl af.read (by omega) (by omega)) (q0 rfl rfl rfl (fD (E := eBool) (v := a) (u := (.bool true)) (z := (((ns.getD (z).toNat default).r).getD c 0)) (true) sz4 rfl rfl rfl rfl t.pins af (by omega) (by omega) (fun cs b3 b4 ah ct => ?_)))))
 have b5 := t.write b4 ah ((yH af))
 have b6 := g.keptA ah ak.symm
 have b7 := a3.keptA ah al.symm
 have b8 := ag.keptA ah am.symm
 refine qe (yA (zA (zC ?_)))
 refine qM (vJ (c : Int)) ?_
 refine qD rfl (yJ rfl rfl (by omega)) (qM (vJ ((c : Int) + 1)) ?_)
 refine qe (yD (⟨_, ?_, _, rfl, _, c + 1, s.set ((ns.getD (z).toNat default).r.getD c 0).toNat true, (pS 8 (pS 6 (pS 5 (pS 4 (pU 0))))), rfl, b5, (by omega), ((List.length_set ..).trans a1), (a2.trans (kZ (by omega))), b3, b6, b7, b8⟩))
 omega
 refine wp_exit (zV (yK (yE (yA (zA (zC ?_))))))
 refine qM (vJ z) ?_
 refine qD rfl (qC rfl rfl (by omega)) (qM (vJ (z - 1)) ?_)
 refine qe (yD (⟨_, ?_, _, rfl, _, z - 1, s, (pS 6 (pS 5 (pS 4 (pU 0)))), rfl, t, (by omega), a1, (hr.trans ((rP (by omega)).trans (by rw [tH ao, ay, fX (by omega), a2, fX (by omega)]))), af, g, a3, ag⟩))
 omega
 refine wp_exit (zV (yE (zA (zC ?_))))
 refine qM (vJ z) ?_
 refine qD rfl (qC rfl rfl (by omega)) (qM (vJ (z - 1)) ?_)
 refine qe (yD (⟨_, ?_, _, rfl, _, z - 1, is, (pS 6 (pS 5 (pS 4 (pU 0)))), rfl, ab, (by omega), hnis, (hr.trans ((rP (by omega)).trans (by rw [sB ao]))), x, au, av, aw⟩))
 omega
 refine wp_exit (zV (yK (yE (zA (zB (zC ?_))))))
 refine qM a ?_
 refine qM a ?_
 refine qe (zA ?_)
 exact wp_ret (zO (zQ (v := a) rfl rfl rfl (⟨_, _, rfl, (by rw [hr, ugo_end (by omega)]; exact x), ab⟩)))
theorem form_own {w : World} (hP : Pins G w) (hB : Bk 69 3 G w b bu bv ns bs) (hok : BookOk ns bs) (hm : 0 ≤ m ∧ m < ns.length) :
  Calls Tryz.prog 48 [(vP b), (vJ m)].toArray w fun e w' => ∃ (u : Value) (G' : Pin), e = .returned (.agg [u].toArray) ∧ RSl eNode G' u (formM ns bs m.toNat) ∧ Ext noS G w G' w' ∧ ∃ Gi, Own eNode 69 Gi w' w.heap.size u (formM ns bs m.toNat) ∧ Pin.le Gi G' := by
 refine zU (n := 143) Tryz.func48 Tryz.ntmps48 rfl rfl ?_
 have iq := exr noS hP
 have hbx := hB.bx
 have hou := hB.ou
 have hov := hB.ov
 have habu := hB.abu
 have habv := hB.abv
 have hauv := hB.auv
 have hlob : Lo w (inS b bu bv) (some b) := lo_b
 have hlou : Lo w (inS b bu bv) bu.ownBlock := lo_u
 have hlov : Lo w (inS b bu bv) bv.ownBlock := lo_v
 have hlen := hok.len
 have hlim := hok.lim
 have hoo : OptsOk ns := hok.optsOk
 refine zB (zC ?_)
 refine qI rfl (yM [vN] zr26 rfl iq.pins (fun b1 w2 hk3 mj hp5 gm => ?_))
 have ir := iq.step hp5 gm
 have it := hou.below gm
 have iu := hov.below gm
 have iv := hbx.below gm
 have aac : w.heap.size ≤ b1 := by have := iq.size; omega
 refine qe (zA (zB (zC ?_)))
 refine qM (vP b) ?_
 refine qM (vJ m) ?_
 refine qI rfl (zF (vs := [(vP b), (vJ m)]) Tryz.func69 nm69 rfl rfl rfl ?_)
 refine dY (reached_spec ir.pins ⟨iv, it, iu, habu, habv, hauv⟩ hok hm) ?_
 rintro _ w17 ⟨aw, G16, rfl, fy, fz⟩
 refine ⟨_, rfl, ?_⟩
 have aaf := ir.tr fz
 have aag := it.ext fz
 have aah := iu.ext fz
 have aai := iv.ext fz
 have aaj := mj.ext fz
 have aak := yB fy.lt it.lt
 have aal := yB fy.lt iu.lt
 have aam := yF fy.lt iv.lt
 have aan := yF fy.lt mj.lt
 have aao := fy.weaken ir.size
 obtain ⟨gn, mk, iw, ml, gp⟩ := aao.sealed aaf
 have mm := aag.moreO mk gp aak.symm
 have mn := aah.moreO mk gp aal.symm
 have mo := aai.moreO gp aam.symm
 have mp := aaj.moreO gp aan.symm
 have hnl := fY ns m.toNat
 refine qM aw ?_
 refine qe (zA (zB (zC ?_)))
 refine qM (vJ m) ?_
 refine qD rfl (yJ rfl rfl (by omega)) (qI rfl (nF (E := eInt) 0 8 (vJ 0) dB mk3 (fun _ => rfl) rfl rfl iw.pins (by omega) (by omega) (by omega) (fun ix w40 aaq aar f0 gq => ?_)))
 have iy := iw.step aar f0
 have mq := mm.below f0
 have mr := mn.below f0
 have ms := mo.below f0
 have mt := mp.below f0
 have aas := zG gq mm.lt
 have aat := zG gq mn.lt
 have aau := zH gq mo.lt
 have aav := zH gq mp.lt
 have mu : Own eInt 3 gn w40 w.heap.size ix (List.replicate (m + 1).toNat 0) := aaq.weaken iw.size
 have avc : (List.replicate (m + 1).toNat 0).length = (m + 1).toNat := List.length_replicate ..
 refine qM ix ?_
 refine qe (zA (zB (zC ?_)))
 refine qI rfl (xC (E := eNode) (e := 69) dC sz69 iy.pins (fun ct w57 aax aay ff f1 => ?_))
 have iz := iy.step aay ff
 have mv := mq.below ff
 have mw := mr.below ff
 have mx := mu.below ff
 have my := ms.below ff
 have mz := mt.below ff
 have aaz := zG f1 mq.lt
 have aa0 := zG f1 mr.lt
 have aa1 := zG f1 mu.lt
 have aa2 := zH f1 ms.lt
 have aa3 := zH f1 mt.lt
 have i0 := aax.weaken iy.size
 refine qD rfl (xB [vN] [ct] [(0, ct, [ct])] dE zr26 rfl pl26 rfl (List.forall_mem_cons.2 ⟨(xM i0.one), (fun _ h => by cases h)⟩) rfl) (qI rfl (yM [vN] zr26 rfl iz.pins (fun y w75 fg aa4 aa5 d2 => ?_)))
 have m0 := iz.step aa5 d2
 have aa6 := mv.below d2
 have aa7 := mw.below d2
 have aa8 := mx.below d2
 have m1 := i0.below d2
 have aa9 := my.below d2
 have aba := mz.below d2
 have m2 := zG (congrArg some fg) mv.lt
 have m3 := zG (congrArg some fg) mw.lt
 have m4 := zG (congrArg some fg) mx.lt
 have m5 := zG (congrArg some fg) i0.lt
 have m6 := zH (congrArg some fg) my.lt
 have m7 := zH (congrArg some fg) mz.lt
 have m8 : w.heap.size ≤ y := by have := iz.size; omega
 refine q0 rfl rfl rfl (o_stp (cs' := [ct]) (us := [ct]) (v := (.agg [ct].toArray)) sz26 rfl rfl rfl (yO m1.one) m0.pins aa4 (dZ rfl) rfl (fun w94 abb abc d3 avf => ?_))
 have abd := m0.write abc d3 ((zY m8))
 have abe := aa6.keptA d3 m2.symm
 have abf := aa7.keptA d3 m3.symm
 have abg := aa8.keptA d3 m4.symm
 have abh := m1.keptA d3 m5.symm
 have abi := aa9.keptA d3 m6.symm
 have abj := aba.keptA d3 m7.symm
 refine qe (zA (zB (zB (zC ?_))))
 refine qM (vJ 0) ?_
 refine qe (zA ?_)
 refine zW (yS (fun k en W => ∃ (ab : Nat → Value) (q : Nat) (at_ : Value) (ats : List Int) (ov : Value) (outs : List Nd) (aq : Pin), en = (upd (upd (upd (upd (upd (upd (upd ab 0 (vP b)) 1 (vJ m)) 4 (vP b1)) 5 aw) 6 at_) 7 (vP y)) 8 (vJ (q : Int))) ∧ k = (bs.getD m.toNat 0).toNat + 1 - q ∧ Ext noS G w aq W ∧ Pin.le gn aq ∧ (q ≤ (bs.getD m.toNat 0).toNat + 1) ∧ (formGo ns bs (reachM ns m.toNat) (m.toNat + 1) q = (ats, outs)) ∧ (ats.length = m.toNat + 1) ∧ (outs.length ≤ q * 1048576) ∧ (Own eInt 3 aq W w.heap.size at_ (ats)) ∧ (Own eNode 69 aq W w.heap.size ov (outs)) ∧ (Own eNode 69 aq W 0 bu (ns)) ∧ (Own eInt 3 aq W 0 bv (bs)) ∧ (Bx aq W b [bu, bv]) ∧ (Bx aq W b1 [vN]) ∧ (Bx aq W y [ov]) ∧ (Apart at_.ownBlock ov.ownBlock) ∧ (Apart at_.ownBlock bu.ownBlock) ∧ (Apart at_.ownBlock bv.ownBlock) ∧ (Apart at_.ownBlock (some b)) ∧ (Apart at_.ownBlock (some b1)) ∧ (Apart at_.ownBlock (some y)) ∧ (Apart ov.ownBlock bu.ownBlock) ∧ (Apart ov.ownBlock bv.ownBlock) ∧ (Apart ov.ownBlock (some b)) ∧ (Apart ov.ownBlock (some b1)) ∧ (Apart ov.ownBlock (some y))) _ ⟨_, 0, ix, List.replicate (m + 1).toNat 0, ct, [], gn, (pS 8 (pS 7 (pS 6 (pS 5 (pS 4 (pS 1 (pU 0))))))), rfl, abd, Pin.le_refl _, Nat.zero_le _, (by rw [show (m + 1).toNat = m.toNat + 1 by omega]; rfl), (by simp; omega), Nat.le_refl 0, abg, abh, abe, abf, abi, abj, abb, aa1.symm, aas, aat, aau, aav, m4.symm, aaz, aa0, aa2, aa3, m5.symm⟩ ?_)
 rintro avg _ avh ⟨ab, q, at_, ats, ov, outs, aq, rfl, avi, fh, m9, hq, hr, hatl, hol, na, gr, nb, gs, i1, i2, i3, abk, abl, abm, abn, abo, abp, abq, abr, abs, nc, abt⟩
 have hbm := hok.born m.toNat (by omega)
 refine zB (zB (zC ?_))
 refine qM (vJ (q : Int)) ?_
 refine qM (vP b) ?_
 refine qD rfl (yU rfl) (qD rfl (zK (k := 1) rfl dI rfl nz48 rfl) (qD rfl (zL (u := bv) ag48 rfl (i1.cell (o := 1) rfl)) (qM (vJ m) ?_)))
 refine qD rfl (zJ dB sz3 (v := bv) rfl rfl gs.read (by omega) (by omega)) (qD rfl (zI (r := bs.getD (m).toNat 0) rfl ag3 (z := m) rfl gs.read (Gadd.pins fh.pins bv) (by omega) (by omega)) (qD rfl (gR rfl rfl) (qe (zA ?_))))
 refine yC (p := ((q : Int) : Int) ≤ (bs.getD (m).toNat 0)) rfl rfl (fun abw => ?_) (fun abw => ?_)
 refine wp_skip (zA (zB ?_))
 refine zW (zB (zC ?_))
 refine qI rfl (xC (E := eNode) (e := 69) dC sz69 fh.pins (fun i5 abx aby abz cu d4 => ?_))
 have i6 := fh.step abz cu
 have nd := na.below cu
 have ne := gr.below cu
 have nf := nb.below cu
 have ng := gs.below cu
 have nh := i1.below cu
 have ni := i2.below cu
 have nj := i3.below cu
 have ab0 := zG d4 na.lt
 have ab1 := zG d4 gr.lt
 have ab2 := zG d4 nb.lt
 have ab3 := zG d4 gs.lt
 have ab4 := zH d4 i1.lt
 have ab5 := zH d4 i2.lt
 have ab6 := zH d4 i3.lt
 have nk := aby.weaken fh.size
 refine qI rfl (xC (E := eInt) (e := 3) dB sz3 i6.pins (fun i7 ab7 ab8 ab9 bp cv => ?_))
 have aca := i6.step ab9 bp
 have acb := nd.below bp
 have acc := ne.below bp
 have acd := nf.below bp
 have ace := ng.below bp
 have acf := nk.below bp
 have acg := nh.below bp
 have ach := ni.below bp
 have aci := nj.below bp
 have acj := zG cv nd.lt
 have ack := zG cv ne.lt
 have acl := zG cv nf.lt
 have acm := zG cv ng.lt
 have acn := zG cv nk.lt
 have aco := zH cv nh.lt
 have acp := zH cv ni.lt
 have acq := zH cv nj.lt
 have acr := ab8.weaken i6.size
 refine qM i5 ?_
 refine qM i7 ?_
 refine qe (zA (zB (zB (zC ?_))))
 refine qM (vJ 0) ?_
 refine qe (zA ?_)
 refine zW ?_
 obtain ⟨avj, d5, acs, act, cw⟩ := acf.sealed aca
 have acu := acb.moreO d5 cw ab0.symm
 have acv := acc.moreO d5 cw ab1.symm
 have acw := acd.moreO d5 cw ab2.symm
 have acx := ace.moreO d5 cw ab3.symm
 have acy := acr.moreO d5 cw acn
 have acz := acg.moreO cw ab4.symm
 have ac0 := ach.moreO cw ab5.symm
 have ac1 := aci.moreO cw ab6.symm
 obtain ⟨nl, d6, ac2, ac3, d7⟩ := acy.sealed acs
 have ac4 := acu.moreO d6 d7 acj.symm
 have ac5 := acv.moreO d6 d7 ack.symm
 have ac6 := acw.moreO d6 d7 acl.symm
 have ac7 := acx.moreO d6 d7 acm.symm
 have ac8 := acz.moreO d7 aco.symm
 have ac9 := ac0.moreO d7 acp.symm
 have ada := ac1.moreO d7 acq.symm
 refine yS (fun k en W => ∃ (ab : Nat → Value) (c : Nat) (lv : Value) (ls : List Nd) (fv : Value) (fr : List Int) (ah : Pin), en = (upd (upd (upd (upd (upd (upd (upd (upd (upd (upd ab 0 (vP b)) 1 (vJ m)) 4 (vP b1)) 5 aw) 6 at_) 7 (vP y)) 8 (vJ (q : Int))) 9 lv) 10 fv) 11 (vJ (c : Int))) ∧ k = m.toNat + 1 - c ∧ Ext noS G w ah W ∧ Pin.le nl ah ∧ (c ≤ m.toNat + 1) ∧ (lvM ns bs (reachM ns m.toNat) ats q c = (ls, fr)) ∧ (ls.length = fr.length ∧ ls.length ≤ c) ∧ (∀ i, i < fr.length → 0 ≤ fr.getD i 0 ∧ fr.getD i 0 ≤ m) ∧ (Own eInt 3 ah W w.heap.size at_ (ats)) ∧ (Own eNode 69 ah W w.heap.size ov (outs)) ∧ (Own eNode 69 ah W 0 bu (ns)) ∧ (Own eInt 3 ah W 0 bv (bs)) ∧ (Bx ah W b [bu, bv]) ∧ (Bx ah W b1 [vN]) ∧ (Bx ah W y [ov]) ∧ (RSl eNode ah lv (ls)) ∧ (RSl eInt ah fv (fr))) _ ⟨_, 0, i5, [], i7, [], nl, (pS 11 (pS 10 (pS 9 (pS 8 (pS 7 (pS 6 (pS 5 (pS 4 (pS 1 (pU 0)))))))))), rfl, ac2, Pin.le_refl _, Nat.zero_le _, rfl, ⟨rfl, Nat.le_refl 0⟩, (fun i hi => absurd hi (Nat.not_lt_zero i)), ac4, ac5, ac6, ac7, ac8, ac9, ada, (act.mono d6), ac3⟩ ?_
 rintro avk _ gt ⟨ab, c, lv, ls, fv, fr, ah, rfl, avl, cx, f2, hk5, hrl, hll, hfb, gu, gv, d8, fi, f3, gw, gx, be, fj⟩
 refine zB (zB (zC ?_))
 refine qM (vJ (c : Int)) ?_
 refine qM (vJ m) ?_
 refine qD rfl (gR rfl rfl) (qe (zA ?_))
 refine yC (p := ((c : Int) : Int) ≤ m) rfl rfl (fun adb => ?_) (fun adb => ?_)
 have hlk := hok.lens c (by omega)
 refine wp_skip (zA (zB ?_))
 refine zW (zB (zB (zC ?_)))
 refine qM aw ?_
 refine qM (vJ (c : Int)) ?_
 refine qD rfl (zJ dS sz4 (v := aw) rfl rfl ml (by omega) (by omega)) (qD rfl (vU (r := (reachM ns (m).toNat).getD c false) rfl ag4 (z := (c : Int)) rfl ml (dX cx.pins (dW (dW (dW m9 d5) d6) f2)) (by omega) (by omega)) (qD rfl (xR rfl) (qM (.bool (!((reachM ns (m).toNat).getD c false))) ?_)))
 refine qbn (t := 46) rfl (fun i8 => ?_) (fun i8 => ?_)
 refine qN (zR (v := (vP b)) rfl) ?_
 refine qN (yU rfl) ?_
 refine qN (zK (k := 1) rfl dI rfl nz48 rfl) ?_
 refine qN (zL (u := bv) ag48 rfl (f3.cell (o := 1) rfl)) ?_
 refine qN (zR (v := (vJ (c : Int))) rfl) ?_
 refine qN (zJ dB sz3 (v := bv) rfl rfl fi.read (by omega) (by omega)) ?_
 refine qN (zI (r := bs.getD c 0) rfl ag3 (z := (c : Int)) rfl fi.read (Gadd.pins cx.pins bv) (by omega) (by omega)) ?_
 refine qN (zR (v := (vJ (q : Int))) rfl) ?_
 refine qN (gQ rfl rfl) ?_
 refine qD rfl (yI (v := (.bool (decide ((bs.getD c 0 : Int) ≠ (q : Int))))) rfl rfl) (qe (zA ?_))
 refine yC (p := (bs.getD c 0 : Int) ≠ (q : Int)) rfl rfl (fun adc => ?_) (fun adc => ?_)
 refine wp_exit (zV (yE (zA (zC ?_))))
 refine qM (vJ (c : Int)) ?_
 refine qD rfl (yJ rfl rfl (by omega)) (qM (vJ ((c : Int) + 1)) ?_)
 refine qe (yD (⟨_, ?_, _, rfl, _, c + 1, lv, ls, fv, fr, ah, (pS 11 (pS 10 (pS 9 (pS 8 (pS 7 (pS 6 (pS 5 (pS 4 (pS 1 (pU 0)))))))))), rfl, cx, f2, (by omega), (lv_skip hrl (fun g => by have := g.2; omega)), (by omega), hfb, gu, gv, d8, fi, f3, gw, gx, be, fj⟩))
 omega
 refine wp_skip (zA (zB ?_))
 refine c_cut (fun (en : Nat → Value) (W : World) => ∃ (ab : Nat → Value) (f4 : Nat) (bq : Value) (br : Value) (ak : Pin), en = (upd (upd (upd (upd (upd (upd (upd (upd (upd (upd (upd ab 0 (vP b)) 1 (vJ m)) 4 (vP b1)) 5 aw) 6 at_) 7 (vP y)) 8 (vJ (q : Int))) 9 lv) 10 fv) 11 (vJ (c : Int))) 12 (vP f4)) ∧ Ext noS G w ak W ∧ Pin.le ah ak ∧ (RSl eInt ak bq (sortL (atL ats ((ns.getD c default).l)))) ∧ (RSl eInt ak br (sortL (atL ats ((ns.getD c default).r)))) ∧ (Own eInt 3 ak W w.heap.size at_ ats) ∧ (Own eNode 69 ak W w.heap.size ov outs) ∧ (Own eNode 69 ak W 0 bu ns) ∧ (Own eInt 3 ak W 0 bv bs) ∧ (Bx ak W b [bu, bv]) ∧ (Bx ak W b1 [vN]) ∧ (Bx ak W y [ov]) ∧ (BxP ak f4 [bq, br])) ?_ ?_
 ·rintro _ avn ⟨ab, f4, bq, br, ak, rfl, add, al, gy, gz, ade, adf, adg, adh, adi, adj, adk, nm⟩
  refine zA (zB (zC ?_))
  refine qM (vJ 0) ?_
  refine qe (zA (zB ?_))
  refine zW (c_cutE (fun (en : Nat → Value) (W : World) => ∃ (ab : Nat → Value) (i : Nat) (d : Pin), en = (upd (upd (upd (upd (upd (upd (upd (upd (upd (upd (upd (upd ab 0 (vP b)) 1 (vJ m)) 4 (vP b1)) 5 aw) 6 at_) 7 (vP y)) 8 (vJ (q : Int))) 9 lv) 10 fv) 11 (vJ (c : Int))) 12 (vP f4)) 13 (vJ (i : Int))) ∧ Ext noS G w d W ∧ Pin.le ak d ∧ (i ≤ ls.length) ∧ (posM ls (ndAt ats (ns.getD c default)) = i) ∧ (Own eInt 3 d W w.heap.size at_ (ats)) ∧ (Own eNode 69 d W w.heap.size ov (outs)) ∧ (Own eNode 69 d W 0 bu (ns)) ∧ (Own eInt 3 d W 0 bv (bs)) ∧ (Bx d W b [bu, bv]) ∧ (Bx d W b1 [vN]) ∧ (Bx d W y [ov])) 4 ?_ ?_)
  ·rintro _ d9 ⟨ab, i, d, rfl, f5, f, hi, hpe, i9, ja, jb, jc, jd, je, jf⟩
   refine yE (zA (zB ?_))
   refine c_cut (fun (en : Nat → Value) (W : World) => ∃ (ab : Nat → Value) (ao : Value) (ad : Pin), en = (upd (upd (upd (upd (upd (upd (upd (upd (upd (upd (upd ab 0 (vP b)) 1 (vJ m)) 4 (vP b1)) 5 aw) 6 at_) 7 (vP y)) 8 (vJ (q : Int))) 9 ao) 10 fv) 11 (vJ (c : Int))) 13 (vJ (i : Int))) ∧ Ext noS G w ad W ∧ Pin.le d ad ∧ (Own eInt 3 ad W w.heap.size at_ ats) ∧ (Own eNode 69 ad W w.heap.size ov outs) ∧ (Own eNode 69 ad W 0 bu ns) ∧ (Own eInt 3 ad W 0 bv bs) ∧ (Own eNode 69 ad W w.heap.size ao (((([]) ++ ((ls.take i).drop 0)) ++ ([(⟨sortL (atL ats ((ns.getD c default).l)), sortL (atL ats ((ns.getD c default).r))⟩ : Nd)])) ++ ((ls.take ls.length).drop i))) ∧ (Bx ad W b [bu, bv]) ∧ (Bx ad W b1 [vN]) ∧ (Bx ad W y [ov]) ∧ (Apart at_.ownBlock ao.ownBlock) ∧ (Apart ov.ownBlock ao.ownBlock) ∧ (Apart bu.ownBlock ao.ownBlock) ∧ (Apart bv.ownBlock ao.ownBlock) ∧ (Apart ao.ownBlock (some b)) ∧ (Apart ao.ownBlock (some b1)) ∧ (Apart ao.ownBlock (some y))) ?_ ?_
   ·rintro _ jg ⟨ab, ao, ad, rfl, nn, ea, adl, adm, adn, ado, adp, adq, adr, ads, adt, adu, adv, adw, adx, ady, adz⟩
    refine zA (c_cut (fun (en : Nat → Value) (W : World) => ∃ (ab : Nat → Value) (ax : Value) (ay : Pin), en = (upd (upd (upd (upd (upd (upd (upd (upd (upd (upd ab 0 (vP b)) 1 (vJ m)) 4 (vP b1)) 5 aw) 6 at_) 7 (vP y)) 8 (vJ (q : Int))) 9 ao) 10 ax) 11 (vJ (c : Int))) ∧ Ext noS G w ay W ∧ Pin.le ad ay ∧ (Own eInt 3 ay W w.heap.size at_ ats) ∧ (Own eNode 69 ay W w.heap.size ov outs) ∧ (Own eNode 69 ay W 0 bu ns) ∧ (Own eInt 3 ay W 0 bv bs) ∧ (Own eNode 69 ay W w.heap.size ao (((([]) ++ ((ls.take i).drop 0)) ++ ([(⟨sortL (atL ats ((ns.getD c default).l)), sortL (atL ats ((ns.getD c default).r))⟩ : Nd)])) ++ ((ls.take ls.length).drop i))) ∧ (Own eInt 3 ay W w.heap.size ax (((([]) ++ ((fr.take i).drop 0)) ++ ([(c : Int)])) ++ ((fr.take fr.length).drop i))) ∧ (Bx ay W b [bu, bv]) ∧ (Bx ay W b1 [vN]) ∧ (Bx ay W y [ov]) ∧ (Apart at_.ownBlock ax.ownBlock) ∧ (Apart ov.ownBlock ax.ownBlock) ∧ (Apart bu.ownBlock ax.ownBlock) ∧ (Apart bv.ownBlock ax.ownBlock) ∧ (Apart ao.ownBlock ax.ownBlock) ∧ (Apart ax.ownBlock (some b)) ∧ (Apart ax.ownBlock (some b1)) ∧ (Apart ax.ownBlock (some y))) ?_ ?_)
    ·rintro _ avo ⟨ab, ax, ay, rfl, ad0, ad1, ad2, ad3, ad4, ad5, ad6, ad7, ad8, ad9, aea, aeb, aec, aed, aee, aef, aeg, aeh, aei⟩
     refine yA (zA (zC ?_))
     refine qM (vJ (c : Int)) ?_
     refine qD rfl (yJ rfl rfl (by omega)) (qM (vJ ((c : Int) + 1)) ?_)
     refine qe (yD ?_)
     obtain ⟨avp, fk, aej, aek, cy⟩ := ad6.sealed ad0
     have ael := ad2.moreO fk cy adt
     have aem := ad3.moreO fk cy adu
     have aen := ad4.moreO fk cy adv
     have aeo := ad5.moreO fk cy adw
     have aep := ad7.moreO fk cy aef.symm
     have aeq := ad8.moreO cy adx.symm
     have aer := ad9.moreO cy ady.symm
     have aes := aea.moreO cy adz.symm
     obtain ⟨aet, fl, aeu, aev, eb⟩ := aep.sealed aej
     have aew := ael.moreO fl eb aeb
     have aex := aem.moreO fl eb aec
     have aey := aen.moreO fl eb aed
     have aez := aeo.moreO fl eb aee
     have ae0 := aeq.moreO eb aeg.symm
     have ae1 := aer.moreO eb aeh.symm
     have ae2 := aes.moreO eb aei.symm
     have jh := ins_len (x := ndAt ats (ns.getD c default)) (l := ls) (i := i) (by omega)
     have hi2 := ins_len (x := (c : Int)) (l := fr) (i := i) (by omega)
     refine ⟨_, ?_, _, rfl, _, c + 1, ao, ((([]) ++ ((ls.take i).drop 0)) ++ ([(⟨sortL (atL ats ((ns.getD c default).l)), sortL (atL ats ((ns.getD c default).r))⟩ : Nd)])) ++ ((ls.take ls.length).drop i), ax, ((([]) ++ ((fr.take i).drop 0)) ++ ([(c : Int)])) ++ ((fr.take fr.length).drop i), aet, (pS 11 (pS 10 (pS 9 (pS 8 (pS 7 (pS 6 (pS 5 (pS 4 (pS 1 (pU 0)))))))))), rfl, aeu, (dW (dW (dW (dW (dW (dW f2 al) f) ea) ad1) fk) fl), (by omega), (lv_ins hrl i8 (by omega) hpe), ⟨jh.trans ((congrArg (· + 1) hll.1).trans hi2.symm), (by have : _ = _ := jh; exact Nat.le_trans (Nat.le_of_eq jh) (by omega))⟩, (ins_all (P := fun x => 0 ≤ x ∧ x ≤ m) hfb (by omega)), aew, aex, aey, aez, ae0, ae1, ae2, (aek.mono fl), aev⟩
     omega
    refine yZ (S := fun wz => Pins ad wz) (last := 13) (by kernel_rfl) rfl ?_
    have bf := bdr jg
    have ae4 := nn.pins.below bf
    have ar := nn.step ae4 bf
    have ji := adl.below bf
    have jj := adm.below bf
    have jk := adn.below bf
    have jl := ado.below bf
    have jm := adp.below bf
    have jn := adq.below bf
    have jo := adr.below bf
    have jp := ads.below bf
    refine dM 1 fv ar.pins ?_
    refine dM 2 (vJ (i : Int)) ar.pins ?_
    obtain ⟨jq, jr, ae5⟩ := jC fj (lo := none) (hi := (some ((i : Int)))) (0) (i) (Or.inl ⟨rfl, rfl⟩) (Or.inr ⟨_, rfl, (by omega), rfl⟩) (by omega) (by omega)
    refine dT (i := 3) rfl rfl (by kernel_rfl) (fun _ _ => ae5 dB sz3 rfl rfl rfl) ar.pins ?_
    refine dM 5 (vJ (c : Int)) ar.pins ?_
    refine dM 8 fv ar.pins ?_
    refine dM 9 (vJ (i : Int)) ar.pins ?_
    obtain ⟨js, jt, ae6⟩ := jC fj (lo := (some ((i : Int)))) (hi := none) (i) (fr.length) (Or.inr ⟨_, rfl, (by omega), rfl⟩) (Or.inl ⟨rfl, rfl⟩) (by omega) (by omega)
    refine dT (i := 10) rfl rfl (by kernel_rfl) (fun _ _ => ae6 dB sz3 rfl rfl rfl) ar.pins ?_
    refine jJ (i := 0) (j := 6) (by kernel_rfl) ?_ ?_
    refine (zS (i := 0) rfl rfl rfl (zD rfl _) (xC (E := eInt) (e := 3) dB sz3 ar.pins (fun ju ae7 ae8 ae9 bt cz => ?_)))
    have c0 := ar.step ae9 bt
    have jv := ji.below bt
    have jw := jj.below bt
    have jx := jk.below bt
    have jy := jl.below bt
    have jz := jm.below bt
    have j0 := jn.below bt
    have j1 := jo.below bt
    have j2 := jp.below bt
    have g0 := zG cz ji.lt
    have g1 := zG cz jj.lt
    have g2 := zG cz jk.lt
    have g3 := zG cz jl.lt
    have g4 := zG cz jm.lt
    have g5 := zH cz jn.lt
    have g6 := zH cz jo.lt
    have g7 := zH cz jp.lt
    have g8 := ae8.weaken ar.size
    refine ⟨fun _ => c0.pins, ?_⟩
    refine jJ (i := 4) (j := 6) (by kernel_rfl) ?_ ?_
    refine (zS (i := 4) rfl rfl rfl (zD rfl _) (oA (E := eInt) (v := ju) (u := jq) 8 dB ap3 (by decide) rfl rfl c0.pins g8 ((jr.mono (dW (dW al f) ea)).src c0.pins (by decide)) (c0.size) (fun afa avq afb afc bw c1 => ?_)))
    have g9 := c0.write afc bw ((yH g8))
    have afd := jv.keptA bw g0.symm
    have afe := jw.keptA bw g1.symm
    have aff := jx.keptA bw g2.symm
    have afg := jy.keptA bw g3.symm
    have afh := jz.keptA bw g4.symm
    have afi := j0.keptA bw g5.symm
    have afj := j1.keptA bw g6.symm
    have afk := j2.keptA bw g7.symm
    have no := zE g0.symm c1 jv.lt
    have np := zE g1.symm c1 jw.lt
    have nq := zE g2.symm c1 jx.lt
    have nr := zE g3.symm c1 jy.lt
    have nt := zE g4.symm c1 jz.lt
    have nu := zN g5.symm c1 j0.lt
    have nv := zN g6.symm c1 j1.lt
    have nw := zN g7.symm c1 j2.lt
    have avr := la2 ([]) ((fr.take i).drop 0)
    refine ⟨fun _ => g9.pins, ?_⟩
    refine dO (i := 6) (zS (i := 6) rfl rfl rfl (zD rfl _) (yG (E := eInt) (e := 3) [(vJ (c : Int))] [(c : Int)] dB sz3 zr3 (by exact xK (by rfl)) (yO (by rfl)) rfl rfl rfl rfl (by decide) g9.pins (fun nx afl afm afn bg avs => ?_)))
    have ha := g9.step afn bg
    have ny := afd.below bg
    have nz := afe.below bg
    have n0 := aff.below bg
    have n1 := afg.below bg
    have n2 := afh.below bg
    have n3 := afb.below bg
    have n4 := afi.below bg
    have n5 := afj.below bg
    have n6 := afk.below bg
    have afo := afm.weaken g9.size
    refine ⟨fun _ => ha.pins, ?_⟩
    refine dO (i := 7) (zS (i := 7) rfl rfl rfl (zD rfl _) (oA (E := eInt) (v := afa) (u := nx) 8 dB ap3 (by decide) rfl rfl ha.pins n3 afo.src (ha.size) (fun afp avt n7 afq bz c2 => ?_)))
    have f6 := ha.write afq bz ((yH n3))
    have n8 := ny.keptA bz no
    have n9 := nz.keptA bz np
    have oa := n0.keptA bz nq
    have ob := n1.keptA bz nr
    have oc := n2.keptA bz nt
    have od := n4.keptA bz nu
    have oe := n5.keptA bz nv
    have og := n6.keptA bz nw
    have oh := zE no c2 ny.lt
    have oi := zE np c2 nz.lt
    have oj := zE nq c2 n0.lt
    have ok := zE nr c2 n1.lt
    have ol := zE nt c2 n2.lt
    have om := zN nu c2 n4.lt
    have oo := zN nv c2 n5.lt
    have op := zN nw c2 n6.lt
    have avu := la1 (([]) ++ ((fr.take i).drop 0)) (c : Int)
    refine ⟨fun _ => f6.pins, ?_⟩
    refine dO (i := 11) (zS (i := 11) rfl rfl rfl (zD rfl _) (oA (E := eInt) (v := afp) (u := js) 8 dB ap3 (by decide) rfl rfl f6.pins n7 ((jt.mono (dW (dW al f) ea)).src f6.pins (by decide)) (f6.size) (fun oq avv afr afs b0 c3 => ?_)))
    have j3 := f6.write afs b0 ((yH n7))
    have aft := n8.keptA b0 oh
    have afu := n9.keptA b0 oi
    have afv := oa.keptA b0 oj
    have afw := ob.keptA b0 ok
    have afx := oc.keptA b0 ol
    have afy := od.keptA b0 om
    have afz := oe.keptA b0 oo
    have af0 := og.keptA b0 op
    have af1 := zE oh c3 n8.lt
    have af2 := zE oi c3 n9.lt
    have af3 := zE oj c3 oa.lt
    have af4 := zE ok c3 ob.lt
    have af5 := zE ol c3 oc.lt
    have af6 := zN om c3 od.lt
    have af7 := zN oo c3 oe.lt
    have af8 := zN op c3 og.lt
    have avw := la2 ((([]) ++ ((fr.take i).drop 0)) ++ ([(c : Int)])) ((fr.take fr.length).drop i)
    refine ⟨fun _ => j3.pins, ?_⟩
    refine dM 12 oq j3.pins ?_
    exact yP (by kernel_rfl) (jE ⟨_, oq, ad, (pS 11 (pS 10 (pS 9 (pS 8 (pS 7 (pS 6 (pS 5 (pS 4 (pS 1 (pU 0)))))))))), j3, (Pin.le_refl _), aft, afu, afv, afw, afx, afr, afy, afz, af0, af1, af2, af3, af4, af5, af6.symm, af7.symm, af8.symm⟩)
    refine (zS (i := 6) rfl rfl rfl (zD rfl _) (yG (E := eInt) (e := 3) [(vJ (c : Int))] [(c : Int)] dB sz3 zr3 (by exact xK (by rfl)) (yO (by rfl)) rfl rfl rfl rfl (by decide) c0.pins (fun os af9 aga agb bh agc => ?_)))
    have f7 := c0.step agb bh
    have ot := jv.below bh
    have ow := jw.below bh
    have ox := jx.below bh
    have oy := jy.below bh
    have oz := jz.below bh
    have o0 := g8.below bh
    have o1 := j0.below bh
    have o2 := j1.below bh
    have o3 := j2.below bh
    have agd := zG agc g8.lt
    have age := aga.weaken c0.size
    refine ⟨fun _ => f7.pins, ?_⟩
    refine dO (i := 4) (zS (i := 4) rfl rfl rfl (zD rfl _) (oA (E := eInt) (v := ju) (u := jq) 8 dB ap3 (by decide) rfl rfl f7.pins o0 ((jr.mono (dW (dW al f) ea)).src f7.pins (by decide)) (f7.size) (fun agf avx o4 agh bi c4 => ?_)))
    have hb := f7.write agh bi ((yH o0))
    have o5 := ot.keptA bi g0.symm
    have o6 := ow.keptA bi g1.symm
    have o7 := ox.keptA bi g2.symm
    have o8 := oy.keptA bi g3.symm
    have o9 := oz.keptA bi g4.symm
    have agi := age.keptA bi agd
    have pa := o1.keptA bi g5.symm
    have pb := o2.keptA bi g6.symm
    have pc := o3.keptA bi g7.symm
    have pd := zE g0.symm c4 ot.lt
    have pe := zE g1.symm c4 ow.lt
    have pf := zE g2.symm c4 ox.lt
    have pg := zE g3.symm c4 oy.lt
    have ph := zE g4.symm c4 oz.lt
    have pi := zN g5.symm c4 o1.lt
    have pj := zN g6.symm c4 o2.lt
    have pk := zN g7.symm c4 o3.lt
    have avy := la2 ([]) ((fr.take i).drop 0)
    refine ⟨fun _ => hb.pins, ?_⟩
    refine dO (i := 7) (zS (i := 7) rfl rfl rfl (zD rfl _) (oA (E := eInt) (v := agf) (u := os) 8 dB ap3 (by decide) rfl rfl hb.pins o4 agi.src (hb.size) (fun agj avz pl agk b2 c5 => ?_)))
    have f8 := hb.write agk b2 ((yH o4))
    have pm := o5.keptA b2 pd
    have pn := o6.keptA b2 pe
    have po := o7.keptA b2 pf
    have pp := o8.keptA b2 pg
    have pq := o9.keptA b2 ph
    have pr := pa.keptA b2 pi
    have ps := pb.keptA b2 pj
    have pt := pc.keptA b2 pk
    have pu := zE pd c5 o5.lt
    have pv := zE pe c5 o6.lt
    have pw := zE pf c5 o7.lt
    have px := zE pg c5 o8.lt
    have py := zE ph c5 o9.lt
    have pz := zN pi c5 pa.lt
    have p0 := zN pj c5 pb.lt
    have p1 := zN pk c5 pc.lt
    have av0 := la1 (([]) ++ ((fr.take i).drop 0)) (c : Int)
    refine ⟨fun _ => f8.pins, ?_⟩
    refine dO (i := 11) (zS (i := 11) rfl rfl rfl (zD rfl _) (oA (E := eInt) (v := agj) (u := js) 8 dB ap3 (by decide) rfl rfl f8.pins pl ((jt.mono (dW (dW al f) ea)).src f8.pins (by decide)) (f8.size) (fun p2 av1 agl agm b3 c6 => ?_)))
    have j4 := f8.write agm b3 ((yH pl))
    have agn := pm.keptA b3 pu
    have ago := pn.keptA b3 pv
    have agp := po.keptA b3 pw
    have agq := pp.keptA b3 px
    have agr := pq.keptA b3 py
    have ags := pr.keptA b3 pz
    have agt := ps.keptA b3 p0
    have agu := pt.keptA b3 p1
    have agv := zE pu c6 pm.lt
    have agw := zE pv c6 pn.lt
    have agx := zE pw c6 po.lt
    have agy := zE px c6 pp.lt
    have agz := zE py c6 pq.lt
    have ag0 := zN pz c6 pr.lt
    have ag1 := zN p0 c6 ps.lt
    have ag2 := zN p1 c6 pt.lt
    have av2 := la2 ((([]) ++ ((fr.take i).drop 0)) ++ ([(c : Int)])) ((fr.take fr.length).drop i)
    refine ⟨fun _ => j4.pins, ?_⟩
    refine dM 12 p2 j4.pins ?_
    exact yP (by kernel_rfl) (jE ⟨_, p2, ad, (pS 11 (pS 10 (pS 9 (pS 8 (pS 7 (pS 6 (pS 5 (pS 4 (pS 1 (pU 0)))))))))), j4, (Pin.le_refl _), agn, ago, agp, agq, agr, agl, ags, agt, agu, agv, agw, agx, agy, agz, ag0.symm, ag1.symm, ag2.symm⟩)
    refine (zS (i := 6) rfl rfl rfl (zD rfl _) (yG (E := eInt) (e := 3) [(vJ (c : Int))] [(c : Int)] dB sz3 zr3 (by exact xK (by rfl)) (yO (by rfl)) rfl rfl rfl rfl (by decide) ar.pins (fun p3 ag5 ag6 ag7 b4 av3 => ?_)))
    have hc := ar.step ag7 b4
    have p4 := ji.below b4
    have p5 := jj.below b4
    have p6 := jk.below b4
    have p7 := jl.below b4
    have p8 := jm.below b4
    have p9 := jn.below b4
    have qa := jo.below b4
    have qb := jp.below b4
    have qc := ag6.weaken ar.size
    refine ⟨fun _ => hc.pins, ?_⟩
    refine dO (i := 0) (zS (i := 0) rfl rfl rfl (zD rfl _) (xC (E := eInt) (e := 3) dB sz3 hc.pins (fun qf ag8 ag9 aha bj b5 => ?_)))
    have f9 := hc.step aha bj
    have qg := p4.below bj
    have qh := p5.below bj
    have qi := p6.below bj
    have qj := p7.below bj
    have qk := p8.below bj
    have ahb := qc.below bj
    have ql := p9.below bj
    have qm := qa.below bj
    have qn := qb.below bj
    have qo := zG b5 p4.lt
    have qp := zG b5 p5.lt
    have qq := zG b5 p6.lt
    have qr := zG b5 p7.lt
    have qs := zG b5 p8.lt
    have ahc := zG b5 qc.lt
    have qt := zH b5 p9.lt
    have qu := zH b5 qa.lt
    have qv := zH b5 qb.lt
    have qw := ag9.weaken hc.size
    refine ⟨fun _ => f9.pins, ?_⟩
    refine dO (i := 4) (zS (i := 4) rfl rfl rfl (zD rfl _) (oA (E := eInt) (v := qf) (u := jq) 8 dB ap3 (by decide) rfl rfl f9.pins qw ((jr.mono (dW (dW al f) ea)).src f9.pins (by decide)) (f9.size) (fun ahd av4 qx ahe bk c7 => ?_)))
    have hd := f9.write ahe bk ((yH qw))
    have qy := qg.keptA bk qo.symm
    have qz := qh.keptA bk qp.symm
    have q2 := qi.keptA bk qq.symm
    have q3 := qj.keptA bk qr.symm
    have q4 := qk.keptA bk qs.symm
    have ahf := ahb.keptA bk ahc.symm
    have q5 := ql.keptA bk qt.symm
    have q6 := qm.keptA bk qu.symm
    have q7 := qn.keptA bk qv.symm
    have q8 := zE qo.symm c7 qg.lt
    have q9 := zE qp.symm c7 qh.lt
    have ra := zE qq.symm c7 qi.lt
    have rb := zE qr.symm c7 qj.lt
    have rc := zE qs.symm c7 qk.lt
    have rd := zN qt.symm c7 ql.lt
    have re := zN qu.symm c7 qm.lt
    have rf := zN qv.symm c7 qn.lt
    have av5 := la2 ([]) ((fr.take i).drop 0)
    refine ⟨fun _ => hd.pins, ?_⟩
    refine dO (i := 7) (zS (i := 7) rfl rfl rfl (zD rfl _) (oA (E := eInt) (v := ahd) (u := p3) 8 dB ap3 (by decide) rfl rfl hd.pins qx ahf.src (hd.size) (fun ahg av6 rg ahh b6 c8 => ?_)))
    have ga := hd.write ahh b6 ((yH qx))
    have rh := qy.keptA b6 q8
    have ri := qz.keptA b6 q9
    have rj := q2.keptA b6 ra
    have rk := q3.keptA b6 rb
    have rl := q4.keptA b6 rc
    have rm := q5.keptA b6 rd
    have rn := q6.keptA b6 re
    have ro := q7.keptA b6 rf
    have rp := zE q8 c8 qy.lt
    have rq := zE q9 c8 qz.lt
    have rr := zE ra c8 q2.lt
    have rs := zE rb c8 q3.lt
    have rt := zE rc c8 q4.lt
    have ru := zN rd c8 q5.lt
    have rv := zN re c8 q6.lt
    have rx := zN rf c8 q7.lt
    have av7 := la1 (([]) ++ ((fr.take i).drop 0)) (c : Int)
    refine ⟨fun _ => ga.pins, ?_⟩
    refine dO (i := 11) (zS (i := 11) rfl rfl rfl (zD rfl _) (oA (E := eInt) (v := ahg) (u := js) 8 dB ap3 (by decide) rfl rfl ga.pins rg ((jt.mono (dW (dW al f) ea)).src ga.pins (by decide)) (ga.size) (fun ry av8 ahi ahj b7 c9 => ?_)))
    have j5 := ga.write ahj b7 ((yH rg))
    have ahk := rh.keptA b7 rp
    have ahl := ri.keptA b7 rq
    have ahm := rj.keptA b7 rr
    have ahn := rk.keptA b7 rs
    have aho := rl.keptA b7 rt
    have ahp := rm.keptA b7 ru
    have ahq := rn.keptA b7 rv
    have ahr := ro.keptA b7 rx
    have ahs := zE rp c9 rh.lt
    have aht := zE rq c9 ri.lt
    have ahu := zE rr c9 rj.lt
    have ahv := zE rs c9 rk.lt
    have ahw := zE rt c9 rl.lt
    have ahx := zN ru c9 rm.lt
    have ahy := zN rv c9 rn.lt
    have ahz := zN rx c9 ro.lt
    have av9 := la2 ((([]) ++ ((fr.take i).drop 0)) ++ ([(c : Int)])) ((fr.take fr.length).drop i)
    refine ⟨fun _ => j5.pins, ?_⟩
    refine dM 12 ry j5.pins ?_
    exact yP (by kernel_rfl) (jE ⟨_, ry, ad, (pS 11 (pS 10 (pS 9 (pS 8 (pS 7 (pS 6 (pS 5 (pS 4 (pS 1 (pU 0)))))))))), j5, (Pin.le_refl _), ahk, ahl, ahm, ahn, aho, ahi, ahp, ahq, ahr, ahs, aht, ahu, ahv, ahw, ahx.symm, ahy.symm, ahz.symm⟩)
   refine yZ (S := fun wz => Pins d wz) (last := 13) (by kernel_rfl) rfl ?_
   have b8 := bdr d9
   have ah0 := f5.pins.below b8
   have au := f5.step ah0 b8
   have j6 := i9.below b8
   have j7 := ja.below b8
   have j8 := jb.below b8
   have j9 := jc.below b8
   have ka := jd.below b8
   have kb := je.below b8
   have kc := jf.below b8
   refine dM 1 lv au.pins ?_
   refine dM 2 (vJ (i : Int)) au.pins ?_
   obtain ⟨kd, ke, ah1⟩ := jC be (lo := none) (hi := (some ((i : Int)))) (0) (i) (Or.inl ⟨rfl, rfl⟩) (Or.inr ⟨_, rfl, (by omega), rfl⟩) (by omega) (by omega)
   refine dT (i := 3) rfl rfl (by kernel_rfl) (fun _ _ => ah1 dC sz69 rfl rfl rfl) au.pins ?_
   refine dT (i := 5) rfl rfl (by kernel_rfl) (fun _ hS => zT (cs := [bq, br]) ag69 sz69 rfl (fun j u hj => (dX hS f) _ _ _ (nm _ _ (by simpa using hj)))) au.pins ?_
   refine dM 8 lv au.pins ?_
   refine dM 9 (vJ (i : Int)) au.pins ?_
   obtain ⟨kf, kg, ah2⟩ := jC be (lo := (some ((i : Int)))) (hi := none) (i) (ls.length) (Or.inr ⟨_, rfl, (by omega), rfl⟩) (Or.inl ⟨rfl, rfl⟩) (by omega) (by omega)
   refine dT (i := 10) rfl rfl (by kernel_rfl) (fun _ _ => ah2 dC sz69 rfl rfl rfl) au.pins ?_
   refine jJ (i := 0) (j := 6) (by kernel_rfl) ?_ ?_
   refine (zS (i := 0) rfl rfl rfl (zD rfl _) (xC (E := eNode) (e := 69) dC sz69 au.pins (fun kh ah3 ah4 ah5 da ec => ?_)))
   have db := au.step ah5 da
   have ki := j6.below da
   have kj := j7.below da
   have kk := j8.below da
   have kl := j9.below da
   have km := ka.below da
   have kn := kb.below da
   have ko := kc.below da
   have he := zG ec j6.lt
   have hf := zG ec j7.lt
   have hg := zG ec j8.lt
   have hh := zG ec j9.lt
   have hk := zH ec ka.lt
   have hl := zH ec kb.lt
   have hn := zH ec kc.lt
   have ho := ah4.weaken au.size
   refine ⟨fun _ => db.pins, ?_⟩
   refine jJ (i := 4) (j := 6) (by kernel_rfl) ?_ ?_
   refine (zS (i := 4) rfl rfl rfl (zD rfl _) (oA (E := eNode) (v := kh) (u := kd) 48 dC ap69 (by decide) rfl rfl db.pins ho ((ke.mono (dW al f)).src db.pins (by decide)) (db.size) (fun ah6 awa ah7 ah8 dc ed => ?_)))
   have hp := db.write ah8 dc ((yH ho))
   have ah9 := ki.keptA dc he.symm
   have aia := kj.keptA dc hf.symm
   have aib := kk.keptA dc hg.symm
   have aic := kl.keptA dc hh.symm
   have aid := km.keptA dc hk.symm
   have aie := kn.keptA dc hl.symm
   have aif := ko.keptA dc hn.symm
   have rz := zE he.symm ed ki.lt
   have r0 := zE hf.symm ed kj.lt
   have r1 := zE hg.symm ed kk.lt
   have r2 := zE hh.symm ed kl.lt
   have r3 := zN hk.symm ed km.lt
   have r4 := zN hl.symm ed kn.lt
   have r5 := zN hn.symm ed ko.lt
   have awb := la2 ([]) ((ls.take i).drop 0)
   refine ⟨fun _ => hp.pins, ?_⟩
   refine dO (i := 6) (zS (i := 6) rfl rfl rfl (zD rfl _) (xT (E := eNode) (e := 69) [bq, br] (⟨sortL (atL ats ((ns.getD c default).l)), sortL (atL ats ((ns.getD c default).r))⟩ : Nd) dC sz69 zr69 ⟨_, _, rfl, (gy.mono f), (gz.mono f)⟩ rfl (by decide) hp.pins (fun r6 aig aih aii b9 awc => ?_)))
   have hs := hp.step aii b9
   have r7 := ah9.below b9
   have r8 := aia.below b9
   have r9 := aib.below b9
   have sa := aic.below b9
   have sb := ah7.below b9
   have sc := aid.below b9
   have sd := aie.below b9
   have se := aif.below b9
   have aij := aih.weaken hp.size
   refine ⟨fun _ => hs.pins, ?_⟩
   refine dO (i := 7) (zS (i := 7) rfl rfl rfl (zD rfl _) (oA (E := eNode) (v := ah6) (u := r6) 48 dC ap69 (by decide) rfl rfl hs.pins sb aij.src (hs.size) (fun aik awd sf ail dd ee => ?_)))
   have gb := hs.write ail dd ((yH sb))
   have sg := r7.keptA dd rz
   have sh := r8.keptA dd r0
   have si := r9.keptA dd r1
   have sj := sa.keptA dd r2
   have sk := sc.keptA dd r3
   have sl := sd.keptA dd r4
   have sm := se.keptA dd r5
   have sn := zE rz ee r7.lt
   have sp := zE r0 ee r8.lt
   have sq := zE r1 ee r9.lt
   have sr := zE r2 ee sa.lt
   have ss := zN r3 ee sc.lt
   have st := zN r4 ee sd.lt
   have su := zN r5 ee se.lt
   have awe := la1 (([]) ++ ((ls.take i).drop 0)) (⟨sortL (atL ats ((ns.getD c default).l)), sortL (atL ats ((ns.getD c default).r))⟩ : Nd)
   refine ⟨fun _ => gb.pins, ?_⟩
   refine dO (i := 11) (zS (i := 11) rfl rfl rfl (zD rfl _) (oA (E := eNode) (v := aik) (u := kf) 48 dC ap69 (by decide) rfl rfl gb.pins sf ((kg.mono (dW al f)).src gb.pins (by decide)) (gb.size) (fun sv awf aim ain de ef => ?_)))
   have kp := gb.write ain de ((yH sf))
   have aio := sg.keptA de sn
   have aip := sh.keptA de sp
   have aiq := si.keptA de sq
   have air := sj.keptA de sr
   have ais := sk.keptA de ss
   have ait := sl.keptA de st
   have aiu := sm.keptA de su
   have aiv := zE sn ef sg.lt
   have aiw := zE sp ef sh.lt
   have aix := zE sq ef si.lt
   have aiy := zE sr ef sj.lt
   have aiz := zN ss ef sk.lt
   have ai0 := zN st ef sl.lt
   have ai1 := zN su ef sm.lt
   have awg := la2 ((([]) ++ ((ls.take i).drop 0)) ++ ([(⟨sortL (atL ats ((ns.getD c default).l)), sortL (atL ats ((ns.getD c default).r))⟩ : Nd)])) ((ls.take ls.length).drop i)
   refine ⟨fun _ => kp.pins, ?_⟩
   refine dM 12 sv kp.pins ?_
   exact yP (by kernel_rfl) (jE ⟨_, sv, d, (pS 13 (pS 11 (pS 10 (pS 9 (pS 8 (pS 7 (pS 6 (pS 5 (pS 4 (pS 1 (pU 0))))))))))), kp, (Pin.le_refl _), aio, aip, aiq, air, aim, ais, ait, aiu, aiv, aiw, aix, aiy, aiz.symm, ai0.symm, ai1.symm⟩)
   refine (zS (i := 6) rfl rfl rfl (zD rfl _) (xT (E := eNode) (e := 69) [bq, br] (⟨sortL (atL ats ((ns.getD c default).l)), sortL (atL ats ((ns.getD c default).r))⟩ : Nd) dC sz69 zr69 ⟨_, _, rfl, (gy.mono f), (gz.mono f)⟩ rfl (by decide) db.pins (fun sw ai2 ai3 ai4 ca ai5 => ?_)))
   have gc := db.step ai4 ca
   have sx := ki.below ca
   have sy := kj.below ca
   have sz := kk.below ca
   have s0 := kl.below ca
   have s1 := ho.below ca
   have s2 := km.below ca
   have s3 := kn.below ca
   have s4 := ko.below ca
   have ai6 := zG ai5 ho.lt
   have ai7 := ai3.weaken db.size
   refine ⟨fun _ => gc.pins, ?_⟩
   refine dO (i := 4) (zS (i := 4) rfl rfl rfl (zD rfl _) (oA (E := eNode) (v := kh) (u := kd) 48 dC ap69 (by decide) rfl rfl gc.pins s1 ((ke.mono (dW al f)).src gc.pins (by decide)) (gc.size) (fun ai8 awh s5 ai9 cb eg => ?_)))
   have ht := gc.write ai9 cb ((yH s1))
   have s6 := sx.keptA cb he.symm
   have s7 := sy.keptA cb hf.symm
   have s8 := sz.keptA cb hg.symm
   have s9 := s0.keptA cb hh.symm
   have aja := ai7.keptA cb ai6
   have ta := s2.keptA cb hk.symm
   have tb := s3.keptA cb hl.symm
   have tc := s4.keptA cb hn.symm
   have td := zE he.symm eg sx.lt
   have te := zE hf.symm eg sy.lt
   have tf := zE hg.symm eg sz.lt
   have tg := zE hh.symm eg s0.lt
   have th := zN hk.symm eg s2.lt
   have ti := zN hl.symm eg s3.lt
   have tj := zN hn.symm eg s4.lt
   have awi := la2 ([]) ((ls.take i).drop 0)
   refine ⟨fun _ => ht.pins, ?_⟩
   refine dO (i := 7) (zS (i := 7) rfl rfl rfl (zD rfl _) (oA (E := eNode) (v := ai8) (u := sw) 48 dC ap69 (by decide) rfl rfl ht.pins s5 aja.src (ht.size) (fun ajb awj tk ajc df eh => ?_)))
   have gd := ht.write ajc df ((yH s5))
   have tl := s6.keptA df td
   have tm := s7.keptA df te
   have tn := s8.keptA df tf
   have tp := s9.keptA df tg
   have tq := ta.keptA df th
   have ts := tb.keptA df ti
   have tt := tc.keptA df tj
   have tu := zE td eh s6.lt
   have tv := zE te eh s7.lt
   have tw := zE tf eh s8.lt
   have tx := zE tg eh s9.lt
   have ty := zN th eh ta.lt
   have tz := zN ti eh tb.lt
   have t0 := zN tj eh tc.lt
   have awk := la1 (([]) ++ ((ls.take i).drop 0)) (⟨sortL (atL ats ((ns.getD c default).l)), sortL (atL ats ((ns.getD c default).r))⟩ : Nd)
   refine ⟨fun _ => gd.pins, ?_⟩
   refine dO (i := 11) (zS (i := 11) rfl rfl rfl (zD rfl _) (oA (E := eNode) (v := ajb) (u := kf) 48 dC ap69 (by decide) rfl rfl gd.pins tk ((kg.mono (dW al f)).src gd.pins (by decide)) (gd.size) (fun t1 awl ajd aje dg ei => ?_)))
   have kq := gd.write aje dg ((yH tk))
   have ajf := tl.keptA dg tu
   have ajg := tm.keptA dg tv
   have ajh := tn.keptA dg tw
   have aji := tp.keptA dg tx
   have ajj := tq.keptA dg ty
   have ajk := ts.keptA dg tz
   have ajl := tt.keptA dg t0
   have ajm := zE tu ei tl.lt
   have ajn := zE tv ei tm.lt
   have ajo := zE tw ei tn.lt
   have ajp := zE tx ei tp.lt
   have ajq := zN ty ei tq.lt
   have ajr := zN tz ei ts.lt
   have ajs := zN t0 ei tt.lt
   have awm := la2 ((([]) ++ ((ls.take i).drop 0)) ++ ([(⟨sortL (atL ats ((ns.getD c default).l)), sortL (atL ats ((ns.getD c default).r))⟩ : Nd)])) ((ls.take ls.length).drop i)
   refine ⟨fun _ => kq.pins, ?_⟩
   refine dM 12 t1 kq.pins ?_
   exact yP (by kernel_rfl) (jE ⟨_, t1, d, (pS 13 (pS 11 (pS 10 (pS 9 (pS 8 (pS 7 (pS 6 (pS 5 (pS 4 (pS 1 (pU 0))))))))))), kq, (Pin.le_refl _), ajf, ajg, ajh, aji, ajd, ajj, ajk, ajl, ajm, ajn, ajo, ajp, ajq.symm, ajr.symm, ajs.symm⟩)
   refine (zS (i := 6) rfl rfl rfl (zD rfl _) (xT (E := eNode) (e := 69) [bq, br] (⟨sortL (atL ats ((ns.getD c default).l)), sortL (atL ats ((ns.getD c default).r))⟩ : Nd) dC sz69 zr69 ⟨_, _, rfl, (gy.mono f), (gz.mono f)⟩ rfl (by decide) au.pins (fun t2 ajt aju ajv dh awn => ?_)))
   have hu := au.step ajv dh
   have t3 := j6.below dh
   have t4 := j7.below dh
   have t5 := j8.below dh
   have t6 := j9.below dh
   have t7 := ka.below dh
   have t8 := kb.below dh
   have t9 := kc.below dh
   have ua := aju.weaken au.size
   refine ⟨fun _ => hu.pins, ?_⟩
   refine dO (i := 0) (zS (i := 0) rfl rfl rfl (zD rfl _) (xC (E := eNode) (e := 69) dC sz69 hu.pins (fun ub ajw ajx ajy cc di => ?_)))
   have ge := hu.step ajy cc
   have uc := t3.below cc
   have ud := t4.below cc
   have ue := t5.below cc
   have uf := t6.below cc
   have ajz := ua.below cc
   have ug := t7.below cc
   have uh := t8.below cc
   have ui := t9.below cc
   have uj := zG di t3.lt
   have uk := zG di t4.lt
   have ul := zG di t5.lt
   have um := zG di t6.lt
   have aj0 := zG di ua.lt
   have un := zH di t7.lt
   have uo := zH di t8.lt
   have up := zH di t9.lt
   have uq := ajx.weaken hu.size
   refine ⟨fun _ => ge.pins, ?_⟩
   refine dO (i := 4) (zS (i := 4) rfl rfl rfl (zD rfl _) (oA (E := eNode) (v := ub) (u := kd) 48 dC ap69 (by decide) rfl rfl ge.pins uq ((ke.mono (dW al f)).src ge.pins (by decide)) (ge.size) (fun aj1 awo ur aj2 cd ej => ?_)))
   have hv := ge.write aj2 cd ((yH uq))
   have ut := uc.keptA cd uj.symm
   have uu := ud.keptA cd uk.symm
   have uv := ue.keptA cd ul.symm
   have uw := uf.keptA cd um.symm
   have aj3 := ajz.keptA cd aj0.symm
   have ux := ug.keptA cd un.symm
   have uy := uh.keptA cd uo.symm
   have uz := ui.keptA cd up.symm
   have u0 := zE uj.symm ej uc.lt
   have u1 := zE uk.symm ej ud.lt
   have u2 := zE ul.symm ej ue.lt
   have u3 := zE um.symm ej uf.lt
   have u4 := zN un.symm ej ug.lt
   have u5 := zN uo.symm ej uh.lt
   have u6 := zN up.symm ej ui.lt
   have awp := la2 ([]) ((ls.take i).drop 0)
   refine ⟨fun _ => hv.pins, ?_⟩
   refine dO (i := 7) (zS (i := 7) rfl rfl rfl (zD rfl _) (oA (E := eNode) (v := aj1) (u := t2) 48 dC ap69 (by decide) rfl rfl hv.pins ur aj3.src (hv.size) (fun aj4 awq u7 aj5 dj ek => ?_)))
   have gf := hv.write aj5 dj ((yH ur))
   have u8 := ut.keptA dj u0
   have u9 := uu.keptA dj u1
   have va := uv.keptA dj u2
   have vb := uw.keptA dj u3
   have vc := ux.keptA dj u4
   have vd := uy.keptA dj u5
   have ve := uz.keptA dj u6
   have vf := zE u0 ek ut.lt
   have vg := zE u1 ek uu.lt
   have vh := zE u2 ek uv.lt
   have vi := zE u3 ek uw.lt
   have vj := zN u4 ek ux.lt
   have vk := zN u5 ek uy.lt
   have vl := zN u6 ek uz.lt
   have awr := la1 (([]) ++ ((ls.take i).drop 0)) (⟨sortL (atL ats ((ns.getD c default).l)), sortL (atL ats ((ns.getD c default).r))⟩ : Nd)
   refine ⟨fun _ => gf.pins, ?_⟩
   refine dO (i := 11) (zS (i := 11) rfl rfl rfl (zD rfl _) (oA (E := eNode) (v := aj4) (u := kf) 48 dC ap69 (by decide) rfl rfl gf.pins u7 ((kg.mono (dW al f)).src gf.pins (by decide)) (gf.size) (fun vm aws aj6 aj7 dk el => ?_)))
   have kr := gf.write aj7 dk ((yH u7))
   have aj8 := u8.keptA dk vf
   have aj9 := u9.keptA dk vg
   have aka := va.keptA dk vh
   have akb := vb.keptA dk vi
   have akc := vc.keptA dk vj
   have akd := vd.keptA dk vk
   have ake := ve.keptA dk vl
   have akf := zE vf el u8.lt
   have akg := zE vg el u9.lt
   have akh := zE vh el va.lt
   have aki := zE vi el vb.lt
   have akj := zN vj el vc.lt
   have akk := zN vk el vd.lt
   have akl := zN vl el ve.lt
   have awt := la2 ((([]) ++ ((ls.take i).drop 0)) ++ ([(⟨sortL (atL ats ((ns.getD c default).l)), sortL (atL ats ((ns.getD c default).r))⟩ : Nd)])) ((ls.take ls.length).drop i)
   refine ⟨fun _ => kr.pins, ?_⟩
   refine dM 12 vm kr.pins ?_
   exact yP (by kernel_rfl) (jE ⟨_, vm, d, (pS 13 (pS 11 (pS 10 (pS 9 (pS 8 (pS 7 (pS 6 (pS 5 (pS 4 (pS 1 (pU 0))))))))))), kr, (Pin.le_refl _), aj8, aj9, aka, akb, aj6, akc, akd, ake, akf, akg, akh, aki, akj.symm, akk.symm, akl.symm⟩)
  refine yS (fun k en W => ∃ (ab : Nat → Value) (i : Nat) (d : Pin), en = (upd (upd (upd (upd (upd (upd (upd (upd (upd (upd (upd (upd ab 0 (vP b)) 1 (vJ m)) 4 (vP b1)) 5 aw) 6 at_) 7 (vP y)) 8 (vJ (q : Int))) 9 lv) 10 fv) 11 (vJ (c : Int))) 12 (vP f4)) 13 (vJ (i : Int))) ∧ k = ls.length - i ∧ Ext noS G w d W ∧ Pin.le ak d ∧ (i ≤ ls.length) ∧ (posM ls (ndAt ats (ns.getD c default)) = i + posM (ls.drop i) (ndAt ats (ns.getD c default))) ∧ (Own eInt 3 d W w.heap.size at_ (ats)) ∧ (Own eNode 69 d W w.heap.size ov (outs)) ∧ (Own eNode 69 d W 0 bu (ns)) ∧ (Own eInt 3 d W 0 bv (bs)) ∧ (Bx d W b [bu, bv]) ∧ (Bx d W b1 [vN]) ∧ (Bx d W y [ov])) _ ⟨_, 0, ak, (pS 13 (pS 12 (pS 11 (pS 10 (pS 9 (pS 8 (pS 7 (pS 6 (pS 5 (pS 4 (pS 1 (pU 0)))))))))))), rfl, add, Pin.le_refl _, Nat.zero_le _, (Nat.zero_add _).symm, ade, adf, adg, adh, adi, adj, adk⟩ ?_
  rintro awu _ d9 ⟨ab, i, d, rfl, awv, f5, f, hi, hpp, i9, ja, jb, jc, jd, je, jf⟩
  refine zB (zB ?_)
  refine yZ (S := fun wz => Pins d wz) (last := 12) (by kernel_rfl) rfl ?_
  have ce := bdr d9
  have akm := f5.pins.below ce
  have af := f5.step akm ce
  have vn := i9.below ce
  have vo := ja.below ce
  have vp := jb.below ce
  have vq := jc.below ce
  have vr := jd.below ce
  have vt := je.below ce
  have vu := jf.below ce
  refine dM 0 (vJ (i : Int)) af.pins ?_
  refine dM 1 lv af.pins ?_
  refine dT (i := 2) rfl rfl (by kernel_rfl) (fun _ _ => zP dC (v := lv) rfl be) af.pins ?_
  refine dT (i := 3) rfl rfl (by kernel_rfl) (fun _ _ => yX rfl rfl) af.pins ?_
  refine dM 4 (.bool (decide (((i : Int) : Int) < (ls.length : Int)))) af.pins ?_
  refine drbd (p := ((i : Int) : Int) < (ls.length : Int)) (t := 84) rfl (fun akn => ?_) (fun akn => ?_)
  refine yY (i := 5) rfl rfl rfl (yQ rfl rfl rfl rfl) (by kernel_rfl) (fun _ _ => zR (v := lv) rfl) af.pins (yY (i := 6) rfl rfl rfl (yQ rfl rfl rfl rfl) (by kernel_rfl) (fun _ _ => zR (v := (vJ (i : Int))) rfl) af.pins (yY (i := 7) rfl rfl rfl (yQ rfl rfl rfl rfl) (by kernel_rfl) (fun _ _ => zJ dC sz69 (v := lv) rfl rfl be (by omega) (by omega)) af.pins ?_))
  obtain ⟨ako, akp, vv, vw, akq⟩ := vW (be.at (z := (i : Int)) (by omega) (by omega)) (j := i) rfl
  have aww := vv.max
  have awx := vw.max
  refine yY (i := 8) rfl rfl rfl (yQ rfl rfl rfl rfl) (by kernel_rfl) (fun _ hS => akq ag69 sz69 rfl (dX hS (dW al f))) af.pins (yY (i := 9) rfl rfl rfl (yQ rfl rfl rfl rfl) (by kernel_rfl) (fun _ hS => zT (cs := [bq, br]) ag69 sz69 rfl (fun j u hj => (dX hS f) _ _ _ (nm _ _ (by simpa using hj)))) af.pins ?_)
  refine dO (i := 10) (zS (i := 10) rfl rfl rfl (yQ rfl rfl rfl rfl) (zF (vs := [(.agg [ako, akp].toArray), (.agg [bq, br].toArray)]) Tryz.func72 nm72 rfl rfl rfl ?_))
  refine dY (nJ (a := ⟨(ls.getD i default).l, (ls.getD i default).r⟩) (b := ⟨sortL (atL ats ((ns.getD c default).l)), sortL (atL ats ((ns.getD c default).r))⟩) af.pins (vv.mono (dW al f)) (vw.mono (dW al f)) (gy.mono f) (gz.mono f)) ?_
  rintro _ awy ⟨vx, rfl, az⟩
  refine ⟨_, rfl, ?_⟩
  have hw := af.tr az
  have vy := vn.ext az
  have vz := vo.ext az
  have v0 := vp.ext az
  have v1 := vq.ext az
  have v2 := vr.ext az
  have v3 := vt.ext az
  have v4 := vu.ext az
  refine ⟨fun _ => (dX hw.pins az.le), ?_⟩
  refine dT (i := 11) rfl rfl (by kernel_rfl) (fun _ _ => yR (v := (.bool (decide ((aheadI (⟨(ls.getD i default).l, (ls.getD i default).r⟩ : Nd) (⟨sortL (atL ats ((ns.getD c default).l)), sortL (atL ats ((ns.getD c default).r))⟩ : Nd)) < 0)))) rfl rfl) (dX hw.pins az.le) ?_
  refine yP (by kernel_rfl) (zA (yC (p := ((aheadI (⟨(ls.getD i default).l, (ls.getD i default).r⟩ : Nd) (⟨sortL (atL ats ((ns.getD c default).l)), sortL (atL ats ((ns.getD c default).r))⟩ : Nd)) < 0)) rfl rfl (fun ks => ?_) (fun ks => ?_)))
  refine wp_skip (zA (zW (zC (qM (vJ (i : Int)) ?_))))
  refine qD rfl (yJ rfl rfl (by omega)) (qM (vJ ((i : Int) + 1)) ?_)
  refine qe (yA (yD (⟨_, ?_, _, rfl, _, i + 1, vx, (pS 13 (pS 12 (pS 11 (pS 10 (pS 9 (pS 8 (pS 7 (pS 6 (pS 5 (pS 4 (pS 1 (pU 0)))))))))))), rfl, hw, (dW f az.le), (by omega), (pos_next (by omega) ks hpp), vy, vz, v0, v1, v2, v3, v4⟩)))
  omega
  exact wp_exit (zV (yK (cutE_in ⟨_, i, vx, (pS 13 (pS 12 (pS 11 (pS 10 (pS 9 (pS 8 (pS 7 (pS 6 (pS 5 (pS 4 (pS 1 (pU 0)))))))))))), hw, (dW f az.le), hi, (pos_stop (by omega) ks hpp), vy, vz, v0, v1, v2, v3, v4⟩)))
  refine yL (i := 5) rfl rfl (yT rfl rfl rfl rfl rfl) (by kernel_rfl) af.pins (yL (i := 6) rfl rfl (yT rfl rfl rfl rfl rfl) (by kernel_rfl) af.pins (yL (i := 7) rfl rfl (yT rfl rfl rfl rfl rfl) (by kernel_rfl) af.pins (yL (i := 8) rfl rfl (yT rfl rfl rfl rfl rfl) (by kernel_rfl) af.pins (yL (i := 9) rfl rfl (yT rfl rfl rfl rfl rfl) (by kernel_rfl) af.pins (yL (i := 10) rfl rfl (yT rfl rfl rfl rfl rfl) (by kernel_rfl) af.pins (dT (i := 11) rfl rfl (by kernel_rfl) (fun _ _ => yI (v := (.bool false)) rfl rfl) af.pins ?_))))))
  exact yP (by kernel_rfl) (zA (qP rfl rfl (wp_exit (zV (yK (cutE_in ⟨_, i, d, (pS 13 (pS 12 (pS 11 (pS 10 (pS 9 (pS 8 (pS 7 (pS 6 (pS 5 (pS 4 (pS 1 (pU 0)))))))))))), af, f, hi, (pos_end (by omega) hpp), vn, vo, vp, vq, vr, vt, vu⟩))))))
 have akr := Gadd.pins cx.pins bu
 have hx := d8.read
 refine yZ (S := fun wz => BxR wz b [bu, bv] ∧ Pins (Gadd ah gt bu) wz) (last := 24) (by kernel_rfl) rfl ?_
 have bl := bdr gt
 have aks := cx.pins.below bl
 have em := cx.step aks bl
 have gg := gu.below bl
 have hy := gv.below bl
 have hz := d8.below bl
 have h0 := fi.below bl
 have ac := f3.below bl
 have h1 := gw.below bl
 have h2 := gx.below bl
 have ag := akr.below bl
 refine dT (i := 0) rfl rfl (by kernel_rfl) (fun _ _ => zR (v := at_) rfl) ⟨ac.reads, ag⟩ ?_
 refine dT (i := 1) rfl rfl (by kernel_rfl) (fun _ _ => zR (v := (vP b)) rfl) ⟨ac.reads, ag⟩ ?_
 refine dT (i := 2) rfl rfl (by kernel_rfl) (fun _ _ => yU rfl) ⟨ac.reads, ag⟩ ?_
 refine dT (i := 3) rfl rfl (by kernel_rfl) (fun _ _ => zK (k := 0) rfl dI rfl nz24 rfl) ⟨ac.reads, ag⟩ ?_
 refine dT (i := 4) rfl rfl (by kernel_rfl) (fun _ hS => zL (u := bu) ag24 rfl (hS.1 0 _ rfl)) ⟨ac.reads, ag⟩ ?_
 refine dT (i := 5) rfl rfl (by kernel_rfl) (fun _ _ => zR (v := (vJ (c : Int))) rfl) ⟨ac.reads, ag⟩ ?_
 refine dT (i := 6) rfl rfl (by kernel_rfl) (fun _ _ => zJ dC sz69 (v := bu) rfl rfl hx (by omega) (by omega)) ⟨ac.reads, ag⟩ ?_
 refine dT (i := 7) rfl rfl (by kernel_rfl) (fun _ _ => xF (off := 0) dF rfl rfl nz48 (z := (c : Int)) (k := 0) rfl hx (by omega) (by omega)) ⟨ac.reads, ag⟩ ?_
 obtain ⟨v5, kt, akt⟩ := kA (d8.at (z := (c : Int)) (by omega) (by omega)) (j := c) rfl
 have awz := kt.max
 refine dT (i := 8) rfl rfl (by kernel_rfl) (fun _ hS => akt ag48 rfl hS.2) ⟨ac.reads, ag⟩ ?_
 refine dT (i := 11) rfl rfl (by kernel_rfl) (fun _ _ => zR (v := at_) rfl) ⟨ac.reads, ag⟩ ?_
 refine dT (i := 12) rfl rfl (by kernel_rfl) (fun _ _ => zR (v := (vP b)) rfl) ⟨ac.reads, ag⟩ ?_
 refine dT (i := 13) rfl rfl (by kernel_rfl) (fun _ _ => yU rfl) ⟨ac.reads, ag⟩ ?_
 refine dT (i := 14) rfl rfl (by kernel_rfl) (fun _ _ => zK (k := 0) rfl dI rfl nz24 rfl) ⟨ac.reads, ag⟩ ?_
 refine dT (i := 15) rfl rfl (by kernel_rfl) (fun _ hS => zL (u := bu) ag24 rfl (hS.1 0 _ rfl)) ⟨ac.reads, ag⟩ ?_
 refine dT (i := 16) rfl rfl (by kernel_rfl) (fun _ _ => zR (v := (vJ (c : Int))) rfl) ⟨ac.reads, ag⟩ ?_
 refine dT (i := 17) rfl rfl (by kernel_rfl) (fun _ _ => zJ dC sz69 (v := bu) rfl rfl hx (by omega) (by omega)) ⟨ac.reads, ag⟩ ?_
 refine dT (i := 18) rfl rfl (by kernel_rfl) (fun _ _ => xF (off := 1) dF rfl rfl nz48 (z := (c : Int)) (k := 0) rfl hx (by omega) (by omega)) ⟨ac.reads, ag⟩ ?_
 obtain ⟨h3, gh, aku⟩ := kE (d8.at (z := (c : Int)) (by omega) (by omega)) (j := c) rfl
 have aw0 := gh.max
 refine dT (i := 19) rfl rfl (by kernel_rfl) (fun _ hS => aku ag48 rfl hS.2) ⟨ac.reads, ag⟩ ?_
 refine jJ (i := 9) (j := 23) (by kernel_rfl) ?_ ?_
 refine (zS (i := 9) rfl rfl rfl (zD rfl _) (zF (vs := [at_, v5]) Tryz.func71 nm71 rfl rfl rfl ?_))
 refine dY (vE em.pins (Gadd.pins em.pins at_) gg.read kt (by omega) (fun i hi => by have := hoo.left (j := c) (by omega) hi; omega)) ?_
 rintro _ akv ⟨ku, akw, rfl, dl, am⟩
 refine ⟨_, rfl, ?_⟩
 have h4 := em.tr am
 have kv := gg.ext am
 have kw := hy.ext am
 have kx := hz.ext am
 have ky := h0.ext am
 have h5 := ac.ext am
 have kz := h1.ext am
 have k0 := h2.ext am
 have v6 := yB dl.lt gg.lt
 have v7 := yB dl.lt hy.lt
 have v8 := yB dl.lt hz.lt
 have v9 := yB dl.lt h0.lt
 have wa := yF dl.lt ac.lt
 have wb := yF dl.lt h1.lt
 have wc := yF dl.lt h2.lt
 have k1 := dl.weaken em.size
 have k2 := ag.below am.below
 refine ⟨fun _ => ⟨h5.reads, k2⟩, ?_⟩
 refine jJ (i := 10) (j := 23) (by kernel_rfl) ?_ ?_
 obtain ⟨aw1, cf, wd, akx, eo⟩ := k1.sealed h4
 have aky := kv.moreO cf eo v6.symm
 have akz := kw.moreO cf eo v7.symm
 have ak0 := kx.moreO cf eo v8.symm
 have ak1 := ky.moreO cf eo v9.symm
 have ak2 := h5.moreO eo wa.symm
 have ak3 := kz.moreO eo wb.symm
 have ak4 := k0.moreO eo wc.symm
 refine (zS (i := 10) rfl rfl rfl (zD rfl _) (zF (vs := [ku]) Tryz.func70 nm70 rfl rfl rfl ?_))
 refine dY (qH wd.pins akx (by first | omega | (rw [xJ]; omega))) ?_
 rintro _ aw2 ⟨ae, aw3, rfl, cg, ap⟩
 refine ⟨_, rfl, ?_⟩
 have ep := wd.tr ap
 have gi := aky.ext ap
 have h6 := akz.ext ap
 have h7 := ak0.ext ap
 have h8 := ak1.ext ap
 have gj := ak2.ext ap
 have h9 := ak3.ext ap
 have ia := ak4.ext ap
 have k3 := k2.below ap.below
 refine ⟨fun _ => ⟨gj.reads, k3⟩, ?_⟩
 refine jJ (i := 20) (j := 23) (by kernel_rfl) ?_ ?_
 refine (zS (i := 20) rfl rfl rfl (zD rfl _) (zF (vs := [at_, h3]) Tryz.func71 nm71 rfl rfl rfl ?_))
 refine dY (vE ep.pins (Gadd.pins ep.pins at_) gi.read (gh.mono (dW (dW am.le cf) ap.le)) (by omega) (fun i hi => by have := hoo.right (j := c) (by omega) hi; omega)) ?_
 rintro _ ak5 ⟨k4, ak6, rfl, dm, av⟩
 refine ⟨_, rfl, ?_⟩
 have ib := ep.tr av
 have k6 := gi.ext av
 have k7 := h6.ext av
 have k8 := h7.ext av
 have k9 := h8.ext av
 have ic := gj.ext av
 have la := h9.ext av
 have lb := ia.ext av
 have we := yB dm.lt gi.lt
 have wf := yB dm.lt h6.lt
 have wg := yB dm.lt h7.lt
 have wh := yB dm.lt h8.lt
 have wi := yF dm.lt gj.lt
 have wj := yF dm.lt h9.lt
 have wk := yF dm.lt ia.lt
 have lc := dm.weaken ep.size
 have ld := k3.below av.below
 refine ⟨fun _ => ⟨ic.reads, ld⟩, ?_⟩
 refine jJ (i := 21) (j := 23) (by kernel_rfl) ?_ ?_
 obtain ⟨aw4, fm, wl, ak7, eq⟩ := lc.sealed ib
 have ak8 := k6.moreO fm eq we.symm
 have ak9 := k7.moreO fm eq wf.symm
 have ala := k8.moreO fm eq wg.symm
 have alb := k9.moreO fm eq wh.symm
 have alc := ic.moreO eq wi.symm
 have ald := la.moreO eq wj.symm
 have ale := lb.moreO eq wk.symm
 refine (zS (i := 21) rfl rfl rfl (zD rfl _) (zF (vs := [k4]) Tryz.func70 nm70 rfl rfl rfl ?_))
 refine dY (qH wl.pins ak7 (by first | omega | (rw [xJ]; omega))) ?_
 rintro _ aw5 ⟨er, aw6, rfl, lf, ba⟩
 refine ⟨_, rfl, ?_⟩
 have lg := wl.tr ba
 have wm := ak8.ext ba
 have wn := ak9.ext ba
 have wo := ala.ext ba
 have wp := alb.ext ba
 have ie := alc.ext ba
 have wq := ald.ext ba
 have wr := ale.ext ba
 have lh := ld.below ba.below
 refine ⟨fun _ => ⟨ie.reads, lh⟩, ?_⟩
 refine dT (i := 22) rfl rfl (by kernel_rfl) (fun _ _ => xB [vN, vN] [ae, er] [(0, ae, [ae]), (1, er, [er])] dF zr69 rfl pl69 rfl (List.forall_mem_cons.2 ⟨(xM cg.one), (List.forall_mem_cons.2 ⟨(xM lf.one), (fun _ h => by cases h)⟩)⟩) rfl) ⟨ie.reads, lh⟩ ?_
 refine dO (i := 23) (zS (i := 23) rfl rfl rfl (zD rfl _) (yM [vN, vN] zr69 rfl lg.pins (fun ws aw7 es alf alg ch => ?_)))
 have wt := lg.step alg ch
 have alh := wm.below ch
 have ali := wn.below ch
 have alj := wo.below ch
 have alk := wp.below ch
 have wu := ie.below ch
 have all := wq.below ch
 have alm := wr.below ch
 have wv := zG (congrArg some es) wm.lt
 have ww := zG (congrArg some es) wn.lt
 have wx := zG (congrArg some es) wo.lt
 have wy := zG (congrArg some es) wp.lt
 have w0 := zH (congrArg some es) ie.lt
 have w1 := zH (congrArg some es) wq.lt
 have w3 := zH (congrArg some es) wr.lt
 have w4 : w.heap.size ≤ ws := by have := lg.size; omega
 have aln := lh.below ch
 refine ⟨fun _ => ⟨wu.reads, aln⟩, ?_⟩
 refine dO (i := 24) (jB (i := 24) rfl rfl rfl (zD rfl _) (o_stp (cs' := [ae, er]) (us := [ae, er]) (v := (.agg [ae, er].toArray)) sz69 rfl rfl rfl (xG cg.one lf.one) wt.pins alf (dZ rfl) rfl (fun aw8 alo alp dn aw9 => ?_)))
 have alq := wt.write alp dn ((zY w4))
 have alr := alh.keptA dn wv.symm
 have als := ali.keptA dn ww.symm
 have alt := alj.keptA dn wx.symm
 have alu := alk.keptA dn wy.symm
 have alv := wu.keptA dn w0.symm
 have alw := all.keptA dn w1.symm
 have alx := alm.keptA dn w3.symm
 obtain ⟨aly, et, alz, al0, eu⟩ := alo.shut alq w4
 have al1 := alr.moreA et eu wv.symm
 have al2 := als.moreA et eu ww.symm
 have al3 := alt.moreA et eu wx.symm
 have al4 := alu.moreA et eu wy.symm
 have al5 := alv.moreA eu w0.symm
 have al6 := alw.moreA eu w1.symm
 have al7 := alx.moreA eu w3.symm
 refine ⟨fun h => absurd rfl h, ?_⟩
 exact yP (by kernel_rfl) (jE ⟨_, ws, ae, er, aly, (pS 12 (pS 11 (pS 10 (pS 9 (pS 8 (pS 7 (pS 6 (pS 5 (pS 4 (pS 1 (pU 0))))))))))), alz, (dW (dW (dW (dW (dW (dW am.le cf) ap.le) av.le) fm) ba.le) et), (cg.mono (dW (dW (dW av.le fm) ba.le) et)), (lf.mono et), al1, al2, al3, al4, al5, al6, al7, (al0.mono (Pin.le_refl _))⟩)
 refine (zS (i := 23) rfl rfl rfl (zD rfl _) (yM [vN, vN] zr69 rfl ib.pins (fun w5 axa dp al8 al9 bm => ?_)))
 have ama := ib.step al9 bm
 have amb := k6.below bm
 have amc := k7.below bm
 have amd := k8.below bm
 have ame := k9.below bm
 have amf := lc.below bm
 have w6 := ic.below bm
 have amg := la.below bm
 have amh := lb.below bm
 have w7 := zG (congrArg some dp) k6.lt
 have w8 := zG (congrArg some dp) k7.lt
 have w9 := zG (congrArg some dp) k8.lt
 have xa := zG (congrArg some dp) k9.lt
 have ami := zG (congrArg some dp) lc.lt
 have xb := zH (congrArg some dp) ic.lt
 have xc := zH (congrArg some dp) la.lt
 have xd := zH (congrArg some dp) lb.lt
 have xe : w.heap.size ≤ w5 := by have := ib.size; omega
 have xf := ld.below bm
 refine ⟨fun _ => ⟨w6.reads, xf⟩, ?_⟩
 obtain ⟨axb, fn, xg, amj, dq⟩ := amf.sealed ama
 have amk := amb.moreO fn dq we.symm
 have aml := amc.moreO fn dq wf.symm
 have amm := amd.moreO fn dq wg.symm
 have amn := ame.moreO fn dq wh.symm
 have amo := w6.moreO dq wi.symm
 have amp := amg.moreO dq wj.symm
 have amq := amh.moreO dq wk.symm
 have amr := al8.moreO dq ami
 refine dO (i := 21) (zS (i := 21) rfl rfl rfl (zD rfl _) (zF (vs := [k4]) Tryz.func70 nm70 rfl rfl rfl ?_))
 refine dY (qH xg.pins amj (by first | omega | (rw [xJ]; omega))) ?_
 rintro _ axc ⟨ev, axd, rfl, li, a0⟩
 refine ⟨_, rfl, ?_⟩
 have xh := xg.tr a0
 have ams := amk.ext a0
 have amt := aml.ext a0
 have amu := amm.ext a0
 have amv := amn.ext a0
 have lj := amo.ext a0
 have amw := amp.ext a0
 have amx := amq.ext a0
 have amy := amr.ext a0
 have xi := xf.below a0.below
 refine ⟨fun _ => ⟨lj.reads, xi⟩, ?_⟩
 refine dT (i := 22) rfl rfl (by kernel_rfl) (fun _ _ => xB [vN, vN] [ae, ev] [(0, ae, [ae]), (1, ev, [ev])] dF zr69 rfl pl69 rfl (List.forall_mem_cons.2 ⟨(xM cg.one), (List.forall_mem_cons.2 ⟨(xM li.one), (fun _ h => by cases h)⟩)⟩) rfl) ⟨lj.reads, xi⟩ ?_
 refine dO (i := 24) (jB (i := 24) rfl rfl rfl (zD rfl _) (o_stp (cs' := [ae, ev]) (us := [ae, ev]) (v := (.agg [ae, ev].toArray)) sz69 rfl rfl rfl (xG cg.one li.one) xh.pins amy (dZ rfl) rfl (fun axe amz am0 dr axf => ?_)))
 have am1 := xh.write am0 dr ((zY xe))
 have am2 := ams.keptA dr w7.symm
 have am3 := amt.keptA dr w8.symm
 have am4 := amu.keptA dr w9.symm
 have am5 := amv.keptA dr xa.symm
 have am6 := lj.keptA dr xb.symm
 have am7 := amw.keptA dr xc.symm
 have am8 := amx.keptA dr xd.symm
 obtain ⟨am9, ew, ana, anb, ex⟩ := amz.shut am1 xe
 have anc := am2.moreA ew ex w7.symm
 have ane := am3.moreA ew ex w8.symm
 have anf := am4.moreA ew ex w9.symm
 have ang := am5.moreA ew ex xa.symm
 have anh := am6.moreA ex xb.symm
 have ani := am7.moreA ex xc.symm
 have anj := am8.moreA ex xd.symm
 refine ⟨fun h => absurd rfl h, ?_⟩
 exact yP (by kernel_rfl) (jE ⟨_, w5, ae, ev, am9, (pS 12 (pS 11 (pS 10 (pS 9 (pS 8 (pS 7 (pS 6 (pS 5 (pS 4 (pS 1 (pU 0))))))))))), ana, (dW (dW (dW (dW (dW (dW am.le cf) ap.le) av.le) fn) a0.le) ew), (cg.mono (dW (dW (dW av.le fn) a0.le) ew)), (li.mono ew), anc, ane, anf, ang, anh, ani, anj, (anb.mono (Pin.le_refl _))⟩)
 refine (zS (i := 23) rfl rfl rfl (zD rfl _) (yM [vN, vN] zr69 rfl ep.pins (fun xj axg ey xk ank ci => ?_)))
 have ig := ep.step ank ci
 have lk := gi.below ci
 have xl := h6.below ci
 have xm := h7.below ci
 have xn := h8.below ci
 have ll := gj.below ci
 have xo := h9.below ci
 have xp := ia.below ci
 have xq := zG (congrArg some ey) gi.lt
 have xr := zG (congrArg some ey) h6.lt
 have xs := zG (congrArg some ey) h7.lt
 have xt := zG (congrArg some ey) h8.lt
 have xu := zH (congrArg some ey) gj.lt
 have xv := zH (congrArg some ey) h9.lt
 have xw := zH (congrArg some ey) ia.lt
 have xx : w.heap.size ≤ xj := by have := ep.size; omega
 have xy := k3.below ci
 refine ⟨fun _ => ⟨ll.reads, xy⟩, ?_⟩
 refine dO (i := 20) (zS (i := 20) rfl rfl rfl (zD rfl _) (zF (vs := [at_, h3]) Tryz.func71 nm71 rfl rfl rfl ?_))
 refine dY (vE ig.pins (Gadd.pins ig.pins at_) lk.read (gh.mono (dW (dW am.le cf) ap.le)) (by omega) (fun i hi => by have := hoo.right (j := c) (by omega) hi; omega)) ?_
 rintro _ anl ⟨xz, anm, rfl, cj, a1⟩
 refine ⟨_, rfl, ?_⟩
 have ann := ig.tr a1
 have ano := lk.ext a1
 have anp := xl.ext a1
 have anq := xm.ext a1
 have anr := xn.ext a1
 have x0 := ll.ext a1
 have ans := xo.ext a1
 have ant := xp.ext a1
 have anu := xk.ext a1
 have anv := yB cj.lt lk.lt
 have anw := yB cj.lt xl.lt
 have anx := yB cj.lt xm.lt
 have any := yB cj.lt xn.lt
 have anz := yF cj.lt ll.lt
 have an0 := yF cj.lt xo.lt
 have an1 := yF cj.lt xp.lt
 have an2 := yF cj.lt xk.lt
 have an3 := cj.weaken ig.size
 have x1 := xy.below a1.below
 refine ⟨fun _ => ⟨x0.reads, x1⟩, ?_⟩
 obtain ⟨axh, fo, x2, an4, ds⟩ := an3.sealed ann
 have an5 := ano.moreO fo ds anv.symm
 have an6 := anp.moreO fo ds anw.symm
 have an7 := anq.moreO fo ds anx.symm
 have an8 := anr.moreO fo ds any.symm
 have an9 := x0.moreO ds anz.symm
 have aoa := ans.moreO ds an0.symm
 have aob := ant.moreO ds an1.symm
 have aoc := anu.moreO ds an2.symm
 refine dO (i := 21) (zS (i := 21) rfl rfl rfl (zD rfl _) (zF (vs := [xz]) Tryz.func70 nm70 rfl rfl rfl ?_))
 refine dY (qH x2.pins an4 (by first | omega | (rw [xJ]; omega))) ?_
 rintro _ axi ⟨ez, axj, rfl, lm, a2⟩
 refine ⟨_, rfl, ?_⟩
 have x3 := x2.tr a2
 have aod := an5.ext a2
 have aoe := an6.ext a2
 have aof := an7.ext a2
 have aog := an8.ext a2
 have ln := an9.ext a2
 have aoh := aoa.ext a2
 have aoi := aob.ext a2
 have aoj := aoc.ext a2
 have x4 := x1.below a2.below
 refine ⟨fun _ => ⟨ln.reads, x4⟩, ?_⟩
 refine dT (i := 22) rfl rfl (by kernel_rfl) (fun _ _ => xB [vN, vN] [ae, ez] [(0, ae, [ae]), (1, ez, [ez])] dF zr69 rfl pl69 rfl (List.forall_mem_cons.2 ⟨(xM cg.one), (List.forall_mem_cons.2 ⟨(xM lm.one), (fun _ h => by cases h)⟩)⟩) rfl) ⟨ln.reads, x4⟩ ?_
 refine dO (i := 24) (jB (i := 24) rfl rfl rfl (zD rfl _) (o_stp (cs' := [ae, ez]) (us := [ae, ez]) (v := (.agg [ae, ez].toArray)) sz69 rfl rfl rfl (xG cg.one lm.one) x3.pins aoj (dZ rfl) rfl (fun axk aok aol dt axl => ?_)))
 have aom := x3.write aol dt ((zY xx))
 have aon := aod.keptA dt xq.symm
 have aoo := aoe.keptA dt xr.symm
 have aop := aof.keptA dt xs.symm
 have aoq := aog.keptA dt xt.symm
 have aor := ln.keptA dt xu.symm
 have aos := aoh.keptA dt xv.symm
 have aot := aoi.keptA dt xw.symm
 obtain ⟨aou, e0, aov, aow, e1⟩ := aok.shut aom xx
 have aox := aon.moreA e0 e1 xq.symm
 have aoy := aoo.moreA e0 e1 xr.symm
 have aoz := aop.moreA e0 e1 xs.symm
 have ao0 := aoq.moreA e0 e1 xt.symm
 have ao1 := aor.moreA e1 xu.symm
 have ao2 := aos.moreA e1 xv.symm
 have ao3 := aot.moreA e1 xw.symm
 refine ⟨fun h => absurd rfl h, ?_⟩
 exact yP (by kernel_rfl) (jE ⟨_, xj, ae, ez, aou, (pS 12 (pS 11 (pS 10 (pS 9 (pS 8 (pS 7 (pS 6 (pS 5 (pS 4 (pS 1 (pU 0))))))))))), aov, (dW (dW (dW (dW (dW (dW am.le cf) ap.le) a1.le) fo) a2.le) e0), (cg.mono (dW (dW (dW a1.le fo) a2.le) e0)), (lm.mono e0), aox, aoy, aoz, ao0, ao1, ao2, ao3, (aow.mono (Pin.le_refl _))⟩)
 refine (zS (i := 23) rfl rfl rfl (zD rfl _) (yM [vN, vN] zr69 rfl h4.pins (fun x5 axm du ao4 ao5 bn => ?_)))
 have ao6 := h4.step ao5 bn
 have ao7 := kv.below bn
 have ao8 := kw.below bn
 have ao9 := kx.below bn
 have apa := ky.below bn
 have apb := k1.below bn
 have x6 := h5.below bn
 have apc := kz.below bn
 have apd := k0.below bn
 have x7 := zG (congrArg some du) kv.lt
 have x8 := zG (congrArg some du) kw.lt
 have x9 := zG (congrArg some du) kx.lt
 have ya := zG (congrArg some du) ky.lt
 have ape := zG (congrArg some du) k1.lt
 have yb := zH (congrArg some du) h5.lt
 have yc := zH (congrArg some du) kz.lt
 have yd := zH (congrArg some du) k0.lt
 have ye : w.heap.size ≤ x5 := by have := h4.size; omega
 have yf := k2.below bn
 refine ⟨fun _ => ⟨x6.reads, yf⟩, ?_⟩
 obtain ⟨axn, fp, yg, apf, dv⟩ := apb.sealed ao6
 have apg := ao7.moreO fp dv v6.symm
 have aph := ao8.moreO fp dv v7.symm
 have api := ao9.moreO fp dv v8.symm
 have apj := apa.moreO fp dv v9.symm
 have apk := x6.moreO dv wa.symm
 have apl := apc.moreO dv wb.symm
 have apm := apd.moreO dv wc.symm
 have apn := ao4.moreO dv ape
 refine dO (i := 10) (zS (i := 10) rfl rfl rfl (zD rfl _) (zF (vs := [ku]) Tryz.func70 nm70 rfl rfl rfl ?_))
 refine dY (qH yg.pins apf (by first | omega | (rw [xJ]; omega))) ?_
 rintro _ axo ⟨e2, axp, rfl, lp, a3⟩
 refine ⟨_, rfl, ?_⟩
 have ih := yg.tr a3
 have lq := apg.ext a3
 have yh := aph.ext a3
 have yi := api.ext a3
 have yj := apj.ext a3
 have lr := apk.ext a3
 have yk := apl.ext a3
 have yl := apm.ext a3
 have ym := apn.ext a3
 have yn := yf.below a3.below
 refine ⟨fun _ => ⟨lr.reads, yn⟩, ?_⟩
 refine dO (i := 20) (zS (i := 20) rfl rfl rfl (zD rfl _) (zF (vs := [at_, h3]) Tryz.func71 nm71 rfl rfl rfl ?_))
 refine dY (vE ih.pins (Gadd.pins ih.pins at_) lq.read (gh.mono (dW (dW am.le fp) a3.le)) (by omega) (fun i hi => by have := hoo.right (j := c) (by omega) hi; omega)) ?_
 rintro _ apo ⟨yo, app, rfl, ck, a4⟩
 refine ⟨_, rfl, ?_⟩
 have apq := ih.tr a4
 have apr := lq.ext a4
 have aps := yh.ext a4
 have apt := yi.ext a4
 have apu := yj.ext a4
 have yp := lr.ext a4
 have apv := yk.ext a4
 have apw := yl.ext a4
 have apx := ym.ext a4
 have apy := yB ck.lt lq.lt
 have apz := yB ck.lt yh.lt
 have ap0 := yB ck.lt yi.lt
 have ap1 := yB ck.lt yj.lt
 have ap2 := yF ck.lt lr.lt
 have ap4 := yF ck.lt yk.lt
 have ap5 := yF ck.lt yl.lt
 have ap6 := yF ck.lt ym.lt
 have ap7 := ck.weaken ih.size
 have yq := yn.below a4.below
 refine ⟨fun _ => ⟨yp.reads, yq⟩, ?_⟩
 obtain ⟨axq, fq, yr, ap8, dw⟩ := ap7.sealed apq
 have ap9 := apr.moreO fq dw apy.symm
 have aqa := aps.moreO fq dw apz.symm
 have aqb := apt.moreO fq dw ap0.symm
 have aqc := apu.moreO fq dw ap1.symm
 have aqd := yp.moreO dw ap2.symm
 have aqe := apv.moreO dw ap4.symm
 have aqf := apw.moreO dw ap5.symm
 have aqg := apx.moreO dw ap6.symm
 refine dO (i := 21) (zS (i := 21) rfl rfl rfl (zD rfl _) (zF (vs := [yo]) Tryz.func70 nm70 rfl rfl rfl ?_))
 refine dY (qH yr.pins ap8 (by first | omega | (rw [xJ]; omega))) ?_
 rintro _ axr ⟨e3, axs, rfl, lu, a5⟩
 refine ⟨_, rfl, ?_⟩
 have ys := yr.tr a5
 have aqh := ap9.ext a5
 have aqi := aqa.ext a5
 have aqj := aqb.ext a5
 have aqk := aqc.ext a5
 have lw := aqd.ext a5
 have aql := aqe.ext a5
 have aqm := aqf.ext a5
 have aqn := aqg.ext a5
 have yt := yq.below a5.below
 refine ⟨fun _ => ⟨lw.reads, yt⟩, ?_⟩
 refine dT (i := 22) rfl rfl (by kernel_rfl) (fun _ _ => xB [vN, vN] [e2, e3] [(0, e2, [e2]), (1, e3, [e3])] dF zr69 rfl pl69 rfl (List.forall_mem_cons.2 ⟨(xM lp.one), (List.forall_mem_cons.2 ⟨(xM lu.one), (fun _ h => by cases h)⟩)⟩) rfl) ⟨lw.reads, yt⟩ ?_
 refine dO (i := 24) (jB (i := 24) rfl rfl rfl (zD rfl _) (o_stp (cs' := [e2, e3]) (us := [e2, e3]) (v := (.agg [e2, e3].toArray)) sz69 rfl rfl rfl (xG lp.one lu.one) ys.pins aqn (dZ rfl) rfl (fun axt aqo aqp dx axu => ?_)))
 have aqq := ys.write aqp dx ((zY ye))
 have aqr := aqh.keptA dx x7.symm
 have aqs := aqi.keptA dx x8.symm
 have aqt := aqj.keptA dx x9.symm
 have aqu := aqk.keptA dx ya.symm
 have aqv := lw.keptA dx yb.symm
 have aqw := aql.keptA dx yc.symm
 have aqx := aqm.keptA dx yd.symm
 obtain ⟨aqy, e4, aqz, aq0, e5⟩ := aqo.shut aqq ye
 have aq1 := aqr.moreA e4 e5 x7.symm
 have aq2 := aqs.moreA e4 e5 x8.symm
 have aq3 := aqt.moreA e4 e5 x9.symm
 have aq4 := aqu.moreA e4 e5 ya.symm
 have aq5 := aqv.moreA e5 yb.symm
 have aq6 := aqw.moreA e5 yc.symm
 have aq7 := aqx.moreA e5 yd.symm
 refine ⟨fun h => absurd rfl h, ?_⟩
 exact yP (by kernel_rfl) (jE ⟨_, x5, e2, e3, aqy, (pS 12 (pS 11 (pS 10 (pS 9 (pS 8 (pS 7 (pS 6 (pS 5 (pS 4 (pS 1 (pU 0))))))))))), aqz, (dW (dW (dW (dW (dW (dW am.le fp) a3.le) a4.le) fq) a5.le) e4), (lp.mono (dW (dW (dW a4.le fq) a5.le) e4)), (lu.mono e4), aq1, aq2, aq3, aq4, aq5, aq6, aq7, (aq0.mono (Pin.le_refl _))⟩)
 refine (zS (i := 23) rfl rfl rfl (zD rfl _) (yM [vN, vN] zr69 rfl em.pins (fun yu axv e6 yv aq8 cl => ?_)))
 have ii := em.step aq8 cl
 have lx := gg.below cl
 have yw := hy.below cl
 have yx := hz.below cl
 have yy := h0.below cl
 have ly := ac.below cl
 have yz := h1.below cl
 have y0 := h2.below cl
 have y1 := zG (congrArg some e6) gg.lt
 have y2 := zG (congrArg some e6) hy.lt
 have y3 := zG (congrArg some e6) hz.lt
 have y4 := zG (congrArg some e6) h0.lt
 have y5 := zH (congrArg some e6) ac.lt
 have y6 := zH (congrArg some e6) h1.lt
 have y7 := zH (congrArg some e6) h2.lt
 have y8 : w.heap.size ≤ yu := by have := em.size; omega
 have y9 := ag.below cl
 refine ⟨fun _ => ⟨ly.reads, y9⟩, ?_⟩
 refine dO (i := 9) (zS (i := 9) rfl rfl rfl (zD rfl _) (zF (vs := [at_, v5]) Tryz.func71 nm71 rfl rfl rfl ?_))
 refine dY (vE ii.pins (Gadd.pins ii.pins at_) lx.read kt (by omega) (fun i hi => by have := hoo.left (j := c) (by omega) hi; omega)) ?_
 rintro _ aq9 ⟨za, ara, rfl, cm, a6⟩
 refine ⟨_, rfl, ?_⟩
 have arb := ii.tr a6
 have arc := lx.ext a6
 have ard := yw.ext a6
 have are := yx.ext a6
 have arf := yy.ext a6
 have zb := ly.ext a6
 have arg := yz.ext a6
 have arh := y0.ext a6
 have ari := yv.ext a6
 have arj := yB cm.lt lx.lt
 have ark := yB cm.lt yw.lt
 have arl := yB cm.lt yx.lt
 have arm := yB cm.lt yy.lt
 have arn := yF cm.lt ly.lt
 have aro := yF cm.lt yz.lt
 have arp := yF cm.lt y0.lt
 have arq := yF cm.lt yv.lt
 have arr := cm.weaken ii.size
 have zc := y9.below a6.below
 refine ⟨fun _ => ⟨zb.reads, zc⟩, ?_⟩
 obtain ⟨axw, fs, zd, ars, dy⟩ := arr.sealed arb
 have art := arc.moreO fs dy arj.symm
 have aru := ard.moreO fs dy ark.symm
 have arv := are.moreO fs dy arl.symm
 have arw := arf.moreO fs dy arm.symm
 have arx := zb.moreO dy arn.symm
 have ary := arg.moreO dy aro.symm
 have arz := arh.moreO dy arp.symm
 have ar0 := ari.moreO dy arq.symm
 refine dO (i := 10) (zS (i := 10) rfl rfl rfl (zD rfl _) (zF (vs := [za]) Tryz.func70 nm70 rfl rfl rfl ?_))
 refine dY (qH zd.pins ars (by first | omega | (rw [xJ]; omega))) ?_
 rintro _ axx ⟨e7, axy, rfl, lz, a7⟩
 refine ⟨_, rfl, ?_⟩
 have ij := zd.tr a7
 have l0 := art.ext a7
 have ze := aru.ext a7
 have zf := arv.ext a7
 have zg := arw.ext a7
 have l1 := arx.ext a7
 have zh := ary.ext a7
 have zi := arz.ext a7
 have zj := ar0.ext a7
 have zk := zc.below a7.below
 refine ⟨fun _ => ⟨l1.reads, zk⟩, ?_⟩
 refine dO (i := 20) (zS (i := 20) rfl rfl rfl (zD rfl _) (zF (vs := [at_, h3]) Tryz.func71 nm71 rfl rfl rfl ?_))
 refine dY (vE ij.pins (Gadd.pins ij.pins at_) l0.read (gh.mono (dW (dW a6.le fs) a7.le)) (by omega) (fun i hi => by have := hoo.right (j := c) (by omega) hi; omega)) ?_
 rintro _ ar1 ⟨zl, ar2, rfl, cn, a8⟩
 refine ⟨_, rfl, ?_⟩
 have ar3 := ij.tr a8
 have ar4 := l0.ext a8
 have ar5 := ze.ext a8
 have ar6 := zf.ext a8
 have ar7 := zg.ext a8
 have zm := l1.ext a8
 have ar8 := zh.ext a8
 have ar9 := zi.ext a8
 have asa := zj.ext a8
 have asb := yB cn.lt l0.lt
 have asc := yB cn.lt ze.lt
 have asd := yB cn.lt zf.lt
 have ase := yB cn.lt zg.lt
 have asf := yF cn.lt l1.lt
 have asg := yF cn.lt zh.lt
 have ash := yF cn.lt zi.lt
 have asi := yF cn.lt zj.lt
 have asj := cn.weaken ij.size
 have zn := zk.below a8.below
 refine ⟨fun _ => ⟨zm.reads, zn⟩, ?_⟩
 obtain ⟨axz, ft, zo, ask, dz⟩ := asj.sealed ar3
 have asl := ar4.moreO ft dz asb.symm
 have asm := ar5.moreO ft dz asc.symm
 have asn := ar6.moreO ft dz asd.symm
 have aso := ar7.moreO ft dz ase.symm
 have asp := zm.moreO dz asf.symm
 have asq := ar8.moreO dz asg.symm
 have asr := ar9.moreO dz ash.symm
 have ass := asa.moreO dz asi.symm
 refine dO (i := 21) (zS (i := 21) rfl rfl rfl (zD rfl _) (zF (vs := [zl]) Tryz.func70 nm70 rfl rfl rfl ?_))
 refine dY (qH zo.pins ask (by first | omega | (rw [xJ]; omega))) ?_
 rintro _ ax0 ⟨e8, ax1, rfl, l2, a9⟩
 refine ⟨_, rfl, ?_⟩
 have zp := zo.tr a9
 have ast := asl.ext a9
 have asu := asm.ext a9
 have asv := asn.ext a9
 have asw := aso.ext a9
 have l3 := asp.ext a9
 have asx := asq.ext a9
 have asy := asr.ext a9
 have asz := ass.ext a9
 have zq := zn.below a9.below
 refine ⟨fun _ => ⟨l3.reads, zq⟩, ?_⟩
 refine dT (i := 22) rfl rfl (by kernel_rfl) (fun _ _ => xB [vN, vN] [e7, e8] [(0, e7, [e7]), (1, e8, [e8])] dF zr69 rfl pl69 rfl (List.forall_mem_cons.2 ⟨(xM lz.one), (List.forall_mem_cons.2 ⟨(xM l2.one), (fun _ h => by cases h)⟩)⟩) rfl) ⟨l3.reads, zq⟩ ?_
 refine dO (i := 24) (jB (i := 24) rfl rfl rfl (zD rfl _) (o_stp (cs' := [e7, e8]) (us := [e7, e8]) (v := (.agg [e7, e8].toArray)) sz69 rfl rfl rfl (xG lz.one l2.one) zp.pins asz (dZ rfl) rfl (fun ax2 as0 as1 d0 ax3 => ?_)))
 have as2 := zp.write as1 d0 ((zY y8))
 have as3 := ast.keptA d0 y1.symm
 have as4 := asu.keptA d0 y2.symm
 have as5 := asv.keptA d0 y3.symm
 have as6 := asw.keptA d0 y4.symm
 have as7 := l3.keptA d0 y5.symm
 have as8 := asx.keptA d0 y6.symm
 have as9 := asy.keptA d0 y7.symm
 obtain ⟨ata, e9, atb, atc, fa⟩ := as0.shut as2 y8
 have atd := as3.moreA e9 fa y1.symm
 have ate := as4.moreA e9 fa y2.symm
 have atf := as5.moreA e9 fa y3.symm
 have atg := as6.moreA e9 fa y4.symm
 have ath := as7.moreA fa y5.symm
 have ati := as8.moreA fa y6.symm
 have atj := as9.moreA fa y7.symm
 refine ⟨fun h => absurd rfl h, ?_⟩
 exact yP (by kernel_rfl) (jE ⟨_, yu, e7, e8, ata, (pS 12 (pS 11 (pS 10 (pS 9 (pS 8 (pS 7 (pS 6 (pS 5 (pS 4 (pS 1 (pU 0))))))))))), atb, (dW (dW (dW (dW (dW (dW a6.le fs) a7.le) a8.le) ft) a9.le) e9), (lz.mono (dW (dW (dW a8.le ft) a9.le) e9)), (l2.mono e9), atd, ate, atf, atg, ath, ati, atj, (atc.mono (Pin.le_refl _))⟩)
 refine qW ?_
 refine qW ?_
 refine qW ?_
 refine qW ?_
 refine qW ?_
 refine qW ?_
 refine qW ?_
 refine qW ?_
 refine qW ?_
 refine qD rfl (yR (v := (.bool true)) rfl rfl) (qe (zA ?_))
 refine jS rfl rfl (wp_exit (zV (yE (zA (zC ?_)))))
 refine qM (vJ (c : Int)) ?_
 refine qD rfl (yJ rfl rfl (by omega)) (qM (vJ ((c : Int) + 1)) ?_)
 refine qe (yD (⟨_, ?_, _, rfl, _, c + 1, lv, ls, fv, fr, ah, (pS 11 (pS 10 (pS 9 (pS 8 (pS 7 (pS 6 (pS 5 (pS 4 (pS 1 (pU 0)))))))))), rfl, cx, f2, (by omega), (lv_skip hrl (fun g => by have := g.1; rw [i8] at this; cases this)), (by omega), hfb, gu, gv, d8, fi, f3, gw, gx, be, fj⟩))
 omega
 refine wp_exit (zV (yK (yE (zA (zB (zC ?_))))))
 refine qM (vJ 0) ?_
 refine qe (zA ?_)
 refine zW (yS (fun k en W => ∃ (ab : Nat → Value) (s : Nat) (an : Value) (fu : List Int) (ai : Value) (bb : List Nd) (aj : Pin), en = (upd (upd (upd (upd (upd (upd (upd (upd (upd (upd ab 0 (vP b)) 1 (vJ m)) 4 (vP b1)) 5 aw) 6 an) 7 (vP y)) 8 (vJ (q : Int))) 9 lv) 10 fv) 14 (vJ (s : Int))) ∧ k = ls.length - s ∧ Ext noS G w aj W ∧ Pin.le ah aj ∧ (s ≤ ls.length) ∧ (placeM ls fr ats outs = placeM (ls.drop s) (fr.drop s) fu bb) ∧ (fu.length = m.toNat + 1) ∧ (bb.length = outs.length + s) ∧ (Own eInt 3 aj W w.heap.size an (fu)) ∧ (Own eNode 69 aj W w.heap.size ai (bb)) ∧ (Own eNode 69 aj W 0 bu (ns)) ∧ (Own eInt 3 aj W 0 bv (bs)) ∧ (Bx aj W b [bu, bv]) ∧ (Bx aj W b1 [vN]) ∧ (Bx aj W y [ai]) ∧ (Apart an.ownBlock ai.ownBlock) ∧ (Apart an.ownBlock bu.ownBlock) ∧ (Apart an.ownBlock bv.ownBlock) ∧ (Apart an.ownBlock (some b)) ∧ (Apart an.ownBlock (some b1)) ∧ (Apart an.ownBlock (some y)) ∧ (Apart ai.ownBlock bu.ownBlock) ∧ (Apart ai.ownBlock bv.ownBlock) ∧ (Apart ai.ownBlock (some b)) ∧ (Apart ai.ownBlock (some b1)) ∧ (Apart ai.ownBlock (some y))) _ ⟨_, 0, at_, ats, ov, outs, ah, (pS 14 (pS 10 (pS 9 (pS 8 (pS 7 (pS 6 (pS 5 (pS 4 (pS 1 (pU 0)))))))))), rfl, cx, Pin.le_refl _, Nat.zero_le _, rfl, hatl, rfl, gu, gv, d8, fi, f3, gw, gx, abk, abl, abm, abn, abo, abp, abq, abr, abs, nc, abt⟩ ?_)
 rintro ax4 _ gk ⟨ab, s, an, fu, ai, bb, aj, rfl, ax5, gl, fw, hi4, hrp, zr, ax7, l4, l5, zs, zt, zu, zv, zw, ik, l6, l7, l8, l9, il, ma, mb, mc, md, me⟩
 refine zB (zB (zC ?_))
 refine qM (vJ (s : Int)) ?_
 refine qM lv ?_
 refine qD rfl (zP dC (v := lv) rfl be) (qD rfl (yX rfl rfl) (qe (zA ?_)))
 refine yC (p := ((s : Int) : Int) < (ls.length : Int)) rfl rfl (fun atk => ?_) (fun atk => ?_)
 have hf4 := hfb s (by omega)
 refine wp_skip (zA (zB ?_))
 refine zW (zB ?_)
 have atl := Gadd.pins gl.pins ai
 have atm := Gadd.pins gl.pins an
 have atn := l5.read
 have ato := l4.read
 refine yZ (S := fun wz => Pins aj wz ∧ BxR wz y [ai] ∧ Pins (Gadd aj gk ai) wz ∧ Pins (Gadd aj gk an) wz) (last := 9) (by kernel_rfl) rfl ?_
 have bc := bdr gk
 have atp := gl.pins.below bc
 have bd := gl.step atp bc
 have zx := l4.below bc
 have atq := l5.below bc
 have atr := zs.below bc
 have att := zt.below bc
 have atu := zu.below bc
 have atv := zv.below bc
 have bo := zw.below bc
 have co := atl.below bc
 have cp := atm.below bc
 refine dT (i := 0) rfl rfl (by kernel_rfl) (fun _ _ => zR (v := an) rfl) ⟨bd.pins, bo.reads, co, cp⟩ ?_
 refine dT (i := 1) rfl rfl (by kernel_rfl) (fun _ _ => zR (v := fv) rfl) ⟨bd.pins, bo.reads, co, cp⟩ ?_
 refine dT (i := 2) rfl rfl (by kernel_rfl) (fun _ _ => zR (v := (vJ (s : Int))) rfl) ⟨bd.pins, bo.reads, co, cp⟩ ?_
 refine dT (i := 3) rfl rfl (by kernel_rfl) (fun _ _ => zJ dB sz3 (v := fv) rfl rfl fj (by omega) (by omega)) ⟨bd.pins, bo.reads, co, cp⟩ ?_
 refine dT (i := 4) rfl rfl (by kernel_rfl) (fun _ hS => zI (r := fr.getD s 0) rfl ag3 (z := (s : Int)) rfl fj (dX hS.1 fw) (by omega) (by omega)) ⟨bd.pins, bo.reads, co, cp⟩ ?_
 refine dT (i := 5) rfl rfl (by kernel_rfl) (fun _ _ => zK (k := 0) rfl dE rfl nz24 rfl) ⟨bd.pins, bo.reads, co, cp⟩ ?_
 refine dT (i := 6) rfl rfl (by kernel_rfl) (fun _ hS => zL (u := ai) ag24 rfl (hS.2.1 0 _ rfl)) ⟨bd.pins, bo.reads, co, cp⟩ ?_
 refine dT (i := 7) rfl rfl (by kernel_rfl) (fun _ _ => zP dC (v := ai) rfl atn) ⟨bd.pins, bo.reads, co, cp⟩ ?_
 refine dT (i := 8) rfl rfl (by kernel_rfl) (fun _ _ => zJ dB sz3 (v := an) rfl rfl ato (by omega) (by omega)) ⟨bd.pins, bo.reads, co, cp⟩ ?_
 refine dO (i := 9) (jB (i := 9) rfl rfl rfl (zD rfl _) (fD (E := eInt) (v := an) (u := (vJ (bb.length : Int))) (z := (fr.getD s 0)) ((bb.length : Int)) sz3 rfl rfl rfl rfl bd.pins zx (by omega) (by omega) (fun mf atw atx fb ax9 => ?_)))
 have zy := bd.write atx fb ((yH zx))
 have aty := atq.keptA fb ik.symm
 have atz := atr.keptA fb l6.symm
 have at0 := att.keptA fb l7.symm
 have at1 := atu.keptA fb l8.symm
 have at3 := atv.keptA fb l9.symm
 have at4 := bo.keptA fb il.symm
 refine ⟨fun h => absurd rfl h, ?_⟩
 refine yP (by kernel_rfl) (zA (yZ (S := fun wz => BxR wz y [ai] ∧ Pins aj wz) (last := 9) (by kernel_rfl) rfl ?_))
 have cq := bdr mf
 have at5 := zy.pins.below cq
 have cr := zy.step at5 cq
 have at6 := atw.below cq
 have at7 := aty.below cq
 have at8 := atz.below cq
 have at9 := at0.below cq
 have aua := at1.below cq
 have aub := at3.below cq
 have fc := at4.below cq
 refine dT (i := 0) rfl rfl (by kernel_rfl) (fun _ _ => zK (k := 0) rfl dE rfl nz24 rfl) ⟨fc.reads, cr.pins⟩ ?_
 refine dT (i := 1) rfl rfl (by kernel_rfl) (fun _ hS => zL (u := ai) ag24 rfl (hS.1 0 _ rfl)) ⟨fc.reads, cr.pins⟩ ?_
 refine dT (i := 2) rfl rfl (by kernel_rfl) (fun _ _ => zR (v := lv) rfl) ⟨fc.reads, cr.pins⟩ ?_
 refine dT (i := 3) rfl rfl (by kernel_rfl) (fun _ _ => zR (v := (vJ (s : Int))) rfl) ⟨fc.reads, cr.pins⟩ ?_
 refine dT (i := 4) rfl rfl (by kernel_rfl) (fun _ _ => zJ dC sz69 (v := lv) rfl rfl be (by omega) (by omega)) ⟨fc.reads, cr.pins⟩ ?_
 obtain ⟨auc, aud, zz, z0, aue⟩ := vW (be.at (z := (s : Int)) (by omega) (by omega)) (j := s) rfl
 have aya := zz.max
 have ayb := z0.max
 refine dT (i := 5) rfl rfl (by kernel_rfl) (fun _ hS => aue ag69 sz69 rfl (dX hS.2 fw)) ⟨fc.reads, cr.pins⟩ ?_
 refine dO (i := 6) (zS (i := 6) rfl rfl rfl (zD rfl _) (xT (E := eNode) (e := 69) [auc, aud] (⟨(ls.getD s default).l, (ls.getD s default).r⟩ : Nd) dC sz69 zr69 ⟨_, _, rfl, (zz.mono fw), (z0.mono fw)⟩ rfl (by decide) cr.pins (fun z1 auf aug auh d1 ayc => ?_)))
 have im := cr.step auh d1
 have z2 := at6.below d1
 have z3 := at7.below d1
 have z4 := at8.below d1
 have z5 := at9.below d1
 have z6 := aua.below d1
 have z7 := aub.below d1
 have mg := fc.below d1
 have aui := aug.weaken cr.size
 refine ⟨fun _ => ⟨mg.reads, im.pins⟩, ?_⟩
 refine dO (i := 7) (zS (i := 7) rfl rfl rfl (zD rfl _) (oA (E := eNode) (v := ai) (u := z1) 48 dC ap69 (by decide) rfl rfl im.pins z3 aui.src (im.size) (fun io ayd mh auj fd fx => ?_)))
 have ip := im.write auj fd ((yH z3))
 have auk := z2.keptA fd ik
 have aul := z4.keptA fd ma.symm
 have aum := z5.keptA fd mb.symm
 have aun := z6.keptA fd mc.symm
 have auo := z7.keptA fd md.symm
 have mi := mg.keptA fd me.symm
 have aup := zE ik fx z2.lt
 have auq := zE ma.symm fx z4.lt
 have aur := zE mb.symm fx z5.lt
 have aus := zN mc.symm fx z6.lt
 have aut := zN md.symm fx z7.lt
 have z8 := zN me.symm fx mg.lt
 have aye := la1 bb (⟨(ls.getD s default).l, (ls.getD s default).r⟩ : Nd)
 refine ⟨fun _ => ⟨mi.reads, ip.pins⟩, ?_⟩
 refine dT (i := 8) rfl rfl (by kernel_rfl) (fun _ _ => zK (k := 0) rfl dE rfl nz24 rfl) ⟨mi.reads, ip.pins⟩ ?_
 refine dO (i := 9) (jB (i := 9) rfl rfl rfl (zD rfl _) (o_stp (cs' := [io]) (us := [io]) (v := io) sz24 rfl rfl (tD mh.one) (yO mh.one) ip.pins mi (dZ rfl) rfl (fun ayf auu auw fe ayg => ?_)))
 have aux := ip.write auw fe ((zY m8))
 have auy := auk.keptA fe il
 have auz := aul.keptA fe m2.symm
 have au0 := aum.keptA fe m3.symm
 have au1 := mh.keptA fe z8.symm
 have au2 := aun.keptA fe m6.symm
 have au3 := auo.keptA fe m7.symm
 refine ⟨fun h => absurd rfl h, ?_⟩
 refine yP (by kernel_rfl) (yA (zA (zC ?_)))
 refine qM (vJ (s : Int)) ?_
 refine qD rfl (yJ rfl rfl (by omega)) (qM (vJ ((s : Int) + 1)) ?_)
 refine qe (yD (⟨_, ?_, _, rfl, _, s + 1, an, (fu).set (fr.getD s 0).toNat (bb.length : Int), io, bb ++ ([(⟨(ls.getD s default).l, (ls.getD s default).r⟩ : Nd)]), aj, (pS 14 (pS 10 (pS 9 (pS 8 (pS 7 (pS 6 (pS 5 (pS 4 (pS 1 (pU 0)))))))))), rfl, aux, fw, (by omega), (hrp.trans (place_next (by omega) (by omega))), ((List.length_set ..).trans zr), (by simp; omega), auy, au1, auz, au0, au2, au3, auu, aup, l6, l7, l8, l9, il, auq.symm, aur.symm, aus.symm, aut.symm, z8.symm⟩))
 omega
 refine wp_exit (zV (yK (yE (yA (zA (zC ?_))))))
 refine qM (vJ (q : Int)) ?_
 refine qD rfl (yJ rfl rfl (by omega)) (qM (vJ ((q : Int) + 1)) ?_)
 refine qe (yD (⟨_, ?_, _, rfl, _, q + 1, an, fu, ai, bb, aj, (pS 8 (pS 7 (pS 6 (pS 5 (pS 4 (pS 1 (pU 0))))))), rfl, gl, (dW (dW (dW (dW m9 d5) d6) f2) fw), (by omega), (form_step hr (by rw [show m.toNat + 1 = c by omega]; exact hrl) (hrp.trans (place_end (by omega)))), zr, (by omega), l4, l5, zs, zt, zu, zv, zw, ik, l6, l7, l8, l9, il, ma, mb, mc, md, me⟩))
 omega
 refine wp_exit (zV (yK (yE (zA (zB (zC ?_))))))
 refine qD rfl (zT (cs := [ov]) ag26 sz26 rfl (fun j u hj => i3.cell (by simpa using hj))) (q0 rfl rfl rfl (o_stp (cs' := [ov]) (us := [ov]) (v := (.agg [ov].toArray)) sz26 rfl rfl rfl (yO gr.one) fh.pins i2 (dZ rfl) rfl (fun ayh au4 au5 z9 ayi => ?_)))
 have au6 := fh.write au5 z9 ((zY aac))
 have aaa := gr.keptA z9 nc
 refine qe (zA ?_)
 refine wp_ret (zO (qE (cs := [ov]) rfl rfl rfl ag26 sz26 (fun j u hj => by rw [Nat.zero_add]; exact au4.cell hj) ?_))
 obtain ⟨ayj, au7, au8, au9, ayk⟩ := aaa.sealed au6
 have hfd := form_done hr (by omega)
 exact ⟨_, _, rfl, (by rw [hfd]; exact au9), au8, (by rw [hfd]; exact ⟨aq, aaa, au7⟩)⟩
theorem tP {w : World} (hP : Pins G w) (hB : Bk 69 3 G w b bu bv ns bs) (hok : BookOk ns bs) (hm : 0 ≤ m ∧ m < ns.length) :
  Calls Tryz.prog 48 [(.pointer (some ⟨b, 0, none⟩)), (.int .i64 m)].toArray w fun e w' => ∃ (u : Value) (G' : Pin), e = .returned (.agg [u].toArray) ∧ RSl eNode G' u (formM ns bs m.toNat) ∧ Ext noS G w G' w' :=
 (form_own hP hB hok hm).mono fun _ _ ⟨u, G', h1, h2, h3, _⟩ => ⟨u, G', h1, h2, h3⟩
theorem pA {w : World} {v : Value} (hP : Pins G w) (hv : RSl eNode G v ns) :
  Calls Tryz.prog 21 [(.agg [v].toArray)].toArray w fun e w' => ∃ G', e = .returned (.bool (decP (GoodS ns))) ∧ Ext noS G w G' w' := by
 refine zU (n := 46) Tryz.func21 Tryz.ntmps21 rfl rfl ?_
 have ae := exr noS hP
 have hm := hv.max
 refine zB (zC ?_)
 refine qI rfl (xH [v] (v := (.agg [v].toArray)) rfl rfl ae.pins (fun b1 w2 bq az a0 a1 => ?_))
 have a2 := ae.step a0 a1
 have a3 : w.heap.size ≤ b1 := by have := ae.size; omega
 obtain ⟨G9, f, af, o, bs⟩ := az.shut a2 a3
 refine qM (.bool false) ?_
 refine qe (zA (zB (zB (zC ?_))))
 refine qD rfl (zT (cs := [v]) ag26 sz26 rfl (fun j u hj => af.pins _ _ _ (o _ _ (by simpa using hj)))) (qI rfl (zF (vs := [(.agg [v].toArray)]) Tryz.func45 nm45 rfl rfl rfl ?_))
 refine dY (pB af.pins (hv.mono f)) ?_
 rintro _ bt ⟨ao, rfl, a⟩
 refine ⟨_, rfl, ?_⟩
 have ap := af.tr a
 refine qD rfl (xR rfl) (qe (zA ?_))
 refine qY rfl rfl (fun ab => ?_) (fun ab => ?_)
 refine wp_skip (zA (zB (zB (zC ?_))))
 refine qM (vJ 0) ?_
 refine qe (zA ?_)
 refine zW ?_
 have hfit := decP_true.1 ab
 refine yS (fun k en W => ∃ (aq : Nat → Value) (j : Nat) (x : Pin), en = (upd (upd aq 1 (vP b1)) 3 (vJ (j : Int))) ∧ k = ns.length - j ∧ Ext noS G w x W ∧ Pin.le ao x ∧ (j ≤ ns.length) ∧ (∀ i, i < j → Rise (ns.getD i default).l 0 ((i : Int) - 1) ∧ Rise (ns.getD i default).r 0 ((i : Int) - 1))) _ ⟨_, 0, ao, (pS 3 (pU 1)), rfl, ap, Pin.le_refl _, Nat.zero_le _, (fun i hi => absurd hi (Nat.not_lt_zero i))⟩ ?_
 rintro bu _ bv ⟨aq, j, x, rfl, bw, c, b, hj, hp⟩
 refine zB (zB (zC ?_))
 refine qM (vJ (j : Int)) ?_
 refine qD rfl (zK (k := 0) rfl dE rfl nz24 rfl) (qD rfl (zL (u := v) ag24 rfl ((dX c.pins (dW a.le b)) _ _ _ (o 0 _ rfl))) (qD rfl (zP dC (v := v) rfl hv) (qD rfl (yX rfl rfl) (qe (zA ?_)))))
 refine yC (p := ((j : Int) : Int) < (ns.length : Int)) rfl rfl (fun a4 => ?_) (fun a4 => ?_)
 refine wp_skip (zA (zB ?_))
 refine zW (zB (zC ?_))
 refine qD rfl (zK (k := 0) rfl dE rfl nz24 rfl) (qD rfl (zL (u := v) ag24 rfl ((dX c.pins (dW a.le b)) _ _ _ (o 0 _ rfl))) (qM (vJ (j : Int)) ?_))
 refine qD rfl (zJ dC sz69 (v := v) rfl rfl hv (by omega) (by omega)) (qD rfl (xF (off := 0) dF rfl rfl nz48 (z := (j : Int)) (k := 0) rfl hv (by omega) (by omega)) ?_)
 obtain ⟨a5, ar, a6⟩ := kA (hv.at (z := (j : Int)) (by omega) (by omega)) (j := j) rfl
 have bz := ar.max
 refine qD rfl (a6 ag48 rfl (dX c.pins (dW (dW f a.le) b))) (qM (vJ (j : Int)) ?_)
 refine qD rfl (qC rfl rfl (by omega)) (qI rfl (zF (vs := [a5, (vJ 0), (vJ ((j : Int) - 1))]) Tryz.func46 nm46 rfl rfl rfl ?_))
 refine dY (tW c.pins (ar.mono (dW (dW f a.le) b))) ?_
 rintro _ b0 ⟨rfl, au⟩
 refine ⟨_, rfl, ?_⟩
 have y := c.step au.pins au.below
 refine qD rfl (xR rfl) (qM (.bool (!(decP (Rise ((ns.getD j default).l) 0 ((j : Int) - 1))))) ?_)
 refine qbn (t := 25) rfl (fun ac => ?_) (fun ac => ?_)
 refine qN (zK (k := 0) rfl dE rfl nz24 rfl) ?_
 refine qN (zL (u := v) ag24 rfl ((dX y.pins (dW a.le b)) _ _ _ (o 0 _ rfl))) ?_
 refine qN (zR (v := (vJ (j : Int))) rfl) ?_
 refine qN (zJ dC sz69 (v := v) rfl rfl hv (by omega) (by omega)) ?_
 refine qN (xF (off := 1) dF rfl rfl nz48 (z := (j : Int)) (k := 0) rfl hv (by omega) (by omega)) ?_
 obtain ⟨a7, av, a8⟩ := kE (hv.at (z := (j : Int)) (by omega) (by omega)) (j := j) rfl
 have b2 := av.max
 refine qN (a8 ag48 rfl (dX y.pins (dW (dW f a.le) b))) ?_
 refine qN (zR (v := (vJ (j : Int))) rfl) ?_
 refine qN (qC rfl rfl (by omega)) ?_
 refine q1g rfl rfl rfl rfl rfl rfl (zF (vs := [a7, (vJ 0), (vJ ((j : Int) - 1))]) Tryz.func46 nm46 rfl rfl rfl ?_)
 refine dY (tW y.pins (av.mono (dW (dW f a.le) b))) ?_
 rintro _ b3 ⟨rfl, aw⟩
 refine ⟨_, rfl, ?_⟩
 have ax := y.step aw.pins aw.below
 refine qN (xR rfl) ?_
 refine qD rfl (yI (v := (.bool (!(decP (Rise ((ns.getD j default).r) 0 ((j : Int) - 1)))))) rfl rfl) (qe (zA ?_))
 refine qY rfl rfl (fun ad => ?_) (fun ad => ?_)
 refine wp_skip (yA (zA (zC ?_)))
 refine qM (vJ (j : Int)) ?_
 refine qD rfl (yJ rfl rfl (by omega)) (qM (vJ ((j : Int) + 1)) ?_)
 refine qe (yD (⟨_, ?_, _, rfl, _, j + 1, x, (pS 3 (pU 1)), rfl, ax, b, (by omega), (fun k hk => if h3 : k = j then h3 ▸ ⟨decP_true.1 ac, decP_true.1 ad⟩ else hp k (by omega))⟩))
 omega
 refine zB (zC ?_)
 refine qM (.bool false) ?_
 refine qe (zA ?_)
 exact wp_ret (zO (zQ (v := (.bool false)) rfl rfl rfl (⟨_, congrArg (fun z => Ending.returned (Value.bool z)) (decP_false.2 (fun g => by rw [decP_true.2 (g.rise j (by omega)).2] at ad; cases ad)).symm, ax⟩)))
 refine qW ?_
 refine qW ?_
 refine qW ?_
 refine qW ?_
 refine qW ?_
 refine qW ?_
 refine qW ?_
 refine qW ?_
 refine qW ?_
 refine qW ?_
 refine qD rfl (yR (v := (.bool true)) rfl rfl) (qe (zA ?_))
 refine jS rfl rfl (zB (zC ?_))
 refine qM (.bool false) ?_
 refine qe (zA ?_)
 exact wp_ret (zO (zQ (v := (.bool false)) rfl rfl rfl (⟨_, congrArg (fun z => Ending.returned (Value.bool z)) (decP_false.2 (fun g => by rw [decP_true.2 (g.rise j (by omega)).1] at ac; cases ac)).symm, y⟩)))
 refine wp_exit (zV (yK (yE (zA (zB (zC ?_))))))
 have hrise : ∀ i, i < ns.length → Rise (ns.getD i default).l 0 ((i : Int) - 1) ∧ Rise (ns.getD i default).r 0 ((i : Int) - 1) := fun i hi => hp i (by omega)
 have hfok := fU hfit hrise
 have hlim := hfit.lim
 have hao := jK qL hfok (by simp; omega)
 refine qD rfl (xB [vN, vN] [vN, vN] [] dI zr87 rfl pl87 rfl (fun _ h => by cases h) rfl) (qI rfl (xH [vN, vN] (v := (.agg [vN, vN].toArray)) rfl rfl c.pins (fun m ag b4 a9 ba bb => ?_)))
 have ay := c.step ba bb
 have bc : w.heap.size ≤ m := by have := c.size; omega
 refine qM (vP m) ?_
 refine qe (zA (zB ?_))
 refine yZ (S := fun wz => Pins x wz) (last := 8) (by kernel_rfl) rfl ?_
 have ah := bdr ag
 have bd := ay.pins.below ah
 have d := ay.step bd ah
 have be := a9.below ah
 refine dM 0 (vP m) d.pins ?_
 refine dM 1 (vP m) d.pins ?_
 refine dT (i := 2) rfl rfl (by kernel_rfl) (fun _ hS => zT (cs := [v]) ag26 sz26 rfl (fun j u hj => (dX hS (dW a.le b)) _ _ _ (o _ _ (by simpa using hj)))) d.pins ?_
 refine dT (i := 5) rfl rfl (by kernel_rfl) (fun _ hS => zT (cs := [v]) ag26 sz26 rfl (fun j u hj => (dX hS (dW a.le b)) _ _ _ (o _ _ (by simpa using hj)))) d.pins ?_
 refine dO (i := 3) (zS (i := 3) rfl rfl rfl (zD rfl _) (zF (vs := [(vP m), (.agg [v].toArray)]) Tryz.func49 nm49 rfl rfl rfl ?_))
 refine dY (jX d.pins ⟨be, (Own.nil _ _ _ _ _), (Own.nil _ _ _ _ _), apart_none.symm, apart_none.symm, apart_none⟩ qL (hv.mono (dW (dW f a.le) b)) ⟨hfok, hlim.1⟩ (by first | omega | (simp; omega))) ?_
 rintro _ b5 ⟨b6, b7, b8, rfl, q, s, bf, bg⟩
 refine ⟨_, rfl, ?_⟩
 have ai : ∀ i, inS m vN vN i → w.heap.size ≤ i ∨ noS i := jD (zY bc) (jU _ _) (jU _ _)
 have aj := d.trans s ai
 have bh := q.bx
 have bi := q.ou
 have bj := q.ov
 have bk := q.abu
 have bl := q.abv
 have bm := q.auv
 have b9 := xD bf ai d.size
 have ca := xD bg ai d.size
 refine ⟨fun _ => (dX aj.pins s.le), ?_⟩
 refine dO (i := 4) (zS (i := 4) rfl rfl rfl (zD rfl _) (zF (vs := [(vP m), (vJ (rootM ([]) ([]) ns))]) Tryz.func48 nm48 rfl rfl rfl ?_))
 refine dY (tP aj.pins ⟨bh, bi, bj, bk, bl, bm⟩ hao.book (tJ hao hlim.1)) ?_
 rintro _ cb ⟨bn, cc, rfl, bo, aa⟩
 refine ⟨_, rfl, ?_⟩
 have ak := aj.tr aa
 refine ⟨fun _ => (dX ak.pins (dW s.le aa.le)), ?_⟩
 refine dO (i := 6) (zS (i := 6) rfl rfl rfl (zD rfl _) (zF (vs := [(.agg [bn].toArray), (.agg [v].toArray)]) Tryz.func47 nm47 rfl rfl rfl ?_))
 refine dY (l3Same_spec ak.pins bo (hv.mono (dW (dW (dW (dW f a.le) b) s.le) aa.le))) ?_
 rintro _ cd ⟨ce, rfl, al⟩
 refine ⟨_, rfl, ?_⟩
 have am := ak.tr al
 refine ⟨fun _ => (dX am.pins (dW (dW s.le aa.le) al.le)), ?_⟩
 refine dM 7 (.bool (decide ((formM ((addM ([]) ([]) ns).2.1) ((addM ([]) ([]) ns).2.2) (rootM ([]) ([]) ns).toNat) = ns))) (dX am.pins (dW (dW s.le aa.le) al.le)) ?_
 exact yP (by kernel_rfl) (zA (wp_ret (zO (zQ (v := (.bool (decide ((formM ((addM ([]) ([]) ns).2.1) ((addM ([]) ([]) ns).2.2) (rootM ([]) ([]) ns).toNat) = ns)))) rfl rfl rfl (⟨_, congrArg (fun z => Ending.returned (Value.bool z)) (decP_dec.symm.trans (tC ⟨fun h => ⟨hfit, hrise, h⟩, fun h => h.same⟩)), am⟩)))))
 refine zB (zC ?_)
 refine qM (.bool false) ?_
 refine qe (zA ?_)
 exact wp_ret (zO (zQ (v := (.bool false)) rfl rfl rfl (⟨_, congrArg (fun z => Ending.returned (Value.bool z)) (decP_false.2 (fun g => by rw [decP_true.2 g.fits] at ab; cases ab)).symm, ap⟩)))
end E1
end Go.Proofs.YtjdchbdfohiaaaaGreatDoor
namespace Go.Proofs.YtjdchbdfohiaaaaGreatDoor
namespace DR1
open Go.RowKit Go.GL Go.Proofs
open B1
variable {G : Pin} {cv : Value} {code : List UInt8} {a : Int}
theorem next_spec {w : World} {c : Nat} {s : Int} (hP : Pins G w) (hB : Bx G w c [cv, .int .i64 a, .int .u64 s]) (hc : RSl eByte G cv code) (ha : 0 ≤ a ∧ a + 1 ≤ 1000000) (_ : 0 ≤ s ∧ s < 18446744073709551616) :
  Calls Tryz.prog 60 [(vP c)].toArray w fun e w' => ∃ (z : Int) (a' s' : Int), e = .returned (vJ z) ∧ (0 ≤ z ∧ z ≤ 255) ∧ Bx G w' c [cv, .int .i64 a', .int .u64 s'] ∧ (a ≤ a' ∧ a' ≤ a + 1) ∧ (0 ≤ s' ∧ s' < 18446744073709551616) ∧ Ext (inO (some c)) G w G w' := by
 refine zU (n := 62) Tryz.func60 Tryz.ntmps60 rfl rfl ?_
 have ab := exr (inO (some c)) hP
 have hm := hc.max
 refine zB (zC ?_)
 refine qM (vJ 0) ?_
 refine qe (zA (zB (zC ?_)))
 refine qM (vJ 0) ?_
 refine qe (zA (zB (zB ?_)))
 refine yZ (S := fun wz => BxR wz c [cv, (vJ a), (.int .u64 s)]) (last := 10) (by kernel_rfl) rfl ?_
 have m := bdr w
 have ak := ab.pins.below m
 have l := ab.step ak m
 have f := hB.below m
 refine dM 0 (vP c) f.reads ?_
 refine dT (i := 1) rfl rfl (by kernel_rfl) (fun _ _ => yU rfl) f.reads ?_
 refine dT (i := 2) rfl rfl (by kernel_rfl) (fun _ _ => zK (k := 1) rfl dL rfl nz3 rfl) f.reads ?_
 refine dT (i := 3) rfl rfl (by kernel_rfl) (fun _ hS => zL (u := (vJ a)) ag3 rfl (hS 1 _ rfl)) f.reads ?_
 refine dM 4 (vP c) f.reads ?_
 refine dT (i := 5) rfl rfl (by kernel_rfl) (fun _ _ => yU rfl) f.reads ?_
 refine dT (i := 6) rfl rfl (by kernel_rfl) (fun _ _ => zK (k := 0) rfl dL rfl nz22 rfl) f.reads ?_
 refine dT (i := 7) rfl rfl (by kernel_rfl) (fun _ hS => zL (u := cv) ag22 rfl (hS 0 _ rfl)) f.reads ?_
 refine dT (i := 8) rfl rfl (by kernel_rfl) (fun _ _ => zP dN (v := cv) rfl hc) f.reads ?_
 refine dT (i := 9) rfl rfl (by kernel_rfl) (fun _ _ => yX rfl rfl) f.reads ?_
 refine yP (by kernel_rfl) (zA (yC (p := (a : Int) < (code.length : Int)) rfl rfl (fun h5 => ?_) (fun h5 => ?_)))
 have a3 := (code.getD a.toNat 0).toNat_lt
 refine yZ (S := fun wz => BxR wz c [cv, (vJ a), (.int .u64 s)] ∧ Pins G wz) (last := 12) (by kernel_rfl) rfl ?_
 have q : Below w.drew.heap.size w.drew w.drew.drew := (Below.refl _ _).drew
 have am := l.pins.below q
 have b := l.step am q
 have d := f.below q
 refine dT (i := 0) rfl rfl (by kernel_rfl) (fun _ _ => zR (v := (vP c)) rfl) ⟨d.reads, b.pins⟩ ?_
 refine dT (i := 1) rfl rfl (by kernel_rfl) (fun _ _ => yU rfl) ⟨d.reads, b.pins⟩ ?_
 refine dT (i := 2) rfl rfl (by kernel_rfl) (fun _ _ => zK (k := 0) rfl dL rfl nz22 rfl) ⟨d.reads, b.pins⟩ ?_
 refine dT (i := 3) rfl rfl (by kernel_rfl) (fun _ hS => zL (u := cv) ag22 rfl (hS.1 0 _ rfl)) ⟨d.reads, b.pins⟩ ?_
 refine dT (i := 4) rfl rfl (by kernel_rfl) (fun _ _ => zR (v := (vP c)) rfl) ⟨d.reads, b.pins⟩ ?_
 refine dT (i := 5) rfl rfl (by kernel_rfl) (fun _ _ => yU rfl) ⟨d.reads, b.pins⟩ ?_
 refine dT (i := 6) rfl rfl (by kernel_rfl) (fun _ _ => zK (k := 1) rfl dL rfl nz3 rfl) ⟨d.reads, b.pins⟩ ?_
 refine dT (i := 7) rfl rfl (by kernel_rfl) (fun _ hS => zL (u := (vJ a)) ag3 rfl (hS.1 1 _ rfl)) ⟨d.reads, b.pins⟩ ?_
 refine dT (i := 8) rfl rfl (by kernel_rfl) (fun _ _ => zJ dN sz5 (v := cv) rfl rfl hc (by omega) (by omega)) ⟨d.reads, b.pins⟩ ?_
 refine dT (i := 9) rfl rfl (by kernel_rfl) (fun _ hS => eV (r := code.getD (a).toNat 0) rfl ag5 (z := a) rfl hc hS.2 (by omega) (by omega)) ⟨d.reads, b.pins⟩ ?_
 refine dT (i := 10) rfl rfl (by kernel_rfl) (fun _ _ => gS (j := ((code.getD (a).toNat 0).toNat : Int)) Tryz.underlying5 dJ rfl (wrapI (by omega))) ⟨d.reads, b.pins⟩ ?_
 refine dT (i := 11) rfl rfl (by kernel_rfl) (fun _ _ => qU (v := (vJ ((code.getD (a).toNat 0).toNat : Int))) rfl) ⟨d.reads, b.pins⟩ ?_
 refine yP (by kernel_rfl) (zA (zB (zC ?_)))
 refine qM (vP c) ?_
 refine qD rfl (yU rfl) (qD rfl (zK (k := 1) rfl dL rfl nz3 rfl) (qD rfl (zL (u := (vJ a)) ag3 rfl (d.cell (o := 1) rfl)) (qD rfl (yJ rfl rfl (by omega)) (qD rfl (yU rfl) (qD rfl (zK (k := 1) rfl dL rfl nz3 rfl) (q0 rfl rfl rfl (o_stp (cs' := [cv, (vJ (a + 1)), (.int .u64 s)]) (us := [(vJ (a + 1))]) (v := (vJ (a + 1))) sz3 rfl rfl rfl (yO (by rfl)) b.pins d (dZ rfl) rfl (fun a4 ac an ao a5 => ?_))))))))
 have ad := b.write an ao (yV)
 refine qe (zA (zB (zC ?_)))
 refine qM (vP c) ?_
 refine qM (vP c) ?_
 refine qD rfl (yU rfl) (qD rfl (zK (k := 2) rfl dL rfl nz40 rfl) (qD rfl (zL (u := (.int .u64 s)) ag40 rfl (ac.cell (o := 2) rfl)) (qD rfl (r_mulU rfl rfl) (qM (vJ ((code.getD (a).toNat 0).toNat : Int)) ?_))))
 refine qD rfl (gS (j := ((code.getD (a).toNat 0).toNat : Int)) dJ dU rfl (rM (by omega))) (qD rfl (r_addU rfl rfl) (qD rfl (r_addU rfl rfl) (qD rfl (yU rfl) (qD rfl (zK (k := 2) rfl dL rfl nz40 rfl) (q0 rfl rfl rfl (o_stp (cs' := [cv, (vJ (a + 1)), (.int .u64 (IntKind.u64.wrap ((IntKind.u64.wrap ((IntKind.u64.wrap (s * 6364136223846793005)) + ((code.getD (a).toNat 0).toNat : Int))) + 868868)))]) (us := [(.int .u64 (IntKind.u64.wrap ((IntKind.u64.wrap ((IntKind.u64.wrap (s * 6364136223846793005)) + ((code.getD (a).toNat 0).toNat : Int))) + 868868)))]) (v := (.int .u64 (IntKind.u64.wrap ((IntKind.u64.wrap ((IntKind.u64.wrap (s * 6364136223846793005)) + ((code.getD (a).toNat 0).toNat : Int))) + 868868)))) sz40 rfl rfl rfl (yO (by rfl)) ad.pins ac (dZ rfl) rfl (fun t ap aq ar a6 => ?_)))))))
 have ae := ad.write aq ar (yV)
 refine qe (zA (zB (zB ?_)))
 refine yZ (S := fun wz => BxR wz c [cv, (vJ (a + 1)), (.int .u64 (IntKind.u64.wrap ((IntKind.u64.wrap ((IntKind.u64.wrap (s * 6364136223846793005)) + ((code.getD (a).toNat 0).toNat : Int))) + 868868)))]) (last := 10) (by kernel_rfl) rfl ?_
 have x := bdr t
 have au := ae.pins.below x
 have af := ae.step au x
 have g := ap.below x
 refine dM 0 (vP c) g.reads ?_
 refine dT (i := 1) rfl rfl (by kernel_rfl) (fun _ _ => yU rfl) g.reads ?_
 refine dT (i := 2) rfl rfl (by kernel_rfl) (fun _ _ => zK (k := 1) rfl dL rfl nz3 rfl) g.reads ?_
 refine dT (i := 3) rfl rfl (by kernel_rfl) (fun _ hS => zL (u := (vJ (a + 1))) ag3 rfl (hS 1 _ rfl)) g.reads ?_
 refine dM 4 (vP c) g.reads ?_
 refine dT (i := 5) rfl rfl (by kernel_rfl) (fun _ _ => yU rfl) g.reads ?_
 refine dT (i := 6) rfl rfl (by kernel_rfl) (fun _ _ => zK (k := 0) rfl dL rfl nz22 rfl) g.reads ?_
 refine dT (i := 7) rfl rfl (by kernel_rfl) (fun _ hS => zL (u := cv) ag22 rfl (hS 0 _ rfl)) g.reads ?_
 refine dT (i := 8) rfl rfl (by kernel_rfl) (fun _ _ => zP dN (v := cv) rfl hc) g.reads ?_
 refine dT (i := 9) rfl rfl (by kernel_rfl) (fun _ _ => gR rfl rfl) g.reads ?_
 refine yP (by kernel_rfl) (zA (yC (p := (a + 1 : Int) ≤ (code.length : Int)) rfl rfl (fun av => ?_) (fun av => ?_)))
 refine zB (zC ?_)
 refine qM (vJ ((code.getD (a).toNat 0).toNat : Int)) ?_
 refine qM (vJ ((code.getD (a).toNat 0).toNat : Int)) ?_
 refine qe (zA ?_)
 refine wp_ret (zO (zQ (v := (vJ ((code.getD (a).toNat 0).toNat : Int))) rfl rfl rfl ?_))
 have hwr := rL (((IntKind.u64.wrap ((IntKind.u64.wrap (s * 6364136223846793005)) + ((code.getD (a).toNat 0).toNat : Int))) + 868868))
 exact ⟨_, _, _, rfl, (by omega), g, (by omega), (by omega), af⟩
 refine wp_skip (zA (zB (zC ?_)))
 refine qM (vP c) ?_
 refine qD rfl (yU rfl) (qD rfl (zK (k := 2) rfl dL rfl nz40 rfl) (qD rfl (zL (u := (.int .u64 (IntKind.u64.wrap ((IntKind.u64.wrap ((IntKind.u64.wrap (s * 6364136223846793005)) + ((code.getD (a).toNat 0).toNat : Int))) + 868868)))) ag40 rfl (g.cell (o := 2) rfl)) (qD rfl (r_shrU rfl rfl (by omega)) (qD rfl (r_and rfl rfl) ?_))))
 have a7 := low8_lt (Int.fdiv (IntKind.u64.wrap ((IntKind.u64.wrap ((IntKind.u64.wrap (s * 6364136223846793005)) + ((code.getD (a).toNat 0).toNat : Int))) + 868868)) (2 ^ (min (40 : Int).toNat 64)))
 refine qD rfl (gS (j := andW .u64 (Int.fdiv (IntKind.u64.wrap ((IntKind.u64.wrap ((IntKind.u64.wrap (s * 6364136223846793005)) + ((code.getD (a).toNat 0).toNat : Int))) + 868868)) (2 ^ (min (40 : Int).toNat 64))) 255) dU dJ rfl (wrapI (by omega))) (qM (vJ (andW .u64 (Int.fdiv (IntKind.u64.wrap ((IntKind.u64.wrap ((IntKind.u64.wrap (s * 6364136223846793005)) + ((code.getD (a).toNat 0).toNat : Int))) + 868868)) (2 ^ (min (40 : Int).toNat 64))) 255)) ?_)
 refine qe (zA ?_)
 refine wp_ret (zO (zQ (v := (vJ (andW .u64 (Int.fdiv (IntKind.u64.wrap ((IntKind.u64.wrap ((IntKind.u64.wrap (s * 6364136223846793005)) + ((code.getD (a).toNat 0).toNat : Int))) + 868868)) (2 ^ (min (40 : Int).toNat 64))) 255))) rfl rfl rfl ?_))
 have hwr := rL (((IntKind.u64.wrap ((IntKind.u64.wrap (s * 6364136223846793005)) + ((code.getD (a).toNat 0).toNat : Int))) + 868868))
 exact ⟨_, _, _, rfl, (by omega), g, (by omega), (by omega), af⟩
 refine wp_skip (zA (zB (zC ?_)))
 refine qM (vP c) ?_
 refine qD rfl (yU rfl) (qD rfl (zK (k := 1) rfl dL rfl nz3 rfl) (qD rfl (zL (u := (vJ a)) ag3 rfl (f.cell (o := 1) rfl)) (qD rfl (yJ rfl rfl (by omega)) (qD rfl (yU rfl) (qD rfl (zK (k := 1) rfl dL rfl nz3 rfl) (q0 rfl rfl rfl (o_stp (cs' := [cv, (vJ (a + 1)), (.int .u64 s)]) (us := [(vJ (a + 1))]) (v := (vJ (a + 1))) sz3 rfl rfl rfl (yO (by rfl)) l.pins f (dZ rfl) rfl (fun a8 ag aw ax a9 => ?_))))))))
 have ah := l.write aw ax (yV)
 refine qe (zA (zB (zC ?_)))
 refine qM (vP c) ?_
 refine qM (vP c) ?_
 refine qD rfl (yU rfl) (qD rfl (zK (k := 2) rfl dL rfl nz40 rfl) (qD rfl (zL (u := (.int .u64 s)) ag40 rfl (ag.cell (o := 2) rfl)) (qD rfl (r_mulU rfl rfl) (qM (vJ 0) ?_))))
 refine qD rfl (gS (j := 0) dJ dU rfl (rM (by omega))) (qD rfl (r_addU rfl rfl) (qD rfl (r_addU rfl rfl) (qD rfl (yU rfl) (qD rfl (zK (k := 2) rfl dL rfl nz40 rfl) (q0 rfl rfl rfl (o_stp (cs' := [cv, (vJ (a + 1)), (.int .u64 (IntKind.u64.wrap ((IntKind.u64.wrap ((IntKind.u64.wrap (s * 6364136223846793005)) + 0)) + 868868)))]) (us := [(.int .u64 (IntKind.u64.wrap ((IntKind.u64.wrap ((IntKind.u64.wrap (s * 6364136223846793005)) + 0)) + 868868)))]) (v := (.int .u64 (IntKind.u64.wrap ((IntKind.u64.wrap ((IntKind.u64.wrap (s * 6364136223846793005)) + 0)) + 868868)))) sz40 rfl rfl rfl (yO (by rfl)) ah.pins ag (dZ rfl) rfl (fun y ay az a0 ba => ?_)))))))
 have ai := ah.write az a0 (yV)
 refine qe (zA (zB (zB ?_)))
 refine yZ (S := fun wz => BxR wz c [cv, (vJ (a + 1)), (.int .u64 (IntKind.u64.wrap ((IntKind.u64.wrap ((IntKind.u64.wrap (s * 6364136223846793005)) + 0)) + 868868)))]) (last := 10) (by kernel_rfl) rfl ?_
 have aa := bdr y
 have a1 := ai.pins.below aa
 have aj := ai.step a1 aa
 have h := ay.below aa
 refine dM 0 (vP c) h.reads ?_
 refine dT (i := 1) rfl rfl (by kernel_rfl) (fun _ _ => yU rfl) h.reads ?_
 refine dT (i := 2) rfl rfl (by kernel_rfl) (fun _ _ => zK (k := 1) rfl dL rfl nz3 rfl) h.reads ?_
 refine dT (i := 3) rfl rfl (by kernel_rfl) (fun _ hS => zL (u := (vJ (a + 1))) ag3 rfl (hS 1 _ rfl)) h.reads ?_
 refine dM 4 (vP c) h.reads ?_
 refine dT (i := 5) rfl rfl (by kernel_rfl) (fun _ _ => yU rfl) h.reads ?_
 refine dT (i := 6) rfl rfl (by kernel_rfl) (fun _ _ => zK (k := 0) rfl dL rfl nz22 rfl) h.reads ?_
 refine dT (i := 7) rfl rfl (by kernel_rfl) (fun _ hS => zL (u := cv) ag22 rfl (hS 0 _ rfl)) h.reads ?_
 refine dT (i := 8) rfl rfl (by kernel_rfl) (fun _ _ => zP dN (v := cv) rfl hc) h.reads ?_
 refine dT (i := 9) rfl rfl (by kernel_rfl) (fun _ _ => gR rfl rfl) h.reads ?_
 refine yP (by kernel_rfl) (zA (yC (p := (a + 1 : Int) ≤ (code.length : Int)) rfl rfl (fun a2 => ?_) (fun a2 => ?_)))
 refine zB (zC ?_)
 refine qM (vJ 0) ?_
 refine qM (vJ 0) ?_
 refine qe (zA ?_)
 refine wp_ret (zO (zQ (v := (vJ 0)) rfl rfl rfl ?_))
 have hwr := rL (((IntKind.u64.wrap ((IntKind.u64.wrap (s * 6364136223846793005)) + 0)) + 868868))
 exact ⟨_, _, _, rfl, (by omega), h, (by omega), (by omega), aj⟩
 refine wp_skip (zA (zB (zC ?_)))
 refine qM (vP c) ?_
 refine qD rfl (yU rfl) (qD rfl (zK (k := 2) rfl dL rfl nz40 rfl) (qD rfl (zL (u := (.int .u64 (IntKind.u64.wrap ((IntKind.u64.wrap ((IntKind.u64.wrap (s * 6364136223846793005)) + 0)) + 868868)))) ag40 rfl (h.cell (o := 2) rfl)) (qD rfl (r_shrU rfl rfl (by omega)) (qD rfl (r_and rfl rfl) ?_))))
 have bb := low8_lt (Int.fdiv (IntKind.u64.wrap ((IntKind.u64.wrap ((IntKind.u64.wrap (s * 6364136223846793005)) + 0)) + 868868)) (2 ^ (min (40 : Int).toNat 64)))
 refine qD rfl (gS (j := andW .u64 (Int.fdiv (IntKind.u64.wrap ((IntKind.u64.wrap ((IntKind.u64.wrap (s * 6364136223846793005)) + 0)) + 868868)) (2 ^ (min (40 : Int).toNat 64))) 255) dU dJ rfl (wrapI (by omega))) (qM (vJ (andW .u64 (Int.fdiv (IntKind.u64.wrap ((IntKind.u64.wrap ((IntKind.u64.wrap (s * 6364136223846793005)) + 0)) + 868868)) (2 ^ (min (40 : Int).toNat 64))) 255)) ?_)
 refine qe (zA ?_)
 refine wp_ret (zO (zQ (v := (vJ (andW .u64 (Int.fdiv (IntKind.u64.wrap ((IntKind.u64.wrap ((IntKind.u64.wrap (s * 6364136223846793005)) + 0)) + 868868)) (2 ^ (min (40 : Int).toNat 64))) 255))) rfl rfl rfl ?_))
 have hwr := rL (((IntKind.u64.wrap ((IntKind.u64.wrap (s * 6364136223846793005)) + 0)) + 868868))
 exact ⟨_, _, _, rfl, (by omega), h, (by omega), (by omega), aj⟩
theorem jA {w : World} {c : Nat} {s : Int} {n : Int} (hP : Pins G w) (hB : Bx G w c [cv, .int .i64 a, .int .u64 s]) (hc : RSl eByte G cv code) (ha : 0 ≤ a ∧ a + 2 ≤ 1000000) (hs : 0 ≤ s ∧ s < 18446744073709551616) (hn : n ≤ 1000) :
  Calls Tryz.prog 29 [(vP c), (vJ n)].toArray w fun e w' => ∃ (z : Int) (a' s' : Int), e = .returned (vJ z) ∧ (0 ≤ z ∧ (z < n ∨ z = 0)) ∧ Bx G w' c [cv, .int .i64 a', .int .u64 s'] ∧ (a ≤ a' ∧ a' ≤ a + 2) ∧ (0 ≤ s' ∧ s' < 18446744073709551616) ∧ Ext (inO (some c)) G w G w' := by
 refine zU (n := 20) Tryz.func29 Tryz.ntmps29 rfl rfl ?_
 have f := exr (inO (some c)) hP
 have hm := hc.max
 refine zB (zC ?_)
 refine qM (vJ 0) ?_
 refine qe (zA (zB (zB (zC ?_))))
 refine qM (vJ n) ?_
 refine qD rfl (gR rfl rfl) (qe (zA ?_))
 refine yC (p := (n : Int) ≤ 1) rfl rfl (fun j => ?_) (fun j => ?_)
 refine zB (zC ?_)
 refine qM (vJ 0) ?_
 refine qe (zA ?_)
 exact wp_ret (zO (zQ (v := (vJ 0)) rfl rfl rfl (⟨_, _, _, rfl, (by omega), hB, (by omega), (by omega), f⟩)))
 refine wp_skip (zA (zB (zC ?_)))
 refine qM (vP c) ?_
 refine qI rfl (zF (vs := [(vP c)]) Tryz.func60 nm60 rfl rfl rfl ?_)
 refine dY (next_spec f.pins hB hc (by omega) (by omega)) ?_
 rintro _ u ⟨b, x, y, rfl, aa, h, ab, ac, k⟩
 refine ⟨_, rfl, ?_⟩
 have g := f.trans k (fun i hi => yV i hi)
 refine qM (vJ b) ?_
 refine qe (zA (zB (zB (zC ?_))))
 refine qM (vJ n) ?_
 refine qD rfl (jO rfl rfl) (qe (zA ?_))
 refine yC (p := (200 : Int) < n) rfl rfl (fun l => ?_) (fun l => ?_)
 refine zC (qM (vJ b) ?_)
 refine qD rfl (nW rfl rfl (by omega)) (qM (vP c) ?_)
 refine qI rfl (zF (vs := [(vP c)]) Tryz.func60 nm60 rfl rfl rfl ?_)
 refine dY (next_spec g.pins h hc (by omega) (by omega)) ?_
 rintro _ ad ⟨d, ae, af, rfl, ag, m, ah, ai, o⟩
 refine ⟨_, rfl, ?_⟩
 have q := g.trans o (fun i hi => yV i hi)
 refine qD rfl (yJ rfl rfl (by omega)) (qM (vJ ((b * 256) + d)) ?_)
 refine qe (zA (zB (zC ?_)))
 refine qM (vJ ((b * 256) + d)) ?_
 refine qM (vJ n) ?_
 refine qD rfl (r_rem rfl rfl (by omega) (by omega)) (qM (vJ (((b * 256) + d) % n)) ?_)
 refine qe (zA ?_)
 refine wp_ret (zO (zQ (v := (vJ (((b * 256) + d) % n))) rfl rfl rfl ?_))
 have r := Int.emod_nonneg (((b * 256) + d)) (show n ≠ 0 by omega)
 have t := Int.emod_lt_of_pos (((b * 256) + d)) (show 0 < n by omega)
 exact ⟨_, _, _, rfl, (by omega), m, (by omega), (by omega), q⟩
 refine wp_skip (zA (zB (zC ?_)))
 refine qM (vJ b) ?_
 refine qM (vJ n) ?_
 refine qD rfl (r_rem rfl rfl (by omega) (by omega)) (qM (vJ (b % n)) ?_)
 refine qe (zA ?_)
 refine wp_ret (zO (zQ (v := (vJ (b % n))) rfl rfl rfl ?_))
 have r := Int.emod_nonneg (b) (show n ≠ 0 by omega)
 have t := Int.emod_lt_of_pos (b) (show 0 < n by omega)
 exact ⟨_, _, _, rfl, (by omega), h, (by omega), (by omega), g⟩
theorem sM {w : World} {c : Nat} {s : Int} {n : Int} (hP : Pins G w) (hB : Bx G w c [cv, .int .i64 a, .int .u64 s]) (hc : RSl eByte G cv code) (ha : 0 ≤ a ∧ a + 2 ≤ 1000000) (hs : 0 ≤ s ∧ s < 18446744073709551616) (hn : n ≤ 1000) :
  Calls Tryz.prog 26 [(.pointer (some ⟨c, 0, none⟩)), (.int .i64 n)].toArray w fun e w' => ∃ (z : Bool) (a' s' : Int), e = .returned (.bool z) ∧ Bx G w' c [cv, .int .i64 a', .int .u64 s'] ∧ (a ≤ a' ∧ a' ≤ a + 2) ∧ (0 ≤ s' ∧ s' < 18446744073709551616) ∧ Ext (inO (some c)) G w G w' := by
 refine zU (n := 9) Tryz.func26 Tryz.ntmps26 rfl rfl ?_
 have b := exr (inO (some c)) hP
 have hm := hc.max
 refine zB (zC ?_)
 refine qM (.bool false) ?_
 refine qe (zA (zB (zC ?_)))
 refine qM (.pointer (some ⟨c, 0, none⟩)) ?_
 refine qM (.int .i64 n) ?_
 refine qI rfl (zF (vs := [(.pointer (some ⟨c, 0, none⟩)), (.int .i64 n)]) Tryz.func29 nm29 rfl rfl rfl ?_)
 refine dY (jA b.pins hB hc (by omega) (by omega) (n := n) (by omega)) ?_
 rintro _ j ⟨d, k, l, rfl, m, f, o, p, g⟩
 refine ⟨_, rfl, ?_⟩
 have h := b.trans g (fun i hi => yV i hi)
 refine qD rfl (xU rfl rfl) (qM (.bool (decide ((d : Int) = 0))) ?_)
 refine qe (zA ?_)
 exact wp_ret (zO (zQ (v := (.bool (decide ((d : Int) = 0)))) rfl rfl rfl (⟨_, _, _, rfl, f, (by omega), (by omega), h⟩)))
theorem vT {w : World} {c : Nat} {s : Int} {l : Value} {xs : List Int} (hP : Pins G w) (hB : Bx G w c [cv, .int .i64 a, .int .u64 s]) (hc : RSl eByte G cv code) (ha : 0 ≤ a ∧ a + 2 ≤ 1000000) (hs : 0 ≤ s ∧ s < 18446744073709551616) (hl : RSl eInt G l xs) (hx : 1 ≤ xs.length ∧ xs.length ≤ 1000) :
  Calls Tryz.prog 31 [(.pointer (some ⟨c, 0, none⟩)), l].toArray w fun e w' => ∃ (z : Int) (a' s' : Int), e = .returned (.int .i64 z) ∧ z ∈ xs ∧ Bx G w' c [cv, .int .i64 a', .int .u64 s'] ∧ (a ≤ a' ∧ a' ≤ a + 2) ∧ (0 ≤ s' ∧ s' < 18446744073709551616) ∧ Ext (inO (some c)) G w G w' := by
 refine zU (n := 12) Tryz.func31 Tryz.ntmps31 rfl rfl ?_
 have d := exr (inO (some c)) hP
 have hm := hc.max
 have hml := hl.max
 refine zB (zC ?_)
 refine qM (.int .i64 0) ?_
 refine qe (zA (zB (zC ?_)))
 refine qM l ?_
 refine qM (.pointer (some ⟨c, 0, none⟩)) ?_
 refine qM l ?_
 refine qD rfl (zP dB (v := l) rfl hl) (qI rfl (zF (vs := [(.pointer (some ⟨c, 0, none⟩)), (.int .i64 (xs.length : Int))]) Tryz.func29 nm29 rfl rfl rfl ?_))
 refine dY (jA d.pins hB hc (by omega) (by omega) (n := (xs.length : Int)) (by omega)) ?_
 rintro _ j ⟨b, k, m, rfl, o, g, p, q, h⟩
 refine ⟨_, rfl, ?_⟩
 have f := d.trans h (fun i hi => yV i hi)
 refine qD rfl (zJ dB sz3 (v := l) rfl rfl hl (by omega) (by omega)) (qD rfl (zI (r := xs.getD (b).toNat 0) rfl ag3 (z := b) rfl hl f.pins (by omega) (by omega)) (qM (.int .i64 (xs.getD (b).toNat 0)) ?_))
 refine qe (zA ?_)
 exact wp_ret (zO (zQ (v := (.int .i64 (xs.getD (b).toNat 0))) rfl rfl rfl (⟨_, _, _, rfl, zZ (by omega), g, (by omega), (by omega), f⟩)))
end DR1
end Go.Proofs.YtjdchbdfohiaaaaGreatDoor
namespace Go.Proofs.YtjdchbdfohiaaaaGreatDoor
namespace MK1
open Go.RowKit Go.GL Go.Proofs
open B1 C1 D1 E1
theorem pl87 : (Tryz.prog.underlying 87).bind (placesD Tryz.prog) = some [(0, 1), (1, 1)] := by kernel_rfl
theorem l3Make_own {w : World} {G : Pin} {u v : Value} {fs gs : List (List Nd)} (hP : Pins G w) (hu : RSl (eSl eNode) G u fs) (hv : RSl (eSl eNode) G v gs) (hfa : AllW fs) (hga : AllW gs) :
  Calls Tryz.prog 81 [u, v].toArray w fun e w' => ∃ (u : Value) (G' : Pin), e = .returned (.agg [u].toArray) ∧ RSl eNode G' u (formG (mkGm fs gs)) ∧ Ext noS G w G' w' ∧ ∃ Gi, Own eNode 69 Gi w' w.heap.size u (formG (mkGm fs gs)) ∧ Pin.le Gi G' := by
 refine zU (n := 50) Tryz.func81 Tryz.ntmps81 rfl rfl ?_
 have a1 := exr noS hP
 have hmu := hu.max
 have hmv := hv.max
 have hfle := hfa.len
 have hgle := hga.len
 refine zB (zC ?_)
 refine qI rfl (yM [vN] zr26 rfl a1.pins (fun g w2 hp bw dy dz => ?_))
 have a2 := a1.step dy dz
 have d0 : w.heap.size ≤ g := by have := a1.size; omega
 refine qe (zA (zB (zC ?_)))
 refine qD rfl (xB [vN, vN] [vN, vN] [] dI zr87 rfl pl87 rfl (fun _ h => by cases h) rfl) (qI rfl (xH [vN, vN] (v := (.agg [vN, vN].toArray)) rfl rfl a2.pins (fun c hq d1 bz d2 b0 => ?_)))
 have a3 := a2.step d2 b0
 have b2 := bw.below b0
 have a4 := zH (congrArg some d1) bw.lt
 have a5 : w.heap.size ≤ c := by have := a2.size; omega
 refine qM (vP c) ?_
 refine qe (zA (zB (zC ?_)))
 refine qI rfl (xC (E := eInt) (e := 3) dB sz3 a3.pins (fun a6 d3 d4 d5 a7 b3 => ?_))
 have a8 := a3.step d5 a7
 have b4 := b2.below a7
 have b5 := bz.below a7
 have d6 := zH b3 b2.lt
 have d7 := zH b3 bz.lt
 have b6 := d4.weaken a3.size
 refine qI rfl (xC (E := eInt) (e := 3) dB sz3 a8.pins (fun l d8 d9 ea ak a9 => ?_))
 have eb := a8.step ea ak
 have ec := b6.below ak
 have ed := b4.below ak
 have ee := b5.below ak
 have ef := zG a9 b6.lt
 have eg := zH a9 b4.lt
 have b7 := zH a9 b5.lt
 have eh := d9.weaken a8.size
 refine qM a6 ?_
 refine qM l ?_
 refine qe (zA (zB (zB (zC ?_))))
 refine qM (vJ 0) ?_
 refine qe (zA ?_)
 refine zW (yS (fun k en W => ∃ (ab : Nat → Value) (d : Nat) (atA : Value) (atsA : List Int) (uA : Value) (vA : Value) (nsA : List Nd) (bsA : List Int) (GLA : Pin), en = (upd (upd (upd (upd (upd (upd (upd ab 0 u) 1 v) 4 (vP g)) 5 (vP c)) 6 atA) 7 l) 8 (vJ (d : Int))) ∧ k = fs.length - d ∧ Ext noS G w GLA W ∧ Pin.le G GLA ∧ (d ≤ fs.length) ∧ (PoolOk (bkq nsA bsA)) ∧ (GsOk (bkq nsA bsA) atsA ((fs.take d).map gOf)) ∧ (nsA.length ≤ 1000 * d) ∧ (Own eInt 3 GLA W w.heap.size atA (atsA)) ∧ (Own eNode 69 GLA W 0 uA (nsA)) ∧ (Own eInt 3 GLA W 0 vA (bsA)) ∧ (Own eInt 3 GLA W w.heap.size l ([])) ∧ (Bx GLA W g [vN]) ∧ (Bx GLA W c [uA, vA]) ∧ (Apart atA.ownBlock uA.ownBlock) ∧ (Apart atA.ownBlock vA.ownBlock) ∧ (Apart atA.ownBlock l.ownBlock) ∧ (Apart atA.ownBlock (some g)) ∧ (Apart atA.ownBlock (some c)) ∧ (Apart uA.ownBlock vA.ownBlock) ∧ (Apart uA.ownBlock l.ownBlock) ∧ (Apart uA.ownBlock (some g)) ∧ (Apart uA.ownBlock (some c)) ∧ (Apart vA.ownBlock l.ownBlock) ∧ (Apart vA.ownBlock (some g)) ∧ (Apart vA.ownBlock (some c)) ∧ (Lo w noS uA.ownBlock) ∧ (Lo w noS vA.ownBlock)) _ ⟨_, 0, a6, [], vN, vN, [], [], G, (pS 8 (pS 7 (pS 6 (pS 5 (pS 4 (pS 1 (pU 0))))))), rfl, eb, Pin.le_refl _, Nat.zero_le _, (rJ Ar.empty), GsOk.nil, (by simp), ec, (Own.nil _ _ _ _ _), (Own.nil _ _ _ _ _), eh, ed, ee, apart_none.symm, apart_none.symm, ef.symm, d6, d7, apart_none, apart_none, apart_none, apart_none, apart_none, apart_none, apart_none, (jU _ _), (jU _ _)⟩ ?_)
 rintro hr _ hs ⟨ab, d, atA, atsA, uA, vA, nsA, bsA, GLA, rfl, ht, q, ac, hw, hokA, hgsA, hblA, al, b8, ca, am, an, cb, cc, cd, ba, bb, ad, ce, cf, cg, ch, ci, cj, ck, cl, cm⟩
 have hglA := hgsA.len
 rw [List.length_map, List.length_take] at hglA
 refine zB (zB (zC ?_))
 refine qM (vJ (d : Int)) ?_
 refine qM u ?_
 refine qD rfl (zP dG (v := u) rfl hu) (qD rfl (yX rfl rfl) (qe (zA ?_)))
 refine yC (p := ((d : Int) : Int) < (fs.length : Int)) rfl rfl (fun ei => ?_) (fun ei => ?_)
 have hgd := hfa.ok d (by omega)
 have hgdl := hgd.2.1
 have hgdh := hgd.2.2
 have hrk := bk_root (fs := fs.getD d []) hokA hgd.1 (by omega) (by omega)
 refine wp_skip (zA (zB ?_))
 refine zW (zC (qM atA ?_))
 refine qM (vP c) ?_
 refine qM u ?_
 refine qM (vJ (d : Int)) ?_
 refine qD rfl (zJ dG sz26 (v := u) rfl rfl hu (by omega) (by omega)) ?_
 obtain ⟨ej, cn, ek⟩ := pP (hu.at (z := (d : Int)) (by omega) (by omega)) (j := d) rfl
 have hx := cn.max
 refine qD rfl (ek ag26 sz26 rfl (dX q.pins ac)) (qI rfl (zF (vs := [(vP c), (.agg [ej].toArray)]) Tryz.func49 nm49 rfl rfl rfl ?_))
 refine dY (jX q.pins ⟨cb, b8, ca, ch.symm, ck.symm, ce⟩ hokA.ar.ok (cn.mono ac) ⟨hgd.1, hgdl⟩ (by first | omega | (simp; omega))) ?_
 rintro _ hy ⟨el, em, co, rfl, r, ae, ao, ap⟩
 refine ⟨_, rfl, ?_⟩
 have bc : ∀ i, inS c uA vA i → w.heap.size ≤ i ∨ noS i := jD (zY a5) cl cm
 have bd := q.trans ae bc
 have be := notS (u := uA) (v := vA) ad cc cd
 have eo := al.extS ae be
 have cp := qO ao be (qK al)
 have cq := qO ap be (qK al)
 have bf := notS (u := uA) (v := vA) b7 cf.symm ci.symm
 have ep := am.extS ae bf
 have er := qO ao bf (qK am)
 have es := qO ap bf (qK am)
 have bg := notS (u := uA) (v := vA) a4.symm cg.symm cj.symm
 have et := an.extS ae (notSb bg)
 have eu := qO ao bg (tE an)
 have ev := qO ap bg (tE an)
 have ew := r.bx
 have ex := r.ou
 have ey := r.ov
 have ez := r.abu
 have e0 := r.abv
 have e1 := r.auv
 have e2 := xD ao bc q.size
 have e3 := xD ap bc q.size
 refine qI rfl (yG (E := eInt) (e := 3) [(vJ (rootM nsA bsA (fs.getD d [])))] [rootM nsA bsA (fs.getD d [])] dB sz3 zr3 (by exact xK (by rfl)) (yO (by rfl)) rfl rfl rfl rfl (by decide) bd.pins (fun cr e4 e5 e6 m hz => ?_))
 have bh := bd.step e6 m
 have ct := eo.below m
 have cu := ep.below m
 have cv := ex.below m
 have cw := ey.below m
 have cx := et.below m
 have cy := ew.below m
 have e7 := e5.weaken bd.size
 refine qI rfl (oA (E := eInt) (v := atA) (u := cr) 8 dB ap3 (by decide) rfl rfl bh.pins ct e7.src (bh.size) (fun cz h0 e8 e9 s af => ?_))
 have fa := bh.write e9 s ((yH ct))
 have fb := cu.keptA s ba.symm
 have fc := cv.keptA s cp.symm
 have fd := cw.keptA s cq.symm
 have fe := cx.keptA s bb.symm
 have ff := cy.keptA s ad.symm
 have fg := zE ba.symm af cu.lt
 have fh := zE cp.symm af cv.lt
 have fi := zE cq.symm af cw.lt
 have fj := zN bb.symm af cx.lt
 have fk := zN ad.symm af cy.lt
 have h1 := la1 atsA (rootM nsA bsA (fs.getD d []))
 refine qM cz ?_
 refine qe (yA (zA (zC ?_)))
 refine qM (vJ (d : Int)) ?_
 refine qD rfl (yJ rfl rfl (by omega)) (qM (vJ ((d : Int) + 1)) ?_)
 refine qe (yD (⟨_, ?_, _, rfl, _, d + 1, cz, atsA ++ ([rootM nsA bsA (fs.getD d [])]), el, em, (addM nsA bsA (fs.getD d [])).2.1, (addM nsA bsA (fs.getD d [])).2.2, co, (pS 8 (pS 7 (pS 6 (pS 5 (pS 4 (pS 1 (pU 0))))))), rfl, fa, (dW ac ae.le), (by omega), hrk.ok, (by rw [take_map (by omega)]; exact (hgsA.px hrk.px hokA hrk.ok).snoc hrk.pl hrk.pd), (by have h8 := hrk.len; have h9 := hgd.2.2; omega), e8, fc, fd, fb, fe, ff, fh.symm, fi.symm, fg.symm, fj.symm, fk.symm, e1, er.symm, eu.symm, ez.symm, es.symm, ev.symm, e0.symm, e2, e3⟩))
 omega
 refine wp_exit (zV (yK (yE (zA (zB (zB (zC ?_)))))))
 refine qM (vJ 0) ?_
 refine qe (zA ?_)
 refine zW ?_
 have hi5n : d = fs.length := by omega
 have hgsF : GsOk (bkq nsA bsA) atsA (fs.map gOf) := by rw [hi5n, List.take_length] at hgsA; exact hgsA
 refine yS (fun k en W => ∃ (ab : Nat → Value) (f : Nat) (atB : Value) (atsB : List Int) (uB : Value) (vB : Value) (nsB : List Nd) (bsB : List Int) (GLB : Pin), en = (upd (upd (upd (upd (upd (upd ab 1 v) 4 (vP g)) 5 (vP c)) 6 atA) 7 atB) 9 (vJ (f : Int))) ∧ k = gs.length - f ∧ Ext noS G w GLB W ∧ Pin.le GLA GLB ∧ (f ≤ gs.length) ∧ (PoolOk (bkq nsB bsB)) ∧ (GsOk (bkq nsB bsB) atsB ((gs.take f).map gOf)) ∧ (nsB.length ≤ 100000 + 1000 * f) ∧ (GsOk (bkq nsB bsB) atsA (fs.map gOf)) ∧ (Own eInt 3 GLB W w.heap.size atB (atsB)) ∧ (Own eNode 69 GLB W 0 uB (nsB)) ∧ (Own eInt 3 GLB W 0 vB (bsB)) ∧ (Own eInt 3 GLB W w.heap.size atA (atsA)) ∧ (Bx GLB W g [vN]) ∧ (Bx GLB W c [uB, vB]) ∧ (Apart atB.ownBlock uB.ownBlock) ∧ (Apart atB.ownBlock vB.ownBlock) ∧ (Apart atB.ownBlock atA.ownBlock) ∧ (Apart atB.ownBlock (some g)) ∧ (Apart atB.ownBlock (some c)) ∧ (Apart uB.ownBlock vB.ownBlock) ∧ (Apart uB.ownBlock atA.ownBlock) ∧ (Apart uB.ownBlock (some g)) ∧ (Apart uB.ownBlock (some c)) ∧ (Apart vB.ownBlock atA.ownBlock) ∧ (Apart vB.ownBlock (some g)) ∧ (Apart vB.ownBlock (some c)) ∧ (Lo w noS uB.ownBlock) ∧ (Lo w noS vB.ownBlock)) _ ⟨_, 0, l, [], uA, vA, nsA, bsA, GLA, (pS 9 (pS 7 (pS 6 (pS 5 (pS 4 (pU 1)))))), rfl, q, Pin.le_refl _, Nat.zero_le _, hokA, GsOk.nil, (by omega), hgsF, am, b8, ca, al, an, cb, cf.symm, ci.symm, ba.symm, eg, b7, ce, cc.symm, cg, ch, cd.symm, cj, ck, cl, cm⟩ ?_
 rintro h2 _ h3 ⟨ab, f, atB, atsB, uB, vB, nsB, bsB, GLB, rfl, h4, t, bi, h5, hokB, hgsB, hblB, hgsL, aq, c0, c1, au, av, c2, c3, c4, bj, bk, aw, c5, c6, c7, c8, c9, da, db, dc, dd⟩
 have hglB := hgsB.len
 rw [List.length_map, List.length_take] at hglB
 refine zB (zB (zC ?_))
 refine qM (vJ (f : Int)) ?_
 refine qM v ?_
 refine qD rfl (zP dG (v := v) rfl hv) (qD rfl (yX rfl rfl) (qe (zA ?_)))
 refine yC (p := ((f : Int) : Int) < (gs.length : Int)) rfl rfl (fun fn => ?_) (fun fn => ?_)
 have hgd := hga.ok f (by omega)
 have hgdl := hgd.2.1
 have hgdh := hgd.2.2
 have hrk := bk_root (fs := gs.getD f []) hokB hgd.1 (by omega) (by omega)
 refine wp_skip (zA (zB ?_))
 refine zW (zC (qM atB ?_))
 refine qM (vP c) ?_
 refine qM v ?_
 refine qM (vJ (f : Int)) ?_
 refine qD rfl (zJ dG sz26 (v := v) rfl rfl hv (by omega) (by omega)) ?_
 obtain ⟨fo, de, fp⟩ := pP (hv.at (z := (f : Int)) (by omega) (by omega)) (j := f) rfl
 have h6 := de.max
 refine qD rfl (fp ag26 sz26 rfl (dX t.pins (dW ac bi))) (qI rfl (zF (vs := [(vP c), (.agg [fo].toArray)]) Tryz.func49 nm49 rfl rfl rfl ?_))
 refine dY (jX t.pins ⟨c2, c0, c1, c8.symm, db.symm, c5⟩ hokB.ar.ok (de.mono (dW ac bi)) ⟨hgd.1, hgdl⟩ (by first | omega | (simp; omega))) ?_
 rintro _ h7 ⟨fq, fr, df, rfl, x, ag, ax, ay⟩
 refine ⟨_, rfl, ?_⟩
 have bl : ∀ i, inS c uB vB i → w.heap.size ≤ i ∨ noS i := jD (zY a5) dc dd
 have bm := t.trans ag bl
 have bn := notS (u := uB) (v := vB) aw c3 c4
 have ft := aq.extS ag bn
 have dg := qO ax bn (qK aq)
 have dh := qO ay bn (qK aq)
 have bo := notS (u := uB) (v := vB) ad c6.symm c9.symm
 have fu := au.extS ag bo
 have fv := qO ax bo (qK au)
 have fw := qO ay bo (qK au)
 have bp := notS (u := uB) (v := vB) a4.symm c7.symm da.symm
 have fx := av.extS ag (notSb bp)
 have fy := qO ax bp (tE av)
 have fz := qO ay bp (tE av)
 have f0 := x.bx
 have f1 := x.ou
 have f2 := x.ov
 have f3 := x.abu
 have f4 := x.abv
 have f5 := x.auv
 have f6 := xD ax bl t.size
 have f7 := xD ay bl t.size
 refine qI rfl (yG (E := eInt) (e := 3) [(vJ (rootM nsB bsB (gs.getD f [])))] [rootM nsB bsB (gs.getD f [])] dB sz3 zr3 (by exact xK (by rfl)) (yO (by rfl)) rfl rfl rfl rfl (by decide) bm.pins (fun di f8 f9 ga o ia => ?_))
 have bq := bm.step ga o
 have dj := ft.below o
 have dk := fu.below o
 have dl := f1.below o
 have dm := f2.below o
 have dn := fx.below o
 have dp := f0.below o
 have gb := f9.weaken bm.size
 refine qI rfl (oA (E := eInt) (v := atB) (u := di) 8 dB ap3 (by decide) rfl rfl bq.pins dj gb.src (bq.size) (fun dq ib gc gd y ah => ?_))
 have ge := bq.write gd y ((yH dj))
 have gf := dk.keptA y bj.symm
 have gg := dl.keptA y dg.symm
 have gh := dm.keptA y dh.symm
 have gi := dn.keptA y bk.symm
 have gj := dp.keptA y aw.symm
 have gk := zE bj.symm ah dk.lt
 have gl := zE dg.symm ah dl.lt
 have gm := zE dh.symm ah dm.lt
 have gn := zN bk.symm ah dn.lt
 have gp := zN aw.symm ah dp.lt
 have ic := la1 atsB (rootM nsB bsB (gs.getD f []))
 refine qM dq ?_
 refine qe (yA (zA (zC ?_)))
 refine qM (vJ (f : Int)) ?_
 refine qD rfl (yJ rfl rfl (by omega)) (qM (vJ ((f : Int) + 1)) ?_)
 refine qe (yD (⟨_, ?_, _, rfl, _, f + 1, dq, atsB ++ ([rootM nsB bsB (gs.getD f [])]), fq, fr, (addM nsB bsB (gs.getD f [])).2.1, (addM nsB bsB (gs.getD f [])).2.2, df, (pS 9 (pS 7 (pS 6 (pS 5 (pS 4 (pU 1)))))), rfl, ge, (dW bi ag.le), (by omega), hrk.ok, (by rw [take_map (by omega)]; exact (hgsB.px hrk.px hokB hrk.ok).snoc hrk.pl hrk.pd), (by have h8 := hrk.len; have h9 := hgd.2.2; omega), (hgsL.px hrk.px hokB hrk.ok), gc, gg, gh, gf, gi, gj, gl.symm, gm.symm, gk.symm, gn.symm, gp.symm, f5, fv.symm, fy.symm, f3.symm, fw.symm, fz.symm, f4.symm, f6, f7⟩))
 omega
 refine wp_exit (zV (yK (yE (zA (zB (zC ?_))))))
 have hj5n : f = gs.length := by omega
 have hgsR : GsOk (bkq nsB bsB) atsB (gs.map gOf) := by rw [hj5n, List.take_length] at hgsB; exact hgsB
 have gq := hgsL.len
 have gr := hgsR.len
 rw [List.length_map] at gq gr
 have hpt := rK (xs := atsA) (ys := atsB) hokB (by omega) ⟨by omega, by omega⟩ hgsL.pl hgsR.pl
 have hpd := hpt.pd
 rw [hgsL.eq, hgsR.eq] at hpd
 refine qM (vP c) ?_
 refine qM (vP c) ?_
 refine qM atA ?_
 refine qM atB ?_
 obtain ⟨ie, br, gt, gu, ai⟩ := au.sealed t
 have gv := aq.moreO br ai bj
 have gw := c0.moreO br ai c6
 have gx := c1.moreO br ai c9
 have gy := av.moreO ai bb.symm
 have gz := c2.moreO ai ad.symm
 obtain ⟨ig, bs, az, g0, a0⟩ := gv.sealed gt
 have g1 := gw.moreO bs a0 c3.symm
 have g2 := gx.moreO bs a0 c4.symm
 have g3 := gy.moreO a0 bk.symm
 have g4 := gz.moreO a0 aw.symm
 refine qI rfl (zF (vs := [(vP c), atA, atB]) Tryz.func78 nm78 rfl rfl rfl ?_)
 refine dY (kP az.pins ⟨g4, g1, g2, c8.symm, db.symm, c5⟩ hokB.ar.ok (gu.mono bs) g0 ⟨by omega, by omega⟩ (jY hgsL.pl) (jY hgsR.pl)) ?_
 rintro _ bt ⟨ih, ii, ij, rfl, aa, dr, g5, g6⟩
 refine ⟨_, rfl, ?_⟩
 have bu : ∀ i, inS c uB vB i → w.heap.size ≤ i ∨ noS i := jD (zY a5) dc dd
 have bv := az.trans dr bu
 have g7 := notS (u := uB) (v := vB) a4.symm c7.symm da.symm
 have ds := g3.extS dr (notSb g7)
 have dt := aa.bx
 have g8 := aa.ou
 have g9 := aa.ov
 have ha := aa.abu
 have hb := aa.abv
 have hc := aa.auv
 have ik := xD g5 bu az.size
 have il := xD g6 bu az.size
 refine qI rfl (zF (vs := [(vP c), (vJ (putK nsB bsB atsA atsB))]) Tryz.func48 nm48 rfl rfl rfl ?_)
 refine dY (form_own bv.pins ⟨dt, g8, g9, ha, hb, hc⟩ hpt.ok.ar.ok hpt.pl) ?_
 rintro _ im ⟨aj, hd, rfl, du, dv, he⟩
 refine ⟨_, rfl, ?_⟩
 have io : g < bt.heap.size := ds.lt
 have ip : c < bt.heap.size := dt.lt
 have dw := bv.tr dv
 have hf := ds.ext dv
 refine q0 rfl rfl rfl (o_stp (cs' := [aj]) (us := [aj]) (v := (.agg [aj].toArray)) sz26 rfl rfl rfl (yO du.one) dw.pins hf (dZ rfl) rfl (fun hg hh hi dx iq => ?_))
 have hk := dw.write hi dx ((zY d0))
 have hl : ∃ Gi, Own eNode 69 Gi hg bt.heap.size aj (formM (putN nsB bsB atsA atsB) (putB nsB bsB atsA atsB) (putK nsB bsB atsA atsB).toNat) ∧ Pin.le Gi hd := let ⟨Gi, a, b⟩ := he; ⟨Gi, a.keptA dx (fun k hm hn => by cases hn; have := (a.lt _ hm).1; omega), b⟩
 refine qe (zA ?_)
 refine wp_ret (zO (qE (cs := [aj]) rfl rfl rfl ag26 sz26 (fun j u hj => by rw [Nat.zero_add]; exact hh.cell hj) ?_))
 have hfe : mkGm fs gs = _ := hpd.symm
 obtain ⟨Gi, hoi, hli⟩ := hl
 exact ⟨_, _, rfl, (by rw [hfe, ← kK hpt.ok hpt.pl]; exact du), hk, (by rw [hfe, ← kK hpt.ok hpt.pl]; exact ⟨Gi, hoi.weaken bv.size, hli⟩)⟩
end MK1
end Go.Proofs.YtjdchbdfohiaaaaGreatDoor
namespace Go.Proofs.YtjdchbdfohiaaaaGreatDoor
namespace DR2
open Go.RowKit Go.GL Go.Proofs
open B1 C1 D1 E1 MK1 DR1
variable {G : Pin} {base : Nat} {vs : List Value} {cv l : Value} {code : List UInt8} {a m : Int}
theorem qB {w : World} {Q : List Nat} {us ws : List Value} {u v : Value} (hP : Pins G w) (hF : Fr 69 base G w Q vs) (hq : KQ Q) (hl : Q.length ≤ 60) (hb : base ≤ w.heap.size)
  (hu : RSl eVal G u us) (hv : RSl eVal G v ws) (hmu : ∀ x ∈ us, x ∈ vs) (hmv : ∀ x ∈ ws, x ∈ vs) (hlu : us.length ≤ 100) (hlv : ws.length ≤ 100) :
  Calls Tryz.prog 81 [u, v].toArray w fun e w' => ∃ (x : Value) (g : Nat) (G' : Pin), e = .returned (.agg [x].toArray) ∧ KQ (g :: Q) ∧ Fr 69 base G' w' (g :: Q) (x :: vs) ∧ Ext noS G w G' w' := by
 obtain ⟨gs, g1, g2, g3⟩ := (hF.mem hmu).games
 obtain ⟨hs, h1, h2, h3⟩ := (hF.mem hmv).games
 have ru := vals_read hu (by rw [List.length_map]; exact g1) g3
 have rv := vals_read hv (by rw [List.length_map]; exact h1) h3
 have wu := hq.allW (by omega) g2 (by omega)
 have wv := hq.allW (by omega) h2 (by omega)
 refine (l3Make_own hP ru rv wu wv).mono fun e w' ⟨x, G', e1, hr, hx, Gi, ho, hle⟩ => ?_
 have hk := hq.add (by omega) g2 h2 (by omega) (by omega)
 have hm := hk.is _ List.mem_cons_self
 exact ⟨x, _, G', e1, hk, (hF.ext hx).cons ⟨⟨Gi, ho.weaken hb, hle⟩, hr, hm.1.lo⟩, hx⟩
theorem l3Small_spec {w : World} (hP : Pins G w) :
  Calls Tryz.prog 79 [].toArray w fun e w' => ∃ (u : Value) (vs : List Value) (Q : List Nat) (G' : Pin), e = .returned u ∧ Own eVal 26 G' w' w.heap.size u vs ∧ Fr 69 w.heap.size G' w' Q vs ∧ KQ Q ∧ vs.length = 9 ∧ Q.length = 9 ∧ Ext noS G w G' w' := by
 refine zU (n := 59) Tryz.func79 Tryz.ntmps79 rfl rfl ?_
 have bi := exr noS hP
 have ey : Fr 69 w.heap.size G w [] [] := Fr.nil
 refine zB (zC ?_)
 refine qM vN ?_
 refine qe (zA (zB (zC ?_)))
 refine qI rfl (zF (vs := [vN, vN]) Tryz.func81 nm81 rfl rfl rfl ?_)
 refine dY (qB bi.pins ey KQ.nil (by first | omega | (simp; done) | (simp; omega)) bi.size (xP _ _) (xP _ _) (by simp) (by simp) (by first | omega | simp) (by first | omega | simp)) ?_
 rintro _ w4 ⟨a, g2, G3, rfl, ez, ce, e0⟩
 refine ⟨_, rfl, ?_⟩
 have bj := bi.tr e0
 have m := ce.one List.mem_cons_self
 refine qI rfl (yM [vN] zr26 rfl bj.pins (fun e1 ls lu cf e2 cg => ?_))
 have ch := bj.step e2 cg
 have e3 := ce.below cg
 have ci : w.heap.size ≤ e1 := by have := bj.size; omega
 refine q0 rfl rfl rfl (o_stp (cs' := [a]) (us := [a]) (v := (.agg [a].toArray)) sz26 rfl rfl rfl (yO m) ch.pins cf (dZ rfl) rfl (fun lv e4 e5 cj lw => ?_))
 have e6 := ch.write e5 cj ((zY ci))
 have e7 := e3.kept cj (fun k hk o u => by cases hk; exact cf.free o u)
 obtain ⟨e8, e9, a5, aj, lx⟩ := e4.shut e6 ci
 have fa := e7.le e9
 refine qe (zA (zB (zC ?_)))
 refine qD rfl (zT (cs := [a]) ag26 sz26 rfl (fun j u hj => a5.pins _ _ _ (aj _ _ (by simpa using hj)))) (qI rfl (xT (E := eVal) (e := 26) [a] a dG sz26 zr26 ⟨rfl, m⟩ rfl (by decide) a5.pins (fun ck fb fc fd cl ly => ?_)))
 have fe := a5.step fd cl
 have ff := fa.below cl
 have fg := fc.weaken a5.size
 obtain ⟨lz, ak, bk, fh, l0⟩ := fg.sealed fe
 have fi := ff.le ak
 refine qI rfl (zF (vs := [ck, vN]) Tryz.func81 nm81 rfl rfl rfl ?_)
 refine dY (qB bk.pins fi ez (by first | omega | (simp; done) | (simp; omega)) bk.size fh (xP _ _) (by simp) (by simp) (by first | omega | simp) (by first | omega | simp)) ?_
 rintro _ l1 ⟨f, l2, l3, rfl, fj, cm, al⟩
 refine ⟨_, rfl, ?_⟩
 have bl := bk.tr al
 have a1 := cm.one List.mem_cons_self
 refine qI rfl (yM [vN] zr26 rfl bl.pins (fun fk l4 l5 cn fl co => ?_))
 have cp := bl.step fl co
 have fm := cm.below co
 have cq : w.heap.size ≤ fk := by have := bl.size; omega
 refine q0 rfl rfl rfl (o_stp (cs' := [f]) (us := [f]) (v := (.agg [f].toArray)) sz26 rfl rfl rfl (yO a1) cp.pins cn (dZ rfl) rfl (fun l6 fn fo cr l7 => ?_))
 have fp := cp.write fo cr ((zY cq))
 have fq := fm.kept cr (fun k hk o u => by cases hk; exact cn.free o u)
 obtain ⟨fr, am, a6, bm, l8⟩ := fn.shut fp cq
 have fs := fq.le am
 refine qe (zA (zB (zC ?_)))
 refine qD rfl (zT (cs := [a]) ag26 sz26 rfl (fun j u hj => (dX a6.pins (dW (dW ak al.le) am)) _ _ _ (aj _ _ (by simpa using hj)))) (qI rfl (xT (E := eVal) (e := 26) [a] a dG sz26 zr26 ⟨rfl, m⟩ rfl (by decide) a6.pins (fun ct ft fu fv cu l9 => ?_)))
 have fw := a6.step fv cu
 have fx := fs.below cu
 have fy := fu.weaken a6.size
 obtain ⟨ma, aa, bn, fz, mb⟩ := fy.sealed fw
 have f0 := fx.le aa
 refine qI rfl (zF (vs := [vN, ct]) Tryz.func81 nm81 rfl rfl rfl ?_)
 refine dY (qB bn.pins f0 fj (by first | omega | (simp; done) | (simp; omega)) bn.size (xP _ _) fz (by simp) (by simp) (by first | omega | simp) (by first | omega | simp)) ?_
 rintro _ mc ⟨ag, md, me, rfl, f1, cv, ab⟩
 refine ⟨_, rfl, ?_⟩
 have bo := bn.tr ab
 have a7 := cv.one List.mem_cons_self
 refine qI rfl (yM [vN] zr26 rfl bo.pins (fun f2 mf mg cw f3 cx => ?_))
 have cy := bo.step f3 cx
 have f4 := cv.below cx
 have cz : w.heap.size ≤ f2 := by have := bo.size; omega
 refine q0 rfl rfl rfl (o_stp (cs' := [ag]) (us := [ag]) (v := (.agg [ag].toArray)) sz26 rfl rfl rfl (yO a7) cy.pins cw (dZ rfl) rfl (fun mh f5 f6 c0 mi => ?_))
 have f7 := cy.write f6 c0 ((zY cz))
 have f8 := f4.kept c0 (fun k hk o u => by cases hk; exact cw.free o u)
 obtain ⟨c1, ac, a8, c2, mj⟩ := f5.shut f7 cz
 have f9 := f8.le ac
 refine qe (zA (zB (zC ?_)))
 refine qD rfl (zT (cs := [a]) ag26 sz26 rfl (fun j u hj => (dX a8.pins (dW (dW (dW (dW (dW ak al.le) am) aa) ab.le) ac)) _ _ _ (aj _ _ (by simpa using hj)))) (qI rfl (xT (E := eVal) (e := 26) [a] a dG sz26 zr26 ⟨rfl, m⟩ rfl (by decide) a8.pins (fun c3 ga gb gc c4 mk => ?_)))
 have a9 := a8.step gc c4
 have gd := f9.below c4
 have c5 := gb.weaken a8.size
 refine qD rfl (zT (cs := [a]) ag26 sz26 rfl (fun j u hj => (dX a9.pins (dW (dW (dW (dW (dW ak al.le) am) aa) ab.le) ac)) _ _ _ (aj _ _ (by simpa using hj)))) (qI rfl (xT (E := eVal) (e := 26) [a] a dG sz26 zr26 ⟨rfl, m⟩ rfl (by decide) a9.pins (fun c6 ge gf gg bp gh => ?_)))
 have gi := a9.step gg bp
 have gj := c5.below bp
 have gk := gd.below bp
 have gl := zG gh c5.lt
 have gm := gf.weaken a9.size
 obtain ⟨ml, t, gn, gp, gq⟩ := gj.sealed gi
 have gr := gm.moreO t gq gl
 have gs := gk.le t
 obtain ⟨mm, x, bq, gt, mn⟩ := gr.sealed gn
 have gu := gs.le x
 refine qI rfl (zF (vs := [c3, c6]) Tryz.func81 nm81 rfl rfl rfl ?_)
 refine dY (qB bq.pins gu f1 (by first | omega | (simp; done) | (simp; omega)) bq.size (gp.mono x) gt (by simp) (by simp) (by first | omega | simp) (by first | omega | simp)) ?_
 rintro _ mo ⟨b, mp, mq, rfl, gv, c7, ad⟩
 refine ⟨_, rfl, ?_⟩
 have br := bq.tr ad
 have ar := c7.one List.mem_cons_self
 refine qI rfl (yM [vN] zr26 rfl br.pins (fun gw mr ms c8 gx c9 => ?_))
 have da := br.step gx c9
 have gy := c7.below c9
 have db : w.heap.size ≤ gw := by have := br.size; omega
 refine q0 rfl rfl rfl (o_stp (cs' := [b]) (us := [b]) (v := (.agg [b].toArray)) sz26 rfl rfl rfl (yO ar) da.pins c8 (dZ rfl) rfl (fun mt gz g0 dc mu => ?_))
 have g1 := da.write g0 dc ((zY db))
 have g3 := gy.kept dc (fun k hk o u => by cases hk; exact c8.free o u)
 obtain ⟨dd, ae, ba, a2, mv⟩ := gz.shut g1 db
 have g4 := g3.le ae
 refine qe (zA (zB (zC ?_)))
 refine qD rfl (zT (cs := [a]) ag26 sz26 rfl (fun j u hj => (dX ba.pins (dW (dW (dW (dW (dW (dW (dW (dW (dW ak al.le) am) aa) ab.le) ac) t) x) ad.le) ae)) _ _ _ (aj _ _ (by simpa using hj)))) (qI rfl (xT (E := eVal) (e := 26) [a] a dG sz26 zr26 ⟨rfl, m⟩ rfl (by decide) ba.pins (fun de g5 g6 g7 df mw => ?_)))
 have bb := ba.step g7 df
 have g8 := g4.below df
 have dg := g6.weaken ba.size
 refine qD rfl (zT (cs := [b]) ag26 sz26 rfl (fun j u hj => bb.pins _ _ _ (a2 _ _ (by simpa using hj)))) (qI rfl (xT (E := eVal) (e := 26) [b] b dG sz26 zr26 ⟨rfl, ar⟩ rfl (by decide) bb.pins (fun dh g9 ha hb bs hc => ?_)))
 have hd := bb.step hb bs
 have he := dg.below bs
 have hf := g8.below bs
 have hg := zG hc dg.lt
 have hh := ha.weaken bb.size
 obtain ⟨mx, c, hi, hl, hm⟩ := he.sealed hd
 have hn := hh.moreO c hm hg
 have ho := hf.le c
 obtain ⟨my, d, bt, hp, mz⟩ := hn.sealed hi
 have hq := ho.le d
 refine qI rfl (zF (vs := [de, dh]) Tryz.func81 nm81 rfl rfl rfl ?_)
 refine dY (qB bt.pins hq gv (by first | omega | (simp; done) | (simp; omega)) bt.size (hl.mono d) hp (by simp) (by simp) (by first | omega | simp) (by first | omega | simp)) ?_
 rintro _ m0 ⟨aw, m1, m2, rfl, hr, di, g⟩
 refine ⟨_, rfl, ?_⟩
 have bu := bt.tr g
 have bv := di.one List.mem_cons_self
 refine qI rfl (yM [vN] zr26 rfl bu.pins (fun hs m3 m4 dj ht dk => ?_))
 have dl := bu.step ht dk
 have hu := di.below dk
 have dm : w.heap.size ≤ hs := by have := bu.size; omega
 refine q0 rfl rfl rfl (o_stp (cs' := [aw]) (us := [aw]) (v := (.agg [aw].toArray)) sz26 rfl rfl rfl (yO bv) dl.pins dj (dZ rfl) rfl (fun m5 hv hw dn m6 => ?_))
 have hx := dl.write hw dn ((zY dm))
 have hy := hu.kept dn (fun k hk o u => by cases hk; exact dj.free o u)
 obtain ⟨dp, h, bc, hz, m7⟩ := hv.shut hx dm
 have h0 := hy.le h
 refine qe (zA (zB (zC ?_)))
 refine qD rfl (zT (cs := [a]) ag26 sz26 rfl (fun j u hj => (dX bc.pins (dW (dW (dW (dW (dW (dW (dW (dW (dW (dW (dW (dW (dW ak al.le) am) aa) ab.le) ac) t) x) ad.le) ae) c) d) g.le) h)) _ _ _ (aj _ _ (by simpa using hj)))) (qI rfl (xT (E := eVal) (e := 26) [a] a dG sz26 zr26 ⟨rfl, m⟩ rfl (by decide) bc.pins (fun dq h1 h2 h3 dr m8 => ?_)))
 have bd := bc.step h3 dr
 have h4 := h0.below dr
 have ds := h2.weaken bc.size
 refine qD rfl (zT (cs := [f]) ag26 sz26 rfl (fun j u hj => (dX bd.pins (dW (dW (dW (dW (dW (dW (dW (dW (dW (dW aa ab.le) ac) t) x) ad.le) ae) c) d) g.le) h)) _ _ _ (bm _ _ (by simpa using hj)))) (qI rfl (xT (E := eVal) (e := 26) [f] f dG sz26 zr26 ⟨rfl, a1⟩ rfl (by decide) bd.pins (fun dt h5 h6 h7 bw h8 => ?_)))
 have h9 := bd.step h7 bw
 have ia := ds.below bw
 have ib := h4.below bw
 have ic := zG h8 ds.lt
 have ie := h6.weaken bd.size
 obtain ⟨m9, i, ig, ih, ii⟩ := ia.sealed h9
 have ij := ie.moreO i ii ic
 have ik := ib.le i
 obtain ⟨na, l, bx, il, nb⟩ := ij.sealed ig
 have im := ik.le l
 refine qI rfl (zF (vs := [dq, dt]) Tryz.func81 nm81 rfl rfl rfl ?_)
 refine dY (qB bx.pins im hr (by first | omega | (simp; done) | (simp; omega)) bx.size (ih.mono l) il (by simp) (by simp) (by first | omega | simp) (by first | omega | simp)) ?_
 rintro _ nc ⟨ax, nd, ne, rfl, io, du, p⟩
 refine ⟨_, rfl, ?_⟩
 have bz := bx.tr p
 have b0 := du.one List.mem_cons_self
 refine qI rfl (yM [vN] zr26 rfl bz.pins (fun ip nf ng dv iq dw => ?_))
 have dx := bz.step iq dw
 have ir := du.below dw
 have dy : w.heap.size ≤ ip := by have := bz.size; omega
 refine q0 rfl rfl rfl (o_stp (cs' := [ax]) (us := [ax]) (v := (.agg [ax].toArray)) sz26 rfl rfl rfl (yO b0) dx.pins dv (dZ rfl) rfl (fun nh it iu dz ni => ?_))
 have iv := dx.write iu dz ((zY dy))
 have iw := ir.kept dz (fun k hk o u => by cases hk; exact dv.free o u)
 obtain ⟨d0, q, be, ix, nj⟩ := it.shut iv dy
 have iy := iw.le q
 refine qe (zA (zB (zC ?_)))
 refine qD rfl (zT (cs := [f]) ag26 sz26 rfl (fun j u hj => (dX be.pins (dW (dW (dW (dW (dW (dW (dW (dW (dW (dW (dW (dW (dW (dW aa ab.le) ac) t) x) ad.le) ae) c) d) g.le) h) i) l) p.le) q)) _ _ _ (bm _ _ (by simpa using hj)))) (qI rfl (xT (E := eVal) (e := 26) [f] f dG sz26 zr26 ⟨rfl, a1⟩ rfl (by decide) be.pins (fun d1 iz i0 i1 d2 nk => ?_)))
 have bf := be.step i1 d2
 have i2 := iy.below d2
 have d3 := i0.weaken be.size
 refine qD rfl (zT (cs := [ag]) ag26 sz26 rfl (fun j u hj => (dX bf.pins (dW (dW (dW (dW (dW (dW (dW (dW (dW (dW (dW t x) ad.le) ae) c) d) g.le) h) i) l) p.le) q)) _ _ _ (c2 _ _ (by simpa using hj)))) (qI rfl (xT (E := eVal) (e := 26) [ag] ag dG sz26 zr26 ⟨rfl, a7⟩ rfl (by decide) bf.pins (fun d4 i3 i4 i5 b1 i6 => ?_)))
 have i7 := bf.step i5 b1
 have i8 := d3.below b1
 have i9 := i2.below b1
 have ja := zG i6 d3.lt
 have jb := i4.weaken bf.size
 obtain ⟨nl, r, jc, jd, je⟩ := i8.sealed i7
 have jf := jb.moreO r je ja
 have jg := i9.le r
 obtain ⟨nm, s, b2, jh, nn⟩ := jf.sealed jc
 have ji := jg.le s
 refine qI rfl (zF (vs := [d1, d4]) Tryz.func81 nm81 rfl rfl rfl ?_)
 refine dY (qB b2.pins ji io (by first | omega | (simp; done) | (simp; omega)) b2.size (jd.mono s) jh (by simp) (by simp) (by first | omega | simp) (by first | omega | simp)) ?_
 rintro _ no ⟨ay, np, nq, rfl, jj, d5, y⟩
 refine ⟨_, rfl, ?_⟩
 have b3 := b2.tr y
 have b4 := d5.one List.mem_cons_self
 refine qI rfl (yM [vN] zr26 rfl b3.pins (fun jk nr ns d6 jl d7 => ?_))
 have d8 := b3.step jl d7
 have jm := d5.below d7
 have d9 : w.heap.size ≤ jk := by have := b3.size; omega
 refine q0 rfl rfl rfl (o_stp (cs' := [ay]) (us := [ay]) (v := (.agg [ay].toArray)) sz26 rfl rfl rfl (yO b4) d8.pins d6 (dZ rfl) rfl (fun nt jn jo ea nu => ?_))
 have jp := d8.write jo ea ((zY d9))
 have jq := jm.kept ea (fun k hk o u => by cases hk; exact d6.free o u)
 obtain ⟨eb, z, a3, jr, nv⟩ := jn.shut jp d9
 have js := jq.le z
 refine qe (zA (zB (zC ?_)))
 refine qD rfl (zT (cs := [a]) ag26 sz26 rfl (fun j u hj => (dX a3.pins (dW (dW (dW (dW (dW (dW (dW (dW (dW (dW (dW (dW (dW (dW (dW (dW (dW (dW (dW (dW (dW ak al.le) am) aa) ab.le) ac) t) x) ad.le) ae) c) d) g.le) h) i) l) p.le) q) r) s) y.le) z)) _ _ _ (aj _ _ (by simpa using hj)))) (qD rfl (zT (cs := [b]) ag26 sz26 rfl (fun j u hj => (dX a3.pins (dW (dW (dW (dW (dW (dW (dW (dW (dW (dW (dW c d) g.le) h) i) l) p.le) q) r) s) y.le) z)) _ _ _ (a2 _ _ (by simpa using hj)))) (qI rfl (sN (E := eVal) (e := 26) [a, b] [a, b] dG sz26 zr26 (by exact reps2 (⟨rfl, m⟩) (⟨rfl, ar⟩)) (xG m ar) rfl rfl rfl rfl (by decide) a3.pins (fun ec jt ju jv ed nw => ?_))))
 have a4 := a3.step jv ed
 have jw := js.below ed
 have ee := ju.weaken a3.size
 refine qD rfl (zT (cs := [a]) ag26 sz26 rfl (fun j u hj => (dX a4.pins (dW (dW (dW (dW (dW (dW (dW (dW (dW (dW (dW (dW (dW (dW (dW (dW (dW (dW (dW (dW (dW ak al.le) am) aa) ab.le) ac) t) x) ad.le) ae) c) d) g.le) h) i) l) p.le) q) r) s) y.le) z)) _ _ _ (aj _ _ (by simpa using hj)))) (qD rfl (zT (cs := [b]) ag26 sz26 rfl (fun j u hj => (dX a4.pins (dW (dW (dW (dW (dW (dW (dW (dW (dW (dW (dW c d) g.le) h) i) l) p.le) q) r) s) y.le) z)) _ _ _ (a2 _ _ (by simpa using hj)))) (qI rfl (sN (E := eVal) (e := 26) [a, b] [a, b] dG sz26 zr26 (by exact reps2 (⟨rfl, m⟩) (⟨rfl, ar⟩)) (xG m ar) rfl rfl rfl rfl (by decide) a4.pins (fun ef jx jy jz b5 j0 => ?_))))
 have j1 := a4.step jz b5
 have j2 := ee.below b5
 have j3 := jw.below b5
 have j4 := zG j0 ee.lt
 have j5 := jy.weaken a4.size
 obtain ⟨nx, ah, j6, j7, j8⟩ := j2.sealed j1
 have j9 := j5.moreO ah j8 j4
 have ka := j3.le ah
 obtain ⟨ny, ai, b6, kb, nz⟩ := j9.sealed j6
 have kc := ka.le ai
 refine qI rfl (zF (vs := [ec, ef]) Tryz.func81 nm81 rfl rfl rfl ?_)
 refine dY (qB b6.pins kc jj (by first | omega | (simp; done) | (simp; omega)) b6.size (j7.mono ai) kb (by simp) (by simp) (by first | omega | simp) (by first | omega | simp)) ?_
 rintro _ n0 ⟨az, n1, n2, rfl, kd, eg, an⟩
 refine ⟨_, rfl, ?_⟩
 have b7 := b6.tr an
 have b8 := eg.one List.mem_cons_self
 refine qI rfl (yM [vN] zr26 rfl b7.pins (fun ke n3 n4 eh kf ei => ?_))
 have ej := b7.step kf ei
 have kg := eg.below ei
 have ek : w.heap.size ≤ ke := by have := b7.size; omega
 refine q0 rfl rfl rfl (o_stp (cs' := [az]) (us := [az]) (v := (.agg [az].toArray)) sz26 rfl rfl rfl (yO b8) ej.pins eh (dZ rfl) rfl (fun n5 kh ki el n6 => ?_))
 have kj := ej.write ki el ((zY ek))
 have kk := kg.kept el (fun k hk o u => by cases hk; exact eh.free o u)
 obtain ⟨em, ao, bg, kl, n7⟩ := kh.shut kj ek
 have km := kk.le ao
 refine qe (zA (zB (zC ?_)))
 refine qD rfl (zT (cs := [b]) ag26 sz26 rfl (fun j u hj => (dX bg.pins (dW (dW (dW (dW (dW (dW (dW (dW (dW (dW (dW (dW (dW (dW (dW c d) g.le) h) i) l) p.le) q) r) s) y.le) z) ah) ai) an.le) ao)) _ _ _ (a2 _ _ (by simpa using hj)))) (qI rfl (xT (E := eVal) (e := 26) [b] b dG sz26 zr26 ⟨rfl, ar⟩ rfl (by decide) bg.pins (fun en kn ko kp eo n8 => ?_)))
 have bh := bg.step kp eo
 have kq := km.below eo
 have ep := ko.weaken bg.size
 refine qD rfl (zT (cs := [a]) ag26 sz26 rfl (fun j u hj => (dX bh.pins (dW (dW (dW (dW (dW (dW (dW (dW (dW (dW (dW (dW (dW (dW (dW (dW (dW (dW (dW (dW (dW (dW (dW (dW (dW ak al.le) am) aa) ab.le) ac) t) x) ad.le) ae) c) d) g.le) h) i) l) p.le) q) r) s) y.le) z) ah) ai) an.le) ao)) _ _ _ (aj _ _ (by simpa using hj)))) (qI rfl (xT (E := eVal) (e := 26) [a] a dG sz26 zr26 ⟨rfl, m⟩ rfl (by decide) bh.pins (fun eq kr ks kt b9 ku => ?_)))
 have kv := bh.step kt b9
 have kw := ep.below b9
 have kx := kq.below b9
 have ky := zG ku ep.lt
 have kz := ks.weaken bh.size
 obtain ⟨n9, ap, k0, k1, k2⟩ := kw.sealed kv
 have k3 := kz.moreO ap k2 ky
 have k4 := kx.le ap
 obtain ⟨oa, aq, ca, k5, ob⟩ := k3.sealed k0
 have k6 := k4.le aq
 refine qI rfl (zF (vs := [en, eq]) Tryz.func81 nm81 rfl rfl rfl ?_)
 refine dY (qB ca.pins k6 kd (by first | omega | (simp; done) | (simp; omega)) ca.size (k1.mono aq) k5 (by simp) (by simp) (by first | omega | simp) (by first | omega | simp)) ?_
 rintro _ oc ⟨a0, od, oe, rfl, k7, er, au⟩
 refine ⟨_, rfl, ?_⟩
 have cb := ca.tr au
 have cc := er.one List.mem_cons_self
 refine qI rfl (yM [vN] zr26 rfl cb.pins (fun k8 og oh es k9 et => ?_))
 have eu := cb.step k9 et
 have la := er.below et
 have ev : w.heap.size ≤ k8 := by have := cb.size; omega
 refine q0 rfl rfl rfl (o_stp (cs' := [a0]) (us := [a0]) (v := (.agg [a0].toArray)) sz26 rfl rfl rfl (yO cc) eu.pins es (dZ rfl) rfl (fun oi lb lc ew oj => ?_))
 have ld := eu.write lc ew ((zY ev))
 have lf := la.kept ew (fun k hk o u => by cases hk; exact es.free o u)
 obtain ⟨lg, av, af, lh, ok⟩ := lb.shut ld ev
 have li := lf.le av
 refine qe (zA (zB (zC ?_)))
 refine qD rfl (zT (cs := [a]) ag26 sz26 rfl (fun j u hj => (dX af.pins (dW (dW (dW (dW (dW (dW (dW (dW (dW (dW (dW (dW (dW (dW (dW (dW (dW (dW (dW (dW (dW (dW (dW (dW (dW (dW (dW (dW (dW ak al.le) am) aa) ab.le) ac) t) x) ad.le) ae) c) d) g.le) h) i) l) p.le) q) r) s) y.le) z) ah) ai) an.le) ao) ap) aq) au.le) av)) _ _ _ (aj _ _ (by simpa using hj)))) (qD rfl (zT (cs := [f]) ag26 sz26 rfl (fun j u hj => (dX af.pins (dW (dW (dW (dW (dW (dW (dW (dW (dW (dW (dW (dW (dW (dW (dW (dW (dW (dW (dW (dW (dW (dW (dW (dW (dW (dW aa ab.le) ac) t) x) ad.le) ae) c) d) g.le) h) i) l) p.le) q) r) s) y.le) z) ah) ai) an.le) ao) ap) aq) au.le) av)) _ _ _ (bm _ _ (by simpa using hj)))) (qD rfl (zT (cs := [ag]) ag26 sz26 rfl (fun j u hj => (dX af.pins (dW (dW (dW (dW (dW (dW (dW (dW (dW (dW (dW (dW (dW (dW (dW (dW (dW (dW (dW (dW (dW (dW (dW t x) ad.le) ae) c) d) g.le) h) i) l) p.le) q) r) s) y.le) z) ah) ai) an.le) ao) ap) aq) au.le) av)) _ _ _ (c2 _ _ (by simpa using hj)))) (qD rfl (zT (cs := [b]) ag26 sz26 rfl (fun j u hj => (dX af.pins (dW (dW (dW (dW (dW (dW (dW (dW (dW (dW (dW (dW (dW (dW (dW (dW (dW (dW (dW c d) g.le) h) i) l) p.le) q) r) s) y.le) z) ah) ai) an.le) ao) ap) aq) au.le) av)) _ _ _ (a2 _ _ (by simpa using hj)))) (qD rfl (zT (cs := [aw]) ag26 sz26 rfl (fun j u hj => (dX af.pins (dW (dW (dW (dW (dW (dW (dW (dW (dW (dW (dW (dW (dW (dW (dW i l) p.le) q) r) s) y.le) z) ah) ai) an.le) ao) ap) aq) au.le) av)) _ _ _ (hz _ _ (by simpa using hj)))) (qD rfl (zT (cs := [ax]) ag26 sz26 rfl (fun j u hj => (dX af.pins (dW (dW (dW (dW (dW (dW (dW (dW (dW (dW (dW r s) y.le) z) ah) ai) an.le) ao) ap) aq) au.le) av)) _ _ _ (ix _ _ (by simpa using hj)))) (qD rfl (zT (cs := [ay]) ag26 sz26 rfl (fun j u hj => (dX af.pins (dW (dW (dW (dW (dW (dW (dW ah ai) an.le) ao) ap) aq) au.le) av)) _ _ _ (jr _ _ (by simpa using hj)))) (qD rfl (zT (cs := [az]) ag26 sz26 rfl (fun j u hj => (dX af.pins (dW (dW (dW ap aq) au.le) av)) _ _ _ (kl _ _ (by simpa using hj)))) (qD rfl (zT (cs := [a0]) ag26 sz26 rfl (fun j u hj => af.pins _ _ _ (lh _ _ (by simpa using hj)))) (qI rfl (sN (E := eVal) (e := 26) [a, f, ag, b, aw, ax, ay, az, a0] [a, f, ag, b, aw, ax, ay, az, a0] dG sz26 zr26 (kO (⟨rfl, m⟩) (kO (⟨rfl, a1⟩) (kO (⟨rfl, a7⟩) (kO (⟨rfl, ar⟩) (kO (⟨rfl, bv⟩) (kO (⟨rfl, b0⟩) (kO (⟨rfl, b4⟩) (kO (⟨rfl, b8⟩) (kO (⟨rfl, cc⟩) repsN))))))))) (kQ m (kQ a1 (kQ a7 (kQ ar (kQ bv (kQ b0 (kQ b4 (kQ b8 (kQ cc onesN))))))))) rfl rfl rfl rfl (by decide) af.pins (fun cd lj lk ll ex ol => ?_)))))))))))
 have lm := af.step ll ex
 have ln := li.below ex
 have lo := lk.weaken af.size
 refine qM cd ?_
 refine qe (zA ?_)
 exact wp_ret (zO (zQ (v := cd) rfl rfl rfl (⟨_, _, _, _, rfl, lo, ln.mem (by simp), k7, rfl, rfl, lm⟩)))
theorem some_spec {w : World} {c : Nat} {s : Int} (hP : Pins G w) (hB : Bx G w c [cv, .int .i64 a, .int .u64 s]) (hc : RSl eByte G cv code) (ha : 0 ≤ a ∧ a + 6 ≤ 1000000) (hs : 0 ≤ s ∧ s < 18446744073709551616) (hl : RSl eVal G l vs) (hn : 1 ≤ vs.length ∧ vs.length ≤ 1000) (hm2 : 0 ≤ m ∧ m ≤ 2) :
  Calls Tryz.prog 80 [(vP c), l, (vJ m)].toArray w fun e w' => ∃ (u : Value) (ys : List Value) (a' s' : Int) (G' : Pin), e = .returned u ∧ Own eVal 26 G' w' w.heap.size u ys ∧ (∀ y ∈ ys, y ∈ vs) ∧ ys.length ≤ 2 ∧ Bx G' w' c [cv, .int .i64 a', .int .u64 s'] ∧ (a ≤ a' ∧ a' ≤ a + 6) ∧ (0 ≤ s' ∧ s' < 18446744073709551616) ∧ Ext (inO (some c)) G w G' w' := by
 refine zU (n := 31) Tryz.func80 Tryz.ntmps80 rfl rfl ?_
 have q := exr (inO (some c)) hP
 have hm := hc.max
 refine zB (zC ?_)
 refine qM vN ?_
 refine qe (zA (zB (zC ?_)))
 refine qI rfl (xC (E := eVal) (e := 26) dG sz26 q.pins (fun r w2 ar au ad av => ?_))
 have ae := q.step au ad
 have aw := hB.below ad
 have af := zH av hB.lt
 have ax := ar.weaken q.size
 refine qM r ?_
 refine qe (zA (zB (zC ?_)))
 refine qM (vP c) ?_
 refine qM (vJ m) ?_
 refine qD rfl (yJ rfl rfl (by omega)) (qI rfl (zF (vs := [(vP c), (vJ (m + 1))]) Tryz.func29 nm29 rfl rfl rfl ?_))
 refine dY (jA ae.pins aw hc (by omega) (by omega) (n := (m + 1)) (by omega)) ?_
 rintro _ bm ⟨d, ay, az, rfl, bn, a0, bo, bp, ag⟩
 refine ⟨_, rfl, ?_⟩
 have a2 := ae.trans ag (fun i hi => yV i hi)
 have a3 := ax.extS ag (notO af)
 refine qM (vJ d) ?_
 refine qe (zA (zB (zB (zC ?_))))
 refine qM (vJ 0) ?_
 refine qe (zA ?_)
 refine zW (yS (fun k en W => ∃ (ah : Nat → Value) (i : Nat) (ov : Value) (ys : List Value) (f : Int) (g : Int) (GL : Pin), en = (upd (upd (upd (upd (upd (upd ah 0 (vP c)) 1 l) 6 vN) 7 ov) 8 (vJ d)) 9 (vJ (i : Int))) ∧ k = (d).toNat - i ∧ Ext (inO (some c)) G w GL W ∧ Pin.le G GL ∧ (i : Int) ≤ d ∧ (∀ y ∈ ys, y ∈ vs) ∧ (ys.length = i) ∧ (a ≤ f ∧ f ≤ a + 2 + 2 * (i : Int)) ∧ (0 ≤ g ∧ g < 18446744073709551616) ∧ (Own eVal 26 GL W w.heap.size ov (ys)) ∧ (Bx GL W c [cv, (vJ f), (.int .u64 g)]) ∧ (Apart ov.ownBlock (some c))) _ ⟨_, 0, r, [], ay, az, G, (pS 9 (pS 8 (pS 7 (pS 6 (pS 1 (pU 0)))))), rfl, a2, Pin.le_refl _, (by omega), (fun y hy => (List.not_mem_nil hy).elim), rfl, (by omega), (by omega), a3, a0, af⟩ ?_)
 rintro bq _ br ⟨ah, i, ov, ys, f, g, GL, rfl, bs, t, x, hi, hys, hyl, hda, hds, ai, aj, aa⟩
 refine zB (zB (zC ?_))
 refine qM (vJ (i : Int)) ?_
 refine qM (vJ d) ?_
 refine qD rfl (yX rfl rfl) (qe (zA ?_))
 refine yC (p := ((i : Int) : Int) < d) rfl rfl (fun a4 => ?_) (fun a4 => ?_)
 refine wp_skip (zA (zB ?_))
 refine zW (zC (qM ov ?_))
 refine qM l ?_
 refine qM (vP c) ?_
 refine qM l ?_
 refine qD rfl (zP dG (v := l) rfl hl) (qI rfl (zF (vs := [(vP c), (vJ (vs.length : Int))]) Tryz.func29 nm29 rfl rfl rfl ?_))
 refine dY (jA t.pins aj (hc.mono x) (by omega) (by omega) (n := (vs.length : Int)) (by omega)) ?_
 rintro _ bt ⟨b, a5, a6, rfl, bu, a7, bv, bw, ak⟩
 refine ⟨_, rfl, ?_⟩
 have o := t.trans ak (fun i hi => yV i hi)
 have a8 := ai.extS ak (notO aa)
 refine qD rfl (zJ dG sz26 (v := l) rfl rfl hl (by omega) (by omega)) ?_
 obtain ⟨bx, a9, ba, bz⟩ := nm_el (j := (b).toNat) default (hl.at (z := b) (by omega) (by omega)) rfl
 obtain ⟨rfl, bb⟩ := a9
 refine qD rfl (ba ag26 sz26 rfl (dX o.pins x)) (qI rfl (xT (E := eVal) (e := 26) [(vs.getD (b).toNat default)] (vs.getD (b).toNat default) dG sz26 zr26 ⟨rfl, bb⟩ rfl (by decide) o.pins (fun al bc bd be ab b0 => ?_)))
 have ac := o.step be ab
 have am := a8.below ab
 have an := a7.below ab
 have bf := bd.weaken o.size
 refine qI rfl (oA (E := eVal) (v := ov) (u := al) 24 dG ap26 (by decide) rfl rfl ac.pins am bf.src (ac.size) (fun ao b1 bg bh ap bi => ?_))
 have bj := ac.write bh ap ((yH am))
 have bk := an.keptA ap aa.symm
 have bl := zN aa.symm bi an.lt
 have b2 := la1 ys (vs.getD (b).toNat default)
 refine qM ao ?_
 refine qe (yA (zA (zC ?_)))
 refine qM (vJ (i : Int)) ?_
 refine qD rfl (yJ rfl rfl (by omega)) (qM (vJ ((i : Int) + 1)) ?_)
 refine qe (yD (⟨_, ?_, _, rfl, _, i + 1, ao, ys ++ ([(vs.getD (b).toNat default)]), a5, a6, GL, (pS 9 (pS 8 (pS 7 (pS 6 (pS 1 (pU 0)))))), rfl, bj, x, (by omega), (fun y hy => (List.mem_append.1 hy).elim (hys y) (fun h => by rw [List.mem_singleton.1 h]; exact zZ (by omega))), (by simp; omega), (by omega), (by omega), bg, bk, bl.symm⟩))
 omega
 refine wp_exit (zV (yK (yE (zA (zB (zC ?_))))))
 refine qM ov ?_
 refine qM ov ?_
 refine qe (zA ?_)
 exact wp_ret (zO (zQ (v := ov) rfl rfl rfl (⟨_, _, _, _, _, rfl, ai, hys, (by omega), aj, (by omega), (by omega), t⟩)))
theorem sE {w : World} {c : Nat} {s : Int} {e : Nat} (hP : Pins G w) (hB : Bx G w c [cv, .int .i64 a, .int .u64 s]) (hc : RSl eByte G cv code) (ha : 0 ≤ a ∧ a + 6 ≤ 1000000) (hs : 0 ≤ s ∧ s < 18446744073709551616) (hl : Own eVal e G w base l vs) (hap : Apart (some c) l.ownBlock) (hn : 1 ≤ vs.length ∧ vs.length ≤ 1000) (hm2 : 0 ≤ m ∧ m ≤ 2) :
  Calls Tryz.prog 80 [(.pointer (some ⟨c, 0, none⟩)), l, (.int .i64 m)].toArray w fun e w' => ∃ (u : Value) (ys : List Value) (a' s' : Int), e = .returned u ∧ Own eVal 26 G w' w.heap.size u ys ∧ (∀ y ∈ ys, y ∈ vs) ∧ ys.length ≤ 2 ∧ Bx G w' c [cv, .int .i64 a', .int .u64 s'] ∧ (a ≤ a' ∧ a' ≤ a + 6) ∧ (0 ≤ s' ∧ s' < 18446744073709551616) ∧ Ext (inO (some c)) G w G w' := by
 have hb2 : Bx (Gadd G w l) w c [cv, .int .i64 a, .int .u64 s] := ⟨hB.heap, fun o u hu => hu.elim (hB.free o u) (fun h => hap c rfl h.1)⟩
 refine (some_spec (Gadd.pins hP l) hb2 (hc.mono (Gadd.le _ _ _)) ha hs hl.read hn hm2).mono fun e w' ⟨u, ys, a', s', G', e1, ho, hm, hy, hb, h1, h2, hx⟩ => ?_
 have hle : Pin.le G G' := dW (Gadd.le _ _ _) hx.le
 exact ⟨u, ys, a', s', e1, ownV_anti ho hle, hm, hy, hb.anti hle, h1, h2, ext_back (Gadd.le _ _ _) hx⟩
theorem dform_spec {w : World} {c : Nat} {s : Int} {n : Int} (hP : Pins G w) (hB : Bx G w c [cv, .int .i64 a, .int .u64 s]) (hc : RSl eByte G cv code) (ha : 0 ≤ a ∧ a + (12 * n + 4) ≤ 1000000) (hs : 0 ≤ s ∧ s < 18446744073709551616) (hn : 0 ≤ n ∧ n ≤ 6) :
  Calls Tryz.prog 58 [(vP c), (vJ n)].toArray w fun e w' => ∃ (u : Value) (g : Nat) (a' s' : Int) (G' : Pin), e = .returned (.agg [u].toArray) ∧ Own eNode 69 G' w' w.heap.size u (formG g) ∧ IsForm g (formG g) ∧ ((formG g).length : Int) ≤ 9 + n ∧ Bx G' w' c [cv, .int .i64 a', .int .u64 s'] ∧ (a ≤ a' ∧ a' ≤ a + (12 * n + 4)) ∧ (0 ≤ s' ∧ s' < 18446744073709551616) ∧ Ext (inO (some c)) G w G' w' := by
 refine zU (n := 40) Tryz.func58 Tryz.ntmps58 rfl rfl ?_
 have ar := exr (inO (some c)) hP
 have hm := hc.max
 refine zB (zC ?_)
 refine qI rfl (yM [vN] zr26 rfl ar.pins (fun b1 w2 b3 bg b4 bh => ?_))
 have ae := ar.step b4 bh
 have bi := hB.below bh
 have h := zH (congrArg some b3) hB.lt
 have bj : w.heap.size ≤ b1 := by have := ar.size; omega
 refine qe (zA (zB (zC ?_)))
 refine qI rfl (zF (vs := []) Tryz.func79 nm79 rfl rfl rfl ?_)
 refine dY (l3Small_spec ae.pins) ?_
 rintro _ b5 ⟨au, bk, b6, av, rfl, aw, b7, b8, el, em, d⟩
 refine ⟨_, rfl, ?_⟩
 have b9 := ae.tr d
 have ca := bi.ext d
 have cb := bg.ext d
 have cc := yF aw.lt bi.lt
 have cd := yF aw.lt bg.lt
 have ce := aw.weaken ae.size
 have cf := b7.wide ae.size
 refine qM au ?_
 refine qe (zA (zB (zB (zC ?_))))
 refine qM (vJ 0) ?_
 refine qe (zA ?_)
 refine zW (yS (fun k en W => ∃ (bl : Nat → Value) (i : Nat) (lv : Value) (ls : List Value) (Q : List Nat) (a1 : Int) (s1 : Int) (GL : Pin), en = (upd (upd (upd (upd (upd bl 0 (vP c)) 1 (vJ n)) 4 (vP b1)) 5 lv) 6 (vJ (i : Int))) ∧ k = n.toNat - i ∧ Ext (inO (some c)) G w GL W ∧ Pin.le av GL ∧ (i : Int) ≤ n ∧ (Fr 69 w.heap.size GL W Q ls) ∧ (KQ Q) ∧ (ls.length = 9 + i) ∧ (Q.length = 9 + i) ∧ (a ≤ a1 ∧ a1 ≤ a + 12 * (i : Int)) ∧ (0 ≤ s1 ∧ s1 < 18446744073709551616) ∧ (Own eVal 26 GL W w.heap.size lv (ls)) ∧ (Bx GL W c [cv, (vJ a1), (.int .u64 s1)]) ∧ (Bx GL W b1 [vN]) ∧ (Apart lv.ownBlock (some c)) ∧ (Apart lv.ownBlock (some b1))) _ ⟨_, 0, au, bk, b6, a, s, av, (pS 6 (pS 5 (pS 4 (pS 1 (pU 0))))), rfl, b9, Pin.le_refl _, (by omega), cf, b8, (by omega), (by omega), (by omega), (by omega), ce, ca, cb, cc, cd⟩ ?_)
 rintro eo _ ep ⟨bl, i, lv, ls, Q, a1, s1, GL, rfl, eq, l, m, hi, hfl, hkl, hll, hQl, hda, hds, ah, q, ax, b, bm⟩
 refine zB (zB (zC ?_))
 refine qM (vJ (i : Int)) ?_
 refine qM (vJ n) ?_
 refine qD rfl (yX rfl rfl) (qe (zA ?_))
 refine yC (p := ((i : Int) : Int) < n) rfl rfl (fun cg => ?_) (fun cg => ?_)
 refine wp_skip (zA (zB ?_))
 refine zW (zB (zC ?_))
 refine qM (vP c) ?_
 refine qM lv ?_
 refine qI rfl (zF (vs := [(vP c), lv, (vJ 2)]) Tryz.func80 nm80 rfl rfl rfl ?_)
 refine dY (sE l.pins q (hc.mono (dW d.le m)) (by omega) (by omega) ah b.symm (by omega) (by omega)) ?_
 rintro _ ch ⟨ai, ci, er, es, rfl, aj, cj, et, ay, eu, ev, ak⟩
 refine ⟨_, rfl, ?_⟩
 have az := l.trans ak (fun i hi => yV i hi)
 have a0 := ah.extS ak (notO b)
 have bn := ax.extS ak (xO h)
 have ck := hfl.turned ak (fun k hk o u => by cases hk; exact q.free o u)
 have cl := yB aj.lt ah.lt
 have bo := yF aj.lt q.lt
 have cm := yF aj.lt ax.lt
 have bp := aj.weaken l.size
 refine qM ai ?_
 refine qe (zA (zC ?_))
 refine qM lv ?_
 refine qM ai ?_
 refine qM (vP c) ?_
 refine qM lv ?_
 refine qI rfl (zF (vs := [(vP c), lv, (vJ 2)]) Tryz.func80 nm80 rfl rfl rfl ?_)
 refine dY (sE az.pins ay (hc.mono (dW d.le m)) (by omega) (by omega) a0 b.symm (by omega) (by omega)) ?_
 rintro _ cn ⟨bq, co, cp, cq, rfl, r, cr, ew, ct, ex, ey, t⟩
 refine ⟨_, rfl, ?_⟩
 have cu := az.trans t (fun i hi => yV i hi)
 have cw := a0.extS t (notO b)
 have cx := bp.extS t (notO bo)
 have cy := bn.extS t (xO h)
 have cz := ck.turned t (fun k hk o u => by cases hk; exact ay.free o u)
 have c0 := yB r.lt a0.lt
 have c1 := yB r.lt bp.lt
 have c2 := yF r.lt ay.lt
 have c3 := yF r.lt bn.lt
 have c4 := r.weaken az.size
 obtain ⟨ez, al, c5, c6, am⟩ := cx.sealed cu
 have c7 := cw.moreO al am cl.symm
 have c8 := c4.moreO al am c1
 have c9 := ct.moreO am bo.symm
 have da := cy.moreO am cm.symm
 have db := cz.le al
 obtain ⟨e0, an, a2, dc, a3⟩ := c8.sealed c5
 have dd := c7.moreO an a3 c0.symm
 have de := c9.moreO a3 c2.symm
 have df := da.moreO a3 c3.symm
 have dg := db.le an
 refine qI rfl (zF (vs := [ai, bq]) Tryz.func81 nm81 rfl rfl rfl ?_)
 refine dY (qB a2.pins dg hkl (by first | omega | (simp; done) | (simp; omega)) a2.size (c6.mono an) dc cj cr (by first | omega | simp) (by first | omega | simp)) ?_
 rintro _ e1 ⟨x, dh, br, rfl, di, bs, y⟩
 refine ⟨_, rfl, ?_⟩
 have a4 := a2.tr y
 have dj := dd.ext y
 have dk := de.ext y
 have dl := df.ext y
 have dm := bs.one List.mem_cons_self
 refine qI rfl (xT (E := eVal) (e := 26) [x] x dG sz26 zr26 ⟨rfl, dm⟩ rfl (by decide) a4.pins (fun bt dn dp dq aa e2 => ?_))
 have a5 := a4.step dq aa
 have a6 := dj.below aa
 have bu := dk.below aa
 have bv := dl.below aa
 have dr := bs.below aa
 have ds := dp.weaken a4.size
 refine qI rfl (oA (E := eVal) (v := lv) (u := bt) 24 dG ap26 (by decide) rfl rfl a5.pins a6 ds.src (a5.size) (fun bw e3 dt du ao bx => ?_))
 have dv := a5.write du ao ((yH a6))
 have dw := bu.keptA ao b.symm
 have dx := bv.keptA ao bm.symm
 have dy := dr.kept ao a6.free
 have dz := zN b.symm bx bu.lt
 have d0 := zN bm.symm bx bv.lt
 have e4 := la1 ls x
 refine qM bw ?_
 refine qe (yA (zA (zC ?_)))
 refine qM (vJ (i : Int)) ?_
 refine qD rfl (yJ rfl rfl (by omega)) (qM (vJ ((i : Int) + 1)) ?_)
 refine qe (yD (⟨_, ?_, _, rfl, _, i + 1, bw, ls ++ ([x]), (dh :: Q), cp, cq, br, (pS 6 (pS 5 (pS 4 (pS 1 (pU 0))))), rfl, dv, (dW (dW (dW m al) an) y.le), (by omega), (dy.mem snoc_mem), di, (by simp; omega), (by simp; omega), (by omega), (by omega), dt, dw, dx, dz.symm, d0.symm⟩))
 omega
 refine wp_exit (zV (yK (yE (zA (zB (zB (zC ?_)))))))
 refine qM (vP c) ?_
 refine qI rfl (zF (vs := [(vP c), (vJ 3)]) Tryz.func26 nm26 rfl rfl rfl ?_)
 refine dY (sM l.pins q (hc.mono (dW d.le m)) (by omega) (by omega) (n := 3) (by omega)) ?_
 rintro _ e5 ⟨e6, e7, e8, rfl, a7, e9, fa, ap⟩
 refine ⟨_, rfl, ?_⟩
 have ab := l.trans ap (fun i hi => yV i hi)
 have ac := ah.extS ap (notO b)
 have a8 := ax.extS ap (xO h)
 have bz := hfl.turned ap (fun k hk o u => by cases hk; exact q.free o u)
 refine qe (zA ?_)
 refine c_if rfl rfl (fun d1 => ?_) (fun d1 => ?_)
 refine zB (zC ?_)
 refine qM lv ?_
 refine qM (vP c) ?_
 refine qM lv ?_
 refine qD rfl (zP dG (v := lv) rfl ac.read) (qI rfl (zF (vs := [(vP c), (vJ (ls.length : Int))]) Tryz.func29 nm29 rfl rfl rfl ?_))
 refine dY (jA ab.pins a7 (hc.mono (dW d.le m)) (by omega) (by omega) (n := (ls.length : Int)) (by omega)) ?_
 rintro _ fb ⟨f, fc, fd, rfl, fe, d2, ff, fg, aq⟩
 refine ⟨_, rfl, ?_⟩
 have a9 := ab.trans aq (fun i hi => yV i hi)
 have b0 := ac.extS aq (notO b)
 have b2 := a8.extS aq (xO h)
 have d3 := bz.turned aq (fun k hk o u => by cases hk; exact a7.free o u)
 refine qD rfl (zJ dG sz26 (v := lv) rfl rfl b0.read (by omega) (by omega)) ?_
 obtain ⟨fh, d4, d5, fi⟩ := nm_el (j := (f).toNat) default (b0.at (z := f) (by omega) (by omega)) rfl
 obtain ⟨rfl, d6⟩ := d4
 refine qD rfl (d5 ag26 sz26 rfl (Gadd.pins a9.pins lv)) (q0 rfl rfl rfl (o_stp (cs' := [(ls.getD (f).toNat default)]) (us := [(ls.getD (f).toNat default)]) (v := (.agg [(ls.getD (f).toNat default)].toArray)) sz26 rfl rfl rfl (yO d6) a9.pins b2 (dZ rfl) rfl (fun fj d7 d8 ba fk => ?_)))
 have d9 := a9.write d8 ba ((zY bj))
 have ea := d2.keptA ba h.symm
 have eb := d3.kept ba (fun k hk o u => by cases hk; exact b2.free o u)
 refine qe (zA ?_)
 refine wp_ret (zO (qE (cs := [(ls.getD (f).toNat default)]) rfl rfl rfl ag26 sz26 (fun j u hj => by rw [Nat.zero_add]; exact d7.cell hj) ?_))
 obtain ⟨g, hgq, htk⟩ := eb (ls.getD (f).toNat default) (zZ (by omega))
 obtain ⟨G2, bc, bd, be⟩ := htk.give hP d9
 have hw := hkl.w (by omega) hgq
 exact ⟨_, g, _, _, G2, rfl, bc, hkl.is g hgq, (by omega), ea.anti be, (by omega), (by omega), bd⟩
 refine wp_skip (zA (zB (zC ?_)))
 refine qM lv ?_
 refine qM lv ?_
 refine qD rfl (zP dG (v := lv) rfl ac.read) (qD rfl (qC rfl rfl (by omega)) (qD rfl (zJ dG sz26 (v := lv) rfl rfl ac.read (by omega) (by omega)) ?_))
 obtain ⟨fl, ec, ed, fm⟩ := nm_el (j := ((ls.length : Int) - 1).toNat) default (ac.at (z := ((ls.length : Int) - 1)) (by omega) (by omega)) rfl
 obtain ⟨rfl, ee⟩ := ec
 refine qD rfl (ed ag26 sz26 rfl (Gadd.pins ab.pins lv)) (q0 rfl rfl rfl (o_stp (cs' := [(ls.getD ((ls.length : Int) - 1).toNat default)]) (us := [(ls.getD ((ls.length : Int) - 1).toNat default)]) (v := (.agg [(ls.getD ((ls.length : Int) - 1).toNat default)].toArray)) sz26 rfl rfl rfl (yO ee) ab.pins a8 (dZ rfl) rfl (fun fn ef eg bf fo => ?_)))
 have eh := ab.write eg bf ((zY bj))
 have ei := a7.keptA bf h.symm
 have ej := bz.kept bf (fun k hk o u => by cases hk; exact a8.free o u)
 refine qe (zA ?_)
 refine wp_ret (zO (qE (cs := [(ls.getD ((ls.length : Int) - 1).toNat default)]) rfl rfl rfl ag26 sz26 (fun j u hj => by rw [Nat.zero_add]; exact ef.cell hj) ?_))
 obtain ⟨g, hgq, htk⟩ := ej (ls.getD ((ls.length : Int) - 1).toNat default) (zZ (by omega))
 obtain ⟨G2, bc, bd, be⟩ := htk.give hP eh
 have hw := hkl.w (by omega) hgq
 exact ⟨_, g, _, _, G2, rfl, bc, hkl.is g hgq, (by omega), ei.anti be, (by omega), (by omega), bd⟩
end DR2
end Go.Proofs.YtjdchbdfohiaaaaGreatDoor
namespace Go.Proofs.YtjdchbdfohiaaaaGreatDoor
namespace DV1
open Go.RowKit Go.GL Go.Proofs
open B1 C1 D1 E1 MK1 DR1 DR2
theorem pl69 : (Tryz.prog.underlying 69).bind (placesD Tryz.prog) = some [(0, 1), (1, 1)] := by kernel_rfl
variable {G : Pin}
theorem sZ {w : World} {v : Value} {xs : List Int} (hP : Pins G w) (hv : RSl eInt G v xs) (hs : xs.length ≤ 1048576) :
  Calls Tryz.prog 59 [v].toArray w fun e w' => ∃ (u : Value) (G' : Pin), e = .returned u ∧ Own eInt 3 G' w' w.heap.size u xs ∧ Ext noS G w G' w' := by
 refine zU (n := 6) Tryz.func59 Tryz.ntmps59 rfl rfl ?_
 have b := exr noS hP
 refine zB (zC ?_)
 refine qM (.slice none 0 0) ?_
 refine qe (zA (zB (zC ?_)))
 refine qI rfl (xC (E := eInt) (e := 3) dB sz3 b.pins (fun c g h i j p => ?_))
 have a := b.step i j
 have d := h.weaken b.size
 refine qM v ?_
 refine qI rfl (gT (E := eInt) (v := c) (u := v) 8 dB ap3 (by decide) rfl rfl a.pins d ((hv.mono (Pin.le_refl _)).src a.pins (by decide)) (by first | omega | (rw [List.nil_append]; omega) | (rw [List.length_nil]; omega) | (rw [List.length_append]; omega) | (simp; done) | (simp; omega) | (simp only [List.length_cons, List.length_nil]; omega) | (simp only [List.length_append, List.length_cons, List.length_nil]; omega)) (by first | omega | (rw [List.nil_append]; omega) | (rw [List.length_nil]; omega) | (rw [List.length_append]; omega) | (simp; done) | (simp; omega) | (simp only [List.length_cons, List.length_nil]; omega) | (simp only [List.length_append, List.length_cons, List.length_nil]; omega)) (a.size) (fun f q k l m r => ?_))
 have o := a.write l m ((yH d))
 have s := la2 ([]) xs
 refine qM f ?_
 refine qe (zA ?_)
 exact wp_ret (zO (zQ (v := f) rfl rfl rfl (⟨_, _, rfl, (by simpa using k), o⟩)))
theorem anyForm_spec {w : World} {c : Nat} {cv : Value} {code : List UInt8} {a s : Int} {n : Int} (hP : Pins G w) (hB : Bx G w c [cv, .int .i64 a, .int .u64 s]) (hc : RSl eByte G cv code) (ha : 0 ≤ a ∧ a + (12 * n + 10) ≤ 1000000) (hs : 0 ≤ s ∧ s < 18446744073709551616) (hn : 0 ≤ n ∧ n ≤ 6) :
  Calls Tryz.prog 28 [(vP c), (vJ n)].toArray w fun e w' => ∃ (u : Value) (ns : List Nd) (a' s' : Int) (G' : Pin), e = .returned (.agg [u].toArray) ∧ RSl eNode G' u ns ∧ Bx G' w' c [cv, .int .i64 a', .int .u64 s'] ∧ (a ≤ a' ∧ a' ≤ a + (12 * n + 10)) ∧ (0 ≤ s' ∧ s' < 18446744073709551616) ∧ Ext (inO (some c)) G w G' w' := by
 refine zU (n := 77) Tryz.func28 Tryz.ntmps28 rfl rfl ?_
 have cg := exr (inO (some c)) hP
 have hm := hc.max
 refine zB (zC ?_)
 refine qI rfl (yM [vN] zr26 rfl cg.pins (fun b1 w2 ga dq gb dr => ?_))
 have ch := cg.step gb dr
 have ds := hB.below dr
 have y := zH (congrArg some ga) hB.lt
 have au : w.heap.size ≤ b1 := by have := cg.size; omega
 refine qe (zA (zB (zC ?_)))
 refine qM (vP c) ?_
 refine qM (vJ n) ?_
 refine qI rfl (zF (vs := [(vP c), (vJ n)]) Tryz.func58 nm58 rfl rfl rfl ?_)
 refine dY (dform_spec (n := n) ch.pins ds hc (by omega) (by omega) (by omega)) ?_
 rintro _ gc ⟨b, f, np, nq, bh, rfl, ci, dt, nr, du, nt, nu, av⟩
 refine ⟨_, rfl, ?_⟩
 have cj := ch.trans av (fun i hi => yV i hi)
 have dv := dq.extS av (xO y)
 have g := yF ci.lt ds.lt
 have aa := yF ci.lt dq.lt
 have dw := ci.weaken ch.size
 have nv := dt.1.lo
 refine qI rfl (yM [vN] zr26 rfl cj.pins (fun bi nw ck gd ge bj => ?_))
 have dx := cj.step ge bj
 have dy := dw.below bj
 have gf := du.below bj
 have gg := dv.below bj
 have ag := zG (congrArg some ck) dw.lt
 have ak := zH (congrArg some ck) du.lt
 have cl := zH (congrArg some ck) dv.lt
 have cm : w.heap.size ≤ bi := by have := cj.size; omega
 refine q0 rfl rfl rfl (o_stp (cs' := [b]) (us := [b]) (v := (.agg [b].toArray)) sz26 rfl rfl rfl (yO dy.one) dx.pins gd (dZ rfl) rfl (fun nx dz gh bk ny => ?_))
 have d0 := dx.write gh bk ((zY cm))
 have d1 := dy.keptA bk ag.symm
 have gi := gf.keptA bk ak.symm
 have gj := gg.keptA bk cl.symm
 refine qe (zA (zB (zC ?_)))
 refine qM (vP c) ?_
 refine qD rfl (zK (k := 0) rfl dE rfl nz24 rfl) (qD rfl (zL (u := b) ag24 rfl (dz.cell (o := 0) rfl)) (qD rfl (zP dC (v := b) rfl d1.read) (qI rfl (zF (vs := [(vP c), (vJ ((formG f).length : Int))]) Tryz.func29 nm29 rfl rfl rfl ?_))))
 refine dY (jA d0.pins gi (hc.mono av.le) (by omega) (by omega) (n := ((formG f).length : Int)) (by omega)) ?_
 rintro _ nz ⟨d, n0, n1, rfl, n2, gk, n3, n4, bl⟩
 refine ⟨_, rfl, ?_⟩
 have d2 := d0.trans bl (fun i hi => yV i hi)
 have gl := d1.extS bl (notO g)
 have gm := gj.extS bl (xO y)
 have gn := dz.extS bl (xO ak)
 refine qM (vJ d) ?_
 refine qe (zA (zB (zB (zC ?_))))
 refine qM (vP c) ?_
 refine qI rfl (zF (vs := [(vP c), (vJ 24)]) Tryz.func29 nm29 rfl rfl rfl ?_)
 refine dY (jA d2.pins gk (hc.mono av.le) (by omega) (by omega) (n := 24) (by omega)) ?_
 rintro _ bm ⟨ah, n5, n6, rfl, n7, al, n8, n9, bn⟩
 refine ⟨_, rfl, ?_⟩
 have q := d2.trans bn (fun i hi => yV i hi)
 have t := gl.extS bn (notO g)
 have am := gm.extS bn (xO y)
 have ab := gn.extS bn (xO ak)
 refine qe (zA ?_)
 refine zW (zB (zC ?_))
 refine qD rfl (xU rfl rfl) (qM (.bool (decide ((ah : Int) = 0))) ?_)
 refine qe (zA ?_)
 refine yC (p := (ah : Int) = 0) rfl rfl (fun gp => ?_) (fun gp => ?_)
 have hlk := (tN dt (by omega)).lens (d).toNat (by omega)
 have gq := Gadd.pins q.pins b
 have aw := t.read
 refine yZ (S := fun wz => BxR wz bi [b] ∧ Pins (Gadd bh bm b) wz) (last := 18) (by kernel_rfl) rfl ?_
 have an := bdr bm
 have gr := q.pins.below an
 have ax := q.step gr an
 have bo := t.below an
 have bp := al.below an
 have bq := am.below an
 have m := ab.below an
 have x := gq.below an
 refine dT (i := 0) rfl rfl (by kernel_rfl) (fun _ _ => zK (k := 0) rfl dE rfl nz24 rfl) ⟨m.reads, x⟩ ?_
 refine dT (i := 1) rfl rfl (by kernel_rfl) (fun _ hS => zL (u := b) ag24 rfl (hS.1 0 _ rfl)) ⟨m.reads, x⟩ ?_
 refine dT (i := 2) rfl rfl (by kernel_rfl) (fun _ _ => zR (v := (vJ d)) rfl) ⟨m.reads, x⟩ ?_
 refine dT (i := 3) rfl rfl (by kernel_rfl) (fun _ _ => zK (k := 0) rfl dE rfl nz24 rfl) ⟨m.reads, x⟩ ?_
 refine dT (i := 4) rfl rfl (by kernel_rfl) (fun _ hS => zL (u := b) ag24 rfl (hS.1 0 _ rfl)) ⟨m.reads, x⟩ ?_
 refine dT (i := 5) rfl rfl (by kernel_rfl) (fun _ _ => zR (v := (vJ d)) rfl) ⟨m.reads, x⟩ ?_
 refine dT (i := 6) rfl rfl (by kernel_rfl) (fun _ _ => zJ dC sz69 (v := b) rfl rfl aw (by omega) (by omega)) ⟨m.reads, x⟩ ?_
 refine dT (i := 7) rfl rfl (by kernel_rfl) (fun _ _ => xF (off := 0) dF rfl rfl nz48 (z := d) (k := 0) rfl aw (by omega) (by omega)) ⟨m.reads, x⟩ ?_
 obtain ⟨d3, cn, gs⟩ := kA (t.at (z := d) (by omega) (by omega)) (j := (d).toNat) rfl
 have oa := cn.max
 refine dT (i := 8) rfl rfl (by kernel_rfl) (fun _ hS => gs ag48 rfl hS.2) ⟨m.reads, x⟩ ?_
 refine dT (i := 10) rfl rfl (by kernel_rfl) (fun _ _ => zR (v := (vP c)) rfl) ⟨m.reads, x⟩ ?_
 refine dT (i := 11) rfl rfl (by kernel_rfl) (fun _ _ => zR (v := (vJ d)) rfl) ⟨m.reads, x⟩ ?_
 refine jJ (i := 9) (j := 12) (by kernel_rfl) ?_ ?_
 refine (zS (i := 9) rfl rfl rfl (zD rfl _) (zF (vs := [d3]) Tryz.func59 nm59 rfl rfl rfl ?_))
 refine dY (sZ ax.pins cn (by omega)) ?_
 rintro _ gt ⟨d4, d5, rfl, a4, ae⟩
 refine ⟨_, rfl, ?_⟩
 have co := ax.tr ae
 have d6 := bo.ext ae
 have d7 := bp.ext ae
 have d8 := bq.ext ae
 have cp := m.ext ae
 have cq := yB a4.lt bo.lt
 have cr := yF a4.lt bp.lt
 have d9 := yF a4.lt bq.lt
 have ea := yF a4.lt m.lt
 have eb := a4.weaken ax.size
 have ec := x.below ae.below
 refine ⟨fun _ => ⟨cp.reads, ec⟩, ?_⟩
 refine dO (i := 12) (zS (i := 12) rfl rfl rfl (zD rfl _) (yG (E := eInt) (e := 3) [(vJ 0), (vJ d), (vJ (-1)), (vJ 1)] [0, d, (-1), 1] dB sz3 zr3 (by exact reps4 (by rfl) (by rfl) (by rfl) (by rfl)) (ones4 (by rfl) (by rfl) (by rfl) (by rfl)) rfl rfl rfl rfl (by decide) co.pins (fun ed gu gv gw ao a5 => ?_)))
 have gx := co.step gw ao
 have gy := d6.below ao
 have gz := eb.below ao
 have g0 := d7.below ao
 have g1 := d8.below ao
 have ee := cp.below ao
 have g2 := zG a5 d6.lt
 have g3 := zG a5 eb.lt
 have g4 := zH a5 d7.lt
 have g5 := zH a5 d8.lt
 have g6 := zH a5 cp.lt
 have g7 := gv.weaken co.size
 have ef := ec.below ao
 refine ⟨fun _ => ⟨ee.reads, ef⟩, ?_⟩
 obtain ⟨g8, a6, eg, g9, a7⟩ := g7.sealed gx
 have hb := gy.moreO a6 a7 g2.symm
 have hd := gz.moreO a6 a7 g3.symm
 have he := g0.moreO a7 g4.symm
 have hf := g1.moreO a7 g5.symm
 have hg := ee.moreO a7 g6.symm
 refine dO (i := 13) (zS (i := 13) rfl rfl rfl (zD rfl _) (zF (vs := [(vP c), ed]) Tryz.func31 nm31 rfl rfl rfl ?_))
 refine dY (vT eg.pins he (hc.mono (dW (dW av.le ae.le) a6)) (by omega) (by omega) g9 (by simp)) ?_
 rintro _ ob ⟨br, oc, od, rfl, oe, hh, og, oh, ay⟩
 refine ⟨_, rfl, ?_⟩
 have bs := eg.trans ay (fun i hi => yV i hi)
 have hk := hb.extS ay (notO g)
 have hl := hd.extS ay (notO cr)
 have ho := hf.extS ay (xO y)
 have eh := hg.extS ay (xO ak)
 have ei := Gadd.turn ef (dX bs.pins (dW ae.le a6)) ay (notO g)
 refine ⟨fun _ => ⟨eh.reads, ei⟩, ?_⟩
 refine dO (i := 14) (zS (i := 14) rfl rfl rfl (zD rfl _) (yG (E := eInt) (e := 3) [(vJ br)] [br] dB sz3 zr3 (by exact xK (by rfl)) (yO (by rfl)) rfl rfl rfl rfl (by decide) bs.pins (fun ej hp hq hr ap oi => ?_)))
 have ct := bs.step hr ap
 have ek := hk.below ap
 have el := hl.below ap
 have em := hh.below ap
 have en := ho.below ap
 have cu := eh.below ap
 have ht := hq.weaken bs.size
 have eo := ei.below ap
 refine ⟨fun _ => ⟨cu.reads, eo⟩, ?_⟩
 refine dO (i := 15) (zS (i := 15) rfl rfl rfl (zD rfl _) (gT (E := eInt) (v := d4) (u := ej) 8 dB ap3 (by decide) rfl rfl ct.pins el ht.src (by first | omega | (rw [List.nil_append]; omega) | (rw [List.length_nil]; omega) | (rw [List.length_append]; omega) | (simp; done) | (simp; omega) | (simp only [List.length_cons, List.length_nil]; omega) | (simp only [List.length_append, List.length_cons, List.length_nil]; omega)) (by first | omega | (rw [List.nil_append]; omega) | (rw [List.length_nil]; omega) | (rw [List.length_append]; omega) | (simp; done) | (simp; omega) | (simp only [List.length_cons, List.length_nil]; omega) | (simp only [List.length_append, List.length_cons, List.length_nil]; omega)) (ct.size) (fun hu oj hv ep az bt => ?_)))
 have eq := ct.write ep az ((yH el))
 have hw := ek.keptA az cq.symm
 have hx := em.keptA az cr.symm
 have hy := en.keptA az d9.symm
 have bu := cu.keptA az ea.symm
 have hz := zE cq.symm bt ek.lt
 have h0 := zN cr.symm bt em.lt
 have h1 := zN d9.symm bt en.lt
 have h2 := zN ea.symm bt cu.lt
 have ok := la1 (((formG f).getD (d).toNat default).l) br
 have cw := Gadd.turn eo (dX eq.pins (dW ae.le a6)) (Ext.one ep az) (notO cq.symm)
 refine ⟨fun _ => ⟨bu.reads, cw⟩, ?_⟩
 refine dO (i := 16) (zS (i := 16) rfl rfl rfl (zD rfl _) (EO.run (zJ dC sz69 (v := b) rfl rfl aw (by omega) (by omega)) ⟨fun _ => ⟨bu.reads, cw⟩, ?_⟩))
 refine dT (i := 17) rfl rfl (by kernel_rfl) (fun _ _ => xF (off := 0) dF rfl rfl nz48 (z := d) (k := 0) rfl aw (by omega) (by omega)) ⟨bu.reads, cw⟩ ?_
 obtain ⟨ol, h3, er, h4, bv⟩ := hv.sealed eq
 have es := hw.moreO h3 bv hz
 have h5 := hx.moreO bv h0
 have h6 := hy.moreO bv h1
 have h7 := bu.moreO bv h2
 refine dO (i := 18) (jB (i := 18) rfl rfl rfl (zD rfl _) (o_setNL (v := b) (z := d) (u := hu) sz48 rfl rfl h4 er.pins es (by omega) (by omega) (fun om et h8 bw oo => ?_)))
 have eu := er.write h8 bw ((yH es))
 have h9 := h5.keptA bw g.symm
 have ia := h6.keptA bw aa.symm
 have ib := h7.keptA bw ag
 refine ⟨fun h => absurd rfl h, ?_⟩
 refine yP (by kernel_rfl) (yA (zA (zB (zC ?_))))
 refine qD rfl (zT (cs := [b]) ag26 sz26 rfl (fun j u hj => ib.cell (by simpa using hj))) (q0 rfl rfl rfl (o_stp (cs' := [b]) (us := [b]) (v := (.agg [b].toArray)) sz26 rfl rfl rfl (yO et.one) eu.pins ia (dZ rfl) rfl (fun op ic ie cx oq => ?_)))
 have ig := eu.write ie cx ((zY au))
 have ih := et.keptA cx aa
 have ii := h9.keptA cx y.symm
 refine qe (zA ?_)
 refine wp_ret (zO (qE (cs := [b]) rfl rfl rfl ag26 sz26 (fun j u hj => by rw [Nat.zero_add]; exact ic.cell hj) ?_))
 obtain ⟨os, ot, ij, ik, il⟩ := ih.sealed ig
 have im := ii.moreO il g.symm
 exact ⟨_, _, _, _, _, rfl, ik, im, (by omega), (by omega), ij⟩
 refine (zS (i := 12) rfl rfl rfl (zD rfl _) (yG (E := eInt) (e := 3) [(vJ 0), (vJ d), (vJ (-1)), (vJ 1)] [0, d, (-1), 1] dB sz3 zr3 (by exact reps4 (by rfl) (by rfl) (by rfl) (by rfl)) (ones4 (by rfl) (by rfl) (by rfl) (by rfl)) rfl rfl rfl rfl (by decide) ax.pins (fun ev io ip iq a0 bx => ?_)))
 have cy := ax.step iq a0
 have ew := bo.below a0
 have ex := bp.below a0
 have ey := bq.below a0
 have cz := m.below a0
 have ir := zG bx bo.lt
 have it := zH bx bp.lt
 have iu := zH bx bq.lt
 have iv := zH bx m.lt
 have ez := ip.weaken ax.size
 have e0 := x.below a0
 refine ⟨fun _ => ⟨cz.reads, e0⟩, ?_⟩
 refine dO (i := 9) (zS (i := 9) rfl rfl rfl (zD rfl _) (zF (vs := [d3]) Tryz.func59 nm59 rfl rfl rfl ?_))
 refine dY (sZ cy.pins cn (by omega)) ?_
 rintro _ iw ⟨e1, ix, rfl, a1, ad⟩
 refine ⟨_, rfl, ?_⟩
 have iy := cy.tr ad
 have iz := ew.ext ad
 have i0 := ez.ext ad
 have i1 := ex.ext ad
 have i2 := ey.ext ad
 have e2 := cz.ext ad
 have c0 := yB a1.lt ew.lt
 have i3 := yB a1.lt ez.lt
 have c1 := yF a1.lt ex.lt
 have e3 := yF a1.lt ey.lt
 have e4 := yF a1.lt cz.lt
 have i4 := a1.weaken cy.size
 have e5 := e0.below ad.below
 refine ⟨fun _ => ⟨e2.reads, e5⟩, ?_⟩
 obtain ⟨i5, a8, e6, i6, a9⟩ := i0.sealed iy
 have i7 := iz.moreO a8 a9 ir.symm
 have i8 := i4.moreO a8 a9 i3
 have i9 := i1.moreO a9 it.symm
 have ja := i2.moreO a9 iu.symm
 have jb := e2.moreO a9 iv.symm
 refine dO (i := 13) (zS (i := 13) rfl rfl rfl (zD rfl _) (zF (vs := [(vP c), ev]) Tryz.func31 nm31 rfl rfl rfl ?_))
 refine dY (vT e6.pins i9 (hc.mono (dW (dW av.le ad.le) a8)) (by omega) (by omega) i6 (by simp)) ?_
 rintro _ ou ⟨bz, ov, ow, rfl, ox, jc, oy, oz, a2⟩
 refine ⟨_, rfl, ?_⟩
 have b0 := e6.trans a2 (fun i hi => yV i hi)
 have jd := i7.extS a2 (notO g)
 have je := i8.extS a2 (notO c1)
 have jf := ja.extS a2 (xO y)
 have e7 := jb.extS a2 (xO ak)
 have e8 := Gadd.turn e5 (dX b0.pins (dW ad.le a8)) a2 (notO g)
 refine ⟨fun _ => ⟨e7.reads, e8⟩, ?_⟩
 refine dO (i := 14) (zS (i := 14) rfl rfl rfl (zD rfl _) (yG (E := eInt) (e := 3) [(vJ bz)] [bz] dB sz3 zr3 (by exact xK (by rfl)) (yO (by rfl)) rfl rfl rfl rfl (by decide) b0.pins (fun e9 jg jh ji aq o0 => ?_)))
 have c2 := b0.step ji aq
 have fa := jd.below aq
 have fb := je.below aq
 have fc := jc.below aq
 have fd := jf.below aq
 have c3 := e7.below aq
 have jj := jh.weaken b0.size
 have fe := e8.below aq
 refine ⟨fun _ => ⟨c3.reads, fe⟩, ?_⟩
 refine dO (i := 15) (zS (i := 15) rfl rfl rfl (zD rfl _) (gT (E := eInt) (v := e1) (u := e9) 8 dB ap3 (by decide) rfl rfl c2.pins fb jj.src (by first | omega | (rw [List.nil_append]; omega) | (rw [List.length_nil]; omega) | (rw [List.length_append]; omega) | (simp; done) | (simp; omega) | (simp only [List.length_cons, List.length_nil]; omega) | (simp only [List.length_append, List.length_cons, List.length_nil]; omega)) (by first | omega | (rw [List.nil_append]; omega) | (rw [List.length_nil]; omega) | (rw [List.length_append]; omega) | (simp; done) | (simp; omega) | (simp only [List.length_cons, List.length_nil]; omega) | (simp only [List.length_append, List.length_cons, List.length_nil]; omega)) (c2.size) (fun jk o1 jl ff a3 b2 => ?_)))
 have fg := c2.write ff a3 ((yH fb))
 have jm := fa.keptA a3 c0.symm
 have jn := fc.keptA a3 c1.symm
 have jo := fd.keptA a3 e3.symm
 have b3 := c3.keptA a3 e4.symm
 have jp := zE c0.symm b2 fa.lt
 have jq := zN c1.symm b2 fc.lt
 have jr := zN e3.symm b2 fd.lt
 have js := zN e4.symm b2 c3.lt
 have o2 := la1 (((formG f).getD (d).toNat default).l) bz
 have c4 := Gadd.turn fe (dX fg.pins (dW ad.le a8)) (Ext.one ff a3) (notO c0.symm)
 refine ⟨fun _ => ⟨b3.reads, c4⟩, ?_⟩
 refine dO (i := 16) (zS (i := 16) rfl rfl rfl (zD rfl _) (EO.run (zJ dC sz69 (v := b) rfl rfl aw (by omega) (by omega)) ⟨fun _ => ⟨b3.reads, c4⟩, ?_⟩))
 refine dT (i := 17) rfl rfl (by kernel_rfl) (fun _ _ => xF (off := 0) dF rfl rfl nz48 (z := d) (k := 0) rfl aw (by omega) (by omega)) ⟨b3.reads, c4⟩ ?_
 obtain ⟨o3, jt, fh, ju, b4⟩ := jl.sealed fg
 have fi := jm.moreO jt b4 jp
 have jv := jn.moreO b4 jq
 have jw := jo.moreO b4 jr
 have jx := b3.moreO b4 js
 refine dO (i := 18) (jB (i := 18) rfl rfl rfl (zD rfl _) (o_setNL (v := b) (z := d) (u := jk) sz48 rfl rfl ju fh.pins fi (by omega) (by omega) (fun o4 fj jy b5 o5 => ?_)))
 have fk := fh.write jy b5 ((yH fi))
 have jz := jv.keptA b5 g.symm
 have j0 := jw.keptA b5 aa.symm
 have j1 := jx.keptA b5 ag
 refine ⟨fun h => absurd rfl h, ?_⟩
 refine yP (by kernel_rfl) (yA (zA (zB (zC ?_))))
 refine qD rfl (zT (cs := [b]) ag26 sz26 rfl (fun j u hj => j1.cell (by simpa using hj))) (q0 rfl rfl rfl (o_stp (cs' := [b]) (us := [b]) (v := (.agg [b].toArray)) sz26 rfl rfl rfl (yO fj.one) fk.pins j0 (dZ rfl) rfl (fun o6 j2 j3 c5 o7 => ?_)))
 have j4 := fk.write j3 c5 ((zY au))
 have j5 := fj.keptA c5 aa
 have j6 := jz.keptA c5 y.symm
 refine qe (zA ?_)
 refine wp_ret (zO (qE (cs := [b]) rfl rfl rfl ag26 sz26 (fun j u hj => by rw [Nat.zero_add]; exact j2.cell hj) ?_))
 obtain ⟨o8, o9, j7, j8, j9⟩ := j5.sealed j4
 have ka := j6.moreO j9 g.symm
 exact ⟨_, _, _, _, _, rfl, j8, ka, (by omega), (by omega), j7⟩
 refine zB (zC ?_)
 refine qD rfl (xU rfl rfl) (qM (.bool (decide ((ah : Int) = 1))) ?_)
 refine qe (zA ?_)
 refine yC (p := (ah : Int) = 1) rfl rfl (fun kb => ?_) (fun kb => ?_)
 refine zC (qD rfl (zK (k := 0) rfl dE rfl nz24 rfl) (qD rfl (zL (u := b) ag24 rfl (ab.cell (o := 0) rfl)) (qI rfl (yG (E := eInt) (e := 3) [(vJ 0)] [0] dB sz3 zr3 (by exact xK (by rfl)) (yO (by rfl)) rfl rfl rfl rfl (by decide) q.pins (fun ba kc kd ke bb b6 => ?_)))))
 have kf := q.step ke bb
 have kg := t.below bb
 have kh := al.below bb
 have ki := am.below bb
 have kj := ab.below bb
 have kk := zG b6 t.lt
 have kl := zH b6 al.lt
 have km := zH b6 am.lt
 have kn := zH b6 ab.lt
 have fl := kd.weaken q.size
 refine qD rfl (xB [vN, vN] [vN, ba] [(1, ba, [ba])] dF zr69 rfl pl69 rfl (List.forall_mem_cons.2 ⟨(xM fl.one), (fun _ h => by cases h)⟩) rfl) ?_
 obtain ⟨ko, kp, c6, kq, b7⟩ := fl.sealed kf
 have kr := kg.moreO kp b7 kk.symm
 have ks := kh.moreO b7 kl.symm
 have kt := ki.moreO b7 km.symm
 have ku := kj.moreO b7 kn.symm
 refine qI rfl (xT (E := eNode) (e := 69) [vN, ba] (⟨[], [0]⟩ : Nd) dC sz69 zr69 ⟨_, _, rfl, (xP _ _), kq⟩ rfl (by decide) c6.pins (fun fm kv kw kx bc pa => ?_))
 have c7 := c6.step kx bc
 have fn := kr.below bc
 have fo := ks.below bc
 have fp := kt.below bc
 have fq := ku.below bc
 have ky := kw.weaken c6.size
 refine qI rfl (gT (E := eNode) (v := b) (u := fm) 48 dC ap69 (by decide) rfl rfl c7.pins fn ky.src (by first | omega | (rw [List.nil_append]; omega) | (rw [List.length_nil]; omega) | (rw [List.length_append]; omega) | (simp; done) | (simp; omega) | (simp only [List.length_cons, List.length_nil]; omega) | (simp only [List.length_append, List.length_cons, List.length_nil]; omega)) (by first | omega | (rw [List.nil_append]; omega) | (rw [List.length_nil]; omega) | (rw [List.length_append]; omega) | (simp; done) | (simp; omega) | (simp only [List.length_cons, List.length_nil]; omega) | (simp only [List.length_append, List.length_cons, List.length_nil]; omega)) (c7.size) (fun ai pb c8 kz b8 c9 => ?_))
 have fr := c7.write kz b8 ((yH fn))
 have k0 := fo.keptA b8 g.symm
 have k1 := fp.keptA b8 aa.symm
 have k2 := fq.keptA b8 ag
 have k3 := zN g.symm c9 fo.lt
 have k4 := zN aa.symm c9 fp.lt
 have k5 := zN ag c9 fq.lt
 have pc := la1 (formG f) (⟨[], [0]⟩ : Nd)
 refine qD rfl (zK (k := 0) rfl dE rfl nz24 rfl) (q0 rfl rfl rfl (o_stp (cs' := [ai]) (us := [ai]) (v := ai) sz24 rfl rfl (tD c8.one) (yO c8.one) fr.pins k2 (dZ rfl) rfl (fun pd k6 k7 b9 pe => ?_)))
 have fs := fr.write k7 b9 ((zY cm))
 have ft := c8.keptA b9 k5.symm
 have k8 := k0.keptA b9 ak.symm
 have k9 := k1.keptA b9 cl.symm
 refine qe (yA (zA (zB (zC ?_))))
 refine qD rfl (zT (cs := [ai]) ag26 sz26 rfl (fun j u hj => k6.cell (by simpa using hj))) (q0 rfl rfl rfl (o_stp (cs' := [ai]) (us := [ai]) (v := (.agg [ai].toArray)) sz26 rfl rfl rfl (yO ft.one) fs.pins k9 (dZ rfl) rfl (fun pf la lb da pg => ?_)))
 have lc := fs.write lb da ((zY au))
 have ld := ft.keptA da k4.symm
 have lf := k8.keptA da y.symm
 refine qe (zA ?_)
 refine wp_ret (zO (qE (cs := [ai]) rfl rfl rfl ag26 sz26 (fun j u hj => by rw [Nat.zero_add]; exact la.cell hj) ?_))
 obtain ⟨ph, pi, lg, lh, li⟩ := ld.sealed lc
 have lj := lf.moreO li k3
 exact ⟨_, _, _, _, _, rfl, lh, lj, (by omega), (by omega), lg⟩
 refine zB (zC ?_)
 refine qD rfl (xU rfl rfl) (qM (.bool (decide ((ah : Int) = 2))) ?_)
 refine qe (zA ?_)
 refine yC (p := (ah : Int) = 2) rfl rfl (fun lk => ?_) (fun lk => ?_)
 refine zC (qD rfl (zK (k := 0) rfl dE rfl nz24 rfl) (qD rfl (zL (u := b) ag24 rfl (ab.cell (o := 0) rfl)) (qD rfl (zK (k := 0) rfl dE rfl nz24 rfl) (qD rfl (zL (u := b) ag24 rfl (ab.cell (o := 0) rfl)) (qD rfl (zP dC (v := b) rfl t.read) (qD rfl (qC rfl rfl (by omega)) ?_))))))
 obtain ⟨ac, db, dc, ll⟩ := own_cut t ((((formG f).length : Int) - 1).toNat) (((formG f).length : Int) - 1) (by omega) rfl (by omega) (by omega)
 have lm : Apart ac.ownBlock (some c) := by rw [dc]; exact g
 have ln : Apart ac.ownBlock (some b1) := by rw [dc]; exact aa
 have lp : Apart (some bi) ac.ownBlock := by rw [dc]; exact ag
 refine qD rfl (ll dC sz69 rfl rfl rfl) (qD rfl (zK (k := 0) rfl dE rfl nz24 rfl) (q0 rfl rfl rfl (o_stp (cs' := [ac]) (us := [ac]) (v := ac) sz24 rfl rfl (tD db.one) (yO db.one) q.pins ab (dZ rfl) rfl (fun pj lq lr ca pk => ?_))))
 have fu := q.write lr ca ((zY cm))
 have fv := db.keptA ca lp.symm
 have ls := al.keptA ca ak.symm
 have lu := am.keptA ca cl.symm
 refine qe (yA (zA (zB (zC ?_))))
 refine qD rfl (zT (cs := [ac]) ag26 sz26 rfl (fun j u hj => lq.cell (by simpa using hj))) (q0 rfl rfl rfl (o_stp (cs' := [ac]) (us := [ac]) (v := (.agg [ac].toArray)) sz26 rfl rfl rfl (yO fv.one) fu.pins lu (dZ rfl) rfl (fun pl lv lw dd pm => ?_)))
 have lx := fu.write lw dd ((zY au))
 have ly := fv.keptA dd ln
 have lz := ls.keptA dd y.symm
 refine qe (zA ?_)
 refine wp_ret (zO (qE (cs := [ac]) rfl rfl rfl ag26 sz26 (fun j u hj => by rw [Nat.zero_add]; exact lv.cell hj) ?_))
 obtain ⟨pn, po, l0, l1, l2⟩ := ly.sealed lx
 have l3 := lz.moreO l2 lm.symm
 exact ⟨_, _, _, _, _, rfl, l1, l3, (by omega), (by omega), l0⟩
 refine zB (zC ?_)
 refine qD rfl (xU rfl rfl) (qM (.bool (decide ((ah : Int) = 3))) ?_)
 refine qe (zA ?_)
 refine yC (p := (ah : Int) = 3) rfl rfl (fun l4 => ?_) (fun l4 => ?_)
 refine zB (zC ?_)
 refine qD rfl (zK (k := 0) rfl dE rfl nz24 rfl) (qD rfl (zL (u := b) ag24 rfl (ab.cell (o := 0) rfl)) (qD rfl (zJ dC sz69 (v := b) rfl rfl t.read (by omega) (by omega)) ?_))
 obtain ⟨bd, be, de, df, l5⟩ := vW (t.at (z := 0) (by omega) (by omega)) (j := 0) rfl
 have pp := de.max
 have pq := df.max
 refine qD rfl (l5 ag69 sz69 rfl (Gadd.pins q.pins b)) (qI rfl (yM [vN, vN] zr69 rfl q.pins (fun l6 pr cb l7 l8 bf => ?_)))
 have fw := q.step l8 bf
 have l9 := t.below bf
 have ma := al.below bf
 have mb := am.below bf
 have mc := ab.below bf
 have fx := zG (congrArg some cb) t.lt
 have fy := zH (congrArg some cb) al.lt
 have fz := zH (congrArg some cb) am.lt
 have f0 := zH (congrArg some cb) ab.lt
 have f1 : w.heap.size ≤ l6 := by have := q.size; omega
 refine q0 rfl rfl rfl (o_stp (cs' := [bd, be]) (us := [bd, be]) (v := (.agg [bd, be].toArray)) sz69 rfl rfl rfl (xG de.one df.one) fw.pins l7 (dZ rfl) rfl (fun cc md me bg ps => ?_))
 have mf := fw.write me bg ((zY f1))
 have mg := l9.keptA bg fx.symm
 have mh := ma.keptA bg fy.symm
 have mi := mb.keptA bg fz.symm
 have mj := mc.keptA bg f0.symm
 obtain ⟨dg, dh, di, mk, cd⟩ := md.shut mf f1
 have dj := mg.moreA dh cd fx.symm
 have ml := mh.moreA cd fy.symm
 have mm := mi.moreA cd fz.symm
 have mn := mj.moreA cd f0.symm
 refine qe (zA (zB ?_))
 have mo := Gadd.pins di.pins b
 have f2 := dj.read
 refine yZ (S := fun wz => BxR wz bi [b] ∧ Pins (Gadd dg cc b) wz) (last := 8) (by kernel_rfl) rfl ?_
 have ar := bdr cc
 have mp := di.pins.below ar
 have f3 := di.step mp ar
 have f4 := dj.below ar
 have mq := ml.below ar
 have mr := mm.below ar
 have af := mn.below ar
 have aj := mo.below ar
 refine dT (i := 0) rfl rfl (by kernel_rfl) (fun _ _ => zK (k := 0) rfl dE rfl nz24 rfl) ⟨af.reads, aj⟩ ?_
 refine dT (i := 1) rfl rfl (by kernel_rfl) (fun _ hS => zL (u := b) ag24 rfl (hS.1 0 _ rfl)) ⟨af.reads, aj⟩ ?_
 refine dT (i := 2) rfl rfl (by kernel_rfl) (fun _ _ => zK (k := 0) rfl dE rfl nz24 rfl) ⟨af.reads, aj⟩ ?_
 refine dT (i := 3) rfl rfl (by kernel_rfl) (fun _ hS => zL (u := b) ag24 rfl (hS.1 0 _ rfl)) ⟨af.reads, aj⟩ ?_
 refine dT (i := 4) rfl rfl (by kernel_rfl) (fun _ _ => zR (v := (vJ d)) rfl) ⟨af.reads, aj⟩ ?_
 refine dT (i := 5) rfl rfl (by kernel_rfl) (fun _ _ => zJ dC sz69 (v := b) rfl rfl f2 (by omega) (by omega)) ⟨af.reads, aj⟩ ?_
 obtain ⟨ms, mt, f5, f6, mu⟩ := vW (dj.at (z := d) (by omega) (by omega)) (j := (d).toNat) rfl
 have pt := f5.max
 have pu := f6.max
 refine dT (i := 6) rfl rfl (by kernel_rfl) (fun _ hS => mu ag69 sz69 rfl hS.2) ⟨af.reads, aj⟩ ?_
 refine dT (i := 7) rfl rfl (by kernel_rfl) (fun _ _ => zJ dC sz69 (v := b) rfl rfl f2 (by omega) (by omega)) ⟨af.reads, aj⟩ ?_
 refine dO (i := 8) (jB (i := 8) rfl rfl rfl (zD rfl _) (fD (E := eNode) (v := b) (u := (.agg [ms, mt].toArray)) (z := 0) ((⟨((formG f).getD (d).toNat default).l, ((formG f).getD (d).toNat default).r⟩ : Nd)) sz69 rfl rfl rfl ⟨_, _, rfl, f5, f6⟩ f3.pins f4 (by omega) (by omega) (fun mv mw mx ce pv => ?_)))
 have dk := f3.write mx ce ((yH f4))
 have my := mq.keptA ce g.symm
 have mz := mr.keptA ce aa.symm
 have f7 := af.keptA ce ag
 have dl : Own eNode 69 dg mv w.heap.size b ((formG f).set 0 (⟨((formG f).getD (d).toNat default).l, ((formG f).getD (d).toNat default).r⟩ : Nd)) := mw
 have pw : ((formG f).set 0 (⟨((formG f).getD (d).toNat default).l, ((formG f).getD (d).toNat default).r⟩ : Nd)).length = (formG f).length := List.length_set ..
 refine ⟨fun h => absurd rfl h, ?_⟩
 refine yP (by kernel_rfl) (zA (zC ?_))
 refine qD rfl (zK (k := 0) rfl dE rfl nz24 rfl) (qD rfl (zL (u := b) ag24 rfl (f7.cell (o := 0) rfl)) (qM (vJ d) ?_))
 refine qD rfl (zT (cs := [bd, be]) ag69 sz69 rfl (fun j u hj => dk.pins _ _ _ (mk _ _ (by simpa using hj)))) (qD rfl (zJ dC sz69 (v := b) rfl rfl dl.read (by omega) (by omega)) (q0 rfl rfl rfl (fD (E := eNode) (v := b) (u := (.agg [bd, be].toArray)) (z := d) ((⟨((formG f).getD 0 default).l, ((formG f).getD 0 default).r⟩ : Nd)) sz69 rfl rfl rfl ⟨_, _, rfl, (de.mono dh), (df.mono dh)⟩ dk.pins dl (by omega) (by omega) (fun m0 m1 m2 cf px => ?_))))
 have f8 := dk.write m2 cf ((yH dl))
 have m3 := my.keptA cf g.symm
 have m4 := mz.keptA cf aa.symm
 have m5 := f7.keptA cf ag
 have f9 : Own eNode 69 dg m0 w.heap.size b (((formG f).set 0 (⟨((formG f).getD (d).toNat default).l, ((formG f).getD (d).toNat default).r⟩ : Nd)).set (d).toNat (⟨((formG f).getD 0 default).l, ((formG f).getD 0 default).r⟩ : Nd)) := m1
 have py : (((formG f).set 0 (⟨((formG f).getD (d).toNat default).l, ((formG f).getD (d).toNat default).r⟩ : Nd)).set (d).toNat (⟨((formG f).getD 0 default).l, ((formG f).getD 0 default).r⟩ : Nd)).length = ((formG f).set 0 (⟨((formG f).getD (d).toNat default).l, ((formG f).getD (d).toNat default).r⟩ : Nd)).length := List.length_set ..
 refine qe (yA (zA (zB (zC ?_))))
 refine qD rfl (zT (cs := [b]) ag26 sz26 rfl (fun j u hj => m5.cell (by simpa using hj))) (q0 rfl rfl rfl (o_stp (cs' := [b]) (us := [b]) (v := (.agg [b].toArray)) sz26 rfl rfl rfl (yO f9.one) f8.pins m4 (dZ rfl) rfl (fun pz m6 m7 dm p0 => ?_)))
 have m8 := f8.write m7 dm ((zY au))
 have m9 := f9.keptA dm aa
 have na := m3.keptA dm y.symm
 refine qe (zA ?_)
 refine wp_ret (zO (qE (cs := [b]) rfl rfl rfl ag26 sz26 (fun j u hj => by rw [Nat.zero_add]; exact m6.cell hj) ?_))
 obtain ⟨p1, p2, nb, nc, nd⟩ := m9.sealed m8
 have ne := na.moreO nd g.symm
 exact ⟨_, _, _, _, _, rfl, nc, ne, (by omega), (by omega), nb⟩
 refine wp_skip (yA (zA (zB (zC ?_))))
 refine qD rfl (zT (cs := [b]) ag26 sz26 rfl (fun j u hj => ab.cell (by simpa using hj))) (q0 rfl rfl rfl (o_stp (cs' := [b]) (us := [b]) (v := (.agg [b].toArray)) sz26 rfl rfl rfl (yO t.one) q.pins am (dZ rfl) rfl (fun p3 nf ng dn p4 => ?_)))
 have nh := q.write ng dn ((zY au))
 have ni := t.keptA dn aa
 have nj := al.keptA dn y.symm
 refine qe (zA ?_)
 refine wp_ret (zO (qE (cs := [b]) rfl rfl rfl ag26 sz26 (fun j u hj => by rw [Nat.zero_add]; exact nf.cell hj) ?_))
 obtain ⟨p5, p6, nk, nl, nm⟩ := ni.sealed nh
 have nn := nj.moreO nm g.symm
 exact ⟨_, _, _, _, _, rfl, nl, nn, (by omega), (by omega), nk⟩
end DV1
end Go.Proofs.YtjdchbdfohiaaaaGreatDoor
namespace Go.Proofs.YtjdchbdfohiaaaaGreatDoor
namespace DV2
open Go.RowKit Go.GL Go.Proofs
open B1 C1 D1 E1 MK1 DR1 DR2 DV1
variable {G : Pin} {v : Value}
theorem vBig_spec {w : World} {code : List UInt8} (hP : Pins G w) (hc : RSl eByte G v code) :
  Calls Tryz.prog 4 [v].toArray w fun e w' => e = .returned (.bool (decide ((65536 : Int) < (code.length : Int)))) ∧ Ext noS G w G w' := by
 refine zU (n := 6) Tryz.func4 Tryz.ntmps4 rfl rfl ?_
 have hX0 := exr noS hP
 have hm := hc.max
 refine zB (zC ?_)
 refine qM (.bool false) ?_
 refine qe (zA (zB (zC ?_)))
 refine qM v ?_
 refine qD rfl (zP dN (v := v) rfl hc) (qD rfl (jO rfl rfl) (qM (.bool (decide ((65536 : Int) < (code.length : Int)))) ?_))
 refine qe (zA ?_)
 exact wp_ret (zO (zQ (v := (.bool (decide ((65536 : Int) < (code.length : Int))))) rfl rfl rfl (⟨rfl, hX0⟩)))
theorem GoodForm_spec {w : World} {ns : List Nd} (hP : Pins G w) (hv : RSl eNode G v ns) :
  Calls Tryz.prog 11 [(.agg [v].toArray)].toArray w fun e w' => ∃ G', e = .returned (.bool (goodB ns)) ∧ Ext noS G w G' w' := by
 refine zU (n := 5) Tryz.func11 Tryz.ntmps11 rfl rfl ?_
 have a := exr noS hP
 refine zB (zC ?_)
 refine qI rfl (xH [v] (v := (.agg [v].toArray)) rfl rfl a.pins (fun c p q d f g => ?_))
 have h := a.step f g
 have i : w.heap.size ≤ c := by have := a.size; omega
 obtain ⟨r, k, b, l, s⟩ := d.shut h i
 refine qM (.bool false) ?_
 refine qe (zA (zB (zC ?_)))
 refine qD rfl (zT (cs := [v]) ag26 sz26 rfl (fun j u hj => b.pins _ _ _ (l _ _ (by simpa using hj)))) (qI rfl (zF (vs := [(.agg [v].toArray)]) Tryz.func21 nm21 rfl rfl rfl ?_))
 refine dY (pA b.pins (hv.mono k)) ?_
 rintro _ t ⟨x, rfl, m⟩
 refine ⟨_, rfl, ?_⟩
 have o := b.tr m
 refine qM (.bool (decP (GoodS ns))) ?_
 refine qe (zA ?_)
 exact wp_ret (zO (zQ (v := (.bool (decP (GoodS ns)))) rfl rfl rfl (⟨_, congrArg (fun z => Ending.returned (Value.bool z)) (good_eq ns), o⟩)))
end DV2
end Go.Proofs.YtjdchbdfohiaaaaGreatDoor
namespace Go.Proofs.YtjdchbdfohiaaaaGreatDoor
namespace K1
open Go.RowKit Go.GL Go.Proofs
variable {G : Pin} {v : Value} {xs : List UInt8} {i : Int}
theorem isPow_spec {w : World} (hP : Pins G w) :
  Calls Tryz.prog 124 [(.int .i64 36)].toArray w fun e w' => e = .returned (.bool false) ∧ w' = w := by
 refine zU (n := 8) Tryz.func124 Tryz.ntmps124 rfl rfl ?_
 have hX0 := exr noS hP
 refine zB (zC ?_)
 refine qM (.bool false) ?_
 refine qe (zA (zB (zC ?_)))
 refine qM (.int .i64 36) ?_
 refine qM (.int .i64 36) ?_
 refine qD rfl (qC rfl rfl (by omega)) (qD rfl (r_and rfl rfl) (qD rfl (xU rfl rfl) (qM (.bool (decide ((andW .i64 36 (36 - 1) : Int) = 0))) ?_)))
 refine qe (zA ?_)
 exact wp_ret (zO (zQ (v := (.bool (decide ((andW .i64 36 (36 - 1) : Int) = 0)))) rfl rfl rfl (⟨congrArg (fun z => Ending.returned (Value.bool z)) not_pow36, rfl⟩)))
theorem pJ {w : World} (hP : Pins G w) (hv : Own eByte 5 G w 0 v xs) (hxl : xs.length ≤ 1099511627776) (hi : 0 ≤ i ∧ i ≤ 9223372036854775807) :
  Calls Tryz.prog 116 [v, (.int .u64 i), (vJ 36), (.bool false), (.bool true)].toArray w fun e w' => ∃ (u : Value) (G' : Pin), e = .returned (.tuple #[u, .string (⟨#[]⟩ : ByteArray)]) ∧ Own eByte 5 G' w' 0 u (xs ++ dig36 i.toNat) ∧ Lo w (inO v.ownBlock) u.ownBlock ∧ Ext (inO v.ownBlock) G w G' w' := by
 refine zU (n := 102) Tryz.func116 Tryz.ntmps116 rfl rfl ?_
 have c := exr (inO v.ownBlock) hP
 have hlov : Lo w (inO v.ownBlock) v.ownBlock := yV
 refine zB (zC ?_)
 refine qM vN ?_
 refine qM (.string (⟨#[]⟩ : ByteArray)) ?_
 refine qe (zA (zB (zB (zC ?_))))
 refine qM (vJ 36) ?_
 refine qD rfl (yX rfl rfl) (qM (.bool false) ?_)
 refine qN (zR (v := (vJ 36)) rfl) ?_
 refine qN (xU rfl rfl) ?_
 refine qD rfl (yI (v := (.bool false)) rfl rfl) (qM (.bool false) ?_)
 refine qN (zR (v := (vJ 36)) rfl) ?_
 refine qN (jO rfl rfl) ?_
 refine qD rfl (yI (v := (.bool false)) rfl rfl) (qe (zA ?_))
 refine qP rfl rfl (wp_skip (zA (zB (zC ?_))))
 refine qI rfl (yM (arrV (List.replicate 65 0)) zr146 rfl c.pins (fun d w2 x y aa l => ?_))
 have m := c.step aa l
 have ab := hv.below l
 have f := zG (congrArg some x) hv.lt
 have g : w.heap.size ≤ d := by have := c.size; omega
 refine qe (zA (zB (zC ?_)))
 refine qM (vJ 65) ?_
 refine qe (zA (zB (zB (zC ?_))))
 refine qM (.bool false) ?_
 refine qe (zA ?_)
 refine qP rfl rfl (wp_skip (zA (zB (zB (zC ?_)))))
 refine qM (vJ 36) ?_
 refine qI rfl (zF (vs := [(vJ 36)]) Tryz.func124 nm124 rfl rfl rfl ?_)
 refine dY (isPow_spec m.pins ) ?_
 rintro _ _ ⟨rfl, rfl⟩
 refine ⟨_, rfl, ?_⟩
 refine qe (zA ?_)
 refine qP rfl rfl (zB (zC ?_))
 refine qM (vJ 36) ?_
 refine qD rfl (gS (j := 36) dJ dU rfl (rM (by omega))) (qM (.int .u64 36) ?_)
 refine qe (zA (zB ?_))
 refine zW (yS (fun k en W => ∃ (o : Nat → Value) (uz : Int) (iz : Int) (L : List UInt8), en = (upd (upd (upd (upd (upd (upd (upd (upd (upd o 0 v) 1 (.int .u64 uz)) 3 (.bool false)) 4 (.bool true)) 10 vN) 11 (.string (⟨#[]⟩ : ByteArray))) 12 (vP d)) 13 (vJ iz)) 17 (.int .u64 36)) ∧ k = uz.toNat ∧ Ext (inO v.ownBlock) G w G W ∧ (L.length = 65) ∧ (0 ≤ uz ∧ uz ≤ 9223372036854775807) ∧ (iz ≤ 65) ∧ (dig36 i.toNat = dig36 uz.toNat ++ L.drop iz.toNat) ∧ (Own eByte 5 G W 0 v (xs)) ∧ (Bx G W d (arrV (L)))) _ ⟨_, i, 65, List.replicate 65 0, (pS 17 (pS 13 (pS 12 (pS 11 (pS 10 (pS 4 (pS 3 (pS 1 (pU 0))))))))), rfl, m, List.length_replicate, hi, (Int.le_refl _), (by simp), ab, y⟩ ?_)
 rintro a1 _ a2 ⟨o, uz, iz, L, rfl, a3, a, hL, hu, hiz, hd, q, r⟩
 have hpl := dig_place hd hL (by omega)
 refine zB (zB (zC ?_))
 refine qM (.int .u64 uz) ?_
 refine qM (.int .u64 36) ?_
 refine qD rfl (fN rfl rfl) (qe (zA ?_))
 refine yC (p := (36 : Int) ≤ uz) rfl rfl (fun ac => ?_) (fun ac => ?_)
 refine wp_skip (zA (zW (zB (zC ?_))))
 refine qM (vJ iz) ?_
 refine qD rfl (qC rfl rfl (by omega)) (qM (vJ (iz - 1)) ?_)
 refine qe (zA (zB (zC ?_)))
 refine qM (.int .u64 uz) ?_
 refine qM (.int .u64 36) ?_
 refine qD rfl (r_quoX rfl rfl (by omega) (by omega) (by omega)) (qM (.int .u64 (uz / 36)) ?_)
 refine qe (zA (zB (zC ?_)))
 refine qM (vJ (iz - 1)) ?_
 refine qM (.int .u64 uz) ?_
 refine qM (.int .u64 (uz / 36)) ?_
 refine qM (.int .u64 36) ?_
 refine qD rfl (r_mulX rfl rfl (by omega)) (qD rfl (r_subX rfl rfl (by omega)) (qD rfl (r_digit dV rfl rfl (by omega)) (qD rfl (r_idxb (k := (iz - 1).toNat) Tryz.underlying146 sz5 rfl rfl (by omega) (by omega) (by omega)) (q0 rfl rfl rfl (o_stpk (k := (iz - 1).toNat) (x0 := digC (uz - ((uz / 36) * 36)).toNat) sz5 rfl rfl (by first | omega | (simp only [List.length_set]; omega)) a.pins r (fun a4 ad ae s a5 => ?_))))))
 have af := a.write ae s ((zY g))
 have ag := q.keptA s f.symm
 refine qe (zA (zC ?_))
 refine qM (.int .u64 (uz / 36)) ?_
 refine qM (.int .u64 (uz / 36)) ?_
 refine qe (yA (yD (⟨_, ?_, _, rfl, _, uz / 36, iz - 1, L.set (iz - 1).toNat (digC (uz - ((uz / 36) * 36)).toNat), (pS 17 (pS 13 (pS 12 (pS 11 (pS 10 (pS 4 (pS 3 (pS 1 (pU 0))))))))), rfl, af, (by rw [List.length_set]; exact hL), (by omega), (by omega), (dig_step hd hL (by omega) (by omega)), ag, ad⟩)))
 omega
 refine wp_exit (zV (yK (yE (zA (zB (zC ?_))))))
 refine qM (vJ iz) ?_
 refine qD rfl (qC rfl rfl (by omega)) (qM (vJ (iz - 1)) ?_)
 refine qe (zA (zC ?_))
 refine qM (vJ (iz - 1)) ?_
 refine qM (.int .u64 uz) ?_
 refine qD rfl (r_digit dV rfl rfl (by omega)) (qD rfl (r_idxb (k := (iz - 1).toNat) Tryz.underlying146 sz5 rfl rfl (by omega) (by omega) (by omega)) (q0 rfl rfl rfl (o_stpk (k := (iz - 1).toNat) (x0 := digC (uz).toNat) sz5 rfl rfl (by first | omega | (simp only [List.length_set]; omega)) a.pins r (fun a6 ah ai t a7 => ?_))))
 have aj := a.write ai t ((zY g))
 have ak := q.keptA t f.symm
 refine qe (zA (zB (zB (zC ?_))))
 refine qM (.bool false) ?_
 refine qe (zA ?_)
 refine qP rfl rfl (wp_skip (zA (zB (zB (zC ?_)))))
 refine qM (.bool true) ?_
 refine qe (zA ?_)
 refine jS rfl rfl (zB (zC ?_))
 refine qM v ?_
 refine qM (vJ (iz - 1)) ?_
 obtain ⟨a8, al, b, am, an⟩ := ah.shut aj g
 have ao := ak.moreA al an f.symm
 obtain ⟨ap, aq, ar⟩ := name_arr (z := iz - 1) (n := 65) am (by rw [List.length_set]; exact hL) (by omega) (by decide)
 refine qD rfl (ar Tryz.underlying146 sz5 rfl rfl) (qI rfl (oA (E := eByte) (v := v) (u := ap) 1 dN ap5 (by decide) rfl rfl b.pins ao ((aq.mono (Pin.le_refl _)).src b.pins (by decide)) (Nat.zero_le _) (fun h a9 au av aw ax => ?_)))
 have ay := b.write av aw (hlov)
 have az : Lo w (inO v.ownBlock) h.ownBlock := nI hlov ax b.size
 have ba := la2 xs ((L.set (iz - 1).toNat (digC (uz).toNat)).drop (iz - 1).toNat)
 refine qM h ?_
 refine qe (zA ?_)
 refine wp_ret (zO (jH (v := h) (u := (.string (⟨#[]⟩ : ByteArray))) rfl rfl rfl rfl rfl ?_))
 have hown := au
 rw [dig_last hd hL (by omega) (by omega)] at hown
 exact ⟨_, _, rfl, hown, az, ay⟩
theorem pL {w : World} (hP : Pins G w) (hv : Own eByte 5 G w 0 v xs) (hxl : xs.length ≤ 1099511627776) (hi : 0 ≤ i ∧ i ≤ 9223372036854775807) :
  Calls Tryz.prog 101 [v, (.int .u64 i), (.int .i64 36)].toArray w fun e w' => ∃ (u : Value) (G' : Pin), e = .returned u ∧ Own eByte 5 G' w' 0 u (xs ++ dig36 i.toNat) ∧ Lo w (inO v.ownBlock) u.ownBlock ∧ Ext (inO v.ownBlock) G w G' w' := by
 refine zU (n := 36) Tryz.func101 Tryz.ntmps101 rfl rfl ?_
 have b := exr (inO v.ownBlock) hP
 have hlov : Lo w (inO v.ownBlock) v.ownBlock := yV
 refine zB (zC ?_)
 refine qM (.slice none 0 0) ?_
 refine qe (zA (zB (zB (zC ?_))))
 refine qM (.int .i64 36) ?_
 refine qD rfl (xU rfl rfl) (qe (zA ?_))
 refine qP rfl rfl (wp_skip (zA (zB (zC ?_))))
 refine qM v ?_
 refine qM (.int .u64 i) ?_
 refine qM (.int .i64 36) ?_
 refine qI rfl (zF (vs := [v, (.int .u64 i), (.int .i64 36), (.bool false), (.bool true)]) Tryz.func116 nm116 rfl rfl rfl ?_)
 refine dY (pJ (i := i) b.pins hv (by omega) (by omega)) ?_
 rintro _ j ⟨a, k, rfl, c, d, f⟩
 refine ⟨_, rfl, ?_⟩
 have g := b.trans f (fun i hi => hlov i hi)
 have h := lo_turn d hlov b.size
 have l := la2 xs (dig36 (i).toNat)
 refine qM (.tuple #[a, (.string (⟨#[]⟩ : ByteArray))]) ?_
 refine qD rfl (zX (v := a) rfl rfl) (qD rfl (zX (v := (.string (⟨#[]⟩ : ByteArray))) rfl rfl) (qM a ?_))
 refine qe (zA (zB (zC ?_)))
 refine qM a ?_
 refine qM a ?_
 refine qe (zA ?_)
 exact wp_ret (zO (zQ (v := a) rfl rfl rfl (⟨_, _, rfl, c, h, g⟩)))
theorem pI {w : World} (hP : Pins G w) (hv : Own eByte 5 G w 0 v xs) (hxl : xs.length ≤ 1099511627776) (hi : 0 ≤ i ∧ i ≤ 9223372036854775807) :
  Calls Tryz.prog 97 [v, (.int .i64 i), (.int .i64 36)].toArray w fun e w' => ∃ (u : Value) (G' : Pin), e = .returned u ∧ Own eByte 5 G' w' 0 u (xs ++ dig36 i.toNat) ∧ Lo w (inO v.ownBlock) u.ownBlock ∧ Ext (inO v.ownBlock) G w G' w' := by
 refine zU (n := 21) Tryz.func97 Tryz.ntmps97 rfl rfl ?_
 have a := exr (inO v.ownBlock) hP
 have hlov : Lo w (inO v.ownBlock) v.ownBlock := yV
 refine zB (zC ?_)
 refine qM (.slice none 0 0) ?_
 refine qe (zA (zB (zC ?_)))
 refine qM (.int .i64 i) ?_
 refine qD rfl (gS (j := i) Tryz.underlying2 dU rfl (rM (by omega))) (qM (.int .u64 i) ?_)
 refine qe (zA (zB (zB (zC ?_))))
 refine qM (.int .i64 i) ?_
 refine qD rfl (yX rfl rfl) (qe (zA ?_))
 refine yC (p := (i : Int) < 0) rfl rfl (fun c => ?_) (fun c => ?_)
 exfalso; omega
 refine wp_skip (zA (zB (zC ?_)))
 refine qM v ?_
 refine qM (.int .u64 i) ?_
 refine qM (.int .i64 36) ?_
 refine qI rfl (zF (vs := [v, (.int .u64 i), (.int .i64 36)]) Tryz.func101 nm101 rfl rfl rfl ?_)
 refine dY (pL (i := i) a.pins hv (by omega) (by omega)) ?_
 rintro _ l ⟨b, m, rfl, d, f, g⟩
 refine ⟨_, rfl, ?_⟩
 have h := a.trans g (fun i hi => hlov i hi)
 have k := lo_turn f hlov a.size
 have o := la2 xs (dig36 (i).toNat)
 refine qM b ?_
 refine qe (zA ?_)
 exact wp_ret (zO (zQ (v := b) rfl rfl rfl (⟨_, _, rfl, d, k, h⟩)))
theorem tF {w : World} (hP : Pins G w) (hv : Own eByte 5 G w 0 v xs) (hxl : xs.length ≤ 1099511627776) (hi : 0 ≤ i ∧ i ≤ 9223372036854775807) :
  Calls Tryz.prog 83 [v, (.int .i64 i), (.int .i64 36)].toArray w fun e w' => ∃ (u : Value) (G' : Pin), e = .returned u ∧ Own eByte 5 G' w' 0 u (xs ++ dig36 i.toNat) ∧ Lo w (inO v.ownBlock) u.ownBlock ∧ Ext (inO v.ownBlock) G w G' w' := by
 refine zU (n := 11) Tryz.func83 Tryz.ntmps83 rfl rfl ?_
 have a := exr (inO v.ownBlock) hP
 have hlov : Lo w (inO v.ownBlock) v.ownBlock := yV
 refine zB (zC ?_)
 refine qM (.slice none 0 0) ?_
 refine qe (zA (zB (zC ?_)))
 refine qM v ?_
 refine qM (.int .i64 i) ?_
 refine qM (.int .i64 36) ?_
 refine qI rfl (zF (vs := [v, (.int .i64 i), (.int .i64 36)]) Tryz.func97 nm97 rfl rfl rfl ?_)
 refine dY (pI (i := i) a.pins hv (by omega) (by omega)) ?_
 rintro _ j ⟨b, k, rfl, c, d, f⟩
 refine ⟨_, rfl, ?_⟩
 have g := a.trans f (fun i hi => hlov i hi)
 have h := lo_turn d hlov a.size
 have l := la2 xs (dig36 (i).toNat)
 refine qM b ?_
 refine qe (zA ?_)
 exact wp_ret (zO (zQ (v := b) rfl rfl rfl (⟨_, _, rfl, c, h, g⟩)))
end K1
end Go.Proofs.YtjdchbdfohiaaaaGreatDoor
namespace Go.Proofs.YtjdchbdfohiaaaaGreatDoor
namespace PO1
open Go.RowKit Go.GL Go.Proofs
open B1 K1
theorem mk5 : (Tryz.prog.info? 5).map (fun i => (i.size, i.bytes, i.zero)) = some (1, 1, some (.int .u8 0)) := by kernel_rfl
variable {G : Pin} {v : Value} {xs : List Int} {e base : Nat}
theorem clone_spec {w : World} (hP : Pins G w) (hv : RSl eInt G v xs) (hs : xs.length ≤ 1048576) :
  Calls Tryz.prog 94 [v].toArray w fun e w' => ∃ (u : Value) (G' : Pin), e = .returned u ∧ Own eInt 3 G' w' w.heap.size u xs ∧ Ext noS G w G' w' := by
 refine zU (n := 8) Tryz.func94 Tryz.ntmps94 rfl rfl ?_
 have a := exr noS hP
 refine zB (zC ?_)
 refine qM (.slice none 0 0) ?_
 refine qe (zA (zB (zB (zC ?_))))
 refine qM v ?_
 refine qD rfl (r_eqlNil dB hv rfl rfl) (qe (zA ?_))
 refine c_if rfl rfl (fun c => ?_) (fun c => ?_)
 refine zB (zC ?_)
 refine qM (.slice none 0 0) ?_
 refine qe (zA ?_)
 refine wp_ret (zO (zQ (v := (.slice none 0 0)) rfl rfl rfl ?_))
 have h := nil_of hv c
 subst h
 exact ⟨_, _, rfl, Own.nil _ _ _ _ _, a⟩
 refine wp_skip (zA (zB (zC ?_)))
 refine qI rfl (xC (E := eInt) (e := 3) dB sz3 a.pins (fun d i j k l r => ?_))
 have b := a.step k l
 have f := j.weaken a.size
 refine qM v ?_
 refine qI rfl (oA (E := eInt) (v := d) (u := v) 8 dB ap3 (by decide) rfl rfl b.pins f ((hv.mono (Pin.le_refl _)).src b.pins (by decide)) (b.size) (fun g s m o p t => ?_))
 have q := b.write o p ((yH f))
 have x := la2 ([]) xs
 refine qM g ?_
 refine qe (zA ?_)
 exact wp_ret (zO (zQ (v := g) rfl rfl rfl (⟨_, _, rfl, m, q⟩)))
theorem sortI_spec {w : World} (hP : Pins G w) (hv : Own eInt e G w base v xs) (hl : xs.length ≤ 1073741824) :
  Calls Tryz.prog 95 [v].toArray w fun en w' => ∃ G', en = .returned (.tuple #[]) ∧ Own eInt e G' w' base v (sortM xs) ∧ Ext (inO v.ownBlock) G w G' w' := by
 rcases own_cases hv with ⟨rfl, rfl⟩ | ⟨g, cap, rfl⟩
 ·refine (Tryz.slices_Sort_int_none none 0 w).mono ?_
  rintro en w' ⟨rfl, rfl⟩
  exact ⟨G, rfl, by simpa [sortM] using hv, Ext.refl hP⟩
 ·obtain ⟨_, h1, h2, h3⟩ := own_holds hv
  refine (Tryz.slices_Sort_int g 0 cap xs w h3 h1 (by omega)).mono ?_
  rintro en w' ⟨rfl, m, os, hw⟩
  obtain ⟨a, b, c⟩ := own_put (ys := sortM xs) hv hP hw (fW xs) (List.take_length ..)
  rw [fW] at a
  exact ⟨G, rfl, a, Ext.one b c⟩
theorem compactI_spec {w : World} (hP : Pins G w) (hv : Own eInt e G w base v xs) (hl : xs.length ≤ 1073741824) :
  Calls Tryz.prog 96 [v].toArray w fun en w' => ∃ (u : Value) (G' : Pin), en = .returned u ∧ Own eInt e G' w' base u (Go.Lib.compact xs) ∧ Lo w (inO v.ownBlock) u.ownBlock ∧ Ext (inO v.ownBlock) G w G' w' := by
 rcases own_cases hv with ⟨rfl, rfl⟩ | ⟨g, cap, rfl⟩
 ·refine (Tryz.slices_Compact_int_empty none 0 w).mono ?_
  rintro en w' ⟨rfl, rfl⟩
  exact ⟨_, G, rfl, hv, yV, Ext.refl hP⟩
 ·obtain ⟨_, h1, h2, h3⟩ := own_holds hv
  refine (Tryz.slices_Compact_int g 0 cap xs w h3 (by omega) h2).mono ?_
  rintro en w' ⟨rfl, m, hw⟩
  have hcl := compact_len xs
  obtain ⟨a, b, c⟩ := own_put (os := #[]) (ys := Go.Lib.compact xs) hv hP (hw.trans (Go.Sort.grow_empty _).symm) (by simp; omega) (List.take_left ..)
  exact ⟨_, G, rfl, a, yV, Ext.one b c⟩
theorem tX {w : World} (hP : Pins G w) (hv : RSl eInt G v xs) (hs : xs.length ≤ 1048576) :
  Calls Tryz.prog 82 [v].toArray w fun e w' => ∃ (u : Value) (G' : Pin), e = .returned u ∧ Own eInt 3 G' w' w.heap.size u (sortL xs) ∧ Ext noS G w G' w' := by
 refine zU (n := 10) Tryz.func82 Tryz.ntmps82 rfl rfl ?_
 have b := exr noS hP
 refine zB (zC ?_)
 refine qM (.slice none 0 0) ?_
 refine qe (zA (zB (zC ?_)))
 refine qM v ?_
 refine qI rfl (zF (vs := [v]) Tryz.func94 nm94 rfl rfl rfl ?_)
 refine dY (clone_spec b.pins hv (by omega)) ?_
 rintro _ l ⟨a, m, rfl, o, p⟩
 refine ⟨_, rfl, ?_⟩
 have f := b.tr p
 have g := o.weaken b.size
 refine qM a ?_
 refine qe (zA (zB (zC ?_)))
 refine qM a ?_
 refine qI rfl (zF (vs := [a]) Tryz.func95 nm95 rfl rfl rfl ?_)
 refine dY (sortI_spec f.pins g (by omega)) ?_
 rintro _ z ⟨G8, rfl, c, q⟩
 refine ⟨_, rfl, ?_⟩
 have d := f.trans q (fun i hi => (yH g) i hi)
 have ab := fW xs
 refine qe (zA (zB (zC ?_)))
 refine qM a ?_
 refine qI rfl (zF (vs := [a]) Tryz.func96 nm96 rfl rfl rfl ?_)
 refine dY (compactI_spec d.pins (c.weaken (Nat.zero_le _)) (by omega)) ?_
 rintro _ ac ⟨j, ad, rfl, r, s, t⟩
 refine ⟨_, rfl, ?_⟩
 have x := d.trans t (fun i hi => (yH c) i hi)
 have y := r.up (lo := w.heap.size) (fun k hk => (s k hk).elim (fun h => Nat.le_trans d.size h) (fun h => (c.lt k h).1))
 refine qM j ?_
 refine qe (zA ?_)
 exact wp_ret (zO (zQ (v := j) rfl rfl rfl (⟨_, _, rfl, (by rw [← distinct_eq]; simpa using y), x⟩)))
theorem jG {w : World} {p : Nat} {L R B : Value} {mm : PM} {q : PSt} (hP : Pins G w) (hpk : Pk 48 3 G w p L R B mm q) (hok : PoolOk q) {x y : Value} {ys : List Int} (hx : RSl eInt G x xs) (hy : RSl eInt G y ys) (hlim : q.ns.length + 1 ≤ 1048576) (hls : xs.length ≤ 1048576 ∧ ys.length ≤ 1048576) (hk1 : ∀ i, i < xs.length → 0 ≤ xs.getD i 0 ∧ xs.getD i 0 < q.ns.length) (hk2 : ∀ i, i < ys.length → 0 ≤ ys.getD i 0 ∧ ys.getD i 0 < q.ns.length) :
  Calls Tryz.prog 63 [(vP p), x, y].toArray w fun e w' => ∃ (z : Int) (L' R' B' : Value) (q' : PSt) (G' : Pin), e = .returned (vJ z) ∧ Pk 48 3 G' w' p L' R' B' mm q' ∧ PoolOk q' ∧ PX q q' ∧ PLo w p L R B mm L' R' B' ∧ Ext (inP p L R B mm) G w G' w' ∧ PlaceOk q' z ∧ pd q' z = mkG (xs.map (pd q)) (ys.map (pd q)) ∧ q'.ns.length ≤ q.ns.length + 1 ∧ (q'.cm = q.cm ∧ (q'.ns.length = q.ns.length ∨ z = q.ns.length)) := by
 refine zU (n := 130) Tryz.func63 Tryz.ntmps63 rfl rfl ?_
 have cc := exr (inP p L R B mm) hP
 have hpin : PIn w (inP p L R B mm) p L R B mm := PIn.self
 have lf := pkl q
 have lg := pkb hok
 obtain ⟨d, ao⟩ : ∃ l, l = sortL xs := ⟨_, rfl⟩
 obtain ⟨g, ap⟩ : ∃ l, l = sortL ys := ⟨_, rfl⟩
 have bl := nV hk1
 have cd := nV hk2
 rw [← ao] at bl
 rw [← ap] at cd
 have lh : d.length ≤ 1048576 := by rw [ao]; exact Nat.le_trans jW hls.1
 have li : g.length ≤ 1048576 := by rw [ap]; exact Nat.le_trans jW hls.2
 refine zB (zC ?_)
 refine qM (vJ 0) ?_
 refine qe (zA (zB (zC ?_)))
 refine qM x ?_
 refine qI rfl (zF (vs := [x]) Tryz.func82 nm82 rfl rfl rfl ?_)
 refine dY (tX cc.pins hx (by omega)) ?_
 rintro _ w5 ⟨t, G4, rfl, ce, cf⟩
 refine ⟨_, rfl, ?_⟩
 rw [← ao] at ce
 have cg := cc.tr cf
 have dh := hpk.ext cf
 have bo := hpk.new (x := t.ownBlock) (fun k hk => (ce.lt k hk).1)
 have di := ce.weaken cc.size
 refine qM y ?_
 refine qI rfl (zF (vs := [y]) Tryz.func82 nm82 rfl rfl rfl ?_)
 refine dY (tX cg.pins (hy.mono cf.le) (by omega)) ?_
 rintro _ gt ⟨aa, bp, rfl, bq, ch⟩
 refine ⟨_, rfl, ?_⟩
 rw [← ap] at bq
 have ci := cg.tr ch
 have cj := di.ext ch
 have dj := dh.ext ch
 have gu := yB bq.lt di.lt
 have a0 := dh.new (x := aa.ownBlock) (fun k hk => (bq.lt k hk).1)
 have ck := bq.weaken cg.size
 refine qM t ?_
 refine qM aa ?_
 refine qe (zA (zB (zC ?_)))
 refine qM t ?_
 refine qD rfl (zP dB (v := t) rfl cj.read) (qM aa ?_)
 refine qD rfl (zP dB (v := aa) rfl ck.read) (qD rfl (yJ rfl rfl (by omega)) (qD rfl (nW rfl rfl (by omega)) (qD rfl (yJ rfl rfl (by omega)) (qI rfl (o_make0 (E := eByte) dN mk5 rfl rfl ci.pins (by omega) (by omega) (by omega) (fun br gv gw dk bt cl => ?_))))))
 have gx := ci.step dk bt
 have dl := cj.below bt
 have gy := ck.below bt
 have gz := dj.below bt dk
 have g0 := zG cl cj.lt
 have g1 := zG cl ck.lt
 have g2 := dj.new (x := br.ownBlock) (fun k hk => by rw [cl] at hk; cases hk; exact Nat.le_refl _)
 have g3 := gw.weaken ci.size
 refine qM br ?_
 refine qe (zA (zB (zC ?_)))
 refine qM (vJ 0) ?_
 refine qe (zA (zB (zB (zC ?_))))
 refine qM t ?_
 refine qD rfl (zP dB (v := t) rfl dl.read) (qM (vJ 0) ?_)
 refine qe (zA ?_)
 refine zW (yS (fun k en W => ∃ (a8 : Nat → Value) (i : Nat) (kva : Value) (kxa : List UInt8) (bn : Int) (GLa : Pin), en = (upd (upd (upd (upd (upd (upd (upd (upd (upd a8 0 (vP p)) 1 t) 2 aa) 6 (vJ 0)) 7 kva) 8 (vJ bn)) 28 t) 29 (vJ (d.length : Int))) 30 (vJ (i : Int))) ∧ k = d.length - i ∧ Ext (inP p L R B mm) G w GLa W ∧ Pin.le bp GLa ∧ (i ≤ d.length) ∧ (kxa = keyL (d.take i)) ∧ (bn = bornOf q.bs (d.take i) 0) ∧ (0 ≤ bn ∧ bn ≤ q.ns.length) ∧ (Own eByte 5 GLa W w.heap.size kva (kxa)) ∧ (Own eInt 3 GLa W w.heap.size t (d)) ∧ (Own eInt 3 GLa W w.heap.size aa (g)) ∧ (Apart kva.ownBlock t.ownBlock) ∧ (Apart kva.ownBlock aa.ownBlock) ∧ (Pk 48 3 GLa W p L R B mm q) ∧ (NP p L R B mm kva.ownBlock)) _ ⟨_, 0, br, [], 0, bp, (pS 30 (pS 29 (pS 28 (pS 8 (pS 7 (pS 6 (pS 2 (pS 1 (pU 0))))))))), rfl, gx, Pin.le_refl _, Nat.zero_le _, (by simp [keyL]), rfl, (by omega), g3, dl, gy, g0, g1, gz, g2⟩ ?_)
 rintro lj _ lk ⟨a8, i, kva, kxa, bn, GLa, rfl, lm, au, g4, hji, hka, hbbn, hlbn, bu, a9, cn, bv, bw, co, bz⟩
 have hkla : kxa.length ≤ 117440640 := by
  have := nK (j := i) bl hok.ar.ok.lim
  rw [hka]; omega
 refine zB (zC ?_)
 refine qD rfl (yX rfl rfl) (qe (zA (zB ?_)))
 refine yC (p := ((i : Int) : Int) < (d.length : Int)) rfl rfl (fun g5 => ?_) (fun g5 => ?_)
 have hki := bl i (by omega)
 have hbk := hok.ar.ok.born (d.getD i 0).toNat (by omega)
 have g6 := dig13 (n := (d.getD i 0).toNat) (by omega)
 refine wp_skip (zA (zB ?_))
 refine zW (zB (zC ?_))
 refine qD rfl (zJ dB sz3 (v := t) rfl rfl a9.read (by omega) (by omega)) (qD rfl (zI (r := d.getD i 0) rfl ag3 (z := (i : Int)) rfl a9.read (Gadd.pins au.pins t) (by omega) (by omega)) (qM (vJ (d.getD i 0)) ?_))
 refine qe (zA (zB (zC ?_)))
 refine qM kva ?_
 refine qM (vJ (d.getD i 0)) ?_
 refine qI rfl (zF (vs := [kva, (vJ (d.getD i 0)), (vJ 36)]) Tryz.func83 nm83 rfl rfl rfl ?_)
 refine dY (tF (i := d.getD i 0) au.pins (bu.weaken (Nat.zero_le _)) (by omega) (by omega)) ?_
 rintro _ ln ⟨cp, dm, rfl, g7, b0, ba⟩
 refine ⟨_, rfl, ?_⟩
 have dn := np_turn bz co b0
 have cq := au.trans ba (fun i hi => (yH bu) i hi)
 have g8 := a9.extS ba (notO bv.symm)
 have g9 := cn.extS ba (notO bw.symm)
 have ha := co.extS ba (fun k hk hx => bz k hx hk)
 have dp : Apart t.ownBlock cp.ownBlock := pY b0 bv.symm (qK a9)
 have dq : Apart aa.ownBlock cp.ownBlock := pY b0 bw.symm (qK cn)
 have hc := g7.up (lo := w.heap.size) (fun k hk => (b0 k hk).elim (fun h => Nat.le_trans au.size h) (fun h => (bu.lt k h).1))
 have lq := la2 kxa (dig36 (d.getD i 0).toNat)
 refine qI rfl (yG (E := eByte) (e := 5) [(.int .u8 44)] [44] dN sz5 zr5 (by exact xK (by rfl)) (yO (by rfl)) rfl rfl rfl rfl (by decide) cq.pins (fun dr hd he ds bb ls => ?_))
 have cr := cq.step ds bb
 have dt := g8.below bb
 have du := g9.below bb
 have dv := hc.below bb
 have dw := ha.below bb ds
 have hf := he.weaken cq.size
 refine qI rfl (oA (E := eByte) (v := cp) (u := dr) 1 dN ap5 (by decide) rfl rfl cr.pins dv hf.src (cr.size) (fun dx lu hg dy b1 cs => ?_))
 have dz := cr.write dy b1 ((yH dv))
 have hh := dt.keptA b1 dp
 have hj := du.keptA b1 dq
 have b2 := dw.kept b1 dy dn
 have hm := zE dp cs dt.lt
 have hn := zE dq cs du.lt
 have ho := jP dn dw cs
 have lv := la1 (kxa ++ dig36 (d.getD i 0).toNat) 44
 refine qM dx ?_
 refine qe (zA (zC ?_))
 refine qM (vJ bn) ?_
 refine qM (vP p) ?_
 refine qD rfl (yU rfl) (qD rfl (zK (k := 2) rfl dH rfl nz48 rfl) (qD rfl (zL (u := B) ag48 rfl (b2.bx.cell (o := 2) rfl)) (qM (vJ (d.getD i 0)) ?_)))
 refine qD rfl (zJ dB sz3 (v := B) rfl rfl b2.ob.read (by omega) (by omega)) (qD rfl (zI (r := q.bs.getD (d.getD i 0).toNat 0) rfl ag3 (z := (d.getD i 0)) rfl b2.ob.read (Gadd.pins dz.pins B) (by omega) (by omega)) (qD rfl (yJ rfl rfl (by omega)) (qD rfl (r_max rfl rfl) (qM (vJ (max bn ((q.bs.getD (d.getD i 0).toNat 0) + 1))) ?_))))
 refine qe (yA (zA (zC ?_)))
 refine qD rfl (yJ rfl rfl (by omega)) (qM (vJ ((i : Int) + 1)) ?_)
 refine qe (yD (⟨_, ?_, _, rfl, _, i + 1, dx, (kxa ++ dig36 (d.getD i 0).toNat) ++ ([44]), max bn ((q.bs.getD (d.getD i 0).toNat 0) + 1), dm, (pS 30 (pS 29 (pS 28 (pS 8 (pS 7 (pS 6 (pS 2 (pS 1 (pU 0))))))))), rfl, dz, (dW g4 ba.le), (by omega), (by rw [key_next (by omega), hka]), (by rw [hbbn, tR (by omega)]), (by omega), hg, hh, hj, hm.symm, hn.symm, b2, ho⟩))
 omega
 refine wp_exit (zV (yK (yE (zA (zB (zC ?_))))))
 refine qM kva ?_
 refine qI rfl (yG (E := eByte) (e := 5) [(.int .u8 124)] [124] dN sz5 zr5 (by exact xK (by rfl)) (yO (by rfl)) rfl rfl rfl rfl (by decide) au.pins (fun d0 hq hs d1 bc lw => ?_))
 have ct := au.step d1 bc
 have d2 := bu.below bc
 have d3 := a9.below bc
 have d4 := cn.below bc
 have d5 := co.below bc d1
 have ht := hs.weaken au.size
 refine qI rfl (oA (E := eByte) (v := kva) (u := d0) 1 dN ap5 (by decide) rfl rfl ct.pins d2 ht.src (ct.size) (fun d6 lx hu d7 b3 cu => ?_))
 have hv := ct.write d7 b3 ((yH d2))
 have hw := d3.keptA b3 bv.symm
 have d8 := d4.keptA b3 bw.symm
 have h0 := d5.kept b3 d7 bz
 have h1 := zE bv.symm cu d3.lt
 have h3 := zE bw.symm cu d4.lt
 have h4 := jP bz d5 cu
 have ly := la1 kxa 124
 refine qM d6 ?_
 refine qe (zA (zB (zB (zC ?_))))
 rw [qS (by omega)] at hka hbbn
 have hkk : keyL d ++ [124] = kxa ++ [124] := by rw [hka]
 refine qM aa ?_
 refine qD rfl (zP dB (v := aa) rfl d8.read) (qM (vJ 0) ?_)
 refine qe (zA ?_)
 refine zW (yS (fun k en W => ∃ (a8 : Nat → Value) (m : Nat) (kvb : Value) (kxb : List UInt8) (bm : Int) (GLb : Pin), en = (upd (upd (upd (upd (upd (upd (upd (upd (upd a8 0 (vP p)) 1 t) 2 aa) 6 (vJ 0)) 7 kvb) 8 (vJ bm)) 53 aa) 54 (vJ (g.length : Int))) 55 (vJ (m : Int))) ∧ k = g.length - m ∧ Ext (inP p L R B mm) G w GLb W ∧ Pin.le GLa GLb ∧ (m ≤ g.length) ∧ (kxb = keyL d ++ [124] ++ keyL (g.take m)) ∧ (bm = bornOf q.bs (g.take m) bn) ∧ (0 ≤ bm ∧ bm ≤ q.ns.length) ∧ (Own eByte 5 GLb W w.heap.size kvb (kxb)) ∧ (Own eInt 3 GLb W w.heap.size t (d)) ∧ (Own eInt 3 GLb W w.heap.size aa (g)) ∧ (Apart kvb.ownBlock t.ownBlock) ∧ (Apart kvb.ownBlock aa.ownBlock) ∧ (Pk 48 3 GLb W p L R B mm q) ∧ (NP p L R B mm kvb.ownBlock)) _ ⟨_, 0, d6, kxa ++ ([124]), bn, GLa, (pS 55 (pS 54 (pS 53 (pS 8 (pS 7 (pS 6 (pS 2 (pS 1 (pU 0))))))))), rfl, hv, Pin.le_refl _, Nat.zero_le _, (by rw [← hkk]; simp [keyL]), rfl, (by omega), hu, hw, d8, h1.symm, h3.symm, h0, h4⟩ ?_)
 rintro lz _ aq ⟨a8, m, kvb, kxb, bm, GLb, rfl, l0, av, h5, l1, hkb, hbbm, hlbm, bd, cv, be, d9, ea, cw, eb⟩
 have hklb : kxb.length ≤ 117440640 := by
  have := nK (j := m) cd hok.ar.ok.lim
  have h2 := nK (j := d.length) bl hok.ar.ok.lim; rw [hkb, List.length_append, List.length_append]; simp only [List.length_cons, List.length_nil]; rw [qS (Nat.le_refl _)] at h2; omega
 refine zB (zC ?_)
 refine qD rfl (yX rfl rfl) (qe (zA (zB ?_)))
 refine yC (p := ((m : Int) : Int) < (g.length : Int)) rfl rfl (fun h7 => ?_) (fun h7 => ?_)
 have hki := cd m (by omega)
 have hbk := hok.ar.ok.born (g.getD m 0).toNat (by omega)
 have g6 := dig13 (n := (g.getD m 0).toNat) (by omega)
 refine wp_skip (zA (zB ?_))
 refine zW (zB (zC ?_))
 refine qD rfl (zJ dB sz3 (v := aa) rfl rfl be.read (by omega) (by omega)) (qD rfl (zI (r := g.getD m 0) rfl ag3 (z := (m : Int)) rfl be.read (Gadd.pins av.pins aa) (by omega) (by omega)) (qM (vJ (g.getD m 0)) ?_))
 refine qe (zA (zB (zC ?_)))
 refine qM kvb ?_
 refine qM (vJ (g.getD m 0)) ?_
 refine qI rfl (zF (vs := [kvb, (vJ (g.getD m 0)), (vJ 36)]) Tryz.func83 nm83 rfl rfl rfl ?_)
 refine dY (tF (i := g.getD m 0) av.pins (bd.weaken (Nat.zero_le _)) (by omega) (by omega)) ?_
 rintro _ l2 ⟨cx, ec, rfl, h8, b4, bf⟩
 refine ⟨_, rfl, ?_⟩
 have ed := np_turn eb cw b4
 have cy := av.trans bf (fun i hi => (yH bd) i hi)
 have h9 := cv.extS bf (notO d9.symm)
 have ia := be.extS bf (notO ea.symm)
 have ib := cw.extS bf (fun k hk hx => eb k hx hk)
 have ee : Apart t.ownBlock cx.ownBlock := pY b4 d9.symm (qK cv)
 have eg : Apart aa.ownBlock cx.ownBlock := pY b4 ea.symm (qK be)
 have ic := h8.up (lo := w.heap.size) (fun k hk => (b4 k hk).elim (fun h => Nat.le_trans av.size h) (fun h => (bd.lt k h).1))
 have l3 := la2 kxb (dig36 (g.getD m 0).toNat)
 refine qI rfl (yG (E := eByte) (e := 5) [(.int .u8 44)] [44] dN sz5 zr5 (by exact xK (by rfl)) (yO (by rfl)) rfl rfl rfl rfl (by decide) cy.pins (fun eh ie ig ei bg l4 => ?_))
 have cz := cy.step ei bg
 have ej := h9.below bg
 have ek := ia.below bg
 have em := ic.below bg
 have eo := ib.below bg ei
 have ih := ig.weaken cy.size
 refine qI rfl (oA (E := eByte) (v := cx) (u := eh) 1 dN ap5 (by decide) rfl rfl cz.pins em ih.src (cz.size) (fun ep l5 ii eq b5 c0 => ?_))
 have es := cz.write eq b5 ((yH em))
 have ij := ej.keptA b5 ee
 have ik := ek.keptA b5 eg
 have b6 := eo.kept b5 eq ed
 have il := zE ee c0 ej.lt
 have im := zE eg c0 ek.lt
 have io := jP ed eo c0
 have l6 := la1 (kxb ++ dig36 (g.getD m 0).toNat) 44
 refine qM ep ?_
 refine qe (zA (zC ?_))
 refine qM (vJ bm) ?_
 refine qM (vP p) ?_
 refine qD rfl (yU rfl) (qD rfl (zK (k := 2) rfl dH rfl nz48 rfl) (qD rfl (zL (u := B) ag48 rfl (b6.bx.cell (o := 2) rfl)) (qM (vJ (g.getD m 0)) ?_)))
 refine qD rfl (zJ dB sz3 (v := B) rfl rfl b6.ob.read (by omega) (by omega)) (qD rfl (zI (r := q.bs.getD (g.getD m 0).toNat 0) rfl ag3 (z := (g.getD m 0)) rfl b6.ob.read (Gadd.pins es.pins B) (by omega) (by omega)) (qD rfl (yJ rfl rfl (by omega)) (qD rfl (r_max rfl rfl) (qM (vJ (max bm ((q.bs.getD (g.getD m 0).toNat 0) + 1))) ?_))))
 refine qe (yA (zA (zC ?_)))
 refine qD rfl (yJ rfl rfl (by omega)) (qM (vJ ((m : Int) + 1)) ?_)
 refine qe (yD (⟨_, ?_, _, rfl, _, m + 1, ep, (kxb ++ dig36 (g.getD m 0).toNat) ++ ([44]), max bm ((q.bs.getD (g.getD m 0).toNat 0) + 1), ec, (pS 55 (pS 54 (pS 53 (pS 8 (pS 7 (pS 6 (pS 2 (pS 1 (pU 0))))))))), rfl, es, (dW h5 bf.le), (by omega), (by rw [key_next (by omega), hkb]; simp only [List.append_assoc]), (by rw [hbbm, tR (by omega)]), (by omega), ii, ij, ik, il.symm, im.symm, b6, io⟩))
 omega
 refine wp_exit (zV (yK (yE (zA (zB (zB ?_))))))
 rw [qS (by omega)] at hkb hbbm
 have hkey : kxb = keyN d g := by rw [hkb]; rfl
 have ip := Gadd.pins av.pins kvb
 have l7 := bd.read
 refine yZ (S := fun wz => BxR wz p [L, R, B, (.map (some mm.f)), (.map (some mm.o)), (.map (some mm.c)), (.map (some mm.s)), (.map (some mm.n))] ∧ Pins (Gadd GLb aq kvb) wz) (last := 12) (by kernel_rfl) rfl ?_
 have aw := bdr aq
 have et := av.pins.below aw
 have bh := av.step et aw
 have c1 := bd.below aw
 have iq := cv.below aw
 have ir := be.below aw
 have a := cw.below aw et
 have ac := ip.below aw
 refine dT (i := 0) rfl rfl (by kernel_rfl) (fun _ _ => zR (v := (vP p)) rfl) ⟨a.bx.reads, ac⟩ ?_
 refine dT (i := 1) rfl rfl (by kernel_rfl) (fun _ _ => yU rfl) ⟨a.bx.reads, ac⟩ ?_
 refine dT (i := 2) rfl rfl (by kernel_rfl) (fun _ _ => zK (k := 3) rfl dH rfl nz50 rfl) ⟨a.bx.reads, ac⟩ ?_
 refine dT (i := 3) rfl rfl (by kernel_rfl) (fun _ hS => zL (u := (.map (some mm.f))) ag50 rfl (hS.1 3 _ rfl)) ⟨a.bx.reads, ac⟩ ?_
 refine dT (i := 4) rfl rfl (by kernel_rfl) (fun _ _ => zR (v := kvb) rfl) ⟨a.bx.reads, ac⟩ ?_
 refine dO (i := 5) (zS (i := 5) rfl rfl rfl (zD rfl _) (EO.run (r_b2s dN Tryz.underlying5 dV rfl c1.read (Gadd.pins bh.pins kvb)) ?_))
 refine ⟨fun _ => ⟨a.bx.reads, ac⟩, ?_⟩
 refine dO (i := 6) (zS (i := 6) rfl rfl rfl (zD rfl _) (EO.run (tU (k := (b2s kxb)) (key_str dV) Tryz.underlying50 zr3 a.ff rfl rfl) ?_))
 refine ⟨fun _ => ⟨a.bx.reads, ac⟩, ?_⟩
 refine dT (i := 7) rfl rfl (by kernel_rfl) (fun _ _ => zR (v := (.tuple #[(vJ ((Go.GL.look q.fl (b2s kxb)).getD 0)), (.bool ((Go.GL.look q.fl (b2s kxb)).isSome))])) rfl) ⟨a.bx.reads, ac⟩ ?_
 refine dT (i := 8) rfl rfl (by kernel_rfl) (fun _ _ => zX (v := (vJ ((Go.GL.look q.fl (b2s kxb)).getD 0))) rfl rfl) ⟨a.bx.reads, ac⟩ ?_
 refine dT (i := 9) rfl rfl (by kernel_rfl) (fun _ _ => zX (v := (.bool ((Go.GL.look q.fl (b2s kxb)).isSome))) rfl rfl) ⟨a.bx.reads, ac⟩ ?_
 refine dT (i := 10) rfl rfl (by kernel_rfl) (fun _ _ => qU (v := (vJ ((Go.GL.look q.fl (b2s kxb)).getD 0))) rfl) ⟨a.bx.reads, ac⟩ ?_
 refine dT (i := 11) rfl rfl (by kernel_rfl) (fun _ _ => qU (v := (.bool ((Go.GL.look q.fl (b2s kxb)).isSome))) rfl) ⟨a.bx.reads, ac⟩ ?_
 refine yP (by kernel_rfl) (zA (zB (zC ?_)))
 refine qM (.bool ((Go.GL.look q.fl (b2s kxb)).isSome)) ?_
 refine qe (zA ?_)
 refine c_if rfl rfl (fun c2 => ?_) (fun c2 => ?_)
 refine zB (zC ?_)
 refine qM (vJ ((Go.GL.look q.fl (b2s kxb)).getD 0)) ?_
 refine qM (vJ ((Go.GL.look q.fl (b2s kxb)).getD 0)) ?_
 refine qe (zA ?_)
 refine wp_ret (zO (zQ (v := (vJ ((Go.GL.look q.fl (b2s kxb)).getD 0))) rfl rfl rfl ?_))
 obtain ⟨z, hz⟩ := Option.isSome_iff_exists.1 c2
 have hlk := hz
 rw [hkey, ao, ap] at hlk
 obtain ⟨f1, f2⟩ := lookF hok hk1 hk2 hlk
 rw [hz]
 exact ⟨z, L, R, B, q, GLb, rfl, a, hok, (PX.refl _), PIn.lo hpin rfl, bh, f1, f2, by omega, rfl, Or.inl rfl⟩
 refine wp_skip (zA (zB (zC ?_)))
 refine qM (vP p) ?_
 refine qD rfl (yU rfl) (qD rfl (zK (k := 2) rfl dH rfl nz48 rfl) (qD rfl (zL (u := B) ag48 rfl (a.bx.cell (o := 2) rfl)) (qD rfl (zP dB (v := B) rfl a.ob.read) (qM (vJ (q.bs.length : Int)) ?_))))
 refine qe (zA (zB ?_))
 have hnone : Go.GL.look q.fl (b2s kxb) = none := by simpa using c2
 rw [hkey, ao, ap] at hnone
 have hadd := hok.add (b := bm) hlim hls hk1 hk2 hnone (by rw [hbbm, hbbn, ao, ap])
 have iv := Gadd.pins bh.pins kvb
 have l8 := c1.read
 refine yZ (S := fun wz => BxR wz p [L, R, B, (.map (some mm.f)), (.map (some mm.o)), (.map (some mm.c)), (.map (some mm.s)), (.map (some mm.n))] ∧ Pins (Gadd GLb aq.drew kvb) wz) (last := 7) (by kernel_rfl) rfl ?_
 have ab : Below aq.drew.heap.size aq.drew aq.drew.drew := (Below.refl _ _).drew
 have iw := bh.pins.below ab
 have c3 := bh.step iw ab
 have ix := c1.below ab
 have eu := iq.below ab
 have ev := ir.below ab
 have ew := a.ol.below ab
 have ex := a.rr.below ab
 have ey := a.ob.below ab
 have aj := a.bx.below ab
 have ax := a.ff.below ab
 have iy := a.fo.below ab
 have iz := a.fc.below ab
 have i0 := a.fs.below ab
 have i1 := a.fn.below ab
 have ay := iv.below ab
 refine dT (i := 0) rfl rfl (by kernel_rfl) (fun _ _ => zR (v := (vP p)) rfl) ⟨aj.reads, ay⟩ ?_
 refine dT (i := 1) rfl rfl (by kernel_rfl) (fun _ _ => yU rfl) ⟨aj.reads, ay⟩ ?_
 refine dT (i := 2) rfl rfl (by kernel_rfl) (fun _ _ => zK (k := 3) rfl dH rfl nz50 rfl) ⟨aj.reads, ay⟩ ?_
 refine dT (i := 3) rfl rfl (by kernel_rfl) (fun _ hS => zL (u := (.map (some mm.f))) ag50 rfl (hS.1 3 _ rfl)) ⟨aj.reads, ay⟩ ?_
 refine dT (i := 4) rfl rfl (by kernel_rfl) (fun _ _ => zR (v := kvb) rfl) ⟨aj.reads, ay⟩ ?_
 refine dT (i := 6) rfl rfl (by kernel_rfl) (fun _ _ => zR (v := (vJ (q.bs.length : Int))) rfl) ⟨aj.reads, ay⟩ ?_
 refine dO (i := 5) (zS (i := 5) rfl rfl rfl (zD rfl _) (EO.run (r_b2s dN Tryz.underlying5 dV rfl ix.read (Gadd.pins c3.pins kvb)) ?_))
 refine ⟨fun _ => ⟨aj.reads, ay⟩, ?_⟩
 refine dO (i := 7) (jB (i := 7) rfl rfl rfl (zD rfl _) (qG (val := (fun v : Int => Value.int .i64 v)) (k := (b2s kxb)) (v := (q.bs.length : Int)) (key_str dV) Tryz.underlying50 rfl rfl rfl c3.pins ax (fun l9 i3 i4 ad ma => ?_)))
 have i5 := c3.write i4 ad ((PIn.f hpin))
 have i6 := eu.keptA ad (yN ax eu).symm
 have i7 := ev.keptA ad (yN ax ev).symm
 have i8 := ew.keptA ad (yN ax ew).symm
 have i9 := ex.keptA ad (yN ax ex).symm
 have ja := ey.keptA ad (yN ax ey).symm
 have ez := aj.keptA ad (xN ax aj).symm
 have jb := iy.kept ad (gI a.df.fo).symm
 have jc := iz.kept ad (gI a.df.fc).symm
 have jd := i0.kept ad (gI a.df.fs).symm
 have je := i1.kept ad (gI a.df.fn).symm
 refine ⟨fun h => absurd rfl h, ?_⟩
 refine yP (by kernel_rfl) (zA (zB (zC ?_)))
 refine qM (vP p) ?_
 refine qM (vP p) ?_
 refine qD rfl (yU rfl) (qD rfl (zK (k := 0) rfl dH rfl nz49 rfl) (qD rfl (zL (u := L) ag49 rfl (ez.cell (o := 0) rfl)) (qM t ?_)))
 obtain ⟨jf, b7, c4, e0, bi⟩ := i6.sealed i5
 have jg := i7.moreO b7 bi gu
 have jh := i8.moreO b7 bi (NP.hl bo).symm
 have ji := i9.moreO b7 bi (NP.hr bo).symm
 have jj := ja.moreO b7 bi (NP.hb bo).symm
 have jk := ez.moreO bi (NP.hp bo).symm
 refine qI rfl (yG (E := (eSl eInt)) (e := 48) [t] [d] dK sz48 zr48 (by exact xK (⟨_, rfl, e0⟩)) (yO e0.one) rfl rfl rfl rfl (by decide) c4.pins (fun e1 jl jm jn ae mb => ?_))
 have c5 := c4.step jn ae
 have e2 := jg.below ae
 have a1 := jh.below ae
 have e3 := ji.below ae
 have e4 := jj.below ae
 have e5 := jk.below ae
 have e6 := i3.below ae
 have e7 := jb.below ae
 have e8 := jc.below ae
 have e9 := jd.below ae
 have fa := je.below ae
 have jo := jm.weaken c4.size
 refine qI rfl (oA (E := (eSl eInt)) (v := L) (u := e1) 24 dK ap48 (by decide) rfl rfl c5.pins a1 jo.src (Nat.zero_le _) (fun az mc c6 jp af bj => ?_))
 have fb := c5.write jp af ((PIn.ll hpin))
 have jq := e2.keptA af (NP.hl a0)
 have jr := e3.keptA af a.alr.symm
 have js := e4.keptA af a.alb.symm
 have a2 := e5.keptA af a.apl
 have fd := e6.kept af (yN e6 a1)
 have fe := e7.kept af (yN e7 a1)
 have fg := e8.kept af (yN e8 a1)
 have fh := e9.kept af (yN e9 a1)
 have fi := fa.kept af (yN fa a1)
 have jt := zE (NP.hl a0) bj e2.lt
 have fj := zE a.alr.symm bj e3.lt
 have fk := zE a.alb.symm bj e4.lt
 have b8 := zN a.apl bj e5.lt
 have ju : Lo w (inP p L R B mm) az.ownBlock := nI (PIn.ll hpin) bj c5.size
 have md := la1 (q.ns.map Nd.l) d
 refine qD rfl (yU rfl) (qD rfl (zK (k := 0) rfl dH rfl nz49 rfl) (q0 rfl rfl rfl (o_stp (cs' := [az, R, B, (.map (some mm.f)), (.map (some mm.o)), (.map (some mm.c)), (.map (some mm.s)), (.map (some mm.n))]) (us := [az]) (v := az) sz49 rfl rfl (tD c6.one) (yO c6.one) fb.pins a2 (dZ rfl) rfl (fun me fm jv ag mf => ?_))))
 have jw := fb.write jv ag ((PIn.lp hpin))
 have jx := jq.keptA ag (NP.hp a0)
 have jy := jr.keptA ag a.apr.symm
 have jz := js.keptA ag a.apb.symm
 have j0 := c6.keptA ag b8.symm
 have j1 := fd.kept ag (xN fd a2)
 have j2 := fe.kept ag (xN fe a2)
 have j3 := fg.kept ag (xN fg a2)
 have j4 := fh.kept ag (xN fh a2)
 have j5 := fi.kept ag (xN fi a2)
 refine qe (zA (zB (zC ?_)))
 refine qM (vP p) ?_
 refine qM (vP p) ?_
 refine qD rfl (yU rfl) (qD rfl (zK (k := 1) rfl dH rfl nz49 rfl) (qD rfl (zL (u := R) ag49 rfl (fm.cell (o := 1) rfl)) (qM aa ?_)))
 obtain ⟨c7, c8, c9, fp, b9⟩ := jx.sealed jw
 have j6 := jy.moreO c8 b9 (NP.hr a0).symm
 have j7 := jz.moreO c8 b9 (NP.hb a0).symm
 have j8 := j0.moreO c8 b9 jt.symm
 have j9 := fm.moreO b9 (NP.hp a0).symm
 refine qI rfl (yG (E := (eSl eInt)) (e := 48) [aa] [g] dK sz48 zr48 (by exact xK (⟨_, rfl, fp⟩)) (yO fp.one) rfl rfl rfl rfl (by decide) c9.pins (fun fq ka kb kc ah mg => ?_))
 have da := c9.step kc ah
 have a3 := j6.below ah
 have fr := j7.below ah
 have ft := j8.below ah
 have fu := j9.below ah
 have fv := j1.below ah
 have fw := j2.below ah
 have fx := j3.below ah
 have fy := j4.below ah
 have fz := j5.below ah
 have kd := kb.weaken c9.size
 refine qI rfl (oA (E := (eSl eInt)) (v := R) (u := fq) 24 dK ap48 (by decide) rfl rfl da.pins a3 kd.src (Nat.zero_le _) (fun a4 mh db ke ak ca => ?_))
 have f0 := da.write ke ak ((PIn.lr hpin))
 have kf := fr.keptA ak a.arb.symm
 have kg := ft.keptA ak fj.symm
 have a5 := fu.keptA ak a.apr
 have f3 := fv.kept ak (yN fv a3)
 have f4 := fw.kept ak (yN fw a3)
 have f5 := fx.kept ak (yN fx a3)
 have f6 := fy.kept ak (yN fy a3)
 have f7 := fz.kept ak (yN fz a3)
 have f8 := zE a.arb.symm ca fr.lt
 have kh := zE fj.symm ca ft.lt
 have dc := zN a.apr ca fu.lt
 have ki : Lo w (inP p L R B mm) a4.ownBlock := nI (PIn.lr hpin) ca da.size
 have mi := la1 (q.ns.map Nd.r) g
 refine qD rfl (yU rfl) (qD rfl (zK (k := 1) rfl dH rfl nz49 rfl) (q0 rfl rfl rfl (o_stp (cs' := [az, a4, B, (.map (some mm.f)), (.map (some mm.o)), (.map (some mm.c)), (.map (some mm.s)), (.map (some mm.n))]) (us := [a4]) (v := a4) sz49 rfl rfl (tD db.one) (yO db.one) f0.pins a5 (dZ rfl) rfl (fun mj f9 kj al mk => ?_))))
 have dd := f0.write kj al ((PIn.lp hpin))
 have kk := kf.keptA al a.apb.symm
 have kl := kg.keptA al b8.symm
 have km := db.keptA al dc.symm
 have kn := f3.kept al (xN f3 a5)
 have ko := f4.kept al (xN f4 a5)
 have kp := f5.kept al (xN f5 a5)
 have kq := f6.kept al (xN f6 a5)
 have kr := f7.kept al (xN f7 a5)
 refine qe (zA (zB (zC ?_)))
 refine qM (vP p) ?_
 refine qM (vP p) ?_
 refine qD rfl (yU rfl) (qD rfl (zK (k := 2) rfl dH rfl nz48 rfl) (qD rfl (zL (u := B) ag48 rfl (f9.cell (o := 2) rfl)) (qM (vJ bm) ?_)))
 refine qI rfl (yG (E := eInt) (e := 3) [(vJ bm)] [bm] dB sz3 zr3 (by exact xK (by rfl)) (yO (by rfl)) rfl rfl rfl rfl (by decide) dd.pins (fun ga ks kt ku ai ml => ?_))
 have de := dd.step ku ai
 have a6 := kk.below ai
 have gb := kl.below ai
 have gc := km.below ai
 have gd := f9.below ai
 have ge := kn.below ai
 have gf := ko.below ai
 have gg := kp.below ai
 have gh := kq.below ai
 have gi := kr.below ai
 have kv := kt.weaken dd.size
 refine qI rfl (oA (E := eInt) (v := B) (u := ga) 8 dB ap3 (by decide) rfl rfl de.pins a6 kv.src (Nat.zero_le _) (fun bk mn dg kw am cb => ?_))
 have gj := de.write kw am ((PIn.lb hpin))
 have kx := gb.keptA am fk.symm
 have ky := gc.keptA am f8.symm
 have a7 := gd.keptA am a.apb
 have gk := ge.kept am (yN ge a6)
 have gl := gf.kept am (yN gf a6)
 have gm := gg.kept am (yN gg a6)
 have gn := gh.kept am (yN gh a6)
 have gp := gi.kept am (yN gi a6)
 have kz := zE fk.symm cb gb.lt
 have k0 := zE f8.symm cb gc.lt
 have gq := zN a.apb cb gd.lt
 have k1 : Lo w (inP p L R B mm) bk.ownBlock := nI (PIn.lb hpin) cb de.size
 have mo := la1 q.bs bm
 refine qD rfl (yU rfl) (qD rfl (zK (k := 2) rfl dH rfl nz48 rfl) (q0 rfl rfl rfl (o_stp (cs' := [az, a4, bk, (.map (some mm.f)), (.map (some mm.o)), (.map (some mm.c)), (.map (some mm.s)), (.map (some mm.n))]) (us := [bk]) (v := bk) sz48 rfl rfl (tD dg.one) (yO dg.one) gj.pins a7 (dZ rfl) rfl (fun mp k2 k3 an mq => ?_))))
 have k4 := gj.write k3 an ((PIn.lp hpin))
 have k5 := kx.keptA an b8.symm
 have k6 := ky.keptA an dc.symm
 have k7 := dg.keptA an gq.symm
 have k8 := gk.kept an (xN gk a7)
 have k9 := gl.kept an (xN gl a7)
 have la := gm.kept an (xN gm a7)
 have lc := gn.kept an (xN gn a7)
 have ld := gp.kept an (xN gp a7)
 refine qe (zA (zB (zC ?_)))
 refine qM (vJ (q.bs.length : Int)) ?_
 refine qM (vJ (q.bs.length : Int)) ?_
 refine qe (zA ?_)
 refine wp_ret (zO (zQ (v := (vJ (q.bs.length : Int))) rfl rfl rfl ?_))
 have el : (q.ns.map Nd.l) ++ [d] = (addQ q xs ys bm).ns.map Nd.l := by rw [ao]; simp [addQ]
 have er : (q.ns.map Nd.r) ++ [g] = (addQ q xs ys bm).ns.map Nd.r := by rw [ap]; simp [addQ]
 have ef : putE q.fl (b2s kxb) (q.bs.length : Int) = (addQ q xs ys bm).fl := by rw [hkey, ao, ap, hok.ar.ok.len]; rfl
 have hol := k5
 have hor := k6
 have hff := k8
 rw [el] at hol
 rw [er] at hor
 rw [ef] at hff
 exact ⟨(q.bs.length : Int), az, a4, bk, addQ q xs ys bm, c7, rfl, ⟨k2, hol, hor, k7, hff, k9, la, lc, ld, b8, dc, gq, kh, kz, k0, a.df⟩, hadd.1, hadd.2.1, ⟨ju, ki, k1⟩, k4, by rw [hok.ar.ok.len]; exact hadd.2.2.1, by rw [hok.ar.ok.len]; exact hadd.2.2.2.1, hadd.2.2.2.2, rfl, Or.inr (by omega)⟩
end PO1
end Go.Proofs.YtjdchbdfohiaaaaGreatDoor
