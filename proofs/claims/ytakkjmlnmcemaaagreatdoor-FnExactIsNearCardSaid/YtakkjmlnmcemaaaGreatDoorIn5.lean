/- Texts of this claim. -/
import Derived.Test.YtakkjmlnmcemaaaGreatDoorIn4
import Derived.Test.YtakkjmlnmcemaaaGreatDoorChecked
set_option maxRecDepth 20000
set_option maxHeartbeats 2000000
namespace Go.Proofs.YtakkjmlnmcemaaaGreatDoor
open Go.RowKit Go.GL Go.Proofs
namespace E1
open C1 D1
theorem mk3 : (Tryz.prog.info? 3).map (fun i => (i.size, i.bytes, i.zero)) = some (1, 8, some (.int .i64 0)) := by kernel_rfl
theorem mk4 : (Tryz.prog.info? 4).map (fun i => (i.size, i.bytes, i.zero)) = some (1, 1, some (.bool false)) := by kernel_rfl
theorem pl32 : (Tryz.prog.underlying 32).bind (placesD Tryz.prog) = some [(0, 1)] := by kernel_rfl
theorem pl65 : (Tryz.prog.underlying 65).bind (placesD Tryz.prog) = some [(0, 1), (1, 1)] := by kernel_rfl
theorem pl77 : (Tryz.prog.underlying 77).bind (placesD Tryz.prog) = some [(0, 1), (1, 1)] := by kernel_rfl
variable {G : Pin} {b : Nat} {bu bv x : Value} {ns fs : List Nd} {bs : List Int} {m : Int}
theorem eT {w : World} (hP : Pins G w) (hB : Bk 65 3 G w b bu bv ns bs) (hok : BookOk ns bs) (hx : RSl eNode G x fs) (hf : FormOk fs) (hl : ns.length + fs.length ≤ 1048576) :
  Calls Tryz.prog 82 [vP b, .agg #[x]].toArray w fun e w' => ∃ (r u' v' : Value) (G' : Pin), e = .returned r ∧ RSl eInt G' r (addM ns bs fs).1 ∧ Bk 65 3 G' w' b u' v' (addM ns bs fs).2.1 (addM ns bs fs).2.2 ∧ Ext (inS b bu bv) G w G' w' ∧ Lo w (inS b bu bv) u'.ownBlock ∧ Lo w (inS b bu bv) v'.ownBlock := by
 refine zY (n := 37) Tryz.func82 Tryz.ntmps82 rfl rfl ?_
 have av := exr (inS b bu bv) hP
 have hbx := hB.bx
 have hou := hB.ou
 have hov := hB.ov
 have habu := hB.abu
 have habv := hB.abv
 have hauv := hB.auv
 have hlob : Lo w (inS b bu bv) (some b) := lo_b
 have hlou : Lo w (inS b bu bv) bu.ownBlock := lo_u
 have hlov : Lo w (inS b bu bv) bv.ownBlock := lo_v
 have hlen := hok.len
 have hlim := hok.lim
 refine w9d ?_
 refine qI rfl (xH [x] (v := .agg #[x]) rfl rfl av.pins (fun b1 w2 aw cm cn aj => ?_))
 have co : w.heap.size ≤ b1 := by have := av.size; omega
 obtain ⟨ax, ab, ay, az, a0⟩ := cm.shut (av.step cn aj) co
 have bd := (hou.below aj).moreA ab a0 (zE (cgA some aw) hou.lt).symm
 have be := (hov.below aj).moreA ab a0 (zE (cgA some aw) hov.lt).symm
 have bf := (hbx.below aj).moreA a0 (zI (cgA some aw) hbx.lt).symm
 refine qM vN ?_
 refine qe (w9a ?_)
 refine qI rfl (xE (E := eInt) (e := 3) dE sz3 ay.pins (fun a1 cp cq cr ak a2 => ?_))
 have cs := cq.weaken ay.size
 refine qM a1 ?_
 refine qe (zA (w9b ?_))
 refine qM (vJ 0) ?_
 refine qe (zA ?_)
 refine zZ (yR (fun k en W => ∃ (bg : Nat → Value) (a : Nat) (at_ : Value) (ats : List Int) (m : Value) (o : Value) (g : List Nd) (h : List Int) (t : Pin), en = (upd (upd (upd (upd (upd bg 0 (vP b)) 3 (vP b1)) 4 vN) 5 at_) 6 (vJ (a : Int))) ∧ k = fs.length - a ∧ Ext (inS b bu bv) G w t W ∧ Pin.le ax t ∧ (a ≤ fs.length) ∧ (addM ns bs (fs.take a) = (ats, g, h)) ∧ (AddOk ns a ats g h) ∧ (Own eInt 3 t W w.heap.size at_ (ats)) ∧ (Own eNode 65 t W 0 m (g)) ∧ (Own eInt 3 t W 0 o (h)) ∧ (Bx t W b [m, o]) ∧ (Apart at_.ownBlock m.ownBlock) ∧ (Apart at_.ownBlock o.ownBlock) ∧ (Apart at_.ownBlock (some b)) ∧ (Apart m.ownBlock o.ownBlock) ∧ (Apart m.ownBlock (some b)) ∧ (Apart o.ownBlock (some b)) ∧ (Lo w (inS b bu bv) m.ownBlock) ∧ (Lo w (inS b bu bv) o.ownBlock)) _ ⟨_, 0, a1, [], bu, bv, ns, bs, ax, (pS 6 (pS 5 (pS 4 (pS 3 (pU 0))))), rfl, (ay.step cr ak), cJ _, cI _, rfl, AddOk.start hok, cs, (bd.below ak), (be.below ak), (bf.below ak), (zE a2 bd.lt), (zE a2 be.lt), (zI a2 bf.lt), hauv, habu.symm, habv.symm, hlou, hlov⟩ ?_)
 rintro dj _ a3 ⟨bg, a, at_, ats, m, o, g, h, t, rfl, dk, al, y, hj, hr, hao, bh, bi, bj, bk, bl, bm, am, bn, bo, bp, bq, br⟩
 have hal := hao.len
 have hah := hao.hi
 have hfl := hf.len
 refine w9b ?_
 refine qM (vJ (a : Int)) ?_
 refine qD rfl (zH (k := 0) rfl dJ rfl nz30 rfl) (qD rfl (zJ (u := x) ag30 rfl ((cC al.pins y) _ _ _ (az 0 _ rfl))) (qD rfl (zM dF (v := x) rfl hx) (qD rfl (yU rfl rfl) (qe (zA ?_)))))
 refine yC (p := ((a : Int) : Int) < (fs.length : Int)) rfl rfl (fun ct => ?_) (fun ct => ?_)
 have an := hao.at1 hf (by omega)
 have hfe := hf.lens a (by omega)
 refine cO (zA (zB ?_))
 refine zZ (yW (S := fun wz => Pins t wz) (last := 22) (by kernel_rfl) rfl ?_)
 have ac := bdr a3
 have c := al.step (al.pins.below ac) ac
 have a4 := bh.below ac
 have bt := bi.below ac
 have bw := bj.below ac
 have bz := bk.below ac
 refine dM 0 at_ c.pins ?_
 refine dM 1 (vP b) c.pins ?_
 refine dM 2 at_ c.pins ?_
 refine dT (i := 3) rfl rfl (by kernel_rfl) (fun _ _ => zH (k := 0) rfl dJ rfl nz30 rfl) c.pins ?_
 refine dT (i := 4) rfl rfl (by kernel_rfl) (fun _ hS => zJ (u := x) ag30 rfl ((cC hS y) _ _ _ (az 0 _ rfl))) c.pins ?_
 refine dM 5 (vJ (a : Int)) c.pins ?_
 refine dT (i := 6) rfl rfl (by kernel_rfl) (fun _ _ => zF dF sz65 (v := x) rfl rfl hx (by omega) (by omega)) c.pins ?_
 refine dT (i := 7) rfl rfl (by kernel_rfl) (fun _ _ => xC (off := 0) dG rfl rfl nz56 (z := (a : Int)) (k := 0) rfl hx (by omega) (by omega)) c.pins ?_
 obtain ⟨cu, b0, cv⟩ := jZ (hx.at (z := (a : Int)) (by omega) (by omega)) (j := a) rfl
 have dl := b0.max
 refine dT (i := 8) rfl rfl (by kernel_rfl) (fun _ hS => cv ag56 rfl (cC hS (cB ab y))) c.pins ?_
 refine dM 10 at_ c.pins ?_
 refine dT (i := 11) rfl rfl (by kernel_rfl) (fun _ _ => zH (k := 0) rfl dJ rfl nz30 rfl) c.pins ?_
 refine dT (i := 12) rfl rfl (by kernel_rfl) (fun _ hS => zJ (u := x) ag30 rfl ((cC hS y) _ _ _ (az 0 _ rfl))) c.pins ?_
 refine dM 13 (vJ (a : Int)) c.pins ?_
 refine dT (i := 14) rfl rfl (by kernel_rfl) (fun _ _ => zF dF sz65 (v := x) rfl rfl hx (by omega) (by omega)) c.pins ?_
 refine dT (i := 15) rfl rfl (by kernel_rfl) (fun _ _ => xC (off := 1) dG rfl rfl nz56 (z := (a : Int)) (k := 0) rfl hx (by omega) (by omega)) c.pins ?_
 obtain ⟨cw, b2, cx⟩ := jY (hx.at (z := (a : Int)) (by omega) (by omega)) (j := a) rfl
 have dm := b2.max
 refine dT (i := 16) rfl rfl (by kernel_rfl) (fun _ hS => cx ag56 rfl (cC hS (cB ab y))) c.pins ?_
 refine dP (i := 9) rfl rfl (zL (vs := [at_, cu]) Tryz.func58 nm58 rfl rfl rfl ?_)
 refine cD (jB c.pins (cM c.pins at_) a4.read (b0.mono (cB ab y)) (by omega) an.1) ?_
 rintro _ cy ⟨b3, cz, rfl, af, d⟩
 refine rt9 ?_
 have ag := c.tr d
 have a5 := a4.ext d
 have b4 := bt.ext d
 have b5 := bw.ext d
 have b6 := bz.ext d
 have b7 := af.weaken c.size
 refine ⟨fun _ => (cC ag.pins d.le), ?_⟩
 refine dP (i := 17) rfl rfl (zL (vs := [at_, cw]) Tryz.func58 nm58 rfl rfl rfl ?_)
 refine cD (jB ag.pins (cM ag.pins at_) a5.read (b2.mono (cB (cB ab y) d.le)) (by omega) an.2) ?_
 rintro _ c0 ⟨b8, c1, rfl, ad, f⟩
 refine rt9 ?_
 have b9 := ag.tr f
 have c2 := ad.weaken ag.size
 refine ⟨fun _ => (cC b9.pins (cB d.le f.le)), ?_⟩
 obtain ⟨dn, q, c3, c4, ah⟩ := (b7.ext f).sealed b9
 obtain ⟨dp, s, ao, c5, ap⟩ := (c2.moreO q ah (zT ad.lt b7.lt)).sealed c3
 have a6 := ((a5.ext f).moreO q ah (zT af.lt a4.lt).symm).moreO s ap (zT ad.lt a5.lt).symm
 refine dP (i := 18) rfl rfl (zL (vs := [vP b, b3, b8]) Tryz.func84 nm84 rfl rfl rfl ?_)
 refine cD (put_spec ao.pins ⟨(((b6.ext f).moreO ah (yN af.lt bz.lt).symm).moreO ap (yN ad.lt b6.lt).symm), (((b4.ext f).moreO q ah (zT af.lt bt.lt).symm).moreO s ap (zT ad.lt b4.lt).symm), (((b5.ext f).moreO q ah (zT af.lt bw.lt).symm).moreO s ap (zT ad.lt b5.lt).symm), bo.symm, bp.symm, bn⟩ hao.book (c4.mono s) c5 ⟨by rw [xG]; omega, by rw [xG]; omega⟩ (kD hao.places an.1) (kD hao.places an.2)) ?_
 rintro _ dq ⟨c6, c7, ca, rfl, ae, aa, cb, cc⟩
 refine rt9 ?_
 have a7 : ∀ i, inS b m o i → w.heap.size ≤ i ∨ (inS b bu bv) i := fU hlob bq br
 have aq := ao.trans aa a7
 have a8 := notS (u := m) (v := o) am bl bm
 have cd := vO cb a8 (qG a6)
 have ce := vO cc a8 (qG a6)
 have c8 := qJ cb a7 ao.size
 have c9 := qJ cc a7 ao.size
 refine ⟨fun _ => (cC aq.pins (cB (cB (cB (cB d.le f.le) q) s) aa.le)), ?_⟩
 refine dP (i := 19) rfl rfl (yV (E := eInt) (e := 3) [vJ (putK g h (atL ats ((fs.getD a default).l)) (atL ats ((fs.getD a default).r)))] [putK g h (atL ats ((fs.getD a default).l)) (atL ats ((fs.getD a default).r))] dE sz3 zr3 (by exact xP (by rfl)) (yZ (by rfl)) rfl rfl rfl rfl (by decide) aq.pins (fun cf da db dc ai dr => ?_))
 have ar := aq.step dc ai
 have cg := (a6.extS aa a8).below ai
 have ch := ae.ou.below ai
 have ci := ae.ov.below ai
 have cj := ae.bx.below ai
 have dd := db.weaken aq.size
 refine ⟨fun _ => (cC ar.pins (cB (cB (cB (cB d.le f.le) q) s) aa.le)), ?_⟩
 refine dP (i := 20) rfl rfl (oA (E := eInt) (v := at_) (u := cf) 8 dE ap3 (by decide) rfl rfl ar.pins cg dd.src (ar.size) (fun ck ds de df au a9 => ?_))
 have ba := ar.write df au ((yD cg))
 have dt := la1 ats (putK g h (atL ats ((fs.getD a default).l)) (atL ats ((fs.getD a default).r)))
 refine ⟨fun _ => (cC ba.pins (cB (cB (cB (cB d.le f.le) q) s) aa.le)), ?_⟩
 refine dM 21 ck (cC ba.pins (cB (cB (cB (cB d.le f.le) q) s) aa.le)) ?_
 refine yL (by kernel_rfl) (w9c ?_)
 refine qM (vJ (a : Int)) ?_
 refine qD rfl (yH rfl rfl (by omega)) (qM (vJ ((a : Int) + 1)) ?_)
 refine qe (zV (⟨_, ?_, _, rfl, _, a + 1, ck, (addStep (ats, g, h) (fs.getD a default)).1, c6, c7, (addStep (ats, g, h) (fs.getD a default)).2.1, (addStep (ats, g, h) (fs.getD a default)).2.2, ca, (pS 6 (pS 5 (pS 4 (pS 3 (pU 0))))), rfl, ba, (cB (cB (cB (cB (cB y d.le) f.le) q) s) aa.le), (by omega), ((vI (by omega)).trans (by rw [hr])), (hao.step hf (by omega) hl), de, (ch.keptA au cd.symm), (ci.keptA au ce.symm), (cj.keptA au am.symm), (zD cd.symm a9 ch.lt).symm, (zD ce.symm a9 ci.lt).symm, (zK am.symm a9 cj.lt).symm, ae.auv, ae.abu.symm, ae.abv.symm, c8, c9⟩))
 omega
 refine cQ (zX (yO (yK (w9a ?_))))
 refine qM at_ ?_
 refine qM at_ ?_
 refine qe (zA ?_)
 refine cP (zP (zQ (v := at_) rfl rfl rfl ?_))
 obtain ⟨du, cl, dg, dh, bb⟩ := bh.sealed al
 rw [kE (by omega)] at hr
 refine ⟨_, m, o, _, rfl, ?_, ?_, dg, bq, br⟩
 ·rw [hr]; exact dh
 ·rw [hr]; exact ⟨(bk.moreO bb am.symm), (bi.moreO cl bb bl.symm), (bj.moreO cl bb bm.symm), bo.symm, bp.symm, bn⟩
theorem root_spec {w : World} (hP : Pins G w) (hB : Bk 65 3 G w b bu bv ns bs) (hok : BookOk ns bs) (hx : RSl eNode G x fs) (hf : FormOk fs ∧ 1 ≤ fs.length) (hl : ns.length + fs.length ≤ 1048576) :
  Calls Tryz.prog 54 [vP b, .agg #[x]].toArray w fun e w' => ∃ (u' v' : Value) (G' : Pin), e = .returned (vJ (rootM ns bs fs)) ∧ Bk 65 3 G' w' b u' v' (addM ns bs fs).2.1 (addM ns bs fs).2.2 ∧ Ext (inS b bu bv) G w G' w' ∧ Lo w (inS b bu bv) u'.ownBlock ∧ Lo w (inS b bu bv) v'.ownBlock := by
 refine zY (n := 15) Tryz.func54 Tryz.ntmps54 rfl rfl ?_
 have g := exr (inS b bu bv) hP
 have hbx := hB.bx
 have hou := hB.ou
 have hov := hB.ov
 have habu := hB.abu
 have habv := hB.abv
 have hauv := hB.auv
 have hlob : Lo w (inS b bu bv) (some b) := lo_b
 have hlou : Lo w (inS b bu bv) bu.ownBlock := lo_u
 have hlov : Lo w (inS b bu bv) bv.ownBlock := lo_v
 have hlen := hok.len
 have hlim := hok.lim
 have hal := (fL hok hf.1 hl).len
 have hfl := hf.1.len
 refine w9d ?_
 refine qI rfl (xH [x] (v := .agg #[x]) rfl rfl g.pins (fun q w2 h s t f => ?_))
 have y : w.heap.size ≤ q := by have := g.size; omega
 obtain ⟨ah, k, c, aa, l⟩ := s.shut (g.step t f) y
 refine qM (vJ 0) ?_
 refine qe (w9a ?_)
 refine qM (vP b) ?_
 refine qD rfl (yA (cs := [x]) ag32 sz32 rfl (fun j u hj => c.pins _ _ _ (aa _ _ (by simpa using hj)))) (qI rfl (zL (vs := [vP b, .agg #[x]]) Tryz.func82 nm82 rfl rfl rfl ?_))
 refine cD (eT c.pins ⟨((hbx.below f).moreA l (zI (cgA some h) hbx.lt).symm), ((hou.below f).moreA k l (zE (cgA some h) hou.lt).symm), ((hov.below f).moreA k l (zE (cgA some h) hov.lt).symm), habu, habv, hauv⟩ hok (hx.mono k) hf.1 (by first | omega | (simp; omega))) ?_
 rintro _ ai ⟨d, aj, ak, al, rfl, m, a, ab, ac, ad⟩
 refine rt9 ?_
 have o : ∀ i, inS b bu bv i → w.heap.size ≤ i ∨ (inS b bu bv) i := fU hlob hlou hlov
 have p := c.trans ab o
 have ae := qJ ac o c.size
 have af := qJ ad o c.size
 refine qM d ?_
 refine qe (w9a ?_)
 refine qM d ?_
 refine qM d ?_
 refine qD rfl (zM dE (v := d) rfl m) (qD rfl (xY rfl rfl (by omega)) (qD rfl (zF dE sz3 (v := d) rfl rfl m (by omega) (by omega)) (qD rfl (zG (r := ((addM ns bs fs).1).getD ((((addM ns bs fs).1).length : Int) - 1).toNat 0) rfl ag3 (z := (((addM ns bs fs).1).length : Int) - 1) rfl m p.pins (by omega) (by omega)) (qM (vJ (((addM ns bs fs).1).getD ((((addM ns bs fs).1).length : Int) - 1).toNat 0)) ?_))))
 refine qe (zA ?_)
 exact cP (zP (zQ (v := vJ (((addM ns bs fs).1).getD ((((addM ns bs fs).1).length : Int) - 1).toNat 0)) rfl rfl rfl (⟨_, _, _, cgA eI (by unfold rootM; rw [show (((addM ns bs fs).1.length : Int) - 1).toNat = (addM ns bs fs).1.length - 1 by omega]), ⟨a.bx, a.ou, a.ov, a.abu, a.abv, a.auv⟩, p, ae, af⟩)))
theorem reached_spec {w : World} (hP : Pins G w) (hB : Bk 65 3 G w b bu bv ns bs) (hok : BookOk ns bs) (hm : 0 ≤ m ∧ m < ns.length) :
  Calls Tryz.prog 79 #[vP b, vJ m] w fun e w' => ∃ (u : Value) (G' : Pin), e = .returned u ∧ Own eBool 4 G' w' w.heap.size u (reachM ns m.toNat) ∧ Ext noS G w G' w' := by
 refine zY (n := 78) Tryz.func79 Tryz.ntmps79 rfl rfl ?_
 have ai := exr noS hP
 have hbx := hB.bx
 have hou := hB.ou
 have hov := hB.ov
 have habu := hB.abu
 have habv := hB.abv
 have hauv := hB.auv
 have hlob : Lo w (inS b bu bv) (some b) := lo_b
 have hlou : Lo w (inS b bu bv) bu.ownBlock := lo_u
 have hlov : Lo w (inS b bu bv) bv.ownBlock := lo_v
 have hlen := hok.len
 have hlim := hok.lim
 have hoo : OptsOk ns := hok.optsOk
 refine w9d ?_
 refine qM vN ?_
 refine qe (w9a ?_)
 refine qM (vJ m) ?_
 refine qD rfl (yH rfl rfl (by omega)) (qI rfl (fR (E := eBool) false 1 (.bool false) dI mk4 (fun _ => rfl) rfl rfl ai.pins (by omega) (by omega) (by omega) (fun a w2 a6 a7 y aj => ?_)))
 have ar := ai.step a7 y
 have ak := zE aj hou.lt
 have al := zE aj hov.lt
 have am := zI aj hbx.lt
 have an : Own eBool 4 G w2 w.heap.size a (List.replicate (m + 1).toNat false) := a6.weaken ai.size
 have bt : (List.replicate (m + 1).toNat false).length = (m + 1).toNat := List.length_replicate ..
 refine qM a ?_
 refine qe (w9a ?_)
 refine qM a ?_
 refine qM (vJ m) ?_
 refine qD rfl (zF dI sz4 (v := a) rfl rfl an.read (by omega) (by omega)) (q0 rfl rfl rfl (jK (E := eBool) (v := a) (u := .bool true) (z := m) (true) sz4 rfl rfl rfl rfl ar.pins an (by omega) (by omega) (fun bw a8 a9 aa bz => ?_)))
 have ba := (hou.below y).keptA aa ak.symm
 have bb := (hov.below y).keptA aa al.symm
 have bc := (hbx.below y).keptA aa am.symm
 refine qe (zA (w9b ?_))
 refine qM (vJ m) ?_
 refine qM (vJ m) ?_
 refine qe (zA ?_)
 refine zZ (yR (fun k en W => ∃ (d : Nat → Value) (z : Int) (is : List Bool), en = (upd (upd (upd (upd d 0 (vP b)) 4 vN) 5 a) 6 (vJ z)) ∧ k = (z + 1).toNat ∧ Ext noS G w G W ∧ (-1 ≤ z ∧ z ≤ m) ∧ (is.length = m.toNat + 1) ∧ (reachM ns m.toNat = ugo ns (z + 1).toNat is) ∧ (Own eBool 4 G W w.heap.size a (is)) ∧ (Own eNode 65 G W 0 bu (ns)) ∧ (Own eInt 3 G W 0 bv (bs)) ∧ (Bx G W b [bu, bv])) _ ⟨_, m, (List.replicate (m + 1).toNat false).set m.toNat true, (pS 6 (pS 5 (pS 4 (pU 0)))), rfl, (ar.write a9 aa ((yD an))), (by omega), (by simp; omega), (by rw [show (m + 1).toNat = m.toNat + 1 by omega]; rfl), a8, ba, bb, bc⟩ ?_)
 rintro b0 _ b1 ⟨d, z, is, rfl, b2, ab, hz, hnis, hr, x, au, av, aw⟩
 refine w9b ?_
 refine qM (vJ z) ?_
 refine qD rfl (gP rfl rfl) (qe (zA ?_))
 refine yC (p := (0 : Int) ≤ z) rfl rfl (fun bd => ?_) (fun bd => ?_)
 refine cO (zA (zB ?_))
 refine zZ (w9b ?_)
 refine qM a ?_
 refine qM (vJ z) ?_
 refine qD rfl (zF dI sz4 (v := a) rfl rfl x.read (by omega) (by omega)) (qD rfl (xQ (r := is.getD (z).toNat false) rfl ag4 (z := z) rfl x.read (cM ab.pins a) (by omega) (by omega)) (qD rfl (xD rfl) (qe (zA ?_))))
 refine xU rfl rfl (fun ao => ?_) (fun ao => ?_)
 refine cO (zA (w9b ?_))
 refine qM (vJ 0) ?_
 refine qe (zA ?_)
 refine zZ (yR (fun k en W => ∃ (d : Nat → Value) (i : Nat) (h : List Bool), en = (upd (upd (upd (upd (upd d 0 (vP b)) 4 vN) 5 a) 6 (vJ z)) 7 (vJ (i : Int))) ∧ k = (ns.getD (z).toNat default).l.length - i ∧ Ext noS G w G W ∧ (i ≤ (ns.getD (z).toNat default).l.length) ∧ (h.length = m.toNat + 1) ∧ (setAll is (ns.getD (z).toNat default).l = setAll h ((ns.getD (z).toNat default).l.drop i)) ∧ (Own eBool 4 G W w.heap.size a (h)) ∧ (Own eNode 65 G W 0 bu (ns)) ∧ (Own eInt 3 G W 0 bv (bs)) ∧ (Bx G W b [bu, bv])) _ ⟨_, 0, is, (pS 7 (pS 6 (pS 5 (pS 4 (pU 0))))), rfl, ab, cI _, hnis, rfl, x, au, av, aw⟩ ?_)
 rintro b3 _ b4 ⟨d, i, h, rfl, b5, q, hii, ax, ay, ac, f, az, ad⟩
 refine w9b ?_
 refine qM (vJ (i : Int)) ?_
 refine qM (vP b) ?_
 refine qD rfl (yY rfl) (qD rfl (zH (k := 0) rfl dL rfl nz30 rfl) (qD rfl (zJ (u := bu) ag30 rfl (ad.cell (o := 0) rfl)) (qM (vJ z) ?_)))
 refine qD rfl (zF dF sz65 (v := bu) rfl rfl f.read (by omega) (by omega)) (qD rfl (xC (off := 0) dG rfl rfl nz56 (z := z) (k := 0) rfl f.read (by omega) (by omega)) ?_)
 obtain ⟨be, a0, bf⟩ := jZ (f.at (z := z) (by omega) (by omega)) (j := (z).toNat) rfl
 have b6 := a0.max
 refine qD rfl (bf ag56 rfl (cM q.pins bu)) (qD rfl (zM dE (v := be) rfl a0) (qD rfl (yU rfl rfl) (qe (zA ?_))))
 refine yC (p := ((i : Int) : Int) < (((ns.getD (z).toNat default).l).length : Int)) rfl rfl (fun bg => ?_) (fun bg => ?_)
 have hk := hoo.left (j := (z).toNat) (i := i) (by omega) (by omega)
 refine cO (zA (zB ?_))
 refine zZ (zC (qM a ?_))
 refine qM (vP b) ?_
 refine qD rfl (yY rfl) (qD rfl (zH (k := 0) rfl dL rfl nz30 rfl) (qD rfl (zJ (u := bu) ag30 rfl (ad.cell (o := 0) rfl)) (qM (vJ z) ?_)))
 refine qD rfl (zF dF sz65 (v := bu) rfl rfl f.read (by omega) (by omega)) (qD rfl (xC (off := 0) dG rfl rfl nz56 (z := z) (k := 0) rfl f.read (by omega) (by omega)) ?_)
 obtain ⟨bh, ap, bi⟩ := jZ (f.at (z := z) (by omega) (by omega)) (j := (z).toNat) rfl
 have b7 := ap.max
 refine qD rfl (bi ag56 rfl (cM q.pins bu)) (qM (vJ (i : Int)) ?_)
 refine qD rfl (zF dE sz3 (v := bh) rfl rfl ap (by omega) (by omega)) (qD rfl (zG (r := ((ns.getD (z).toNat default).l).getD i 0) rfl ag3 (z := (i : Int)) rfl ap q.pins (by omega) (by omega)) (qD rfl (zF dI sz4 (v := a) rfl rfl ac.read (by omega) (by omega)) (q0 rfl rfl rfl (jK (E := eBool) (v := a) (u := .bool true) (z := ((ns.getD (z).toNat default).l).getD i 0) (true) sz4 rfl rfl rfl rfl q.pins ac (by omega) (by omega) (fun b8 bj bk ae b9 => ?_)))))
 refine qe (w9c ?_)
 refine qM (vJ (i : Int)) ?_
 refine qD rfl (yH rfl rfl (by omega)) (qM (vJ ((i : Int) + 1)) ?_)
 refine qe (zV (⟨_, ?_, _, rfl, _, i + 1, h.set ((ns.getD (z).toNat default).l.getD i 0).toNat true, (pS 7 (pS 6 (pS 5 (pS 4 (pU 0))))), rfl, (q.write bk ae ((yD ac))), (by omega), ((cT ..).trans ax), (ay.trans (kN (by omega))), bj, (f.keptA ae ak.symm), (az.keptA ae al.symm), (ad.keptA ae am.symm)⟩))
 omega
 refine cQ (zX (yO (yK (w9a ?_))))
 refine qM (vJ 0) ?_
 refine qe (zA ?_)
 refine zZ (yR (fun k en W => ∃ (d : Nat → Value) (c : Nat) (s : List Bool), en = (upd (upd (upd (upd (upd d 0 (vP b)) 4 vN) 5 a) 6 (vJ z)) 8 (vJ (c : Int))) ∧ k = (ns.getD (z).toNat default).r.length - c ∧ Ext noS G w G W ∧ (c ≤ (ns.getD (z).toNat default).r.length) ∧ (s.length = m.toNat + 1) ∧ (setAll h (ns.getD (z).toNat default).r = setAll s ((ns.getD (z).toNat default).r.drop c)) ∧ (Own eBool 4 G W w.heap.size a (s)) ∧ (Own eNode 65 G W 0 bu (ns)) ∧ (Own eInt 3 G W 0 bv (bs)) ∧ (Bx G W b [bu, bv])) _ ⟨_, 0, h, (pS 8 (pS 6 (pS 5 (pS 4 (pU 0))))), rfl, q, cI _, ax, rfl, ac, f, az, ad⟩ ?_)
 rintro ca _ cb ⟨d, c, s, rfl, cc, t, cd, a1, a2, af, g, a3, ag⟩
 refine w9b ?_
 refine qM (vJ (c : Int)) ?_
 refine qM (vP b) ?_
 refine qD rfl (yY rfl) (qD rfl (zH (k := 0) rfl dL rfl nz30 rfl) (qD rfl (zJ (u := bu) ag30 rfl (ag.cell (o := 0) rfl)) (qM (vJ z) ?_)))
 refine qD rfl (zF dF sz65 (v := bu) rfl rfl g.read (by omega) (by omega)) (qD rfl (xC (off := 1) dG rfl rfl nz56 (z := z) (k := 0) rfl g.read (by omega) (by omega)) ?_)
 obtain ⟨bl, a4, bm⟩ := jY (g.at (z := z) (by omega) (by omega)) (j := (z).toNat) rfl
 have ce := a4.max
 refine qD rfl (bm ag56 rfl (cM t.pins bu)) (qD rfl (zM dE (v := bl) rfl a4) (qD rfl (yU rfl rfl) (qe (zA ?_))))
 refine yC (p := ((c : Int) : Int) < (((ns.getD (z).toNat default).r).length : Int)) rfl rfl (fun bn => ?_) (fun bn => ?_)
 have hk := hoo.right (j := (z).toNat) (i := c) (by omega) (by omega)
 refine cO (zA (zB ?_))
 refine zZ (zC (qM a ?_))
 refine qM (vP b) ?_
 refine qD rfl (yY rfl) (qD rfl (zH (k := 0) rfl dL rfl nz30 rfl) (qD rfl (zJ (u := bu) ag30 rfl (ag.cell (o := 0) rfl)) (qM (vJ z) ?_)))
 refine qD rfl (zF dF sz65 (v := bu) rfl rfl g.read (by omega) (by omega)) (qD rfl (xC (off := 1) dG rfl rfl nz56 (z := z) (k := 0) rfl g.read (by omega) (by omega)) ?_)
 obtain ⟨bo, aq, bp⟩ := jY (g.at (z := z) (by omega) (by omega)) (j := (z).toNat) rfl
 have cf := aq.max
 refine qD rfl (bp ag56 rfl (cM t.pins bu)) (qM (vJ (c : Int)) ?_)
 refine qD rfl (zF dE sz3 (v := bo) rfl rfl aq (by omega) (by omega)) (qD rfl (zG (r := ((ns.getD (z).toNat default).r).getD c 0) rfl ag3 (z := (c : Int)) rfl aq t.pins (by omega) (by omega)) (qD rfl (zF dI sz4 (v := a) rfl rfl af.read (by omega) (by omega)) (q0 rfl rfl rfl (jK (E := eBool) (v := a) (u := .bool true) (z := ((ns.getD (z).toNat default).r).getD c 0) (true) sz4 rfl rfl rfl rfl t.pins af (by omega) (by omega) (fun cg bq br ah ch => ?_)))))
 refine qe (w9c ?_)
 refine qM (vJ (c : Int)) ?_
 refine qD rfl (yH rfl rfl (by omega)) (qM (vJ ((c : Int) + 1)) ?_)
 refine qe (zV (⟨_, ?_, _, rfl, _, c + 1, s.set ((ns.getD (z).toNat default).r.getD c 0).toNat true, (pS 8 (pS 6 (pS 5 (pS 4 (pU 0))))), rfl, (t.write br ah ((yD af))), (by omega), ((cT ..).trans a1), (a2.trans (kN (by omega))), bq, (g.keptA ah ak.symm), (a3.keptA ah al.symm), (ag.keptA ah am.symm)⟩))
 omega
 refine cQ (zX (yO (yK (w9c ?_))))
 refine qM (vJ z) ?_
 refine qD rfl (xY rfl rfl (by omega)) (qM (vJ (z - 1)) ?_)
 refine qe (zV (⟨_, ?_, _, rfl, _, z - 1, s, (pS 6 (pS 5 (pS 4 (pU 0)))), rfl, t, (by omega), a1, (hr.trans ((rI (by omega)).trans (by rw [tF ao, ay, fP (by omega), a2, fP (by omega)]))), af, g, a3, ag⟩))
 omega
 refine cQ (zX (yK (zA (zC ?_))))
 refine qM (vJ z) ?_
 refine qD rfl (xY rfl rfl (by omega)) (qM (vJ (z - 1)) ?_)
 refine qe (zV (⟨_, ?_, _, rfl, _, z - 1, is, (pS 6 (pS 5 (pS 4 (pU 0)))), rfl, ab, (by omega), hnis, (hr.trans ((rI (by omega)).trans (by rw [sA ao]))), x, au, av, aw⟩))
 omega
 refine cQ (zX (yO (yK (w9a ?_))))
 refine qM a ?_
 refine qM a ?_
 refine qe (zA ?_)
 exact cP (zP (zQ (v := a) rfl rfl rfl (⟨_, _, rfl, (by rw [hr, ugo_end (by omega)]; exact x), ab⟩)))
theorem form_own {w : World} (hP : Pins G w) (hB : Bk 65 3 G w b bu bv ns bs) (hok : BookOk ns bs) (hm : 0 ≤ m ∧ m < ns.length) :
  Calls Tryz.prog 53 #[vP b, vJ m] w fun e w' => ∃ (u : Value) (G' : Pin), e = .returned (.agg #[u]) ∧ RSl eNode G' u (formM ns bs m.toNat) ∧ Ext noS G w G' w' ∧ ∃ Gi, Own eNode 65 Gi w' w.heap.size u (formM ns bs m.toNat) ∧ Pin.le Gi G' := by
 refine zY (n := 143) Tryz.func53 Tryz.ntmps53 rfl rfl ?_
 have iq := exr noS hP
 have hbx := hB.bx
 have hou := hB.ou
 have hov := hB.ov
 have habu := hB.abu
 have habv := hB.abv
 have hauv := hB.auv
 have hlob : Lo w (inS b bu bv) (some b) := lo_b
 have hlou : Lo w (inS b bu bv) bu.ownBlock := lo_u
 have hlov : Lo w (inS b bu bv) bv.ownBlock := lo_v
 have hlen := hok.len
 have hlim := hok.lim
 have hoo : OptsOk ns := hok.optsOk
 refine w9d ?_
 refine qI rfl (yI [vN] zr32 rfl iq.pins (fun b1 w2 hk3 mj hp5 gm => ?_))
 have ir := iq.step hp5 gm
 have it := hou.below gm
 have iu := hov.below gm
 have iv := hbx.below gm
 have aac : w.heap.size ≤ b1 := by have := iq.size; omega
 refine qe (w9a ?_)
 refine qM (vP b) ?_
 refine qM (vJ m) ?_
 refine qI rfl (zL (vs := [vP b, vJ m]) Tryz.func79 nm79 rfl rfl rfl ?_)
 refine cD (reached_spec ir.pins ⟨iv, it, iu, habu, habv, hauv⟩ hok hm) ?_
 rintro _ w17 ⟨aw, G16, rfl, fy, fz⟩
 refine rt9 ?_
 have aaf := fy.weaken ir.size
 obtain ⟨gn, mk, iw, ml, gp⟩ := aaf.sealed (ir.tr fz)
 have mm := (it.ext fz).moreO mk gp (zT fy.lt it.lt).symm
 have mn := (iu.ext fz).moreO mk gp (zT fy.lt iu.lt).symm
 have mo := (iv.ext fz).moreO gp (yN fy.lt iv.lt).symm
 have mp := (mj.ext fz).moreO gp (yN fy.lt mj.lt).symm
 have hnl := fQ ns m.toNat
 refine qM aw ?_
 refine qe (w9a ?_)
 refine qM (vJ m) ?_
 refine qD rfl (yH rfl rfl (by omega)) (qI rfl (fR (E := eInt) 0 8 (vJ 0) dE mk3 (fun _ => rfl) rfl rfl iw.pins (by omega) (by omega) (by omega) (fun ix w40 aah aai f0 gq => ?_)))
 have iy := iw.step aai f0
 have mq := mm.below f0
 have mr := mn.below f0
 have ms := mo.below f0
 have mt := mp.below f0
 have aaj := zE gq mm.lt
 have aak := zE gq mn.lt
 have aal := zI gq mo.lt
 have aam := zI gq mp.lt
 have mu : Own eInt 3 gn w40 w.heap.size ix (List.replicate (m + 1).toNat 0) := aah.weaken iw.size
 have aid : (List.replicate (m + 1).toNat 0).length = (m + 1).toNat := List.length_replicate ..
 refine qM ix ?_
 refine qe (w9a ?_)
 refine qI rfl (xE (E := eNode) (e := 65) dF sz65 iy.pins (fun ct w57 aao aap ff f1 => ?_))
 have iz := iy.step aap ff
 have mv := mq.below ff
 have mw := mr.below ff
 have mx := mu.below ff
 have my := ms.below ff
 have mz := mt.below ff
 have aaq := zE f1 mq.lt
 have aar := zE f1 mr.lt
 have aas := zE f1 mu.lt
 have aat := zI f1 ms.lt
 have aau := zI f1 mt.lt
 have i0 := aao.weaken iy.size
 refine qD rfl (yS [vN] [ct] [(0, ct, [ct])] dJ zr32 rfl pl32 rfl (cN.2 ⟨(xR i0.one), (fun _ h => by cases h)⟩) rfl) (qI rfl (yI [vN] zr32 rfl iz.pins (fun y w75 fg aav aaw d2 => ?_)))
 have m0 := iz.step aaw d2
 have m1 := i0.below d2
 have m2 := zE (cgA some fg) mv.lt
 have m3 := zE (cgA some fg) mw.lt
 have m4 := zE (cgA some fg) mx.lt
 have m5 := zE (cgA some fg) i0.lt
 have m6 := zI (cgA some fg) my.lt
 have m7 := zI (cgA some fg) mz.lt
 have m8 : w.heap.size ≤ y := by have := iz.size; omega
 refine q0 rfl rfl rfl (o_stp (cs' := [ct]) (us := [ct]) (v := .agg #[ct]) sz32 rfl rfl rfl (yZ m1.one) m0.pins aav (cE rfl) rfl (fun w94 aax aay d3 aig => ?_))
 have aaz := m0.write aay d3 ((zS m8))
 have aa0 := (mv.below d2).keptA d3 m2.symm
 have aa1 := (mw.below d2).keptA d3 m3.symm
 have aa2 := (mx.below d2).keptA d3 m4.symm
 have aa3 := m1.keptA d3 m5.symm
 have aa4 := (my.below d2).keptA d3 m6.symm
 have aa5 := (mz.below d2).keptA d3 m7.symm
 refine qe (zA (w9b ?_))
 refine qM (vJ 0) ?_
 refine qe (zA ?_)
 refine zZ (yR (fun k en W => ∃ (ab : Nat → Value) (q : Nat) (at_ : Value) (ats : List Int) (ov : Value) (outs : List Nd) (aq : Pin), en = (upd (upd (upd (upd (upd (upd (upd ab 0 (vP b)) 1 (vJ m)) 4 (vP b1)) 5 aw) 6 at_) 7 (vP y)) 8 (vJ (q : Int))) ∧ k = (bs.getD m.toNat 0).toNat + 1 - q ∧ Ext noS G w aq W ∧ Pin.le gn aq ∧ (q ≤ (bs.getD m.toNat 0).toNat + 1) ∧ (formGo ns bs (reachM ns m.toNat) (m.toNat + 1) q = (ats, outs)) ∧ (ats.length = m.toNat + 1) ∧ (outs.length ≤ q * 1048576) ∧ (Own eInt 3 aq W w.heap.size at_ (ats)) ∧ (Own eNode 65 aq W w.heap.size ov (outs)) ∧ (Own eNode 65 aq W 0 bu (ns)) ∧ (Own eInt 3 aq W 0 bv (bs)) ∧ (Bx aq W b [bu, bv]) ∧ (Bx aq W b1 [vN]) ∧ (Bx aq W y [ov]) ∧ (Apart at_.ownBlock ov.ownBlock) ∧ (Apart at_.ownBlock bu.ownBlock) ∧ (Apart at_.ownBlock bv.ownBlock) ∧ (Apart at_.ownBlock (some b)) ∧ (Apart at_.ownBlock (some b1)) ∧ (Apart at_.ownBlock (some y)) ∧ (Apart ov.ownBlock bu.ownBlock) ∧ (Apart ov.ownBlock bv.ownBlock) ∧ (Apart ov.ownBlock (some b)) ∧ (Apart ov.ownBlock (some b1)) ∧ (Apart ov.ownBlock (some y))) _ ⟨_, 0, ix, List.replicate (m + 1).toNat 0, ct, [], gn, (pS 8 (pS 7 (pS 6 (pS 5 (pS 4 (pS 1 (pU 0))))))), rfl, aaz, cJ _, cI _, (by rw [show (m + 1).toNat = m.toNat + 1 by omega]; rfl), (by simp; omega), cH 0, aa2, aa3, aa0, aa1, aa4, aa5, aax, aas.symm, aaj, aak, aal, aam, m4.symm, aaq, aar, aat, aau, m5.symm⟩ ?_)
 rintro aih _ aii ⟨ab, q, at_, ats, ov, outs, aq, rfl, aij, fh, m9, hq, hr, hatl, hol, na, gr, nb, gs, i1, i2, i3, aa6, aa7, aa8, aa9, aba, abb, abc, abd, abe, nc, abf⟩
 have hbm := hok.born m.toNat (by omega)
 refine w9b ?_
 refine qM (vJ (q : Int)) ?_
 refine qM (vP b) ?_
 refine qD rfl (yY rfl) (qD rfl (zH (k := 1) rfl dL rfl nz56 rfl) (qD rfl (zJ (u := bv) ag56 rfl (i1.cell (o := 1) rfl)) (qM (vJ m) ?_)))
 refine qD rfl (zF dE sz3 (v := bv) rfl rfl gs.read (by omega) (by omega)) (qD rfl (zG (r := bs.getD (m).toNat 0) rfl ag3 (z := m) rfl gs.read (cM fh.pins bv) (by omega) (by omega)) (qD rfl (tR rfl rfl) (qe (zA ?_))))
 refine yC (p := ((q : Int) : Int) ≤ (bs.getD (m).toNat 0)) rfl rfl (fun abg => ?_) (fun abg => ?_)
 refine cO (zA (zB ?_))
 refine zZ (w9d ?_)
 refine qI rfl (xE (E := eNode) (e := 65) dF sz65 fh.pins (fun i5 abh abi abj cu d4 => ?_))
 have i6 := fh.step abj cu
 have nd := na.below cu
 have ne := gr.below cu
 have nf := nb.below cu
 have ng := gs.below cu
 have nh := i1.below cu
 have ni := i2.below cu
 have nj := i3.below cu
 have nk := abi.weaken fh.size
 refine qI rfl (xE (E := eInt) (e := 3) dE sz3 i6.pins (fun i7 abk abl abm bp cv => ?_))
 have abn := abl.weaken i6.size
 refine qM i5 ?_
 refine qM i7 ?_
 refine qe (zA (w9b ?_))
 refine qM (vJ 0) ?_
 refine qe (zA ?_)
 refine zZ ?_
 obtain ⟨aik, d5, abo, abp, cw⟩ := (nk.below bp).sealed (i6.step abm bp)
 have abq := (nd.below bp).moreO d5 cw (zE d4 na.lt).symm
 obtain ⟨nl, d6, abr, abs, d7⟩ := (abn.moreO d5 cw (zE cv nk.lt)).sealed abo
 have abt := ((ne.below bp).moreO d5 cw (zE d4 gr.lt).symm).moreO d6 d7 (zE cv ne.lt).symm
 have abw := ((nf.below bp).moreO d5 cw (zE d4 nb.lt).symm).moreO d6 d7 (zE cv nf.lt).symm
 have abx := ((ng.below bp).moreO d5 cw (zE d4 gs.lt).symm).moreO d6 d7 (zE cv ng.lt).symm
 have aby := ((nh.below bp).moreO cw (zI d4 i1.lt).symm).moreO d7 (zI cv nh.lt).symm
 have abz := ((ni.below bp).moreO cw (zI d4 i2.lt).symm).moreO d7 (zI cv ni.lt).symm
 have ab0 := ((nj.below bp).moreO cw (zI d4 i3.lt).symm).moreO d7 (zI cv nj.lt).symm
 refine yR (fun k en W => ∃ (ab : Nat → Value) (c : Nat) (lv : Value) (ls : List Nd) (fv : Value) (fr : List Int) (ah : Pin), en = (upd (upd (upd (upd (upd (upd (upd (upd (upd (upd ab 0 (vP b)) 1 (vJ m)) 4 (vP b1)) 5 aw) 6 at_) 7 (vP y)) 8 (vJ (q : Int))) 9 lv) 10 fv) 11 (vJ (c : Int))) ∧ k = m.toNat + 1 - c ∧ Ext noS G w ah W ∧ Pin.le nl ah ∧ (c ≤ m.toNat + 1) ∧ (lvM ns bs (reachM ns m.toNat) ats q c = (ls, fr)) ∧ (ls.length = fr.length ∧ ls.length ≤ c) ∧ (∀ i, i < fr.length → 0 ≤ fr.getD i 0 ∧ fr.getD i 0 ≤ m) ∧ (Own eInt 3 ah W w.heap.size at_ (ats)) ∧ (Own eNode 65 ah W w.heap.size ov (outs)) ∧ (Own eNode 65 ah W 0 bu (ns)) ∧ (Own eInt 3 ah W 0 bv (bs)) ∧ (Bx ah W b [bu, bv]) ∧ (Bx ah W b1 [vN]) ∧ (Bx ah W y [ov]) ∧ (RSl eNode ah lv (ls)) ∧ (RSl eInt ah fv (fr))) _ ⟨_, 0, i5, [], i7, [], nl, (pS 11 (pS 10 (pS 9 (pS 8 (pS 7 (pS 6 (pS 5 (pS 4 (pS 1 (pU 0)))))))))), rfl, abr, cJ _, cI _, rfl, ⟨rfl, cH 0⟩, (fun i hi => absurd hi (cK i)), (abq.moreO d6 d7 (zE cv nd.lt).symm), abt, abw, abx, aby, abz, ab0, (abp.mono d6), abs⟩ ?_
 rintro ail _ gt ⟨ab, c, lv, ls, fv, fr, ah, rfl, aim, cx, f2, hk5, hrl, hll, hfb, gu, gv, d8, fi, f3, gw, gx, be, fj⟩
 refine w9b ?_
 refine qM (vJ (c : Int)) ?_
 refine qM (vJ m) ?_
 refine qD rfl (tR rfl rfl) (qe (zA ?_))
 refine yC (p := ((c : Int) : Int) ≤ m) rfl rfl (fun ab1 => ?_) (fun ab1 => ?_)
 have hlk := hok.lens c (by omega)
 refine cO (zA (zB ?_))
 refine zZ (w9b ?_)
 refine qM aw ?_
 refine qM (vJ (c : Int)) ?_
 refine qD rfl (zF dI sz4 (v := aw) rfl rfl ml (by omega) (by omega)) (qD rfl (xQ (r := (reachM ns (m).toNat).getD c false) rfl ag4 (z := (c : Int)) rfl ml (cC cx.pins (cB (cB (cB m9 d5) d6) f2)) (by omega) (by omega)) (qD rfl (xD rfl) (qM (.bool (!((reachM ns (m).toNat).getD c false))) ?_)))
 refine qbn (t := 46) rfl (fun i8 => ?_) (fun i8 => ?_)
 refine qN (zN (v := vP b) rfl) ?_
 refine qN (yY rfl) ?_
 refine qN (zH (k := 1) rfl dL rfl nz56 rfl) ?_
 refine qN (zJ (u := bv) ag56 rfl (f3.cell (o := 1) rfl)) ?_
 refine qN (zN (v := vJ (c : Int)) rfl) ?_
 refine qN (zF dE sz3 (v := bv) rfl rfl fi.read (by omega) (by omega)) ?_
 refine qN (zG (r := bs.getD c 0) rfl ag3 (z := (c : Int)) rfl fi.read (cM cx.pins bv) (by omega) (by omega)) ?_
 refine qN (zN (v := vJ (q : Int)) rfl) ?_
 refine qN (vV rfl rfl) ?_
 refine qD rfl (zU (v := .bool (decide ((bs.getD c 0 : Int) ≠ (q : Int)))) rfl rfl) (qe (zA ?_))
 refine yC (p := (bs.getD c 0 : Int) ≠ (q : Int)) rfl rfl (fun ab2 => ?_) (fun ab2 => ?_)
 refine cQ (zX (yK (zA (zC ?_))))
 refine qM (vJ (c : Int)) ?_
 refine qD rfl (yH rfl rfl (by omega)) (qM (vJ ((c : Int) + 1)) ?_)
 refine qe (zV (⟨_, ?_, _, rfl, _, c + 1, lv, ls, fv, fr, ah, (pS 11 (pS 10 (pS 9 (pS 8 (pS 7 (pS 6 (pS 5 (pS 4 (pS 1 (pU 0)))))))))), rfl, cx, f2, (by omega), (lv_skip hrl (fun g => by have := g.2; omega)), (by omega), hfb, gu, gv, d8, fi, f3, gw, gx, be, fj⟩))
 omega
 refine cO (zA (zB ?_))
 refine c_cut (fun (en : Nat → Value) (W : World) => ∃ (ab : Nat → Value) (f4 : Nat) (bq : Value) (br : Value) (ak : Pin), en = (upd (upd (upd (upd (upd (upd (upd (upd (upd (upd (upd ab 0 (vP b)) 1 (vJ m)) 4 (vP b1)) 5 aw) 6 at_) 7 (vP y)) 8 (vJ (q : Int))) 9 lv) 10 fv) 11 (vJ (c : Int))) 12 (vP f4)) ∧ Ext noS G w ak W ∧ Pin.le ah ak ∧ (RSl eInt ak bq (sortL (atL ats ((ns.getD c default).l)))) ∧ (RSl eInt ak br (sortL (atL ats ((ns.getD c default).r)))) ∧ (Own eInt 3 ak W w.heap.size at_ ats) ∧ (Own eNode 65 ak W w.heap.size ov outs) ∧ (Own eNode 65 ak W 0 bu ns) ∧ (Own eInt 3 ak W 0 bv bs) ∧ (Bx ak W b [bu, bv]) ∧ (Bx ak W b1 [vN]) ∧ (Bx ak W y [ov]) ∧ (BxP ak f4 [bq, br])) ?_ ?_
 ·rintro _ aio ⟨ab, f4, bq, br, ak, rfl, ab3, al, gy, gz, ab4, ab5, ab6, ab7, ab8, ab9, aca, nm⟩
  refine w9a ?_
  refine qM (vJ 0) ?_
  refine qe (zA (zB ?_))
  refine zZ (c_cutE (fun (en : Nat → Value) (W : World) => ∃ (ab : Nat → Value) (i : Nat) (d : Pin), en = (upd (upd (upd (upd (upd (upd (upd (upd (upd (upd (upd (upd ab 0 (vP b)) 1 (vJ m)) 4 (vP b1)) 5 aw) 6 at_) 7 (vP y)) 8 (vJ (q : Int))) 9 lv) 10 fv) 11 (vJ (c : Int))) 12 (vP f4)) 13 (vJ (i : Int))) ∧ Ext noS G w d W ∧ Pin.le ak d ∧ (i ≤ ls.length) ∧ (posM ls (ndAt ats (ns.getD c default)) = i) ∧ (Own eInt 3 d W w.heap.size at_ (ats)) ∧ (Own eNode 65 d W w.heap.size ov (outs)) ∧ (Own eNode 65 d W 0 bu (ns)) ∧ (Own eInt 3 d W 0 bv (bs)) ∧ (Bx d W b [bu, bv]) ∧ (Bx d W b1 [vN]) ∧ (Bx d W y [ov])) 4 ?_ ?_)
  ·rintro _ d9 ⟨ab, i, d, rfl, f5, f, hi, hpe, i9, ja, jb, jc, jd, je, jf⟩
   refine yK (zA (zB ?_))
   refine c_cut (fun (en : Nat → Value) (W : World) => ∃ (ab : Nat → Value) (ao : Value) (ad : Pin), en = (upd (upd (upd (upd (upd (upd (upd (upd (upd (upd (upd ab 0 (vP b)) 1 (vJ m)) 4 (vP b1)) 5 aw) 6 at_) 7 (vP y)) 8 (vJ (q : Int))) 9 ao) 10 fv) 11 (vJ (c : Int))) 13 (vJ (i : Int))) ∧ Ext noS G w ad W ∧ Pin.le d ad ∧ (Own eInt 3 ad W w.heap.size at_ ats) ∧ (Own eNode 65 ad W w.heap.size ov outs) ∧ (Own eNode 65 ad W 0 bu ns) ∧ (Own eInt 3 ad W 0 bv bs) ∧ (Own eNode 65 ad W w.heap.size ao (((([]) ++ ((ls.take i).drop 0)) ++ ([(⟨sortL (atL ats ((ns.getD c default).l)), sortL (atL ats ((ns.getD c default).r))⟩ : Nd)])) ++ ((ls.take ls.length).drop i))) ∧ (Bx ad W b [bu, bv]) ∧ (Bx ad W b1 [vN]) ∧ (Bx ad W y [ov]) ∧ (Apart at_.ownBlock ao.ownBlock) ∧ (Apart ov.ownBlock ao.ownBlock) ∧ (Apart bu.ownBlock ao.ownBlock) ∧ (Apart bv.ownBlock ao.ownBlock) ∧ (Apart ao.ownBlock (some b)) ∧ (Apart ao.ownBlock (some b1)) ∧ (Apart ao.ownBlock (some y))) ?_ ?_
   ·rintro _ jg ⟨ab, ao, ad, rfl, nn, ea, acb, acc, acd, ace, acf, acg, ach, aci, acj, ack, acl, acm, acn, aco, acp⟩
    refine zA (c_cut (fun (en : Nat → Value) (W : World) => ∃ (ab : Nat → Value) (ax : Value) (ay : Pin), en = (upd (upd (upd (upd (upd (upd (upd (upd (upd (upd ab 0 (vP b)) 1 (vJ m)) 4 (vP b1)) 5 aw) 6 at_) 7 (vP y)) 8 (vJ (q : Int))) 9 ao) 10 ax) 11 (vJ (c : Int))) ∧ Ext noS G w ay W ∧ Pin.le ad ay ∧ (Own eInt 3 ay W w.heap.size at_ ats) ∧ (Own eNode 65 ay W w.heap.size ov outs) ∧ (Own eNode 65 ay W 0 bu ns) ∧ (Own eInt 3 ay W 0 bv bs) ∧ (Own eNode 65 ay W w.heap.size ao (((([]) ++ ((ls.take i).drop 0)) ++ ([(⟨sortL (atL ats ((ns.getD c default).l)), sortL (atL ats ((ns.getD c default).r))⟩ : Nd)])) ++ ((ls.take ls.length).drop i))) ∧ (Own eInt 3 ay W w.heap.size ax (((([]) ++ ((fr.take i).drop 0)) ++ ([(c : Int)])) ++ ((fr.take fr.length).drop i))) ∧ (Bx ay W b [bu, bv]) ∧ (Bx ay W b1 [vN]) ∧ (Bx ay W y [ov]) ∧ (Apart at_.ownBlock ax.ownBlock) ∧ (Apart ov.ownBlock ax.ownBlock) ∧ (Apart bu.ownBlock ax.ownBlock) ∧ (Apart bv.ownBlock ax.ownBlock) ∧ (Apart ao.ownBlock ax.ownBlock) ∧ (Apart ax.ownBlock (some b)) ∧ (Apart ax.ownBlock (some b1)) ∧ (Apart ax.ownBlock (some y))) ?_ ?_)
    ·rintro _ aip ⟨ab, ax, ay, rfl, acq, acr, acs, act, acu, acv, acw, acx, acy, acz, ac0, ac1, ac2, ac3, ac4, ac5, ac6, ac7, ac8⟩
     refine w9c ?_
     refine qM (vJ (c : Int)) ?_
     refine qD rfl (yH rfl rfl (by omega)) (qM (vJ ((c : Int) + 1)) ?_)
     refine qe (zV ?_)
     obtain ⟨aiq, fk, ac9, ada, cy⟩ := acw.sealed acq
     obtain ⟨adb, fl, adc, add, eb⟩ := (acx.moreO fk cy ac5.symm).sealed ac9
     have jh := ins_len (x := ndAt ats (ns.getD c default)) (l := ls) (i := i) (by omega)
     have hi2 := ins_len (x := (c : Int)) (l := fr) (i := i) (by omega)
     refine ⟨_, ?_, _, rfl, _, c + 1, ao, ((([]) ++ ((ls.take i).drop 0)) ++ ([(⟨sortL (atL ats ((ns.getD c default).l)), sortL (atL ats ((ns.getD c default).r))⟩ : Nd)])) ++ ((ls.take ls.length).drop i), ax, ((([]) ++ ((fr.take i).drop 0)) ++ ([(c : Int)])) ++ ((fr.take fr.length).drop i), adb, (pS 11 (pS 10 (pS 9 (pS 8 (pS 7 (pS 6 (pS 5 (pS 4 (pS 1 (pU 0)))))))))), rfl, adc, (cB (cB (cB (cB (cB (cB f2 al) f) ea) acr) fk) fl), (by omega), (lv_ins hrl i8 (by omega) hpe), ⟨jh.trans ((cgA (· + 1) hll.1).trans hi2.symm), (by have : _ = _ := jh; exact cR (Nat.le_of_eq jh) (by omega))⟩, (ins_all (P := fun x => 0 ≤ x ∧ x ≤ m) hfb (by omega)), ((acs.moreO fk cy acj).moreO fl eb ac1), ((act.moreO fk cy ack).moreO fl eb ac2), ((acu.moreO fk cy acl).moreO fl eb ac3), ((acv.moreO fk cy acm).moreO fl eb ac4), ((acy.moreO cy acn.symm).moreO eb ac6.symm), ((acz.moreO cy aco.symm).moreO eb ac7.symm), ((ac0.moreO cy acp.symm).moreO eb ac8.symm), (ada.mono fl), add⟩
     omega
    refine yW (S := fun wz => Pins ad wz) (last := 13) (by kernel_rfl) rfl ?_
    have bf := bdr jg
    have ar := nn.step (nn.pins.below bf) bf
    have ji := acb.below bf
    have jj := acc.below bf
    have jk := acd.below bf
    have jl := ace.below bf
    have jm := acf.below bf
    have jn := acg.below bf
    have jo := ach.below bf
    have jp := aci.below bf
    refine dM 1 fv ar.pins ?_
    refine dM 2 (vJ (i : Int)) ar.pins ?_
    obtain ⟨jq, jr, adf⟩ := qU fj (lo := none) (hi := some ((i : Int))) (0) (i) (cF ⟨rfl, rfl⟩) (cG ⟨_, rfl, (by omega), rfl⟩) (by omega) (by omega)
    refine dT (i := 3) rfl rfl (by kernel_rfl) (fun _ _ => adf dE sz3 rfl rfl rfl) ar.pins ?_
    refine dM 5 (vJ (c : Int)) ar.pins ?_
    refine dM 8 fv ar.pins ?_
    refine dM 9 (vJ (i : Int)) ar.pins ?_
    obtain ⟨js, jt, adg⟩ := qU fj (lo := some ((i : Int))) (hi := none) (i) (fr.length) (cG ⟨_, rfl, (by omega), rfl⟩) (cF ⟨rfl, rfl⟩) (by omega) (by omega)
    refine dT (i := 10) rfl rfl (by kernel_rfl) (fun _ _ => adg dE sz3 rfl rfl rfl) ar.pins ?_
    refine jJ (i := 0) (j := 6) (by kernel_rfl) ?_ ?_
    refine (dQ (i := 0) rfl rfl (xE (E := eInt) (e := 3) dE sz3 ar.pins (fun ju adh adi adj bt cz => ?_)))
    have c0 := ar.step adj bt
    have jv := ji.below bt
    have jw := jj.below bt
    have jx := jk.below bt
    have jy := jl.below bt
    have jz := jm.below bt
    have j0 := jn.below bt
    have j1 := jo.below bt
    have j2 := jp.below bt
    have g0 := zE cz ji.lt
    have g1 := zE cz jj.lt
    have g2 := zE cz jk.lt
    have g3 := zE cz jl.lt
    have g4 := zE cz jm.lt
    have g5 := zI cz jn.lt
    have g6 := zI cz jo.lt
    have g7 := zI cz jp.lt
    have g8 := adi.weaken ar.size
    refine ⟨fun _ => c0.pins, ?_⟩
    refine jJ (i := 4) (j := 6) (by kernel_rfl) ?_ ?_
    refine (dQ (i := 4) rfl rfl (oA (E := eInt) (v := ju) (u := jq) 8 dE ap3 (by decide) rfl rfl c0.pins g8 ((jr.mono (cB (cB al f) ea)).src c0.pins (by decide)) (c0.size) (fun adk air adl adm bw c1 => ?_)))
    have g9 := c0.write adm bw ((yD g8))
    have no := zD g0.symm c1 jv.lt
    have np := zD g1.symm c1 jw.lt
    have nq := zD g2.symm c1 jx.lt
    have nr := zD g3.symm c1 jy.lt
    have nt := zD g4.symm c1 jz.lt
    have nu := zK g5.symm c1 j0.lt
    have nv := zK g6.symm c1 j1.lt
    have nw := zK g7.symm c1 j2.lt
    have ais := la2 ([]) ((fr.take i).drop 0)
    refine ⟨fun _ => g9.pins, ?_⟩
    refine dP (i := 6) rfl rfl (yV (E := eInt) (e := 3) [vJ (c : Int)] [(c : Int)] dE sz3 zr3 (by exact xP (by rfl)) (yZ (by rfl)) rfl rfl rfl rfl (by decide) g9.pins (fun nx adn ado adp bg ait => ?_))
    have ha := g9.step adp bg
    have ny := (jv.keptA bw g0.symm).below bg
    have nz := (jw.keptA bw g1.symm).below bg
    have n0 := (jx.keptA bw g2.symm).below bg
    have n1 := (jy.keptA bw g3.symm).below bg
    have n2 := (jz.keptA bw g4.symm).below bg
    have n3 := adl.below bg
    have n4 := (j0.keptA bw g5.symm).below bg
    have n5 := (j1.keptA bw g6.symm).below bg
    have n6 := (j2.keptA bw g7.symm).below bg
    have adq := ado.weaken g9.size
    refine ⟨fun _ => ha.pins, ?_⟩
    refine dP (i := 7) rfl rfl (oA (E := eInt) (v := adk) (u := nx) 8 dE ap3 (by decide) rfl rfl ha.pins n3 adq.src (ha.size) (fun adr aiu n7 ads bz c2 => ?_))
    have f6 := ha.write ads bz ((yD n3))
    have n8 := ny.keptA bz no
    have n9 := nz.keptA bz np
    have oa := n0.keptA bz nq
    have ob := n1.keptA bz nr
    have oc := n2.keptA bz nt
    have od := n4.keptA bz nu
    have oe := n5.keptA bz nv
    have og := n6.keptA bz nw
    have oh := zD no c2 ny.lt
    have oi := zD np c2 nz.lt
    have oj := zD nq c2 n0.lt
    have ok := zD nr c2 n1.lt
    have ol := zD nt c2 n2.lt
    have om := zK nu c2 n4.lt
    have oo := zK nv c2 n5.lt
    have op := zK nw c2 n6.lt
    have aiv := la1 (([]) ++ ((fr.take i).drop 0)) (c : Int)
    refine ⟨fun _ => f6.pins, ?_⟩
    refine dP (i := 11) rfl rfl (oA (E := eInt) (v := adr) (u := js) 8 dE ap3 (by decide) rfl rfl f6.pins n7 ((jt.mono (cB (cB al f) ea)).src f6.pins (by decide)) (f6.size) (fun oq aiw adt adu b0 c3 => ?_))
    have j3 := f6.write adu b0 ((yD n7))
    have aix := la2 ((([]) ++ ((fr.take i).drop 0)) ++ ([(c : Int)])) ((fr.take fr.length).drop i)
    refine ⟨fun _ => j3.pins, ?_⟩
    refine dM 12 oq j3.pins ?_
    exact yL (by kernel_rfl) (qV ⟨_, oq, ad, (pS 11 (pS 10 (pS 9 (pS 8 (pS 7 (pS 6 (pS 5 (pS 4 (pS 1 (pU 0)))))))))), j3, (cJ _), (n8.keptA b0 oh), (n9.keptA b0 oi), (oa.keptA b0 oj), (ob.keptA b0 ok), (oc.keptA b0 ol), adt, (od.keptA b0 om), (oe.keptA b0 oo), (og.keptA b0 op), (zD oh c3 n8.lt), (zD oi c3 n9.lt), (zD oj c3 oa.lt), (zD ok c3 ob.lt), (zD ol c3 oc.lt), (zK om c3 od.lt).symm, (zK oo c3 oe.lt).symm, (zK op c3 og.lt).symm⟩)
    refine (dQ (i := 6) rfl rfl (yV (E := eInt) (e := 3) [vJ (c : Int)] [(c : Int)] dE sz3 zr3 (by exact xP (by rfl)) (yZ (by rfl)) rfl rfl rfl rfl (by decide) c0.pins (fun os adv adw adx bh ady => ?_)))
    have f7 := c0.step adx bh
    have ot := jv.below bh
    have ow := jw.below bh
    have ox := jx.below bh
    have oy := jy.below bh
    have oz := jz.below bh
    have o0 := g8.below bh
    have o1 := j0.below bh
    have o2 := j1.below bh
    have o3 := j2.below bh
    have adz := adw.weaken c0.size
    refine ⟨fun _ => f7.pins, ?_⟩
    refine dP (i := 4) rfl rfl (oA (E := eInt) (v := ju) (u := jq) 8 dE ap3 (by decide) rfl rfl f7.pins o0 ((jr.mono (cB (cB al f) ea)).src f7.pins (by decide)) (f7.size) (fun ad0 aiy o4 ad1 bi c4 => ?_))
    have hb := f7.write ad1 bi ((yD o0))
    have o5 := ot.keptA bi g0.symm
    have o6 := ow.keptA bi g1.symm
    have o7 := ox.keptA bi g2.symm
    have o8 := oy.keptA bi g3.symm
    have o9 := oz.keptA bi g4.symm
    have pa := o1.keptA bi g5.symm
    have pb := o2.keptA bi g6.symm
    have pc := o3.keptA bi g7.symm
    have pd := zD g0.symm c4 ot.lt
    have pe := zD g1.symm c4 ow.lt
    have pf := zD g2.symm c4 ox.lt
    have pg := zD g3.symm c4 oy.lt
    have ph := zD g4.symm c4 oz.lt
    have pi := zK g5.symm c4 o1.lt
    have pj := zK g6.symm c4 o2.lt
    have pk := zK g7.symm c4 o3.lt
    have aiz := la2 ([]) ((fr.take i).drop 0)
    refine ⟨fun _ => hb.pins, ?_⟩
    refine dP (i := 7) rfl rfl (oA (E := eInt) (v := ad0) (u := os) 8 dE ap3 (by decide) rfl rfl hb.pins o4 (adz.keptA bi (zE ady g8.lt)).src (hb.size) (fun ad2 ai0 pl ad3 b2 c5 => ?_))
    have f8 := hb.write ad3 b2 ((yD o4))
    have pm := o5.keptA b2 pd
    have pn := o6.keptA b2 pe
    have po := o7.keptA b2 pf
    have pp := o8.keptA b2 pg
    have pq := o9.keptA b2 ph
    have pr := pa.keptA b2 pi
    have ps := pb.keptA b2 pj
    have pt := pc.keptA b2 pk
    have pu := zD pd c5 o5.lt
    have pv := zD pe c5 o6.lt
    have pw := zD pf c5 o7.lt
    have px := zD pg c5 o8.lt
    have py := zD ph c5 o9.lt
    have pz := zK pi c5 pa.lt
    have p0 := zK pj c5 pb.lt
    have p1 := zK pk c5 pc.lt
    have ai1 := la1 (([]) ++ ((fr.take i).drop 0)) (c : Int)
    refine ⟨fun _ => f8.pins, ?_⟩
    refine dP (i := 11) rfl rfl (oA (E := eInt) (v := ad2) (u := js) 8 dE ap3 (by decide) rfl rfl f8.pins pl ((jt.mono (cB (cB al f) ea)).src f8.pins (by decide)) (f8.size) (fun p2 ai2 ad4 ad5 b3 c6 => ?_))
    have j4 := f8.write ad5 b3 ((yD pl))
    have ai3 := la2 ((([]) ++ ((fr.take i).drop 0)) ++ ([(c : Int)])) ((fr.take fr.length).drop i)
    refine ⟨fun _ => j4.pins, ?_⟩
    refine dM 12 p2 j4.pins ?_
    exact yL (by kernel_rfl) (qV ⟨_, p2, ad, (pS 11 (pS 10 (pS 9 (pS 8 (pS 7 (pS 6 (pS 5 (pS 4 (pS 1 (pU 0)))))))))), j4, (cJ _), (pm.keptA b3 pu), (pn.keptA b3 pv), (po.keptA b3 pw), (pp.keptA b3 px), (pq.keptA b3 py), ad4, (pr.keptA b3 pz), (ps.keptA b3 p0), (pt.keptA b3 p1), (zD pu c6 pm.lt), (zD pv c6 pn.lt), (zD pw c6 po.lt), (zD px c6 pp.lt), (zD py c6 pq.lt), (zK pz c6 pr.lt).symm, (zK p0 c6 ps.lt).symm, (zK p1 c6 pt.lt).symm⟩)
    refine (dQ (i := 6) rfl rfl (yV (E := eInt) (e := 3) [vJ (c : Int)] [(c : Int)] dE sz3 zr3 (by exact xP (by rfl)) (yZ (by rfl)) rfl rfl rfl rfl (by decide) ar.pins (fun p3 ad6 ad7 ad8 b4 ai4 => ?_)))
    have hc := ar.step ad8 b4
    have p4 := ji.below b4
    have p5 := jj.below b4
    have p6 := jk.below b4
    have p7 := jl.below b4
    have p8 := jm.below b4
    have p9 := jn.below b4
    have qa := jo.below b4
    have qb := jp.below b4
    have qc := ad7.weaken ar.size
    refine ⟨fun _ => hc.pins, ?_⟩
    refine dP (i := 0) rfl rfl (xE (E := eInt) (e := 3) dE sz3 hc.pins (fun qf ad9 aea aeb bj b5 => ?_))
    have f9 := hc.step aeb bj
    have qg := p4.below bj
    have qh := p5.below bj
    have qi := p6.below bj
    have qj := p7.below bj
    have qk := p8.below bj
    have ql := p9.below bj
    have qm := qa.below bj
    have qn := qb.below bj
    have qo := zE b5 p4.lt
    have qp := zE b5 p5.lt
    have qq := zE b5 p6.lt
    have qr := zE b5 p7.lt
    have qs := zE b5 p8.lt
    have qt := zI b5 p9.lt
    have qu := zI b5 qa.lt
    have qv := zI b5 qb.lt
    have qw := aea.weaken hc.size
    refine ⟨fun _ => f9.pins, ?_⟩
    refine dP (i := 4) rfl rfl (oA (E := eInt) (v := qf) (u := jq) 8 dE ap3 (by decide) rfl rfl f9.pins qw ((jr.mono (cB (cB al f) ea)).src f9.pins (by decide)) (f9.size) (fun aec ai5 qx aed bk c7 => ?_))
    have hd := f9.write aed bk ((yD qw))
    have qy := qg.keptA bk qo.symm
    have qz := qh.keptA bk qp.symm
    have q2 := qi.keptA bk qq.symm
    have q3 := qj.keptA bk qr.symm
    have q4 := qk.keptA bk qs.symm
    have q5 := ql.keptA bk qt.symm
    have q6 := qm.keptA bk qu.symm
    have q7 := qn.keptA bk qv.symm
    have q8 := zD qo.symm c7 qg.lt
    have q9 := zD qp.symm c7 qh.lt
    have ra := zD qq.symm c7 qi.lt
    have rb := zD qr.symm c7 qj.lt
    have rc := zD qs.symm c7 qk.lt
    have rd := zK qt.symm c7 ql.lt
    have re := zK qu.symm c7 qm.lt
    have rf := zK qv.symm c7 qn.lt
    have ai6 := la2 ([]) ((fr.take i).drop 0)
    refine ⟨fun _ => hd.pins, ?_⟩
    refine dP (i := 7) rfl rfl (oA (E := eInt) (v := aec) (u := p3) 8 dE ap3 (by decide) rfl rfl hd.pins qx ((qc.below bj).keptA bk (zE b5 qc.lt).symm).src (hd.size) (fun aee ai7 rg aef b6 c8 => ?_))
    have ga := hd.write aef b6 ((yD qx))
    have rh := qy.keptA b6 q8
    have ri := qz.keptA b6 q9
    have rj := q2.keptA b6 ra
    have rk := q3.keptA b6 rb
    have rl := q4.keptA b6 rc
    have rm := q5.keptA b6 rd
    have rn := q6.keptA b6 re
    have ro := q7.keptA b6 rf
    have rp := zD q8 c8 qy.lt
    have rq := zD q9 c8 qz.lt
    have rr := zD ra c8 q2.lt
    have rs := zD rb c8 q3.lt
    have rt := zD rc c8 q4.lt
    have ru := zK rd c8 q5.lt
    have rv := zK re c8 q6.lt
    have rx := zK rf c8 q7.lt
    have ai8 := la1 (([]) ++ ((fr.take i).drop 0)) (c : Int)
    refine ⟨fun _ => ga.pins, ?_⟩
    refine dP (i := 11) rfl rfl (oA (E := eInt) (v := aee) (u := js) 8 dE ap3 (by decide) rfl rfl ga.pins rg ((jt.mono (cB (cB al f) ea)).src ga.pins (by decide)) (ga.size) (fun ry ai9 aeg aeh b7 c9 => ?_))
    have j5 := ga.write aeh b7 ((yD rg))
    have aja := la2 ((([]) ++ ((fr.take i).drop 0)) ++ ([(c : Int)])) ((fr.take fr.length).drop i)
    refine ⟨fun _ => j5.pins, ?_⟩
    refine dM 12 ry j5.pins ?_
    exact yL (by kernel_rfl) (qV ⟨_, ry, ad, (pS 11 (pS 10 (pS 9 (pS 8 (pS 7 (pS 6 (pS 5 (pS 4 (pS 1 (pU 0)))))))))), j5, (cJ _), (rh.keptA b7 rp), (ri.keptA b7 rq), (rj.keptA b7 rr), (rk.keptA b7 rs), (rl.keptA b7 rt), aeg, (rm.keptA b7 ru), (rn.keptA b7 rv), (ro.keptA b7 rx), (zD rp c9 rh.lt), (zD rq c9 ri.lt), (zD rr c9 rj.lt), (zD rs c9 rk.lt), (zD rt c9 rl.lt), (zK ru c9 rm.lt).symm, (zK rv c9 rn.lt).symm, (zK rx c9 ro.lt).symm⟩)
   refine yW (S := fun wz => Pins d wz) (last := 13) (by kernel_rfl) rfl ?_
   have b8 := bdr d9
   have au := f5.step (f5.pins.below b8) b8
   have j6 := i9.below b8
   have j7 := ja.below b8
   have j8 := jb.below b8
   have j9 := jc.below b8
   have ka := jd.below b8
   have kb := je.below b8
   have kc := jf.below b8
   refine dM 1 lv au.pins ?_
   refine dM 2 (vJ (i : Int)) au.pins ?_
   obtain ⟨kd, ke, aei⟩ := qU be (lo := none) (hi := some ((i : Int))) (0) (i) (cF ⟨rfl, rfl⟩) (cG ⟨_, rfl, (by omega), rfl⟩) (by omega) (by omega)
   refine dT (i := 3) rfl rfl (by kernel_rfl) (fun _ _ => aei dF sz65 rfl rfl rfl) au.pins ?_
   refine dT (i := 5) rfl rfl (by kernel_rfl) (fun _ hS => yA (cs := [bq, br]) ag65 sz65 rfl (fun j u hj => (cC hS f) _ _ _ (nm _ _ (by simpa using hj)))) au.pins ?_
   refine dM 8 lv au.pins ?_
   refine dM 9 (vJ (i : Int)) au.pins ?_
   obtain ⟨kf, kg, aej⟩ := qU be (lo := some ((i : Int))) (hi := none) (i) (ls.length) (cG ⟨_, rfl, (by omega), rfl⟩) (cF ⟨rfl, rfl⟩) (by omega) (by omega)
   refine dT (i := 10) rfl rfl (by kernel_rfl) (fun _ _ => aej dF sz65 rfl rfl rfl) au.pins ?_
   refine jJ (i := 0) (j := 6) (by kernel_rfl) ?_ ?_
   refine (dQ (i := 0) rfl rfl (xE (E := eNode) (e := 65) dF sz65 au.pins (fun kh aek ael aem da ec => ?_)))
   have db := au.step aem da
   have ki := j6.below da
   have kj := j7.below da
   have kk := j8.below da
   have kl := j9.below da
   have km := ka.below da
   have kn := kb.below da
   have ko := kc.below da
   have he := zE ec j6.lt
   have hf := zE ec j7.lt
   have hg := zE ec j8.lt
   have hh := zE ec j9.lt
   have hk := zI ec ka.lt
   have hl := zI ec kb.lt
   have hn := zI ec kc.lt
   have ho := ael.weaken au.size
   refine ⟨fun _ => db.pins, ?_⟩
   refine jJ (i := 4) (j := 6) (by kernel_rfl) ?_ ?_
   refine (dQ (i := 4) rfl rfl (oA (E := eNode) (v := kh) (u := kd) 48 dF ap65 (by decide) rfl rfl db.pins ho ((ke.mono (cB al f)).src db.pins (by decide)) (db.size) (fun aen ajb aeo aep dc ed => ?_)))
   have hp := db.write aep dc ((yD ho))
   have rz := zD he.symm ed ki.lt
   have r0 := zD hf.symm ed kj.lt
   have r1 := zD hg.symm ed kk.lt
   have r2 := zD hh.symm ed kl.lt
   have r3 := zK hk.symm ed km.lt
   have r4 := zK hl.symm ed kn.lt
   have r5 := zK hn.symm ed ko.lt
   have ajc := la2 ([]) ((ls.take i).drop 0)
   refine ⟨fun _ => hp.pins, ?_⟩
   refine dP (i := 6) rfl rfl (qP (E := eNode) (e := 65) [bq, br] (⟨sortL (atL ats ((ns.getD c default).l)), sortL (atL ats ((ns.getD c default).r))⟩ : Nd) dF sz65 zr65 ⟨_, _, rfl, (gy.mono f), (gz.mono f)⟩ rfl (by decide) hp.pins (fun r6 aeq aer aes b9 ajd => ?_))
   have hs := hp.step aes b9
   have r7 := (ki.keptA dc he.symm).below b9
   have r8 := (kj.keptA dc hf.symm).below b9
   have r9 := (kk.keptA dc hg.symm).below b9
   have sa := (kl.keptA dc hh.symm).below b9
   have sb := aeo.below b9
   have sc := (km.keptA dc hk.symm).below b9
   have sd := (kn.keptA dc hl.symm).below b9
   have se := (ko.keptA dc hn.symm).below b9
   have aet := aer.weaken hp.size
   refine ⟨fun _ => hs.pins, ?_⟩
   refine dP (i := 7) rfl rfl (oA (E := eNode) (v := aen) (u := r6) 48 dF ap65 (by decide) rfl rfl hs.pins sb aet.src (hs.size) (fun aeu aje sf aev dd ee => ?_))
   have gb := hs.write aev dd ((yD sb))
   have sg := r7.keptA dd rz
   have sh := r8.keptA dd r0
   have si := r9.keptA dd r1
   have sj := sa.keptA dd r2
   have sk := sc.keptA dd r3
   have sl := sd.keptA dd r4
   have sm := se.keptA dd r5
   have sn := zD rz ee r7.lt
   have sp := zD r0 ee r8.lt
   have sq := zD r1 ee r9.lt
   have sr := zD r2 ee sa.lt
   have ss := zK r3 ee sc.lt
   have st := zK r4 ee sd.lt
   have su := zK r5 ee se.lt
   have ajf := la1 (([]) ++ ((ls.take i).drop 0)) (⟨sortL (atL ats ((ns.getD c default).l)), sortL (atL ats ((ns.getD c default).r))⟩ : Nd)
   refine ⟨fun _ => gb.pins, ?_⟩
   refine dP (i := 11) rfl rfl (oA (E := eNode) (v := aeu) (u := kf) 48 dF ap65 (by decide) rfl rfl gb.pins sf ((kg.mono (cB al f)).src gb.pins (by decide)) (gb.size) (fun sv ajg aew aex de ef => ?_))
   have kp := gb.write aex de ((yD sf))
   have ajh := la2 ((([]) ++ ((ls.take i).drop 0)) ++ ([(⟨sortL (atL ats ((ns.getD c default).l)), sortL (atL ats ((ns.getD c default).r))⟩ : Nd)])) ((ls.take ls.length).drop i)
   refine ⟨fun _ => kp.pins, ?_⟩
   refine dM 12 sv kp.pins ?_
   exact yL (by kernel_rfl) (qV ⟨_, sv, d, (pS 13 (pS 11 (pS 10 (pS 9 (pS 8 (pS 7 (pS 6 (pS 5 (pS 4 (pS 1 (pU 0))))))))))), kp, (cJ _), (sg.keptA de sn), (sh.keptA de sp), (si.keptA de sq), (sj.keptA de sr), aew, (sk.keptA de ss), (sl.keptA de st), (sm.keptA de su), (zD sn ef sg.lt), (zD sp ef sh.lt), (zD sq ef si.lt), (zD sr ef sj.lt), (zK ss ef sk.lt).symm, (zK st ef sl.lt).symm, (zK su ef sm.lt).symm⟩)
   refine (dQ (i := 6) rfl rfl (qP (E := eNode) (e := 65) [bq, br] (⟨sortL (atL ats ((ns.getD c default).l)), sortL (atL ats ((ns.getD c default).r))⟩ : Nd) dF sz65 zr65 ⟨_, _, rfl, (gy.mono f), (gz.mono f)⟩ rfl (by decide) db.pins (fun sw aey aez ae0 ca ae1 => ?_)))
   have gc := db.step ae0 ca
   have sx := ki.below ca
   have sy := kj.below ca
   have sz := kk.below ca
   have s0 := kl.below ca
   have s1 := ho.below ca
   have s2 := km.below ca
   have s3 := kn.below ca
   have s4 := ko.below ca
   have ae2 := aez.weaken db.size
   refine ⟨fun _ => gc.pins, ?_⟩
   refine dP (i := 4) rfl rfl (oA (E := eNode) (v := kh) (u := kd) 48 dF ap65 (by decide) rfl rfl gc.pins s1 ((ke.mono (cB al f)).src gc.pins (by decide)) (gc.size) (fun ae3 aji s5 ae4 cb eg => ?_))
   have ht := gc.write ae4 cb ((yD s1))
   have s6 := sx.keptA cb he.symm
   have s7 := sy.keptA cb hf.symm
   have s8 := sz.keptA cb hg.symm
   have s9 := s0.keptA cb hh.symm
   have ta := s2.keptA cb hk.symm
   have tb := s3.keptA cb hl.symm
   have tc := s4.keptA cb hn.symm
   have td := zD he.symm eg sx.lt
   have te := zD hf.symm eg sy.lt
   have tf := zD hg.symm eg sz.lt
   have tg := zD hh.symm eg s0.lt
   have th := zK hk.symm eg s2.lt
   have ti := zK hl.symm eg s3.lt
   have tj := zK hn.symm eg s4.lt
   have ajj := la2 ([]) ((ls.take i).drop 0)
   refine ⟨fun _ => ht.pins, ?_⟩
   refine dP (i := 7) rfl rfl (oA (E := eNode) (v := ae3) (u := sw) 48 dF ap65 (by decide) rfl rfl ht.pins s5 (ae2.keptA cb (zE ae1 ho.lt)).src (ht.size) (fun ae5 ajk tk ae6 df eh => ?_))
   have gd := ht.write ae6 df ((yD s5))
   have tl := s6.keptA df td
   have tm := s7.keptA df te
   have tn := s8.keptA df tf
   have tp := s9.keptA df tg
   have tq := ta.keptA df th
   have ts := tb.keptA df ti
   have tt := tc.keptA df tj
   have tu := zD td eh s6.lt
   have tv := zD te eh s7.lt
   have tw := zD tf eh s8.lt
   have tx := zD tg eh s9.lt
   have ty := zK th eh ta.lt
   have tz := zK ti eh tb.lt
   have t0 := zK tj eh tc.lt
   have ajl := la1 (([]) ++ ((ls.take i).drop 0)) (⟨sortL (atL ats ((ns.getD c default).l)), sortL (atL ats ((ns.getD c default).r))⟩ : Nd)
   refine ⟨fun _ => gd.pins, ?_⟩
   refine dP (i := 11) rfl rfl (oA (E := eNode) (v := ae5) (u := kf) 48 dF ap65 (by decide) rfl rfl gd.pins tk ((kg.mono (cB al f)).src gd.pins (by decide)) (gd.size) (fun t1 ajm ae7 ae8 dg ei => ?_))
   have kq := gd.write ae8 dg ((yD tk))
   have ajn := la2 ((([]) ++ ((ls.take i).drop 0)) ++ ([(⟨sortL (atL ats ((ns.getD c default).l)), sortL (atL ats ((ns.getD c default).r))⟩ : Nd)])) ((ls.take ls.length).drop i)
   refine ⟨fun _ => kq.pins, ?_⟩
   refine dM 12 t1 kq.pins ?_
   exact yL (by kernel_rfl) (qV ⟨_, t1, d, (pS 13 (pS 11 (pS 10 (pS 9 (pS 8 (pS 7 (pS 6 (pS 5 (pS 4 (pS 1 (pU 0))))))))))), kq, (cJ _), (tl.keptA dg tu), (tm.keptA dg tv), (tn.keptA dg tw), (tp.keptA dg tx), ae7, (tq.keptA dg ty), (ts.keptA dg tz), (tt.keptA dg t0), (zD tu ei tl.lt), (zD tv ei tm.lt), (zD tw ei tn.lt), (zD tx ei tp.lt), (zK ty ei tq.lt).symm, (zK tz ei ts.lt).symm, (zK t0 ei tt.lt).symm⟩)
   refine (dQ (i := 6) rfl rfl (qP (E := eNode) (e := 65) [bq, br] (⟨sortL (atL ats ((ns.getD c default).l)), sortL (atL ats ((ns.getD c default).r))⟩ : Nd) dF sz65 zr65 ⟨_, _, rfl, (gy.mono f), (gz.mono f)⟩ rfl (by decide) au.pins (fun t2 ae9 afa afb dh ajo => ?_)))
   have hu := au.step afb dh
   have t3 := j6.below dh
   have t4 := j7.below dh
   have t5 := j8.below dh
   have t6 := j9.below dh
   have t7 := ka.below dh
   have t8 := kb.below dh
   have t9 := kc.below dh
   have ua := afa.weaken au.size
   refine ⟨fun _ => hu.pins, ?_⟩
   refine dP (i := 0) rfl rfl (xE (E := eNode) (e := 65) dF sz65 hu.pins (fun ub afc afd afe cc di => ?_))
   have ge := hu.step afe cc
   have uc := t3.below cc
   have ud := t4.below cc
   have ue := t5.below cc
   have uf := t6.below cc
   have ug := t7.below cc
   have uh := t8.below cc
   have ui := t9.below cc
   have uj := zE di t3.lt
   have uk := zE di t4.lt
   have ul := zE di t5.lt
   have um := zE di t6.lt
   have un := zI di t7.lt
   have uo := zI di t8.lt
   have up := zI di t9.lt
   have uq := afd.weaken hu.size
   refine ⟨fun _ => ge.pins, ?_⟩
   refine dP (i := 4) rfl rfl (oA (E := eNode) (v := ub) (u := kd) 48 dF ap65 (by decide) rfl rfl ge.pins uq ((ke.mono (cB al f)).src ge.pins (by decide)) (ge.size) (fun aff ajp ur afg cd ej => ?_))
   have hv := ge.write afg cd ((yD uq))
   have ut := uc.keptA cd uj.symm
   have uu := ud.keptA cd uk.symm
   have uv := ue.keptA cd ul.symm
   have uw := uf.keptA cd um.symm
   have ux := ug.keptA cd un.symm
   have uy := uh.keptA cd uo.symm
   have uz := ui.keptA cd up.symm
   have u0 := zD uj.symm ej uc.lt
   have u1 := zD uk.symm ej ud.lt
   have u2 := zD ul.symm ej ue.lt
   have u3 := zD um.symm ej uf.lt
   have u4 := zK un.symm ej ug.lt
   have u5 := zK uo.symm ej uh.lt
   have u6 := zK up.symm ej ui.lt
   have ajq := la2 ([]) ((ls.take i).drop 0)
   refine ⟨fun _ => hv.pins, ?_⟩
   refine dP (i := 7) rfl rfl (oA (E := eNode) (v := aff) (u := t2) 48 dF ap65 (by decide) rfl rfl hv.pins ur ((ua.below cc).keptA cd (zE di ua.lt).symm).src (hv.size) (fun afh ajr u7 afi dj ek => ?_))
   have gf := hv.write afi dj ((yD ur))
   have u8 := ut.keptA dj u0
   have u9 := uu.keptA dj u1
   have va := uv.keptA dj u2
   have vb := uw.keptA dj u3
   have vc := ux.keptA dj u4
   have vd := uy.keptA dj u5
   have ve := uz.keptA dj u6
   have vf := zD u0 ek ut.lt
   have vg := zD u1 ek uu.lt
   have vh := zD u2 ek uv.lt
   have vi := zD u3 ek uw.lt
   have vj := zK u4 ek ux.lt
   have vk := zK u5 ek uy.lt
   have vl := zK u6 ek uz.lt
   have ajs := la1 (([]) ++ ((ls.take i).drop 0)) (⟨sortL (atL ats ((ns.getD c default).l)), sortL (atL ats ((ns.getD c default).r))⟩ : Nd)
   refine ⟨fun _ => gf.pins, ?_⟩
   refine dP (i := 11) rfl rfl (oA (E := eNode) (v := afh) (u := kf) 48 dF ap65 (by decide) rfl rfl gf.pins u7 ((kg.mono (cB al f)).src gf.pins (by decide)) (gf.size) (fun vm ajt afj afk dk el => ?_))
   have kr := gf.write afk dk ((yD u7))
   have aju := la2 ((([]) ++ ((ls.take i).drop 0)) ++ ([(⟨sortL (atL ats ((ns.getD c default).l)), sortL (atL ats ((ns.getD c default).r))⟩ : Nd)])) ((ls.take ls.length).drop i)
   refine ⟨fun _ => kr.pins, ?_⟩
   refine dM 12 vm kr.pins ?_
   exact yL (by kernel_rfl) (qV ⟨_, vm, d, (pS 13 (pS 11 (pS 10 (pS 9 (pS 8 (pS 7 (pS 6 (pS 5 (pS 4 (pS 1 (pU 0))))))))))), kr, (cJ _), (u8.keptA dk vf), (u9.keptA dk vg), (va.keptA dk vh), (vb.keptA dk vi), afj, (vc.keptA dk vj), (vd.keptA dk vk), (ve.keptA dk vl), (zD vf el u8.lt), (zD vg el u9.lt), (zD vh el va.lt), (zD vi el vb.lt), (zK vj el vc.lt).symm, (zK vk el vd.lt).symm, (zK vl el ve.lt).symm⟩)
  refine yR (fun k en W => ∃ (ab : Nat → Value) (i : Nat) (d : Pin), en = (upd (upd (upd (upd (upd (upd (upd (upd (upd (upd (upd (upd ab 0 (vP b)) 1 (vJ m)) 4 (vP b1)) 5 aw) 6 at_) 7 (vP y)) 8 (vJ (q : Int))) 9 lv) 10 fv) 11 (vJ (c : Int))) 12 (vP f4)) 13 (vJ (i : Int))) ∧ k = ls.length - i ∧ Ext noS G w d W ∧ Pin.le ak d ∧ (i ≤ ls.length) ∧ (posM ls (ndAt ats (ns.getD c default)) = i + posM (ls.drop i) (ndAt ats (ns.getD c default))) ∧ (Own eInt 3 d W w.heap.size at_ (ats)) ∧ (Own eNode 65 d W w.heap.size ov (outs)) ∧ (Own eNode 65 d W 0 bu (ns)) ∧ (Own eInt 3 d W 0 bv (bs)) ∧ (Bx d W b [bu, bv]) ∧ (Bx d W b1 [vN]) ∧ (Bx d W y [ov])) _ ⟨_, 0, ak, (pS 13 (pS 12 (pS 11 (pS 10 (pS 9 (pS 8 (pS 7 (pS 6 (pS 5 (pS 4 (pS 1 (pU 0)))))))))))), rfl, ab3, cJ _, cI _, (cS _).symm, ab4, ab5, ab6, ab7, ab8, ab9, aca⟩ ?_
  rintro ajv _ d9 ⟨ab, i, d, rfl, ajw, f5, f, hi, hpp, i9, ja, jb, jc, jd, je, jf⟩
  refine zB (zB ?_)
  refine yW (S := fun wz => Pins d wz) (last := 12) (by kernel_rfl) rfl ?_
  have ce := bdr d9
  have af := f5.step (f5.pins.below ce) ce
  have vn := i9.below ce
  have vo := ja.below ce
  have vp := jb.below ce
  have vq := jc.below ce
  have vr := jd.below ce
  have vt := je.below ce
  have vu := jf.below ce
  refine dM 0 (vJ (i : Int)) af.pins ?_
  refine dM 1 lv af.pins ?_
  refine dT (i := 2) rfl rfl (by kernel_rfl) (fun _ _ => zM dF (v := lv) rfl be) af.pins ?_
  refine dT (i := 3) rfl rfl (by kernel_rfl) (fun _ _ => yU rfl rfl) af.pins ?_
  refine dM 4 (.bool (decide (((i : Int) : Int) < (ls.length : Int)))) af.pins ?_
  refine drbd (p := ((i : Int) : Int) < (ls.length : Int)) (t := 84) rfl (fun afl => ?_) (fun afl => ?_)
  refine yP (i := 5) rfl rfl rfl (yG rfl rfl rfl rfl) (by kernel_rfl) (fun _ _ => zN (v := lv) rfl) af.pins (yP (i := 6) rfl rfl rfl (yG rfl rfl rfl rfl) (by kernel_rfl) (fun _ _ => zN (v := vJ (i : Int)) rfl) af.pins (yP (i := 7) rfl rfl rfl (yG rfl rfl rfl rfl) (by kernel_rfl) (fun _ _ => zF dF sz65 (v := lv) rfl rfl be (by omega) (by omega)) af.pins ?_))
  obtain ⟨afm, afn, vv, vw, afo⟩ := jD (be.at (z := (i : Int)) (by omega) (by omega)) (j := i) rfl
  have ajx := vv.max
  have ajy := vw.max
  refine yP (i := 8) rfl rfl rfl (yG rfl rfl rfl rfl) (by kernel_rfl) (fun _ hS => afo ag65 sz65 rfl (cC hS (cB al f))) af.pins (yP (i := 9) rfl rfl rfl (yG rfl rfl rfl rfl) (by kernel_rfl) (fun _ hS => yA (cs := [bq, br]) ag65 sz65 rfl (fun j u hj => (cC hS f) _ _ _ (nm _ _ (by simpa using hj)))) af.pins ?_)
  refine dO (i := 10) (eL (i := 10) rfl rfl rfl (yG rfl rfl rfl rfl) (zL (vs := [.agg #[afm, afn], .agg #[bq, br]]) Tryz.func81 nm81 rfl rfl rfl ?_))
  refine cD (nC (a := ⟨(ls.getD i default).l, (ls.getD i default).r⟩) (b := ⟨sortL (atL ats ((ns.getD c default).l)), sortL (atL ats ((ns.getD c default).r))⟩) af.pins (vv.mono (cB al f)) (vw.mono (cB al f)) (gy.mono f) (gz.mono f)) ?_
  rintro _ ajz ⟨vx, rfl, az⟩
  refine rt9 ?_
  have hw := af.tr az
  have vy := vn.ext az
  have vz := vo.ext az
  have v0 := vp.ext az
  have v1 := vq.ext az
  have v2 := vr.ext az
  have v3 := vt.ext az
  have v4 := vu.ext az
  refine ⟨fun _ => (cC hw.pins az.le), ?_⟩
  refine dT (i := 11) rfl rfl (by kernel_rfl) (fun _ _ => yB (v := .bool (decide ((aheadI (⟨(ls.getD i default).l, (ls.getD i default).r⟩ : Nd) (⟨sortL (atL ats ((ns.getD c default).l)), sortL (atL ats ((ns.getD c default).r))⟩ : Nd)) < 0))) rfl rfl) (cC hw.pins az.le) ?_
  refine yL (by kernel_rfl) (zA (yC (p := (aheadI (⟨(ls.getD i default).l, (ls.getD i default).r⟩ : Nd) (⟨sortL (atL ats ((ns.getD c default).l)), sortL (atL ats ((ns.getD c default).r))⟩ : Nd)) < 0) rfl rfl (fun ks => ?_) (fun ks => ?_)))
  refine cO (zA (zZ (zC (qM (vJ (i : Int)) ?_))))
  refine qD rfl (yH rfl rfl (by omega)) (qM (vJ ((i : Int) + 1)) ?_)
  refine qe (zW (zV (⟨_, ?_, _, rfl, _, i + 1, vx, (pS 13 (pS 12 (pS 11 (pS 10 (pS 9 (pS 8 (pS 7 (pS 6 (pS 5 (pS 4 (pS 1 (pU 0)))))))))))), rfl, hw, (cB f az.le), (by omega), (pos_next (by omega) ks hpp), vy, vz, v0, v1, v2, v3, v4⟩)))
  omega
  exact cQ (zX (yO (cutE_in ⟨_, i, vx, (pS 13 (pS 12 (pS 11 (pS 10 (pS 9 (pS 8 (pS 7 (pS 6 (pS 5 (pS 4 (pS 1 (pU 0)))))))))))), hw, (cB f az.le), hi, (pos_stop (by omega) ks hpp), vy, vz, v0, v1, v2, v3, v4⟩)))
  refine yF (i := 5) rfl rfl (yJ rfl rfl rfl rfl rfl) (by kernel_rfl) af.pins (yF (i := 6) rfl rfl (yJ rfl rfl rfl rfl rfl) (by kernel_rfl) af.pins (yF (i := 7) rfl rfl (yJ rfl rfl rfl rfl rfl) (by kernel_rfl) af.pins (yF (i := 8) rfl rfl (yJ rfl rfl rfl rfl rfl) (by kernel_rfl) af.pins (yF (i := 9) rfl rfl (yJ rfl rfl rfl rfl rfl) (by kernel_rfl) af.pins (yF (i := 10) rfl rfl (yJ rfl rfl rfl rfl rfl) (by kernel_rfl) af.pins (dT (i := 11) rfl rfl (by kernel_rfl) (fun _ _ => zU (v := .bool false) rfl rfl) af.pins ?_))))))
  exact yL (by kernel_rfl) (zA (xT rfl rfl (cQ (zX (yO (cutE_in ⟨_, i, d, (pS 13 (pS 12 (pS 11 (pS 10 (pS 9 (pS 8 (pS 7 (pS 6 (pS 5 (pS 4 (pS 1 (pU 0)))))))))))), af, f, hi, (pos_end (by omega) hpp), vn, vo, vp, vq, vr, vt, vu⟩))))))
 have hx := d8.read
 refine yW (S := fun wz => BxR wz b [bu, bv] ∧ Pins (Gadd ah gt bu) wz) (last := 24) (by kernel_rfl) rfl ?_
 have bl := bdr gt
 have em := cx.step (cx.pins.below bl) bl
 have gg := gu.below bl
 have hy := gv.below bl
 have hz := d8.below bl
 have h0 := fi.below bl
 have ac := f3.below bl
 have h1 := gw.below bl
 have h2 := gx.below bl
 have ag := (cM cx.pins bu).below bl
 refine dT (i := 0) rfl rfl (by kernel_rfl) (fun _ _ => zN (v := at_) rfl) ⟨ac.reads, ag⟩ ?_
 refine dT (i := 1) rfl rfl (by kernel_rfl) (fun _ _ => zN (v := vP b) rfl) ⟨ac.reads, ag⟩ ?_
 refine dT (i := 2) rfl rfl (by kernel_rfl) (fun _ _ => yY rfl) ⟨ac.reads, ag⟩ ?_
 refine dT (i := 3) rfl rfl (by kernel_rfl) (fun _ _ => zH (k := 0) rfl dL rfl nz30 rfl) ⟨ac.reads, ag⟩ ?_
 refine dT (i := 4) rfl rfl (by kernel_rfl) (fun _ hS => zJ (u := bu) ag30 rfl (hS.1 0 _ rfl)) ⟨ac.reads, ag⟩ ?_
 refine dT (i := 5) rfl rfl (by kernel_rfl) (fun _ _ => zN (v := vJ (c : Int)) rfl) ⟨ac.reads, ag⟩ ?_
 refine dT (i := 6) rfl rfl (by kernel_rfl) (fun _ _ => zF dF sz65 (v := bu) rfl rfl hx (by omega) (by omega)) ⟨ac.reads, ag⟩ ?_
 refine dT (i := 7) rfl rfl (by kernel_rfl) (fun _ _ => xC (off := 0) dG rfl rfl nz56 (z := (c : Int)) (k := 0) rfl hx (by omega) (by omega)) ⟨ac.reads, ag⟩ ?_
 obtain ⟨v5, kt, afp⟩ := jZ (d8.at (z := (c : Int)) (by omega) (by omega)) (j := c) rfl
 have aj0 := kt.max
 refine dT (i := 8) rfl rfl (by kernel_rfl) (fun _ hS => afp ag56 rfl hS.2) ⟨ac.reads, ag⟩ ?_
 refine dT (i := 11) rfl rfl (by kernel_rfl) (fun _ _ => zN (v := at_) rfl) ⟨ac.reads, ag⟩ ?_
 refine dT (i := 12) rfl rfl (by kernel_rfl) (fun _ _ => zN (v := vP b) rfl) ⟨ac.reads, ag⟩ ?_
 refine dT (i := 13) rfl rfl (by kernel_rfl) (fun _ _ => yY rfl) ⟨ac.reads, ag⟩ ?_
 refine dT (i := 14) rfl rfl (by kernel_rfl) (fun _ _ => zH (k := 0) rfl dL rfl nz30 rfl) ⟨ac.reads, ag⟩ ?_
 refine dT (i := 15) rfl rfl (by kernel_rfl) (fun _ hS => zJ (u := bu) ag30 rfl (hS.1 0 _ rfl)) ⟨ac.reads, ag⟩ ?_
 refine dT (i := 16) rfl rfl (by kernel_rfl) (fun _ _ => zN (v := vJ (c : Int)) rfl) ⟨ac.reads, ag⟩ ?_
 refine dT (i := 17) rfl rfl (by kernel_rfl) (fun _ _ => zF dF sz65 (v := bu) rfl rfl hx (by omega) (by omega)) ⟨ac.reads, ag⟩ ?_
 refine dT (i := 18) rfl rfl (by kernel_rfl) (fun _ _ => xC (off := 1) dG rfl rfl nz56 (z := (c : Int)) (k := 0) rfl hx (by omega) (by omega)) ⟨ac.reads, ag⟩ ?_
 obtain ⟨h3, gh, afq⟩ := jY (d8.at (z := (c : Int)) (by omega) (by omega)) (j := c) rfl
 have aj1 := gh.max
 refine dT (i := 19) rfl rfl (by kernel_rfl) (fun _ hS => afq ag56 rfl hS.2) ⟨ac.reads, ag⟩ ?_
 refine jJ (i := 9) (j := 23) (by kernel_rfl) ?_ ?_
 refine (dQ (i := 9) rfl rfl (zL (vs := [at_, v5]) Tryz.func58 nm58 rfl rfl rfl ?_))
 refine cD (jB em.pins (cM em.pins at_) gg.read kt (by omega) (fun i hi => by have := hoo.left (j := c) (by omega) hi; omega)) ?_
 rintro _ afr ⟨ku, afs, rfl, dl, am⟩
 refine rt9 ?_
 have h4 := em.tr am
 have kv := gg.ext am
 have kw := hy.ext am
 have kx := hz.ext am
 have ky := h0.ext am
 have h5 := ac.ext am
 have kz := h1.ext am
 have k0 := h2.ext am
 have v6 := zT dl.lt gg.lt
 have v7 := zT dl.lt hy.lt
 have v8 := zT dl.lt hz.lt
 have v9 := zT dl.lt h0.lt
 have wa := yN dl.lt ac.lt
 have wb := yN dl.lt h1.lt
 have wc := yN dl.lt h2.lt
 have k1 := dl.weaken em.size
 have k2 := ag.below am.below
 refine ⟨fun _ => ⟨h5.reads, k2⟩, ?_⟩
 refine jJ (i := 10) (j := 23) (by kernel_rfl) ?_ ?_
 obtain ⟨aj2, cf, wd, aft, eo⟩ := k1.sealed h4
 refine (dQ (i := 10) rfl rfl (zL (vs := [ku]) Tryz.func80 nm80 rfl rfl rfl ?_))
 refine cD (qA wd.pins aft (by first | omega | (rw [xG]; omega))) ?_
 rintro _ aj3 ⟨ae, aj4, rfl, cg, ap⟩
 refine rt9 ?_
 have ep := wd.tr ap
 have gi := (kv.moreO cf eo v6.symm).ext ap
 have h6 := (kw.moreO cf eo v7.symm).ext ap
 have h7 := (kx.moreO cf eo v8.symm).ext ap
 have h8 := (ky.moreO cf eo v9.symm).ext ap
 have gj := (h5.moreO eo wa.symm).ext ap
 have h9 := (kz.moreO eo wb.symm).ext ap
 have ia := (k0.moreO eo wc.symm).ext ap
 have k3 := k2.below ap.below
 refine ⟨fun _ => ⟨gj.reads, k3⟩, ?_⟩
 refine jJ (i := 20) (j := 23) (by kernel_rfl) ?_ ?_
 refine (dQ (i := 20) rfl rfl (zL (vs := [at_, h3]) Tryz.func58 nm58 rfl rfl rfl ?_))
 refine cD (jB ep.pins (cM ep.pins at_) gi.read (gh.mono (cB (cB am.le cf) ap.le)) (by omega) (fun i hi => by have := hoo.right (j := c) (by omega) hi; omega)) ?_
 rintro _ afu ⟨k4, afv, rfl, dm, av⟩
 refine rt9 ?_
 have ib := ep.tr av
 have k6 := gi.ext av
 have k7 := h6.ext av
 have k8 := h7.ext av
 have k9 := h8.ext av
 have ic := gj.ext av
 have la := h9.ext av
 have lb := ia.ext av
 have we := zT dm.lt gi.lt
 have wf := zT dm.lt h6.lt
 have wg := zT dm.lt h7.lt
 have wh := zT dm.lt h8.lt
 have wi := yN dm.lt gj.lt
 have wj := yN dm.lt h9.lt
 have wk := yN dm.lt ia.lt
 have lc := dm.weaken ep.size
 have ld := k3.below av.below
 refine ⟨fun _ => ⟨ic.reads, ld⟩, ?_⟩
 refine jJ (i := 21) (j := 23) (by kernel_rfl) ?_ ?_
 obtain ⟨aj5, fm, wl, afw, eq⟩ := lc.sealed ib
 refine (dQ (i := 21) rfl rfl (zL (vs := [k4]) Tryz.func80 nm80 rfl rfl rfl ?_))
 refine cD (qA wl.pins afw (by first | omega | (rw [xG]; omega))) ?_
 rintro _ aj6 ⟨er, aj7, rfl, lf, ba⟩
 refine rt9 ?_
 have lg := wl.tr ba
 have wm := (k6.moreO fm eq we.symm).ext ba
 have wn := (k7.moreO fm eq wf.symm).ext ba
 have wo := (k8.moreO fm eq wg.symm).ext ba
 have wp := (k9.moreO fm eq wh.symm).ext ba
 have ie := (ic.moreO eq wi.symm).ext ba
 have wq := (la.moreO eq wj.symm).ext ba
 have wr := (lb.moreO eq wk.symm).ext ba
 have lh := ld.below ba.below
 refine ⟨fun _ => ⟨ie.reads, lh⟩, ?_⟩
 refine dT (i := 22) rfl rfl (by kernel_rfl) (fun _ _ => yS [vN, vN] [ae, er] [(0, ae, [ae]), (1, er, [er])] dG zr65 rfl pl65 rfl (cN.2 ⟨(xR cg.one), (cN.2 ⟨(xR lf.one), (fun _ h => by cases h)⟩)⟩) rfl) ⟨ie.reads, lh⟩ ?_
 refine dP (i := 23) rfl rfl (yI [vN, vN] zr65 rfl lg.pins (fun ws aj8 es afx afy ch => ?_))
 have wt := lg.step afy ch
 have wu := ie.below ch
 have wv := zE (cgA some es) wm.lt
 have ww := zE (cgA some es) wn.lt
 have wx := zE (cgA some es) wo.lt
 have wy := zE (cgA some es) wp.lt
 have w0 := zI (cgA some es) ie.lt
 have w1 := zI (cgA some es) wq.lt
 have w3 := zI (cgA some es) wr.lt
 have w4 : w.heap.size ≤ ws := by have := lg.size; omega
 refine ⟨fun _ => ⟨wu.reads, (lh.below ch)⟩, ?_⟩
 refine dO (i := 24) (xK (i := 24) rfl rfl rfl (zR rfl _) (o_stp (cs' := [ae, er]) (us := [ae, er]) (v := .agg #[ae, er]) sz65 rfl rfl rfl (yQ cg.one lf.one) wt.pins afx (cE rfl) rfl (fun aj9 afz af0 dn aka => ?_)))
 obtain ⟨af1, et, af2, af3, eu⟩ := afz.shut (wt.write af0 dn ((zS w4))) w4
 refine ⟨fun h => absurd rfl h, ?_⟩
 exact yL (by kernel_rfl) (qV ⟨_, ws, ae, er, af1, (pS 12 (pS 11 (pS 10 (pS 9 (pS 8 (pS 7 (pS 6 (pS 5 (pS 4 (pS 1 (pU 0))))))))))), af2, (cB (cB (cB (cB (cB (cB am.le cf) ap.le) av.le) fm) ba.le) et), (cg.mono (cB (cB (cB av.le fm) ba.le) et)), (lf.mono et), (((wm.below ch).keptA dn wv.symm).moreA et eu wv.symm), (((wn.below ch).keptA dn ww.symm).moreA et eu ww.symm), (((wo.below ch).keptA dn wx.symm).moreA et eu wx.symm), (((wp.below ch).keptA dn wy.symm).moreA et eu wy.symm), ((wu.keptA dn w0.symm).moreA eu w0.symm), (((wq.below ch).keptA dn w1.symm).moreA eu w1.symm), (((wr.below ch).keptA dn w3.symm).moreA eu w3.symm), (af3.mono (cJ _))⟩)
 refine (dQ (i := 23) rfl rfl (yI [vN, vN] zr65 rfl ib.pins (fun w5 akb dp af4 af5 bm => ?_)))
 have w6 := ic.below bm
 have w7 := zE (cgA some dp) k6.lt
 have w8 := zE (cgA some dp) k7.lt
 have w9 := zE (cgA some dp) k8.lt
 have xa := zE (cgA some dp) k9.lt
 have xb := zI (cgA some dp) ic.lt
 have xc := zI (cgA some dp) la.lt
 have xd := zI (cgA some dp) lb.lt
 have xe : w.heap.size ≤ w5 := by have := ib.size; omega
 have xf := ld.below bm
 refine ⟨fun _ => ⟨w6.reads, xf⟩, ?_⟩
 obtain ⟨akc, fn, xg, af6, dq⟩ := (lc.below bm).sealed (ib.step af5 bm)
 refine dP (i := 21) rfl rfl (zL (vs := [k4]) Tryz.func80 nm80 rfl rfl rfl ?_)
 refine cD (qA xg.pins af6 (by first | omega | (rw [xG]; omega))) ?_
 rintro _ akd ⟨ev, ake, rfl, li, a0⟩
 refine rt9 ?_
 have xh := xg.tr a0
 have lj := (w6.moreO dq wi.symm).ext a0
 have xi := xf.below a0.below
 refine ⟨fun _ => ⟨lj.reads, xi⟩, ?_⟩
 refine dT (i := 22) rfl rfl (by kernel_rfl) (fun _ _ => yS [vN, vN] [ae, ev] [(0, ae, [ae]), (1, ev, [ev])] dG zr65 rfl pl65 rfl (cN.2 ⟨(xR cg.one), (cN.2 ⟨(xR li.one), (fun _ h => by cases h)⟩)⟩) rfl) ⟨lj.reads, xi⟩ ?_
 refine dO (i := 24) (xK (i := 24) rfl rfl rfl (zR rfl _) (o_stp (cs' := [ae, ev]) (us := [ae, ev]) (v := .agg #[ae, ev]) sz65 rfl rfl rfl (yQ cg.one li.one) xh.pins ((af4.moreO dq (zE (cgA some dp) lc.lt)).ext a0) (cE rfl) rfl (fun akf af7 af8 dr akg => ?_)))
 obtain ⟨af9, ew, aga, agb, ex⟩ := af7.shut (xh.write af8 dr ((zS xe))) xe
 refine ⟨fun h => absurd rfl h, ?_⟩
 exact yL (by kernel_rfl) (qV ⟨_, w5, ae, ev, af9, (pS 12 (pS 11 (pS 10 (pS 9 (pS 8 (pS 7 (pS 6 (pS 5 (pS 4 (pS 1 (pU 0))))))))))), aga, (cB (cB (cB (cB (cB (cB am.le cf) ap.le) av.le) fn) a0.le) ew), (cg.mono (cB (cB (cB av.le fn) a0.le) ew)), (li.mono ew), (((((k6.below bm).moreO fn dq we.symm).ext a0).keptA dr w7.symm).moreA ew ex w7.symm), (((((k7.below bm).moreO fn dq wf.symm).ext a0).keptA dr w8.symm).moreA ew ex w8.symm), (((((k8.below bm).moreO fn dq wg.symm).ext a0).keptA dr w9.symm).moreA ew ex w9.symm), (((((k9.below bm).moreO fn dq wh.symm).ext a0).keptA dr xa.symm).moreA ew ex xa.symm), ((lj.keptA dr xb.symm).moreA ex xb.symm), (((((la.below bm).moreO dq wj.symm).ext a0).keptA dr xc.symm).moreA ex xc.symm), (((((lb.below bm).moreO dq wk.symm).ext a0).keptA dr xd.symm).moreA ex xd.symm), (agb.mono (cJ _))⟩)
 refine (dQ (i := 23) rfl rfl (yI [vN, vN] zr65 rfl ep.pins (fun xj akh ey xk agc ci => ?_)))
 have ig := ep.step agc ci
 have lk := gi.below ci
 have xl := h6.below ci
 have xm := h7.below ci
 have xn := h8.below ci
 have ll := gj.below ci
 have xo := h9.below ci
 have xp := ia.below ci
 have xq := zE (cgA some ey) gi.lt
 have xr := zE (cgA some ey) h6.lt
 have xs := zE (cgA some ey) h7.lt
 have xt := zE (cgA some ey) h8.lt
 have xu := zI (cgA some ey) gj.lt
 have xv := zI (cgA some ey) h9.lt
 have xw := zI (cgA some ey) ia.lt
 have xx : w.heap.size ≤ xj := by have := ep.size; omega
 have xy := k3.below ci
 refine ⟨fun _ => ⟨ll.reads, xy⟩, ?_⟩
 refine dP (i := 20) rfl rfl (zL (vs := [at_, h3]) Tryz.func58 nm58 rfl rfl rfl ?_)
 refine cD (jB ig.pins (cM ig.pins at_) lk.read (gh.mono (cB (cB am.le cf) ap.le)) (by omega) (fun i hi => by have := hoo.right (j := c) (by omega) hi; omega)) ?_
 rintro _ agd ⟨xz, age, rfl, cj, a1⟩
 refine rt9 ?_
 have x0 := ll.ext a1
 have agf := cj.weaken ig.size
 have x1 := xy.below a1.below
 refine ⟨fun _ => ⟨x0.reads, x1⟩, ?_⟩
 obtain ⟨aki, fo, x2, agh, ds⟩ := agf.sealed (ig.tr a1)
 refine dP (i := 21) rfl rfl (zL (vs := [xz]) Tryz.func80 nm80 rfl rfl rfl ?_)
 refine cD (qA x2.pins agh (by first | omega | (rw [xG]; omega))) ?_
 rintro _ akj ⟨ez, akk, rfl, lm, a2⟩
 refine rt9 ?_
 have x3 := x2.tr a2
 have ln := (x0.moreO ds (yN cj.lt ll.lt).symm).ext a2
 have x4 := x1.below a2.below
 refine ⟨fun _ => ⟨ln.reads, x4⟩, ?_⟩
 refine dT (i := 22) rfl rfl (by kernel_rfl) (fun _ _ => yS [vN, vN] [ae, ez] [(0, ae, [ae]), (1, ez, [ez])] dG zr65 rfl pl65 rfl (cN.2 ⟨(xR cg.one), (cN.2 ⟨(xR lm.one), (fun _ h => by cases h)⟩)⟩) rfl) ⟨ln.reads, x4⟩ ?_
 refine dO (i := 24) (xK (i := 24) rfl rfl rfl (zR rfl _) (o_stp (cs' := [ae, ez]) (us := [ae, ez]) (v := .agg #[ae, ez]) sz65 rfl rfl rfl (yQ cg.one lm.one) x3.pins (((xk.ext a1).moreO ds (yN cj.lt xk.lt).symm).ext a2) (cE rfl) rfl (fun akl agi agj dt akm => ?_)))
 obtain ⟨agk, e0, agl, agm, e1⟩ := agi.shut (x3.write agj dt ((zS xx))) xx
 have agn := ((((xp.ext a1).moreO ds (yN cj.lt xp.lt).symm).ext a2).keptA dt xw.symm).moreA e1 xw.symm
 refine ⟨fun h => absurd rfl h, ?_⟩
 exact yL (by kernel_rfl) (qV ⟨_, xj, ae, ez, agk, (pS 12 (pS 11 (pS 10 (pS 9 (pS 8 (pS 7 (pS 6 (pS 5 (pS 4 (pS 1 (pU 0))))))))))), agl, (cB (cB (cB (cB (cB (cB am.le cf) ap.le) a1.le) fo) a2.le) e0), (cg.mono (cB (cB (cB a1.le fo) a2.le) e0)), (lm.mono e0), (((((lk.ext a1).moreO fo ds (zT cj.lt lk.lt).symm).ext a2).keptA dt xq.symm).moreA e0 e1 xq.symm), (((((xl.ext a1).moreO fo ds (zT cj.lt xl.lt).symm).ext a2).keptA dt xr.symm).moreA e0 e1 xr.symm), (((((xm.ext a1).moreO fo ds (zT cj.lt xm.lt).symm).ext a2).keptA dt xs.symm).moreA e0 e1 xs.symm), (((((xn.ext a1).moreO fo ds (zT cj.lt xn.lt).symm).ext a2).keptA dt xt.symm).moreA e0 e1 xt.symm), ((ln.keptA dt xu.symm).moreA e1 xu.symm), (((((xo.ext a1).moreO ds (yN cj.lt xo.lt).symm).ext a2).keptA dt xv.symm).moreA e1 xv.symm), agn, (agm.mono (cJ _))⟩)
 refine (dQ (i := 23) rfl rfl (yI [vN, vN] zr65 rfl h4.pins (fun x5 akn du ago agp bn => ?_)))
 have x6 := h5.below bn
 have x7 := zE (cgA some du) kv.lt
 have x8 := zE (cgA some du) kw.lt
 have x9 := zE (cgA some du) kx.lt
 have ya := zE (cgA some du) ky.lt
 have yb := zI (cgA some du) h5.lt
 have yc := zI (cgA some du) kz.lt
 have yd := zI (cgA some du) k0.lt
 have ye : w.heap.size ≤ x5 := by have := h4.size; omega
 have yf := k2.below bn
 refine ⟨fun _ => ⟨x6.reads, yf⟩, ?_⟩
 obtain ⟨ako, fp, yg, agq, dv⟩ := (k1.below bn).sealed (h4.step agp bn)
 refine dP (i := 10) rfl rfl (zL (vs := [ku]) Tryz.func80 nm80 rfl rfl rfl ?_)
 refine cD (qA yg.pins agq (by first | omega | (rw [xG]; omega))) ?_
 rintro _ akp ⟨e2, akq, rfl, lp, a3⟩
 refine rt9 ?_
 have ih := yg.tr a3
 have lq := ((kv.below bn).moreO fp dv v6.symm).ext a3
 have yh := ((kw.below bn).moreO fp dv v7.symm).ext a3
 have yi := ((kx.below bn).moreO fp dv v8.symm).ext a3
 have yj := ((ky.below bn).moreO fp dv v9.symm).ext a3
 have lr := (x6.moreO dv wa.symm).ext a3
 have yk := ((kz.below bn).moreO dv wb.symm).ext a3
 have yl := ((k0.below bn).moreO dv wc.symm).ext a3
 have ym := (ago.moreO dv (zE (cgA some du) k1.lt)).ext a3
 have yn := yf.below a3.below
 refine ⟨fun _ => ⟨lr.reads, yn⟩, ?_⟩
 refine dP (i := 20) rfl rfl (zL (vs := [at_, h3]) Tryz.func58 nm58 rfl rfl rfl ?_)
 refine cD (jB ih.pins (cM ih.pins at_) lq.read (gh.mono (cB (cB am.le fp) a3.le)) (by omega) (fun i hi => by have := hoo.right (j := c) (by omega) hi; omega)) ?_
 rintro _ agr ⟨yo, ags, rfl, ck, a4⟩
 refine rt9 ?_
 have yp := lr.ext a4
 have agt := ck.weaken ih.size
 have yq := yn.below a4.below
 refine ⟨fun _ => ⟨yp.reads, yq⟩, ?_⟩
 obtain ⟨akr, fq, yr, agu, dw⟩ := agt.sealed (ih.tr a4)
 refine dP (i := 21) rfl rfl (zL (vs := [yo]) Tryz.func80 nm80 rfl rfl rfl ?_)
 refine cD (qA yr.pins agu (by first | omega | (rw [xG]; omega))) ?_
 rintro _ aks ⟨e3, akt, rfl, lu, a5⟩
 refine rt9 ?_
 have ys := yr.tr a5
 have lw := (yp.moreO dw (yN ck.lt lr.lt).symm).ext a5
 have yt := yq.below a5.below
 refine ⟨fun _ => ⟨lw.reads, yt⟩, ?_⟩
 refine dT (i := 22) rfl rfl (by kernel_rfl) (fun _ _ => yS [vN, vN] [e2, e3] [(0, e2, [e2]), (1, e3, [e3])] dG zr65 rfl pl65 rfl (cN.2 ⟨(xR lp.one), (cN.2 ⟨(xR lu.one), (fun _ h => by cases h)⟩)⟩) rfl) ⟨lw.reads, yt⟩ ?_
 refine dO (i := 24) (xK (i := 24) rfl rfl rfl (zR rfl _) (o_stp (cs' := [e2, e3]) (us := [e2, e3]) (v := .agg #[e2, e3]) sz65 rfl rfl rfl (yQ lp.one lu.one) ys.pins (((ym.ext a4).moreO dw (yN ck.lt ym.lt).symm).ext a5) (cE rfl) rfl (fun aku agv agw dx akv => ?_)))
 obtain ⟨agx, e4, agy, agz, e5⟩ := agv.shut (ys.write agw dx ((zS ye))) ye
 have ag0 := ((((yl.ext a4).moreO dw (yN ck.lt yl.lt).symm).ext a5).keptA dx yd.symm).moreA e5 yd.symm
 refine ⟨fun h => absurd rfl h, ?_⟩
 exact yL (by kernel_rfl) (qV ⟨_, x5, e2, e3, agx, (pS 12 (pS 11 (pS 10 (pS 9 (pS 8 (pS 7 (pS 6 (pS 5 (pS 4 (pS 1 (pU 0))))))))))), agy, (cB (cB (cB (cB (cB (cB am.le fp) a3.le) a4.le) fq) a5.le) e4), (lp.mono (cB (cB (cB a4.le fq) a5.le) e4)), (lu.mono e4), (((((lq.ext a4).moreO fq dw (zT ck.lt lq.lt).symm).ext a5).keptA dx x7.symm).moreA e4 e5 x7.symm), (((((yh.ext a4).moreO fq dw (zT ck.lt yh.lt).symm).ext a5).keptA dx x8.symm).moreA e4 e5 x8.symm), (((((yi.ext a4).moreO fq dw (zT ck.lt yi.lt).symm).ext a5).keptA dx x9.symm).moreA e4 e5 x9.symm), (((((yj.ext a4).moreO fq dw (zT ck.lt yj.lt).symm).ext a5).keptA dx ya.symm).moreA e4 e5 ya.symm), ((lw.keptA dx yb.symm).moreA e5 yb.symm), (((((yk.ext a4).moreO dw (yN ck.lt yk.lt).symm).ext a5).keptA dx yc.symm).moreA e5 yc.symm), ag0, (agz.mono (cJ _))⟩)
 refine (dQ (i := 23) rfl rfl (yI [vN, vN] zr65 rfl em.pins (fun yu akw e6 yv ag1 cl => ?_)))
 have ii := em.step ag1 cl
 have lx := gg.below cl
 have yw := hy.below cl
 have yx := hz.below cl
 have yy := h0.below cl
 have ly := ac.below cl
 have yz := h1.below cl
 have y0 := h2.below cl
 have y1 := zE (cgA some e6) gg.lt
 have y2 := zE (cgA some e6) hy.lt
 have y3 := zE (cgA some e6) hz.lt
 have y4 := zE (cgA some e6) h0.lt
 have y5 := zI (cgA some e6) ac.lt
 have y6 := zI (cgA some e6) h1.lt
 have y7 := zI (cgA some e6) h2.lt
 have y8 : w.heap.size ≤ yu := by have := em.size; omega
 have y9 := ag.below cl
 refine ⟨fun _ => ⟨ly.reads, y9⟩, ?_⟩
 refine dP (i := 9) rfl rfl (zL (vs := [at_, v5]) Tryz.func58 nm58 rfl rfl rfl ?_)
 refine cD (jB ii.pins (cM ii.pins at_) lx.read kt (by omega) (fun i hi => by have := hoo.left (j := c) (by omega) hi; omega)) ?_
 rintro _ ag2 ⟨za, ag5, rfl, cm, a6⟩
 refine rt9 ?_
 have zb := ly.ext a6
 have ag6 := cm.weaken ii.size
 have zc := y9.below a6.below
 refine ⟨fun _ => ⟨zb.reads, zc⟩, ?_⟩
 obtain ⟨akx, fs, zd, ag7, dy⟩ := ag6.sealed (ii.tr a6)
 refine dP (i := 10) rfl rfl (zL (vs := [za]) Tryz.func80 nm80 rfl rfl rfl ?_)
 refine cD (qA zd.pins ag7 (by first | omega | (rw [xG]; omega))) ?_
 rintro _ aky ⟨e7, akz, rfl, lz, a7⟩
 refine rt9 ?_
 have ij := zd.tr a7
 have l0 := ((lx.ext a6).moreO fs dy (zT cm.lt lx.lt).symm).ext a7
 have ze := ((yw.ext a6).moreO fs dy (zT cm.lt yw.lt).symm).ext a7
 have zf := ((yx.ext a6).moreO fs dy (zT cm.lt yx.lt).symm).ext a7
 have zg := ((yy.ext a6).moreO fs dy (zT cm.lt yy.lt).symm).ext a7
 have l1 := (zb.moreO dy (yN cm.lt ly.lt).symm).ext a7
 have zh := ((yz.ext a6).moreO dy (yN cm.lt yz.lt).symm).ext a7
 have zi := ((y0.ext a6).moreO dy (yN cm.lt y0.lt).symm).ext a7
 have zj := ((yv.ext a6).moreO dy (yN cm.lt yv.lt).symm).ext a7
 have zk := zc.below a7.below
 refine ⟨fun _ => ⟨l1.reads, zk⟩, ?_⟩
 refine dP (i := 20) rfl rfl (zL (vs := [at_, h3]) Tryz.func58 nm58 rfl rfl rfl ?_)
 refine cD (jB ij.pins (cM ij.pins at_) l0.read (gh.mono (cB (cB a6.le fs) a7.le)) (by omega) (fun i hi => by have := hoo.right (j := c) (by omega) hi; omega)) ?_
 rintro _ ag8 ⟨zl, ag9, rfl, cn, a8⟩
 refine rt9 ?_
 have zm := l1.ext a8
 have aha := cn.weaken ij.size
 have zn := zk.below a8.below
 refine ⟨fun _ => ⟨zm.reads, zn⟩, ?_⟩
 obtain ⟨ak0, ft, zo, ahb, dz⟩ := aha.sealed (ij.tr a8)
 refine dP (i := 21) rfl rfl (zL (vs := [zl]) Tryz.func80 nm80 rfl rfl rfl ?_)
 refine cD (qA zo.pins ahb (by first | omega | (rw [xG]; omega))) ?_
 rintro _ ak1 ⟨e8, ak2, rfl, l2, a9⟩
 refine rt9 ?_
 have zp := zo.tr a9
 have l3 := (zm.moreO dz (yN cn.lt l1.lt).symm).ext a9
 have zq := zn.below a9.below
 refine ⟨fun _ => ⟨l3.reads, zq⟩, ?_⟩
 refine dT (i := 22) rfl rfl (by kernel_rfl) (fun _ _ => yS [vN, vN] [e7, e8] [(0, e7, [e7]), (1, e8, [e8])] dG zr65 rfl pl65 rfl (cN.2 ⟨(xR lz.one), (cN.2 ⟨(xR l2.one), (fun _ h => by cases h)⟩)⟩) rfl) ⟨l3.reads, zq⟩ ?_
 refine dO (i := 24) (xK (i := 24) rfl rfl rfl (zR rfl _) (o_stp (cs' := [e7, e8]) (us := [e7, e8]) (v := .agg #[e7, e8]) sz65 rfl rfl rfl (yQ lz.one l2.one) zp.pins (((zj.ext a8).moreO dz (yN cn.lt zj.lt).symm).ext a9) (cE rfl) rfl (fun ak3 ahc ahd d0 ak4 => ?_)))
 obtain ⟨ahe, e9, ahf, ahg, fa⟩ := ahc.shut (zp.write ahd d0 ((zS y8))) y8
 have ahh := ((((zi.ext a8).moreO dz (yN cn.lt zi.lt).symm).ext a9).keptA d0 y7.symm).moreA fa y7.symm
 refine ⟨fun h => absurd rfl h, ?_⟩
 exact yL (by kernel_rfl) (qV ⟨_, yu, e7, e8, ahe, (pS 12 (pS 11 (pS 10 (pS 9 (pS 8 (pS 7 (pS 6 (pS 5 (pS 4 (pS 1 (pU 0))))))))))), ahf, (cB (cB (cB (cB (cB (cB a6.le fs) a7.le) a8.le) ft) a9.le) e9), (lz.mono (cB (cB (cB a8.le ft) a9.le) e9)), (l2.mono e9), (((((l0.ext a8).moreO ft dz (zT cn.lt l0.lt).symm).ext a9).keptA d0 y1.symm).moreA e9 fa y1.symm), (((((ze.ext a8).moreO ft dz (zT cn.lt ze.lt).symm).ext a9).keptA d0 y2.symm).moreA e9 fa y2.symm), (((((zf.ext a8).moreO ft dz (zT cn.lt zf.lt).symm).ext a9).keptA d0 y3.symm).moreA e9 fa y3.symm), (((((zg.ext a8).moreO ft dz (zT cn.lt zg.lt).symm).ext a9).keptA d0 y4.symm).moreA e9 fa y4.symm), ((l3.keptA d0 y5.symm).moreA fa y5.symm), (((((zh.ext a8).moreO dz (yN cn.lt zh.lt).symm).ext a9).keptA d0 y6.symm).moreA fa y6.symm), ahh, (ahg.mono (cJ _))⟩)
 refine qW ?_
 refine qW ?_
 refine qW ?_
 refine qW ?_
 refine qW ?_
 refine qW ?_
 refine qW ?_
 refine qW ?_
 refine qW ?_
 refine qD rfl (yB (v := .bool true) rfl rfl) (qe (zA ?_))
 refine qK rfl rfl (cQ (zX (yK (zA (zC ?_)))))
 refine qM (vJ (c : Int)) ?_
 refine qD rfl (yH rfl rfl (by omega)) (qM (vJ ((c : Int) + 1)) ?_)
 refine qe (zV (⟨_, ?_, _, rfl, _, c + 1, lv, ls, fv, fr, ah, (pS 11 (pS 10 (pS 9 (pS 8 (pS 7 (pS 6 (pS 5 (pS 4 (pS 1 (pU 0)))))))))), rfl, cx, f2, (by omega), (lv_skip hrl (fun g => by have := g.1; rw [i8] at this; cases this)), (by omega), hfb, gu, gv, d8, fi, f3, gw, gx, be, fj⟩))
 omega
 refine cQ (zX (yO (yK (w9a ?_))))
 refine qM (vJ 0) ?_
 refine qe (zA ?_)
 refine zZ (yR (fun k en W => ∃ (ab : Nat → Value) (s : Nat) (an : Value) (fu : List Int) (ai : Value) (bb : List Nd) (aj : Pin), en = (upd (upd (upd (upd (upd (upd (upd (upd (upd (upd ab 0 (vP b)) 1 (vJ m)) 4 (vP b1)) 5 aw) 6 an) 7 (vP y)) 8 (vJ (q : Int))) 9 lv) 10 fv) 14 (vJ (s : Int))) ∧ k = ls.length - s ∧ Ext noS G w aj W ∧ Pin.le ah aj ∧ (s ≤ ls.length) ∧ (placeM ls fr ats outs = placeM (ls.drop s) (fr.drop s) fu bb) ∧ (fu.length = m.toNat + 1) ∧ (bb.length = outs.length + s) ∧ (Own eInt 3 aj W w.heap.size an (fu)) ∧ (Own eNode 65 aj W w.heap.size ai (bb)) ∧ (Own eNode 65 aj W 0 bu (ns)) ∧ (Own eInt 3 aj W 0 bv (bs)) ∧ (Bx aj W b [bu, bv]) ∧ (Bx aj W b1 [vN]) ∧ (Bx aj W y [ai]) ∧ (Apart an.ownBlock ai.ownBlock) ∧ (Apart an.ownBlock bu.ownBlock) ∧ (Apart an.ownBlock bv.ownBlock) ∧ (Apart an.ownBlock (some b)) ∧ (Apart an.ownBlock (some b1)) ∧ (Apart an.ownBlock (some y)) ∧ (Apart ai.ownBlock bu.ownBlock) ∧ (Apart ai.ownBlock bv.ownBlock) ∧ (Apart ai.ownBlock (some b)) ∧ (Apart ai.ownBlock (some b1)) ∧ (Apart ai.ownBlock (some y))) _ ⟨_, 0, at_, ats, ov, outs, ah, (pS 14 (pS 10 (pS 9 (pS 8 (pS 7 (pS 6 (pS 5 (pS 4 (pS 1 (pU 0)))))))))), rfl, cx, cJ _, cI _, rfl, hatl, rfl, gu, gv, d8, fi, f3, gw, gx, aa6, aa7, aa8, aa9, aba, abb, abc, abd, abe, nc, abf⟩ ?_)
 rintro ak5 _ gk ⟨ab, s, an, fu, ai, bb, aj, rfl, ak6, gl, fw, hi4, hrp, zr, ak8, l4, l5, zs, zt, zu, zv, zw, ik, l6, l7, l8, l9, il, ma, mb, mc, md, me⟩
 refine w9b ?_
 refine qM (vJ (s : Int)) ?_
 refine qM lv ?_
 refine qD rfl (zM dF (v := lv) rfl be) (qD rfl (yU rfl rfl) (qe (zA ?_)))
 refine yC (p := ((s : Int) : Int) < (ls.length : Int)) rfl rfl (fun ahi => ?_) (fun ahi => ?_)
 have hf4 := hfb s (by omega)
 refine cO (zA (zB ?_))
 refine zZ (zB (yW (S := fun wz => Pins aj wz ∧ BxR wz y [ai] ∧ Pins (Gadd aj gk ai) wz ∧ Pins (Gadd aj gk an) wz) (last := 9) (by kernel_rfl) rfl ?_))
 have bc := bdr gk
 have bd := gl.step (gl.pins.below bc) bc
 have zx := l4.below bc
 have bo := zw.below bc
 have co := (cM gl.pins ai).below bc
 have cp := (cM gl.pins an).below bc
 refine dT (i := 0) rfl rfl (by kernel_rfl) (fun _ _ => zN (v := an) rfl) ⟨bd.pins, bo.reads, co, cp⟩ ?_
 refine dT (i := 1) rfl rfl (by kernel_rfl) (fun _ _ => zN (v := fv) rfl) ⟨bd.pins, bo.reads, co, cp⟩ ?_
 refine dT (i := 2) rfl rfl (by kernel_rfl) (fun _ _ => zN (v := vJ (s : Int)) rfl) ⟨bd.pins, bo.reads, co, cp⟩ ?_
 refine dT (i := 3) rfl rfl (by kernel_rfl) (fun _ _ => zF dE sz3 (v := fv) rfl rfl fj (by omega) (by omega)) ⟨bd.pins, bo.reads, co, cp⟩ ?_
 refine dT (i := 4) rfl rfl (by kernel_rfl) (fun _ hS => zG (r := fr.getD s 0) rfl ag3 (z := (s : Int)) rfl fj (cC hS.1 fw) (by omega) (by omega)) ⟨bd.pins, bo.reads, co, cp⟩ ?_
 refine dT (i := 5) rfl rfl (by kernel_rfl) (fun _ _ => zH (k := 0) rfl dJ rfl nz30 rfl) ⟨bd.pins, bo.reads, co, cp⟩ ?_
 refine dT (i := 6) rfl rfl (by kernel_rfl) (fun _ hS => zJ (u := ai) ag30 rfl (hS.2.1 0 _ rfl)) ⟨bd.pins, bo.reads, co, cp⟩ ?_
 refine dT (i := 7) rfl rfl (by kernel_rfl) (fun _ _ => zM dF (v := ai) rfl l5.read) ⟨bd.pins, bo.reads, co, cp⟩ ?_
 refine dT (i := 8) rfl rfl (by kernel_rfl) (fun _ _ => zF dE sz3 (v := an) rfl rfl l4.read (by omega) (by omega)) ⟨bd.pins, bo.reads, co, cp⟩ ?_
 refine dO (i := 9) (xK (i := 9) rfl rfl rfl (zR rfl _) (jK (E := eInt) (v := an) (u := vJ (bb.length : Int)) (z := fr.getD s 0) ((bb.length : Int)) sz3 rfl rfl rfl rfl bd.pins zx (by omega) (by omega) (fun mf ahj ahk fb ala => ?_)))
 have zy := bd.write ahk fb ((yD zx))
 refine ⟨fun h => absurd rfl h, ?_⟩
 refine yL (by kernel_rfl) (zA (yW (S := fun wz => BxR wz y [ai] ∧ Pins aj wz) (last := 9) (by kernel_rfl) rfl ?_))
 have cq := bdr mf
 have cr := zy.step (zy.pins.below cq) cq
 have fc := (bo.keptA fb il.symm).below cq
 refine dT (i := 0) rfl rfl (by kernel_rfl) (fun _ _ => zH (k := 0) rfl dJ rfl nz30 rfl) ⟨fc.reads, cr.pins⟩ ?_
 refine dT (i := 1) rfl rfl (by kernel_rfl) (fun _ hS => zJ (u := ai) ag30 rfl (hS.1 0 _ rfl)) ⟨fc.reads, cr.pins⟩ ?_
 refine dT (i := 2) rfl rfl (by kernel_rfl) (fun _ _ => zN (v := lv) rfl) ⟨fc.reads, cr.pins⟩ ?_
 refine dT (i := 3) rfl rfl (by kernel_rfl) (fun _ _ => zN (v := vJ (s : Int)) rfl) ⟨fc.reads, cr.pins⟩ ?_
 refine dT (i := 4) rfl rfl (by kernel_rfl) (fun _ _ => zF dF sz65 (v := lv) rfl rfl be (by omega) (by omega)) ⟨fc.reads, cr.pins⟩ ?_
 obtain ⟨ahl, ahm, zz, z0, ahn⟩ := jD (be.at (z := (s : Int)) (by omega) (by omega)) (j := s) rfl
 have alb := zz.max
 have alc := z0.max
 refine dT (i := 5) rfl rfl (by kernel_rfl) (fun _ hS => ahn ag65 sz65 rfl (cC hS.2 fw)) ⟨fc.reads, cr.pins⟩ ?_
 refine dP (i := 6) rfl rfl (qP (E := eNode) (e := 65) [ahl, ahm] (⟨(ls.getD s default).l, (ls.getD s default).r⟩ : Nd) dF sz65 zr65 ⟨_, _, rfl, (zz.mono fw), (z0.mono fw)⟩ rfl (by decide) cr.pins (fun z1 aho ahp ahq d1 ald => ?_))
 have im := cr.step ahq d1
 have z2 := (ahj.below cq).below d1
 have z3 := (((l5.below bc).keptA fb ik.symm).below cq).below d1
 have z4 := (((zs.below bc).keptA fb l6.symm).below cq).below d1
 have z5 := (((zt.below bc).keptA fb l7.symm).below cq).below d1
 have z6 := (((zu.below bc).keptA fb l8.symm).below cq).below d1
 have z7 := (((zv.below bc).keptA fb l9.symm).below cq).below d1
 have mg := fc.below d1
 have ahr := ahp.weaken cr.size
 refine ⟨fun _ => ⟨mg.reads, im.pins⟩, ?_⟩
 refine dP (i := 7) rfl rfl (oA (E := eNode) (v := ai) (u := z1) 48 dF ap65 (by decide) rfl rfl im.pins z3 ahr.src (im.size) (fun io ale mh ahs fd fx => ?_))
 have ip := im.write ahs fd ((yD z3))
 have mi := mg.keptA fd me.symm
 have aht := zD ik fx z2.lt
 have ahu := zD ma.symm fx z4.lt
 have ahv := zD mb.symm fx z5.lt
 have ahw := zK mc.symm fx z6.lt
 have ahx := zK md.symm fx z7.lt
 have z8 := zK me.symm fx mg.lt
 have alf := la1 bb (⟨(ls.getD s default).l, (ls.getD s default).r⟩ : Nd)
 refine ⟨fun _ => ⟨mi.reads, ip.pins⟩, ?_⟩
 refine dT (i := 8) rfl rfl (by kernel_rfl) (fun _ _ => zH (k := 0) rfl dJ rfl nz30 rfl) ⟨mi.reads, ip.pins⟩ ?_
 refine dO (i := 9) (xK (i := 9) rfl rfl rfl (zR rfl _) (o_stp (cs' := [io]) (us := [io]) (v := io) sz30 rfl rfl (qR mh.one) (yZ mh.one) ip.pins mi (cE rfl) rfl (fun alg ahy ahz fe alh => ?_)))
 have ah0 := (z2.keptA fd ik).keptA fe il
 have ah1 := (z4.keptA fd ma.symm).keptA fe m2.symm
 have ah2 := (z5.keptA fd mb.symm).keptA fe m3.symm
 have ah3 := mh.keptA fe z8.symm
 have ah4 := (z6.keptA fd mc.symm).keptA fe m6.symm
 have ah5 := (z7.keptA fd md.symm).keptA fe m7.symm
 refine ⟨fun h => absurd rfl h, ?_⟩
 refine yL (by kernel_rfl) (w9c ?_)
 refine qM (vJ (s : Int)) ?_
 refine qD rfl (yH rfl rfl (by omega)) (qM (vJ ((s : Int) + 1)) ?_)
 refine qe (zV (⟨_, ?_, _, rfl, _, s + 1, an, (fu).set (fr.getD s 0).toNat (bb.length : Int), io, bb ++ ([(⟨(ls.getD s default).l, (ls.getD s default).r⟩ : Nd)]), aj, (pS 14 (pS 10 (pS 9 (pS 8 (pS 7 (pS 6 (pS 5 (pS 4 (pS 1 (pU 0)))))))))), rfl, (ip.write ahz fe ((zS m8))), fw, (by omega), (hrp.trans (place_next (by omega) (by omega))), ((cT ..).trans zr), (by simp; omega), ah0, ah3, ah1, ah2, ah4, ah5, ahy, aht, l6, l7, l8, l9, il, ahu.symm, ahv.symm, ahw.symm, ahx.symm, z8.symm⟩))
 omega
 refine cQ (zX (yO (yK (w9c ?_))))
 refine qM (vJ (q : Int)) ?_
 refine qD rfl (yH rfl rfl (by omega)) (qM (vJ ((q : Int) + 1)) ?_)
 refine qe (zV (⟨_, ?_, _, rfl, _, q + 1, an, fu, ai, bb, aj, (pS 8 (pS 7 (pS 6 (pS 5 (pS 4 (pS 1 (pU 0))))))), rfl, gl, (cB (cB (cB (cB m9 d5) d6) f2) fw), (by omega), (form_step hr (by rw [show m.toNat + 1 = c by omega]; exact hrl) (hrp.trans (place_end (by omega)))), zr, (by omega), l4, l5, zs, zt, zu, zv, zw, ik, l6, l7, l8, l9, il, ma, mb, mc, md, me⟩))
 omega
 refine cQ (zX (yO (yK (w9a ?_))))
 refine qD rfl (yA (cs := [ov]) ag32 sz32 rfl (fun j u hj => i3.cell (by simpa using hj))) (q0 rfl rfl rfl (o_stp (cs' := [ov]) (us := [ov]) (v := .agg #[ov]) sz32 rfl rfl rfl (yZ gr.one) fh.pins i2 (cE rfl) rfl (fun ali ah6 ah7 z9 alj => ?_)))
 have aaa := gr.keptA z9 nc
 refine qe (zA ?_)
 refine cP (zP (jQ (cs := [ov]) rfl rfl rfl ag32 sz32 (fun j u hj => by rw [cS]; exact ah6.cell hj) ?_))
 obtain ⟨alk, ah8, ah9, aia, all⟩ := aaa.sealed (fh.write ah7 z9 ((zS aac)))
 have hfd := form_done hr (by omega)
 exact ⟨_, _, rfl, (by rw [hfd]; exact aia), ah9, (by rw [hfd]; exact ⟨aq, aaa, ah8⟩)⟩
theorem nF {w : World} (hP : Pins G w) (hB : Bk 65 3 G w b bu bv ns bs) (hok : BookOk ns bs) (hm : 0 ≤ m ∧ m < ns.length) :
  Calls Tryz.prog 53 #[.pointer (some ⟨b, 0, none⟩), .int .i64 m] w fun e w' => ∃ (u : Value) (G' : Pin), e = .returned (.agg #[u]) ∧ RSl eNode G' u (formM ns bs m.toNat) ∧ Ext noS G w G' w' :=
 (form_own hP hB hok hm).mono fun _ _ ⟨u, G', h1, h2, h3, _⟩ => ⟨u, G', h1, h2, h3⟩
theorem l3Good_spec {w : World} {v : Value} (hP : Pins G w) (hv : RSl eNode G v ns) :
  Calls Tryz.prog 35 [.agg #[v]].toArray w fun e w' => ∃ G', e = .returned (.bool (decP (GoodS ns))) ∧ Ext noS G w G' w' := by
 refine zY (n := 46) Tryz.func35 Tryz.ntmps35 rfl rfl ?_
 have ae := exr noS hP
 have hm := hv.max
 refine w9d ?_
 refine qI rfl (xH [v] (v := .agg #[v]) rfl rfl ae.pins (fun b1 w2 bh az a0 a1 => ?_))
 have a2 : w.heap.size ≤ b1 := by have := ae.size; omega
 obtain ⟨G9, f, af, o, bj⟩ := az.shut (ae.step a0 a1) a2
 refine qM (.bool false) ?_
 refine qe (zA (w9b ?_))
 refine qD rfl (yA (cs := [v]) ag32 sz32 rfl (fun j u hj => af.pins _ _ _ (o _ _ (by simpa using hj)))) (qI rfl (zL (vs := [.agg #[v]]) Tryz.func50 nm50 rfl rfl rfl ?_))
 refine cD (l3Fits_spec af.pins (hv.mono f)) ?_
 rintro _ bk ⟨ao, rfl, a⟩
 refine rt9 ?_
 have ap := af.tr a
 refine qD rfl (xD rfl) (qe (zA ?_))
 refine xU rfl rfl (fun ab => ?_) (fun ab => ?_)
 refine cO (zA (w9b ?_))
 refine qM (vJ 0) ?_
 refine qe (zA ?_)
 refine zZ ?_
 have hfit := decP_true.1 ab
 refine yR (fun k en W => ∃ (aq : Nat → Value) (j : Nat) (x : Pin), en = (upd (upd aq 1 (vP b1)) 3 (vJ (j : Int))) ∧ k = ns.length - j ∧ Ext noS G w x W ∧ Pin.le ao x ∧ (j ≤ ns.length) ∧ (∀ i, i < j → Rise (ns.getD i default).l 0 ((i : Int) - 1) ∧ Rise (ns.getD i default).r 0 ((i : Int) - 1))) _ ⟨_, 0, ao, (pS 3 (pU 1)), rfl, ap, cJ _, cI _, (fun i hi => absurd hi (cK i))⟩ ?_
 rintro bl _ bm ⟨aq, j, x, rfl, bn, c, b, hj, hp⟩
 refine w9b ?_
 refine qM (vJ (j : Int)) ?_
 refine qD rfl (zH (k := 0) rfl dJ rfl nz30 rfl) (qD rfl (zJ (u := v) ag30 rfl ((cC c.pins (cB a.le b)) _ _ _ (o 0 _ rfl))) (qD rfl (zM dF (v := v) rfl hv) (qD rfl (yU rfl rfl) (qe (zA ?_)))))
 refine yC (p := ((j : Int) : Int) < (ns.length : Int)) rfl rfl (fun a3 => ?_) (fun a3 => ?_)
 refine cO (zA (zB ?_))
 refine zZ (w9d ?_)
 refine qD rfl (zH (k := 0) rfl dJ rfl nz30 rfl) (qD rfl (zJ (u := v) ag30 rfl ((cC c.pins (cB a.le b)) _ _ _ (o 0 _ rfl))) (qM (vJ (j : Int)) ?_))
 refine qD rfl (zF dF sz65 (v := v) rfl rfl hv (by omega) (by omega)) (qD rfl (xC (off := 0) dG rfl rfl nz56 (z := (j : Int)) (k := 0) rfl hv (by omega) (by omega)) ?_)
 obtain ⟨a4, ar, a5⟩ := jZ (hv.at (z := (j : Int)) (by omega) (by omega)) (j := j) rfl
 have bo := ar.max
 refine qD rfl (a5 ag56 rfl (cC c.pins (cB (cB f a.le) b))) (qM (vJ (j : Int)) ?_)
 refine qD rfl (xY rfl rfl (by omega)) (qI rfl (zL (vs := [a4, vJ 0, vJ ((j : Int) - 1)]) Tryz.func51 nm51 rfl rfl rfl ?_))
 refine cD (tU c.pins (ar.mono (cB (cB f a.le) b))) ?_
 rintro _ bp ⟨rfl, au⟩
 refine rt9 ?_
 have y := c.step au.pins au.below
 refine qD rfl (xD rfl) (qM (.bool (!(decP (Rise ((ns.getD j default).l) 0 ((j : Int) - 1))))) ?_)
 refine qbn (t := 25) rfl (fun ac => ?_) (fun ac => ?_)
 refine qN (zH (k := 0) rfl dJ rfl nz30 rfl) ?_
 refine qN (zJ (u := v) ag30 rfl ((cC y.pins (cB a.le b)) _ _ _ (o 0 _ rfl))) ?_
 refine qN (zN (v := vJ (j : Int)) rfl) ?_
 refine qN (zF dF sz65 (v := v) rfl rfl hv (by omega) (by omega)) ?_
 refine qN (xC (off := 1) dG rfl rfl nz56 (z := (j : Int)) (k := 0) rfl hv (by omega) (by omega)) ?_
 obtain ⟨a6, av, a7⟩ := jY (hv.at (z := (j : Int)) (by omega) (by omega)) (j := j) rfl
 have bq := av.max
 refine qN (a7 ag56 rfl (cC y.pins (cB (cB f a.le) b))) ?_
 refine qN (zN (v := vJ (j : Int)) rfl) ?_
 refine qN (xY rfl rfl (by omega)) ?_
 refine q1g rfl rfl rfl rfl rfl rfl (zL (vs := [a6, vJ 0, vJ ((j : Int) - 1)]) Tryz.func51 nm51 rfl rfl rfl ?_)
 refine cD (tU y.pins (av.mono (cB (cB f a.le) b))) ?_
 rintro _ br ⟨rfl, aw⟩
 refine rt9 ?_
 have ax := y.step aw.pins aw.below
 refine qN (xD rfl) ?_
 refine qD rfl (zU (v := .bool (!(decP (Rise ((ns.getD j default).r) 0 ((j : Int) - 1))))) rfl rfl) (qe (zA ?_))
 refine xU rfl rfl (fun ad => ?_) (fun ad => ?_)
 refine cO (w9c ?_)
 refine qM (vJ (j : Int)) ?_
 refine qD rfl (yH rfl rfl (by omega)) (qM (vJ ((j : Int) + 1)) ?_)
 refine qe (zV (⟨_, ?_, _, rfl, _, j + 1, x, (pS 3 (pU 1)), rfl, ax, b, (by omega), (fun k hk => if h3 : k = j then h3 ▸ ⟨decP_true.1 ac, decP_true.1 ad⟩ else hp k (by omega))⟩))
 omega
 refine w9d ?_
 refine qM (.bool false) ?_
 refine qe (zA ?_)
 exact cP (zP (zQ (v := .bool false) rfl rfl rfl (⟨_, cgA eB (decP_false.2 (fun g => by rw [decP_true.2 (g.rise j (by omega)).2] at ad; cases ad)).symm, ax⟩)))
 refine qW ?_
 refine qW ?_
 refine qW ?_
 refine qW ?_
 refine qW ?_
 refine qW ?_
 refine qW ?_
 refine qW ?_
 refine qW ?_
 refine qW ?_
 refine qD rfl (yB (v := .bool true) rfl rfl) (qe (zA ?_))
 refine qK rfl rfl (w9d ?_)
 refine qM (.bool false) ?_
 refine qe (zA ?_)
 exact cP (zP (zQ (v := .bool false) rfl rfl rfl (⟨_, cgA eB (decP_false.2 (fun g => by rw [decP_true.2 (g.rise j (by omega)).1] at ac; cases ac)).symm, y⟩)))
 refine cQ (zX (yO (yK (w9a ?_))))
 have hrise : ∀ i, i < ns.length → Rise (ns.getD i default).l 0 ((i : Int) - 1) ∧ Rise (ns.getD i default).r 0 ((i : Int) - 1) := fun i hi => hp i (by omega)
 have hfok := fH hfit hrise
 have hlim := hfit.lim
 have hao := fL qY hfok (by simp; omega)
 refine qD rfl (yS [vN, vN] [vN, vN] [] dL zr77 rfl pl77 rfl (fun _ h => by cases h) rfl) (qI rfl (xH [vN, vN] (v := .agg #[vN, vN]) rfl rfl c.pins (fun m ag bs a8 a9 ba => ?_)))
 have ay := c.step a9 ba
 have bb : w.heap.size ≤ m := by have := c.size; omega
 refine qM (vP m) ?_
 refine qe (zA (zB ?_))
 refine yW (S := fun wz => Pins x wz) (last := 8) (by kernel_rfl) rfl ?_
 have ah := bdr ag
 have d := ay.step (ay.pins.below ah) ah
 refine dM 0 (vP m) d.pins ?_
 refine dM 1 (vP m) d.pins ?_
 refine dT (i := 2) rfl rfl (by kernel_rfl) (fun _ hS => yA (cs := [v]) ag32 sz32 rfl (fun j u hj => (cC hS (cB a.le b)) _ _ _ (o _ _ (by simpa using hj)))) d.pins ?_
 refine dT (i := 5) rfl rfl (by kernel_rfl) (fun _ hS => yA (cs := [v]) ag32 sz32 rfl (fun j u hj => (cC hS (cB a.le b)) _ _ _ (o _ _ (by simpa using hj)))) d.pins ?_
 refine dP (i := 3) rfl rfl (zL (vs := [vP m, .agg #[v]]) Tryz.func54 nm54 rfl rfl rfl ?_)
 refine cD (root_spec d.pins ⟨(a8.below ah), (Own.nil _ _ _ _ _), (Own.nil _ _ _ _ _), apart_none.symm, apart_none.symm, apart_none⟩ qY (hv.mono (cB (cB f a.le) b)) ⟨hfok, hlim.1⟩ (by first | omega | (simp; omega))) ?_
 rintro _ bt ⟨bu, bv, bw, rfl, q, s, bc, bd⟩
 refine rt9 ?_
 have ai : ∀ i, inS m vN vN i → w.heap.size ≤ i ∨ noS i := fU (zS bb) (kQ _ _) (kQ _ _)
 have aj := d.trans s ai
 have bz := qJ bc ai d.size
 have b0 := qJ bd ai d.size
 refine ⟨fun _ => (cC aj.pins s.le), ?_⟩
 refine dP (i := 4) rfl rfl (zL (vs := [vP m, vJ (rootM ([]) ([]) ns)]) Tryz.func53 nm53 rfl rfl rfl ?_)
 refine cD (nF aj.pins ⟨q.bx, q.ou, q.ov, q.abu, q.abv, q.auv⟩ hao.book (root_lt hao hlim.1)) ?_
 rintro _ b2 ⟨be, b3, rfl, bf, aa⟩
 refine rt9 ?_
 have ak := aj.tr aa
 refine ⟨fun _ => (cC ak.pins (cB s.le aa.le)), ?_⟩
 refine dP (i := 6) rfl rfl (zL (vs := [.agg #[be], .agg #[v]]) Tryz.func52 nm52 rfl rfl rfl ?_)
 refine cD (l3Same_spec ak.pins bf (hv.mono (cB (cB (cB (cB f a.le) b) s.le) aa.le))) ?_
 rintro _ b4 ⟨b5, rfl, al⟩
 refine rt9 ?_
 have am := ak.tr al
 refine ⟨fun _ => (cC am.pins (cB (cB s.le aa.le) al.le)), ?_⟩
 refine dM 7 (.bool (decide ((formM ((addM ([]) ([]) ns).2.1) ((addM ([]) ([]) ns).2.2) (rootM ([]) ([]) ns).toNat) = ns))) (cC am.pins (cB (cB s.le aa.le) al.le)) ?_
 exact yL (by kernel_rfl) (zA (cP (zP (zQ (v := .bool (decide ((formM ((addM ([]) ([]) ns).2.1) ((addM ([]) ([]) ns).2.2) (rootM ([]) ([]) ns).toNat) = ns))) rfl rfl rfl (⟨_, cgA eB (decP_dec.symm.trans (fI ⟨fun h => ⟨hfit, hrise, h⟩, fun h => h.same⟩)), am⟩)))))
 refine w9d ?_
 refine qM (.bool false) ?_
 refine qe (zA ?_)
 exact cP (zP (zQ (v := .bool false) rfl rfl rfl (⟨_, cgA eB (decP_false.2 (fun g => by rw [decP_true.2 g.fits] at ab; cases ab)).symm, ap⟩)))
end E1
namespace K1
variable {G : Pin} {v : Value} {xs : List UInt8} {i : Int}
theorem isPow_spec {w : World} (hP : Pins G w) :
  Calls Tryz.prog 144 #[.int .i64 36] w fun e w' => e = .returned (.bool false) ∧ w' = w := by
 refine zY (n := 8) Tryz.func144 Tryz.ntmps144 rfl rfl ?_
 have hX0 := exr noS hP
 refine w9d ?_
 refine qM (.bool false) ?_
 refine qe (w9a ?_)
 refine qM (.int .i64 36) ?_
 refine qM (.int .i64 36) ?_
 refine qD rfl (xY rfl rfl (by omega)) (qD rfl (r_and rfl rfl) (qD rfl (xO rfl rfl) (qM (.bool (decide ((andW .i64 36 (36 - 1) : Int) = 0))) ?_)))
 refine qe (zA ?_)
 exact cP (zP (zQ (v := .bool (decide ((andW .i64 36 (36 - 1) : Int) = 0))) rfl rfl rfl (⟨cgA eB not_pow36, rfl⟩)))
theorem pH {w : World} (hP : Pins G w) (hv : Own eByte 5 G w 0 v xs) (hxl : xs.length ≤ 1099511627776) (hi : 0 ≤ i ∧ i ≤ 9223372036854775807) :
  Calls Tryz.prog 136 #[v, .int .u64 i, vJ 36, .bool false, .bool true] w fun e w' => ∃ (u : Value) (G' : Pin), e = .returned (.tuple #[u, .string (⟨#[]⟩ : ByteArray)]) ∧ Own eByte 5 G' w' 0 u (xs ++ dig36 i.toNat) ∧ Lo w (inO v.ownBlock) u.ownBlock ∧ Ext (inO v.ownBlock) G w G' w' := by
 refine zY (n := 102) Tryz.func136 Tryz.ntmps136 rfl rfl ?_
 have c := exr (inO v.ownBlock) hP
 have hlov : Lo w (inO v.ownBlock) v.ownBlock := xN
 refine w9d ?_
 refine qM vN ?_
 refine qM (.string (⟨#[]⟩ : ByteArray)) ?_
 refine qe (zA (w9b ?_))
 refine qM (vJ 36) ?_
 refine qD rfl (yU rfl rfl) (qM (.bool false) ?_)
 refine qN (zN (v := vJ 36) rfl) ?_
 refine qN (xO rfl rfl) ?_
 refine qD rfl (zU (v := .bool false) rfl rfl) (qM (.bool false) ?_)
 refine qN (zN (v := vJ 36) rfl) ?_
 refine qN (jW rfl rfl) ?_
 refine qD rfl (zU (v := .bool false) rfl rfl) (qe (zA ?_))
 refine xT rfl rfl (cO (w9a ?_))
 refine qI rfl (yI (arrV (List.replicate 65 0)) zr162 rfl c.pins (fun d w2 x y aa l => ?_))
 have m := c.step aa l
 have ab := hv.below l
 have f := zE (cgA some x) hv.lt
 have g : w.heap.size ≤ d := by have := c.size; omega
 refine qe (w9a ?_)
 refine qM (vJ 65) ?_
 refine qe (zA (w9b ?_))
 refine qM (.bool false) ?_
 refine qe (zA ?_)
 refine xT rfl rfl (cO (zA (w9b ?_)))
 refine qM (vJ 36) ?_
 refine qI rfl (zL (vs := [vJ 36]) Tryz.func144 nm144 rfl rfl rfl ?_)
 refine cD (isPow_spec m.pins ) ?_
 rintro _ _ ⟨rfl, rfl⟩
 refine rt9 (qe (zA ?_))
 refine xT rfl rfl (w9d ?_)
 refine qM (vJ 36) ?_
 refine qD rfl (sO (j := 36) dS Tryz.underlying138 rfl (nL (by omega))) (qM (.int .u64 36) ?_)
 refine qe (zA (zB ?_))
 refine zZ (yR (fun k en W => ∃ (o : Nat → Value) (uz : Int) (iz : Int) (L : List UInt8), en = (upd (upd (upd (upd (upd (upd (upd (upd (upd o 0 v) 1 (.int .u64 uz)) 3 (.bool false)) 4 (.bool true)) 10 vN) 11 (.string (⟨#[]⟩ : ByteArray))) 12 (vP d)) 13 (vJ iz)) 17 (.int .u64 36)) ∧ k = uz.toNat ∧ Ext (inO v.ownBlock) G w G W ∧ (L.length = 65) ∧ (0 ≤ uz ∧ uz ≤ 9223372036854775807) ∧ (iz ≤ 65) ∧ (dig36 i.toNat = dig36 uz.toNat ++ L.drop iz.toNat) ∧ (Own eByte 5 G W 0 v (xs)) ∧ (Bx G W d (arrV (L)))) _ ⟨_, i, 65, List.replicate 65 0, (pS 17 (pS 13 (pS 12 (pS 11 (pS 10 (pS 4 (pS 3 (pS 1 (pU 0))))))))), rfl, m, List.length_replicate, hi, (Int.le_refl _), (by simp), ab, y⟩ ?_)
 rintro av _ aw ⟨o, uz, iz, L, rfl, ax, a, hL, hu, hiz, hd, q, r⟩
 have hpl := dig_place hd hL (by omega)
 refine w9b ?_
 refine qM (.int .u64 uz) ?_
 refine qM (.int .u64 36) ?_
 refine qD rfl (gP rfl rfl) (qe (zA ?_))
 refine yC (p := (36 : Int) ≤ uz) rfl rfl (fun ac => ?_) (fun ac => ?_)
 refine cO (zA (zZ (w9d ?_)))
 refine qM (vJ iz) ?_
 refine qD rfl (xY rfl rfl (by omega)) (qM (vJ (iz - 1)) ?_)
 refine qe (w9a ?_)
 refine qM (.int .u64 uz) ?_
 refine qM (.int .u64 36) ?_
 refine qD rfl (r_quoX rfl rfl (by omega) (by omega) (by omega)) (qM (.int .u64 (uz / 36)) ?_)
 refine qe (w9a ?_)
 refine qM (vJ (iz - 1)) ?_
 refine qM (.int .u64 uz) ?_
 refine qM (.int .u64 (uz / 36)) ?_
 refine qM (.int .u64 36) ?_
 refine qD rfl (r_mulX rfl rfl (by omega)) (qD rfl (r_subX rfl rfl (by omega)) (qD rfl (r_digit dY rfl rfl (by omega)) (qD rfl (r_idxb (k := (iz - 1).toNat) Tryz.underlying162 sz5 rfl rfl (by omega) (by omega) (by omega)) (q0 rfl rfl rfl (o_stpk (k := (iz - 1).toNat) (x0 := digC (uz - ((uz / 36) * 36)).toNat) sz5 rfl rfl (by first | omega | (simp only [cT]; omega)) a.pins r (fun ay ad ae s az => ?_))))))
 refine qe (zA (zC ?_))
 refine qM (.int .u64 (uz / 36)) ?_
 refine qM (.int .u64 (uz / 36)) ?_
 refine qe (zW (zV (⟨_, ?_, _, rfl, _, uz / 36, iz - 1, L.set (iz - 1).toNat (digC (uz - ((uz / 36) * 36)).toNat), (pS 17 (pS 13 (pS 12 (pS 11 (pS 10 (pS 4 (pS 3 (pS 1 (pU 0))))))))), rfl, (a.write ae s ((zS g))), (by rw [cT]; exact hL), (by omega), (by omega), (dig_step hd hL (by omega) (by omega)), (q.keptA s f.symm), ad⟩)))
 omega
 refine cQ (zX (yO (yK (w9a ?_))))
 refine qM (vJ iz) ?_
 refine qD rfl (xY rfl rfl (by omega)) (qM (vJ (iz - 1)) ?_)
 refine qe (zA (zC ?_))
 refine qM (vJ (iz - 1)) ?_
 refine qM (.int .u64 uz) ?_
 refine qD rfl (r_digit dY rfl rfl (by omega)) (qD rfl (r_idxb (k := (iz - 1).toNat) Tryz.underlying162 sz5 rfl rfl (by omega) (by omega) (by omega)) (q0 rfl rfl rfl (o_stpk (k := (iz - 1).toNat) (x0 := digC (uz).toNat) sz5 rfl rfl (by first | omega | (simp only [cT]; omega)) a.pins r (fun a0 af ag t a1 => ?_))))
 refine qe (zA (w9b ?_))
 refine qM (.bool false) ?_
 refine qe (zA ?_)
 refine xT rfl rfl (cO (zA (w9b ?_)))
 refine qM (.bool true) ?_
 refine qe (zA ?_)
 refine qK rfl rfl (w9d ?_)
 refine qM v ?_
 refine qM (vJ (iz - 1)) ?_
 obtain ⟨a2, ah, b, ai, aj⟩ := af.shut (a.write ag t ((zS g))) g
 obtain ⟨ak, al, am⟩ := name_arr (z := iz - 1) (n := 65) ai (by rw [cT]; exact hL) (by omega) (by decide)
 refine qD rfl (am Tryz.underlying162 sz5 rfl rfl) (qI rfl (oA (E := eByte) (v := v) (u := ak) 1 dX ap5 (by decide) rfl rfl b.pins ((q.keptA t f.symm).moreA ah aj f.symm) ((al.mono (cJ _)).src b.pins (by decide)) (cI _) (fun h a3 an ao ap aq => ?_)))
 have ar : Lo w (inO v.ownBlock) h.ownBlock := nA hlov aq b.size
 have a4 := la2 xs ((L.set (iz - 1).toNat (digC (uz).toNat)).drop (iz - 1).toNat)
 refine qM h ?_
 refine qe (zA ?_)
 refine cP (zP (fY (v := h) (u := .string (⟨#[]⟩ : ByteArray)) rfl rfl rfl rfl rfl ?_))
 have hown := an
 rw [dig_last hd hL (by omega) (by omega)] at hown
 exact ⟨_, _, rfl, hown, ar, (b.write ao ap (hlov))⟩
theorem pI {w : World} (hP : Pins G w) (hv : Own eByte 5 G w 0 v xs) (hxl : xs.length ≤ 1099511627776) (hi : 0 ≤ i ∧ i ≤ 9223372036854775807) :
  Calls Tryz.prog 121 #[v, .int .u64 i, .int .i64 36] w fun e w' => ∃ (u : Value) (G' : Pin), e = .returned u ∧ Own eByte 5 G' w' 0 u (xs ++ dig36 i.toNat) ∧ Lo w (inO v.ownBlock) u.ownBlock ∧ Ext (inO v.ownBlock) G w G' w' := by
 refine zY (n := 36) Tryz.func121 Tryz.ntmps121 rfl rfl ?_
 have b := exr (inO v.ownBlock) hP
 have hlov : Lo w (inO v.ownBlock) v.ownBlock := xN
 refine w9d ?_
 refine qM (.slice none 0 0) ?_
 refine qe (zA (w9b ?_))
 refine qM (.int .i64 36) ?_
 refine qD rfl (xO rfl rfl) (qe (zA ?_))
 refine xT rfl rfl (cO (w9a ?_))
 refine qM v ?_
 refine qM (.int .u64 i) ?_
 refine qM (.int .i64 36) ?_
 refine qI rfl (zL (vs := [v, .int .u64 i, .int .i64 36, .bool false, .bool true]) Tryz.func136 nm136 rfl rfl rfl ?_)
 refine cD (pH (i := i) b.pins hv (by omega) (by omega)) ?_
 rintro _ j ⟨a, k, rfl, c, d, f⟩
 refine rt9 ?_
 have g := b.trans f (fun i hi => hlov i hi)
 have h := lo_turn d hlov b.size
 have l := la2 xs (dig36 (i).toNat)
 refine qM (.tuple #[a, .string (⟨#[]⟩ : ByteArray)]) ?_
 refine qD rfl (yM (v := a) rfl rfl) (qD rfl (yM (v := .string (⟨#[]⟩ : ByteArray)) rfl rfl) (qM a ?_))
 refine qe (w9a ?_)
 refine qM a ?_
 refine qM a ?_
 refine qe (zA ?_)
 exact cP (zP (zQ (v := a) rfl rfl rfl (⟨_, _, rfl, c, h, g⟩)))
theorem pG {w : World} (hP : Pins G w) (hv : Own eByte 5 G w 0 v xs) (hxl : xs.length ≤ 1099511627776) (hi : 0 ≤ i ∧ i ≤ 9223372036854775807) :
  Calls Tryz.prog 118 #[v, .int .i64 i, .int .i64 36] w fun e w' => ∃ (u : Value) (G' : Pin), e = .returned u ∧ Own eByte 5 G' w' 0 u (xs ++ dig36 i.toNat) ∧ Lo w (inO v.ownBlock) u.ownBlock ∧ Ext (inO v.ownBlock) G w G' w' := by
 refine zY (n := 21) Tryz.func118 Tryz.ntmps118 rfl rfl ?_
 have a := exr (inO v.ownBlock) hP
 have hlov : Lo w (inO v.ownBlock) v.ownBlock := xN
 refine w9d ?_
 refine qM (.slice none 0 0) ?_
 refine qe (w9a ?_)
 refine qM (.int .i64 i) ?_
 refine qD rfl (sO (j := i) Tryz.underlying2 Tryz.underlying138 rfl (nL (by omega))) (qM (.int .u64 i) ?_)
 refine qe (zA (w9b ?_))
 refine qM (.int .i64 i) ?_
 refine qD rfl (yU rfl rfl) (qe (zA ?_))
 refine yC (p := (i : Int) < 0) rfl rfl (fun c => ?_) (fun c => ?_)
 exfalso; omega
 refine cO (w9a ?_)
 refine qM v ?_
 refine qM (.int .u64 i) ?_
 refine qM (.int .i64 36) ?_
 refine qI rfl (zL (vs := [v, .int .u64 i, .int .i64 36]) Tryz.func121 nm121 rfl rfl rfl ?_)
 refine cD (pI (i := i) a.pins hv (by omega) (by omega)) ?_
 rintro _ l ⟨b, m, rfl, d, f, g⟩
 refine rt9 ?_
 have h := a.trans g (fun i hi => hlov i hi)
 have k := lo_turn f hlov a.size
 have o := la2 xs (dig36 (i).toNat)
 refine qM b ?_
 refine qe (zA ?_)
 exact cP (zP (zQ (v := b) rfl rfl rfl (⟨_, _, rfl, d, k, h⟩)))
theorem tD {w : World} (hP : Pins G w) (hv : Own eByte 5 G w 0 v xs) (hxl : xs.length ≤ 1099511627776) (hi : 0 ≤ i ∧ i ≤ 9223372036854775807) :
  Calls Tryz.prog 108 #[v, .int .i64 i, .int .i64 36] w fun e w' => ∃ (u : Value) (G' : Pin), e = .returned u ∧ Own eByte 5 G' w' 0 u (xs ++ dig36 i.toNat) ∧ Lo w (inO v.ownBlock) u.ownBlock ∧ Ext (inO v.ownBlock) G w G' w' := by
 refine zY (n := 11) Tryz.func108 Tryz.ntmps108 rfl rfl ?_
 have a := exr (inO v.ownBlock) hP
 have hlov : Lo w (inO v.ownBlock) v.ownBlock := xN
 refine w9d ?_
 refine qM (.slice none 0 0) ?_
 refine qe (w9a ?_)
 refine qM v ?_
 refine qM (.int .i64 i) ?_
 refine qM (.int .i64 36) ?_
 refine qI rfl (zL (vs := [v, .int .i64 i, .int .i64 36]) Tryz.func118 nm118 rfl rfl rfl ?_)
 refine cD (pG (i := i) a.pins hv (by omega) (by omega)) ?_
 rintro _ j ⟨b, k, rfl, c, d, f⟩
 refine rt9 ?_
 have g := a.trans f (fun i hi => hlov i hi)
 have h := lo_turn d hlov a.size
 have l := la2 xs (dig36 (i).toNat)
 refine qM b ?_
 refine qe (zA ?_)
 exact cP (zP (zQ (v := b) rfl rfl rfl (⟨_, _, rfl, c, h, g⟩)))
end K1
namespace PO1
open B1 K1
theorem mk5 : (Tryz.prog.info? 5).map (fun i => (i.size, i.bytes, i.zero)) = some (1, 1, some (.int .u8 0)) := by kernel_rfl
variable {G : Pin} {v : Value} {xs : List Int} {e base : Nat}
theorem clone_spec {w : World} (hP : Pins G w) (hv : RSl eInt G v xs) (hs : xs.length ≤ 1048576) :
  Calls Tryz.prog 115 #[v] w fun e w' => ∃ (u : Value) (G' : Pin), e = .returned u ∧ Own eInt 3 G' w' w.heap.size u xs ∧ Ext noS G w G' w' := by
 refine zY (n := 8) Tryz.func115 Tryz.ntmps115 rfl rfl ?_
 have a := exr noS hP
 refine w9d ?_
 refine qM (.slice none 0 0) ?_
 refine qe (zA (w9b ?_))
 refine qM v ?_
 refine qD rfl (r_eqlNil dE hv rfl rfl) (qe (zA ?_))
 refine c_if rfl rfl (fun c => ?_) (fun c => ?_)
 refine w9d ?_
 refine qM (.slice none 0 0) ?_
 refine qe (zA ?_)
 refine cP (zP (zQ (v := .slice none 0 0) rfl rfl rfl ?_))
 have h := nil_of hv c
 subst h
 exact ⟨_, _, rfl, Own.nil _ _ _ _ _, a⟩
 refine cO (w9a ?_)
 refine qI rfl (xE (E := eInt) (e := 3) dE sz3 a.pins (fun d i j k l r => ?_))
 have b := a.step k l
 have f := j.weaken a.size
 refine qM v ?_
 refine qI rfl (oA (E := eInt) (v := d) (u := v) 8 dE ap3 (by decide) rfl rfl b.pins f ((hv.mono (cJ _)).src b.pins (by decide)) (b.size) (fun g s m o p t => ?_))
 have q := b.write o p ((yD f))
 have x := la2 ([]) xs
 refine qM g ?_
 refine qe (zA ?_)
 exact cP (zP (zQ (v := g) rfl rfl rfl (⟨_, _, rfl, m, q⟩)))
theorem sortI_spec {w : World} (hP : Pins G w) (hv : Own eInt e G w base v xs) (hl : xs.length ≤ 1073741824) :
  Calls Tryz.prog 116 #[v] w fun en w' => ∃ G', en = .returned (.tuple #[]) ∧ Own eInt e G' w' base v (sortM xs) ∧ Ext (inO v.ownBlock) G w G' w' := by
 rcases own_cases hv with ⟨rfl, rfl⟩ | ⟨g, cap, rfl⟩
 ·refine (Tryz.slices_Sort_int_none none 0 w).mono ?_
  rintro en w' ⟨rfl, rfl⟩
  exact ⟨G, rfl, by simpa [sortM] using hv, Ext.refl hP⟩
 ·obtain ⟨_, h1, h2, h3⟩ := own_holds hv
  refine (Tryz.slices_Sort_int g 0 cap xs w h3 h1 (by omega)).mono ?_
  rintro en w' ⟨rfl, m, os, hw⟩
  obtain ⟨a, b, c⟩ := own_put (ys := sortM xs) hv hP hw (fO xs) (List.take_length ..)
  rw [fO] at a
  exact ⟨G, rfl, a, Ext.one b c⟩
theorem eY {w : World} (hP : Pins G w) (hv : Own eInt e G w base v xs) (hl : xs.length ≤ 1073741824) :
  Calls Tryz.prog 117 #[v] w fun en w' => ∃ (u : Value) (G' : Pin), en = .returned u ∧ Own eInt e G' w' base u (Go.Lib.compact xs) ∧ Lo w (inO v.ownBlock) u.ownBlock ∧ Ext (inO v.ownBlock) G w G' w' := by
 rcases own_cases hv with ⟨rfl, rfl⟩ | ⟨g, cap, rfl⟩
 ·refine (Tryz.slices_Compact_int_empty none 0 w).mono ?_
  rintro en w' ⟨rfl, rfl⟩
  exact ⟨_, G, rfl, hv, xN, Ext.refl hP⟩
 ·obtain ⟨_, h1, h2, h3⟩ := own_holds hv
  refine (Tryz.slices_Compact_int g 0 cap xs w h3 (by omega) h2).mono ?_
  rintro en w' ⟨rfl, m, hw⟩
  have hcl := compact_len xs
  obtain ⟨a, b, c⟩ := own_put (os := #[]) (ys := Go.Lib.compact xs) hv hP (hw.trans (Go.Sort.grow_empty _).symm) (by simp; omega) (List.take_left ..)
  exact ⟨_, G, rfl, a, xN, Ext.one b c⟩
theorem tW {w : World} (hP : Pins G w) (hv : RSl eInt G v xs) (hs : xs.length ≤ 1048576) :
  Calls Tryz.prog 107 #[v] w fun e w' => ∃ (u : Value) (G' : Pin), e = .returned u ∧ Own eInt 3 G' w' w.heap.size u (sortL xs) ∧ Ext noS G w G' w' := by
 refine zY (n := 10) Tryz.func107 Tryz.ntmps107 rfl rfl ?_
 have b := exr noS hP
 refine w9d ?_
 refine qM (.slice none 0 0) ?_
 refine qe (w9a ?_)
 refine qM v ?_
 refine qI rfl (zL (vs := [v]) Tryz.func115 nm115 rfl rfl rfl ?_)
 refine cD (clone_spec b.pins hv (by omega)) ?_
 rintro _ l ⟨a, m, rfl, o, p⟩
 refine rt9 ?_
 have f := b.tr p
 have g := o.weaken b.size
 refine qM a ?_
 refine qe (w9a ?_)
 refine qM a ?_
 refine qI rfl (zL (vs := [a]) Tryz.func116 nm116 rfl rfl rfl ?_)
 refine cD (sortI_spec f.pins g (by omega)) ?_
 rintro _ z ⟨G8, rfl, c, q⟩
 refine rt9 ?_
 have d := f.trans q (fun i hi => (yD g) i hi)
 have ab := fO xs
 refine qe (w9a ?_)
 refine qM a ?_
 refine qI rfl (zL (vs := [a]) Tryz.func117 nm117 rfl rfl rfl ?_)
 refine cD (eY d.pins (c.weaken (cI _)) (by omega)) ?_
 rintro _ ac ⟨j, ad, rfl, r, s, t⟩
 refine rt9 ?_
 have x := d.trans t (fun i hi => (yD c) i hi)
 have y := r.up (lo := w.heap.size) (fun k hk => (s k hk).elim (fun h => cR d.size h) (fun h => (c.lt k h).1))
 refine qM j ?_
 refine qe (zA ?_)
 exact cP (zP (zQ (v := j) rfl rfl rfl (⟨_, _, rfl, (by rw [← distinct_eq]; simpa using y), x⟩)))
theorem node_spec {w : World} {p : Nat} {L R B : Value} {mm : PM} {q : PSt} (hP : Pins G w) (hpk : Pk 56 3 G w p L R B mm q) (hok : PoolOk q) {x y : Value} {ys : List Int} (hx : RSl eInt G x xs) (hy : RSl eInt G y ys) (hlim : q.ns.length + 1 ≤ 1048576) (hls : xs.length ≤ 1048576 ∧ ys.length ≤ 1048576) (hk1 : ∀ i, i < xs.length → 0 ≤ xs.getD i 0 ∧ xs.getD i 0 < q.ns.length) (hk2 : ∀ i, i < ys.length → 0 ≤ ys.getD i 0 ∧ ys.getD i 0 < q.ns.length) :
  Calls Tryz.prog 93 #[vP p, x, y] w fun e w' => ∃ (z : Int) (L' R' B' : Value) (q' : PSt) (G' : Pin), e = .returned (vJ z) ∧ Pk 56 3 G' w' p L' R' B' mm q' ∧ PoolOk q' ∧ PX q q' ∧ PLo w p L R B mm L' R' B' ∧ Ext (inP p L R B mm) G w G' w' ∧ PlaceOk q' z ∧ pd q' z = mkG (xs.map (pd q)) (ys.map (pd q)) ∧ q'.ns.length ≤ q.ns.length + 1 ∧ (q'.cm = q.cm ∧ (q'.ns.length = q.ns.length ∨ z = q.ns.length)) := by
 refine zY (n := 130) Tryz.func93 Tryz.ntmps93 rfl rfl ?_
 have cc := exr (inP p L R B mm) hP
 have hpin : PIn w (inP p L R B mm) p L R B mm := PIn.self
 have jt := pkl q
 have ju := pkb hok
 obtain ⟨d, ao⟩ : ∃ l, l = sortL xs := ⟨_, rfl⟩
 obtain ⟨g, ap⟩ : ∃ l, l = sortL ys := ⟨_, rfl⟩
 have bl := nQ hk1
 have cd := nQ hk2
 rw [← ao] at bl
 rw [← ap] at cd
 have jv : d.length ≤ 1048576 := by rw [ao]; exact cR jR hls.1
 have jw : g.length ≤ 1048576 := by rw [ap]; exact cR jR hls.2
 refine w9d ?_
 refine qM (vJ 0) ?_
 refine qe (w9a ?_)
 refine qM x ?_
 refine qI rfl (zL (vs := [x]) Tryz.func107 nm107 rfl rfl rfl ?_)
 refine cD (tW cc.pins hx (by omega)) ?_
 rintro _ w5 ⟨t, G4, rfl, ce, cf⟩
 refine rt9 ?_
 rw [← ao] at ce
 have cg := cc.tr cf
 have dh := hpk.ext cf
 have bo := hpk.new (x := t.ownBlock) (fun k hk => (ce.lt k hk).1)
 have di := ce.weaken cc.size
 refine qM y ?_
 refine qI rfl (zL (vs := [y]) Tryz.func107 nm107 rfl rfl rfl ?_)
 refine cD (tW cg.pins (hy.mono cf.le) (by omega)) ?_
 rintro _ gt ⟨aa, bp, rfl, bq, ch⟩
 refine rt9 ?_
 rw [← ap] at bq
 have ci := cg.tr ch
 have cj := di.ext ch
 have dj := dh.ext ch
 have a0 := dh.new (x := aa.ownBlock) (fun k hk => (bq.lt k hk).1)
 have ck := bq.weaken cg.size
 refine qM t ?_
 refine qM aa ?_
 refine qe (w9a ?_)
 refine qM t ?_
 refine qD rfl (zM dE (v := t) rfl cj.read) (qM aa ?_)
 refine qD rfl (zM dE (v := aa) rfl ck.read) (qD rfl (yH rfl rfl (by omega)) (qD rfl (r_mul rfl rfl (by omega)) (qD rfl (yH rfl rfl (by omega)) (qI rfl (o_make0 (E := eByte) dX mk5 rfl rfl ci.pins (by omega) (by omega) (by omega) (fun br gu gv dk bt cl => ?_))))))
 have dl := cj.below bt
 have gw := ck.below bt
 have gx := dj.below bt dk
 have gy := zE cl cj.lt
 have gz := zE cl ck.lt
 have g0 := dj.new (x := br.ownBlock) (fun k hk => by rw [cl] at hk; cases hk; exact cH _)
 have g1 := gv.weaken ci.size
 refine qM br ?_
 refine qe (w9a ?_)
 refine qM (vJ 0) ?_
 refine qe (zA (w9b ?_))
 refine qM t ?_
 refine qD rfl (zM dE (v := t) rfl dl.read) (qM (vJ 0) ?_)
 refine qe (zA ?_)
 refine zZ (yR (fun k en W => ∃ (a8 : Nat → Value) (i : Nat) (kva : Value) (kxa : List UInt8) (bn : Int) (GLa : Pin), en = (upd (upd (upd (upd (upd (upd (upd (upd (upd a8 0 (vP p)) 1 t) 2 aa) 6 (vJ 0)) 7 kva) 8 (vJ bn)) 28 t) 29 (vJ (d.length : Int))) 30 (vJ (i : Int))) ∧ k = d.length - i ∧ Ext (inP p L R B mm) G w GLa W ∧ Pin.le bp GLa ∧ (i ≤ d.length) ∧ (kxa = keyL (d.take i)) ∧ (bn = bornOf q.bs (d.take i) 0) ∧ (0 ≤ bn ∧ bn ≤ q.ns.length) ∧ (Own eByte 5 GLa W w.heap.size kva (kxa)) ∧ (Own eInt 3 GLa W w.heap.size t (d)) ∧ (Own eInt 3 GLa W w.heap.size aa (g)) ∧ (Apart kva.ownBlock t.ownBlock) ∧ (Apart kva.ownBlock aa.ownBlock) ∧ (Pk 56 3 GLa W p L R B mm q) ∧ (NP p L R B mm kva.ownBlock)) _ ⟨_, 0, br, [], 0, bp, (pS 30 (pS 29 (pS 28 (pS 8 (pS 7 (pS 6 (pS 2 (pS 1 (pU 0))))))))), rfl, (ci.step dk bt), cJ _, cI _, (by simp [keyL]), rfl, (by omega), g1, dl, gw, gy, gz, gx, g0⟩ ?_)
 rintro jx _ jy ⟨a8, i, kva, kxa, bn, GLa, rfl, jz, au, g2, hji, hka, hbbn, hlbn, bu, a9, cn, bv, bw, co, bz⟩
 have hkla : kxa.length ≤ 117440640 := by
  have := nD (j := i) bl hok.ar.ok.lim
  rw [hka]; omega
 refine w9d ?_
 refine qD rfl (yU rfl rfl) (qe (zA (zB ?_)))
 refine yC (p := ((i : Int) : Int) < (d.length : Int)) rfl rfl (fun g3 => ?_) (fun g3 => ?_)
 have hki := bl i (by omega)
 have hbk := hok.ar.ok.born (d.getD i 0).toNat (by omega)
 have g4 := dig13 (n := (d.getD i 0).toNat) (by omega)
 refine cO (zA (zB ?_))
 refine zZ (w9d ?_)
 refine qD rfl (zF dE sz3 (v := t) rfl rfl a9.read (by omega) (by omega)) (qD rfl (zG (r := d.getD i 0) rfl ag3 (z := (i : Int)) rfl a9.read (cM au.pins t) (by omega) (by omega)) (qM (vJ (d.getD i 0)) ?_))
 refine qe (w9a ?_)
 refine qM kva ?_
 refine qM (vJ (d.getD i 0)) ?_
 refine qI rfl (zL (vs := [kva, vJ (d.getD i 0), vJ 36]) Tryz.func108 nm108 rfl rfl rfl ?_)
 refine cD (tD (i := d.getD i 0) au.pins (bu.weaken (cI _)) (by omega) (by omega)) ?_
 rintro _ j0 ⟨cp, dm, rfl, g5, b0, ba⟩
 refine rt9 ?_
 have dn := np_turn bz co b0
 have cq := au.trans ba (fun i hi => (yD bu) i hi)
 have g6 := co.extS ba (fun k hk hx => bz k hx hk)
 have dp : Apart t.ownBlock cp.ownBlock := pY b0 bv.symm (qG a9)
 have dq : Apart aa.ownBlock cp.ownBlock := pY b0 bw.symm (qG cn)
 have g7 := g5.up (lo := w.heap.size) (fun k hk => (b0 k hk).elim (fun h => cR au.size h) (fun h => (bu.lt k h).1))
 have j1 := la2 kxa (dig36 (d.getD i 0).toNat)
 refine qI rfl (yV (E := eByte) (e := 5) [.int .u8 44] [44] dX sz5 zr5 (by exact xP (by rfl)) (yZ (by rfl)) rfl rfl rfl rfl (by decide) cq.pins (fun dr g8 g9 ds bb j2 => ?_))
 have cr := cq.step ds bb
 have dt := (a9.extS ba (notO bv.symm)).below bb
 have du := (cn.extS ba (notO bw.symm)).below bb
 have dv := g7.below bb
 have dw := g6.below bb ds
 have ha := g9.weaken cq.size
 refine qI rfl (oA (E := eByte) (v := cp) (u := dr) 1 dX ap5 (by decide) rfl rfl cr.pins dv ha.src (cr.size) (fun dx j3 hc dy b1 cs => ?_))
 have dz := cr.write dy b1 ((yD dv))
 have b2 := dw.kept b1 dy dn
 have j4 := la1 (kxa ++ dig36 (d.getD i 0).toNat) 44
 refine qM dx ?_
 refine qe (zA (zC ?_))
 refine qM (vJ bn) ?_
 refine qM (vP p) ?_
 refine qD rfl (yY rfl) (qD rfl (zH (k := 2) rfl dN rfl nz56 rfl) (qD rfl (zJ (u := B) ag56 rfl (b2.bx.cell (o := 2) rfl)) (qM (vJ (d.getD i 0)) ?_)))
 refine qD rfl (zF dE sz3 (v := B) rfl rfl b2.ob.read (by omega) (by omega)) (qD rfl (zG (r := q.bs.getD (d.getD i 0).toNat 0) rfl ag3 (z := d.getD i 0) rfl b2.ob.read (cM dz.pins B) (by omega) (by omega)) (qD rfl (yH rfl rfl (by omega)) (qD rfl (r_max rfl rfl) (qM (vJ (max bn ((q.bs.getD (d.getD i 0).toNat 0) + 1))) ?_))))
 refine qe (w9c ?_)
 refine qD rfl (yH rfl rfl (by omega)) (qM (vJ ((i : Int) + 1)) ?_)
 refine qe (zV (⟨_, ?_, _, rfl, _, i + 1, dx, (kxa ++ dig36 (d.getD i 0).toNat) ++ ([44]), max bn ((q.bs.getD (d.getD i 0).toNat 0) + 1), dm, (pS 30 (pS 29 (pS 28 (pS 8 (pS 7 (pS 6 (pS 2 (pS 1 (pU 0))))))))), rfl, dz, (cB g2 ba.le), (by omega), (by rw [key_next (by omega), hka]), (by rw [hbbn, tM (by omega)]), (by omega), hc, (dt.keptA b1 dp), (du.keptA b1 dq), (zD dp cs dt.lt).symm, (zD dq cs du.lt).symm, b2, (jX dn dw cs)⟩))
 omega
 refine cQ (zX (yO (yK (w9a ?_))))
 refine qM kva ?_
 refine qI rfl (yV (E := eByte) (e := 5) [.int .u8 124] [124] dX sz5 zr5 (by exact xP (by rfl)) (yZ (by rfl)) rfl rfl rfl rfl (by decide) au.pins (fun d0 hd he d1 bc j5 => ?_))
 have ct := au.step d1 bc
 have d2 := bu.below bc
 have d3 := a9.below bc
 have d4 := cn.below bc
 have d5 := co.below bc d1
 have hf := he.weaken au.size
 refine qI rfl (oA (E := eByte) (v := kva) (u := d0) 1 dX ap5 (by decide) rfl rfl ct.pins d2 hf.src (ct.size) (fun d6 j6 hg d7 b3 cu => ?_))
 have hh := d3.keptA b3 bv.symm
 have d8 := d4.keptA b3 bw.symm
 have hj := d5.kept b3 d7 bz
 have hm := zD bv.symm cu d3.lt
 have hn := zD bw.symm cu d4.lt
 have ho := jX bz d5 cu
 have j7 := la1 kxa 124
 refine qM d6 ?_
 refine qe (zA (w9b ?_))
 rw [kE (by omega)] at hka hbbn
 have hkk : keyL d ++ [124] = kxa ++ [124] := by rw [hka]
 refine qM aa ?_
 refine qD rfl (zM dE (v := aa) rfl d8.read) (qM (vJ 0) ?_)
 refine qe (zA ?_)
 refine zZ (yR (fun k en W => ∃ (a8 : Nat → Value) (m : Nat) (kvb : Value) (kxb : List UInt8) (bm : Int) (GLb : Pin), en = (upd (upd (upd (upd (upd (upd (upd (upd (upd a8 0 (vP p)) 1 t) 2 aa) 6 (vJ 0)) 7 kvb) 8 (vJ bm)) 53 aa) 54 (vJ (g.length : Int))) 55 (vJ (m : Int))) ∧ k = g.length - m ∧ Ext (inP p L R B mm) G w GLb W ∧ Pin.le GLa GLb ∧ (m ≤ g.length) ∧ (kxb = keyL d ++ [124] ++ keyL (g.take m)) ∧ (bm = bornOf q.bs (g.take m) bn) ∧ (0 ≤ bm ∧ bm ≤ q.ns.length) ∧ (Own eByte 5 GLb W w.heap.size kvb (kxb)) ∧ (Own eInt 3 GLb W w.heap.size t (d)) ∧ (Own eInt 3 GLb W w.heap.size aa (g)) ∧ (Apart kvb.ownBlock t.ownBlock) ∧ (Apart kvb.ownBlock aa.ownBlock) ∧ (Pk 56 3 GLb W p L R B mm q) ∧ (NP p L R B mm kvb.ownBlock)) _ ⟨_, 0, d6, kxa ++ ([124]), bn, GLa, (pS 55 (pS 54 (pS 53 (pS 8 (pS 7 (pS 6 (pS 2 (pS 1 (pU 0))))))))), rfl, (ct.write d7 b3 ((yD d2))), cJ _, cI _, (by rw [← hkk]; simp [keyL]), rfl, (by omega), hg, hh, d8, hm.symm, hn.symm, hj, ho⟩ ?_)
 rintro j8 _ aq ⟨a8, m, kvb, kxb, bm, GLb, rfl, j9, av, hq, ka, hkb, hbbm, hlbm, bd, cv, be, d9, ea, cw, eb⟩
 have hklb : kxb.length ≤ 117440640 := by
  have := nD (j := m) cd hok.ar.ok.lim
  have h2 := nD (j := d.length) bl hok.ar.ok.lim; rw [hkb, List.length_append, List.length_append]; simp only [List.length_cons, List.length_nil]; rw [kE (cH _)] at h2; omega
 refine w9d ?_
 refine qD rfl (yU rfl rfl) (qe (zA (zB ?_)))
 refine yC (p := ((m : Int) : Int) < (g.length : Int)) rfl rfl (fun ht => ?_) (fun ht => ?_)
 have hki := cd m (by omega)
 have hbk := hok.ar.ok.born (g.getD m 0).toNat (by omega)
 have g4 := dig13 (n := (g.getD m 0).toNat) (by omega)
 refine cO (zA (zB ?_))
 refine zZ (w9d ?_)
 refine qD rfl (zF dE sz3 (v := aa) rfl rfl be.read (by omega) (by omega)) (qD rfl (zG (r := g.getD m 0) rfl ag3 (z := (m : Int)) rfl be.read (cM av.pins aa) (by omega) (by omega)) (qM (vJ (g.getD m 0)) ?_))
 refine qe (w9a ?_)
 refine qM kvb ?_
 refine qM (vJ (g.getD m 0)) ?_
 refine qI rfl (zL (vs := [kvb, vJ (g.getD m 0), vJ 36]) Tryz.func108 nm108 rfl rfl rfl ?_)
 refine cD (tD (i := g.getD m 0) av.pins (bd.weaken (cI _)) (by omega) (by omega)) ?_
 rintro _ kb ⟨cx, ec, rfl, hu, b4, bf⟩
 refine rt9 ?_
 have ed := np_turn eb cw b4
 have cy := av.trans bf (fun i hi => (yD bd) i hi)
 have hv := cw.extS bf (fun k hk hx => eb k hx hk)
 have ee : Apart t.ownBlock cx.ownBlock := pY b4 d9.symm (qG cv)
 have eg : Apart aa.ownBlock cx.ownBlock := pY b4 ea.symm (qG be)
 have hw := hu.up (lo := w.heap.size) (fun k hk => (b4 k hk).elim (fun h => cR av.size h) (fun h => (bd.lt k h).1))
 have kc := la2 kxb (dig36 (g.getD m 0).toNat)
 refine qI rfl (yV (E := eByte) (e := 5) [.int .u8 44] [44] dX sz5 zr5 (by exact xP (by rfl)) (yZ (by rfl)) rfl rfl rfl rfl (by decide) cy.pins (fun eh h0 h1 ei bg kd => ?_))
 have cz := cy.step ei bg
 have ej := (cv.extS bf (notO d9.symm)).below bg
 have ek := (be.extS bf (notO ea.symm)).below bg
 have em := hw.below bg
 have eo := hv.below bg ei
 have h3 := h1.weaken cy.size
 refine qI rfl (oA (E := eByte) (v := cx) (u := eh) 1 dX ap5 (by decide) rfl rfl cz.pins em h3.src (cz.size) (fun ep ke h4 eq b5 c0 => ?_))
 have es := cz.write eq b5 ((yD em))
 have h5 := ej.keptA b5 ee
 have h6 := ek.keptA b5 eg
 have b6 := eo.kept b5 eq ed
 have h7 := zD ee c0 ej.lt
 have h8 := zD eg c0 ek.lt
 have h9 := jX ed eo c0
 have kf := la1 (kxb ++ dig36 (g.getD m 0).toNat) 44
 refine qM ep ?_
 refine qe (zA (zC ?_))
 refine qM (vJ bm) ?_
 refine qM (vP p) ?_
 refine qD rfl (yY rfl) (qD rfl (zH (k := 2) rfl dN rfl nz56 rfl) (qD rfl (zJ (u := B) ag56 rfl (b6.bx.cell (o := 2) rfl)) (qM (vJ (g.getD m 0)) ?_)))
 refine qD rfl (zF dE sz3 (v := B) rfl rfl b6.ob.read (by omega) (by omega)) (qD rfl (zG (r := q.bs.getD (g.getD m 0).toNat 0) rfl ag3 (z := g.getD m 0) rfl b6.ob.read (cM es.pins B) (by omega) (by omega)) (qD rfl (yH rfl rfl (by omega)) (qD rfl (r_max rfl rfl) (qM (vJ (max bm ((q.bs.getD (g.getD m 0).toNat 0) + 1))) ?_))))
 refine qe (w9c ?_)
 refine qD rfl (yH rfl rfl (by omega)) (qM (vJ ((m : Int) + 1)) ?_)
 refine qe (zV (⟨_, ?_, _, rfl, _, m + 1, ep, (kxb ++ dig36 (g.getD m 0).toNat) ++ ([44]), max bm ((q.bs.getD (g.getD m 0).toNat 0) + 1), ec, (pS 55 (pS 54 (pS 53 (pS 8 (pS 7 (pS 6 (pS 2 (pS 1 (pU 0))))))))), rfl, es, (cB hq bf.le), (by omega), (by rw [key_next (by omega), hkb]; simp only [List.append_assoc]), (by rw [hbbm, tM (by omega)]), (by omega), h4, h5, h6, h7.symm, h8.symm, b6, h9⟩))
 omega
 refine cQ (zX (yO (yK (zA (zB (zB ?_))))))
 rw [kE (by omega)] at hkb hbbm
 have hkey : kxb = keyN d g := by rw [hkb]; rfl
 have kg := bd.read
 refine yW (S := fun wz => BxR wz p [L, R, B, .map (some mm.f), .map (some mm.o), .map (some mm.c), .map (some mm.s), .map (some mm.n)] ∧ Pins (Gadd GLb aq kvb) wz) (last := 12) (by kernel_rfl) rfl ?_
 have aw := bdr aq
 have et := av.pins.below aw
 have bh := av.step et aw
 have c1 := bd.below aw
 have a := cw.below aw et
 have ac := (cM av.pins kvb).below aw
 refine dT (i := 0) rfl rfl (by kernel_rfl) (fun _ _ => zN (v := vP p) rfl) ⟨a.bx.reads, ac⟩ ?_
 refine dT (i := 1) rfl rfl (by kernel_rfl) (fun _ _ => yY rfl) ⟨a.bx.reads, ac⟩ ?_
 refine dT (i := 2) rfl rfl (by kernel_rfl) (fun _ _ => zH (k := 3) rfl dN rfl nz91 rfl) ⟨a.bx.reads, ac⟩ ?_
 refine dT (i := 3) rfl rfl (by kernel_rfl) (fun _ hS => zJ (u := .map (some mm.f)) ag91 rfl (hS.1 3 _ rfl)) ⟨a.bx.reads, ac⟩ ?_
 refine dT (i := 4) rfl rfl (by kernel_rfl) (fun _ _ => zN (v := kvb) rfl) ⟨a.bx.reads, ac⟩ ?_
 refine dP (i := 5) rfl rfl (EO.run (r_b2s dX Tryz.underlying5 dY rfl c1.read (cM bh.pins kvb)) ?_)
 refine ⟨fun _ => ⟨a.bx.reads, ac⟩, ?_⟩
 refine dP (i := 6) rfl rfl (EO.run (tQ (k := b2s kxb) (key_str dY) Tryz.underlying91 zr3 a.ff rfl rfl) ?_)
 refine ⟨fun _ => ⟨a.bx.reads, ac⟩, ?_⟩
 refine dT (i := 7) rfl rfl (by kernel_rfl) (fun _ _ => zN (v := .tuple #[vJ ((Go.GL.look q.fl (b2s kxb)).getD 0), .bool ((Go.GL.look q.fl (b2s kxb)).isSome)]) rfl) ⟨a.bx.reads, ac⟩ ?_
 refine dT (i := 8) rfl rfl (by kernel_rfl) (fun _ _ => yM (v := vJ ((Go.GL.look q.fl (b2s kxb)).getD 0)) rfl rfl) ⟨a.bx.reads, ac⟩ ?_
 refine dT (i := 9) rfl rfl (by kernel_rfl) (fun _ _ => yM (v := .bool ((Go.GL.look q.fl (b2s kxb)).isSome)) rfl rfl) ⟨a.bx.reads, ac⟩ ?_
 refine dT (i := 10) rfl rfl (by kernel_rfl) (fun _ _ => qF (v := vJ ((Go.GL.look q.fl (b2s kxb)).getD 0)) rfl) ⟨a.bx.reads, ac⟩ ?_
 refine dT (i := 11) rfl rfl (by kernel_rfl) (fun _ _ => qF (v := .bool ((Go.GL.look q.fl (b2s kxb)).isSome)) rfl) ⟨a.bx.reads, ac⟩ ?_
 refine yL (by kernel_rfl) (w9a ?_)
 refine qM (.bool ((Go.GL.look q.fl (b2s kxb)).isSome)) ?_
 refine qe (zA ?_)
 refine c_if rfl rfl (fun c2 => ?_) (fun c2 => ?_)
 refine w9d ?_
 refine qM (vJ ((Go.GL.look q.fl (b2s kxb)).getD 0)) ?_
 refine qM (vJ ((Go.GL.look q.fl (b2s kxb)).getD 0)) ?_
 refine qe (zA ?_)
 refine cP (zP (zQ (v := vJ ((Go.GL.look q.fl (b2s kxb)).getD 0)) rfl rfl rfl ?_))
 obtain ⟨z, hz⟩ := Option.isSome_iff_exists.1 c2
 have hlk := hz
 rw [hkey, ao, ap] at hlk
 obtain ⟨f1, f2⟩ := lookF hok hk1 hk2 hlk
 rw [hz]
 exact ⟨z, L, R, B, q, GLb, rfl, a, hok, (PX.refl _), PIn.lo hpin rfl, bh, f1, f2, by omega, rfl, cF rfl⟩
 refine cO (w9a ?_)
 refine qM (vP p) ?_
 refine qD rfl (yY rfl) (qD rfl (zH (k := 2) rfl dN rfl nz56 rfl) (qD rfl (zJ (u := B) ag56 rfl (a.bx.cell (o := 2) rfl)) (qD rfl (zM dE (v := B) rfl a.ob.read) (qM (vJ (q.bs.length : Int)) ?_))))
 refine qe (zA (zB ?_))
 have hnone : Go.GL.look q.fl (b2s kxb) = none := by simpa using c2
 rw [hkey, ao, ap] at hnone
 have hadd := hok.add (b := bm) hlim hls hk1 hk2 hnone (by rw [hbbm, hbbn, ao, ap])
 have kh := c1.read
 refine yW (S := fun wz => BxR wz p [L, R, B, .map (some mm.f), .map (some mm.o), .map (some mm.c), .map (some mm.s), .map (some mm.n)] ∧ Pins (Gadd GLb aq.drew kvb) wz) (last := 7) (by kernel_rfl) rfl ?_
 have ab : Below aq.drew.heap.size aq.drew aq.drew.drew := (Below.refl _ _).drew
 have c3 := bh.step (bh.pins.below ab) ab
 have eu := (cv.below aw).below ab
 have ev := (be.below aw).below ab
 have ew := a.ol.below ab
 have ex := a.rr.below ab
 have ey := a.ob.below ab
 have aj := a.bx.below ab
 have ax := a.ff.below ab
 have ic := a.fo.below ab
 have ie := a.fc.below ab
 have ig := a.fs.below ab
 have ih := a.fn.below ab
 have ay := (cM bh.pins kvb).below ab
 refine dT (i := 0) rfl rfl (by kernel_rfl) (fun _ _ => zN (v := vP p) rfl) ⟨aj.reads, ay⟩ ?_
 refine dT (i := 1) rfl rfl (by kernel_rfl) (fun _ _ => yY rfl) ⟨aj.reads, ay⟩ ?_
 refine dT (i := 2) rfl rfl (by kernel_rfl) (fun _ _ => zH (k := 3) rfl dN rfl nz91 rfl) ⟨aj.reads, ay⟩ ?_
 refine dT (i := 3) rfl rfl (by kernel_rfl) (fun _ hS => zJ (u := .map (some mm.f)) ag91 rfl (hS.1 3 _ rfl)) ⟨aj.reads, ay⟩ ?_
 refine dT (i := 4) rfl rfl (by kernel_rfl) (fun _ _ => zN (v := kvb) rfl) ⟨aj.reads, ay⟩ ?_
 refine dT (i := 6) rfl rfl (by kernel_rfl) (fun _ _ => zN (v := vJ (q.bs.length : Int)) rfl) ⟨aj.reads, ay⟩ ?_
 refine dP (i := 5) rfl rfl (EO.run (r_b2s dX Tryz.underlying5 dY rfl (c1.below ab).read (cM c3.pins kvb)) ?_)
 refine ⟨fun _ => ⟨aj.reads, ay⟩, ?_⟩
 refine dO (i := 7) (xK (i := 7) rfl rfl rfl (zR rfl _) (qS (val := (fun v : Int => Value.int .i64 v)) (k := b2s kxb) (v := (q.bs.length : Int)) (key_str dY) Tryz.underlying91 rfl rfl rfl c3.pins ax (fun ki ii ij ad kj => ?_)))
 have ez := aj.keptA ad (xL ax aj).symm
 have ik := ic.kept ad (gD a.df.fo).symm
 have il := ie.kept ad (gD a.df.fc).symm
 have im := ig.kept ad (gD a.df.fs).symm
 have io := ih.kept ad (gD a.df.fn).symm
 refine ⟨fun h => absurd rfl h, ?_⟩
 refine yL (by kernel_rfl) (w9a ?_)
 refine qM (vP p) ?_
 refine qM (vP p) ?_
 refine qD rfl (yY rfl) (qD rfl (zH (k := 0) rfl dN rfl nz95 rfl) (qD rfl (zJ (u := L) ag95 rfl (ez.cell (o := 0) rfl)) (qM t ?_)))
 obtain ⟨ip, b7, c4, e0, bi⟩ := (eu.keptA ad (yT ax eu).symm).sealed (c3.write ij ad ((PIn.f hpin)))
 refine qI rfl (yV (E := eSl eInt) (e := 56) [t] [d] dV sz56 zr56 (by exact xP (⟨_, rfl, e0⟩)) (yZ e0.one) rfl rfl rfl rfl (by decide) c4.pins (fun e1 iq ir it ae kk => ?_))
 have c5 := c4.step it ae
 have e2 := ((ev.keptA ad (yT ax ev).symm).moreO b7 bi (zT bq.lt di.lt)).below ae
 have a1 := ((ew.keptA ad (yT ax ew).symm).moreO b7 bi (NP.hl bo).symm).below ae
 have e3 := ((ex.keptA ad (yT ax ex).symm).moreO b7 bi (NP.hr bo).symm).below ae
 have e4 := ((ey.keptA ad (yT ax ey).symm).moreO b7 bi (NP.hb bo).symm).below ae
 have e5 := (ez.moreO bi (NP.hp bo).symm).below ae
 have e6 := ii.below ae
 have e7 := ik.below ae
 have e8 := il.below ae
 have e9 := im.below ae
 have fa := io.below ae
 have iu := ir.weaken c4.size
 refine qI rfl (oA (E := eSl eInt) (v := L) (u := e1) 24 dV ap56 (by decide) rfl rfl c5.pins a1 iu.src (cI _) (fun az kl c6 iv af bj => ?_))
 have fb := c5.write iv af ((PIn.ll hpin))
 have a2 := e5.keptA af a.apl
 have fd := e6.kept af (yT e6 a1)
 have fe := e7.kept af (yT e7 a1)
 have fg := e8.kept af (yT e8 a1)
 have fh := e9.kept af (yT e9 a1)
 have fi := fa.kept af (yT fa a1)
 have fj := zD a.alr.symm bj e3.lt
 have fk := zD a.alb.symm bj e4.lt
 have b8 := zK a.apl bj e5.lt
 have iw : Lo w (inP p L R B mm) az.ownBlock := nA (PIn.ll hpin) bj c5.size
 have km := la1 (q.ns.map Nd.l) d
 refine qD rfl (yY rfl) (qD rfl (zH (k := 0) rfl dN rfl nz95 rfl) (q0 rfl rfl rfl (o_stp (cs' := [az, R, B, .map (some mm.f), .map (some mm.o), .map (some mm.c), .map (some mm.s), .map (some mm.n)]) (us := [az]) (v := az) sz95 rfl rfl (qR c6.one) (yZ c6.one) fb.pins a2 (cE rfl) rfl (fun kn fm ix ag ko => ?_))))
 have iy := fd.kept ag (xL fd a2)
 have iz := fe.kept ag (xL fe a2)
 have i0 := fg.kept ag (xL fg a2)
 have i1 := fh.kept ag (xL fh a2)
 have i3 := fi.kept ag (xL fi a2)
 refine qe (w9a ?_)
 refine qM (vP p) ?_
 refine qM (vP p) ?_
 refine qD rfl (yY rfl) (qD rfl (zH (k := 1) rfl dN rfl nz95 rfl) (qD rfl (zJ (u := R) ag95 rfl (fm.cell (o := 1) rfl)) (qM aa ?_)))
 obtain ⟨c7, c8, c9, fp, b9⟩ := ((e2.keptA af (NP.hl a0)).keptA ag (NP.hp a0)).sealed (fb.write ix ag ((PIn.lp hpin)))
 refine qI rfl (yV (E := eSl eInt) (e := 56) [aa] [g] dV sz56 zr56 (by exact xP (⟨_, rfl, fp⟩)) (yZ fp.one) rfl rfl rfl rfl (by decide) c9.pins (fun fq i4 i5 i6 ah kp => ?_))
 have da := c9.step i6 ah
 have a3 := (((e3.keptA af a.alr.symm).keptA ag a.apr.symm).moreO c8 b9 (NP.hr a0).symm).below ah
 have fr := (((e4.keptA af a.alb.symm).keptA ag a.apb.symm).moreO c8 b9 (NP.hb a0).symm).below ah
 have ft := ((c6.keptA ag b8.symm).moreO c8 b9 (zD (NP.hl a0) bj e2.lt).symm).below ah
 have fu := (fm.moreO b9 (NP.hp a0).symm).below ah
 have fv := iy.below ah
 have fw := iz.below ah
 have fx := i0.below ah
 have fy := i1.below ah
 have fz := i3.below ah
 have i7 := i5.weaken c9.size
 refine qI rfl (oA (E := eSl eInt) (v := R) (u := fq) 24 dV ap56 (by decide) rfl rfl da.pins a3 i7.src (cI _) (fun a4 kq db i8 ak ca => ?_))
 have f0 := da.write i8 ak ((PIn.lr hpin))
 have a5 := fu.keptA ak a.apr
 have f3 := fv.kept ak (yT fv a3)
 have f4 := fw.kept ak (yT fw a3)
 have f5 := fx.kept ak (yT fx a3)
 have f6 := fy.kept ak (yT fy a3)
 have f7 := fz.kept ak (yT fz a3)
 have f8 := zD a.arb.symm ca fr.lt
 have dc := zK a.apr ca fu.lt
 have i9 : Lo w (inP p L R B mm) a4.ownBlock := nA (PIn.lr hpin) ca da.size
 have kr := la1 (q.ns.map Nd.r) g
 refine qD rfl (yY rfl) (qD rfl (zH (k := 1) rfl dN rfl nz95 rfl) (q0 rfl rfl rfl (o_stp (cs' := [az, a4, B, .map (some mm.f), .map (some mm.o), .map (some mm.c), .map (some mm.s), .map (some mm.n)]) (us := [a4]) (v := a4) sz95 rfl rfl (qR db.one) (yZ db.one) f0.pins a5 (cE rfl) rfl (fun ks f9 ja al kt => ?_))))
 have dd := f0.write ja al ((PIn.lp hpin))
 have jb := f3.kept al (xL f3 a5)
 have jc := f4.kept al (xL f4 a5)
 have jd := f5.kept al (xL f5 a5)
 have je := f6.kept al (xL f6 a5)
 have jf := f7.kept al (xL f7 a5)
 refine qe (w9a ?_)
 refine qM (vP p) ?_
 refine qM (vP p) ?_
 refine qD rfl (yY rfl) (qD rfl (zH (k := 2) rfl dN rfl nz56 rfl) (qD rfl (zJ (u := B) ag56 rfl (f9.cell (o := 2) rfl)) (qM (vJ bm) ?_)))
 refine qI rfl (yV (E := eInt) (e := 3) [vJ bm] [bm] dE sz3 zr3 (by exact xP (by rfl)) (yZ (by rfl)) rfl rfl rfl rfl (by decide) dd.pins (fun ga jg jh ji ai ku => ?_))
 have de := dd.step ji ai
 have a6 := ((fr.keptA ak a.arb.symm).keptA al a.apb.symm).below ai
 have gb := ((ft.keptA ak fj.symm).keptA al b8.symm).below ai
 have gc := (db.keptA al dc.symm).below ai
 have gd := f9.below ai
 have ge := jb.below ai
 have gf := jc.below ai
 have gg := jd.below ai
 have gh := je.below ai
 have gi := jf.below ai
 have jj := jh.weaken dd.size
 refine qI rfl (oA (E := eInt) (v := B) (u := ga) 8 dE ap3 (by decide) rfl rfl de.pins a6 jj.src (cI _) (fun bk kv dg jk am cb => ?_))
 have gj := de.write jk am ((PIn.lb hpin))
 have a7 := gd.keptA am a.apb
 have gk := ge.kept am (yT ge a6)
 have gl := gf.kept am (yT gf a6)
 have gm := gg.kept am (yT gg a6)
 have gn := gh.kept am (yT gh a6)
 have gp := gi.kept am (yT gi a6)
 have gq := zK a.apb cb gd.lt
 have jl : Lo w (inP p L R B mm) bk.ownBlock := nA (PIn.lb hpin) cb de.size
 have kw := la1 q.bs bm
 refine qD rfl (yY rfl) (qD rfl (zH (k := 2) rfl dN rfl nz56 rfl) (q0 rfl rfl rfl (o_stp (cs' := [az, a4, bk, .map (some mm.f), .map (some mm.o), .map (some mm.c), .map (some mm.s), .map (some mm.n)]) (us := [bk]) (v := bk) sz56 rfl rfl (qR dg.one) (yZ dg.one) gj.pins a7 (cE rfl) rfl (fun kx jm jn an ky => ?_))))
 have jo := gk.kept an (xL gk a7)
 have jp := gl.kept an (xL gl a7)
 have jq := gm.kept an (xL gm a7)
 have jr := gn.kept an (xL gn a7)
 have js := gp.kept an (xL gp a7)
 refine qe (w9a ?_)
 refine qM (vJ (q.bs.length : Int)) ?_
 refine qM (vJ (q.bs.length : Int)) ?_
 refine qe (zA ?_)
 refine cP (zP (zQ (v := vJ (q.bs.length : Int)) rfl rfl rfl ?_))
 have el : (q.ns.map Nd.l) ++ [d] = (addQ q xs ys bm).ns.map Nd.l := by rw [ao]; simp [addQ]
 have er : (q.ns.map Nd.r) ++ [g] = (addQ q xs ys bm).ns.map Nd.r := by rw [ap]; simp [addQ]
 have ef : putE q.fl (b2s kxb) (q.bs.length : Int) = (addQ q xs ys bm).fl := by rw [hkey, ao, ap, hok.ar.ok.len]; rfl
 have hol := ((gb.keptA am fk.symm).keptA an b8.symm)
 have hor := ((gc.keptA am f8.symm).keptA an dc.symm)
 have hff := jo
 rw [el] at hol
 rw [er] at hor
 rw [ef] at hff
 exact ⟨(q.bs.length : Int), az, a4, bk, addQ q xs ys bm, c7, rfl, ⟨jm, hol, hor, (dg.keptA an gq.symm), hff, jp, jq, jr, js, b8, dc, gq, (zD fj.symm ca ft.lt), (zD fk.symm cb gb.lt), (zD f8.symm cb gc.lt), a.df⟩, hadd.1, hadd.2.1, ⟨iw, i9, jl⟩, (gj.write jn an ((PIn.lp hpin))), by rw [hok.ar.ok.len]; exact hadd.2.2.1, by rw [hok.ar.ok.len]; exact hadd.2.2.2.1, hadd.2.2.2.2, rfl, cG (by omega)⟩
end PO1
namespace PL1
open B1 K1 PO1
theorem mk3 : (Tryz.prog.info? 3).map (fun i => (i.size, i.bytes, i.zero)) = some (1, 8, some (.int .i64 0)) := by kernel_rfl
theorem pl97 : (Tryz.prog.underlying 97).bind (placesD Tryz.prog) = some [(0, 1), (1, 1), (2, 1), (3, 1), (4, 1), (5, 1), (6, 1), (7, 1)] := by kernel_rfl
variable {G : Pin} {p : Nat} {L R B : Value} {mm : PM} {q : PSt} {a b : Int}
theorem newPool_spec {w : World} (hP : Pins G w) :
  Calls Tryz.prog 39 #[] w fun e w' => ∃ (p : Nat) (mm : PM) (G' : Pin), e = .returned (vP p) ∧ Pk 56 3 G' w' p vN vN vN mm ⟨[], [], [], [], [], [], []⟩ ∧ (∀ k, inP p vN vN vN mm k → w.heap.size ≤ k) ∧ Ext noS G w G' w' := by
 refine zY (n := 8) Tryz.func39 Tryz.ntmps39 rfl rfl ?_
 have o := exr noS hP
 refine w9d ?_
 refine qM (.pointer none) ?_
 refine qe (w9a ?_)
 refine qI rfl (vD (fun k : ByteArray => Value.string k) (fun v : Int => Value.int .i64 v) o.pins (fun a w2 bd z al am => ?_))
 have q := o.step al am
 have an : w.heap.size ≤ a := by have := o.size; omega
 refine qI rfl (vD encP2 (fun v : Bool => Value.bool v) q.pins (fun b be ao aa ap ab => ?_))
 have r := q.step ap ab
 have ac := z.below ab
 have aq : w.heap.size ≤ b := by have := q.size; omega
 refine qI rfl (vD (fun k : Int => Value.int .i64 k) (fun v : Int => Value.int .i64 v) r.pins (fun c bf ad ae ar s => ?_))
 have t := r.step ar s
 have af := ac.below s
 have ag := aa.below s
 have au : w.heap.size ≤ c := by have := r.size; omega
 refine qI rfl (vD encP2 (fun v : Int => Value.int .i64 v) t.pins (fun d bg u ah av l => ?_))
 have x := t.step av l
 have ai := af.below l
 have aj := ag.below l
 have ak := ae.below l
 have aw : w.heap.size ≤ d := by have := t.size; omega
 refine qI rfl (vD (fun k : Int => Value.int .i64 k) (fun v : Int => Value.int .i64 v) x.pins (fun f bh m ax ay i => ?_))
 have y := x.step ay i
 have az := ai.below i
 have a0 := aj.below i
 have a1 := ak.below i
 have a2 := ah.below i
 have a3 : w.heap.size ≤ f := by have := x.size; omega
 refine qD rfl (yS [vN, vN, vN, .map none, .map none, .map none, .map none, .map none] [vN, vN, vN, .map (some a), .map (some b), .map (some c), .map (some d), .map (some f)] [(3, (.map (some a)), [.map (some a)]), (4, (.map (some b)), [.map (some b)]), (5, (.map (some c)), [.map (some c)]), (6, (.map (some d)), [.map (some d)]), (7, (.map (some f)), [.map (some f)])] dN zr97 rfl pl97 rfl (cN.2 ⟨rfl, (cN.2 ⟨rfl, (cN.2 ⟨rfl, (cN.2 ⟨rfl, (cN.2 ⟨rfl, (fun _ h => by cases h)⟩)⟩)⟩)⟩)⟩) rfl) (qI rfl (xH [vN, vN, vN, .map (some a), .map (some b), .map (some c), .map (some d), .map (some f)] (v := .agg #[vN, vN, vN, .map (some a), .map (some b), .map (some c), .map (some d), .map (some f)]) rfl rfl y.pins (fun j bi bj a4 a5 g => ?_)))
 have a6 := az.below g
 have a7 := a0.below g
 have a8 := a1.below g
 have a9 := a2.below g
 have ba := ax.below g
 have bb : w.heap.size ≤ j := by have := y.size; omega
 refine qM (vP j) ?_
 refine qe (zA ?_)
 refine cP (zP (zQ (v := vP j) rfl rfl rfl ?_))
 have hdf : PDiff ⟨a, b, c, d, f⟩ := ⟨fun e => (zI (cgA some ao) z.lt).symm _ rfl (cgA some e.symm), fun e => (zI (cgA some ad) ac.lt).symm _ rfl (cgA some e.symm), fun e => (zI (cgA some u) af.lt).symm _ rfl (cgA some e.symm), fun e => (zI (cgA some m) ai.lt).symm _ rfl (cgA some e.symm), fun e => (zI (cgA some ad) aa.lt).symm _ rfl (cgA some e.symm), fun e => (zI (cgA some u) ag.lt).symm _ rfl (cgA some e.symm), fun e => (zI (cgA some m) aj.lt).symm _ rfl (cgA some e.symm), fun e => (zI (cgA some u) ae.lt).symm _ rfl (cgA some e.symm), fun e => (zI (cgA some m) ak.lt).symm _ rfl (cgA some e.symm), fun e => (zI (cgA some m) ah.lt).symm _ rfl (cgA some e.symm)⟩
 have hfr : ∀ k, inP j vN vN vN ⟨a, b, c, d, f⟩ k → w.heap.size ≤ k := by rintro k (rfl | hk | hk | hk | rfl | rfl | rfl | rfl | rfl) <;> first | (cases hk; done) | exact bb | exact an | exact aq | exact au | exact aw | exact a3
 exact ⟨j, ⟨a, b, c, d, f⟩, _, rfl, ⟨a4, (Own.nil _ _ _ _ _), (Own.nil _ _ _ _ _), (Own.nil _ _ _ _ _), a6, a7, a8, a9, ba, apart_none.symm, apart_none.symm, apart_none.symm, apart_none, apart_none, apart_none, hdf⟩, hfr, (y.step a5 g)⟩
theorem rQ {w : World} {u v : Value} {xs ys : List Int} (hP : Pins G w) (hu : RSl eInt G u xs) (hv : RSl eInt G v ys) (hs : xs.length ≤ 1048576) (hb : ∀ i, i < xs.length → 0 ≤ xs.getD i 0 ∧ xs.getD i 0 < ys.length) :
  Calls Tryz.prog 96 #[u, v] w fun e w' => ∃ (u : Value) (G' : Pin), e = .returned u ∧ Own eInt 3 G' w' w.heap.size u (atL ys xs) ∧ Ext noS G w G' w' := by
 refine zY (n := 27) Tryz.func96 Tryz.ntmps96 rfl rfl ?_
 have d := exr noS hP
 have hm := hu.max
 have hal : (atL ys xs).length = xs.length := xG
 have hrl : (List.replicate xs.length (0 : Int)).length = xs.length := List.length_replicate
 refine w9d ?_
 refine qM vN ?_
 refine qe (w9a ?_)
 refine qM u ?_
 refine qD rfl (zM dE (v := u) rfl hu) (qI rfl (fR (E := eInt) 0 8 (vJ 0) dE mk3 (fun _ => rfl) rfl rfl d.pins (by omega) (by omega) (by omega) (fun a g h l m y => ?_)))
 have o : Own eInt 3 G g w.heap.size a (List.replicate xs.length 0) := h.weaken d.size
 have aa : (List.replicate xs.length 0).length = xs.length := List.length_replicate ..
 refine qM a ?_
 refine qe (zA (w9b ?_))
 refine qM u ?_
 refine qD rfl (zM dE (v := u) rfl hu) (qM (vJ 0) ?_)
 refine qe (zA ?_)
 refine zZ (yR (fun k en W => ∃ (f : Nat → Value) (j : Nat) (os : List Int), en = (upd (upd (upd (upd (upd (upd f 1 v) 4 vN) 5 a) 11 u) 12 (vJ (xs.length : Int))) 13 (vJ (j : Int))) ∧ k = xs.length - j ∧ Ext noS G w G W ∧ (j ≤ xs.length) ∧ (os = (atL ys xs).take j ++ (List.replicate xs.length 0).drop j) ∧ (os.length = xs.length) ∧ (Own eInt 3 G W w.heap.size a (os))) _ ⟨_, 0, List.replicate xs.length 0, (pS 13 (pS 12 (pS 11 (pS 5 (pS 4 (pU 1)))))), rfl, (d.step l m), cI _, rfl, hrl, o⟩ ?_)
 rintro ab _ ac ⟨f, j, os, rfl, ad, b, hj, hr, hol, c⟩
 refine w9d ?_
 refine qD rfl (yU rfl rfl) (qe (zA (zB ?_)))
 refine yC (p := ((j : Int) : Int) < (xs.length : Int)) rfl rfl (fun q => ?_) (fun q => ?_)
 have hbj := hb j (by omega)
 refine cO (zA (zB ?_))
 refine zZ (w9d ?_)
 refine qM (vJ (j : Int)) ?_
 refine qD rfl (zF dE sz3 (v := u) rfl rfl hu (by omega) (by omega)) (qD rfl (zG (r := xs.getD j 0) rfl ag3 (z := (j : Int)) rfl hu b.pins (by omega) (by omega)) (qM (vJ (j : Int)) ?_))
 refine qM (vJ (xs.getD j 0)) ?_
 refine qe (zA (zC ?_))
 refine qM a ?_
 refine qM (vJ (j : Int)) ?_
 refine qM v ?_
 refine qM (vJ (xs.getD j 0)) ?_
 refine qD rfl (zF dE sz3 (v := v) rfl rfl hv (by omega) (by omega)) (qD rfl (zG (r := ys.getD (xs.getD j 0).toNat 0) rfl ag3 (z := xs.getD j 0) rfl hv b.pins (by omega) (by omega)) (qD rfl (zF dE sz3 (v := a) rfl rfl c.read (by omega) (by omega)) (q0 rfl rfl rfl (jK (E := eInt) (v := a) (u := vJ (ys.getD (xs.getD j 0).toNat 0)) (z := (j : Int)) (ys.getD (xs.getD j 0).toNat 0) sz3 rfl rfl rfl rfl b.pins c (by omega) (by omega) (fun ae s t x af => ?_)))))
 refine qe (w9c ?_)
 refine qD rfl (yH rfl rfl (by omega)) (qM (vJ ((j : Int) + 1)) ?_)
 refine qe (zV (⟨_, ?_, _, rfl, _, j + 1, os.set j (ys.getD (xs.getD j 0).toNat 0), (pS 13 (pS 12 (pS 11 (pS 5 (pS 4 (pU 1)))))), rfl, (b.write t x ((yD c))), (by omega), (by rw [hr]; exact cur_set 0 (by omega) (by omega) (at_getD (by omega))), ((cT ..).trans hol), s⟩))
 omega
 refine cQ (zX (yO (yK (w9a ?_))))
 refine qM a ?_
 refine qM a ?_
 refine qe (zA ?_)
 refine cP (zP (zQ (v := a) rfl rfl rfl ?_))
 rw [cur_end (by omega) (by omega)] at hr
 exact ⟨_, _, rfl, (by rw [← hr]; exact c), b⟩
theorem load_spec {w : World} (hP : Pins G w) (hpk : Pk 56 3 G w p L R B mm q) (hok : PoolOk q) {x : Value} {fs : List Nd} (hx : RSl eNode G x fs) (hf : FormOk fs) (hl : q.ns.length + fs.length ≤ 1048576) :
  Calls Tryz.prog 75 [vP p, .agg #[x]].toArray w fun e w' => ∃ (u : Value) (ats : List Int) (L' R' B' : Value) (q' : PSt) (G' : Pin), e = .returned u ∧ Pk 56 3 G' w' p L' R' B' mm q' ∧ PoolOk q' ∧ PX q q' ∧ PLo w p L R B mm L' R' B' ∧ Ext (inP p L R B mm) G w G' w' ∧ Own eInt 3 G' w' w.heap.size u ats ∧ NP p L' R' B' mm u.ownBlock ∧ LdOk fs q q' fs.length ats := by
 refine zY (n := 34) Tryz.func75 Tryz.ntmps75 rfl rfl ?_
 have ax := exr (inP p L R B mm) hP
 have hpin : PIn w (inP p L R B mm) p L R B mm := PIn.self
 have dr := pkl q
 have ds := pkb hok
 refine w9d ?_
 refine qI rfl (xH [x] (v := .agg #[x]) rfl rfl ax.pins (fun b3 w4 cp cq bj bk => ?_))
 have cr := hpk.new (x := some b3) (fun k hk => by rw [cgA some cp] at hk; cases hk; exact cH _)
 have cs : w.heap.size ≤ b3 := by have := ax.size; omega
 obtain ⟨ay, ak, al, bl, ct⟩ := cq.shut (ax.step bj bk) cs
 have bm := (hpk.below bk bj).more ak ct cr
 refine qM vN ?_
 refine qe (w9a ?_)
 refine qD rfl (zH (k := 0) rfl dJ rfl nz30 rfl) (qD rfl (zJ (u := x) ag30 rfl (al.pins _ _ _ (bl 0 _ rfl))) (qD rfl (zM dF (v := x) rfl hx) (qI rfl (o_make0 (E := eInt) dE mk3 rfl rfl al.pins (by omega) (by omega) (by omega) (fun am cu cv bn bo cw => ?_)))))
 have bp := al.step bn bo
 have cx := bm.new (x := am.ownBlock) (fun k hk => by rw [cw] at hk; cases hk; exact cH _)
 have cy := cv.weaken al.size
 refine qM am ?_
 refine qe (zA (w9b ?_))
 refine qD rfl (zH (k := 0) rfl dJ rfl nz30 rfl) (qD rfl (zJ (u := x) ag30 rfl (bp.pins _ _ _ (bl 0 _ rfl))) (qD rfl (zM dF (v := x) rfl hx) (qM (vJ 0) ?_)))
 refine qe (zA ?_)
 refine zZ (yR (fun k en W => ∃ (bq : Nat → Value) (a : Nat) (at_ : Value) (ats : List Int) (t : Value) (y : Value) (aa : Value) (b : PSt) (o : Pin), en = (upd (upd (upd (upd (upd (upd bq 0 (vP p)) 4 vN) 5 at_) 13 x) 14 (vJ (fs.length : Int))) 15 (vJ (a : Int))) ∧ k = fs.length - a ∧ Ext (inP p L R B mm) G w o W ∧ Pin.le ay o ∧ (a ≤ fs.length) ∧ (LdOk fs q b a ats) ∧ (Own eInt 3 o W w.heap.size at_ (ats)) ∧ (Pk 56 3 o W p t y aa mm b) ∧ (PIn w ((inP p L R B mm)) p t y aa mm) ∧ (PoolOk b) ∧ (PX q b) ∧ (NP p t y aa mm at_.ownBlock)) _ ⟨_, 0, am, [], L, R, B, q, ay, (pS 15 (pS 14 (pS 13 (pS 5 (pS 4 (pU 0)))))), rfl, bp, cJ _, cI _, LdOk.start, cy, (bm.below bo bn), hpin, hok, (PX.refl _), cx⟩ ?_)
 rintro du _ dv ⟨bq, a, at_, ats, t, y, aa, b, o, rfl, dw, ab, an, hk, hld, az, a0, a1, ac, a2, a3⟩
 have dx := a2.len
 have dy := pkl b
 have dz := pkb ac
 have hal := hld.len
 have hah := hld.hi
 have hfl := hf.len
 refine w9d ?_
 refine qD rfl (yU rfl rfl) (qe (zA (zB ?_)))
 refine yC (p := ((a : Int) : Int) < (fs.length : Int)) rfl rfl (fun cz => ?_) (fun cz => ?_)
 have oo := xB hf.opts (show a < fs.length by omega)
 have hfe := hf.lens a (by omega)
 refine cO (zA (zB ?_))
 refine zZ (w9d ?_)
 refine qD rfl (zF dF sz65 (v := x) rfl rfl hx (by omega) (by omega)) ?_
 obtain ⟨ad, ae, a4, a5, c0⟩ := jD (hx.at (z := (a : Int)) (by omega) (by omega)) (j := a) rfl
 have d0 := a4.max
 have d1 := a5.max
 refine qD rfl (c0 ag65 sz65 rfl (cC ab.pins (cB ak an))) (qI rfl (yI [vN, vN] zr65 rfl ab.pins (fun br d2 bt c1 bu a6 => ?_)))
 have bv := ab.step bu a6
 have bw := zE (cgA some bt) az.lt
 have bx := a0.new (x := some br) (fun k hk => by rw [cgA some bt] at hk; cases hk; exact cH _)
 have bz : w.heap.size ≤ br := by have := ab.size; omega
 refine q0 rfl rfl rfl (o_stp (cs' := [ad, ae]) (us := [ad, ae]) (v := .agg #[ad, ae]) sz65 rfl rfl rfl (yQ a4.one a5.one) bv.pins c1 (cE rfl) rfl (fun ao c2 b0 a7 d3 => ?_))
 obtain ⟨af, ag, b1, b2, b4⟩ := c2.shut (bv.write b0 a7 ((zS bz))) bz
 refine qe (zA ?_)
 refine yW (S := fun wz => Pins af wz) (last := 14) (by kernel_rfl) rfl ?_
 have ap := bdr ao
 have b5 := b1.pins.below ap
 have c := b1.step b5 ap
 have a8 := (((az.below a6).keptA a7 bw.symm).moreA ag b4 bw.symm).below ap
 have b6 := (((a0.below a6 bu).kept a7 b0 bx).more ag b4 bx).below ap b5
 refine dM 0 at_ c.pins ?_
 refine dM 1 (vP p) c.pins ?_
 refine dT (i := 2) rfl rfl (by kernel_rfl) (fun _ _ => zH (k := 0) rfl dG rfl nz56 rfl) c.pins ?_
 refine dT (i := 3) rfl rfl (by kernel_rfl) (fun _ hS => zJ (u := ad) ag56 rfl (hS _ _ _ (b2 0 _ rfl))) c.pins ?_
 refine dM 4 at_ c.pins ?_
 refine dT (i := 6) rfl rfl (by kernel_rfl) (fun _ _ => zH (k := 1) rfl dG rfl nz56 rfl) c.pins ?_
 refine dT (i := 7) rfl rfl (by kernel_rfl) (fun _ hS => zJ (u := ae) ag56 rfl (hS _ _ _ (b2 1 _ rfl))) c.pins ?_
 refine dM 8 at_ c.pins ?_
 refine dP (i := 5) rfl rfl (zL (vs := [ad, at_]) Tryz.func96 nm96 rfl rfl rfl ?_)
 refine cD (rQ (cM c.pins at_) ((a4.mono (cB (cB ak an) ag)).mono (Gadd.le _ _ _)) a8.read (by omega) (fun i hi => by have h7 := oo.1 _ (yE (d := (0 : Int)) hi); omega)) ?_
 rintro _ b7 ⟨a9, d4, rfl, c4, b8⟩
 refine rt9 ?_
 have ah := vH c.pins b8
 have ba := c4.anti flat_int (cB (Gadd.le af ao.drew at_) b8.le)
 have ai := c.step ah.pins ah.below
 have bb := a8.below ah.below
 have b9 := b6.below ah.below ah.pins
 have c5 := b6.new (x := a9.ownBlock) (fun k hk => (ba.lt k hk).1)
 have ca := ba.weaken c.size
 have d5 : (atL ats ((fs.getD a default).l)).length = ((fs.getD a default).l).length := xG
 refine ⟨fun _ => ai.pins, ?_⟩
 refine dP (i := 9) rfl rfl (zL (vs := [ae, at_]) Tryz.func96 nm96 rfl rfl rfl ?_)
 refine cD (rQ (cM ai.pins at_) ((a5.mono (cB (cB ak an) ag)).mono (Gadd.le _ _ _)) bb.read (by omega) (fun i hi => by have h7 := oo.2 _ (yE (d := (0 : Int)) hi); omega)) ?_
 rintro _ c6 ⟨bc, d6, rfl, c7, cb⟩
 refine rt9 ?_
 have s := vH ai.pins cb
 have aq := c7.anti flat_int (cB (Gadd.le af b7 at_) cb.le)
 have cc := ai.step s.pins s.below
 have c8 := b9.new (x := bc.ownBlock) (fun k hk => (aq.lt k hk).1)
 have c9 := aq.weaken ai.size
 have d7 : (atL ats ((fs.getD a default).r)).length = ((fs.getD a default).r).length := xG
 refine ⟨fun _ => cc.pins, ?_⟩
 obtain ⟨d8, f, da, db, bd⟩ := (ca.below s.below).sealed cc
 obtain ⟨d9, g, be, dc, cd⟩ := (c9.moreO f bd (zT aq.lt ca.lt)).sealed da
 have ce := ((bb.below s.below).moreO f bd (zT ba.lt a8.lt).symm).moreO g cd (zT aq.lt bb.lt).symm
 refine dP (i := 10) rfl rfl (zL (vs := [vP p, a9, bc]) Tryz.func93 nm93 rfl rfl rfl ?_)
 refine cD (node_spec be.pins (((b9.below s.below s.pins).moreO f bd c5).moreO g cd c8) ac (db.mono g) dc (by omega) ⟨by rw [xG]; omega, by rw [xG]; omega⟩ (hld.opt oo.1) (hld.opt oo.2)) ?_
 rintro _ ea ⟨aj, dd, de, df, h, cf, rfl, dg, au, bf, cg, m, dh, di, dj, eb⟩
 refine rt9 ?_
 have av := be.trans m a1
 have ch := NP.call a3 cg (qG ce)
 have dk := PIn.call a1 cg be.size
 have ec := bf.len
 have ed := pkl h
 have ee := pkb au
 refine ⟨fun _ => (cC av.pins (cB (cB f g) m.le)), ?_⟩
 refine dP (i := 11) rfl rfl (yV (E := eInt) (e := 3) [vJ aj] [aj] dE sz3 zr3 (by exact xP (by rfl)) (yZ (by rfl)) rfl rfl rfl rfl (by decide) av.pins (fun ci dl dm cj bg ef => ?_))
 have aw := av.step cj bg
 have ck := (ce.extS m a3).below bg
 have cl := dg.below bg cj
 have dn := dm.weaken av.size
 refine ⟨fun _ => (cC aw.pins (cB (cB f g) m.le)), ?_⟩
 refine dP (i := 12) rfl rfl (oA (E := eInt) (v := at_) (u := ci) 8 dE ap3 (by decide) rfl rfl aw.pins ck dn.src (aw.size) (fun cm eg dp cn co dq => ?_))
 have bh := aw.write cn co ((yD ck))
 have eh := la1 ats aj
 refine ⟨fun _ => (cC bh.pins (cB (cB f g) m.le)), ?_⟩
 refine dM 13 cm (cC bh.pins (cB (cB f g) m.le)) ?_
 refine yL (by kernel_rfl) (w9c ?_)
 refine qD rfl (yH rfl rfl (by omega)) (qM (vJ ((a : Int) + 1)) ?_)
 refine qe (zV (⟨_, ?_, _, rfl, _, a + 1, cm, ats ++ ([aj]), dd, de, df, h, cf, (pS 15 (pS 14 (pS 13 (pS 5 (pS 4 (pU 0)))))), rfl, bh, (cB (cB (cB (cB an ag) f) g) m.le), (by omega), (hld.step hf (by omega) ac au bf dh di dj), dp, (cl.kept co cn ch), dk, au, (cL a2 bf), (jX ch cl dq)⟩))
 omega
 refine cQ (zX (yO (yK (w9a ?_))))
 refine qM at_ ?_
 refine qM at_ ?_
 refine qe (zA ?_)
 refine cP (zP (zQ (v := at_) rfl rfl rfl ?_))
 have hkf : a = fs.length := by omega
 rw [hkf] at hld
 exact ⟨at_, ats, t, y, aa, b, o, rfl, a0, ac, a2, PIn.lo a1 rfl, ab, az, a3, hld⟩
def GeP (m : Nat) (p : Nat) (L R B : Value) (mm : PM) : Prop := ∀ {w : World} {G : Pin} {q : PSt} {a b : Int} (_ : Pins G w) (_ : Pk 56 3 G w p L R B mm q) (_ : PoolOk q) (_ : PlaceOk q a) (_ : PlaceOk q b), a.toNat + b.toNat < m →
  Calls Tryz.prog 97 #[.pointer (some ⟨p, 0, none⟩), .int .i64 a, .int .i64 b] w fun e w' => ∃ (q' : PSt) (G' : Pin), e = .returned (.bool (geB q.ns a b)) ∧ Pk 56 3 G' w' p L R B mm q' ∧ PoolOk q' ∧ PX q q' ∧ (q'.ns = q.ns ∧ q'.bs = q.bs) ∧ Ext (inO (some mm.o)) G w G' w'
theorem ge_step {m : Nat} {w : World} (hP : Pins G w) (hpk : Pk 56 3 G w p L R B mm q) (hok : PoolOk q) (ha : PlaceOk q a) (hb : PlaceOk q b) (ih : GeP m p L R B mm) (hm : a.toNat + b.toNat < m + 1) :
  Calls Tryz.prog 97 #[vP p, vJ a, vJ b] w fun e w' => ∃ (q' : PSt) (G' : Pin), e = .returned (.bool (geB q.ns a b)) ∧ Pk 56 3 G' w' p L R B mm q' ∧ PoolOk q' ∧ PX q q' ∧ (q'.ns = q.ns ∧ q'.bs = q.bs) ∧ Ext (inO (some mm.o)) G w G' w' := by
 refine zY (n := 74) Tryz.func97 Tryz.ntmps97 rfl rfl ?_
 have a3 := exr (inO (some mm.o)) hP
 have hpin : PIn w (inP p L R B mm) p L R B mm := PIn.self
 have df := pkl q
 have dg := pkb hok
 have dh := ha.1
 have di := ha.2
 have dj := hb.1
 have dk := hb.2
 refine w9d ?_
 refine qM (.bool false) ?_
 refine qe (zA (w9b ?_))
 refine qM (vJ a) ?_
 refine qM (vJ b) ?_
 refine qD rfl (xO rfl rfl) (qe (zA ?_))
 refine yC (p := (a : Int) = b) rfl rfl (fun h3 => ?_) (fun h3 => ?_)
 refine w9d ?_
 refine qM (.bool true) ?_
 refine qe (zA ?_)
 exact cP (zP (zQ (v := .bool true) rfl rfl rfl (⟨q, _, cgA eB (by rw [h3]; exact geB_refl.symm), hpk, hok, (PX.refl _), ⟨rfl, rfl⟩, a3⟩)))
 refine cO (w9a ?_)
 refine qM (vJ a) ?_
 refine qM (vJ b) ?_
 refine qD rfl (r_buildA (m := 1) [vJ 0, vJ 0] [vJ a, vJ b] [(0, (vJ a), [vJ a]), (1, (vJ b), [vJ b])] cA zr133 rfl sz3 rfl (cN.2 ⟨rfl, (cN.2 ⟨rfl, (fun _ h => by cases h)⟩)⟩) rfl) (qI rfl (yI [vJ 0, vJ 0] zr133 rfl a3.pins (fun b4 w5 cz c0 b7 b8 => ?_)))
 have b9 := a3.step b7 b8
 have ca := hpk.new (x := some b4) (fun k hk => by rw [cgA some cz] at hk; cases hk; exact cH _)
 have cb : w.heap.size ≤ b4 := by have := a3.size; omega
 refine q0 rfl rfl rfl (o_stp (cs' := [vJ a, vJ b]) (us := [vJ a, vJ b]) (v := .agg #[vJ a, vJ b]) sz133 rfl rfl rfl (yQ (by rfl) (by rfl)) b9.pins c0 (cE rfl) rfl (fun bh c1 cc cd dm => ?_))
 obtain ⟨bi, c2, ce, a5, c3⟩ := c1.shut (b9.write cc cd ((zS cb))) cb
 refine qe (zA (zB (zB ?_)))
 refine yW (S := fun wz => BxR wz p [L, R, B, .map (some mm.f), .map (some mm.o), .map (some mm.c), .map (some mm.s), .map (some mm.n)] ∧ Pins bi wz) (last := 11) (by kernel_rfl) rfl ?_
 have bj := bdr bh
 have cf := ce.pins.below bj
 have ac := ce.step cf bj
 have aa := (((hpk.below b8 b7).kept cd cc ca).more c2 c3 ca).below bj cf
 refine dT (i := 0) rfl rfl (by kernel_rfl) (fun _ _ => zN (v := vP p) rfl) ⟨aa.bx.reads, ac.pins⟩ ?_
 refine dT (i := 1) rfl rfl (by kernel_rfl) (fun _ _ => yY rfl) ⟨aa.bx.reads, ac.pins⟩ ?_
 refine dT (i := 2) rfl rfl (by kernel_rfl) (fun _ _ => zH (k := 4) rfl dN rfl nz92 rfl) ⟨aa.bx.reads, ac.pins⟩ ?_
 refine dT (i := 3) rfl rfl (by kernel_rfl) (fun _ hS => zJ (u := .map (some mm.o)) ag92 rfl (hS.1 4 _ rfl)) ⟨aa.bx.reads, ac.pins⟩ ?_
 refine dT (i := 4) rfl rfl (by kernel_rfl) (fun _ hS => yA (cs := [vJ a, vJ b]) ag133 sz133 rfl (fun j u hj => hS.2 _ _ _ (a5 _ _ (by simpa using hj)))) ⟨aa.bx.reads, ac.pins⟩ ?_
 refine dP (i := 5) rfl rfl (EO.run (sK (k := ((a, b) : Int × Int)) (mB cA dS sz3) Tryz.underlying92 zr4 aa.fo rfl rfl) ?_)
 refine ⟨fun _ => ⟨aa.bx.reads, ac.pins⟩, ?_⟩
 refine dT (i := 6) rfl rfl (by kernel_rfl) (fun _ _ => zN (v := .tuple #[.bool ((Go.GL.look q.om ((a, b) : Int × Int)).getD false), .bool ((Go.GL.look q.om ((a, b) : Int × Int)).isSome)]) rfl) ⟨aa.bx.reads, ac.pins⟩ ?_
 refine dT (i := 7) rfl rfl (by kernel_rfl) (fun _ _ => yM (v := .bool ((Go.GL.look q.om ((a, b) : Int × Int)).getD false)) rfl rfl) ⟨aa.bx.reads, ac.pins⟩ ?_
 refine dT (i := 8) rfl rfl (by kernel_rfl) (fun _ _ => yM (v := .bool ((Go.GL.look q.om ((a, b) : Int × Int)).isSome)) rfl rfl) ⟨aa.bx.reads, ac.pins⟩ ?_
 refine dT (i := 9) rfl rfl (by kernel_rfl) (fun _ _ => qF (v := .bool ((Go.GL.look q.om ((a, b) : Int × Int)).getD false)) rfl) ⟨aa.bx.reads, ac.pins⟩ ?_
 refine dT (i := 10) rfl rfl (by kernel_rfl) (fun _ _ => qF (v := .bool ((Go.GL.look q.om ((a, b) : Int × Int)).isSome)) rfl) ⟨aa.bx.reads, ac.pins⟩ ?_
 refine yL (by kernel_rfl) (w9a ?_)
 refine qM (.bool ((Go.GL.look q.om ((a, b) : Int × Int)).isSome)) ?_
 refine qe (zA ?_)
 refine c_if rfl rfl (fun cg => ?_) (fun cg => ?_)
 refine w9d ?_
 refine qM (.bool ((Go.GL.look q.om ((a, b) : Int × Int)).getD false)) ?_
 refine qM (.bool ((Go.GL.look q.om ((a, b) : Int × Int)).getD false)) ?_
 refine qe (zA ?_)
 refine cP (zP (zQ (v := .bool ((Go.GL.look q.om ((a, b) : Int × Int)).getD false)) rfl rfl rfl ?_))
 obtain ⟨z, hz⟩ := Option.isSome_iff_exists.1 cg
 exact ⟨q, _, cgA eB (by rw [hz]; exact (hok.ord _ _ _ hz).2.2), aa, hok, (PX.refl _), ⟨rfl, rfl⟩, ac⟩
 refine cO (w9a ?_)
 refine qM (.bool true) ?_
 refine qe (zA (w9b ?_))
 refine qM (vP p) ?_
 refine qD rfl (yY rfl) (qD rfl (zH (k := 1) rfl dN rfl nz95 rfl) (qD rfl (zJ (u := R) ag95 rfl (aa.bx.cell (o := 1) rfl)) (qM (vJ a) ?_)))
 refine qD rfl (zF dV sz56 (v := R) rfl rfl aa.rr.read (by omega) (by omega)) ?_
 obtain ⟨bk, av, c4⟩ := kP (aa.rr.at (z := a) (by omega) (by omega)) (j := (a).toNat) rfl
 rw [vE] at av
 have dn := av.max
 refine qD rfl (c4 ag56 rfl (cM ac.pins R)) (qD rfl (zM dE (v := bk) rfl av) (qM (vJ 0) ?_))
 refine qe (zA ?_)
 refine zZ ?_
 have a6 : (q.ns.getD (a).toNat default).r = (q.ns.getD (a).toNat default).r := rfl
 refine yR (fun k en W => ∃ (aw : Nat → Value) (i : Nat) (g : PSt) (GLr : Pin), en = (upd (upd (upd (upd (upd (upd (upd (upd (upd aw 0 (vP p)) 1 (vJ a)) 2 (vJ b)) 6 (.bool false)) 7 (vP b4)) 10 (.bool true)) 38 bk) 39 (vJ (((q.ns.getD (a).toNat default).r).length : Int))) 40 (vJ (i : Int))) ∧ k = (q.ns.getD (a).toNat default).r.length - i ∧ Ext (inO (some mm.o)) G w GLr W ∧ Pin.le bi GLr ∧ (i ≤ (q.ns.getD (a).toNat default).r.length) ∧ (∀ x, x < i → geB q.ns b ((q.ns.getD (a).toNat default).r.getD x 0) = false) ∧ (Pk 56 3 GLr W p L R B mm g) ∧ (PoolOk g) ∧ (PX q g) ∧ (g.ns = q.ns ∧ g.bs = q.bs)) _ ⟨_, 0, q, bi, (pS 40 (pS 39 (pS 38 (pS 10 (pS 7 (pS 6 (pS 2 (pS 1 (pU 0))))))))), rfl, ac, cJ _, cI _, (fun q hq => absurd hq (cK q)), aa, hok, (PX.refl _), ⟨rfl, rfl⟩⟩ ?_
 rintro dp _ dq ⟨aw, i, g, GLr, rfl, dr, ax, ay, hji, hpr, az, a7, a0, t⟩
 have ds := a0.len
 have dt := pkl g
 have du := pkb a7
 have hlnr := cgA List.length a6
 refine w9d ?_
 refine qD rfl (yU rfl rfl) (qe (zA (zB ?_)))
 refine yC (p := ((i : Int) : Int) < (((q.ns.getD (a).toNat default).r).length : Int)) rfl rfl (fun c5 => ?_) (fun c5 => ?_)
 have hki := (xB hok.ar.opts (show (a).toNat < q.ns.length by omega)).2 _ (yE (d := (0 : Int)) (show i < (q.ns.getD (a).toNat default).r.length by omega))
 rw [← a6] at hki
 refine cO (zA (zB ?_))
 refine zZ (w9d ?_)
 refine qD rfl (zF dE sz3 (v := bk) rfl rfl av (by omega) (by omega)) (qD rfl (zG (r := ((q.ns.getD (a).toNat default).r).getD i 0) rfl ag3 (z := (i : Int)) rfl av (cC ax.pins ay) (by omega) (by omega)) (qM (vJ (((q.ns.getD (a).toNat default).r).getD i 0)) ?_))
 refine qe (w9a ?_)
 refine qM (vP p) ?_
 refine qM (vJ b) ?_
 refine qM (vJ (((q.ns.getD (a).toNat default).r).getD i 0)) ?_
 refine qI rfl (zL (vs := [vP p, vJ b, vJ (((q.ns.getD (a).toNat default).r).getD i 0)]) Tryz.func97 nm97 rfl rfl rfl ?_)
 refine cD (ih ax.pins az a7 ⟨by omega, by omega⟩ ⟨by omega, by omega⟩ (by omega)) ?_
 rintro _ bl ⟨ad, ch, rfl, ci, a8, bm, aq, bn⟩
 refine rt9 ?_
 have bo := ax.trans bn (fun i hi => xN i hi)
 have dv := bm.len
 have dw := pkl ad
 have dx := pkb a8
 have dy := cgA List.length aq.1
 refine qe (zA ?_)
 refine c_if rfl rfl (fun bp => ?_) (fun bp => ?_)
 refine w9d ?_
 refine qM (.bool false) ?_
 refine qe (zA ?_)
 refine cQ (mR rfl (zX (yO (yK (zA (w9b ?_))))))
 refine qM (.bool false) ?_
 refine qe (zA ?_)
 refine xT rfl rfl (cO (zA (zB ?_)))
 refine yW (S := fun wz => BxR wz p [L, R, B, .map (some mm.f), .map (some mm.o), .map (some mm.c), .map (some mm.s), .map (some mm.n)] ∧ Pins ch wz) (last := 6) (by kernel_rfl) rfl ?_
 have bq := bdr bl
 have cj := bo.pins.below bq
 have aj := bo.step cj bq
 have ak := ci.below bq cj
 refine dT (i := 0) rfl rfl (by kernel_rfl) (fun _ _ => zN (v := vP p) rfl) ⟨ak.bx.reads, aj.pins⟩ ?_
 refine dT (i := 1) rfl rfl (by kernel_rfl) (fun _ _ => yY rfl) ⟨ak.bx.reads, aj.pins⟩ ?_
 refine dT (i := 2) rfl rfl (by kernel_rfl) (fun _ _ => zH (k := 4) rfl dN rfl nz92 rfl) ⟨ak.bx.reads, aj.pins⟩ ?_
 refine dT (i := 3) rfl rfl (by kernel_rfl) (fun _ hS => zJ (u := .map (some mm.o)) ag92 rfl (hS.1 4 _ rfl)) ⟨ak.bx.reads, aj.pins⟩ ?_
 refine dT (i := 4) rfl rfl (by kernel_rfl) (fun _ hS => yA (cs := [vJ a, vJ b]) ag133 sz133 rfl (fun j u hj => (cC hS.2 (cB ay bn.le)) _ _ _ (a5 _ _ (by simpa using hj)))) ⟨ak.bx.reads, aj.pins⟩ ?_
 refine dT (i := 5) rfl rfl (by kernel_rfl) (fun _ _ => zN (v := .bool false) rfl) ⟨ak.bx.reads, aj.pins⟩ ?_
 refine dO (i := 6) (xK (i := 6) rfl rfl rfl (zR rfl _) (qS (val := (fun v : Bool => Value.bool v)) (k := ((a, b) : Int × Int)) (v := false) (mB cA dS sz3) Tryz.underlying92 rfl rfl rfl aj.pins ak.fo (fun dz c6 ck cl d0 => ?_)))
 have c7 := aj.trans (Ext.one ck cl) (fun i hi => xN i hi)
 have cm := ak.setO (Ext.one ck cl) c6
 have hgv : geB q.ns a b = false := mI hok.ar.opts ha (i := i) (by omega) (by rw [← a6, ← xW t]; exact bp)
 have a9 := PoolOk.setO a8 (ha.same (zO t aq)) (hb.same (zO t aq)) (setO_ok (zO t aq) hgv)
 obtain ⟨af, br⟩ : ∃ q, q = ({ ad with om := putE ad.om ((a, b) : Int × Int) false } : PSt) := ⟨_, rfl⟩
 rw [← br] at cm a9
 have hq83n : af.ns = ad.ns ∧ af.bs = ad.bs := by rw [br]; exact ⟨rfl, rfl⟩
 have hq83x : PX ad af := by rw [br]; exact ⟨cH _, fun _ _ => rfl, fun _ h => h⟩
 have d1 := pkl af
 have d2 := pkb a9
 have d3 := hq83x.len
 refine ⟨fun h => absurd rfl h, ?_⟩
 refine yL (by kernel_rfl) (w9a ?_)
 refine qM (.bool false) ?_
 refine qM (.bool false) ?_
 refine qe (zA ?_)
 exact cP (zP (zQ (v := .bool false) rfl rfl rfl (⟨af, _, cgA eB (hgv.symm), cm, a9, (cL (cL a0 bm) hq83x), (zO (zO t aq) hq83n), c7⟩)))
 refine cO (w9c ?_)
 refine qD rfl (yH rfl rfl (by omega)) (qM (vJ ((i : Int) + 1)) ?_)
 refine qe (zV (⟨_, ?_, _, rfl, _, i + 1, ad, ch, (pS 40 (pS 39 (pS 38 (pS 10 (pS 7 (pS 6 (pS 2 (pS 1 (pU 0))))))))), rfl, bo, (cB ay bn.le), (by omega), (fun x h2 => if h3 : x = i then h3 ▸ (by rw [← a6, ← xW t]; exact bp) else hpr x (by omega)), ci, a8, (cL a0 bm), (zO t aq)⟩))
 omega
 refine cQ (zX (yO (yK (zA (w9b ?_)))))
 refine qM (.bool true) ?_
 refine qe (zA ?_)
 refine qK rfl rfl (w9d ?_)
 refine qM (vP p) ?_
 refine qD rfl (yY rfl) (qD rfl (zH (k := 0) rfl dN rfl nz95 rfl) (qD rfl (zJ (u := L) ag95 rfl (az.bx.cell (o := 0) rfl)) (qM (vJ b) ?_)))
 refine qD rfl (zF dV sz56 (v := L) rfl rfl az.ol.read (by omega) (by omega)) ?_
 obtain ⟨bt, a1, c9⟩ := kP (az.ol.at (z := b) (by omega) (by omega)) (j := (b).toNat) rfl
 rw [vF] at a1
 have d4 := a1.max
 refine qD rfl (c9 ag56 rfl (cM ax.pins L)) (qD rfl (zM dE (v := bt) rfl a1) (qM (vJ 0) ?_))
 refine qe (zA ?_)
 refine zZ ?_
 have ba : (g.ns.getD (b).toNat default).l = (q.ns.getD (b).toNat default).l := by rw [t.1]
 refine yR (fun k en W => ∃ (aw : Nat → Value) (i2 : Nat) (y : PSt) (GLl : Pin), en = (upd (upd (upd (upd (upd (upd (upd (upd aw 0 (vP p)) 1 (vJ a)) 6 (.bool false)) 7 (vP b4)) 10 (.bool true)) 56 bt) 57 (vJ (((g.ns.getD (b).toNat default).l).length : Int))) 58 (vJ (i2 : Int))) ∧ k = (q.ns.getD (b).toNat default).l.length - i2 ∧ Ext (inO (some mm.o)) G w GLl W ∧ Pin.le GLr GLl ∧ (i2 ≤ (q.ns.getD (b).toNat default).l.length) ∧ (∀ x, x < i2 → geB q.ns ((q.ns.getD (b).toNat default).l.getD x 0) a = false) ∧ (Pk 56 3 GLl W p L R B mm y) ∧ (PoolOk y) ∧ (PX g y) ∧ (y.ns = g.ns ∧ y.bs = g.bs)) _ ⟨_, 0, g, GLr, (pS 58 (pS 57 (pS 56 (pS 10 (pS 7 (pS 6 (pS 1 (pU 0)))))))), rfl, ax, cJ _, cI _, (fun q hq => absurd hq (cK q)), az, a7, (PX.refl _), ⟨rfl, rfl⟩⟩ ?_
 rintro d5 _ bu ⟨aw, i2, y, GLl, rfl, d6, a2, bb, d7, hpl, cn, bc, bd, ag⟩
 have d8 := bd.len
 have d9 := pkl y
 have ea := pkb bc
 have hlnl := cgA List.length ba
 refine w9d ?_
 refine qD rfl (yU rfl rfl) (qe (zA (zB ?_)))
 refine yC (p := ((i2 : Int) : Int) < (((g.ns.getD (b).toNat default).l).length : Int)) rfl rfl (fun da => ?_) (fun da => ?_)
 have hki := (xB hok.ar.opts (show (b).toNat < q.ns.length by omega)).1 _ (yE (d := (0 : Int)) (show i2 < (q.ns.getD (b).toNat default).l.length by omega))
 rw [← ba] at hki
 refine cO (zA (zB ?_))
 refine zZ (w9d ?_)
 refine qD rfl (zF dE sz3 (v := bt) rfl rfl a1 (by omega) (by omega)) (qD rfl (zG (r := ((g.ns.getD (b).toNat default).l).getD i2 0) rfl ag3 (z := (i2 : Int)) rfl a1 (cC a2.pins bb) (by omega) (by omega)) (qM (vJ (((g.ns.getD (b).toNat default).l).getD i2 0)) ?_))
 refine qe (w9a ?_)
 refine qM (vP p) ?_
 refine qM (vJ (((g.ns.getD (b).toNat default).l).getD i2 0)) ?_
 refine qM (vJ a) ?_
 refine qI rfl (zL (vs := [vP p, vJ (((g.ns.getD (b).toNat default).l).getD i2 0), vJ a]) Tryz.func97 nm97 rfl rfl rfl ?_)
 refine cD (ih a2.pins cn bc ⟨by omega, by omega⟩ ⟨by omega, by omega⟩ (by omega)) ?_
 rintro _ bv ⟨ae, co, rfl, cp, be, bw, au, bz⟩
 refine rt9 ?_
 have b0 := a2.trans bz (fun i hi => xN i hi)
 have eb := bw.len
 have ec := pkl ae
 have ed := pkb be
 have ee := cgA List.length au.1
 refine qe (zA ?_)
 refine c_if rfl rfl (fun b1 => ?_) (fun b1 => ?_)
 refine w9d ?_
 refine qM (.bool false) ?_
 refine qe (zA ?_)
 refine cQ (mR rfl (zX (yO (yK (zA (zB ?_))))))
 refine yW (S := fun wz => BxR wz p [L, R, B, .map (some mm.f), .map (some mm.o), .map (some mm.c), .map (some mm.s), .map (some mm.n)] ∧ Pins co wz) (last := 6) (by kernel_rfl) rfl ?_
 have b2 := bdr bv
 have cq := b0.pins.below b2
 have al := b0.step cq b2
 have am := cp.below b2 cq
 refine dT (i := 0) rfl rfl (by kernel_rfl) (fun _ _ => zN (v := vP p) rfl) ⟨am.bx.reads, al.pins⟩ ?_
 refine dT (i := 1) rfl rfl (by kernel_rfl) (fun _ _ => yY rfl) ⟨am.bx.reads, al.pins⟩ ?_
 refine dT (i := 2) rfl rfl (by kernel_rfl) (fun _ _ => zH (k := 4) rfl dN rfl nz92 rfl) ⟨am.bx.reads, al.pins⟩ ?_
 refine dT (i := 3) rfl rfl (by kernel_rfl) (fun _ hS => zJ (u := .map (some mm.o)) ag92 rfl (hS.1 4 _ rfl)) ⟨am.bx.reads, al.pins⟩ ?_
 refine dT (i := 4) rfl rfl (by kernel_rfl) (fun _ hS => yA (cs := [vJ a, vJ b]) ag133 sz133 rfl (fun j u hj => (cC hS.2 (cB (cB ay bb) bz.le)) _ _ _ (a5 _ _ (by simpa using hj)))) ⟨am.bx.reads, al.pins⟩ ?_
 refine dT (i := 5) rfl rfl (by kernel_rfl) (fun _ _ => zN (v := .bool false) rfl) ⟨am.bx.reads, al.pins⟩ ?_
 refine dO (i := 6) (xK (i := 6) rfl rfl rfl (zR rfl _) (qS (val := (fun v : Bool => Value.bool v)) (k := ((a, b) : Int × Int)) (v := false) (mB cA dS sz3) Tryz.underlying92 rfl rfl rfl al.pins am.fo (fun ef db cr ct eg => ?_)))
 have dc := al.trans (Ext.one cr ct) (fun i hi => xN i hi)
 have cu := am.setO (Ext.one cr ct) db
 have hgv : geB q.ns a b = false := nY hok.ar.opts hb (i := i2) (by omega) (by rw [← ba, ← xW (zO t ag)]; exact b1)
 have bf := PoolOk.setO be (ha.same (zO (zO t ag) au)) (hb.same (zO (zO t ag) au)) (setO_ok (zO (zO t ag) au) hgv)
 obtain ⟨ah, b3⟩ : ∃ q, q = ({ ae with om := putE ae.om ((a, b) : Int × Int) false } : PSt) := ⟨_, rfl⟩
 rw [← b3] at cu bf
 have hq135n : ah.ns = ae.ns ∧ ah.bs = ae.bs := by rw [b3]; exact ⟨rfl, rfl⟩
 have hq135x : PX ae ah := by rw [b3]; exact ⟨cH _, fun _ _ => rfl, fun _ h => h⟩
 have eh := pkl ah
 have ei := pkb bf
 have ej := hq135x.len
 refine ⟨fun h => absurd rfl h, ?_⟩
 refine yL (by kernel_rfl) (w9a ?_)
 refine qM (.bool false) ?_
 refine qM (.bool false) ?_
 refine qe (zA ?_)
 exact cP (zP (zQ (v := .bool false) rfl rfl rfl (⟨ah, _, cgA eB (hgv.symm), cu, bf, (cL (cL (cL a0 bd) bw) hq135x), (zO (zO (zO t ag) au) hq135n), dc⟩)))
 refine cO (w9c ?_)
 refine qD rfl (yH rfl rfl (by omega)) (qM (vJ ((i2 : Int) + 1)) ?_)
 refine qe (zV (⟨_, ?_, _, rfl, _, i2 + 1, ae, co, (pS 58 (pS 57 (pS 56 (pS 10 (pS 7 (pS 6 (pS 1 (pU 0)))))))), rfl, b0, (cB bb bz.le), (by omega), (fun x h2 => if h3 : x = i2 then h3 ▸ (by rw [← ba, ← xW (zO t ag)]; exact b1) else hpl x (by omega)), cp, be, (cL bd bw), (zO ag au)⟩))
 omega
 refine cQ (zX (yO (yK (zA (zB ?_)))))
 refine yW (S := fun wz => BxR wz p [L, R, B, .map (some mm.f), .map (some mm.o), .map (some mm.c), .map (some mm.s), .map (some mm.n)] ∧ Pins GLl wz) (last := 6) (by kernel_rfl) rfl ?_
 have b5 := bdr bu
 have cv := a2.pins.below b5
 have an := a2.step cv b5
 have ao := cn.below b5 cv
 refine dT (i := 0) rfl rfl (by kernel_rfl) (fun _ _ => zN (v := vP p) rfl) ⟨ao.bx.reads, an.pins⟩ ?_
 refine dT (i := 1) rfl rfl (by kernel_rfl) (fun _ _ => yY rfl) ⟨ao.bx.reads, an.pins⟩ ?_
 refine dT (i := 2) rfl rfl (by kernel_rfl) (fun _ _ => zH (k := 4) rfl dN rfl nz92 rfl) ⟨ao.bx.reads, an.pins⟩ ?_
 refine dT (i := 3) rfl rfl (by kernel_rfl) (fun _ hS => zJ (u := .map (some mm.o)) ag92 rfl (hS.1 4 _ rfl)) ⟨ao.bx.reads, an.pins⟩ ?_
 refine dT (i := 4) rfl rfl (by kernel_rfl) (fun _ hS => yA (cs := [vJ a, vJ b]) ag133 sz133 rfl (fun j u hj => (cC hS.2 (cB ay bb)) _ _ _ (a5 _ _ (by simpa using hj)))) ⟨ao.bx.reads, an.pins⟩ ?_
 refine dT (i := 5) rfl rfl (by kernel_rfl) (fun _ _ => zN (v := .bool true) rfl) ⟨ao.bx.reads, an.pins⟩ ?_
 refine dO (i := 6) (xK (i := 6) rfl rfl rfl (zR rfl _) (qS (val := (fun v : Bool => Value.bool v)) (k := ((a, b) : Int × Int)) (v := true) (mB cA dS sz3) Tryz.underlying92 rfl rfl rfl an.pins ao.fo (fun ek dd cw cx el => ?_)))
 have de := an.trans (Ext.one cw cx) (fun i hi => xN i hi)
 have cy := ao.setO (Ext.one cw cx) dd
 have hgv : geB q.ns a b = true := geB_yes hok.ar.opts ha hb (fun i hi => hpr i (by omega)) (fun i hi => hpl i (by omega))
 have bg := PoolOk.setO bc (ha.same (zO t ag)) (hb.same (zO t ag)) (setO_ok (zO t ag) hgv)
 obtain ⟨ai, b6⟩ : ∃ q, q = ({ y with om := putE y.om ((a, b) : Int × Int) true } : PSt) := ⟨_, rfl⟩
 rw [← b6] at cy bg
 have hq152n : ai.ns = y.ns ∧ ai.bs = y.bs := by rw [b6]; exact ⟨rfl, rfl⟩
 have hq152x : PX y ai := by rw [b6]; exact ⟨cH _, fun _ _ => rfl, fun _ h => h⟩
 have em := pkl ai
 have eo := pkb bg
 have ep := hq152x.len
 refine ⟨fun h => absurd rfl h, ?_⟩
 refine yL (by kernel_rfl) (w9a ?_)
 refine qM (.bool true) ?_
 refine qM (.bool true) ?_
 refine qe (zA ?_)
 exact cP (zP (zQ (v := .bool true) rfl rfl rfl (⟨ai, _, cgA eB (hgv.symm), cy, bg, (cL (cL a0 bd) hq152x), (zO (zO t ag) hq152n), de⟩)))
theorem geP_all {p : Nat} {L R B : Value} {mm : PM} : ∀ m, GeP m p L R B mm
 | 0 => fun _ _ _ _ _ h => absurd h (cK _)
 | m + 1 => fun hP hpk hok ha hb hm => ge_step hP hpk hok ha hb (geP_all m) hm
theorem tJ {w : World} (hP : Pins G w) (hpk : Pk 56 3 G w p L R B mm q) (hok : PoolOk q) (ha : PlaceOk q a) (hb : PlaceOk q b) :
  Calls Tryz.prog 97 #[.pointer (some ⟨p, 0, none⟩), .int .i64 a, .int .i64 b] w fun e w' => ∃ (q' : PSt) (G' : Pin), e = .returned (.bool (geB q.ns a b)) ∧ Pk 56 3 G' w' p L R B mm q' ∧ PoolOk q' ∧ PX q q' ∧ (q'.ns = q.ns ∧ q'.bs = q.bs) ∧ Ext (inO (some mm.o)) G w G' w' :=
 geP_all _ hP hpk hok ha hb (Nat.lt_succ_self _)
end PL1
namespace NU1
open B1 C1 D1 E1 K1 PO1 PL1
theorem qZ {w : World} {G : Pin} {t z : Int} (hP : Pins G w) :
  Calls Tryz.prog 34 [.agg #[vJ t, vJ z]].toArray w fun e w' => ∃ G', e = .returned (.bool (decP (GoodD t z))) ∧ Ext noS G w G' w' := by
 refine zY (n := 32) Tryz.func34 Tryz.ntmps34 rfl rfl ?_
 have d := exr noS hP
 refine w9d ?_
 refine qI rfl (xH [vJ t, vJ z] (v := .agg #[vJ t, vJ z]) rfl rfl d.pins (fun j w2 ac l m o => ?_))
 have q : w.heap.size ≤ j := by have := d.size; omega
 obtain ⟨G9, ae, a, b, af⟩ := l.shut (d.step m o) q
 refine qM (.bool false) ?_
 refine qe (w9a ?_)
 refine qD rfl (zH (k := 0) rfl dH rfl nz3 rfl) (qD rfl (zJ (u := vJ t) ag3 rfl (a.pins _ _ _ (b 0 _ rfl))) (qD rfl (gP rfl rfl) (qM (.bool (decide (((-1000000) : Int) ≤ t))) ?_)))
 refine qbd (p := ((-1000000) : Int) ≤ t) (t := 6) rfl (fun r => ?_) (fun r => ?_)
 refine qN (zH (k := 0) rfl dH rfl nz3 rfl) ?_
 refine qN (zJ (u := vJ t) ag3 rfl (a.pins _ _ _ (b 0 _ rfl))) ?_
 refine qN (tR rfl rfl) ?_
 refine qD rfl (yB (v := .bool (decide ((t : Int) ≤ 1000000))) rfl rfl) (qM (.bool (decide ((t : Int) ≤ 1000000))) ?_)
 refine qbd (p := (t : Int) ≤ 1000000) (t := 11) rfl (fun s => ?_) (fun s => ?_)
 refine qN (zH (k := 1) rfl dH rfl nz3 rfl) ?_
 refine qN (zJ (u := vJ z) ag3 rfl (a.pins _ _ _ (b 1 _ rfl))) ?_
 refine qN (gP rfl rfl) ?_
 refine qD rfl (yB (v := .bool (decide ((0 : Int) ≤ z))) rfl rfl) (qM (.bool (decide ((0 : Int) ≤ z))) ?_)
 refine qbd (p := (0 : Int) ≤ z) (t := 16) rfl (fun x => ?_) (fun x => ?_)
 refine qN (zH (k := 1) rfl dH rfl nz3 rfl) ?_
 refine qN (zJ (u := vJ z) ag3 rfl (a.pins _ _ _ (b 1 _ rfl))) ?_
 refine qN (tR rfl rfl) ?_
 refine qD rfl (yB (v := .bool (decide ((z : Int) ≤ 16))) rfl rfl) (qM (.bool (decide ((z : Int) ≤ 16))) ?_)
 refine qbd (p := (z : Int) ≤ 16) (t := 21) rfl (fun y => ?_) (fun y => ?_)
 refine qN (zH (k := 1) rfl dH rfl nz3 rfl) ?_
 refine qN (zJ (u := vJ z) ag3 rfl (a.pins _ _ _ (b 1 _ rfl))) ?_
 refine qN (xO rfl rfl) ?_
 refine qN (zN (v := .bool (decide ((z : Int) = 0))) rfl) ?_
 refine qbd (p := (z : Int) = 0) (t := 25) rfl (fun aa => ?_) (fun aa => ?_)
 refine qW ?_
 refine qW ?_
 refine qW ?_
 refine qW ?_
 refine qN (yB (v := .bool true) rfl rfl) ?_
 refine qD rfl (yB (v := .bool true) rfl rfl) (qM (.bool true) ?_)
 refine qe (zA ?_)
 exact cP (zP (zQ (v := .bool true) rfl rfl rfl (⟨_, cgA eB (decP_true.2 ⟨by omega, by omega, by omega⟩).symm, a⟩)))
 refine qN (zH (k := 0) rfl dH rfl nz3 rfl) ?_
 refine qN (zJ (u := vJ t) ag3 rfl (a.pins _ _ _ (b 0 _ rfl))) ?_
 refine qN (r_rem2 rfl rfl) ?_
 refine qN (vV rfl rfl) ?_
 refine qN (zU (v := .bool (decide ((t.tmod 2 : Int) ≠ 0))) rfl rfl) ?_
 refine qD rfl (yB (v := .bool (decide ((t.tmod 2 : Int) ≠ 0))) rfl rfl) (qM (.bool (decide ((t.tmod 2 : Int) ≠ 0))) ?_)
 refine qe (zA ?_)
 exact cP (zP (zQ (v := .bool (decide ((t.tmod 2 : Int) ≠ 0))) rfl rfl rfl (⟨_, cgA eB (decP_dec.symm.trans (fI ⟨fun h => ⟨by omega, by omega, by omega⟩, fun g => by have c := g.odd; omega⟩)), a⟩)))
 refine qW ?_
 refine qW ?_
 refine qW ?_
 refine qW ?_
 refine qX ?_
 refine qX ?_
 refine qX ?_
 refine qX ?_
 refine qW ?_
 refine qD rfl (zU (v := .bool false) rfl rfl) (qM (.bool false) ?_)
 refine qe (zA ?_)
 exact cP (zP (zQ (v := .bool false) rfl rfl rfl (⟨_, cgA eB (decP_false.2 (fun g => by have f := g.top; have i := g.pow; have c := g.odd; omega)).symm, a⟩)))
 refine qW ?_
 refine qW ?_
 refine qW ?_
 refine qD rfl (zU (v := .bool false) rfl rfl) (qM (.bool false) ?_)
 refine qW ?_
 refine qW ?_
 refine qW ?_
 refine qW ?_
 refine qX ?_
 refine qX ?_
 refine qX ?_
 refine qX ?_
 refine qW ?_
 refine qD rfl (zU (v := .bool false) rfl rfl) (qM (.bool false) ?_)
 refine qe (zA ?_)
 exact cP (zP (zQ (v := .bool false) rfl rfl rfl (⟨_, cgA eB (decP_false.2 (fun g => by have f := g.top; have i := g.pow; have c := g.odd; omega)).symm, a⟩)))
 refine qW ?_
 refine qW ?_
 refine qW ?_
 refine qD rfl (zU (v := .bool false) rfl rfl) (qM (.bool false) ?_)
 refine qW ?_
 refine qW ?_
 refine qW ?_
 refine qD rfl (zU (v := .bool false) rfl rfl) (qM (.bool false) ?_)
 refine qW ?_
 refine qW ?_
 refine qW ?_
 refine qW ?_
 refine qX ?_
 refine qX ?_
 refine qX ?_
 refine qX ?_
 refine qW ?_
 refine qD rfl (zU (v := .bool false) rfl rfl) (qM (.bool false) ?_)
 refine qe (zA ?_)
 exact cP (zP (zQ (v := .bool false) rfl rfl rfl (⟨_, cgA eB (decP_false.2 (fun g => by have f := g.top; have i := g.pow; have c := g.odd; omega)).symm, a⟩)))
 refine qW ?_
 refine qW ?_
 refine qW ?_
 refine qD rfl (zU (v := .bool false) rfl rfl) (qM (.bool false) ?_)
 refine qW ?_
 refine qW ?_
 refine qW ?_
 refine qD rfl (zU (v := .bool false) rfl rfl) (qM (.bool false) ?_)
 refine qW ?_
 refine qW ?_
 refine qW ?_
 refine qD rfl (zU (v := .bool false) rfl rfl) (qM (.bool false) ?_)
 refine qW ?_
 refine qW ?_
 refine qW ?_
 refine qW ?_
 refine qX ?_
 refine qX ?_
 refine qX ?_
 refine qX ?_
 refine qW ?_
 refine qD rfl (zU (v := .bool false) rfl rfl) (qM (.bool false) ?_)
 refine qe (zA ?_)
 exact cP (zP (zQ (v := .bool false) rfl rfl rfl (⟨_, cgA eB (decP_false.2 (fun g => by have f := g.top; have i := g.pow; have c := g.odd; omega)).symm, a⟩)))
end NU1
namespace NU2
open B1 C1 D1 E1 K1 PO1 PL1 NU1
theorem pl27 : (Tryz.prog.underlying 27).bind (placesD Tryz.prog) = some [(0, 1), (1, 1)] := by kernel_rfl
theorem nS {w : World} {G : Pin} {t : Int} {p : Nat} (hP : Pins G w) (hb : -1000000000000000 ≤ t ∧ t ≤ 1000000000000000) (hp : p ≤ 64) :
  Calls Tryz.prog 92 #[vJ t, vJ (p : Int)] w fun e w' => ∃ G', e = .returned (.tuple #[.agg #[.int .i64 (lowR (decP (GoodD (lowD p t).1 (((lowD p t).2 : Nat) : Int))) (lowD p t).1), .int .i64 (lowR (decP (GoodD (lowD p t).1 (((lowD p t).2 : Nat) : Int))) (((lowD p t).2 : Nat) : Int))], .bool (decP (GoodD (lowD p t).1 (((lowD p t).2 : Nat) : Int)))]) ∧ Ext noS G w G' w' := by
 refine zY (n := 26) Tryz.func92 Tryz.ntmps92 rfl rfl ?_
 have q := exr noS hP
 refine w9d ?_
 refine qI rfl (yI [vJ 0, vJ 0] zr27 rfl q.pins (fun r w2 bp au av aw => ?_))
 have o : w.heap.size ≤ r := by have := q.size; omega
 refine qM (.bool false) ?_
 refine qe (zA (zB ?_))
 refine zZ (yR (fun k en W => ∃ (ad : Nat → Value) (a : Int) (zp : Int) (f : Pin), en = (upd (upd (upd (upd ad 0 (vJ a)) 1 (vJ zp)) 4 (vP r)) 5 (.bool false)) ∧ k = zp.toNat ∧ Ext noS G w f W ∧ Pin.le G f ∧ (lowD p t = lowD zp.toNat a) ∧ (0 ≤ zp ∧ zp ≤ 64) ∧ (-1000000000000000 ≤ a ∧ a ≤ 1000000000000000) ∧ (Bx f W r [vJ 0, vJ 0])) _ ⟨_, t, (p : Int), G, (pS 5 (pS 4 (pS 1 (pU 0)))), rfl, (q.step av aw), cJ _, (by rw [Int.toNat_natCast]), (by omega), hb, au⟩ ?_)
 rintro k9 _ br ⟨ad, a, zp, f, rfl, bs, b, ax, hr, hz, hab, g⟩
 refine w9b ?_
 refine qM (vJ zp) ?_
 refine qD rfl (jW rfl rfl) (qM (.bool (decide ((0 : Int) < zp))) ?_)
 refine qbd (p := (0 : Int) < zp) (t := 9) rfl (fun i => ?_) (fun i => ?_)
 refine qN (zN (v := vJ a) rfl) ?_
 refine qN (r_rem2 rfl rfl) ?_
 refine qN (xO rfl rfl) ?_
 refine qD rfl (yB (v := .bool (decide ((a.tmod 2 : Int) = 0))) rfl rfl) (qe (zA ?_))
 refine yC (p := (a.tmod 2 : Int) = 0) rfl rfl (fun c => ?_) (fun c => ?_)
 refine cO (zA (zZ (w9d ?_)))
 refine qM (vJ a) ?_
 refine qD rfl (r_quo2 rfl rfl ((nO _).1 c) (by omega)) (qM (vJ (a / 2)) ?_)
 refine qe (zA (zC ?_))
 refine qM (vJ zp) ?_
 refine qD rfl (xY rfl rfl (by omega)) (qM (vJ (zp - 1)) ?_)
 refine qe (zW (zV (⟨_, ?_, _, rfl, _, a / 2, zp - 1, f, (pS 5 (pS 4 (pS 1 (pU 0)))), rfl, b, ax, (hr.trans (low_even (by omega) c)), (by omega), (by omega), g⟩)))
 omega
 refine cQ (zX (yO (yK (w9a ?_))))
 refine qM (vJ a) ?_
 refine qM (vJ zp) ?_
 refine qD rfl (yS [vJ 0, vJ 0] [vJ a, vJ zp] [(0, (vJ a), [vJ a]), (1, (vJ zp), [vJ zp])] dH zr27 rfl pl27 rfl (cN.2 ⟨rfl, (cN.2 ⟨rfl, (fun _ h => by cases h)⟩)⟩) rfl) (qI rfl (yI [vJ 0, vJ 0] zr27 rfl b.pins (fun ay bt az a0 a1 ae => ?_)))
 have af := b.step a1 ae
 have ag := zI (cgA some az) g.lt
 have ah : w.heap.size ≤ ay := by have := b.size; omega
 refine q0 rfl rfl rfl (o_stp (cs' := [vJ a, vJ zp]) (us := [vJ a, vJ zp]) (v := .agg #[vJ a, vJ zp]) sz27 rfl rfl rfl (yQ (by rfl) (by rfl)) af.pins a0 (cE rfl) rfl (fun bu a2 a3 ai bv => ?_))
 obtain ⟨bw, bx, s, aj, a4⟩ := a2.shut (af.write a3 ai ((zS ah))) ah
 refine qe (zA (w9b ?_))
 refine qD rfl (yA (cs := [vJ a, vJ zp]) ag27 sz27 rfl (fun j u hj => s.pins _ _ _ (aj _ _ (by simpa using hj)))) (qI rfl (zL (vs := [.agg #[vJ a, vJ zp]]) Tryz.func34 nm34 rfl rfl rfl ?_))
 refine cD (qZ (t := a) (z := zp) s.pins) ?_
 rintro _ bz ⟨b0, rfl, x⟩
 refine rt9 ?_
 have l := s.tr x
 have ak := (((g.below ae).keptA ai ag.symm).moreA a4 ag.symm).ext x
 refine qD rfl (xD rfl) (qe (zA ?_))
 refine xU rfl rfl (fun y => ?_) (fun y => ?_)
 refine cO (w9a ?_)
 refine qD rfl (yA (cs := [vJ a, vJ zp]) ag27 sz27 rfl (fun j u hj => (cC l.pins x.le) _ _ _ (aj _ _ (by simpa using hj)))) (q0 rfl rfl rfl (o_stp (cs' := [vJ a, vJ zp]) (us := [vJ a, vJ zp]) (v := .agg #[vJ a, vJ zp]) sz27 rfl rfl rfl (yQ (by rfl) (by rfl)) l.pins ak (cE rfl) rfl (fun b2 a5 a6 a7 b3 => ?_)))
 refine qM (.bool true) ?_
 refine qe (zA ?_)
 refine cP (zP (xF (cs := [vJ a, vJ zp]) (v := .bool true) rfl rfl rfl rfl rfl ag27 sz27 (fun j u hj => by rw [cS]; exact a5.cell hj) ?_))
 have hst := hr.trans (fB hz.1 (by first | exact cF c | exact cG c))
 have d : ((zp.toNat : Nat) : Int) = zp := Int.toNat_of_nonneg hz.1
 rw [hst]
 simp only [d]
 exact ⟨_, by rw [y]; rfl, (l.write a6 a7 ((zS o)))⟩
 refine w9d ?_
 refine qD rfl (yS [vJ 0, vJ 0] [vJ 0, vJ 0] [] dH zr27 rfl pl27 rfl (fun _ h => by cases h) rfl) (q0 rfl rfl rfl (o_stp (cs' := [vJ 0, vJ 0]) (us := [vJ 0, vJ 0]) (v := .agg #[vJ 0, vJ 0]) sz27 rfl rfl rfl (yQ (by rfl) (by rfl)) l.pins ak (cE rfl) rfl (fun b4 a8 a9 ba b5 => ?_)))
 refine qM (.bool false) ?_
 refine qe (zA ?_)
 refine cP (zP (xF (cs := [vJ 0, vJ 0]) (v := .bool false) rfl rfl rfl rfl rfl ag27 sz27 (fun j u hj => by rw [cS]; exact a8.cell hj) ?_))
 have hst := hr.trans (fB hz.1 (by first | exact cF c | exact cG c))
 have d : ((zp.toNat : Nat) : Int) = zp := Int.toNat_of_nonneg hz.1
 rw [hst]
 simp only [d]
 exact ⟨_, by rw [y]; rfl, (l.write a9 ba ((zS o)))⟩
 refine qW ?_
 refine qW ?_
 refine qW ?_
 refine qD rfl (zU (v := .bool false) rfl rfl) (qe (zA ?_))
 refine xT rfl rfl (cQ (zX (yO (yK (w9a ?_)))))
 refine qM (vJ a) ?_
 refine qM (vJ zp) ?_
 refine qD rfl (yS [vJ 0, vJ 0] [vJ a, vJ zp] [(0, (vJ a), [vJ a]), (1, (vJ zp), [vJ zp])] dH zr27 rfl pl27 rfl (cN.2 ⟨rfl, (cN.2 ⟨rfl, (fun _ h => by cases h)⟩)⟩) rfl) (qI rfl (yI [vJ 0, vJ 0] zr27 rfl b.pins (fun bb b6 bc bd be al => ?_)))
 have am := b.step be al
 have an := zI (cgA some bc) g.lt
 have ao : w.heap.size ≤ bb := by have := b.size; omega
 refine q0 rfl rfl rfl (o_stp (cs' := [vJ a, vJ zp]) (us := [vJ a, vJ zp]) (v := .agg #[vJ a, vJ zp]) sz27 rfl rfl rfl (yQ (by rfl) (by rfl)) am.pins bd (cE rfl) rfl (fun b7 bf bg ap b8 => ?_))
 obtain ⟨b9, ca, aa, aq, bh⟩ := bf.shut (am.write bg ap ((zS ao))) ao
 refine qe (zA (w9b ?_))
 refine qD rfl (yA (cs := [vJ a, vJ zp]) ag27 sz27 rfl (fun j u hj => aa.pins _ _ _ (aq _ _ (by simpa using hj)))) (qI rfl (zL (vs := [.agg #[vJ a, vJ zp]]) Tryz.func34 nm34 rfl rfl rfl ?_))
 refine cD (qZ (t := a) (z := zp) aa.pins) ?_
 rintro _ cb ⟨cc, rfl, ab⟩
 refine rt9 ?_
 have m := aa.tr ab
 have ar := (((g.below al).keptA ap an.symm).moreA bh an.symm).ext ab
 refine qD rfl (xD rfl) (qe (zA ?_))
 refine xU rfl rfl (fun ac => ?_) (fun ac => ?_)
 refine cO (w9a ?_)
 refine qD rfl (yA (cs := [vJ a, vJ zp]) ag27 sz27 rfl (fun j u hj => (cC m.pins ab.le) _ _ _ (aq _ _ (by simpa using hj)))) (q0 rfl rfl rfl (o_stp (cs' := [vJ a, vJ zp]) (us := [vJ a, vJ zp]) (v := .agg #[vJ a, vJ zp]) sz27 rfl rfl rfl (yQ (by rfl) (by rfl)) m.pins ar (cE rfl) rfl (fun cd bi bj bk ce => ?_)))
 refine qM (.bool true) ?_
 refine qe (zA ?_)
 refine cP (zP (xF (cs := [vJ a, vJ zp]) (v := .bool true) rfl rfl rfl rfl rfl ag27 sz27 (fun j u hj => by rw [cS]; exact bi.cell hj) ?_))
 have hst := hr.trans (fB hz.1 (by first | exact cF i | exact cG i))
 have d : ((zp.toNat : Nat) : Int) = zp := Int.toNat_of_nonneg hz.1
 rw [hst]
 simp only [d]
 exact ⟨_, by rw [ac]; rfl, (m.write bj bk ((zS o)))⟩
 refine w9d ?_
 refine qD rfl (yS [vJ 0, vJ 0] [vJ 0, vJ 0] [] dH zr27 rfl pl27 rfl (fun _ h => by cases h) rfl) (q0 rfl rfl rfl (o_stp (cs' := [vJ 0, vJ 0]) (us := [vJ 0, vJ 0]) (v := .agg #[vJ 0, vJ 0]) sz27 rfl rfl rfl (yQ (by rfl) (by rfl)) m.pins ar (cE rfl) rfl (fun cf bl bm bn cg => ?_)))
 refine qM (.bool false) ?_
 refine qe (zA ?_)
 refine cP (zP (xF (cs := [vJ 0, vJ 0]) (v := .bool false) rfl rfl rfl rfl rfl ag27 sz27 (fun j u hj => by rw [cS]; exact bl.cell hj) ?_))
 have hst := hr.trans (fB hz.1 (by first | exact cF i | exact cG i))
 have d : ((zp.toNat : Nat) : Int) = zp := Int.toNat_of_nonneg hz.1
 rw [hst]
 simp only [d]
 exact ⟨_, by rw [ac]; rfl, (m.write bm bn ((zS o)))⟩
end NU2
namespace NU3
open B1 C1 D1 E1 K1 PO1 PL1 NU1
theorem pl27 : (Tryz.prog.underlying 27).bind (placesD Tryz.prog) = some [(0, 1), (1, 1)] := by kernel_rfl
theorem nV {w : World} {G : Pin} {t : Int} {p : Nat} (hP : Pins G w) (hb : -1000000000000000 ≤ t ∧ t ≤ 1000000000000000) (hp : p ≤ 64) :
  Calls Tryz.prog 113 #[vJ t, vJ (p : Int)] w fun e w' => ∃ G', e = .returned (.agg #[.int .i64 (lowD p t).1, .int .i64 (((lowD p t).2 : Nat) : Int)]) ∧ Ext noS G w G' w' := by
 refine zY (n := 19) Tryz.func113 Tryz.ntmps113 rfl rfl ?_
 have f := exr noS hP
 refine w9d ?_
 refine qI rfl (yI [vJ 0, vJ 0] zr27 rfl f.pins (fun g w2 ai r s x => ?_))
 have o : w.heap.size ≤ g := by have := f.size; omega
 refine qe (zA (zB ?_))
 refine zZ (yR (fun k en W => ∃ (q : Nat → Value) (a : Int) (zp : Int) (b : Pin), en = (upd (upd (upd q 0 (vJ a)) 1 (vJ zp)) 4 (vP g)) ∧ k = zp.toNat ∧ Ext noS G w b W ∧ Pin.le G b ∧ (lowD p t = lowD zp.toNat a) ∧ (0 ≤ zp ∧ zp ≤ 64) ∧ (-1000000000000000 ≤ a ∧ a ≤ 1000000000000000) ∧ (Bx b W g [vJ 0, vJ 0])) _ ⟨_, t, (p : Int), G, (pS 4 (pS 1 (pU 0))), rfl, (f.step s x), cJ _, (by rw [Int.toNat_natCast]), (by omega), hb, r⟩ ?_)
 rintro k9 _ ak ⟨q, a, zp, b, rfl, al, c, y, hr, hz, hab, i⟩
 refine w9b ?_
 refine qM (vJ zp) ?_
 refine qD rfl (jW rfl rfl) (qM (.bool (decide ((0 : Int) < zp))) ?_)
 refine qbd (p := (0 : Int) < zp) (t := 7) rfl (fun l => ?_) (fun l => ?_)
 refine qN (zN (v := vJ a) rfl) ?_
 refine qN (r_rem2 rfl rfl) ?_
 refine qN (xO rfl rfl) ?_
 refine qD rfl (yB (v := .bool (decide ((a.tmod 2 : Int) = 0))) rfl rfl) (qe (zA ?_))
 refine yC (p := (a.tmod 2 : Int) = 0) rfl rfl (fun d => ?_) (fun d => ?_)
 refine cO (zA (zZ (w9d ?_)))
 refine qM (vJ a) ?_
 refine qD rfl (r_quo2 rfl rfl ((nO _).1 d) (by omega)) (qM (vJ (a / 2)) ?_)
 refine qe (zA (zC ?_))
 refine qM (vJ zp) ?_
 refine qD rfl (xY rfl rfl (by omega)) (qM (vJ (zp - 1)) ?_)
 refine qe (zW (zV (⟨_, ?_, _, rfl, _, a / 2, zp - 1, b, (pS 4 (pS 1 (pU 0))), rfl, c, y, (hr.trans (low_even (by omega) d)), (by omega), (by omega), i⟩)))
 omega
 refine cQ (zX (yO (yK (w9a ?_))))
 refine qM (vJ a) ?_
 refine qM (vJ zp) ?_
 refine qD rfl (yS [vJ 0, vJ 0] [vJ a, vJ zp] [(0, (vJ a), [vJ a]), (1, (vJ zp), [vJ zp])] dH zr27 rfl pl27 rfl (cN.2 ⟨rfl, (cN.2 ⟨rfl, (fun _ h => by cases h)⟩)⟩) rfl) (q0 rfl rfl rfl (o_stp (cs' := [vJ a, vJ zp]) (us := [vJ a, vJ zp]) (v := .agg #[vJ a, vJ zp]) sz27 rfl rfl rfl (yQ (by rfl) (by rfl)) c.pins i (cE rfl) rfl (fun am z aa ab an => ?_)))
 have ac := c.write aa ab ((zS o))
 refine qe (zA ?_)
 refine cP (zP (jQ (cs := [vJ a, vJ zp]) rfl rfl rfl ag27 sz27 (fun j u hj => by rw [cS]; exact z.cell hj) ?_))
 have hst := hr.trans (fB hz.1 (by first | exact cF d | exact cG d))
 have m : ((zp.toNat : Nat) : Int) = zp := Int.toNat_of_nonneg hz.1
 exact ⟨_, by rw [hst]; simp only [m], ac⟩
 refine qW ?_
 refine qW ?_
 refine qW ?_
 refine qD rfl (zU (v := .bool false) rfl rfl) (qe (zA ?_))
 refine xT rfl rfl (cQ (zX (yO (yK (w9a ?_)))))
 refine qM (vJ a) ?_
 refine qM (vJ zp) ?_
 refine qD rfl (yS [vJ 0, vJ 0] [vJ a, vJ zp] [(0, (vJ a), [vJ a]), (1, (vJ zp), [vJ zp])] dH zr27 rfl pl27 rfl (cN.2 ⟨rfl, (cN.2 ⟨rfl, (fun _ h => by cases h)⟩)⟩) rfl) (q0 rfl rfl rfl (o_stp (cs' := [vJ a, vJ zp]) (us := [vJ a, vJ zp]) (v := .agg #[vJ a, vJ zp]) sz27 rfl rfl rfl (yQ (by rfl) (by rfl)) c.pins i (cE rfl) rfl (fun ao ad ae af ap => ?_)))
 have ag := c.write ae af ((zS o))
 refine qe (zA ?_)
 refine cP (zP (jQ (cs := [vJ a, vJ zp]) rfl rfl rfl ag27 sz27 (fun j u hj => by rw [cS]; exact ad.cell hj) ?_))
 have hst := hr.trans (fB hz.1 (by first | exact cF l | exact cG l))
 have m : ((zp.toNat : Nat) : Int) = zp := Int.toNat_of_nonneg hz.1
 exact ⟨_, by rw [hst]; simp only [m], ag⟩
end NU3
namespace NB4
open B1 C1 D1 E1 K1 PO1 PL1 NU1 NU2 NU3
theorem pl27 : (Tryz.prog.underlying 27).bind (placesD Tryz.prog) = some [(0, 1), (1, 1)] := by kernel_rfl
variable {G : Pin} {t z : Int}
theorem qQ {w : World} (hP : Pins G w) (ht : -10000000 ≤ t ∧ t ≤ 10000000) (hz : 0 ≤ z ∧ z ≤ 24) :
  Calls Tryz.prog 47 [.agg #[.int .i64 t, .int .i64 z]].toArray w fun e w' => ∃ G', e = .returned (.int .i64 (scI 24 t z)) ∧ Ext noS G w G' w' := by
 refine zY (n := 10) Tryz.func47 Tryz.ntmps47 rfl rfl ?_
 have a := exr noS hP
 have hsl := shl_lim (t := t) (k := (24 - z).toNat) ht (by omega)
 refine w9d ?_
 refine qI rfl (xH [.int .i64 t, .int .i64 z] (v := .agg #[.int .i64 t, .int .i64 z]) rfl rfl a.pins (fun d m o f g h => ?_))
 have i := a.step g h
 have l : w.heap.size ≤ d := by have := a.size; omega
 obtain ⟨p, q, b, c, r⟩ := f.shut i l
 refine qM (.int .i64 0) ?_
 refine qe (w9a ?_)
 refine qD rfl (zH (k := 0) rfl dH rfl nz3 rfl) (qD rfl (zJ (u := .int .i64 t) ag3 rfl (b.pins _ _ _ (c 0 _ rfl))) (qD rfl (zH (k := 1) rfl dH rfl nz3 rfl) (qD rfl (zJ (u := .int .i64 z) ag3 rfl (b.pins _ _ _ (c 1 _ rfl))) (qD rfl (xY rfl rfl (by omega)) (qD rfl (sO (j := 24 - z) dS Tryz.underlying109 rfl (nL (by omega))) (qD rfl (r_shlI rfl rfl (by omega) (by omega)) (qM (.int .i64 (t * 2 ^ (24 - z : Int).toNat)) ?_)))))))
 refine qe (zA ?_)
 exact cP (zP (zQ (v := .int .i64 (t * 2 ^ (24 - z : Int).toNat)) rfl rfl rfl (⟨_, rfl, b⟩)))
theorem jP {w : World} (hP : Pins G w) (ht : -1000000000000 ≤ t ∧ t ≤ 1000000000000) :
  Calls Tryz.prog 102 [.agg #[.int .i64 t, .int .i64 z]].toArray w fun e w' => ∃ G', e = .returned (.agg #[.int .i64 (-t), .int .i64 z]) ∧ Ext noS G w G' w' := by
 refine zY (n := 9) Tryz.func102 Tryz.ntmps102 rfl rfl ?_
 have b := exr noS hP
 refine w9d ?_
 refine qI rfl (xH [.int .i64 t, .int .i64 z] (v := .agg #[.int .i64 t, .int .i64 z]) rfl rfl b.pins (fun f w2 ae g i l => ?_))
 have m := b.step i l
 have o : w.heap.size ≤ f := by have := b.size; omega
 obtain ⟨G9, ag, c, d, ah⟩ := g.shut m o
 refine qI rfl (yI [.int .i64 0, .int .i64 0] zr27 rfl c.pins (fun p ai aj q r s => ?_))
 have a := c.step r s
 have x : w.heap.size ≤ p := by have := c.size; omega
 refine qe (w9a ?_)
 refine qD rfl (zH (k := 0) rfl dH rfl nz3 rfl) (qD rfl (zJ (u := .int .i64 t) ag3 rfl (a.pins _ _ _ (d 0 _ rfl))) (qD rfl (r_neg rfl (by omega)) (qD rfl (zH (k := 1) rfl dH rfl nz3 rfl) (qD rfl (zJ (u := .int .i64 z) ag3 rfl (a.pins _ _ _ (d 1 _ rfl))) (qD rfl (yS [.int .i64 0, .int .i64 0] [.int .i64 (-t), .int .i64 z] [(0, (.int .i64 (-t)), [.int .i64 (-t)]), (1, (.int .i64 z), [.int .i64 z])] dH zr27 rfl pl27 rfl (cN.2 ⟨rfl, (cN.2 ⟨rfl, (fun _ h => by cases h)⟩)⟩) rfl) (q0 rfl rfl rfl (o_stp (cs' := [.int .i64 (-t), .int .i64 z]) (us := [.int .i64 (-t), .int .i64 z]) (v := .agg #[.int .i64 (-t), .int .i64 z]) sz27 rfl rfl rfl (yQ (by rfl) (by rfl)) a.pins q (cE rfl) rfl (fun ak y aa ab al => ?_))))))))
 have ac := a.write aa ab ((zS x))
 refine qe (zA ?_)
 exact cP (zP (jQ (cs := [.int .i64 (-t), .int .i64 z]) rfl rfl rfl ag27 sz27 (fun j u hj => by rw [cS]; exact y.cell hj) (⟨_, rfl, ac⟩)))
theorem sY {w : World} {s y : Int} (hP : Pins G w) (ht : -10000000 ≤ t ∧ t ≤ 10000000) (hz : 0 ≤ z ∧ z ≤ 24) (hs : -10000000 ≤ s ∧ s ≤ 10000000) (hy : 0 ≤ y ∧ y ≤ 24) :
  Calls Tryz.prog 101 [.agg #[vJ t, vJ z], .agg #[vJ s, vJ y]].toArray w fun e w' => ∃ G', e = .returned (.agg #[.int .i64 (lowD 24 (scI 24 t z + scI 24 s y)).1, .int .i64 (((lowD 24 (scI 24 t z + scI 24 s y)).2 : Nat) : Int)]) ∧ Ext noS G w G' w' := by
 refine zY (n := 11) Tryz.func101 Tryz.ntmps101 rfl rfl ?_
 have f := exr noS hP
 have ay := vK (D := 24) (t := t) (z := z) ht (by omega)
 have az := vK (D := 24) (t := s) (z := y) hs (by omega)
 refine w9d ?_
 refine qI rfl (xH [vJ t, vJ z] (v := .agg #[vJ t, vJ z]) rfl rfl f.pins (fun b1 w2 a1 ab ac ad => ?_))
 have ae : w.heap.size ≤ b1 := by have := f.size; omega
 obtain ⟨G9, a3, g, af, a4⟩ := ab.shut (f.step ac ad) ae
 refine qI rfl (xH [vJ s, vJ y] (v := .agg #[vJ s, vJ y]) rfl rfl g.pins (fun ag a5 a6 ah ai aj => ?_))
 have ak : w.heap.size ≤ ag := by have := g.size; omega
 obtain ⟨al, am, k, an, a7⟩ := ah.shut (g.step ai aj) ak
 refine qI rfl (yI [vJ 0, vJ 0] zr27 rfl k.pins (fun ao l a8 ap aq ar => ?_))
 have x := k.step aq ar
 have au : w.heap.size ≤ ao := by have := k.size; omega
 refine qe (zA (zB ?_))
 refine yW (S := fun wz => Pins al wz) (last := 6) (by kernel_rfl) rfl ?_
 have m := bdr l
 have c := x.step (x.pins.below m) m
 refine dT (i := 0) rfl rfl (by kernel_rfl) (fun _ hS => yA (cs := [vJ t, vJ z]) ag27 sz27 rfl (fun j u hj => (cC hS am) _ _ _ (af _ _ (by simpa using hj)))) c.pins ?_
 refine dT (i := 2) rfl rfl (by kernel_rfl) (fun _ hS => yA (cs := [vJ s, vJ y]) ag27 sz27 rfl (fun j u hj => hS _ _ _ (an _ _ (by simpa using hj)))) c.pins ?_
 refine dP (i := 1) rfl rfl (zL (vs := [.agg #[vJ t, vJ z]]) Tryz.func47 nm47 rfl rfl rfl ?_)
 refine cD (qQ (t := t) (z := z) c.pins (by omega) (by omega)) ?_
 rintro _ a9 ⟨ba, rfl, a⟩
 refine rt9 ?_
 have o := c.tr a
 refine ⟨fun _ => (cC o.pins a.le), ?_⟩
 refine dP (i := 3) rfl rfl (zL (vs := [.agg #[vJ s, vJ y]]) Tryz.func47 nm47 rfl rfl rfl ?_)
 refine cD (qQ (t := s) (z := y) o.pins (by omega) (by omega)) ?_
 rintro _ bb ⟨bc, rfl, b⟩
 refine rt9 ?_
 have d := o.tr b
 refine ⟨fun _ => (cC d.pins (cB a.le b.le)), ?_⟩
 refine dT (i := 4) rfl rfl (by kernel_rfl) (fun _ _ => yH rfl rfl (by omega)) (cC d.pins (cB a.le b.le)) ?_
 refine dP (i := 5) rfl rfl (zL (vs := [vJ ((scI 24 t z) + (scI 24 s y)), vJ 24]) Tryz.func113 nm113 rfl rfl rfl ?_)
 refine cD (nV (p := 24) d.pins (by omega) (by omega)) ?_
 rintro _ bd ⟨be, rfl, q⟩
 refine rt9 ?_
 have r := d.tr q
 refine ⟨fun _ => (cC r.pins (cB (cB a.le b.le) q.le)), ?_⟩
 refine dO (i := 6) (xK (i := 6) rfl rfl rfl (zR rfl _) (o_stp (cs' := [vJ ((lowD 24 ((scI 24 t z) + (scI 24 s y))).1), vJ (((lowD 24 ((scI 24 t z) + (scI 24 s y))).2 : Nat) : Int)]) (us := [vJ ((lowD 24 ((scI 24 t z) + (scI 24 s y))).1), vJ (((lowD 24 ((scI 24 t z) + (scI 24 s y))).2 : Nat) : Int)]) (v := .agg #[vJ ((lowD 24 ((scI 24 t z) + (scI 24 s y))).1), vJ (((lowD 24 ((scI 24 t z) + (scI 24 s y))).2 : Nat) : Int)]) sz27 rfl rfl rfl (yQ (by rfl) (by rfl)) r.pins ((((ap.below m).ext a).ext b).ext q) (cE rfl) rfl (fun bf av aw ax bg => ?_)))
 refine ⟨fun h => absurd rfl h, ?_⟩
 exact yL (by kernel_rfl) (zA (cP (zP (jQ (cs := [vJ ((lowD 24 ((scI 24 t z) + (scI 24 s y))).1), vJ (((lowD 24 ((scI 24 t z) + (scI 24 s y))).2 : Nat) : Int)]) rfl rfl rfl ag27 sz27 (fun j u hj => by rw [cS]; exact av.cell hj) (⟨_, rfl, (r.write aw ax ((zS au)))⟩)))))
theorem l2Floor_spec {w : World} (hP : Pins G w) (ht : -10000000 ≤ t ∧ t ≤ 10000000) (hz : 0 ≤ z ∧ z ≤ 24) :
  Calls Tryz.prog 114 [.agg #[.int .i64 t, .int .i64 z]].toArray w fun e w' => ∃ G', e = .returned (.int .i64 (Int.fdiv (scI 24 t z) (2 ^ (min (24 : Int).toNat 64)))) ∧ Ext noS G w G' w' := by
 refine zY (n := 6) Tryz.func114 Tryz.ntmps114 rfl rfl ?_
 have a := exr noS hP
 refine w9d ?_
 refine qI rfl (xH [.int .i64 t, .int .i64 z] (v := .agg #[.int .i64 t, .int .i64 z]) rfl rfl a.pins (fun c o p d f g => ?_))
 have h := a.step f g
 have i : w.heap.size ≤ c := by have := a.size; omega
 obtain ⟨q, r, b, k, s⟩ := d.shut h i
 refine qM (.int .i64 0) ?_
 refine qe (w9a ?_)
 refine qD rfl (yA (cs := [.int .i64 t, .int .i64 z]) ag27 sz27 rfl (fun j u hj => b.pins _ _ _ (k _ _ (by simpa using hj)))) (qI rfl (zL (vs := [.agg #[.int .i64 t, .int .i64 z]]) Tryz.func47 nm47 rfl rfl rfl ?_))
 refine cD (qQ (t := t) (z := z) b.pins (by omega) (by omega)) ?_
 rintro _ x ⟨y, rfl, l⟩
 refine rt9 ?_
 have m := b.tr l
 refine qD rfl (r_shrI rfl rfl (by omega)) (qM (.int .i64 (Int.fdiv (scI 24 t z) (2 ^ (min (24 : Int).toNat 64)))) ?_)
 refine qe (zA ?_)
 exact cP (zP (zQ (v := .int .i64 (Int.fdiv (scI 24 t z) (2 ^ (min (24 : Int).toNat 64)))) rfl rfl rfl (⟨_, rfl, m⟩)))
theorem nW {w : World} (hP : Pins G w) :
  Calls Tryz.prog 33 [.agg #[vJ t, vJ z]].toArray w fun e w' => ∃ G', e = .returned (.bool (decP (GoodD t z))) ∧ Ext noS G w G' w' := by
 refine zY (n := 22) Tryz.func33 Tryz.ntmps33 rfl rfl ?_
 have c := exr noS hP
 refine w9d ?_
 refine qI rfl (xH [vJ t, vJ z] (v := .agg #[vJ t, vJ z]) rfl rfl c.pins (fun j y aa l m o => ?_))
 have q : w.heap.size ≤ j := by have := c.size; omega
 obtain ⟨G9, ac, a, b, ad⟩ := l.shut (c.step m o) q
 refine qM (.bool false) ?_
 refine qe (w9a ?_)
 refine qD rfl (zH (k := 0) rfl dH rfl nz3 rfl) (qD rfl (zJ (u := vJ t) ag3 rfl (a.pins _ _ _ (b 0 _ rfl))) (qI rfl (zL (vs := [vJ t, vJ (-1000000), vJ 1000000]) Tryz.func49 nm49 rfl rfl rfl ?_)))
 refine cD (fE a.pins) ?_
 rintro _ _ ⟨rfl, rfl⟩
 refine rt9 (qM (.bool (decide (((-1000000) : Int) ≤ t ∧ (t : Int) ≤ 1000000))) ?_)
 refine qbd (p := ((-1000000) : Int) ≤ t ∧ (t : Int) ≤ 1000000) (t := 6) rfl (fun r => ?_) (fun r => ?_)
 refine qN (zH (k := 1) rfl dH rfl nz3 rfl) ?_
 refine qN (zJ (u := vJ z) ag3 rfl (a.pins _ _ _ (b 1 _ rfl))) ?_
 refine q1g rfl rfl rfl rfl rfl rfl (zL (vs := [vJ z, vJ 0, vJ 16]) Tryz.func49 nm49 rfl rfl rfl ?_)
 refine cD (fE a.pins) ?_
 rintro _ _ ⟨rfl, rfl⟩
 refine rt9 (qD rfl (yB (v := .bool (decide ((0 : Int) ≤ z ∧ (z : Int) ≤ 16))) rfl rfl) (qM (.bool (decide ((0 : Int) ≤ z ∧ (z : Int) ≤ 16))) ?_))
 refine qbd (p := (0 : Int) ≤ z ∧ (z : Int) ≤ 16) (t := 11) rfl (fun s => ?_) (fun s => ?_)
 refine qN (zH (k := 1) rfl dH rfl nz3 rfl) ?_
 refine qN (zJ (u := vJ z) ag3 rfl (a.pins _ _ _ (b 1 _ rfl))) ?_
 refine qN (xO rfl rfl) ?_
 refine qN (zN (v := .bool (decide ((z : Int) = 0))) rfl) ?_
 refine qbd (p := (z : Int) = 0) (t := 15) rfl (fun x => ?_) (fun x => ?_)
 refine qW ?_
 refine qW ?_
 refine qW ?_
 refine qW ?_
 refine qN (yB (v := .bool true) rfl rfl) ?_
 refine qD rfl (yB (v := .bool true) rfl rfl) (qM (.bool true) ?_)
 refine qe (zA ?_)
 exact cP (zP (zQ (v := .bool true) rfl rfl rfl (⟨_, cgA eB (decP_true.2 ⟨by omega, by omega, by omega⟩).symm, a⟩)))
 refine qN (zH (k := 0) rfl dH rfl nz3 rfl) ?_
 refine qN (zJ (u := vJ t) ag3 rfl (a.pins _ _ _ (b 0 _ rfl))) ?_
 refine qN (r_rem2 rfl rfl) ?_
 refine qN (vV rfl rfl) ?_
 refine qN (zU (v := .bool (decide ((t.tmod 2 : Int) ≠ 0))) rfl rfl) ?_
 refine qD rfl (yB (v := .bool (decide ((t.tmod 2 : Int) ≠ 0))) rfl rfl) (qM (.bool (decide ((t.tmod 2 : Int) ≠ 0))) ?_)
 refine qe (zA ?_)
 exact cP (zP (zQ (v := .bool (decide ((t.tmod 2 : Int) ≠ 0))) rfl rfl rfl (⟨_, cgA eB (decP_dec.symm.trans (fI ⟨fun h => ⟨by omega, by omega, by omega⟩, fun g => by have d := g.top; have f := g.pow; have i := g.odd; omega⟩)), a⟩)))
 refine qW ?_
 refine qW ?_
 refine qW ?_
 refine qW ?_
 refine qX ?_
 refine qX ?_
 refine qX ?_
 refine qX ?_
 refine qW ?_
 refine qD rfl (zU (v := .bool false) rfl rfl) (qM (.bool false) ?_)
 refine qe (zA ?_)
 exact cP (zP (zQ (v := .bool false) rfl rfl rfl (⟨_, cgA eB (decP_false.2 (fun g => by have d := g.top; have f := g.pow; have i := g.odd; omega)).symm, a⟩)))
 refine qW ?_
 refine qW ?_
 refine qW ?_
 refine qD rfl (zU (v := .bool false) rfl rfl) (qM (.bool false) ?_)
 refine qW ?_
 refine qW ?_
 refine qW ?_
 refine qW ?_
 refine qX ?_
 refine qX ?_
 refine qX ?_
 refine qX ?_
 refine qW ?_
 refine qD rfl (zU (v := .bool false) rfl rfl) (qM (.bool false) ?_)
 refine qe (zA ?_)
 exact cP (zP (zQ (v := .bool false) rfl rfl rfl (⟨_, cgA eB (decP_false.2 (fun g => by have d := g.top; have f := g.pow; have i := g.odd; omega)).symm, a⟩)))
end NB4
namespace VA1
open B1 C1 D1 E1 K1 PO1 PL1 NU1 NU2
def IsnP (m : Nat) (p : Nat) (L R B : Value) (mm : PM) : Prop := ∀ {w : World} {G : Pin} {q : PSt} {a : Int} (_ : Pins G w) (_ : Pk 56 3 G w p L R B mm q) (_ : PoolOk q) (_ : PlaceOk q a) (_ : CanonG (pd q a)), a.toNat < m →
  Calls Tryz.prog 76 #[.pointer (some ⟨p, 0, none⟩), .int .i64 a] w fun e w' => ∃ (q' : PSt) (G' : Pin), e = .returned (.bool (decP (NumD (pd q a)))) ∧ Pk 56 3 G' w' p L R B mm q' ∧ PoolOk q' ∧ PX q q' ∧ (q'.ns = q.ns ∧ q'.bs = q.bs) ∧ Ext (inO (some mm.o)) G w G' w'
variable {p : Nat} {L R B : Value} {mm : PM} {G : Pin} {q : PSt} {a : Int}
theorem eV {m : Nat} {w : World} (hP : Pins G w) (hpk : Pk 56 3 G w p L R B mm q) (hok : PoolOk q) (ha : PlaceOk q a) (hc : CanonG (pd q a)) (ih : IsnP m p L R B mm) (hm : a.toNat < m + 1) :
  Calls Tryz.prog 76 #[vP p, vJ a] w fun e w' => ∃ (q' : PSt) (G' : Pin), e = .returned (.bool (decP (NumD (pd q a)))) ∧ Pk 56 3 G' w' p L R B mm q' ∧ PoolOk q' ∧ PX q q' ∧ (q'.ns = q.ns ∧ q'.bs = q.bs) ∧ Ext (inO (some mm.o)) G w G' w' := by
 refine zY (n := 74) Tryz.func76 Tryz.ntmps76 rfl rfl ?_
 have a1 := exr (inO (some mm.o)) hP
 have hpin : PIn w (inP p L R B mm) p L R B mm := PIn.self
 have cc := pkl q
 have cd := pkb hok
 have ce := ha.1
 have cf := ha.2
 have cg := hok.ar.ok.lens (a).toNat (by omega)
 have hopl := (xB hok.ar.opts (show (a).toNat < q.ns.length by omega)).1
 have hopr := (xB hok.ar.opts (show (a).toNat < q.ns.length by omega)).2
 have hnp := sT hok ha hc
 refine w9d ?_
 refine qM (.bool false) ?_
 refine qe (zA (zB ?_))
 refine yW (S := fun wz => BxR wz p [L, R, B, .map (some mm.f), .map (some mm.o), .map (some mm.c), .map (some mm.s), .map (some mm.n)] ∧ Pins (Gadd G w L) wz ∧ Pins (Gadd G w R) wz) (last := 16) (by kernel_rfl) rfl ?_
 have au := bdr w
 have bj := a1.pins.below au
 have a7 := a1.step bj au
 have h := hpk.below au bj
 have ac := (cM a1.pins L).below au
 have ad := (cM a1.pins R).below au
 refine dT (i := 0) rfl rfl (by kernel_rfl) (fun _ _ => zN (v := vP p) rfl) ⟨h.bx.reads, ac, ad⟩ ?_
 refine dT (i := 1) rfl rfl (by kernel_rfl) (fun _ _ => yY rfl) ⟨h.bx.reads, ac, ad⟩ ?_
 refine dT (i := 2) rfl rfl (by kernel_rfl) (fun _ _ => zH (k := 0) rfl dN rfl nz95 rfl) ⟨h.bx.reads, ac, ad⟩ ?_
 refine dT (i := 3) rfl rfl (by kernel_rfl) (fun _ hS => zJ (u := L) ag95 rfl (hS.1 0 _ rfl)) ⟨h.bx.reads, ac, ad⟩ ?_
 refine dT (i := 4) rfl rfl (by kernel_rfl) (fun _ _ => zN (v := vJ a) rfl) ⟨h.bx.reads, ac, ad⟩ ?_
 refine dT (i := 5) rfl rfl (by kernel_rfl) (fun _ _ => zF dV sz56 (v := L) rfl rfl hpk.ol.read (by omega) (by omega)) ⟨h.bx.reads, ac, ad⟩ ?_
 obtain ⟨af, ai, b0⟩ := kP (hpk.ol.at (z := a) (by omega) (by omega)) (j := (a).toNat) rfl
 rw [vF] at ai
 have ch := ai.max
 refine dT (i := 6) rfl rfl (by kernel_rfl) (fun _ hS => b0 ag56 rfl hS.2.1) ⟨h.bx.reads, ac, ad⟩ ?_
 refine dT (i := 7) rfl rfl (by kernel_rfl) (fun _ _ => zN (v := vP p) rfl) ⟨h.bx.reads, ac, ad⟩ ?_
 refine dT (i := 8) rfl rfl (by kernel_rfl) (fun _ _ => yY rfl) ⟨h.bx.reads, ac, ad⟩ ?_
 refine dT (i := 9) rfl rfl (by kernel_rfl) (fun _ _ => zH (k := 1) rfl dN rfl nz95 rfl) ⟨h.bx.reads, ac, ad⟩ ?_
 refine dT (i := 10) rfl rfl (by kernel_rfl) (fun _ hS => zJ (u := R) ag95 rfl (hS.1 1 _ rfl)) ⟨h.bx.reads, ac, ad⟩ ?_
 refine dT (i := 11) rfl rfl (by kernel_rfl) (fun _ _ => zN (v := vJ a) rfl) ⟨h.bx.reads, ac, ad⟩ ?_
 refine dT (i := 12) rfl rfl (by kernel_rfl) (fun _ _ => zF dV sz56 (v := R) rfl rfl hpk.rr.read (by omega) (by omega)) ⟨h.bx.reads, ac, ad⟩ ?_
 obtain ⟨ag, aj, b1⟩ := kP (hpk.rr.at (z := a) (by omega) (by omega)) (j := (a).toNat) rfl
 rw [vE] at aj
 have ci := aj.max
 refine dT (i := 13) rfl rfl (by kernel_rfl) (fun _ hS => b1 ag56 rfl hS.2.2) ⟨h.bx.reads, ac, ad⟩ ?_
 refine dT (i := 14) rfl rfl (by kernel_rfl) (fun _ _ => qF (v := af) rfl) ⟨h.bx.reads, ac, ad⟩ ?_
 refine dT (i := 15) rfl rfl (by kernel_rfl) (fun _ _ => qF (v := ag) rfl) ⟨h.bx.reads, ac, ad⟩ ?_
 refine yL (by kernel_rfl) (zA (w9b ?_))
 refine qM af ?_
 refine qD rfl (zM dE (v := af) rfl ai) (qD rfl (jW rfl rfl) (qM (.bool (decide ((1 : Int) < (((q.ns.getD (a).toNat default).l).length : Int)))) ?_))
 refine qbd (p := (1 : Int) < (((q.ns.getD (a).toNat default).l).length : Int)) (t := 28) rfl (fun b2 => ?_) (fun b2 => ?_)
 refine qW ?_
 refine qW ?_
 refine qW ?_
 refine qD rfl (yB (v := .bool true) rfl rfl) (qe (zA ?_))
 refine qK rfl rfl (w9d ?_)
 refine qM (.bool false) ?_
 refine qe (zA ?_)
 exact cP (zP (zQ (v := .bool false) rfl rfl rfl (⟨q, _, cgA eB ((decP_false.2 (fun g => by have h5 := (hnp.1 g).1; omega)).symm), h, hok, (PX.refl _), ⟨rfl, rfl⟩, a7⟩)))
 refine qN (zN (v := ag) rfl) ?_
 refine qN (zM dE (v := ag) rfl aj) ?_
 refine qN (jW rfl rfl) ?_
 refine qD rfl (zU (v := .bool (decide ((1 : Int) < (((q.ns.getD (a).toNat default).r).length : Int)))) rfl rfl) (qe (zA ?_))
 refine yC (p := (1 : Int) < (((q.ns.getD (a).toNat default).r).length : Int)) rfl rfl (fun b3 => ?_) (fun b3 => ?_)
 refine w9d ?_
 refine qM (.bool false) ?_
 refine qe (zA ?_)
 exact cP (zP (zQ (v := .bool false) rfl rfl rfl (⟨q, _, cgA eB ((decP_false.2 (fun g => by have h5 := (hnp.1 g).1; omega)).symm), h, hok, (PX.refl _), ⟨rfl, rfl⟩, a7⟩)))
 refine cO (zA (w9b ?_))
 refine qM af ?_
 refine qD rfl (zM dE (v := af) rfl ai) (qM (vJ 0) ?_)
 refine qe (zA ?_)
 refine zZ (yR (fun k en W => ∃ (av : Nat → Value) (j : Nat) (aa : PSt) (ao : Pin), en = (upd (upd (upd (upd (upd (upd av 0 (vP p)) 5 af) 6 ag) 33 af) 34 (vJ (((q.ns.getD (a).toNat default).l).length : Int))) 35 (vJ (j : Int))) ∧ k = (q.ns.getD (a).toNat default).l.length - j ∧ Ext (inO (some mm.o)) G w ao W ∧ Pin.le G ao ∧ (j ≤ (q.ns.getD (a).toNat default).l.length) ∧ (∀ x, x < j → NumD (pd q ((q.ns.getD (a).toNat default).l.getD x 0))) ∧ (Pk 56 3 ao W p L R B mm aa) ∧ (PoolOk aa) ∧ (PX q aa) ∧ (aa.ns = q.ns ∧ aa.bs = q.bs)) _ ⟨_, 0, q, G, (pS 35 (pS 34 (pS 33 (pS 6 (pS 5 (pU 0)))))), rfl, a7, cJ _, cI _, (fun x hx => absurd hx (cK x)), h, hok, (PX.refl _), ⟨rfl, rfl⟩⟩ ?_)
 rintro cj _ ck ⟨av, j, aa, ao, rfl, cl, a2, aw, hjj, hpj, bk, a3, an, ab⟩
 have cm := an.len
 have cn := pkl aa
 have co := pkb a3
 refine w9d ?_
 refine qD rfl (yU rfl rfl) (qe (zA (zB ?_)))
 refine yC (p := ((j : Int) : Int) < (((q.ns.getD (a).toNat default).l).length : Int)) rfl rfl (fun b4 => ?_) (fun b4 => ?_)
 refine cO (zA (zB ?_))
 refine zZ (w9d ?_)
 refine qD rfl (zF dE sz3 (v := af) rfl rfl ai (by omega) (by omega)) (qD rfl (zG (r := ((q.ns.getD (a).toNat default).l).getD j 0) rfl ag3 (z := (j : Int)) rfl ai (cC a2.pins aw) (by omega) (by omega)) (qM (vJ (((q.ns.getD (a).toNat default).l).getD j 0)) ?_))
 refine qe (w9a ?_)
 refine qM (vP p) ?_
 refine qM (vJ (((q.ns.getD (a).toNat default).l).getD j 0)) ?_
 have bl : (q.ns.getD (a).toNat default).l.getD j 0 ∈ (q.ns.getD (a).toNat default).l := yE (show j < (q.ns.getD (a).toNat default).l.length by omega)
 have cp := hopl _ bl
 refine qI rfl (zL (vs := [vP p, vJ (((q.ns.getD (a).toNat default).l).getD j 0)]) Tryz.func76 nm76 rfl rfl rfl ?_)
 refine cD (ih a2.pins bk a3 ⟨by omega, by rw [ab.1]; omega⟩ (by rw [xM ab]; exact hc.left ((gR hok ha).2 ⟨_, bl, rfl⟩)) (by omega)) ?_
 rintro _ cq ⟨ak, b5, rfl, bm, a4, a8, a9, bn⟩
 refine rt9 ?_
 have bo := a2.trans bn (fun i hi => xN i hi)
 have cr := a8.len
 have cs := pkl ak
 have ct := pkb a4
 have cu := cgA List.length a9.1
 refine qD rfl (xD rfl) (qe (zA ?_))
 refine xU rfl rfl (fun ba => ?_) (fun ba => ?_)
 refine cO (w9c ?_)
 refine qD rfl (yH rfl rfl (by omega)) (qM (vJ ((j : Int) + 1)) ?_)
 refine qe (zV (⟨_, ?_, _, rfl, _, j + 1, ak, b5, (pS 35 (pS 34 (pS 33 (pS 6 (pS 5 (pU 0)))))), rfl, bo, (cB aw bn.le), (by omega), (fun x h2 => if h3 : x = j then h3 ▸ (by have h5 := decP_true.1 ba; rwa [xM ab] at h5) else hpj x (by omega)), bm, a4, (cL an a8), (zO ab a9)⟩))
 omega
 refine w9d ?_
 refine qM (.bool false) ?_
 refine qe (zA ?_)
 exact cP (zP (zQ (v := .bool false) rfl rfl rfl (⟨ak, _, cgA eB ((decP_false.2 (fun g => by have h5 := decP_false.1 ba; rw [xM ab] at h5; exact h5 ((hnp.1 g).2.1 j (by omega)))).symm), bm, a4, (cL an a8), (zO ab a9), bo⟩)))
 refine cQ (zX (yO (yK (zA (w9b ?_)))))
 refine qM ag ?_
 refine qD rfl (zM dE (v := ag) rfl aj) (qM (vJ 0) ?_)
 refine qe (zA ?_)
 refine zZ (yR (fun k en W => ∃ (av : Nat → Value) (i : Nat) (y : PSt) (ax : Pin), en = (upd (upd (upd (upd (upd (upd av 0 (vP p)) 5 af) 6 ag) 44 ag) 45 (vJ (((q.ns.getD (a).toNat default).r).length : Int))) 46 (vJ (i : Int))) ∧ k = (q.ns.getD (a).toNat default).r.length - i ∧ Ext (inO (some mm.o)) G w ax W ∧ Pin.le ao ax ∧ (i ≤ (q.ns.getD (a).toNat default).r.length) ∧ (∀ x, x < i → NumD (pd q ((q.ns.getD (a).toNat default).r.getD x 0))) ∧ (Pk 56 3 ax W p L R B mm y) ∧ (PoolOk y) ∧ (PX aa y) ∧ (y.ns = aa.ns ∧ y.bs = aa.bs)) _ ⟨_, 0, aa, ao, (pS 46 (pS 45 (pS 44 (pS 6 (pS 5 (pU 0)))))), rfl, a2, cJ _, cI _, (fun x hx => absurd hx (cK x)), bk, a3, (PX.refl _), ⟨rfl, rfl⟩⟩ ?_)
 rintro cv _ bc ⟨av, i, y, ax, rfl, cw, ay, a5, hji, hpi, bp, ap, aq, ah⟩
 have cx := aq.len
 have cy := pkl y
 have cz := pkb ap
 refine w9d ?_
 refine qD rfl (yU rfl rfl) (qe (zA (zB ?_)))
 refine yC (p := ((i : Int) : Int) < (((q.ns.getD (a).toNat default).r).length : Int)) rfl rfl (fun b6 => ?_) (fun b6 => ?_)
 refine cO (zA (zB ?_))
 refine zZ (w9d ?_)
 refine qD rfl (zF dE sz3 (v := ag) rfl rfl aj (by omega) (by omega)) (qD rfl (zG (r := ((q.ns.getD (a).toNat default).r).getD i 0) rfl ag3 (z := (i : Int)) rfl aj (cC ay.pins (cB aw a5)) (by omega) (by omega)) (qM (vJ (((q.ns.getD (a).toNat default).r).getD i 0)) ?_))
 refine qe (w9a ?_)
 refine qM (vP p) ?_
 refine qM (vJ (((q.ns.getD (a).toNat default).r).getD i 0)) ?_
 have bq : (q.ns.getD (a).toNat default).r.getD i 0 ∈ (q.ns.getD (a).toNat default).r := yE (show i < (q.ns.getD (a).toNat default).r.length by omega)
 have c0 := hopr _ bq
 refine qI rfl (zL (vs := [vP p, vJ (((q.ns.getD (a).toNat default).r).getD i 0)]) Tryz.func76 nm76 rfl rfl rfl ?_)
 refine cD (ih ay.pins bp ap ⟨by omega, by rw [(zO ab ah).1]; omega⟩ (by rw [xM (zO ab ah)]; exact hc.right ((gM hok ha).2 ⟨_, bq, rfl⟩)) (by omega)) ?_
 rintro _ c1 ⟨al, b7, rfl, br, a6, bd, be, bt⟩
 refine rt9 ?_
 have bu := ay.trans bt (fun i hi => xN i hi)
 have c2 := bd.len
 have c3 := pkl al
 have c4 := pkb a6
 have c5 := cgA List.length be.1
 refine qD rfl (xD rfl) (qe (zA ?_))
 refine xU rfl rfl (fun bf => ?_) (fun bf => ?_)
 refine cO (w9c ?_)
 refine qD rfl (yH rfl rfl (by omega)) (qM (vJ ((i : Int) + 1)) ?_)
 refine qe (zV (⟨_, ?_, _, rfl, _, i + 1, al, b7, (pS 46 (pS 45 (pS 44 (pS 6 (pS 5 (pU 0)))))), rfl, bu, (cB a5 bt.le), (by omega), (fun x h2 => if h3 : x = i then h3 ▸ (by have h5 := decP_true.1 bf; rwa [xM (zO ab ah)] at h5) else hpi x (by omega)), br, a6, (cL aq bd), (zO ah be)⟩))
 omega
 refine w9d ?_
 refine qM (.bool false) ?_
 refine qe (zA ?_)
 exact cP (zP (zQ (v := .bool false) rfl rfl rfl (⟨al, _, cgA eB ((decP_false.2 (fun g => by have h5 := decP_false.1 bf; rw [xM (zO ab ah)] at h5; exact h5 ((hnp.1 g).2.2.1 i (by omega)))).symm), br, a6, (cL (cL an aq) bd), (zO (zO ab ah) be), bu⟩)))
 refine cQ (zX (yO (yK (zA (zB ?_)))))
 refine yW (S := fun wz => Pins ax wz) (last := 20) (by kernel_rfl) rfl ?_
 have bg := bdr bc
 have bv := ay.pins.below bg
 have d := ay.step bv bg
 have bh := bp.below bg bv
 refine dM 0 af d.pins ?_
 refine dT (i := 1) rfl rfl (by kernel_rfl) (fun _ _ => zM dE (v := af) rfl ai) d.pins ?_
 refine dT (i := 2) rfl rfl (by kernel_rfl) (fun _ _ => xO rfl rfl) d.pins ?_
 refine dM 3 (.bool (decide (((((q.ns.getD (a).toNat default).l).length : Int) : Int) = 0))) d.pins ?_
 refine drbd (p := ((((q.ns.getD (a).toNat default).l).length : Int) : Int) = 0) (t := 58) rfl (fun b8 => ?_) (fun b8 => ?_)
 refine yF (i := 4) rfl rfl (yJ rfl rfl rfl rfl rfl) (by kernel_rfl) d.pins (yF (i := 5) rfl rfl (yJ rfl rfl rfl rfl rfl) (by kernel_rfl) d.pins (yF (i := 6) rfl rfl (yJ rfl rfl rfl rfl rfl) (by kernel_rfl) d.pins (dT (i := 7) rfl rfl (by kernel_rfl) (fun _ _ => yB (v := .bool true) rfl rfl) d.pins ?_)))
 refine dM 8 (.bool true) d.pins ?_
 refine yF (i := 9) rfl rfl (yJ rfl rfl rfl rfl rfl) (by kernel_rfl) d.pins (yF (i := 10) rfl rfl (yJ rfl rfl rfl rfl rfl) (by kernel_rfl) d.pins (yF (i := 11) rfl rfl (yJ rfl rfl rfl rfl rfl) (by kernel_rfl) d.pins (yF (i := 12) rfl rfl (yJ rfl rfl rfl rfl rfl) (by kernel_rfl) d.pins (yF (i := 13) rfl rfl (yJ rfl rfl rfl rfl rfl) (by kernel_rfl) d.pins (yF (i := 14) rfl rfl (yJ rfl rfl rfl rfl rfl) (by kernel_rfl) d.pins (yF (i := 15) rfl rfl (yJ rfl rfl rfl rfl rfl) (by kernel_rfl) d.pins (yF (i := 16) rfl rfl (yJ rfl rfl rfl rfl rfl) (by kernel_rfl) d.pins (yF (i := 17) rfl rfl (yJ rfl rfl rfl rfl rfl) (by kernel_rfl) d.pins (dT (i := 18) rfl rfl (by kernel_rfl) (fun _ _ => yB (v := .bool true) rfl rfl) d.pins ?_)))))))))
 refine dM 19 (.bool true) d.pins ?_
 exact yL (by kernel_rfl) (zA (cP (zP (zQ (v := .bool true) rfl rfl rfl (⟨y, _, cgA eB ((decP_true.2 (hnp.2 ⟨⟨by omega, by omega⟩, fun x hx => hpj x (by omega), fun x hx => hpi x (by omega), (fun h1 h2 => by omega)⟩)).symm), bh, ap, (cL an aq), (zO ab ah), d⟩)))))
 refine yP (i := 4) rfl rfl rfl (yG rfl rfl rfl rfl) (by kernel_rfl) (fun _ _ => zN (v := ag) rfl) d.pins (yP (i := 5) rfl rfl rfl (yG rfl rfl rfl rfl) (by kernel_rfl) (fun _ _ => zM dE (v := ag) rfl aj) d.pins (yP (i := 6) rfl rfl rfl (yG rfl rfl rfl rfl) (by kernel_rfl) (fun _ _ => xO rfl rfl) d.pins (dT (i := 7) rfl rfl (by kernel_rfl) (fun _ _ => zU (v := .bool (decide (((((q.ns.getD (a).toNat default).r).length : Int) : Int) = 0))) rfl rfl) d.pins ?_)))
 refine dM 8 (.bool (decide (((((q.ns.getD (a).toNat default).r).length : Int) : Int) = 0))) d.pins ?_
 refine drbd (p := ((((q.ns.getD (a).toNat default).r).length : Int) : Int) = 0) (t := 63) rfl (fun ca => ?_) (fun ca => ?_)
 refine yF (i := 9) rfl rfl (yJ rfl rfl rfl rfl rfl) (by kernel_rfl) d.pins (yF (i := 10) rfl rfl (yJ rfl rfl rfl rfl rfl) (by kernel_rfl) d.pins (yF (i := 11) rfl rfl (yJ rfl rfl rfl rfl rfl) (by kernel_rfl) d.pins (yF (i := 12) rfl rfl (yJ rfl rfl rfl rfl rfl) (by kernel_rfl) d.pins (yF (i := 13) rfl rfl (yJ rfl rfl rfl rfl rfl) (by kernel_rfl) d.pins (yF (i := 14) rfl rfl (yJ rfl rfl rfl rfl rfl) (by kernel_rfl) d.pins (yF (i := 15) rfl rfl (yJ rfl rfl rfl rfl rfl) (by kernel_rfl) d.pins (yF (i := 16) rfl rfl (yJ rfl rfl rfl rfl rfl) (by kernel_rfl) d.pins (yF (i := 17) rfl rfl (yJ rfl rfl rfl rfl rfl) (by kernel_rfl) d.pins (dT (i := 18) rfl rfl (by kernel_rfl) (fun _ _ => yB (v := .bool true) rfl rfl) d.pins ?_)))))))))
 refine dM 19 (.bool true) d.pins ?_
 exact yL (by kernel_rfl) (zA (cP (zP (zQ (v := .bool true) rfl rfl rfl (⟨y, _, cgA eB ((decP_true.2 (hnp.2 ⟨⟨by omega, by omega⟩, fun x hx => hpj x (by omega), fun x hx => hpi x (by omega), (fun h1 h2 => by omega)⟩)).symm), bh, ap, (cL an aq), (zO ab ah), d⟩)))))
 refine yP (i := 9) rfl rfl rfl (yG rfl rfl rfl rfl) (by kernel_rfl) (fun _ _ => zN (v := vP p) rfl) d.pins (yP (i := 10) rfl rfl rfl (yG rfl rfl rfl rfl) (by kernel_rfl) (fun _ _ => zN (v := af) rfl) d.pins (yP (i := 11) rfl rfl rfl (yG rfl rfl rfl rfl) (by kernel_rfl) (fun _ _ => zF dE sz3 (v := af) rfl rfl ai (by omega) (by omega)) d.pins (yP (i := 12) rfl rfl rfl (yG rfl rfl rfl rfl) (by kernel_rfl) (fun _ hS => zG (r := ((q.ns.getD (a).toNat default).l).getD 0 0) rfl ag3 (z := 0) rfl ai (cC hS (cB aw a5)) (by omega) (by omega)) d.pins (yP (i := 13) rfl rfl rfl (yG rfl rfl rfl rfl) (by kernel_rfl) (fun _ _ => zN (v := ag) rfl) d.pins (yP (i := 14) rfl rfl rfl (yG rfl rfl rfl rfl) (by kernel_rfl) (fun _ _ => zF dE sz3 (v := ag) rfl rfl aj (by omega) (by omega)) d.pins (yP (i := 15) rfl rfl rfl (yG rfl rfl rfl rfl) (by kernel_rfl) (fun _ hS => zG (r := ((q.ns.getD (a).toNat default).r).getD 0 0) rfl ag3 (z := 0) rfl aj (cC hS (cB aw a5)) (by omega) (by omega)) d.pins ?_))))))
 have hm0l : (q.ns.getD (a).toNat default).l.getD 0 0 ∈ (q.ns.getD (a).toNat default).l := yE (by omega)
 have hm0r : (q.ns.getD (a).toNat default).r.getD 0 0 ∈ (q.ns.getD (a).toNat default).r := yE (by omega)
 have hb0l := hopl _ hm0l
 have hb0r := hopr _ hm0r
 refine dO (i := 16) (eL (i := 16) rfl rfl rfl (yG rfl rfl rfl rfl) (zL (vs := [vP p, vJ (((q.ns.getD (a).toNat default).l).getD 0 0), vJ (((q.ns.getD (a).toNat default).r).getD 0 0)]) Tryz.func97 nm97 rfl rfl rfl ?_))
 refine cD (tJ d.pins bh ap ⟨by omega, by rw [(zO ab ah).1]; omega⟩ ⟨by omega, by rw [(zO ab ah).1]; omega⟩) ?_
 rintro _ c6 ⟨am, c7, rfl, cb, bi, bw, bz, az⟩
 refine rt9 ?_
 have a0 := d.trans az (fun i hi => xN i hi)
 have c8 := bw.len
 have c9 := pkl am
 have da := pkb bi
 have db := cgA List.length bz.1
 refine ⟨fun _ => (cC a0.pins az.le), ?_⟩
 refine yP (i := 17) rfl rfl rfl (yG rfl rfl rfl rfl) (by kernel_rfl) (fun _ _ => xD rfl) (cC a0.pins az.le) (dT (i := 18) rfl rfl (by kernel_rfl) (fun _ _ => zU (v := .bool (!(geB y.ns (((q.ns.getD (a).toNat default).l).getD 0 0) (((q.ns.getD (a).toNat default).r).getD 0 0)))) rfl rfl) (cC a0.pins az.le) ?_)
 refine dM 19 (.bool (!(geB y.ns (((q.ns.getD (a).toNat default).l).getD 0 0) (((q.ns.getD (a).toNat default).r).getD 0 0)))) (cC a0.pins az.le) ?_
 refine yL (by kernel_rfl) (zA (cP (zP (zQ (v := .bool (!(geB y.ns (((q.ns.getD (a).toNat default).l).getD 0 0) (((q.ns.getD (a).toNat default).r).getD 0 0)))) rfl rfl rfl ?_))))
 exact ⟨am, _, cgA eB ((by
   have hgq := xW (a := (q.ns.getD (a).toNat default).l.getD 0 0) (b := (q.ns.getD (a).toNat default).r.getD 0 0) (zO ab ah)
   rw [hgq]
   cases hgv : geB q.ns ((q.ns.getD (a).toNat default).l.getD 0 0) ((q.ns.getD (a).toNat default).r.getD 0 0) with
   | true => exact (decP_false.2 (fun g => by have h5 := (hnp.1 g).2.2.2 (by omega) (by omega); rw [hgv] at h5; cases h5)).symm
   | false => exact (decP_true.2 (hnp.2 ⟨⟨by omega, by omega⟩, fun x hx => hpj x (by omega), fun x hx => hpi x (by omega), (fun _ _ => hgv)⟩)).symm)), cb, bi, (cL (cL an aq) bw), (zO (zO ab ah) bz), a0⟩
theorem isn_all {p : Nat} {L R B : Value} {mm : PM} : ∀ m, IsnP m p L R B mm
 | 0 => fun _ _ _ _ _ h => absurd h (cK _)
 | m + 1 => fun hP hpk hok ha hc hm => eV hP hpk hok ha hc (isn_all m) hm
theorem tV {w : World} (hP : Pins G w) (hpk : Pk 56 3 G w p L R B mm q) (hok : PoolOk q) (ha : PlaceOk q a) (hc : CanonG (pd q a)) :
  Calls Tryz.prog 76 #[.pointer (some ⟨p, 0, none⟩), .int .i64 a] w fun e w' => ∃ (q' : PSt) (G' : Pin), e = .returned (.bool (decP (NumD (pd q a)))) ∧ Pk 56 3 G' w' p L R B mm q' ∧ PoolOk q' ∧ PX q q' ∧ (q'.ns = q.ns ∧ q'.bs = q.bs) ∧ Ext (inO (some mm.o)) G w G' w' :=
 isn_all _ hP hpk hok ha hc (Nat.lt_succ_self _)
end VA1
namespace VA2
open B1 C1 D1 E1 K1 PO1 PL1 NU1 NU2
theorem pl27 : (Tryz.prog.underlying 27).bind (placesD Tryz.prog) = some [(0, 1), (1, 1)] := by kernel_rfl
variable {G : Pin} {t z : Int}
theorem jS {w : World} (hP : Pins G w) (ht : -10000000 ≤ t ∧ t ≤ 10000000) (hz : 0 ≤ z ∧ z ≤ 16) :
  Calls Tryz.prog 48 [.agg #[.int .i64 t, .int .i64 z]].toArray w fun e w' => ∃ G', e = .returned (.int .i64 (scI 16 t z)) ∧ Ext noS G w G' w' := by
 refine zY (n := 9) Tryz.func48 Tryz.ntmps48 rfl rfl ?_
 have a := exr noS hP
 have hsl := shl_lim (t := t) (k := (16 - z).toNat) ht (by omega)
 refine w9d ?_
 refine qI rfl (xH [.int .i64 t, .int .i64 z] (v := .agg #[.int .i64 t, .int .i64 z]) rfl rfl a.pins (fun d l m f g h => ?_))
 have i := a.step g h
 have j : w.heap.size ≤ d := by have := a.size; omega
 obtain ⟨o, p, b, c, q⟩ := f.shut i j
 refine qM (.int .i64 0) ?_
 refine qe (w9a ?_)
 refine qD rfl (zH (k := 0) rfl dH rfl nz3 rfl) (qD rfl (zJ (u := .int .i64 t) ag3 rfl (b.pins _ _ _ (c 0 _ rfl))) (qD rfl (zH (k := 1) rfl dH rfl nz3 rfl) (qD rfl (zJ (u := .int .i64 z) ag3 rfl (b.pins _ _ _ (c 1 _ rfl))) (qD rfl (xY rfl rfl (by omega)) (qD rfl (r_shlI rfl rfl (by omega) (by omega)) (qM (.int .i64 (t * 2 ^ (16 - z : Int).toNat)) ?_))))))
 refine qe (zA ?_)
 exact cP (zP (zQ (v := .int .i64 (t * 2 ^ (16 - z : Int).toNat)) rfl rfl rfl (⟨_, rfl, b⟩)))
theorem tE {w : World} {s y : Int} (hP : Pins G w) (hg1 : GoodD t z) (hg2 : GoodD s y) :
  Calls Tryz.prog 91 [.agg #[vJ t, vJ z], .agg #[vJ s, vJ y]].toArray w fun e w' => ∃ G', e = .returned (.tuple #[.agg #[.int .i64 (lowR (decP (GoodD (lowD 16 (scI 16 t z + scI 16 s y)).1 (((lowD 16 (scI 16 t z + scI 16 s y)).2 : Nat) : Int))) (lowD 16 (scI 16 t z + scI 16 s y)).1), .int .i64 (lowR (decP (GoodD (lowD 16 (scI 16 t z + scI 16 s y)).1 (((lowD 16 (scI 16 t z + scI 16 s y)).2 : Nat) : Int))) (((lowD 16 (scI 16 t z + scI 16 s y)).2 : Nat) : Int))], .bool (decP (GoodD (lowD 16 (scI 16 t z + scI 16 s y)).1 (((lowD 16 (scI 16 t z + scI 16 s y)).2 : Nat) : Int)))]) ∧ Ext noS G w G' w' := by
 refine zY (n := 23) Tryz.func91 Tryz.ntmps91 rfl rfl ?_
 have o := exr noS hP
 have h1t := hg1.top
 have h1p := hg1.pow
 have h2t := hg2.top
 have h2p := hg2.pow
 have ba := vK (D := 16) (t := t) (z := z) (by omega) (by omega)
 have bb := vK (D := 16) (t := s) (z := y) (by omega) (by omega)
 refine w9d ?_
 refine qI rfl (xH [vJ t, vJ z] (v := .agg #[vJ t, vJ z]) rfl rfl o.pins (fun b1 w2 bd ao ap aq => ?_))
 have ar : w.heap.size ≤ b1 := by have := o.size; omega
 obtain ⟨G9, bf, q, ag, bg⟩ := ao.shut (o.step ap aq) ar
 refine qI rfl (xH [vJ s, vJ y] (v := .agg #[vJ s, vJ y]) rfl rfl q.pins (fun au bh bi av aw ax => ?_))
 have ay : w.heap.size ≤ au := by have := q.size; omega
 obtain ⟨bj, ah, r, ai, bk⟩ := av.shut (q.step aw ax) ay
 refine qI rfl (yI [vJ 0, vJ 0] zr27 rfl r.pins (fun az bl bm a0 a1 a2 => ?_))
 have x := r.step a1 a2
 have a3 : w.heap.size ≤ az := by have := r.size; omega
 refine qM (.bool false) ?_
 refine qe (zA (w9b ?_))
 refine qD rfl (yA (cs := [vJ t, vJ z]) ag27 sz27 rfl (fun j u hj => (cC x.pins ah) _ _ _ (ag _ _ (by simpa using hj)))) (qI rfl (zL (vs := [.agg #[vJ t, vJ z]]) Tryz.func34 nm34 rfl rfl rfl ?_))
 refine cD (qZ (t := t) (z := z) x.pins) ?_
 rintro _ bn ⟨bo, rfl, d⟩
 refine rt9 ?_
 have g := x.tr d
 have aj := a0.ext d
 refine qD rfl (xD rfl) (qM (.bool (!(decP (GoodD t z)))) ?_)
 refine qbn (t := 9) rfl (fun ak => ?_) (fun ak => ?_)
 refine qN (yA (cs := [vJ s, vJ y]) ag27 sz27 rfl (fun j u hj => (cC g.pins d.le) _ _ _ (ai _ _ (by simpa using hj)))) ?_
 refine q1g rfl rfl rfl rfl rfl rfl (zL (vs := [.agg #[vJ s, vJ y]]) Tryz.func34 nm34 rfl rfl rfl ?_)
 refine cD (qZ (t := s) (z := y) g.pins) ?_
 rintro _ aa ⟨a4, rfl, k⟩
 refine rt9 ?_
 have ab := g.tr k
 have al := aj.ext k
 refine qN (xD rfl) ?_
 refine qD rfl (zU (v := .bool (!(decP (GoodD s y)))) rfl rfl) (qe (zA ?_))
 refine xU rfl rfl (fun am => ?_) (fun am => ?_)
 refine cO (zA (zB ?_))
 refine yW (S := fun wz => Pins a4 wz) (last := 10) (by kernel_rfl) rfl ?_
 have ac := bdr aa
 have l := ab.step (ab.pins.below ac) ac
 refine dT (i := 0) rfl rfl (by kernel_rfl) (fun _ hS => yA (cs := [vJ t, vJ z]) ag27 sz27 rfl (fun j u hj => (cC hS (cB (cB ah d.le) k.le)) _ _ _ (ag _ _ (by simpa using hj)))) l.pins ?_
 refine dT (i := 2) rfl rfl (by kernel_rfl) (fun _ hS => yA (cs := [vJ s, vJ y]) ag27 sz27 rfl (fun j u hj => (cC hS (cB d.le k.le)) _ _ _ (ai _ _ (by simpa using hj)))) l.pins ?_
 refine dP (i := 1) rfl rfl (zL (vs := [.agg #[vJ t, vJ z]]) Tryz.func48 nm48 rfl rfl rfl ?_)
 refine cD (jS (t := t) (z := z) l.pins (by omega) (by omega)) ?_
 rintro _ bp ⟨bq, rfl, a⟩
 refine rt9 ?_
 have ad := l.tr a
 refine ⟨fun _ => (cC ad.pins a.le), ?_⟩
 refine dP (i := 3) rfl rfl (zL (vs := [.agg #[vJ s, vJ y]]) Tryz.func48 nm48 rfl rfl rfl ?_)
 refine cD (jS (t := s) (z := y) ad.pins (by omega) (by omega)) ?_
 rintro _ br ⟨bs, rfl, b⟩
 refine rt9 ?_
 have m := ad.tr b
 refine ⟨fun _ => (cC m.pins (cB a.le b.le)), ?_⟩
 refine dT (i := 4) rfl rfl (by kernel_rfl) (fun _ _ => yH rfl rfl (by omega)) (cC m.pins (cB a.le b.le)) ?_
 refine dP (i := 5) rfl rfl (zL (vs := [vJ ((scI 16 t z) + (scI 16 s y)), vJ 16]) Tryz.func92 nm92 rfl rfl rfl ?_)
 refine cD (nS (t := (scI 16 t z) + (scI 16 s y)) (p := 16) m.pins (by omega) (by omega)) ?_
 rintro _ bt ⟨bu, rfl, c⟩
 refine rt9 ?_
 have f := m.tr c
 refine ⟨fun _ => (cC f.pins (cB (cB a.le b.le) c.le)), ?_⟩
 refine dT (i := 6) rfl rfl (by kernel_rfl) (fun _ _ => yM (v := .agg #[vJ (lowR (decP (GoodD (lowD 16 ((scI 16 t z) + (scI 16 s y))).1 (((lowD 16 ((scI 16 t z) + (scI 16 s y))).2 : Nat) : Int))) (lowD 16 ((scI 16 t z) + (scI 16 s y))).1), vJ (lowR (decP (GoodD (lowD 16 ((scI 16 t z) + (scI 16 s y))).1 (((lowD 16 ((scI 16 t z) + (scI 16 s y))).2 : Nat) : Int))) (((lowD 16 ((scI 16 t z) + (scI 16 s y))).2 : Nat) : Int))]) rfl rfl) (cC f.pins (cB (cB a.le b.le) c.le)) ?_
 refine dT (i := 7) rfl rfl (by kernel_rfl) (fun _ _ => yM (v := .bool (decP (GoodD (lowD 16 ((scI 16 t z) + (scI 16 s y))).1 (((lowD 16 ((scI 16 t z) + (scI 16 s y))).2 : Nat) : Int)))) rfl rfl) (cC f.pins (cB (cB a.le b.le) c.le)) ?_
 refine dO (i := 8) (xK (i := 8) rfl rfl rfl (zR rfl _) (o_stp (cs' := [vJ (lowR (decP (GoodD (lowD 16 ((scI 16 t z) + (scI 16 s y))).1 (((lowD 16 ((scI 16 t z) + (scI 16 s y))).2 : Nat) : Int))) (lowD 16 ((scI 16 t z) + (scI 16 s y))).1), vJ (lowR (decP (GoodD (lowD 16 ((scI 16 t z) + (scI 16 s y))).1 (((lowD 16 ((scI 16 t z) + (scI 16 s y))).2 : Nat) : Int))) (((lowD 16 ((scI 16 t z) + (scI 16 s y))).2 : Nat) : Int))]) (us := [vJ (lowR (decP (GoodD (lowD 16 ((scI 16 t z) + (scI 16 s y))).1 (((lowD 16 ((scI 16 t z) + (scI 16 s y))).2 : Nat) : Int))) (lowD 16 ((scI 16 t z) + (scI 16 s y))).1), vJ (lowR (decP (GoodD (lowD 16 ((scI 16 t z) + (scI 16 s y))).1 (((lowD 16 ((scI 16 t z) + (scI 16 s y))).2 : Nat) : Int))) (((lowD 16 ((scI 16 t z) + (scI 16 s y))).2 : Nat) : Int))]) (v := .agg #[vJ (lowR (decP (GoodD (lowD 16 ((scI 16 t z) + (scI 16 s y))).1 (((lowD 16 ((scI 16 t z) + (scI 16 s y))).2 : Nat) : Int))) (lowD 16 ((scI 16 t z) + (scI 16 s y))).1), vJ (lowR (decP (GoodD (lowD 16 ((scI 16 t z) + (scI 16 s y))).1 (((lowD 16 ((scI 16 t z) + (scI 16 s y))).2 : Nat) : Int))) (((lowD 16 ((scI 16 t z) + (scI 16 s y))).2 : Nat) : Int))]) sz27 rfl rfl rfl (yQ (by rfl) (by rfl)) f.pins ((((al.below ac).ext a).ext b).ext c) (cE rfl) rfl (fun bv a5 a6 a7 bw => ?_)))
 have ae := f.write a6 a7 ((zS a3))
 refine ⟨fun _ => (cC ae.pins (cB (cB a.le b.le) c.le)), ?_⟩
 refine dM 9 (.bool (decP (GoodD (lowD 16 ((scI 16 t z) + (scI 16 s y))).1 (((lowD 16 ((scI 16 t z) + (scI 16 s y))).2 : Nat) : Int)))) (cC ae.pins (cB (cB a.le b.le) c.le)) ?_
 exact yL (by kernel_rfl) (zA (cP (zP (xF (cs := [vJ (lowR (decP (GoodD (lowD 16 ((scI 16 t z) + (scI 16 s y))).1 (((lowD 16 ((scI 16 t z) + (scI 16 s y))).2 : Nat) : Int))) (lowD 16 ((scI 16 t z) + (scI 16 s y))).1), vJ (lowR (decP (GoodD (lowD 16 ((scI 16 t z) + (scI 16 s y))).1 (((lowD 16 ((scI 16 t z) + (scI 16 s y))).2 : Nat) : Int))) (((lowD 16 ((scI 16 t z) + (scI 16 s y))).2 : Nat) : Int))]) (v := .bool (decP (GoodD (lowD 16 ((scI 16 t z) + (scI 16 s y))).1 (((lowD 16 ((scI 16 t z) + (scI 16 s y))).2 : Nat) : Int)))) rfl rfl rfl rfl rfl ag27 sz27 (fun j u hj => by rw [cS]; exact a5.cell hj) (⟨_, rfl, ae⟩)))))
 refine w9d ?_
 refine qD rfl (yS [vJ 0, vJ 0] [vJ 0, vJ 0] [] dH zr27 rfl pl27 rfl (fun _ h => by cases h) rfl) (q0 rfl rfl rfl (o_stp (cs' := [vJ 0, vJ 0]) (us := [vJ 0, vJ 0]) (v := .agg #[vJ 0, vJ 0]) sz27 rfl rfl rfl (yQ (by rfl) (by rfl)) ab.pins al (cE rfl) rfl (fun bx a8 bz b0 b2 => ?_)))
 refine qM (.bool false) ?_
 refine qe (zA ?_)
 refine cP (zP (xF (cs := [vJ 0, vJ 0]) (v := .bool false) rfl rfl rfl rfl rfl ag27 sz27 (fun j u hj => by rw [cS]; exact a8.cell hj) ?_))
 exfalso
 have h5 := decP_false.1 am
 exact h5 hg2
 refine qW ?_
 refine qW ?_
 refine qW ?_
 refine qD rfl (yB (v := .bool true) rfl rfl) (qe (zA ?_))
 refine qK rfl rfl (w9d ?_)
 refine qD rfl (yS [vJ 0, vJ 0] [vJ 0, vJ 0] [] dH zr27 rfl pl27 rfl (fun _ h => by cases h) rfl) (q0 rfl rfl rfl (o_stp (cs' := [vJ 0, vJ 0]) (us := [vJ 0, vJ 0]) (v := .agg #[vJ 0, vJ 0]) sz27 rfl rfl rfl (yQ (by rfl) (by rfl)) g.pins aj (cE rfl) rfl (fun b3 a9 b4 b5 b6 => ?_)))
 refine qM (.bool false) ?_
 refine qe (zA ?_)
 refine cP (zP (xF (cs := [vJ 0, vJ 0]) (v := .bool false) rfl rfl rfl rfl rfl ag27 sz27 (fun j u hj => by rw [cS]; exact a9.cell hj) ?_))
 exfalso
 have h5 := decP_false.1 ak
 exact h5 hg1
end VA2
namespace VA3
open B1 C1 D1 E1 K1 PO1 PL1 NU1 NU2 VA1 VA2
theorem pl27 : (Tryz.prog.underlying 27).bind (placesD Tryz.prog) = some [(0, 1), (1, 1)] := by kernel_rfl
def ValP (m : Nat) (p : Nat) (L R B : Value) (mm : PM) : Prop := ∀ {w : World} {G : Pin} {q : PSt} {a : Int} (_ : Pins G w) (_ : Pk 56 3 G w p L R B mm q) (_ : PoolOk q) (_ : PlaceOk q a) (_ : CanonG (pd q a)), a.toNat < m →
  Calls Tryz.prog 66 #[.pointer (some ⟨p, 0, none⟩), .int .i64 a] w fun e w' => ∃ (q' : PSt) (G' : Pin), e = .returned (.tuple #[.agg #[.int .i64 (vgT (pd q a)), .int .i64 (vgP (pd q a))], .bool (vgB (pd q a))]) ∧ Pk 56 3 G' w' p L R B mm q' ∧ PoolOk q' ∧ PX q q' ∧ (q'.ns = q.ns ∧ q'.bs = q.bs) ∧ Ext (inO (some mm.o)) G w G' w'
variable {p : Nat} {L R B : Value} {mm : PM} {G : Pin} {q : PSt} {a : Int}
theorem valueOf_step {m : Nat} {w : World} (hP : Pins G w) (hpk : Pk 56 3 G w p L R B mm q) (hok : PoolOk q) (ha : PlaceOk q a) (hc : CanonG (pd q a)) (ih : ValP m p L R B mm) (hm : a.toNat < m + 1) :
  Calls Tryz.prog 66 #[vP p, vJ a] w fun e w' => ∃ (q' : PSt) (G' : Pin), e = .returned (.tuple #[.agg #[.int .i64 (vgT (pd q a)), .int .i64 (vgP (pd q a))], .bool (vgB (pd q a))]) ∧ Pk 56 3 G' w' p L R B mm q' ∧ PoolOk q' ∧ PX q q' ∧ (q'.ns = q.ns ∧ q'.bs = q.bs) ∧ Ext (inO (some mm.o)) G w G' w' := by
 refine zY (n := 116) Tryz.func66 Tryz.ntmps66 rfl rfl ?_
 have cq := exr (inO (some mm.o)) hP
 have hpin : PIn w (inP p L R B mm) p L R B mm := PIn.self
 have hu := pkl q
 have hv := pkb hok
 have hw := ha.1
 have hx := ha.2
 have dx := hok.ar.ok.lens (a).toNat (by omega)
 have hopl := (xB hok.ar.opts (show (a).toNat < q.ns.length by omega)).1
 have hopr := (xB hok.ar.opts (show (a).toNat < q.ns.length by omega)).2
 have hnp := sT hok ha hc
 have hsl := pd_l hok ha
 have hsr := pd_r hok ha
 have hslr := pd_lr hok ha
 have hsnn := pd_nn hok ha
 obtain ⟨xs, hxs⟩ : ∃ l, l = (q.ns.getD (a).toNat default).l := ⟨_, rfl⟩
 obtain ⟨ys, hys⟩ : ∃ l, l = (q.ns.getD (a).toNat default).r := ⟨_, rfl⟩
 rw [← hxs] at dx hopl hnp hsl hsr hslr hsnn
 rw [← hys] at dx hopr hnp hsl hsr hslr hsnn
 refine w9d ?_
 refine qI rfl (yI [vJ 0, vJ 0] zr27 rfl cq.pins (fun b3 w4 gp gq dz d0 => ?_))
 have d1 := cq.step dz d0
 have am := hpk.new (x := some b3) (fun k hk => by rw [cgA some gp] at hk; cases hk; exact cH _)
 have a1 : w.heap.size ≤ b3 := by have := cq.size; omega
 refine qM (.bool false) ?_
 refine qe (zA (w9b ?_))
 refine qM (vP p) ?_
 refine qM (vJ a) ?_
 refine qI rfl (zL (vs := [vP p, vJ a]) Tryz.func76 nm76 rfl rfl rfl ?_)
 refine cD (tV d1.pins (hpk.below d0 dz) hok ha hc) ?_
 rintro _ bf ⟨g, d2, rfl, a9, a7, ay, d, d3⟩
 refine rt9 ?_
 have ba := d1.trans d3 (fun i hi => xN i hi)
 have d4 := gq.extS d3 (xX (NP.ho am))
 have hz := ay.len
 have h0 := pkl g
 have h1 := pkb a7
 have h2 := cgA List.length d.1
 refine qD rfl (xD rfl) (qe (zA ?_))
 refine xU rfl rfl (fun cr => ?_) (fun cr => ?_)
 refine cO (zA (zB ?_))
 have hnd : NumD (pd q a) := decP_true.1 cr
 have hni := hnp.1 hnd
 have h3 := hni.1
 have hnll : (g.ns.getD (a).toNat default).l.length = xs.length := by rw [d.1, hxs]
 have hnlr : (g.ns.getD (a).toNat default).r.length = ys.length := by rw [d.1, hys]
 refine yW (S := fun wz => BxR wz p [L, R, B, .map (some mm.f), .map (some mm.o), .map (some mm.c), .map (some mm.s), .map (some mm.n)] ∧ Pins (Gadd d2 bf L) wz ∧ Pins (Gadd d2 bf R) wz) (last := 16) (by kernel_rfl) rfl ?_
 have bb := bdr bf
 have d5 := ba.pins.below bb
 have an := ba.step d5 bb
 have bz := d4.below bb
 have aa := a9.below bb d5
 have ak := (cM ba.pins L).below bb
 have al := (cM ba.pins R).below bb
 refine dT (i := 0) rfl rfl (by kernel_rfl) (fun _ _ => zN (v := vP p) rfl) ⟨aa.bx.reads, ak, al⟩ ?_
 refine dT (i := 1) rfl rfl (by kernel_rfl) (fun _ _ => yY rfl) ⟨aa.bx.reads, ak, al⟩ ?_
 refine dT (i := 2) rfl rfl (by kernel_rfl) (fun _ _ => zH (k := 0) rfl dN rfl nz95 rfl) ⟨aa.bx.reads, ak, al⟩ ?_
 refine dT (i := 3) rfl rfl (by kernel_rfl) (fun _ hS => zJ (u := L) ag95 rfl (hS.1 0 _ rfl)) ⟨aa.bx.reads, ak, al⟩ ?_
 refine dT (i := 4) rfl rfl (by kernel_rfl) (fun _ _ => zN (v := vJ a) rfl) ⟨aa.bx.reads, ak, al⟩ ?_
 refine dT (i := 5) rfl rfl (by kernel_rfl) (fun _ _ => zF dV sz56 (v := L) rfl rfl a9.ol.read (by omega) (by omega)) ⟨aa.bx.reads, ak, al⟩ ?_
 obtain ⟨ao, ct, gr⟩ := kP (a9.ol.at (z := a) (by omega) (by omega)) (j := (a).toNat) rfl
 rw [vF] at ct
 have h4 := ct.max
 refine dT (i := 6) rfl rfl (by kernel_rfl) (fun _ hS => gr ag56 rfl hS.2.1) ⟨aa.bx.reads, ak, al⟩ ?_
 refine dT (i := 7) rfl rfl (by kernel_rfl) (fun _ _ => zN (v := vP p) rfl) ⟨aa.bx.reads, ak, al⟩ ?_
 refine dT (i := 8) rfl rfl (by kernel_rfl) (fun _ _ => yY rfl) ⟨aa.bx.reads, ak, al⟩ ?_
 refine dT (i := 9) rfl rfl (by kernel_rfl) (fun _ _ => zH (k := 1) rfl dN rfl nz95 rfl) ⟨aa.bx.reads, ak, al⟩ ?_
 refine dT (i := 10) rfl rfl (by kernel_rfl) (fun _ hS => zJ (u := R) ag95 rfl (hS.1 1 _ rfl)) ⟨aa.bx.reads, ak, al⟩ ?_
 refine dT (i := 11) rfl rfl (by kernel_rfl) (fun _ _ => zN (v := vJ a) rfl) ⟨aa.bx.reads, ak, al⟩ ?_
 refine dT (i := 12) rfl rfl (by kernel_rfl) (fun _ _ => zF dV sz56 (v := R) rfl rfl a9.rr.read (by omega) (by omega)) ⟨aa.bx.reads, ak, al⟩ ?_
 obtain ⟨ap, cu, gs⟩ := kP (a9.rr.at (z := a) (by omega) (by omega)) (j := (a).toNat) rfl
 rw [vE] at cu
 have h5 := cu.max
 refine dT (i := 13) rfl rfl (by kernel_rfl) (fun _ hS => gs ag56 rfl hS.2.2) ⟨aa.bx.reads, ak, al⟩ ?_
 refine dT (i := 14) rfl rfl (by kernel_rfl) (fun _ _ => qF (v := ao) rfl) ⟨aa.bx.reads, ak, al⟩ ?_
 refine dT (i := 15) rfl rfl (by kernel_rfl) (fun _ _ => qF (v := ap) rfl) ⟨aa.bx.reads, ak, al⟩ ?_
 refine yL (by kernel_rfl) (zA (zB ?_))
 refine zZ (w9d ?_)
 have a4 := ct
 rw [d.1, ← hxs] at a4
 have a5 := cu
 rw [d.1, ← hys] at a5
 refine qM ao ?_
 refine qD rfl (zM dE (v := ao) rfl a4) (qD rfl (xO rfl rfl) (qM (.bool (decide (((xs.length : Int) : Int) = 0))) ?_))
 refine qbd (p := ((xs.length : Int) : Int) = 0) (t := 39) rfl (fun cv => ?_) (fun cv => ?_)
 refine qN (zN (v := ap) rfl) ?_
 refine qN (zM dE (v := ap) rfl a5) ?_
 refine qN (xO rfl rfl) ?_
 refine qD rfl (yB (v := .bool (decide (((ys.length : Int) : Int) = 0))) rfl rfl) (qM (.bool (decide (((ys.length : Int) : Int) = 0))) ?_)
 refine qe (zA ?_)
 refine yC (p := ((ys.length : Int) : Int) = 0) rfl rfl (fun d6 => ?_) (fun d6 => ?_)
 refine w9d ?_
 refine qD rfl (yS [vJ 0, vJ 0] [vJ 0, vJ 0] [] dH zr27 rfl pl27 rfl (fun _ h => by cases h) rfl) (q0 rfl rfl rfl (o_stp (cs' := [vJ 0, vJ 0]) (us := [vJ 0, vJ 0]) (v := .agg #[vJ 0, vJ 0]) sz27 rfl rfl rfl (yQ (by rfl) (by rfl)) an.pins bz (cE rfl) rfl (fun h6 gt d7 d8 h7 => ?_)))
 refine qM (.bool true) ?_
 refine qe (zA ?_)
 refine cP (zP (xF (cs := [vJ 0, vJ 0]) (v := .bool true) rfl rfl rfl rfl rfl ag27 sz27 (fun j u hj => by rw [cS]; exact gt.cell hj) ?_))
 obtain ⟨e3, e1, e2⟩ := v_nil
 rw [hsnn (by omega) (by omega), e1, e2, e3]
 exact ⟨g, _, rfl, (aa.kept d8 d7 am), a7, ay, d, (an.write d7 d8 ((zS a1)))⟩
 refine w9d ?_
 refine qM ap ?_
 refine qD rfl (zM dE (v := ap) rfl a5) (qD rfl (xO rfl rfl) (qM (.bool (decide (((ys.length : Int) : Int) = 0))) ?_))
 refine qe (zA ?_)
 refine yC (p := ((ys.length : Int) : Int) = 0) rfl rfl (fun h => absurd h d6) (fun _ => ?_)
 refine w9d ?_
 refine qM ao ?_
 refine qD rfl (zM dE (v := ao) rfl a4) (qD rfl (xO rfl rfl) (qM (.bool (decide (((xs.length : Int) : Int) = 0))) ?_))
 refine qe (zA ?_)
 refine yC (p := ((xs.length : Int) : Int) = 0) rfl rfl (fun _ => ?_) (fun h => absurd cv h)
 refine w9d ?_
 refine qM (vP p) ?_
 refine qM ap ?_
 refine qD rfl (zF dE sz3 (v := ap) rfl rfl a5 (by omega) (by omega)) (qD rfl (zG (r := ys.getD 0 0) rfl ag3 (z := 0) rfl a5 an.pins (by omega) (by omega)) ?_)
 have d9 : ys.getD 0 0 ∈ ys := yE (show 0 < ys.length by omega)
 have h8 := hopr _ d9
 refine qI rfl (zL (vs := [vP p, vJ (ys.getD 0 0)]) Tryz.func66 nm66 rfl rfl rfl ?_)
 refine cD (ih an.pins aa a7 ⟨by omega, by rw [d.1]; omega⟩ (by rw [xM d]; exact hc.right ((gM hok ha).2 ⟨_, hys ▸ d9, rfl⟩)) (by omega)) ?_
 rintro _ h9 ⟨a2, ia, b0, ea, b1, cw, cx, eb⟩
 obtain ⟨ag, b2⟩ : ∃ x : Int, x = vgT (pd g (ys.getD 0 0)) := ⟨_, rfl⟩
 rw [← b2] at b0
 obtain ⟨ah, b4⟩ : ∃ x : Int, x = vgP (pd g (ys.getD 0 0)) := ⟨_, rfl⟩
 rw [← b4] at b0
 obtain ⟨bg, bh⟩ : ∃ x : Bool, x = vgB (pd g (ys.getD 0 0)) := ⟨_, rfl⟩
 rw [← bh] at b0
 subst b0
 refine ⟨_, rfl, ?_⟩
 have cy := an.trans eb (fun i hi => xN i hi)
 have ec := bz.extS eb (xX (NP.ho am))
 have ib := cw.len
 have ic := pkl a2
 have ie := pkb b1
 have ig := cgA List.length cx.1
 have cz : pd g (ys.getD 0 0) = pd q (ys.getD 0 0) := xM d
 rw [cz] at b2
 rw [cz] at b4
 rw [cz] at bh
 have gv : bg = true → GoodD ag ah := fun h => by rw [b2, b4]; exact vW (by rw [← bh]; exact h)
 refine qM (.tuple #[.agg #[vJ ag, vJ ah], .bool bg]) ?_
 refine qD rfl (yM (v := .agg #[vJ ag, vJ ah]) rfl rfl) (qD rfl (yM (v := .bool bg) rfl rfl) (qI rfl (yI [vJ 0, vJ 0] zr27 rfl cy.pins (fun ed ii ee gw ef c0 => ?_))))
 have eg := cy.step ef c0
 have eh := zI (cgA some ee) ec.lt
 have ei := ea.new (x := some ed) (fun k hk => by rw [cgA some ee] at hk; cases hk; exact cH _)
 have ej : w.heap.size ≤ ed := by have := cy.size; omega
 refine q0 rfl rfl rfl (o_stp (cs' := [vJ ag, vJ ah]) (us := [vJ ag, vJ ah]) (v := .agg #[vJ ag, vJ ah]) sz27 rfl rfl rfl (yQ (by rfl) (by rfl)) eg.pins gw (cE rfl) rfl (fun ij gx ek c1 ik => ?_))
 obtain ⟨il, gy, bi, gz, el⟩ := gx.shut (eg.write ek c1 ((zS ej))) ej
 have em := ((ec.below c0).keptA c1 eh.symm).moreA el eh.symm
 have en := ((ea.below c0 ef).kept c1 ek ei).more gy el ei
 refine qM (.bool bg) ?_
 refine qe (zA (w9b ?_))
 refine qM (.bool bg) ?_
 refine qD rfl (xD rfl) (qe (zA ?_))
 refine xU rfl rfl (fun b5 => ?_) (fun b5 => ?_)
 refine cO (w9a ?_)
 refine qD rfl (yA (cs := [vJ ag, vJ ah]) ag27 sz27 rfl (fun j u hj => bi.pins _ _ _ (gz _ _ (by simpa using hj)))) (qD rfl (yS [vJ 0, vJ 0] [vJ (-1), vJ 0] [(0, (vJ (-1)), [vJ (-1)]), (1, (vJ 0), [vJ 0])] dH zr27 rfl pl27 rfl (cN.2 ⟨rfl, (cN.2 ⟨rfl, (fun _ h => by cases h)⟩)⟩) rfl) (qI rfl (zL (vs := [.agg #[vJ ag, vJ ah], .agg #[vJ (-1), vJ 0]]) Tryz.func91 nm91 rfl rfl rfl ?_)))
 refine cD (tE (t := ag) (z := ah) (s := -1) (y := 0) bi.pins (gv b5) ⟨by decide, by decide, cF rfl⟩) ?_
 rintro _ im ⟨io, b6, c2⟩
 obtain ⟨bj, eo⟩ : ∃ x : Int, x = (lowR (decP (GoodD (lowD 16 (scI 16 ag ah + scI 16 (-1) 0)).1 (((lowD 16 (scI 16 ag ah + scI 16 (-1) 0)).2 : Nat) : Int))) (((lowD 16 (scI 16 ag ah + scI 16 (-1) 0)).2 : Nat) : Int)) := ⟨_, rfl⟩
 rw [← eo] at b6
 obtain ⟨bk, ep⟩ : ∃ x : Int, x = (lowR (decP (GoodD (lowD 16 (scI 16 ag ah + scI 16 (-1) 0)).1 (((lowD 16 (scI 16 ag ah + scI 16 (-1) 0)).2 : Nat) : Int))) (lowD 16 (scI 16 ag ah + scI 16 (-1) 0)).1) := ⟨_, rfl⟩
 rw [← ep] at b6
 obtain ⟨c3, eq⟩ : ∃ x : Bool, x = decP (GoodD (lowD 16 (scI 16 ag ah + scI 16 (-1) 0)).1 (((lowD 16 (scI 16 ag ah + scI 16 (-1) 0)).2 : Nat) : Int)) := ⟨_, rfl⟩
 rw [← eq] at b6
 subst b6
 refine ⟨_, rfl, ?_⟩
 have er := bi.tr c2
 refine qD rfl (yM (v := .agg #[vJ bk, vJ bj]) rfl rfl) (qD rfl (yM (v := .bool c3) rfl rfl) (q0 rfl rfl rfl (o_stp (cs' := [vJ bk, vJ bj]) (us := [vJ bk, vJ bj]) (v := .agg #[vJ bk, vJ bj]) sz27 rfl rfl rfl (yQ (by rfl) (by rfl)) er.pins (em.ext c2) (cE rfl) rfl (fun ip g0 es et iq => ?_))))
 refine qM (.bool c3) ?_
 refine qe (zA ?_)
 refine cP (zP (xF (cs := [vJ bk, vJ bj]) (v := .bool c3) rfl rfl rfl rfl rfl ag27 sz27 (fun j u hj => by rw [cS]; exact g0.cell hj) ?_))
 have hsh := hsr (by omega) (by omega) (by omega)
 have ab := hnd
 rw [hsh] at ab
 have av := va_r (D := 16) ab (by rw [← bh]; exact b5)
 rw [hsh, av.t, av.p, av.b, ← b2, ← b4, ep, eo, eq]
 exact ⟨a2, _, rfl, ((en.ext c2).kept et es am), b1, (cL ay cw), (zO d cx), (er.write es et ((zS a1)))⟩
 refine w9d ?_
 refine qD rfl (yS [vJ 0, vJ 0] [vJ 0, vJ 0] [] dH zr27 rfl pl27 rfl (fun _ h => by cases h) rfl) (q0 rfl rfl rfl (o_stp (cs' := [vJ 0, vJ 0]) (us := [vJ 0, vJ 0]) (v := .agg #[vJ 0, vJ 0]) sz27 rfl rfl rfl (yQ (by rfl) (by rfl)) bi.pins em (cE rfl) rfl (fun ir g1 eu ev it => ?_)))
 refine qM (.bool false) ?_
 refine qe (zA ?_)
 refine cP (zP (xF (cs := [vJ 0, vJ 0]) (v := .bool false) rfl rfl rfl rfl rfl ag27 sz27 (fun j u hj => by rw [cS]; exact g1.cell hj) ?_))
 have hsh := hsr (by omega) (by omega) (by omega)
 have ab := hnd
 rw [hsh] at ab
 have hvb : vgB (pd q a) = false := (by rw [hsh]; exact vr_no ab (by rw [← bh]; exact b5))
 obtain ⟨e1, e2⟩ := kY hvb
 rw [hvb, e1, e2]
 exact ⟨a2, _, rfl, (en.kept ev eu am), b1, (cL ay cw), (zO d cx), (bi.write eu ev ((zS a1)))⟩
 refine qW ?_
 refine qW ?_
 refine qW ?_
 refine qD rfl (zU (v := .bool false) rfl rfl) (qM (.bool false) ?_)
 refine qe (zA ?_)
 refine xT rfl rfl (w9d ?_)
 refine qM ap ?_
 refine qD rfl (zM dE (v := ap) rfl a5) (qD rfl (xO rfl rfl) (qM (.bool (decide (((ys.length : Int) : Int) = 0))) ?_))
 refine qe (zA ?_)
 refine yC (p := ((ys.length : Int) : Int) = 0) rfl rfl (fun g2 => ?_) (fun g2 => ?_)
 refine w9d ?_
 refine qM (vP p) ?_
 refine qM ao ?_
 refine qD rfl (zF dE sz3 (v := ao) rfl rfl a4 (by omega) (by omega)) (qD rfl (zG (r := xs.getD 0 0) rfl ag3 (z := 0) rfl a4 an.pins (by omega) (by omega)) ?_)
 have ew : xs.getD 0 0 ∈ xs := yE (show 0 < xs.length by omega)
 have iu := hopl _ ew
 refine qI rfl (zL (vs := [vP p, vJ (xs.getD 0 0)]) Tryz.func66 nm66 rfl rfl rfl ?_)
 refine cD (ih an.pins aa a7 ⟨by omega, by rw [d.1]; omega⟩ (by rw [xM d]; exact hc.left ((gR hok ha).2 ⟨_, hxs ▸ ew, rfl⟩)) (by omega)) ?_
 rintro _ iv ⟨a3, iw, b7, ex, b8, c4, c5, ey⟩
 obtain ⟨ai, b9⟩ : ∃ x : Int, x = vgT (pd g (xs.getD 0 0)) := ⟨_, rfl⟩
 rw [← b9] at b7
 obtain ⟨aj, ca⟩ : ∃ x : Int, x = vgP (pd g (xs.getD 0 0)) := ⟨_, rfl⟩
 rw [← ca] at b7
 obtain ⟨bl, bm⟩ : ∃ x : Bool, x = vgB (pd g (xs.getD 0 0)) := ⟨_, rfl⟩
 rw [← bm] at b7
 subst b7
 refine ⟨_, rfl, ?_⟩
 have c6 := an.trans ey (fun i hi => xN i hi)
 have ez := bz.extS ey (xX (NP.ho am))
 have ix := c4.len
 have iy := pkl a3
 have iz := pkb b8
 have i0 := cgA List.length c5.1
 have c7 : pd g (xs.getD 0 0) = pd q (xs.getD 0 0) := xM d
 rw [c7] at b9
 rw [c7] at ca
 rw [c7] at bm
 have g3 : bl = true → GoodD ai aj := fun h => by rw [b9, ca]; exact vW (by rw [← bm]; exact h)
 refine qM (.tuple #[.agg #[vJ ai, vJ aj], .bool bl]) ?_
 refine qD rfl (yM (v := .agg #[vJ ai, vJ aj]) rfl rfl) (qD rfl (yM (v := .bool bl) rfl rfl) (qI rfl (yI [vJ 0, vJ 0] zr27 rfl c6.pins (fun e0 i1 e4 g4 e5 c8 => ?_))))
 have e6 := c6.step e5 c8
 have e7 := zI (cgA some e4) ez.lt
 have e8 := ex.new (x := some e0) (fun k hk => by rw [cgA some e4] at hk; cases hk; exact cH _)
 have e9 : w.heap.size ≤ e0 := by have := c6.size; omega
 refine q0 rfl rfl rfl (o_stp (cs' := [vJ ai, vJ aj]) (us := [vJ ai, vJ aj]) (v := .agg #[vJ ai, vJ aj]) sz27 rfl rfl rfl (yQ (by rfl) (by rfl)) e6.pins g4 (cE rfl) rfl (fun i2 g5 fa c9 i3 => ?_))
 obtain ⟨i4, g6, bn, g7, fb⟩ := g5.shut (e6.write fa c9 ((zS e9))) e9
 have fc := ((ez.below c8).keptA c9 e7.symm).moreA fb e7.symm
 have fd := ((ex.below c8 e5).kept c9 fa e8).more g6 fb e8
 refine qM (.bool bl) ?_
 refine qe (zA (w9b ?_))
 refine qM (.bool bl) ?_
 refine qD rfl (xD rfl) (qe (zA ?_))
 refine xU rfl rfl (fun cb => ?_) (fun cb => ?_)
 refine cO (w9a ?_)
 refine qD rfl (yA (cs := [vJ ai, vJ aj]) ag27 sz27 rfl (fun j u hj => bn.pins _ _ _ (g7 _ _ (by simpa using hj)))) (qD rfl (yS [vJ 0, vJ 0] [vJ 1, vJ 0] [(0, (vJ 1), [vJ 1]), (1, (vJ 0), [vJ 0])] dH zr27 rfl pl27 rfl (cN.2 ⟨rfl, (cN.2 ⟨rfl, (fun _ h => by cases h)⟩)⟩) rfl) (qI rfl (zL (vs := [.agg #[vJ ai, vJ aj], .agg #[vJ 1, vJ 0]]) Tryz.func91 nm91 rfl rfl rfl ?_)))
 refine cD (tE (t := ai) (z := aj) (s := 1) (y := 0) bn.pins (g3 cb) ⟨by decide, by decide, cF rfl⟩) ?_
 rintro _ i5 ⟨i6, cc, da⟩
 obtain ⟨bo, fe⟩ : ∃ x : Int, x = (lowR (decP (GoodD (lowD 16 (scI 16 ai aj + scI 16 1 0)).1 (((lowD 16 (scI 16 ai aj + scI 16 1 0)).2 : Nat) : Int))) (((lowD 16 (scI 16 ai aj + scI 16 1 0)).2 : Nat) : Int)) := ⟨_, rfl⟩
 rw [← fe] at cc
 obtain ⟨bp, ff⟩ : ∃ x : Int, x = (lowR (decP (GoodD (lowD 16 (scI 16 ai aj + scI 16 1 0)).1 (((lowD 16 (scI 16 ai aj + scI 16 1 0)).2 : Nat) : Int))) (lowD 16 (scI 16 ai aj + scI 16 1 0)).1) := ⟨_, rfl⟩
 rw [← ff] at cc
 obtain ⟨db, fg⟩ : ∃ x : Bool, x = decP (GoodD (lowD 16 (scI 16 ai aj + scI 16 1 0)).1 (((lowD 16 (scI 16 ai aj + scI 16 1 0)).2 : Nat) : Int)) := ⟨_, rfl⟩
 rw [← fg] at cc
 subst cc
 refine ⟨_, rfl, ?_⟩
 have fh := bn.tr da
 refine qD rfl (yM (v := .agg #[vJ bp, vJ bo]) rfl rfl) (qD rfl (yM (v := .bool db) rfl rfl) (q0 rfl rfl rfl (o_stp (cs' := [vJ bp, vJ bo]) (us := [vJ bp, vJ bo]) (v := .agg #[vJ bp, vJ bo]) sz27 rfl rfl rfl (yQ (by rfl) (by rfl)) fh.pins (fc.ext da) (cE rfl) rfl (fun i7 g8 fi fj i8 => ?_))))
 refine qM (.bool db) ?_
 refine qe (zA ?_)
 refine cP (zP (xF (cs := [vJ bp, vJ bo]) (v := .bool db) rfl rfl rfl rfl rfl ag27 sz27 (fun j u hj => by rw [cS]; exact g8.cell hj) ?_))
 have hsh := hsl (by omega) (by omega) (by omega)
 have ab := hnd
 rw [hsh] at ab
 have av := va_l (D := 16) ab (by rw [← bm]; exact cb)
 rw [hsh, av.t, av.p, av.b, ← b9, ← ca, ff, fe, fg]
 exact ⟨a3, _, rfl, ((fd.ext da).kept fj fi am), b8, (cL ay c4), (zO d c5), (fh.write fi fj ((zS a1)))⟩
 refine w9d ?_
 refine qD rfl (yS [vJ 0, vJ 0] [vJ 0, vJ 0] [] dH zr27 rfl pl27 rfl (fun _ h => by cases h) rfl) (q0 rfl rfl rfl (o_stp (cs' := [vJ 0, vJ 0]) (us := [vJ 0, vJ 0]) (v := .agg #[vJ 0, vJ 0]) sz27 rfl rfl rfl (yQ (by rfl) (by rfl)) bn.pins fc (cE rfl) rfl (fun i9 g9 fk fl ja => ?_)))
 refine qM (.bool false) ?_
 refine qe (zA ?_)
 refine cP (zP (xF (cs := [vJ 0, vJ 0]) (v := .bool false) rfl rfl rfl rfl rfl ag27 sz27 (fun j u hj => by rw [cS]; exact g9.cell hj) ?_))
 have hsh := hsl (by omega) (by omega) (by omega)
 have ab := hnd
 rw [hsh] at ab
 have hvb : vgB (pd q a) = false := (by rw [hsh]; exact vl_no ab (by rw [← bm]; exact cb))
 obtain ⟨e1, e2⟩ := kY hvb
 rw [hvb, e1, e2]
 exact ⟨a3, _, rfl, (fd.kept fl fk am), b8, (cL ay c4), (zO d c5), (bn.write fk fl ((zS a1)))⟩
 refine w9d ?_
 refine qM ao ?_
 refine qD rfl (zM dE (v := ao) rfl a4) (qD rfl (xO rfl rfl) (qM (.bool (decide (((xs.length : Int) : Int) = 0))) ?_))
 refine qe (zA ?_)
 refine yC (p := ((xs.length : Int) : Int) = 0) rfl rfl (fun h => absurd h cv) (fun _ => ?_)
 refine cO (zW (w9a ?_))
 refine qM (vP p) ?_
 refine qM ao ?_
 refine qD rfl (zF dE sz3 (v := ao) rfl rfl a4 (by omega) (by omega)) (qD rfl (zG (r := xs.getD 0 0) rfl ag3 (z := 0) rfl a4 an.pins (by omega) (by omega)) ?_)
 have fm : xs.getD 0 0 ∈ xs := yE (show 0 < xs.length by omega)
 have jb := hopl _ fm
 refine qI rfl (zL (vs := [vP p, vJ (xs.getD 0 0)]) Tryz.func66 nm66 rfl rfl rfl ?_)
 refine cD (ih an.pins aa a7 ⟨by omega, by rw [d.1]; omega⟩ (by rw [xM d]; exact hc.left ((gR hok ha).2 ⟨_, hxs ▸ fm, rfl⟩)) (by omega)) ?_
 rintro _ jc ⟨aw, jd, cd, fn, dc, ce, a8, dd⟩
 obtain ⟨ac, cf⟩ : ∃ x : Int, x = vgT (pd g (xs.getD 0 0)) := ⟨_, rfl⟩
 rw [← cf] at cd
 obtain ⟨ad, cg⟩ : ∃ x : Int, x = vgP (pd g (xs.getD 0 0)) := ⟨_, rfl⟩
 rw [← cg] at cd
 obtain ⟨bc, bq⟩ : ∃ x : Bool, x = vgB (pd g (xs.getD 0 0)) := ⟨_, rfl⟩
 rw [← bq] at cd
 subst cd
 refine ⟨_, rfl, ?_⟩
 have de := an.trans dd (fun i hi => xN i hi)
 have fo := bz.extS dd (xX (NP.ho am))
 have je := ce.len
 have jf := pkl aw
 have jg := pkb dc
 have jh := cgA List.length a8.1
 have df : pd g (xs.getD 0 0) = pd q (xs.getD 0 0) := xM d
 rw [df] at cf
 rw [df] at cg
 rw [df] at bq
 have hb : bc = true → GoodD ac ad := fun h => by rw [cf, cg]; exact vW (by rw [← bq]; exact h)
 refine qM (.tuple #[.agg #[vJ ac, vJ ad], .bool bc]) ?_
 refine qD rfl (yM (v := .agg #[vJ ac, vJ ad]) rfl rfl) (qD rfl (yM (v := .bool bc) rfl rfl) (qI rfl (yI [vJ 0, vJ 0] zr27 rfl de.pins (fun fp ji fq hd fr dg => ?_))))
 have fs := de.step fr dg
 have ft := zI (cgA some fq) fo.lt
 have fu := fn.new (x := some fp) (fun k hk => by rw [cgA some fq] at hk; cases hk; exact cH _)
 have fv : w.heap.size ≤ fp := by have := de.size; omega
 refine q0 rfl rfl rfl (o_stp (cs' := [vJ ac, vJ ad]) (us := [vJ ac, vJ ad]) (v := .agg #[vJ ac, vJ ad]) sz27 rfl rfl rfl (yQ (by rfl) (by rfl)) fs.pins hd (cE rfl) rfl (fun jj he fw dh jk => ?_))
 obtain ⟨jl, fx, di, hf, fy⟩ := he.shut (fs.write fw dh ((zS fv))) fv
 refine qM (.bool bc) ?_
 refine qe (w9a ?_)
 refine qM (vP p) ?_
 refine qM ap ?_
 refine qD rfl (zF dE sz3 (v := ap) rfl rfl a5 (by omega) (by omega)) (qD rfl (zG (r := ys.getD 0 0) rfl ag3 (z := 0) rfl a5 (cC di.pins (cB dd.le fx)) (by omega) (by omega)) ?_)
 have fz : ys.getD 0 0 ∈ ys := yE (show 0 < ys.length by omega)
 have jm := hopr _ fz
 refine qI rfl (zL (vs := [vP p, vJ (ys.getD 0 0)]) Tryz.func66 nm66 rfl rfl rfl ?_)
 refine cD (ih di.pins (((fn.below dg fr).kept dh fw fu).more fx fy fu) dc ⟨by omega, by rw [(zO d a8).1]; omega⟩ (by rw [xM (zO d a8)]; exact hc.right ((gM hok ha).2 ⟨_, hys ▸ fz, rfl⟩)) (by omega)) ?_
 rintro _ jn ⟨az, jo, ch, f0, br, ci, cj, dj⟩
 obtain ⟨ae, ck⟩ : ∃ x : Int, x = vgT (pd aw (ys.getD 0 0)) := ⟨_, rfl⟩
 rw [← ck] at ch
 obtain ⟨af, cl⟩ : ∃ x : Int, x = vgP (pd aw (ys.getD 0 0)) := ⟨_, rfl⟩
 rw [← cl] at ch
 obtain ⟨bd, bt⟩ : ∃ x : Bool, x = vgB (pd aw (ys.getD 0 0)) := ⟨_, rfl⟩
 rw [← bt] at ch
 subst ch
 refine ⟨_, rfl, ?_⟩
 have dk := di.trans dj (fun i hi => xN i hi)
 have f1 := (((fo.below dg).keptA dh ft.symm).moreA fy ft.symm).extS dj (xX (NP.ho am))
 have jp := ci.len
 have jq := pkl az
 have jr := pkb br
 have js := cgA List.length cj.1
 have dl : pd aw (ys.getD 0 0) = pd q (ys.getD 0 0) := xM (zO d a8)
 rw [dl] at ck
 rw [dl] at cl
 rw [dl] at bt
 have hg : bd = true → GoodD ae af := fun h => by rw [ck, cl]; exact vW (by rw [← bt]; exact h)
 refine qM (.tuple #[.agg #[vJ ae, vJ af], .bool bd]) ?_
 refine qD rfl (yM (v := .agg #[vJ ae, vJ af]) rfl rfl) (qD rfl (yM (v := .bool bd) rfl rfl) (qI rfl (yI [vJ 0, vJ 0] zr27 rfl dk.pins (fun f2 jt f3 hh f4 dm => ?_))))
 have f5 := dk.step f4 dm
 have f6 := zI (cgA some f3) f1.lt
 have f7 := f0.new (x := some f2) (fun k hk => by rw [cgA some f3] at hk; cases hk; exact cH _)
 have f8 : w.heap.size ≤ f2 := by have := dk.size; omega
 refine q0 rfl rfl rfl (o_stp (cs' := [vJ ae, vJ af]) (us := [vJ ae, vJ af]) (v := .agg #[vJ ae, vJ af]) sz27 rfl rfl rfl (yQ (by rfl) (by rfl)) f5.pins hh (cE rfl) rfl (fun dn hl f9 dp ju => ?_))
 obtain ⟨hn, ga, be, hp, gb⟩ := hl.shut (f5.write f9 dp ((zS f8))) f8
 have dq := ((f1.below dm).keptA dp f6.symm).moreA gb f6.symm
 have dr := ((f0.below dm f4).kept dp f9 f7).more ga gb f7
 refine qM (.bool bd) ?_
 refine qe (zA (w9b ?_))
 refine qM (.bool bc) ?_
 refine qD rfl (xD rfl) (qM (.bool (!bc)) ?_)
 refine qbn (t := 103) rfl (fun ds => ?_) (fun ds => ?_)
 refine qN (zN (v := .bool bd) rfl) ?_
 refine qN (xD rfl) ?_
 refine qD rfl (zU (v := .bool (!bd)) rfl rfl) (qe (zA ?_))
 refine xU rfl rfl (fun dt => ?_) (fun dt => ?_)
 refine cO (zA (zB ?_))
 have hvl := ds
 have hvr := dt
 have hgl := hb hvl
 have hgr := hg hvr
 have hglt := hgl.top
 have hglp := hgl.pow
 have hgrt := hgr.top
 have hgrp := hgr.pow
 have hglm := vK (D := 16) (t := ac) (z := ad) (by omega) (by omega)
 have hgrm := vK (D := 16) (t := ae) (z := af) (by omega) (by omega)
 refine yW (S := fun wz => Pins hn wz) (last := 10) (by kernel_rfl) rfl ?_
 have cm := bdr dn
 have gc := be.pins.below cm
 have cn := be.step gc cm
 refine dT (i := 0) rfl rfl (by kernel_rfl) (fun _ hS => yA (cs := [vJ ac, vJ ad]) ag27 sz27 rfl (fun j u hj => (cC hS (cB dj.le ga)) _ _ _ (hf _ _ (by simpa using hj)))) cn.pins ?_
 refine dT (i := 2) rfl rfl (by kernel_rfl) (fun _ hS => yA (cs := [vJ ae, vJ af]) ag27 sz27 rfl (fun j u hj => hS _ _ _ (hp _ _ (by simpa using hj)))) cn.pins ?_
 refine dP (i := 1) rfl rfl (zL (vs := [.agg #[vJ ac, vJ ad]]) Tryz.func48 nm48 rfl rfl rfl ?_)
 refine cD (jS (t := ac) (z := ad) cn.pins (by omega) (by omega)) ?_
 rintro _ jv ⟨jw, rfl, ax⟩
 refine rt9 ?_
 have du := cn.tr ax
 refine ⟨fun _ => (cC du.pins ax.le), ?_⟩
 refine dP (i := 3) rfl rfl (zL (vs := [.agg #[vJ ae, vJ af]]) Tryz.func48 nm48 rfl rfl rfl ?_)
 refine cD (jS (t := ae) (z := af) du.pins (by omega) (by omega)) ?_
 rintro _ jx ⟨jy, rfl, a0⟩
 refine rt9 ?_
 have co := du.tr a0
 refine ⟨fun _ => (cC co.pins (cB ax.le a0.le)), ?_⟩
 refine dT (i := 4) rfl rfl (by kernel_rfl) (fun _ _ => yH rfl rfl (by omega)) (cC co.pins (cB ax.le a0.le)) ?_
 refine dP (i := 5) rfl rfl (zL (vs := [vJ ((scI 16 ac ad) + (scI 16 ae af)), vJ 17]) Tryz.func92 nm92 rfl rfl rfl ?_)
 refine cD (nS (t := (scI 16 ac ad) + (scI 16 ae af)) (p := 17) co.pins (by omega) (by omega)) ?_
 rintro _ jz ⟨j0, cp, a6⟩
 obtain ⟨bu, gd⟩ : ∃ x : Int, x = (lowR (decP (GoodD (lowD 17 ((scI 16 ac ad) + (scI 16 ae af))).1 (((lowD 17 ((scI 16 ac ad) + (scI 16 ae af))).2 : Nat) : Int))) (((lowD 17 ((scI 16 ac ad) + (scI 16 ae af))).2 : Nat) : Int)) := ⟨_, rfl⟩
 rw [← gd] at cp
 obtain ⟨bv, ge⟩ : ∃ x : Int, x = (lowR (decP (GoodD (lowD 17 ((scI 16 ac ad) + (scI 16 ae af))).1 (((lowD 17 ((scI 16 ac ad) + (scI 16 ae af))).2 : Nat) : Int))) (lowD 17 ((scI 16 ac ad) + (scI 16 ae af))).1) := ⟨_, rfl⟩
 rw [← ge] at cp
 obtain ⟨dv, gf⟩ : ∃ x : Bool, x = decP (GoodD (lowD 17 ((scI 16 ac ad) + (scI 16 ae af))).1 (((lowD 17 ((scI 16 ac ad) + (scI 16 ae af))).2 : Nat) : Int)) := ⟨_, rfl⟩
 rw [← gf] at cp
 subst cp
 refine ⟨_, rfl, ?_⟩
 have bw := co.tr a6
 refine ⟨fun _ => (cC bw.pins (cB (cB ax.le a0.le) a6.le)), ?_⟩
 refine dT (i := 6) rfl rfl (by kernel_rfl) (fun _ _ => yM (v := .agg #[vJ bv, vJ bu]) rfl rfl) (cC bw.pins (cB (cB ax.le a0.le) a6.le)) ?_
 refine dT (i := 7) rfl rfl (by kernel_rfl) (fun _ _ => yM (v := .bool dv) rfl rfl) (cC bw.pins (cB (cB ax.le a0.le) a6.le)) ?_
 refine dO (i := 8) (xK (i := 8) rfl rfl rfl (zR rfl _) (o_stp (cs' := [vJ bv, vJ bu]) (us := [vJ bv, vJ bu]) (v := .agg #[vJ bv, vJ bu]) sz27 rfl rfl rfl (yQ (by rfl) (by rfl)) bw.pins ((((dq.below cm).ext ax).ext a0).ext a6) (cE rfl) rfl (fun j1 hq gg gh j2 => ?_)))
 have dw := bw.write gg gh ((zS a1))
 refine ⟨fun _ => (cC dw.pins (cB (cB ax.le a0.le) a6.le)), ?_⟩
 refine dM 9 (.bool dv) (cC dw.pins (cB (cB ax.le a0.le) a6.le)) ?_
 refine yL (by kernel_rfl) (zA (cP (zP (xF (cs := [vJ bv, vJ bu]) (v := .bool dv) rfl rfl rfl rfl rfl ag27 sz27 (fun j u hj => by rw [cS]; exact hq.cell hj) ?_))))
 have hsh := hslr ⟨by omega, by omega⟩ (by omega) (by omega)
 have ab := hnd
 rw [hsh] at ab
 have av := va_lr ab (by rw [← bq]; exact hvl) (by rw [← bt]; exact hvr)
 rw [hsh, av.t, av.p, av.b, ← cf, ← cg, ← ck, ← cl, ge, gd, gf]
 exact ⟨az, _, rfl, (((((dr.below cm gc).ext ax).ext a0).ext a6).kept gh gg am), br, (cL (cL ay ce) ci), (zO (zO d a8) cj), dw⟩
 refine w9d ?_
 refine qD rfl (yS [vJ 0, vJ 0] [vJ 0, vJ 0] [] dH zr27 rfl pl27 rfl (fun _ h => by cases h) rfl) (q0 rfl rfl rfl (o_stp (cs' := [vJ 0, vJ 0]) (us := [vJ 0, vJ 0]) (v := .agg #[vJ 0, vJ 0]) sz27 rfl rfl rfl (yQ (by rfl) (by rfl)) be.pins dq (cE rfl) rfl (fun j3 hr gi gj j4 => ?_)))
 refine qM (.bool false) ?_
 refine qe (zA ?_)
 refine cP (zP (xF (cs := [vJ 0, vJ 0]) (v := .bool false) rfl rfl rfl rfl rfl ag27 sz27 (fun j u hj => by rw [cS]; exact hr.cell hj) ?_))
 have hsh := hslr ⟨by omega, by omega⟩ (by omega) (by omega)
 have ab := hnd
 rw [hsh] at ab
 have hvb : vgB (pd q a) = false := (by rw [hsh]; exact vb_no ab (cG (by rw [← bt]; exact dt)))
 obtain ⟨e1, e2⟩ := kY hvb
 rw [hvb, e1, e2]
 exact ⟨az, _, rfl, (dr.kept gj gi am), br, (cL (cL ay ce) ci), (zO (zO d a8) cj), (be.write gi gj ((zS a1)))⟩
 refine qW ?_
 refine qW ?_
 refine qD rfl (yB (v := .bool true) rfl rfl) (qe (zA ?_))
 refine qK rfl rfl (w9d ?_)
 refine qD rfl (yS [vJ 0, vJ 0] [vJ 0, vJ 0] [] dH zr27 rfl pl27 rfl (fun _ h => by cases h) rfl) (q0 rfl rfl rfl (o_stp (cs' := [vJ 0, vJ 0]) (us := [vJ 0, vJ 0]) (v := .agg #[vJ 0, vJ 0]) sz27 rfl rfl rfl (yQ (by rfl) (by rfl)) be.pins dq (cE rfl) rfl (fun j5 hs gk gl j6 => ?_)))
 refine qM (.bool false) ?_
 refine qe (zA ?_)
 refine cP (zP (xF (cs := [vJ 0, vJ 0]) (v := .bool false) rfl rfl rfl rfl rfl ag27 sz27 (fun j u hj => by rw [cS]; exact hs.cell hj) ?_))
 have hsh := hslr ⟨by omega, by omega⟩ (by omega) (by omega)
 have ab := hnd
 rw [hsh] at ab
 have hvb : vgB (pd q a) = false := (by rw [hsh]; exact vb_no ab (cF (by rw [← bq]; exact ds)))
 obtain ⟨e1, e2⟩ := kY hvb
 rw [hvb, e1, e2]
 exact ⟨az, _, rfl, (dr.kept gl gk am), br, (cL (cL ay ce) ci), (zO (zO d a8) cj), (be.write gk gl ((zS a1)))⟩
 refine w9d ?_
 refine qD rfl (yS [vJ 0, vJ 0] [vJ 0, vJ 0] [] dH zr27 rfl pl27 rfl (fun _ h => by cases h) rfl) (q0 rfl rfl rfl (o_stp (cs' := [vJ 0, vJ 0]) (us := [vJ 0, vJ 0]) (v := .agg #[vJ 0, vJ 0]) sz27 rfl rfl rfl (yQ (by rfl) (by rfl)) ba.pins d4 (cE rfl) rfl (fun j7 ht gm gn j8 => ?_)))
 refine qM (.bool false) ?_
 refine qe (zA ?_)
 refine cP (zP (xF (cs := [vJ 0, vJ 0]) (v := .bool false) rfl rfl rfl rfl rfl ag27 sz27 (fun j u hj => by rw [cS]; exact ht.cell hj) ?_))
 have hvb : vgB (pd q a) = false := pZ (decP_false.1 cr)
 obtain ⟨e1, e2⟩ := kY hvb
 rw [hvb, e1, e2]
 exact ⟨g, _, rfl, (a9.kept gn gm am), a7, ay, d, (ba.write gm gn ((zS a1)))⟩
theorem val_all {p : Nat} {L R B : Value} {mm : PM} : ∀ m, ValP m p L R B mm
 | 0 => fun _ _ _ _ _ h => absurd h (cK _)
 | m + 1 => fun hP hpk hok ha hc hm => valueOf_step hP hpk hok ha hc (val_all m) hm
theorem valueOf_spec {w : World} (hP : Pins G w) (hpk : Pk 56 3 G w p L R B mm q) (hok : PoolOk q) (ha : PlaceOk q a) (hc : CanonG (pd q a)) :
  Calls Tryz.prog 66 #[.pointer (some ⟨p, 0, none⟩), .int .i64 a] w fun e w' => ∃ (q' : PSt) (G' : Pin), e = .returned (.tuple #[.agg #[.int .i64 (vgT (pd q a)), .int .i64 (vgP (pd q a))], .bool (vgB (pd q a))]) ∧ Pk 56 3 G' w' p L R B mm q' ∧ PoolOk q' ∧ PX q q' ∧ (q'.ns = q.ns ∧ q'.bs = q.bs) ∧ Ext (inO (some mm.o)) G w G' w' :=
 val_all _ hP hpk hok ha hc (Nat.lt_succ_self _)
end VA3
namespace SW1
open B1 C1 D1 E1 K1 PO1 PL1 NU1 NU2 VA2
end SW1
end Go.Proofs.YtakkjmlnmcemaaaGreatDoor
