/- Texts of this claim. -/
import Derived.Test.YtdleojbknkbpiaaGreatDoorFp5
import Derived.Test.YtdleojbknkbpiaaGreatDoorChecked
set_option maxRecDepth 20000
set_option maxHeartbeats 2000000
namespace Go.Proofs.YtdleojbknkbpiaaGreatDoor
open Go.RowKit Go.GL Go.Proofs
namespace PF4
open B1 C1 D1 E1 OR1 SF1 P1 PF2 PF3
theorem mk3 : (Tryz.prog.info? 3).map (fun i => (i.size, i.bytes, i.zero)) = some (1, 8, some (.int .i64 0)) := by kernel_rfl
theorem mk4 : (Tryz.prog.info? 4).map (fun i => (i.size, i.bytes, i.zero)) = some (1, 1, some (.bool false)) := by kernel_rfl
theorem pl29 : (Tryz.prog.underlying 29).bind (placesD Tryz.prog) = some [(0, 1)] := by kernel_rfl
theorem pl53 : (Tryz.prog.underlying 53).bind (placesD Tryz.prog) = some [(0, 1), (1, 1), (2, 1), (3, 1)] := by kernel_rfl
variable {G : Pin}
theorem l15Cut_spec {w : World} {p : Value} {L : List Cl} (hP : Pins G w) (hp : RSl eClaim G p L) (hL : LOk L) :
  Calls Tryz.prog 31 #[p] w fun e w' => ∃ (r : Value) (G' : Pin), e = .returned r ∧ RSl eClaim G' r (cutL L) ∧ Ext noS G w G' w' := by
 refine yC (n := 125) Tryz.func31 Tryz.ntmps31 rfl rfl ?_
 have a3 := exr noS hP
 have hLp := hL.pos
 have hLh := hL.hi
 have hrl : (List.replicate L.length false).length = L.length := by simp
 refine w9d ?_
 refine qM vN ?_
 refine qe (w9a ?_)
 refine qM p ?_
 refine qD rfl (zN dG (v := p) rfl hp) (qI rfl (vH (E := eBool) false 1 (.bool false) dL mk4 (fun _ => rfl) rfl rfl a3.pins (by omega) (by omega) (by omega) (fun c w2 cg ch ci fk => ?_)))
 have bq := a3.step ch ci
 have a4 : Own eBool 4 G w2 w.heap.size c (List.replicate L.length false) := cg.weaken a3.size
 have fl : (List.replicate L.length false).length = L.length := List.length_replicate ..
 refine qM c ?_
 refine qe (w9a ?_)
 refine qM c ?_
 refine qM p ?_
 refine qD rfl (zN dG (v := p) rfl hp) (qD rfl (xX rfl rfl (by omega)) (qD rfl (zE dL sz4 (v := c) rfl rfl a4.read (by omega) (by omega)) (q0 rfl rfl rfl (qU (E := eBool) (v := c) (u := .bool true) (z := (L.length : Int) - 1) (true) sz4 rfl rfl rfl rfl bq.pins a4 (by omega) (by omega) (fun fm cj ck cl fn => ?_)))))
 have cm := bq.write ck cl ((yE a4))
 refine qe (zA (w9b ?_))
 refine qM p ?_
 refine qD rfl (zN dG (v := p) rfl hp) (qD rfl (xX rfl rfl (by omega)) (qM (vJ ((L.length : Int) - 1)) ?_))
 refine qe (zA ?_)
 refine zY (yN (fun k en W => ∃ (m : Nat → Value) (z : Int) (nd : List Bool), en = (upd (upd (upd (upd m 0 p) 2 vN) 3 c) 4 (vJ z)) ∧ k = (z + 1).toNat ∧ Ext noS G w G W ∧ (-1 ≤ z ∧ z ≤ (L.length : Int) - 1) ∧ (nd.length = L.length) ∧ (nd = needZ L z) ∧ (Own eBool 4 G W w.heap.size c (nd))) _ ⟨_, ((L.length : Int) - 1), (List.replicate L.length false).set ((L.length : Int) - 1).toNat true, (pS 4 (pS 3 (pS 2 (pU 0)))), rfl, cm, (by omega), (by simp), (rG L).symm, cj⟩ ?_)
 rintro fo _ fp ⟨m, z, nd, rfl, fq, aq, hz, hndl, hnd, a5⟩
 refine w9b ?_
 refine qM (vJ z) ?_
 refine qD rfl (vI rfl rfl) (qe (zA ?_))
 refine yA (p := (0 : Int) ≤ z) rfl rfl (fun cn => ?_) (fun cn => ?_)
 have hlz := hL.ln z.toNat (by omega)
 refine cN (zA (zB ?_))
 refine zY (w9b ?_)
 refine qM (vJ 0) ?_
 refine qe (zA ?_)
 refine zY (c_cutE (fun (en : Nat → Value) (W : World) => ∃ (m : Nat → Value) (q1 : Nat) (g : List Bool), en = (upd (upd (upd (upd (upd m 0 p) 2 vN) 3 c) 4 (vJ z)) 5 (vJ (q1 : Int))) ∧ Ext noS G w G W ∧ (q1 ≤ (L.getD z.toNat default).r.length) ∧ (g.length = L.length) ∧ (g = halfN nd (L.getD z.toNat default).r z.toNat) ∧ (Own eBool 4 G W w.heap.size c (g))) 2 ?_ ?_)
 ·rintro _ co ⟨m, q1, g, rfl, aa, a6, ai, cp, ac⟩
  refine yI (w9a ?_)
  refine qM (vJ 0) ?_
  refine qe (zA ?_)
  refine zY (c_cutE (fun (en : Nat → Value) (W : World) => ∃ (m : Nat → Value) (f : Nat) (o : List Bool), en = (upd (upd (upd (upd (upd m 0 p) 2 vN) 3 c) 4 (vJ z)) 6 (vJ (f : Int))) ∧ Ext noS G w G W ∧ (f ≤ (L.getD z.toNat default).l.length) ∧ (o.length = L.length) ∧ (o = halfN g (L.getD z.toNat default).l z.toNat) ∧ (Own eBool 4 G W w.heap.size c (o))) 4 ?_ ?_)
  ·rintro _ cq ⟨m, f, o, rfl, ab, a7, aj, cr, ad⟩
   refine yI (w9c ?_)
   refine qM (vJ z) ?_
   refine qD rfl (xX rfl rfl (by omega)) (qM (vJ (z - 1)) ?_)
   refine qe (yD (⟨_, ?_, _, rfl, _, z - 1, o, (pS 4 (pS 3 (pS 2 (pU 0)))), rfl, ab, (by omega), aj, (by rw [gI (by omega) (by omega), ← hnd]; exact half_step cp cr), ad⟩))
   omega
  refine yN (fun k en W => ∃ (m : Nat → Value) (f : Nat) (o : List Bool), en = (upd (upd (upd (upd (upd m 0 p) 2 vN) 3 c) 4 (vJ z)) 6 (vJ (f : Int))) ∧ k = (L.getD z.toNat default).l.length - f ∧ Ext noS G w G W ∧ (f ≤ (L.getD z.toNat default).l.length) ∧ (o.length = L.length) ∧ ((f = 0 ∨ g.getD z.toNat false = true) ∧ o = needAll g ((L.getD z.toNat default).l.take f)) ∧ (Own eBool 4 G W w.heap.size c (o))) _ ⟨_, 0, g, (pS 6 (pS 4 (pS 3 (pS 2 (pU 0))))), rfl, aa, cI _, ai, (nK _ _ z.toNat), ac⟩ ?_
  rintro fr _ cq ⟨m, f, o, rfl, fs, ab, a7, aj, a8, ad⟩
  refine w9b ?_
  refine qM c ?_
  refine qM (vJ z) ?_
  refine qD rfl (zE dL sz4 (v := c) rfl rfl ad.read (by omega) (by omega)) (qD rfl (xQ (r := o.getD (z).toNat false) rfl ag4 (z := z) rfl ad.read (cL ab.pins c) (by omega) (by omega)) (qM (.bool (o.getD (z).toNat false)) ?_))
  refine qb (t := 55) rfl (fun ar => ?_) (fun ar => ?_)
  refine qN (zX (v := vJ (f : Int)) rfl) ?_
  refine qN (zX (v := p) rfl) ?_
  refine qN (zX (v := vJ z) rfl) ?_
  refine qN (zE dG sz53 (v := p) rfl rfl hp (by omega) (by omega)) ?_
  refine qN (yP (off := 3) dE rfl rfl nz40 (z := z) (k := 0) rfl hp (by omega) (by omega)) ?_
  obtain ⟨ft, cs, fu, ct⟩ := qE (j := (z).toNat) default (hp.at (z := z) (by omega) (by omega)) rfl
  obtain ⟨fv, cu, rfl, cv, br⟩ := cs
  have fw := cv.max
  have fx := br.max
  refine qN (ct 3 _ rfl ag40 rfl ab.pins) ?_
  refine qN (zN dC (v := cu) rfl br) ?_
  refine qN (yQ rfl rfl) ?_
  refine qD rfl (yL (v := .bool (decide (((f : Int) : Int) < (((L.getD (z).toNat default).l).length : Int)))) rfl rfl) (qe (zA ?_))
  refine yA (p := ((f : Int) : Int) < (((L.getD (z).toNat default).l).length : Int)) rfl rfl (fun cw => ?_) (fun cw => ?_)
  refine cN (zA (zB ?_))
  refine zY (zC ?_)
  have fy := hL.l (j := z.toNat) (q := f) (by omega) (by omega)
  refine qM c ?_
  refine qM p ?_
  refine qM (vJ z) ?_
  refine qD rfl (zE dG sz53 (v := p) rfl rfl hp (by omega) (by omega)) (qD rfl (yP (off := 3) dE rfl rfl nz40 (z := z) (k := 0) rfl hp (by omega) (by omega)) ?_)
  obtain ⟨fz, cx, f0, cy⟩ := qE (j := (z).toNat) default (hp.at (z := z) (by omega) (by omega)) rfl
  obtain ⟨f1, cz, rfl, c0, a9⟩ := cx
  have f2 := c0.max
  have f3 := a9.max
  refine qD rfl (cy 3 _ rfl ag40 rfl ab.pins) (qM (vJ (f : Int)) ?_)
  refine qD rfl (zE dC sz3 (v := cz) rfl rfl a9 (by omega) (by omega)) (qD rfl (zL (r := ((L.getD (z).toNat default).l).getD f 0) rfl ag3 (z := (f : Int)) rfl a9 ab.pins (by omega) (by omega)) (qD rfl (zE dL sz4 (v := c) rfl rfl ad.read (by omega) (by omega)) (q0 rfl rfl rfl (qU (E := eBool) (v := c) (u := .bool true) (z := ((L.getD (z).toNat default).l).getD f 0) (true) sz4 rfl rfl rfl rfl ab.pins ad (by omega) (by omega) (fun f4 c1 c2 c3 f5 => ?_)))))
  have c4 := ab.write c2 c3 ((yE ad))
  refine qe (w9c ?_)
  refine qM (vJ (f : Int)) ?_
  refine qD rfl (yO rfl rfl (by omega)) (qM (vJ ((f : Int) + 1)) ?_)
  refine qe (yD (⟨_, ?_, _, rfl, _, f + 1, o.set ((L.getD z.toNat default).l.getD f 0).toNat true, (pS 6 (pS 4 (pS 3 (pS 2 (pU 0))))), rfl, c4, (by omega), ((cS ..).trans aj), (pY a8 (by omega) ar), c1⟩))
  omega
  exact cP (zZ (yJ (fY ⟨_, f, o, (pS 6 (pS 4 (pS 3 (pS 2 (pU 0))))), ab, a7, aj, (half_end a8 ar (by omega)), ad⟩)))
  refine qW ?_
  refine qW ?_
  refine qW ?_
  refine qW ?_
  refine qW ?_
  refine qW ?_
  refine qW ?_
  refine qW ?_
  refine qD rfl (yM (v := .bool false) rfl rfl) (qe (zA ?_))
  exact jE rfl rfl (cP (zZ (yJ (fY ⟨_, f, o, (pS 6 (pS 4 (pS 3 (pS 2 (pU 0))))), ab, a7, aj, (pX a8 ar), ad⟩))))
 refine yN (fun k en W => ∃ (m : Nat → Value) (q1 : Nat) (g : List Bool), en = (upd (upd (upd (upd (upd m 0 p) 2 vN) 3 c) 4 (vJ z)) 5 (vJ (q1 : Int))) ∧ k = (L.getD z.toNat default).r.length - q1 ∧ Ext noS G w G W ∧ (q1 ≤ (L.getD z.toNat default).r.length) ∧ (g.length = L.length) ∧ ((q1 = 0 ∨ nd.getD z.toNat false = true) ∧ g = needAll nd ((L.getD z.toNat default).r.take q1)) ∧ (Own eBool 4 G W w.heap.size c (g))) _ ⟨_, 0, nd, (pS 5 (pS 4 (pS 3 (pS 2 (pU 0))))), rfl, aq, cI _, hndl, (nK _ _ z.toNat), a5⟩ ?_
 rintro f6 _ co ⟨m, q1, g, rfl, f7, aa, a6, ai, ba, ac⟩
 refine w9b ?_
 refine qM c ?_
 refine qM (vJ z) ?_
 refine qD rfl (zE dL sz4 (v := c) rfl rfl ac.read (by omega) (by omega)) (qD rfl (xQ (r := g.getD (z).toNat false) rfl ag4 (z := z) rfl ac.read (cL aa.pins c) (by omega) (by omega)) (qM (.bool (g.getD (z).toNat false)) ?_))
 refine qb (t := 29) rfl (fun au => ?_) (fun au => ?_)
 refine qN (zX (v := vJ (q1 : Int)) rfl) ?_
 refine qN (zX (v := p) rfl) ?_
 refine qN (zX (v := vJ z) rfl) ?_
 refine qN (zE dG sz53 (v := p) rfl rfl hp (by omega) (by omega)) ?_
 refine qN (yP (off := 2) dE rfl rfl nz40 (z := z) (k := 0) rfl hp (by omega) (by omega)) ?_
 obtain ⟨f8, c5, f9, c6⟩ := qE (j := (z).toNat) default (hp.at (z := z) (by omega) (by omega)) rfl
 obtain ⟨c7, ga, rfl, bs, c8⟩ := c5
 have gb := bs.max
 have gc := c8.max
 refine qN (c6 2 _ rfl ag40 rfl aa.pins) ?_
 refine qN (zN dC (v := c7) rfl bs) ?_
 refine qN (yQ rfl rfl) ?_
 refine qD rfl (yL (v := .bool (decide (((q1 : Int) : Int) < (((L.getD (z).toNat default).r).length : Int)))) rfl rfl) (qe (zA ?_))
 refine yA (p := ((q1 : Int) : Int) < (((L.getD (z).toNat default).r).length : Int)) rfl rfl (fun c9 => ?_) (fun c9 => ?_)
 refine cN (zA (zB ?_))
 refine zY (zC ?_)
 have gd := hL.r (j := z.toNat) (q := q1) (by omega) (by omega)
 refine qM c ?_
 refine qM p ?_
 refine qM (vJ z) ?_
 refine qD rfl (zE dG sz53 (v := p) rfl rfl hp (by omega) (by omega)) (qD rfl (yP (off := 2) dE rfl rfl nz40 (z := z) (k := 0) rfl hp (by omega) (by omega)) ?_)
 obtain ⟨ge, da, gf, db⟩ := qE (j := (z).toNat) default (hp.at (z := z) (by omega) (by omega)) rfl
 obtain ⟨dc, gg, rfl, bb, dd⟩ := da
 have gh := bb.max
 have gi := dd.max
 refine qD rfl (db 2 _ rfl ag40 rfl aa.pins) (qM (vJ (q1 : Int)) ?_)
 refine qD rfl (zE dC sz3 (v := dc) rfl rfl bb (by omega) (by omega)) (qD rfl (zL (r := ((L.getD (z).toNat default).r).getD q1 0) rfl ag3 (z := (q1 : Int)) rfl bb aa.pins (by omega) (by omega)) (qD rfl (zE dL sz4 (v := c) rfl rfl ac.read (by omega) (by omega)) (q0 rfl rfl rfl (qU (E := eBool) (v := c) (u := .bool true) (z := ((L.getD (z).toNat default).r).getD q1 0) (true) sz4 rfl rfl rfl rfl aa.pins ac (by omega) (by omega) (fun gj de df dg gk => ?_)))))
 have dh := aa.write df dg ((yE ac))
 refine qe (w9c ?_)
 refine qM (vJ (q1 : Int)) ?_
 refine qD rfl (yO rfl rfl (by omega)) (qM (vJ ((q1 : Int) + 1)) ?_)
 refine qe (yD (⟨_, ?_, _, rfl, _, q1 + 1, g.set ((L.getD z.toNat default).r.getD q1 0).toNat true, (pS 5 (pS 4 (pS 3 (pS 2 (pU 0))))), rfl, dh, (by omega), ((cS ..).trans ai), (pY ba (by omega) au), de⟩))
 omega
 exact cP (zZ (yJ (fY ⟨_, q1, g, (pS 5 (pS 4 (pS 3 (pS 2 (pU 0))))), aa, a6, ai, (half_end ba au (by omega)), ac⟩)))
 refine qW ?_
 refine qW ?_
 refine qW ?_
 refine qW ?_
 refine qW ?_
 refine qW ?_
 refine qW ?_
 refine qW ?_
 refine qD rfl (yM (v := .bool false) rfl rfl) (qe (zA ?_))
 exact jE rfl rfl (cP (zZ (yJ (fY ⟨_, q1, g, (pS 5 (pS 4 (pS 3 (pS 2 (pU 0))))), aa, a6, ai, (pX ba au), ac⟩))))
 refine cP (zZ (yJ (yI (w9a ?_))))
 refine qM p ?_
 refine qD rfl (zN dG (v := p) rfl hp) (qI rfl (vH (E := eInt) 0 8 (vJ 0) dC mk3 (fun _ => rfl) rfl rfl aq.pins (by omega) (by omega) (by omega) (fun s di dj dk bt dl => ?_)))
 have bc := aq.step dk bt
 have bu := a5.below bt
 have dm := zG dl a5.lt
 have bv : Own eInt 3 G di w.heap.size s (List.replicate L.length 0) := dj.weaken aq.size
 have gl : (List.replicate L.length 0).length = L.length := List.length_replicate ..
 refine qM s ?_
 refine qe (w9a ?_)
 refine qI rfl (xB (E := eClaim) (e := 53) dG sz53 bc.pins (fun bd dn dp dq be bw => ?_))
 have dr := bc.step dq be
 have ds := bu.below be
 have dt := bv.below be
 have du := zG bw bu.lt
 have dv := zG bw bv.lt
 have dw := dp.weaken bc.size
 refine qM bd ?_
 refine qe (zA (w9b ?_))
 refine qM (vJ 0) ?_
 refine qe (zA ?_)
 refine zY (yN (fun k en W => ∃ (m : Nat → Value) (kc : Nat) (ats : List Int) (ov : Value) (os : List Cl) (ae : Pin), en = (upd (upd (upd (upd (upd (upd m 0 p) 2 vN) 3 c) 7 s) 8 ov) 9 (vJ (kc : Int))) ∧ k = L.length - kc ∧ Ext noS G w ae W ∧ Pin.le G ae ∧ (kc ≤ L.length) ∧ (ats.length = L.length) ∧ (cutN L nd kc = (ats, os)) ∧ (Own eInt 3 ae W w.heap.size s (ats)) ∧ (Own eClaim 53 ae W w.heap.size ov (os)) ∧ (Own eBool 4 ae W w.heap.size c (nd)) ∧ (Apart s.ownBlock ov.ownBlock) ∧ (Apart ov.ownBlock c.ownBlock)) _ ⟨_, 0, List.replicate L.length 0, bd, [], G, (pS 9 (pS 8 (pS 7 (pS 3 (pS 2 (pU 0)))))), rfl, dr, cJ _, cI _, (by simp), rfl, dt, dw, ds, dv.symm, du⟩ ?_)
 rintro gm _ gn ⟨m, kc, ats, ov, os, ae, rfl, gp, ak, af, hk, hat, hc, av, aw, ax, ay, bf⟩
 have hcl := (vT L nd kc).2
 rw [hc] at hcl
 have gq : os.length ≤ kc := hcl
 refine w9b ?_
 refine qM (vJ (kc : Int)) ?_
 refine qM p ?_
 refine qD rfl (zN dG (v := p) rfl hp) (qD rfl (yQ rfl rfl) (qe (zA ?_)))
 refine yA (p := ((kc : Int) : Int) < (L.length : Int)) rfl rfl (fun dx => ?_) (fun dx => ?_)
 have hlk := hL.ln kc (by omega)
 refine cN (zA (zB ?_))
 refine zY (w9d ?_)
 refine qM c ?_
 refine qM (vJ (kc : Int)) ?_
 refine qD rfl (zE dL sz4 (v := c) rfl rfl ax.read (by omega) (by omega)) (qD rfl (xQ (r := nd.getD kc false) rfl ag4 (z := (kc : Int)) rfl ax.read (cL ak.pins c) (by omega) (by omega)) (qe (zA ?_)))
 refine c_if rfl rfl (fun bg => ?_) (fun bg => ?_)
 refine w9d ?_
 refine qM s ?_
 refine qM (vJ (kc : Int)) ?_
 refine qM ov ?_
 refine qD rfl (zN dG (v := ov) rfl aw.read) (qD rfl (zE dC sz3 (v := s) rfl rfl av.read (by omega) (by omega)) (q0 rfl rfl rfl (qU (E := eInt) (v := s) (u := vJ (os.length : Int)) (z := (kc : Int)) ((os.length : Int)) sz3 rfl rfl rfl rfl ak.pins av (by omega) (by omega) (fun bh dy dz bi gr => ?_))))
 have bx := ak.write dz bi ((yE av))
 have d0 := aw.keptA bi ay.symm
 have d1 := ax.keptA bi dm.symm
 refine qe (zA ?_)
 refine yT (S := fun wz => Pins ae wz) (last := 29) (by kernel_rfl) rfl ?_
 have al := bdr bh
 have d2 := bx.pins.below al
 have d := bx.step d2 al
 have bj := dy.below al
 have bz := d0.below al
 have b0 := d1.below al
 refine dM 0 ov d.pins ?_
 refine dM 1 p d.pins ?_
 refine dM 2 (vJ (kc : Int)) d.pins ?_
 refine dT (i := 3) rfl rfl (by kernel_rfl) (fun _ _ => zE dG sz53 (v := p) rfl rfl hp (by omega) (by omega)) d.pins ?_
 refine dT (i := 4) rfl rfl (by kernel_rfl) (fun _ _ => yP (off := 0) dE rfl rfl nz3 (z := (kc : Int)) (k := 0) rfl hp (by omega) (by omega)) d.pins ?_
 obtain ⟨gs, d3, gt, d4⟩ := qE (j := kc) default (hp.at (z := (kc : Int)) (by omega) (by omega)) rfl
 obtain ⟨gu, gv, rfl, d5, d6⟩ := d3
 have gw := d5.max
 have gx := d6.max
 refine dT (i := 5) rfl rfl (by kernel_rfl) (fun _ hS => d4 0 _ rfl ag3 rfl (cC hS af)) d.pins ?_
 refine dM 6 p d.pins ?_
 refine dM 7 (vJ (kc : Int)) d.pins ?_
 refine dT (i := 8) rfl rfl (by kernel_rfl) (fun _ _ => zE dG sz53 (v := p) rfl rfl hp (by omega) (by omega)) d.pins ?_
 refine dT (i := 9) rfl rfl (by kernel_rfl) (fun _ _ => yP (off := 1) dE rfl rfl nz3 (z := (kc : Int)) (k := 0) rfl hp (by omega) (by omega)) d.pins ?_
 obtain ⟨gy, d7, gz, d8⟩ := qE (j := kc) default (hp.at (z := (kc : Int)) (by omega) (by omega)) rfl
 obtain ⟨g0, g1, rfl, d9, ea⟩ := d7
 have g2 := d9.max
 have g3 := ea.max
 refine dT (i := 10) rfl rfl (by kernel_rfl) (fun _ hS => d8 1 _ rfl ag3 rfl (cC hS af)) d.pins ?_
 refine dM 11 s d.pins ?_
 refine dM 12 p d.pins ?_
 refine dM 13 (vJ (kc : Int)) d.pins ?_
 refine dT (i := 14) rfl rfl (by kernel_rfl) (fun _ _ => zE dG sz53 (v := p) rfl rfl hp (by omega) (by omega)) d.pins ?_
 refine dT (i := 15) rfl rfl (by kernel_rfl) (fun _ _ => yP (off := 2) dE rfl rfl nz40 (z := (kc : Int)) (k := 0) rfl hp (by omega) (by omega)) d.pins ?_
 obtain ⟨g4, eb, g5, ec⟩ := qE (j := kc) default (hp.at (z := (kc : Int)) (by omega) (by omega)) rfl
 obtain ⟨ed, g6, rfl, b1, ee⟩ := eb
 have g7 := b1.max
 have g8 := ee.max
 refine dT (i := 16) rfl rfl (by kernel_rfl) (fun _ hS => ec 2 _ rfl ag40 rfl (cC hS af)) d.pins ?_
 refine dM 18 s d.pins ?_
 refine dM 19 p d.pins ?_
 refine dM 20 (vJ (kc : Int)) d.pins ?_
 refine dT (i := 21) rfl rfl (by kernel_rfl) (fun _ _ => zE dG sz53 (v := p) rfl rfl hp (by omega) (by omega)) d.pins ?_
 refine dT (i := 22) rfl rfl (by kernel_rfl) (fun _ _ => yP (off := 3) dE rfl rfl nz40 (z := (kc : Int)) (k := 0) rfl hp (by omega) (by omega)) d.pins ?_
 obtain ⟨g9, ef, ha, eg⟩ := qE (j := kc) default (hp.at (z := (kc : Int)) (by omega) (by omega)) rfl
 obtain ⟨hb, eh, rfl, ei, b2⟩ := ef
 have hd := ei.max
 have he := b2.max
 refine dT (i := 23) rfl rfl (by kernel_rfl) (fun _ hS => eg 3 _ rfl ag40 rfl (cC hS af)) d.pins ?_
 refine dP (i := 17) rfl rfl (zP (vs := [s, ed]) Tryz.func60 nm60 rfl rfl rfl ?_)
 refine cD (qQ d.pins (cL d.pins s) bj.read (b1.mono af) (by omega) (fun i hi => by have h := hL.r (j := kc) (by omega) hi; rw [cS]; omega)) ?_
 rintro _ ej ⟨am, ek, rfl, az, x⟩
 refine rt9 ?_
 have an := d.tr x
 have bk := bj.ext x
 have b3 := bz.ext x
 have b4 := b0.ext x
 have el := zR az.lt bj.lt
 have em := zR az.lt bz.lt
 have eo := zR az.lt b0.lt
 have b5 := az.weaken d.size
 refine ⟨fun _ => (cC an.pins x.le), ?_⟩
 refine dP (i := 24) rfl rfl (zP (vs := [s, eh]) Tryz.func60 nm60 rfl rfl rfl ?_)
 refine cD (qQ an.pins (cL an.pins s) bk.read (b2.mono (cB af x.le)) (by omega) (fun i hi => by have h := hL.l (j := kc) (by omega) hi; rw [cS]; omega)) ?_
 rintro _ ep ⟨ao, eq, rfl, ap, y⟩
 refine rt9 ?_
 have bl := an.tr y
 have er := bk.ext y
 have es := b3.ext y
 have et := b4.ext y
 have b6 := b5.ext y
 have eu := zR ap.lt bk.lt
 have ev := zR ap.lt b3.lt
 have ew := zR ap.lt b4.lt
 have ex := zR ap.lt b5.lt
 have b7 := ap.weaken an.size
 refine ⟨fun _ => (cC bl.pins (cB x.le y.le)), ?_⟩
 refine dT (i := 25) rfl rfl (by kernel_rfl) (fun _ _ => xH [vJ 0, vJ 0, vN, vN] [vJ ((L.getD kc default).a), vJ ((L.getD kc default).b), am, ao] [(0, (vJ ((L.getD kc default).a)), [vJ ((L.getD kc default).a)]), (1, (vJ ((L.getD kc default).b)), [vJ ((L.getD kc default).b)]), (2, am, [am]), (3, ao, [ao])] dE zr53 rfl pl53 rfl (cM.2 ⟨rfl, (cM.2 ⟨rfl, (cM.2 ⟨(yX b6.one), (cM.2 ⟨(yX b7.one), (fun _ h => by cases h)⟩)⟩)⟩)⟩) rfl) (cC bl.pins (cB x.le y.le)) ?_
 obtain ⟨hf, ag, ey, ez, a0⟩ := b6.sealed bl
 have e0 := er.moreO ag a0 el.symm
 have e1 := es.moreO ag a0 em.symm
 have e2 := et.moreO ag a0 eo.symm
 have e3 := b7.moreO ag a0 ex
 obtain ⟨b8, ah, bm, e4, bn⟩ := e3.sealed ey
 have e5 := e0.moreO ah bn eu.symm
 have e6 := e1.moreO ah bn ev.symm
 have e7 := e2.moreO ah bn ew.symm
 refine dP (i := 26) rfl rfl (xE (E := eClaim) (e := 53) [vJ ((L.getD kc default).a), vJ ((L.getD kc default).b), am, ao] (⟨(L.getD kc default).a, (L.getD kc default).b, atL ((ats).set kc (os.length : Int)) ((L.getD kc default).r), atL ((ats).set kc (os.length : Int)) ((L.getD kc default).l)⟩ : Cl) dG sz53 zr53 ⟨_, _, rfl, (ez.mono ah), e4⟩ rfl (by decide) bm.pins (fun b9 e8 e9 fa a1 hg => ?_))
 have a2 := bm.step fa a1
 have ca := e5.below a1
 have cb := e6.below a1
 have cc := e7.below a1
 have fb := e9.weaken bm.size
 refine ⟨fun _ => (cC a2.pins (cB (cB (cB x.le y.le) ag) ah)), ?_⟩
 refine dP (i := 27) rfl rfl (oA (E := eClaim) (v := ov) (u := b9) 64 dG ap53 (by decide) rfl rfl a2.pins cb fb.src (a2.size) (fun cd hh fc fd bo ce => ?_))
 have bp := a2.write fd bo ((yE cb))
 have fe := ca.keptA bo ay
 have ff := cc.keptA bo bf.symm
 have fg := zF ay ce ca.lt
 have fh := zF bf.symm ce cc.lt
 have hj := la1 os (⟨(L.getD kc default).a, (L.getD kc default).b, atL ((ats).set kc (os.length : Int)) ((L.getD kc default).r), atL ((ats).set kc (os.length : Int)) ((L.getD kc default).l)⟩ : Cl)
 refine ⟨fun _ => (cC bp.pins (cB (cB (cB x.le y.le) ag) ah)), ?_⟩
 refine dM 28 cd (cC bp.pins (cB (cB (cB x.le y.le) ag) ah)) ?_
 refine yH (by kernel_rfl) (w9c ?_)
 refine qM (vJ (kc : Int)) ?_
 refine qD rfl (yO rfl rfl (by omega)) (qM (vJ ((kc : Int) + 1)) ?_)
 refine qe (yD (⟨_, ?_, _, rfl, _, kc + 1, (ats).set kc (os.length : Int), cd, os ++ ([(⟨(L.getD kc default).a, (L.getD kc default).b, atL ((ats).set kc (os.length : Int)) ((L.getD kc default).r), atL ((ats).set kc (os.length : Int)) ((L.getD kc default).l)⟩ : Cl)]), b8, (pS 9 (pS 8 (pS 7 (pS 3 (pS 2 (pU 0)))))), rfl, bp, (cB (cB (cB (cB af x.le) y.le) ag) ah), (by omega), ((cS ..).trans hat), (tG hc bg), fe, fc, ff, fg, fh.symm⟩))
 omega
 refine cN (w9c ?_)
 refine qM (vJ (kc : Int)) ?_
 refine qD rfl (yO rfl rfl (by omega)) (qM (vJ ((kc : Int) + 1)) ?_)
 refine qe (yD (⟨_, ?_, _, rfl, _, kc + 1, ats, ov, os, ae, (pS 9 (pS 8 (pS 7 (pS 3 (pS 2 (pU 0)))))), rfl, ak, af, (by omega), hat, (eR hc bg), av, aw, ax, ay, bf⟩))
 omega
 refine cP (zZ (yJ (yI (w9a ?_))))
 refine qM ov ?_
 refine qM ov ?_
 refine qe (zA ?_)
 refine cO (zT (zS (v := ov) rfl rfl rfl ?_))
 obtain ⟨hl, hm, fi, fj, hn⟩ := aw.sealed ak
 have hkn : kc = L.length := by omega
 rw [hkn, hnd, tN (show z = -1 by omega)] at hc
 exact ⟨_, _, rfl, (by unfold cutL; rw [hc]; exact fj), fi⟩
theorem xW {w : World} {u v : Value} {ns bs : List Nd} (hP : Pins G w) (hu : RSl eNode G u ns) (hv : RSl eNode G v bs) :
  Calls Tryz.prog 12 [.agg #[u], .agg #[v]].toArray w fun e w' => ∃ (r : Value) (G' : Pin), e = .returned (.tuple #[.agg #[r], .bool (prfB ns bs)]) ∧ RSl eClaim G' r (prfL ns bs) ∧ Ext noS G w G' w' := by
 refine yC (n := 32) Tryz.func12 Tryz.ntmps12 rfl rfl ?_
 have z := exr noS hP
 refine w9d ?_
 refine qI rfl (xL [u] (v := .agg #[u]) rfl rfl z.pins (fun b1 w2 bx aq ar au => ?_))
 have av := z.step ar au
 have aw : w.heap.size ≤ b1 := by have := z.size; omega
 obtain ⟨G9, k, aa, ab, b0⟩ := aq.shut av aw
 refine qI rfl (xL [v] (v := .agg #[v]) rfl rfl aa.pins (fun ax b2 b3 ay az a0 => ?_))
 have a1 := aa.step az a0
 have a2 : w.heap.size ≤ ax := by have := aa.size; omega
 obtain ⟨b4, d, ac, ad, b5⟩ := ay.shut a1 a2
 refine qI rfl (yK [vN] zr29 rfl ac.pins (fun a3 b6 b7 a4 a5 a6 => ?_))
 have ae := ac.step a5 a6
 have q : w.heap.size ≤ a3 := by have := ac.size; omega
 refine qM (.bool false) ?_
 refine qe (zA (w9b ?_))
 refine qD rfl (zU (cs := [u]) ag26 sz26 rfl (fun j u hj => (cC ae.pins d) _ _ _ (ab _ _ (by simpa using hj)))) (qI rfl (zP (vs := [.agg #[u]]) Tryz.func21 nm21 rfl rfl rfl ?_))
 refine cD (rK ae.pins (hu.mono (cB k d))) ?_
 rintro _ b8 ⟨b9, rfl, a⟩
 refine rt9 ?_
 have s := ae.tr a
 have ai := a4.ext a
 refine qD rfl (xN rfl) (qM (.bool (!(decP (GoodS ns)))) ?_)
 refine qbn (t := 10) rfl (fun af => ?_) (fun af => ?_)
 refine qN (zU (cs := [v]) ag26 sz26 rfl (fun j u hj => (cC s.pins a.le) _ _ _ (ad _ _ (by simpa using hj)))) ?_
 refine q1g rfl rfl rfl rfl rfl rfl (zP (vs := [.agg #[v]]) Tryz.func21 nm21 rfl rfl rfl ?_)
 refine cD (rK s.pins (hv.mono (cB (cB k d) a.le))) ?_
 rintro _ ca ⟨cb, rfl, c⟩
 refine rt9 ?_
 have l := s.tr c
 have aj := ai.ext c
 refine qN (xN rfl) ?_
 refine qD rfl (yM (v := .bool (!(decP (GoodS bs)))) rfl rfl) (qM (.bool (!(decP (GoodS bs)))) ?_)
 refine qbn (t := 15) rfl (fun ag => ?_) (fun ag => ?_)
 have hga : GoodP ns := goodB_true.1 ((mD ns).symm.trans af)
 have hgb : GoodP bs := goodB_true.1 ((mD bs).symm.trans ag)
 have hla := hga.lo
 have hlb := hgb.lo
 have hha := hga.hi
 have hhb := hgb.hi
 refine qN (zU (cs := [u]) ag26 sz26 rfl (fun j u hj => (cC l.pins (cB (cB d a.le) c.le)) _ _ _ (ab _ _ (by simpa using hj)))) ?_
 refine qN (zU (cs := [v]) ag26 sz26 rfl (fun j u hj => (cC l.pins (cB a.le c.le)) _ _ _ (ad _ _ (by simpa using hj)))) ?_
 refine q1g rfl rfl rfl rfl rfl rfl (zP (vs := [.agg #[u], .agg #[v]]) Tryz.func30 nm30 rfl rfl rfl ?_)
 refine cD (jU l.pins (hu.mono (cB (cB (cB k d) a.le) c.le)) (hv.mono (cB (cB (cB k d) a.le) c.le)) ⟨jL hga, hla⟩ ⟨jL hgb, hlb⟩ (by omega)) ?_
 rintro _ cc ⟨cd, rfl, m⟩
 refine rt9 ?_
 have o := l.tr m
 have ak := aj.ext m
 refine qN (xN rfl) ?_
 refine qD rfl (yM (v := .bool (!(decP (geG (gOf ns) (gOf bs))))) rfl rfl) (qe (zA ?_))
 refine qO rfl rfl (fun ah => ?_) (fun ah => ?_)
 refine cN (w9a ?_)
 have hge := decP_true.1 ah
 refine qD rfl (zU (cs := [u]) ag26 sz26 rfl (fun j u hj => (cC o.pins (cB (cB (cB d a.le) c.le) m.le)) _ _ _ (ab _ _ (by simpa using hj)))) (qD rfl (zU (cs := [v]) ag26 sz26 rfl (fun j u hj => (cC o.pins (cB (cB a.le c.le) m.le)) _ _ _ (ad _ _ (by simpa using hj)))) (qI rfl (zP (vs := [.agg #[u], .agg #[v]]) Tryz.func32 nm32 rfl rfl rfl ?_)))
 refine cD (eA o.pins (hu.mono (cB (cB (cB (cB k d) a.le) c.le) m.le)) (hv.mono (cB (cB (cB (cB k d) a.le) c.le) m.le)) hga hgb) ?_
 rintro _ ce ⟨a7, cf, rfl, a8, al⟩
 refine rt9 ?_
 have am := o.tr al
 have a9 := ak.ext al
 refine qI rfl (zP (vs := [a7]) Tryz.func31 nm31 rfl rfl rfl ?_)
 refine cD (l15Cut_spec am.pins a8 (fV hga hgb hge)) ?_
 rintro _ cg ⟨b, ch, rfl, x, an⟩
 refine rt9 ?_
 have y := am.tr an
 have ao := a9.ext an
 refine qM b ?_
 refine qe (zA (w9b ?_))
 refine qM b ?_
 refine qD rfl (zN dG (v := b) rfl x) (qD rfl (jR rfl rfl) (qe (zA ?_)))
 refine yA (p := (200 : Int) < ((cutL (fullL ns bs)).length : Int)) rfl rfl (fun ba => ?_) (fun ba => ?_)
 refine w9d ?_
 refine qD rfl (xH [vN] [vN] [] dI zr29 rfl pl29 rfl (fun _ h => by cases h) rfl) (q0 rfl rfl rfl (o_stp (cs' := [vN]) (us := [vN]) (v := .agg #[vN]) sz29 rfl rfl rfl (yG (by rfl)) y.pins ao (cE rfl) rfl (fun ci bb bc bd cj => ?_)))
 have be := y.write bc bd ((zW q))
 refine qM (.bool false) ?_
 refine qe (zA ?_)
 refine cO (zT (qV (cs := [vN]) (v := .bool false) rfl rfl rfl rfl rfl ag29 sz29 (fun j u hj => by rw [cR]; exact bb.cell hj) ?_))
 obtain ⟨f, i⟩ := @kG ns bs (fun g => absurd g.le (by omega))
 rw [f, i]
 exact ⟨_, _, rfl, (xV _ _), be⟩
 refine cN (w9a ?_)
 refine qM b ?_
 refine qD rfl (xH [vN] [b] [(0, b, [b])] dI zr29 rfl pl29 rfl (cM.2 ⟨(yX x.one), (fun _ h => by cases h)⟩) rfl) (q0 rfl rfl rfl (o_stp (cs' := [b]) (us := [b]) (v := .agg #[b]) sz29 rfl rfl rfl (yG x.one) y.pins ao (cE rfl) rfl (fun ck bf bg bh cl => ?_)))
 have bi := y.write bg bh ((zW q))
 refine qM (.bool true) ?_
 refine qe (zA ?_)
 refine cO (zT (qV (cs := [b]) (v := .bool true) rfl rfl rfl rfl rfl ag29 sz29 (fun j u hj => by rw [cR]; exact bf.cell hj) ?_))
 obtain ⟨f, i⟩ := @fR ns bs ⟨hga, hgb, hge, by omega⟩
 rw [f, i]
 exact ⟨_, _, rfl, x, bi⟩
 refine w9d ?_
 refine qD rfl (xH [vN] [vN] [] dI zr29 rfl pl29 rfl (fun _ h => by cases h) rfl) (q0 rfl rfl rfl (o_stp (cs' := [vN]) (us := [vN]) (v := .agg #[vN]) sz29 rfl rfl rfl (yG (by rfl)) o.pins ak (cE rfl) rfl (fun cm bj bk bl cn => ?_)))
 have bm := o.write bk bl ((zW q))
 refine qM (.bool false) ?_
 refine qe (zA ?_)
 refine cO (zT (qV (cs := [vN]) (v := .bool false) rfl rfl rfl rfl rfl ag29 sz29 (fun j u hj => by rw [cR]; exact bj.cell hj) ?_))
 obtain ⟨f, i⟩ := @kG ns bs (fun g => decP_false.1 ah g.ge)
 rw [f, i]
 exact ⟨_, _, rfl, (xV _ _), bm⟩
 refine qW ?_
 refine qW ?_
 refine qW ?_
 refine qW ?_
 refine qD rfl (yL (v := .bool true) rfl rfl) (qe (zA ?_))
 refine xY rfl rfl (w9d ?_)
 refine qD rfl (xH [vN] [vN] [] dI zr29 rfl pl29 rfl (fun _ h => by cases h) rfl) (q0 rfl rfl rfl (o_stp (cs' := [vN]) (us := [vN]) (v := .agg #[vN]) sz29 rfl rfl rfl (yG (by rfl)) l.pins aj (cE rfl) rfl (fun co bn bo bp cp => ?_)))
 have bq := l.write bo bp ((zW q))
 refine qM (.bool false) ?_
 refine qe (zA ?_)
 refine cO (zT (qV (cs := [vN]) (v := .bool false) rfl rfl rfl rfl rfl ag29 sz29 (fun j u hj => by rw [cR]; exact bn.cell hj) ?_))
 obtain ⟨f, i⟩ := @kG ns bs (fun g => goodB_false.1 ((mD bs).symm.trans ag) g.gb)
 rw [f, i]
 exact ⟨_, _, rfl, (xV _ _), bq⟩
 refine qW ?_
 refine qW ?_
 refine qW ?_
 refine qD rfl (yL (v := .bool true) rfl rfl) (qM (.bool true) ?_)
 refine qW ?_
 refine qW ?_
 refine qW ?_
 refine qW ?_
 refine qD rfl (yL (v := .bool true) rfl rfl) (qe (zA ?_))
 refine xY rfl rfl (w9d ?_)
 refine qD rfl (xH [vN] [vN] [] dI zr29 rfl pl29 rfl (fun _ h => by cases h) rfl) (q0 rfl rfl rfl (o_stp (cs' := [vN]) (us := [vN]) (v := .agg #[vN]) sz29 rfl rfl rfl (yG (by rfl)) s.pins ai (cE rfl) rfl (fun cq br bt bu cr => ?_)))
 have bv := s.write bt bu ((zW q))
 refine qM (.bool false) ?_
 refine qe (zA ?_)
 refine cO (zT (qV (cs := [vN]) (v := .bool false) rfl rfl rfl rfl rfl ag29 sz29 (fun j u hj => by rw [cR]; exact br.cell hj) ?_))
 obtain ⟨f, i⟩ := @kG ns bs (fun g => goodB_false.1 ((mD ns).symm.trans af) g.ga)
 rw [f, i]
 exact ⟨_, _, rfl, (xV _ _), bv⟩
end PF4
namespace Q1
theorem mk3 : (Tryz.prog.info? 3).map (fun i => (i.size, i.bytes, i.zero)) = some (1, 8, some (.int .i64 0)) := by kernel_rfl
theorem jN {w : World} {G : Pin} {u v : Value} {xs ys : List Int} (hP : Pins G w) (hu : RSl eInt G u xs) (hv : RSl eInt G v ys) (hs : xs.length ≤ 1048576) (hb : ∀ i, i < xs.length → 0 ≤ xs.getD i 0 ∧ xs.getD i 0 < ys.length) :
  Calls Tryz.prog 57 #[u, v] w fun e w' => ∃ (u : Value) (G' : Pin), e = .returned u ∧ Own eInt 3 G' w' w.heap.size u (atL ys xs) ∧ Ext noS G w G' w' := by
 refine yC (n := 27) Tryz.func57 Tryz.ntmps57 rfl rfl ?_
 have d := exr noS hP
 have hm := hu.max
 have hal : (atL ys xs).length = xs.length := yZ
 have hrl : (List.replicate xs.length (0 : Int)).length = xs.length := List.length_replicate
 refine w9d ?_
 refine qM vN ?_
 refine qe (w9a ?_)
 refine qM u ?_
 refine qD rfl (zN dC (v := u) rfl hu) (qI rfl (vH (E := eInt) 0 8 (vJ 0) dC mk3 (fun _ => rfl) rfl rfl d.pins (by omega) (by omega) (by omega) (fun a g h l m ab => ?_)))
 have o := d.step l m
 have q : Own eInt 3 G g w.heap.size a (List.replicate xs.length 0) := h.weaken d.size
 have ac : (List.replicate xs.length 0).length = xs.length := List.length_replicate ..
 refine qM a ?_
 refine qe (zA (w9b ?_))
 refine qM u ?_
 refine qD rfl (zN dC (v := u) rfl hu) (qM (vJ 0) ?_)
 refine qe (zA ?_)
 refine zY (yN (fun k en W => ∃ (f : Nat → Value) (j : Nat) (os : List Int), en = (upd (upd (upd (upd (upd (upd f 1 v) 4 vN) 5 a) 11 u) 12 (vJ (xs.length : Int))) 13 (vJ (j : Int))) ∧ k = xs.length - j ∧ Ext noS G w G W ∧ (j ≤ xs.length) ∧ (os = (atL ys xs).take j ++ (List.replicate xs.length 0).drop j) ∧ (os.length = xs.length) ∧ (Own eInt 3 G W w.heap.size a (os))) _ ⟨_, 0, List.replicate xs.length 0, (pS 13 (pS 12 (pS 11 (pS 5 (pS 4 (pU 1)))))), rfl, o, cI _, rfl, hrl, q⟩ ?_)
 rintro ad _ ae ⟨f, j, os, rfl, af, b, hj, hr, hol, c⟩
 refine w9d ?_
 refine qD rfl (yQ rfl rfl) (qe (zA (zB ?_)))
 refine yA (p := ((j : Int) : Int) < (xs.length : Int)) rfl rfl (fun s => ?_) (fun s => ?_)
 have hbj := hb j (by omega)
 refine cN (zA (zB ?_))
 refine zY (w9d ?_)
 refine qM (vJ (j : Int)) ?_
 refine qD rfl (zE dC sz3 (v := u) rfl rfl hu (by omega) (by omega)) (qD rfl (zL (r := xs.getD j 0) rfl ag3 (z := (j : Int)) rfl hu b.pins (by omega) (by omega)) (qM (vJ (j : Int)) ?_))
 refine qM (vJ (xs.getD j 0)) ?_
 refine qe (zA (zC ?_))
 refine qM a ?_
 refine qM (vJ (j : Int)) ?_
 refine qM v ?_
 refine qM (vJ (xs.getD j 0)) ?_
 refine qD rfl (zE dC sz3 (v := v) rfl rfl hv (by omega) (by omega)) (qD rfl (zL (r := ys.getD (xs.getD j 0).toNat 0) rfl ag3 (z := xs.getD j 0) rfl hv b.pins (by omega) (by omega)) (qD rfl (zE dC sz3 (v := a) rfl rfl c.read (by omega) (by omega)) (q0 rfl rfl rfl (qU (E := eInt) (v := a) (u := vJ (ys.getD (xs.getD j 0).toNat 0)) (z := (j : Int)) (ys.getD (xs.getD j 0).toNat 0) sz3 rfl rfl rfl rfl b.pins c (by omega) (by omega) (fun ag t x y ah => ?_)))))
 have aa := b.write x y ((yE c))
 refine qe (w9c ?_)
 refine qD rfl (yO rfl rfl (by omega)) (qM (vJ ((j : Int) + 1)) ?_)
 refine qe (yD (⟨_, ?_, _, rfl, _, j + 1, os.set j (ys.getD (xs.getD j 0).toNat 0), (pS 13 (pS 12 (pS 11 (pS 5 (pS 4 (pU 1)))))), rfl, aa, (by omega), (by rw [hr]; exact cur_set 0 (by omega) (by omega) (at_getD (by omega))), ((cS ..).trans hol), t⟩))
 omega
 refine cP (zZ (yJ (yI (w9a ?_))))
 refine qM a ?_
 refine qM a ?_
 refine qe (zA ?_)
 refine cO (zT (zS (v := a) rfl rfl rfl ?_))
 rw [cur_end (by omega) (by omega)] at hr
 exact ⟨_, _, rfl, (by rw [← hr]; exact c), b⟩
end Q1
namespace PF5
open B1 Q1
theorem mk3 : (Tryz.prog.info? 3).map (fun i => (i.size, i.bytes, i.zero)) = some (1, 8, some (.int .i64 0)) := by kernel_rfl
theorem mk4 : (Tryz.prog.info? 4).map (fun i => (i.size, i.bytes, i.zero)) = some (1, 1, some (.bool false)) := by kernel_rfl
theorem pl29 : (Tryz.prog.underlying 29).bind (placesD Tryz.prog) = some [(0, 1)] := by kernel_rfl
theorem pl53 : (Tryz.prog.underlying 53).bind (placesD Tryz.prog) = some [(0, 1), (1, 1), (2, 1), (3, 1)] := by kernel_rfl
theorem sQ {w : World} {G : Pin} {p : Value} {L : List Cl} (hP : Pins G w) (hp : RSl eClaim G p L) (hL : LOk L) :
  Calls Tryz.prog 29 #[p] w fun e w' => ∃ (u : Value) (G' : Pin), e = .returned (.tuple #[.agg #[u], .bool (prnB L)]) ∧ DPrf 53 3 G' w' w.heap.size w'.heap.size u (prnL L) ∧ Ext noS G w G' w' := by
 refine yC (n := 107) Tryz.func29 Tryz.ntmps29 rfl rfl ?_
 have bv := exr noS hP
 have c1 : Lvs 3 G w w.heap.size w.heap.size [] := Lvs.nil
 have hLp := hL.pos
 have hLh := hL.hi
 have hrl : (List.replicate L.length false).length = L.length := by simp
 refine w9d ?_
 refine qI rfl (yK [vN] zr29 rfl bv.pins (fun m w2 ez c2 e0 c3 => ?_))
 have bw := bv.step e0 c3
 have c4 := (c1.below c3).top
 have e1 : ApL [] (some m) := ApL.fresh c1 (fun k hk => by rw [cgA some ez] at hk; cases hk; exact cH _)
 have c5 : w.heap.size ≤ m := by have := bv.size; omega
 refine qM (.bool false) ?_
 refine qe (w9a ?_)
 refine qM p ?_
 refine qD rfl (zN dG (v := p) rfl hp) (qI rfl (vH (E := eBool) false 1 (.bool false) dL mk4 (fun _ => rfl) rfl rfl bw.pins (by omega) (by omega) (by omega) (fun d e2 e3 e4 bx c6 => ?_)))
 have c7 := bw.step e4 bx
 have e5 := c2.below bx
 have e6 := (c4.below bx).top
 have bz := zD c6 c2.lt
 have c8 : ApL [] d.ownBlock := ApL.fresh c4 (fun k hk => by rw [c6] at hk; cases hk; exact cH _)
 have b0 : Own eBool 4 G e2 w.heap.size d (List.replicate L.length false) := e3.weaken bw.size
 have jc : (List.replicate L.length false).length = L.length := List.length_replicate ..
 refine qM d ?_
 refine qe (w9a ?_)
 refine qM d ?_
 refine qM p ?_
 refine qD rfl (zN dG (v := p) rfl hp) (qD rfl (xX rfl rfl (by omega)) (qD rfl (zE dL sz4 (v := d) rfl rfl b0.read (by omega) (by omega)) (q0 rfl rfl rfl (qU (E := eBool) (v := d) (u := .bool true) (z := (L.length : Int) - 1) (true) sz4 rfl rfl rfl rfl c7.pins b0 (by omega) (by omega) (fun jd e7 e8 b2 je => ?_)))))
 have e9 := c7.write e8 b2 ((yE b0))
 have fa := e5.keptA b2 bz.symm
 have fb := (e6.kept b2 c8).top
 refine qe (zA (w9b ?_))
 refine qM p ?_
 refine qD rfl (zN dG (v := p) rfl hp) (qD rfl (xX rfl rfl (by omega)) (qM (vJ ((L.length : Int) - 1)) ?_))
 refine qe (zA ?_)
 refine zY (yN (fun k en W => ∃ (aa : Nat → Value) (z : Int) (nd : List Bool), en = (upd (upd (upd (upd (upd aa 0 p) 2 (vP m)) 3 (.bool false)) 4 d) 5 (vJ z)) ∧ k = (z + 1).toNat ∧ Ext noS G w G W ∧ (-1 ≤ z ∧ z ≤ (L.length : Int) - 1) ∧ (nd.length = L.length) ∧ (nd = needZ L z) ∧ (Own eBool 4 G W w.heap.size d (nd)) ∧ (Bx G W m [vN]) ∧ (Lvs 3 G W w.heap.size W.heap.size []) ∧ (ApL [] d.ownBlock) ∧ (ApL [] (some m))) _ ⟨_, ((L.length : Int) - 1), (List.replicate L.length false).set ((L.length : Int) - 1).toNat true, (pS 5 (pS 4 (pS 3 (pS 2 (pU 0))))), rfl, e9, (by omega), (by simp), (rG L).symm, e7, fa, fb, c8, e1⟩ ?_)
 rintro jf _ jg ⟨aa, z, nd, rfl, jh, an, hz, hndl, hnd, aw, ba, bb, b3, b4⟩
 refine w9b ?_
 refine qM (vJ z) ?_
 refine qD rfl (vI rfl rfl) (qe (zA ?_))
 refine yA (p := (0 : Int) ≤ z) rfl rfl (fun fc => ?_) (fun fc => ?_)
 have hlz := hL.ln z.toNat (by omega)
 refine cN (zA (zB ?_))
 refine zY (w9d ?_)
 refine qM d ?_
 refine qM (vJ z) ?_
 refine qD rfl (zE dL sz4 (v := d) rfl rfl aw.read (by omega) (by omega)) (qD rfl (xQ (r := nd.getD (z).toNat false) rfl ag4 (z := z) rfl aw.read (cL an.pins d) (by omega) (by omega)) (qe (zA ?_)))
 refine c_if rfl rfl (fun b5 => ?_) (fun b5 => ?_)
 refine w9b ?_
 refine qM p ?_
 refine qM (vJ z) ?_
 refine qD rfl (zE dG sz53 (v := p) rfl rfl hp (by omega) (by omega)) (qD rfl (yP (off := 2) dE rfl rfl nz40 (z := z) (k := 0) rfl hp (by omega) (by omega)) ?_)
 obtain ⟨ji, fd, jj, fe⟩ := qE (j := (z).toNat) default (hp.at (z := z) (by omega) (by omega)) rfl
 obtain ⟨b6, jk, rfl, bc, ff⟩ := fd
 have jl := bc.max
 have jm := ff.max
 refine qD rfl (fe 2 _ rfl ag40 rfl an.pins) (qD rfl (zN dC (v := b6) rfl bc) (qM (vJ 0) ?_))
 refine qe (zA ?_)
 refine zY (yN (fun k en W => ∃ (aa : Nat → Value) (q1 : Nat) (ao : List Bool), en = (upd (upd (upd (upd (upd (upd (upd (upd aa 0 p) 2 (vP m)) 3 (.bool false)) 4 d) 5 (vJ z)) 37 b6) 38 (vJ (((L.getD (z).toNat default).r).length : Int))) 39 (vJ (q1 : Int))) ∧ k = (L.getD z.toNat default).r.length - q1 ∧ Ext noS G w G W ∧ (q1 ≤ (L.getD z.toNat default).r.length) ∧ (ao.length = L.length) ∧ (ao = needAll nd ((L.getD z.toNat default).r.take q1)) ∧ (Own eBool 4 G W w.heap.size d (ao)) ∧ (Bx G W m [vN]) ∧ (Lvs 3 G W w.heap.size W.heap.size []) ∧ (ApL [] d.ownBlock) ∧ (ApL [] (some m))) _ ⟨_, 0, nd, (pS 39 (pS 38 (pS 37 (pS 5 (pS 4 (pS 3 (pS 2 (pU 0)))))))), rfl, an, cI _, hndl, rfl, aw, ba, bb, b3, b4⟩ ?_)
 rintro jn _ jo ⟨aa, q1, ao, rfl, jp, a1, jq, c9, da, bd, db, dc, b7, dd⟩
 refine w9d ?_
 refine qD rfl (yQ rfl rfl) (qe (zA (zB ?_)))
 refine yA (p := ((q1 : Int) : Int) < (((L.getD (z).toNat default).r).length : Int)) rfl rfl (fun fg => ?_) (fun fg => ?_)
 have jr := hL.r (j := z.toNat) (q := q1) (by omega) (by omega)
 refine cN (zA (zB ?_))
 refine zY (w9d ?_)
 refine qD rfl (zE dC sz3 (v := b6) rfl rfl bc (by omega) (by omega)) (qD rfl (zL (r := ((L.getD (z).toNat default).r).getD q1 0) rfl ag3 (z := (q1 : Int)) rfl bc a1.pins (by omega) (by omega)) (qM (vJ (((L.getD (z).toNat default).r).getD q1 0)) ?_))
 refine qe (zA (zC ?_))
 refine qM d ?_
 refine qM (vJ (((L.getD (z).toNat default).r).getD q1 0)) ?_
 refine qD rfl (zE dL sz4 (v := d) rfl rfl bd.read (by omega) (by omega)) (q0 rfl rfl rfl (qU (E := eBool) (v := d) (u := .bool true) (z := ((L.getD (z).toNat default).r).getD q1 0) (true) sz4 rfl rfl rfl rfl a1.pins bd (by omega) (by omega) (fun js fh fi b8 jt => ?_)))
 have fj := a1.write fi b8 ((yE bd))
 have fk := db.keptA b8 bz.symm
 have fl := (dc.kept b8 b7).top
 refine qe (w9c ?_)
 refine qD rfl (yO rfl rfl (by omega)) (qM (vJ ((q1 : Int) + 1)) ?_)
 refine qe (yD (⟨_, ?_, _, rfl, _, q1 + 1, ao.set ((L.getD z.toNat default).r.getD q1 0).toNat true, (pS 39 (pS 38 (pS 37 (pS 5 (pS 4 (pS 3 (pS 2 (pU 0)))))))), rfl, fj, (by omega), ((cS ..).trans c9), (by rw [da]; exact kY (by omega)), fh, fk, fl, b7, dd⟩))
 omega
 refine cP (zZ (yJ (yI (w9a ?_))))
 refine qM p ?_
 refine qM (vJ z) ?_
 refine qD rfl (zE dG sz53 (v := p) rfl rfl hp (by omega) (by omega)) (qD rfl (yP (off := 3) dE rfl rfl nz40 (z := z) (k := 0) rfl hp (by omega) (by omega)) ?_)
 obtain ⟨ju, fm, jv, fn⟩ := qE (j := (z).toNat) default (hp.at (z := z) (by omega) (by omega)) rfl
 obtain ⟨jw, b9, rfl, fo, be⟩ := fm
 have jx := fo.max
 have jy := be.max
 refine qD rfl (fn 3 _ rfl ag40 rfl a1.pins) (qD rfl (zN dC (v := b9) rfl be) (qM (vJ 0) ?_))
 refine qe (zA ?_)
 refine zY (yN (fun k en W => ∃ (aa : Nat → Value) (x : Nat) (ax : List Bool), en = (upd (upd (upd (upd (upd (upd (upd (upd aa 0 p) 2 (vP m)) 3 (.bool false)) 4 d) 5 (vJ z)) 51 b9) 52 (vJ (((L.getD (z).toNat default).l).length : Int))) 53 (vJ (x : Int))) ∧ k = (L.getD z.toNat default).l.length - x ∧ Ext noS G w G W ∧ (x ≤ (L.getD z.toNat default).l.length) ∧ (ax.length = L.length) ∧ (ax = needAll ao ((L.getD z.toNat default).l.take x)) ∧ (Own eBool 4 G W w.heap.size d (ax)) ∧ (Bx G W m [vN]) ∧ (Lvs 3 G W w.heap.size W.heap.size []) ∧ (ApL [] d.ownBlock) ∧ (ApL [] (some m))) _ ⟨_, 0, ao, (pS 53 (pS 52 (pS 51 (pS 5 (pS 4 (pS 3 (pS 2 (pU 0)))))))), rfl, a1, cI _, c9, rfl, bd, db, dc, b7, dd⟩ ?_)
 rintro jz _ j0 ⟨aa, x, ax, rfl, j1, bf, j2, de, df, bg, dg, dh, ca, di⟩
 refine w9d ?_
 refine qD rfl (yQ rfl rfl) (qe (zA (zB ?_)))
 refine yA (p := ((x : Int) : Int) < (((L.getD (z).toNat default).l).length : Int)) rfl rfl (fun fp => ?_) (fun fp => ?_)
 have j3 := hL.l (j := z.toNat) (q := x) (by omega) (by omega)
 refine cN (zA (zB ?_))
 refine zY (w9d ?_)
 refine qD rfl (zE dC sz3 (v := b9) rfl rfl be (by omega) (by omega)) (qD rfl (zL (r := ((L.getD (z).toNat default).l).getD x 0) rfl ag3 (z := (x : Int)) rfl be bf.pins (by omega) (by omega)) (qM (vJ (((L.getD (z).toNat default).l).getD x 0)) ?_))
 refine qe (zA (zC ?_))
 refine qM d ?_
 refine qM (vJ (((L.getD (z).toNat default).l).getD x 0)) ?_
 refine qD rfl (zE dL sz4 (v := d) rfl rfl bg.read (by omega) (by omega)) (q0 rfl rfl rfl (qU (E := eBool) (v := d) (u := .bool true) (z := ((L.getD (z).toNat default).l).getD x 0) (true) sz4 rfl rfl rfl rfl bf.pins bg (by omega) (by omega) (fun j4 fq fr cb j5 => ?_)))
 have fs := bf.write fr cb ((yE bg))
 have ft := dg.keptA cb bz.symm
 have fu := (dh.kept cb ca).top
 refine qe (w9c ?_)
 refine qD rfl (yO rfl rfl (by omega)) (qM (vJ ((x : Int) + 1)) ?_)
 refine qe (yD (⟨_, ?_, _, rfl, _, x + 1, ax.set ((L.getD z.toNat default).l.getD x 0).toNat true, (pS 53 (pS 52 (pS 51 (pS 5 (pS 4 (pS 3 (pS 2 (pU 0)))))))), rfl, fs, (by omega), ((cS ..).trans de), (by rw [df]; exact kY (by omega)), fq, ft, fu, ca, di⟩))
 omega
 refine cP (zZ (yJ (yI (w9c ?_))))
 refine qM (vJ z) ?_
 refine qD rfl (xX rfl rfl (by omega)) (qM (vJ (z - 1)) ?_)
 refine qe (yD (⟨_, ?_, _, rfl, _, z - 1, ax, (pS 5 (pS 4 (pS 3 (pS 2 (pU 0))))), rfl, bf, (by omega), de, (by rw [gI (by omega) (by omega), ← hnd, mW b5, df, rH (by omega), da, rH (by omega)]), bg, dg, dh, ca, di⟩))
 omega
 refine cN (w9c ?_)
 refine qM (vJ z) ?_
 refine qD rfl (xX rfl rfl (by omega)) (qM (vJ (z - 1)) ?_)
 refine qe (yD (⟨_, ?_, _, rfl, _, z - 1, nd, (pS 5 (pS 4 (pS 3 (pS 2 (pU 0))))), rfl, an, (by omega), hndl, (by rw [gI (by omega) (by omega), ← hnd, sU b5]), aw, ba, bb, b3, b4⟩))
 omega
 refine cP (zZ (yJ (yI (w9a ?_))))
 refine qM p ?_
 refine qD rfl (zN dG (v := p) rfl hp) (qI rfl (vH (E := eInt) 0 8 (vJ 0) dC mk3 (fun _ => rfl) rfl rfl an.pins (by omega) (by omega) (by omega) (fun g fv fw fx bh cc => ?_)))
 have cd := an.step fx bh
 have dj := aw.below bh
 have dk := ba.below bh
 have dl := (bb.below bh).top
 have fy := zG cc aw.lt
 have fz := zD cc ba.lt
 have f0 : ApL [] g.ownBlock := ApL.fresh bb (fun k hk => by rw [cc] at hk; cases hk; exact cH _)
 have dm : Own eInt 3 G fv w.heap.size g (List.replicate L.length 0) := fw.weaken an.size
 have j6 : (List.replicate L.length 0).length = L.length := List.length_replicate ..
 refine qM g ?_
 refine qe (w9a ?_)
 refine qD rfl (xH [vN] [vN] [] dI zr29 rfl pl29 rfl (fun _ h => by cases h) rfl) (qI rfl (yK [vN] zr29 rfl cd.pins (fun ab j7 bi f1 f2 a2 => ?_)))
 have dn := cd.step f2 a2
 have f3 := dj.below a2
 have f4 := dm.below a2
 have f5 := dk.below a2
 have f6 := (dl.below a2).top
 have dp := zG (cgA some bi) dj.lt
 have ce := zG (cgA some bi) dm.lt
 have dq := zD (cgA some bi) dk.lt
 have dr : ApL [] (some ab) := ApL.fresh dl (fun k hk => by rw [cgA some bi] at hk; cases hk; exact cH _)
 have ds : w.heap.size ≤ ab := by have := cd.size; omega
 refine q0 rfl rfl rfl (o_stp (cs' := [vN]) (us := [vN]) (v := .agg #[vN]) sz29 rfl rfl rfl (yG (by rfl)) dn.pins f1 (cE rfl) rfl (fun j8 f7 f8 a3 j9 => ?_))
 have f9 := dn.write f8 a3 ((zW ds))
 have ga := f3.keptA a3 dp.symm
 have gb := f4.keptA a3 ce.symm
 have gc := f5.keptA a3 dq.symm
 have gd := (f6.kept a3 dr).top
 refine qe (zA (w9b ?_))
 refine qM p ?_
 refine qD rfl (zN dG (v := p) rfl hp) (qM (vJ 0) ?_)
 refine qe (zA ?_)
 refine zY (yN (fun k en W => ∃ (aa : Nat → Value) (kc : Nat) (nms : List Int) (nv : Value) (ps : List C4) (os : List Cl) (LV : List Leaf) (ac : Pin), en = (upd (upd (upd (upd (upd (upd (upd (upd aa 2 (vP m)) 3 (.bool false)) 4 d) 10 g) 11 (vP ab)) 65 p) 66 (vJ (L.length : Int))) 67 (vJ (kc : Int))) ∧ k = L.length - kc ∧ Ext noS G w ac W ∧ Pin.le G ac ∧ (kc ≤ L.length) ∧ (nms.length = L.length) ∧ (cutN L nd kc = (nms, os)) ∧ (ps.length = os.length) ∧ (ps.map ab4 = os.map prC) ∧ (LV = lvC ps os) ∧ (Own eInt 3 ac W w.heap.size g (nms)) ∧ (Own eCl4 53 ac W w.heap.size nv (ps)) ∧ (Own eBool 4 ac W w.heap.size d (nd)) ∧ (Bx ac W m [vN]) ∧ (Bx ac W ab [nv]) ∧ (Apart g.ownBlock nv.ownBlock) ∧ (Apart nv.ownBlock d.ownBlock) ∧ (Apart nv.ownBlock (some m)) ∧ (Apart nv.ownBlock (some ab)) ∧ (Lvs 3 ac W w.heap.size W.heap.size LV) ∧ (ApL LV g.ownBlock) ∧ (ApL LV nv.ownBlock) ∧ (ApL LV d.ownBlock) ∧ (ApL LV (some m)) ∧ (ApL LV (some ab))) _ ⟨_, 0, List.replicate L.length 0, vN, [], [], [], G, (pS 67 (pS 66 (pS 65 (pS 11 (pS 10 (pS 4 (pS 3 (pU 2)))))))), rfl, f9, cJ _, cI _, (by simp), rfl, rfl, rfl, rfl, gb, (Own.nil _ _ _ _ _), ga, gc, f7, apart_none.symm, apart_none, apart_none, apart_none, gd, f0, (fun _ _ => apart_none.symm), b3, b4, dr⟩ ?_)
 rintro ka _ kb ⟨aa, kc, nms, nv, ps, os, LV, ac, rfl, kd, af, a4, hk, hat, hc, hpl, hab, hLV, dt, a5, du, bj, bk, bl, cf, bm, cg, ch, ci, bn, dv, cj, ck⟩
 have hcl := (vT L nd kc).2
 rw [hc] at hcl
 have ke : os.length ≤ kc := hcl
 refine w9d ?_
 refine qD rfl (yQ rfl rfl) (qe (zA (zB ?_)))
 refine yA (p := ((kc : Int) : Int) < (L.length : Int)) rfl rfl (fun ge => ?_) (fun ge => ?_)
 have hlk := hL.ln kc (by omega)
 refine cN (zA (zB ?_))
 refine zY (w9d ?_)
 refine qM (vJ (kc : Int)) ?_
 refine qD rfl (zE dG sz53 (v := p) rfl rfl hp (by omega) (by omega)) ?_
 obtain ⟨kf, gf, gg, kg⟩ := qE (j := kc) default (hp.at (z := (kc : Int)) (by omega) (by omega)) rfl
 obtain ⟨a6, a7, rfl, cl, cm⟩ := gf
 have kh := cl.max
 have ki := cm.max
 refine qD rfl (gg ag53 sz53 rfl (cC af.pins a4)) (qI rfl (yK [vJ 0, vJ 0, vN, vN] zr53 rfl af.pins (fun dw kj ay gh gi ap => ?_)))
 have dx := af.step gi ap
 have gj := dt.below ap
 have gk := a5.below ap
 have gl := du.below ap
 have gm := bj.below ap
 have gn := bk.below ap
 have gp := (ch.below ap).top
 have dy := zG (cgA some ay) dt.lt
 have dz := zG (cgA some ay) a5.lt
 have d0 := zG (cgA some ay) du.lt
 have d1 := zD (cgA some ay) bj.lt
 have d2 := zD (cgA some ay) bk.lt
 have d3 : ApL LV (some dw) := ApL.fresh ch (fun k hk => by rw [cgA some ay] at hk; cases hk; exact cH _)
 have d4 : w.heap.size ≤ dw := by have := af.size; omega
 refine qM (vJ (kc : Int)) ?_
 refine q0 rfl rfl rfl (o_stp (cs' := [vJ ((L.getD kc default).a), vJ ((L.getD kc default).b), a6, a7]) (us := [vJ ((L.getD kc default).a), vJ ((L.getD kc default).b), a6, a7]) (v := .agg #[vJ ((L.getD kc default).a), vJ ((L.getD kc default).b), a6, a7]) sz53 rfl rfl rfl (jS (by rfl) (by rfl) cl.one cm.one) dx.pins gh (cE rfl) rfl (fun kk gq gr aq kl => ?_))
 have gs := dx.write gr aq ((zW d4))
 have gt := gj.keptA aq dy.symm
 have gu := gk.keptA aq dz.symm
 have gv := gl.keptA aq d0.symm
 have gw := gm.keptA aq d1.symm
 have gx := gn.keptA aq d2.symm
 have gy := (gp.kept aq d3).top
 obtain ⟨ag, ah, bo, bp, az⟩ := gq.shut gs d4
 have bq := gt.moreA ah az dy.symm
 have cn := gu.moreA ah az dz.symm
 have br := gv.moreA ah az d0.symm
 have d5 := gw.moreA az d1.symm
 have co := gx.moreA az d2.symm
 have d6 := gy.more ah az d3
 refine qe (w9a ?_)
 refine qM d ?_
 refine qM (vJ (kc : Int)) ?_
 refine qD rfl (zE dL sz4 (v := d) rfl rfl br.read (by omega) (by omega)) (qD rfl (xQ (r := nd.getD kc false) rfl ag4 (z := (kc : Int)) rfl br.read (cL bo.pins d) (by omega) (by omega)) (qe (zA ?_)))
 refine c_if rfl rfl (fun cp => ?_) (fun cp => ?_)
 refine w9d ?_
 refine qM g ?_
 refine qM (vJ (kc : Int)) ?_
 refine qD rfl (zI (k := 0) rfl dI rfl nz27 rfl) (qD rfl (zJ (u := nv) ag27 rfl (co.cell (o := 0) rfl)) (qD rfl (zN dG (v := nv) rfl cn.read) (qD rfl (zE dC sz3 (v := g) rfl rfl bq.read (by omega) (by omega)) (q0 rfl rfl rfl (qU (E := eInt) (v := g) (u := vJ (ps.length : Int)) (z := (kc : Int)) ((ps.length : Int)) sz3 rfl rfl rfl rfl bo.pins bq (by omega) (by omega) (fun bs gz g0 a0 km => ?_))))))
 have d7 := bo.write g0 a0 ((yE bq))
 have g1 := cn.keptA a0 bl.symm
 have g2 := br.keptA a0 fy.symm
 have g3 := d5.keptA a0 fz.symm
 have g4 := co.keptA a0 ce
 have g5 := (d6.kept a0 ci).top
 refine qe (zA ?_)
 refine yT (S := fun wz => BxR wz ab [nv] ∧ Pins ag wz) (last := 18) (by kernel_rfl) rfl ?_
 have ai := bdr bs
 have g6 := d7.pins.below ai
 have t := d7.step g6 ai
 have cq := gz.below ai
 have d8 := g1.below ai
 have d9 := g2.below ai
 have ea := g3.below ai
 have y := g4.below ai
 have eb := (g5.below ai).top
 refine dT (i := 0) rfl rfl (by kernel_rfl) (fun _ _ => zI (k := 0) rfl dI rfl nz27 rfl) ⟨y.reads, t.pins⟩ ?_
 refine dT (i := 1) rfl rfl (by kernel_rfl) (fun _ hS => zJ (u := nv) ag27 rfl (hS.1 0 _ rfl)) ⟨y.reads, t.pins⟩ ?_
 refine dT (i := 2) rfl rfl (by kernel_rfl) (fun _ _ => zI (k := 0) rfl dE rfl nz3 rfl) ⟨y.reads, t.pins⟩ ?_
 refine dT (i := 3) rfl rfl (by kernel_rfl) (fun _ hS => zJ (u := vJ ((L.getD kc default).a)) ag3 rfl (hS.2 _ _ _ (bp 0 _ rfl))) ⟨y.reads, t.pins⟩ ?_
 refine dT (i := 4) rfl rfl (by kernel_rfl) (fun _ _ => zI (k := 1) rfl dE rfl nz3 rfl) ⟨y.reads, t.pins⟩ ?_
 refine dT (i := 5) rfl rfl (by kernel_rfl) (fun _ hS => zJ (u := vJ ((L.getD kc default).b)) ag3 rfl (hS.2 _ _ _ (bp 1 _ rfl))) ⟨y.reads, t.pins⟩ ?_
 refine dT (i := 6) rfl rfl (by kernel_rfl) (fun _ _ => zI (k := 2) rfl dE rfl nz40 rfl) ⟨y.reads, t.pins⟩ ?_
 refine dT (i := 7) rfl rfl (by kernel_rfl) (fun _ hS => zJ (u := a6) ag40 rfl (hS.2 _ _ _ (bp 2 _ rfl))) ⟨y.reads, t.pins⟩ ?_
 refine dT (i := 8) rfl rfl (by kernel_rfl) (fun _ _ => zX (v := g) rfl) ⟨y.reads, t.pins⟩ ?_
 refine dT (i := 10) rfl rfl (by kernel_rfl) (fun _ _ => zI (k := 3) rfl dE rfl nz40 rfl) ⟨y.reads, t.pins⟩ ?_
 refine dT (i := 11) rfl rfl (by kernel_rfl) (fun _ hS => zJ (u := a7) ag40 rfl (hS.2 _ _ _ (bp 3 _ rfl))) ⟨y.reads, t.pins⟩ ?_
 refine dT (i := 12) rfl rfl (by kernel_rfl) (fun _ _ => zX (v := g) rfl) ⟨y.reads, t.pins⟩ ?_
 refine dP (i := 9) rfl rfl (zP (vs := [a6, g]) Tryz.func57 nm57 rfl rfl rfl ?_)
 refine cD (jN (cL t.pins g) ((cl.mono (cB a4 ah)).mono (Gadd.le _ _ _)) cq.read (by omega) (fun i hi => by have h := hL.r (j := kc) (by omega) hi; rw [cS]; omega)) ?_
 rintro _ ec ⟨f, kn, rfl, g7, ed⟩
 refine rt9 ?_
 have aj := kS t.pins ed
 have ar := g7.anti kR (cB (Gadd.le ag bs.drew g) ed.le)
 have a8 := t.step aj.pins aj.below
 have cr := cq.below aj.below
 have ee := d8.below aj.below
 have ef := d9.below aj.below
 have eg := ea.below aj.below
 have ct := y.below aj.below
 have eh := (eb.below aj.below).top
 have g8 := zR ar.lt cq.lt
 have ei := zR ar.lt d8.lt
 have g9 := zR ar.lt d9.lt
 have ha := zV ar.lt ea.lt
 have ej := zV ar.lt y.lt
 have hb : ApL LV f.ownBlock := ApL.fresh eb (fun k hk => (ar.lt k hk).1)
 have ek := ar.weaken t.size
 have ko : (atL ((nms).set kc (ps.length : Int)) ((L.getD kc default).r)).length = ((L.getD kc default).r).length := yZ
 refine ⟨fun _ => ⟨ct.reads, a8.pins⟩, ?_⟩
 refine dP (i := 13) rfl rfl (zP (vs := [a7, g]) Tryz.func57 nm57 rfl rfl rfl ?_)
 refine cD (jN (cL a8.pins g) ((cm.mono (cB a4 ah)).mono (Gadd.le _ _ _)) cr.read (by omega) (fun i hi => by have h := hL.l (j := kc) (by omega) hi; rw [cS]; omega)) ?_
 rintro _ hd ⟨s, kp, rfl, he, el⟩
 refine rt9 ?_
 have ad := kS a8.pins el
 have ak := he.anti kR (cB (Gadd.le ag ec g) el.le)
 have a9 := a8.step ad.pins ad.below
 have hf := cr.below ad.below
 have hg := ee.below ad.below
 have hh := ef.below ad.below
 have cu := ek.below ad.below
 have hl := eg.below ad.below
 have cv := ct.below ad.below
 have hm := (eh.below ad.below).top
 have hn := zR ak.lt cr.lt
 have em := zR ak.lt ee.lt
 have ho := zR ak.lt ef.lt
 have hq := zR ak.lt ek.lt
 have hr := zV ak.lt eg.lt
 have eo := zV ak.lt ct.lt
 have hs : ApL LV s.ownBlock := ApL.fresh eh (fun k hk => (ak.lt k hk).1)
 have cw := ak.weaken a8.size
 have kq : (atL ((nms).set kc (ps.length : Int)) ((L.getD kc default).l)).length = ((L.getD kc default).l).length := yZ
 refine ⟨fun _ => ⟨cv.reads, a9.pins⟩, ?_⟩
 refine dT (i := 14) rfl rfl (by kernel_rfl) (fun _ _ => xH [vJ 0, vJ 0, vN, vN] [vJ ((L.getD kc default).a), vJ ((L.getD kc default).b), f, s] [(0, (vJ ((L.getD kc default).a)), [vJ ((L.getD kc default).a)]), (1, (vJ ((L.getD kc default).b)), [vJ ((L.getD kc default).b)]), (2, f, [f]), (3, s, [s])] dE zr53 rfl pl53 rfl (cM.2 ⟨rfl, (cM.2 ⟨rfl, (cM.2 ⟨(yX cu.one), (cM.2 ⟨(yX cw.one), (fun _ h => by cases h)⟩)⟩)⟩)⟩) rfl) ⟨cv.reads, a9.pins⟩ ?_
 refine dP (i := 15) rfl rfl (xE (E := eCl4) (e := 53) [vJ ((L.getD kc default).a), vJ ((L.getD kc default).b), f, s] (((L.getD kc default).a, (L.getD kc default).b, f, s) : C4) dG sz53 zr53 ⟨rfl, cu.one, cw.one⟩ rfl (by decide) a9.pins (fun ep ht hu hv ae kr => ?_))
 have bt := a9.step hv ae
 have eq := hf.below ae
 have er := hg.below ae
 have es := hh.below ae
 have et := cu.below ae
 have eu := cw.below ae
 have ev := hl.below ae
 have cx := cv.below ae
 have ew := (hm.below ae).top
 have hw := hu.weaken a9.size
 refine ⟨fun _ => ⟨cx.reads, bt.pins⟩, ?_⟩
 refine dP (i := 16) rfl rfl (oA (E := eCl4) (v := nv) (u := ep) 64 dG ap53 (by decide) rfl rfl bt.pins er hw.src (bt.size) (fun au ks cy hx al av => ?_))
 have bu := bt.write hx al ((yE er))
 have hy := eq.keptA al bl
 have h0 := es.keptA al cf.symm
 have h1 := et.keptA al ei
 have h2 := eu.keptA al em
 have h3 := ev.keptA al bm.symm
 have cz := cx.keptA al cg.symm
 have h4 := (ew.kept al bn).top
 have h5 := zF bl av eq.lt
 have h6 := zF cf.symm av es.lt
 have h7 := zF ei av et.lt
 have h8 := zF em av eu.lt
 have h9 := zO bm.symm av ev.lt
 have ex := zO cg.symm av cx.lt
 have ia : ApL LV au.ownBlock := ApL.app ew bn av
 have kt := la1 ps (((L.getD kc default).a, (L.getD kc default).b, f, s) : C4)
 refine ⟨fun _ => ⟨cz.reads, bu.pins⟩, ?_⟩
 refine dT (i := 17) rfl rfl (by kernel_rfl) (fun _ _ => zI (k := 0) rfl dI rfl nz27 rfl) ⟨cz.reads, bu.pins⟩ ?_
 refine dO (i := 18) (xK (i := 18) rfl rfl rfl (yF rfl _) (o_stp (cs' := [au]) (us := [au]) (v := au) sz27 rfl rfl (jX cy.one) (yG cy.one) bu.pins cz (cE rfl) rfl (fun ku ib ic am kv => ?_)))
 have ie := bu.write ic am ((zW ds))
 have ig := hy.keptA am ce.symm
 have ih := h0.keptA am dp.symm
 have ii := h1.keptA am ej
 have ij := h2.keptA am eo
 have ik := cy.keptA am ex.symm
 have il := h3.keptA am dq.symm
 have im := (h4.kept am ck).top
 refine ⟨fun h => absurd rfl h, ?_⟩
 refine yH (by kernel_rfl) (w9c ?_)
 refine qD rfl (yO rfl rfl (by omega)) (qM (vJ ((kc : Int) + 1)) ?_)
 refine qe (yD ?_)
 have io := im.add ii hb
 have ip : ApL (LV ++ [(f, atL ((nms).set kc (ps.length : Int)) ((L.getD kc default).r))]) g.ownBlock := ci.add g8
 have iq : ApL (LV ++ [(f, atL ((nms).set kc (ps.length : Int)) ((L.getD kc default).r))]) d.ownBlock := dv.add g9
 have ir : ApL (LV ++ [(f, atL ((nms).set kc (ps.length : Int)) ((L.getD kc default).r))]) s.ownBlock := hs.add hq.symm
 have it : ApL (LV ++ [(f, atL ((nms).set kc (ps.length : Int)) ((L.getD kc default).r))]) au.ownBlock := ia.add h7
 have iu : ApL (LV ++ [(f, atL ((nms).set kc (ps.length : Int)) ((L.getD kc default).r))]) (some m) := cj.add ha
 have iv : ApL (LV ++ [(f, atL ((nms).set kc (ps.length : Int)) ((L.getD kc default).r))]) (some ab) := ck.add ej
 have iw := io.add ij ir
 have ix : ApL ((LV ++ [(f, atL ((nms).set kc (ps.length : Int)) ((L.getD kc default).r))]) ++ [(s, atL ((nms).set kc (ps.length : Int)) ((L.getD kc default).l))]) g.ownBlock := ip.add hn
 have iy : ApL ((LV ++ [(f, atL ((nms).set kc (ps.length : Int)) ((L.getD kc default).r))]) ++ [(s, atL ((nms).set kc (ps.length : Int)) ((L.getD kc default).l))]) d.ownBlock := iq.add ho
 have iz : ApL ((LV ++ [(f, atL ((nms).set kc (ps.length : Int)) ((L.getD kc default).r))]) ++ [(s, atL ((nms).set kc (ps.length : Int)) ((L.getD kc default).l))]) au.ownBlock := it.add h8
 have i0 : ApL ((LV ++ [(f, atL ((nms).set kc (ps.length : Int)) ((L.getD kc default).r))]) ++ [(s, atL ((nms).set kc (ps.length : Int)) ((L.getD kc default).l))]) (some m) := iu.add hr
 have i1 : ApL ((LV ++ [(f, atL ((nms).set kc (ps.length : Int)) ((L.getD kc default).r))]) ++ [(s, atL ((nms).set kc (ps.length : Int)) ((L.getD kc default).l))]) (some ab) := iv.add eo
 refine ⟨_, ?_, _, rfl, _, kc + 1, (nms).set kc (ps.length : Int), au, ps ++ ([(((L.getD kc default).a, (L.getD kc default).b, f, s) : C4)]), os ++ [(⟨(L.getD kc default).a, (L.getD kc default).b, atL ((nms).set kc (ps.length : Int)) ((L.getD kc default).r), atL ((nms).set kc (ps.length : Int)) ((L.getD kc default).l)⟩ : Cl)], (LV ++ [(f, atL ((nms).set kc (ps.length : Int)) ((L.getD kc default).r))]) ++ [(s, atL ((nms).set kc (ps.length : Int)) ((L.getD kc default).l))], ag, (pS 67 (pS 66 (pS 65 (pS 11 (pS 10 (pS 4 (pS 3 (pU 2)))))))), rfl, ie, (cB a4 ah), (by omega), ((cS ..).trans hat), ((tG hc cp).trans (by rw [hpl])), (by simp [hpl]), (ab_snoc (c := (⟨(L.getD kc default).a, (L.getD kc default).b, atL ((nms).set kc (ps.length : Int)) ((L.getD kc default).r), atL ((nms).set kc (ps.length : Int)) ((L.getD kc default).l)⟩ : Cl)) hab rfl), (lvC_snoc (c := (⟨(L.getD kc default).a, (L.getD kc default).b, atL ((nms).set kc (ps.length : Int)) ((L.getD kc default).r), atL ((nms).set kc (ps.length : Int)) ((L.getD kc default).l)⟩ : Cl)) hLV hpl), ig, ik, ih, il, ib, h5, h6.symm, h9.symm, ex.symm, iw, ix, iz, iy, i0, i1⟩
 omega
 refine cN (w9c ?_)
 refine qD rfl (yO rfl rfl (by omega)) (qM (vJ ((kc : Int) + 1)) ?_)
 refine qe (yD (⟨_, ?_, _, rfl, _, kc + 1, nms, nv, ps, os, LV, ag, (pS 67 (pS 66 (pS 65 (pS 11 (pS 10 (pS 4 (pS 3 (pU 2)))))))), rfl, bo, (cB a4 ah), (by omega), hat, (eR hc cp), hpl, hab, hLV, bq, cn, br, d5, co, bl, cf, bm, cg, d6, ci, bn, dv, cj, ck⟩))
 omega
 refine cP (zZ (yJ (yI (zA (w9b ?_)))))
 refine qD rfl (zI (k := 0) rfl dI rfl nz27 rfl) (qD rfl (zJ (u := nv) ag27 rfl (bk.cell (o := 0) rfl)) (qD rfl (zN dG (v := nv) rfl a5.read) (qD rfl (jR rfl rfl) (qe (zA ?_)))))
 refine yA (p := (200 : Int) < (ps.length : Int)) rfl rfl (fun i2 => ?_) (fun i2 => ?_)
 refine w9d ?_
 refine qD rfl (xH [vN] [vN] [] dI zr29 rfl pl29 rfl (fun _ h => by cases h) rfl) (q0 rfl rfl rfl (o_stp (cs' := [vN]) (us := [vN]) (v := .agg #[vN]) sz29 rfl rfl rfl (yG (by rfl)) af.pins bj (cE rfl) rfl (fun kw i3 i4 i5 kx => ?_)))
 have i6 := af.write i4 i5 ((zW c5))
 refine qM (.bool false) ?_
 refine qe (zA ?_)
 refine cO (zT (qV (cs := [vN]) (v := .bool false) rfl rfl rfl rfl rfl ag29 sz29 (fun j u hj => by rw [cR]; exact i3.cell hj) ?_))
 have hkn : kc = L.length := by omega
 rw [hkn, hnd, tN (show z = -1 by omega)] at hc
 have hcut : cutL L = os := by unfold cutL; rw [hc]
 have hpb : prnB L = false := by unfold prnB; rw [hcut]; exact decide_eq_false (by omega)
 have hpq : prnL L = [] := by unfold prnL; rw [hpb]; rfl
 rw [hpb, hpq]
 exact ⟨_, _, rfl, DPrf.nil, i6⟩
 refine cN (w9a ?_)
 refine qD rfl (zU (cs := [nv]) ag29 sz29 rfl (fun j u hj => bk.cell (by simpa using hj))) (q0 rfl rfl rfl (o_stp (cs' := [nv]) (us := [nv]) (v := .agg #[nv]) sz29 rfl rfl rfl (yG a5.one) af.pins bj (cE rfl) rfl (fun ky i7 i8 c0 kz => ?_)))
 have i9 := af.write i8 c0 ((zW c5))
 have ey := a5.keptA c0 bm
 have ja := (ch.kept c0 cj).top
 refine qM (.bool true) ?_
 refine qe (zA ?_)
 refine cO (zT (qV (cs := [nv]) (v := .bool true) rfl rfl rfl rfl rfl ag29 sz29 (fun j u hj => by rw [cR]; exact i7.cell hj) ?_))
 have hkn : kc = L.length := by omega
 rw [hkn, hnd, tN (show z = -1 by omega)] at hc
 have hcut : cutL L = os := by unfold cutL; rw [hc]
 have hap := bn
 have hlv := ja
 rw [hLV] at hap hlv
 have hpb : prnB L = true := by unfold prnB; rw [hcut]; exact decide_eq_true (by omega)
 have hpq : prnL L = os := by unfold prnL; rw [hpb, hcut]; rfl
 rw [hpb, hpq]
 exact ⟨_, _, rfl, ⟨ps, hpl, hab, ey, fun k hk => (ey.lt k hk).2, hlv, hap⟩, i9⟩
end PF5
namespace PF6
open B1 P1 PF1 PF5
theorem pl29 : (Tryz.prog.underlying 29).bind (placesD Tryz.prog) = some [(0, 1)] := by kernel_rfl
theorem rT {w : World} {G : Pin} {u v : Value} {ns bs : List Nd} (hP : Pins G w) (hu : RSl eNode G u ns) (hv : RSl eNode G v bs) :
  Calls Tryz.prog 11 [.agg #[u], .agg #[v]].toArray w fun e w' => ∃ (u : Value) (G' : Pin), e = .returned (.tuple #[.agg #[u], .bool (prfB ns bs)]) ∧ DPrf 53 3 G' w' w.heap.size w'.heap.size u (prfL ns bs) ∧ Ext noS G w G' w' := by
 refine yC (n := 68) Tryz.func11 Tryz.ntmps11 rfl rfl ?_
 have a7 := exr noS hP
 have hmu := hu.max
 have hmv := hv.max
 refine w9d ?_
 refine qI rfl (xL [u] (v := .agg #[u]) rfl rfl a7.pins (fun b1 w2 e6 cx cy cz => ?_))
 have c0 := a7.step cy cz
 have c1 : w.heap.size ≤ b1 := by have := a7.size; omega
 obtain ⟨G9, au, a9, ba, e8⟩ := cx.shut c0 c1
 refine qI rfl (xL [v] (v := .agg #[v]) rfl rfl a9.pins (fun bb e9 fa c2 c3 c4 => ?_))
 have c5 := a9.step c3 c4
 have c6 : w.heap.size ≤ bb := by have := a9.size; omega
 obtain ⟨fb, z, bc, bd, fc⟩ := c2.shut c5 c6
 refine qI rfl (yK [vN] zr29 rfl bc.pins (fun aa fd fe c7 c8 c9 => ?_))
 have be := bc.step c8 c9
 have aw : w.heap.size ≤ aa := by have := bc.size; omega
 refine qM (.bool false) ?_
 refine qe (zA (w9b ?_))
 refine qD rfl (zU (cs := [u]) ag26 sz26 rfl (fun j u hj => (cC be.pins z) _ _ _ (ba _ _ (by simpa using hj)))) (qI rfl (zP (vs := [.agg #[u]]) Tryz.func19 nm19 rfl rfl rfl ?_))
 refine cD (qR be.pins (hu.mono (cB au z))) ?_
 rintro _ ff ⟨fg, rfl, d⟩
 refine rt9 ?_
 have aj := be.tr d
 have b0 := c7.ext d
 refine qD rfl (xN rfl) (qM (.bool (!(goodB ns))) ?_)
 refine qbn (t := 16) rfl (fun bf => ?_) (fun bf => ?_)
 refine qN (zU (cs := [v]) ag26 sz26 rfl (fun j u hj => (cC aj.pins d.le) _ _ _ (bd _ _ (by simpa using hj)))) ?_
 refine q1g rfl rfl rfl rfl rfl rfl (zP (vs := [.agg #[v]]) Tryz.func19 nm19 rfl rfl rfl ?_)
 refine cD (qR aj.pins (hv.mono (cB (cB au z) d.le))) ?_
 rintro _ fh ⟨bg, rfl, q⟩
 refine rt9 ?_
 have ak := aj.tr q
 have b2 := b0.ext q
 refine qN (xN rfl) ?_
 refine qD rfl (yM (v := .bool (!(goodB bs))) rfl rfl) (qe (zA ?_))
 refine qO rfl rfl (fun bh => ?_) (fun bh => ?_)
 refine cN (w9a ?_)
 have hga : GoodP ns := goodB_true.1 bf
 have hgb : GoodP bs := goodB_true.1 bh
 have hla := hga.lo
 have hlb := hgb.lo
 have hha := hga.hi
 have hhb := hgb.hi
 refine qI rfl (vM encP2 (fun v : Int => Value.int .i64 v) ak.pins (fun o fi fj da db b3 => ?_))
 have bi := ak.step db b3
 have b4 := b2.below b3
 have dc : w.heap.size ≤ o := by have := ak.size; omega
 refine qM (.map (some o)) ?_
 refine qe (w9a ?_)
 refine qI rfl (xB (E := eClaim) (e := 53) dG sz53 bi.pins (fun bj dd de df bk dg => ?_))
 have b5 := bi.step df bk
 have dh := b4.below bk
 have di := da.below bk
 have dj := zD dg b4.lt
 have dk := de.weaken bi.size
 refine qM bj ?_
 refine qe (w9a ?_)
 refine qM (.bool false) ?_
 refine qe (zA (w9b ?_))
 refine qD rfl (zI (k := 0) rfl dF rfl nz24 rfl) (qD rfl (zJ (u := u) ag24 rfl ((cC b5.pins (cB (cB z d.le) q.le)) _ _ _ (ba 0 _ rfl))) (qD rfl (zN dD (v := u) rfl hu) (qM (vJ 0) ?_)))
 refine qe (zA ?_)
 refine zY (yN (fun k en W => ∃ (al : Nat → Value) (i : Nat) (M1 : List ((Int × Int) × Int)) (av : Value) (os : List Cl) (pv : Bool) (ab : Pin), en = (upd (upd (upd (upd (upd (upd (upd (upd (upd al 2 (vP b1)) 3 (vP bb)) 4 (vP aa)) 5 (.bool false)) 6 (.map (some o))) 7 av) 8 (.bool pv)) 26 (vJ (ns.length : Int))) 27 (vJ (i : Int))) ∧ k = ns.length - i ∧ Ext noS G w ab W ∧ Pin.le bg ab ∧ (i ≤ ns.length) ∧ (os = rowL ns bs i) ∧ (MapOk os M1) ∧ (1 ≤ i → pv = trC ns bs (i - 1) (bs.length - 1)) ∧ (Own eClaim 53 ab W w.heap.size av (os)) ∧ (Bx ab W aa [vN]) ∧ (Apart av.ownBlock (some aa)) ∧ (Mp encP2 (fun v : Int => Value.int .i64 v) W o (M1))) _ ⟨_, 0, [], bj, [], false, bg, (pS 27 (pS 26 (pS 8 (pS 7 (pS 6 (pS 5 (pS 4 (pS 3 (pU 2))))))))), rfl, b5, cJ _, cI _, rfl, MapOk.nil, (fun h => absurd h (by omega)), dk, dh, dj, di⟩ ?_)
 rintro fk _ fl ⟨al, i, M1, av, os, pv, ab, rfl, fm, am, af, hi, hos, dl, hpv, b6, bl, b7, dm⟩
 refine w9d ?_
 refine qD rfl (yQ rfl rfl) (qe (zA (zB ?_)))
 refine yA (p := ((i : Int) : Int) < (ns.length : Int)) rfl rfl (fun dn => ?_) (fun dn => ?_)
 refine cN (zA (zB ?_))
 refine zY (w9d ?_)
 refine qM (vJ (i : Int)) ?_
 refine qM (vJ (i : Int)) ?_
 refine qe (w9a ?_)
 refine qD rfl (zI (k := 0) rfl dF rfl nz24 rfl) (qD rfl (zJ (u := v) ag24 rfl ((cC am.pins (cB (cB d.le q.le) af)) _ _ _ (bd 0 _ rfl))) (qD rfl (zN dD (v := v) rfl hv) (qM (vJ 0) ?_)))
 refine qe (zA ?_)
 refine zY (yN (fun k en W => ∃ (al : Nat → Value) (j : Nat) (M2 : List ((Int × Int) × Int)) (f : Value) (c : List Cl) (ay : Bool) (ah : Pin), en = (upd (upd (upd (upd (upd (upd (upd (upd (upd (upd (upd (upd al 2 (vP b1)) 3 (vP bb)) 4 (vP aa)) 5 (.bool false)) 6 (.map (some o))) 7 f) 8 (.bool ay)) 9 (vJ (i : Int))) 26 (vJ (ns.length : Int))) 27 (vJ (i : Int))) 32 (vJ (bs.length : Int))) 33 (vJ (j : Int))) ∧ k = bs.length - j ∧ Ext noS G w ah W ∧ Pin.le ab ah ∧ (j ≤ bs.length) ∧ (c = colL ns bs (rowL ns bs i) i j) ∧ (MapOk c M2) ∧ (1 ≤ j → ay = trC ns bs i (j - 1)) ∧ (Own eClaim 53 ah W w.heap.size f (c)) ∧ (Bx ah W aa [vN]) ∧ (Apart f.ownBlock (some aa)) ∧ (Mp encP2 (fun v : Int => Value.int .i64 v) W o (M2))) _ ⟨_, 0, M1, av, os, pv, ab, (pS 33 (pS 32 (pS 27 (pS 26 (pS 9 (pS 8 (pS 7 (pS 6 (pS 5 (pS 4 (pS 3 (pU 2)))))))))))), rfl, am, cJ _, cI _, hos, dl, (fun h => absurd h (by omega)), b6, bl, b7, dm⟩ ?_)
 rintro fn _ fo ⟨al, j, M2, f, c, ay, ah, rfl, fp, an, ac, hj, ao, az, b8, b9, ca, a0, bm⟩
 refine w9d ?_
 refine qD rfl (yQ rfl rfl) (qe (zA (zB ?_)))
 refine yA (p := ((j : Int) : Int) < (bs.length : Int)) rfl rfl (fun dp => ?_) (fun dp => ?_)
 have hT := trueAt hga.optsOk hgb.optsOk (x := i) (k := j) (by omega) (by omega)
 have hcb := sC hga.hi hgb.hi (x := i) (k := j) (by omega) (by omega)
 rw [← ao] at hT hcb
 refine cN (zA (zB ?_))
 refine zY (w9d ?_)
 refine qM (vJ (j : Int)) ?_
 refine qM (vJ (j : Int)) ?_
 refine qe (w9a ?_)
 refine qM (.map (some o)) ?_
 refine qD rfl (zI (k := 0) rfl dF rfl nz24 rfl) (qD rfl (zJ (u := u) ag24 rfl ((cC an.pins (cB (cB (cB (cB z d.le) q.le) af) ac)) _ _ _ (ba 0 _ rfl))) (qD rfl (zI (k := 0) rfl dF rfl nz24 rfl) (qD rfl (zJ (u := v) ag24 rfl ((cC an.pins (cB (cB (cB d.le q.le) af) ac)) _ _ _ (bd 0 _ rfl))) (qM (vJ (i : Int)) ?_))))
 refine qM (vJ (j : Int)) ?_
 refine qI rfl (zP (vs := [.map (some o), u, v, vJ (i : Int), vJ (j : Int)]) Tryz.func28 nm28 rfl rfl rfl ?_)
 refine cD (nE an.pins bm az (hu.mono (cB (cB (cB (cB (cB au z) d.le) q.le) af) ac)) (hv.mono (cB (cB (cB (cB (cB au z) d.le) q.le) af) ac)) hga hgb (by omega) (by omega)) ?_
 rintro _ fq ⟨ad, ae, fr, rfl, cb, cc, ai⟩
 refine rt9 ?_
 have bn := an.tr ai
 have cd := b9.ext ai
 have ce := ca.ext ai
 have dq := bm.below ai.below
 refine qM (.tuple #[.agg #[vJ ((jstC ns bs c i j).a), vJ ((jstC ns bs c i j).b), ad, ae], .bool (jstB ns bs c i j)]) ?_
 refine qD rfl (yR (v := .agg #[vJ ((jstC ns bs c i j).a), vJ ((jstC ns bs c i j).b), ad, ae]) rfl rfl) (qD rfl (yR (v := .bool (jstB ns bs c i j)) rfl rfl) (qI rfl (yK [vJ 0, vJ 0, vN, vN] zr53 rfl bn.pins (fun dr fs cf cg ds a1 => ?_))))
 have ch := bn.step ds a1
 have dt := cd.below a1
 have du := ce.below a1
 have ci := dq.below a1
 have cj := zG (cgA some cf) cd.lt
 have ck := zD (cgA some cf) ce.lt
 have cl : w.heap.size ≤ dr := by have := bn.size; omega
 refine q0 rfl rfl rfl (o_stp (cs' := [vJ ((jstC ns bs c i j).a), vJ ((jstC ns bs c i j).b), ad, ae]) (us := [vJ ((jstC ns bs c i j).a), vJ ((jstC ns bs c i j).b), ad, ae]) (v := .agg #[vJ ((jstC ns bs c i j).a), vJ ((jstC ns bs c i j).b), ad, ae]) sz53 rfl rfl rfl (jS (by rfl) (by rfl) cb.one cc.one) ch.pins cg (cE rfl) rfl (fun ft dv dw a2 fu => ?_))
 have dx := ch.write dw a2 ((zW cl))
 have dy := dt.keptA a2 cj.symm
 have dz := du.keptA a2 ck.symm
 have a3 := ci.kept a2 (xC ci cg)
 obtain ⟨bo, ap, bp, d0, cm⟩ := dv.shut dx cl
 have a4 := dy.moreA ap cm cj.symm
 have bq := dz.moreA cm ck.symm
 refine qM (.bool (jstB ns bs c i j)) ?_
 refine qe (zA (w9b ?_))
 refine qM (.bool (jstB ns bs c i j)) ?_
 refine qe (zA ?_)
 refine c_if rfl rfl (fun aq => ?_) (fun aq => ?_)
 refine w9d ?_
 refine qM (.map (some o)) ?_
 refine qM (vJ (i : Int)) ?_
 refine qM (vJ (j : Int)) ?_
 refine qD rfl (jZ (m := 1) [vJ 0, vJ 0] [vJ (i : Int), vJ (j : Int)] [(0, (vJ (i : Int)), [vJ (i : Int)]), (1, (vJ (j : Int)), [vJ (j : Int)])] dU zr66 rfl sz3 rfl (cM.2 ⟨rfl, (cM.2 ⟨rfl, (fun _ h => by cases h)⟩)⟩) rfl) (qM f ?_)
 refine qD rfl (zN dG (v := f) rfl a4.read) (q0 rfl rfl rfl (vE (val := (fun v : Int => Value.int .i64 v)) (k := (((i : Int), (j : Int)) : Int × Int)) (v := (c.length : Int)) (kN dU dX sz3) Tryz.underlying63 rfl rfl rfl bp.pins a3 (fun fv d1 d2 br fw => ?_)))
 have a5 := bp.write d2 br ((zW dc))
 have d3 := a4.keptA br (yV a3 a4).symm
 have d4 := bq.keptA br (xC a3 bq).symm
 refine qe (zA (zC ?_))
 refine qM f ?_
 refine qD rfl (zU (cs := [vJ ((jstC ns bs c i j).a), vJ ((jstC ns bs c i j).b), ad, ae]) ag53 sz53 rfl (fun j u hj => a5.pins _ _ _ (d0 _ _ (by simpa using hj)))) (qI rfl (xE (E := eClaim) (e := 53) [vJ ((jstC ns bs c i j).a), vJ ((jstC ns bs c i j).b), ad, ae] (⟨(jstC ns bs c i j).a, (jstC ns bs c i j).b, (jstC ns bs c i j).r, (jstC ns bs c i j).l⟩ : Cl) dG sz53 zr53 ⟨_, _, rfl, (cb.mono ap), (cc.mono ap)⟩ rfl (by decide) a5.pins (fun cn d5 d6 d7 a6 fx => ?_)))
 have bt := a5.step d7 a6
 have bu := d3.below a6
 have co := d4.below a6
 have cp := d1.below a6
 have d8 := d6.weaken a5.size
 refine qI rfl (oA (E := eClaim) (v := f) (u := cn) 64 dG ap53 (by decide) rfl rfl bt.pins bu d8.src (bt.size) (fun cq fy d9 ea bv eb => ?_))
 have ec := bt.write ea bv ((yE bu))
 have ed := co.keptA bv a0.symm
 have ee := cp.kept bv (yV cp bu)
 have ef := zO a0.symm eb co.lt
 have fz := la1 c (⟨(jstC ns bs c i j).a, (jstC ns bs c i j).b, (jstC ns bs c i j).r, (jstC ns bs c i j).l⟩ : Cl)
 refine qM cq ?_
 refine qe (zA (zC ?_))
 refine qM (.bool (jstB ns bs c i j)) ?_
 refine qM (.bool (jstB ns bs c i j)) ?_
 refine qe (w9c ?_)
 refine qD rfl (yO rfl rfl (by omega)) (qM (vJ ((j : Int) + 1)) ?_)
 refine qe (yD ?_)
 have hyy := hT.yes hga.optsOk hgb.optsOk (by omega) (by omega) az aq
 refine ⟨_, ?_, _, rfl, _, j + 1, putE M2 (((i : Int), (j : Int)) : Int × Int) (c.length : Int), cq, c ++ ([(⟨(jstC ns bs c i j).a, (jstC ns bs c i j).b, (jstC ns bs c i j).r, (jstC ns bs c i j).l⟩ : Cl)]), jstB ns bs c i j, bo, (pS 33 (pS 32 (pS 27 (pS 26 (pS 9 (pS 8 (pS 7 (pS 6 (pS 5 (pS 4 (pS 3 (pU 2)))))))))))), rfl, ec, (cB (cB ac ai.le) ap), (by omega), (hyy.2.1.trans (by rw [ao]; rfl)), hyy.1, (fun _ => by rw [Nat.add_sub_cancel]; exact aq.trans hyy.2.2.symm), d9, ed, ef.symm, ee⟩
 omega
 refine cN (zA (zC ?_))
 refine qM (.bool (jstB ns bs c i j)) ?_
 refine qM (.bool (jstB ns bs c i j)) ?_
 refine qe (w9c ?_)
 refine qD rfl (yO rfl rfl (by omega)) (qM (vJ ((j : Int) + 1)) ?_)
 refine qe (yD ?_)
 have hnn := hT.stepN hga.optsOk hgb.optsOk (by omega) (by omega) aq
 refine ⟨_, ?_, _, rfl, _, j + 1, M2, f, c, jstB ns bs c i j, bo, (pS 33 (pS 32 (pS 27 (pS 26 (pS 9 (pS 8 (pS 7 (pS 6 (pS 5 (pS 4 (pS 3 (pU 2)))))))))))), rfl, bp, (cB (cB ac ai.le) ap), (by omega), (hnn.1.trans (by rw [ao]; rfl)), az, (fun _ => by rw [Nat.add_sub_cancel]; exact aq.trans hnn.2.symm), a4, bq, a0, a3⟩
 omega
 refine cP (zZ (yJ (yI (w9c ?_))))
 refine qD rfl (yO rfl rfl (by omega)) (qM (vJ ((i : Int) + 1)) ?_)
 refine qe (yD ?_)
 have hjn : j = bs.length := by omega
 rw [hjn] at ao b8
 refine ⟨_, ?_, _, rfl, _, i + 1, M2, f, c, ay, ah, (pS 27 (pS 26 (pS 8 (pS 7 (pS 6 (pS 5 (pS 4 (pS 3 (pU 2))))))))), rfl, an, (cB af ac), (by omega), ao, az, (fun _ => by rw [Nat.add_sub_cancel]; exact b8 hlb), b9, ca, a0, bm⟩
 omega
 refine cP (zZ (yJ (yI (zA (w9b ?_)))))
 have hin : i = ns.length := by omega
 rw [hin] at hos hpv
 have cr := hpv hla
 refine qM (.bool pv) ?_
 refine qD rfl (xN rfl) (qe (zA ?_))
 refine qO rfl rfl (fun bw => ?_) (fun bw => ?_)
 refine cN (w9a ?_)
 have hge : geG (gOf ns) (gOf bs) := decP_true.1 (cr.symm.trans bw)
 have hLok : LOk os := by rw [hos]; exact fV hga hgb hge
 refine qM av ?_
 obtain ⟨f0, f1, bx, eg, eh⟩ := b6.sealed am
 have ct := bl.moreO eh b7.symm
 refine qI rfl (zP (vs := [av]) Tryz.func29 nm29 rfl rfl rfl ?_)
 refine cD (sQ bx.pins eg hLok) ?_
 rintro _ ei ⟨ar, f2, rfl, cu, cv⟩
 refine rt9 ?_
 have cw := bx.tr cv
 have ej := ct.ext cv
 have ek := cu.one
 refine qD rfl (yR (v := .agg #[ar]) rfl rfl) (qD rfl (yR (v := .bool (prnB os)) rfl rfl) (q0 rfl rfl rfl (o_stp (cs' := [ar]) (us := [ar]) (v := .agg #[ar]) sz29 rfl rfl rfl (yG ek) cw.pins ej (cE rfl) rfl (fun f3 el em bz f4 => ?_))))
 have eo := cw.write em bz ((zW aw))
 have ep := cu.kept bz (cG ct.lt)
 have eq := cQ (cH ei.heap.size) bz.size
 refine qM (.bool (prnB os)) ?_
 refine qe (zA ?_)
 refine cO (zT (qV (cs := [ar]) (v := .bool (prnB os)) rfl rfl rfl rfl rfl ag29 sz29 (fun j u hj => by rw [cR]; exact el.cell hj) ?_))
 obtain ⟨s, y⟩ := prf_prn hga hgb hge
 rw [show fullL ns bs = os from hos.symm] at s y
 rw [s, y]
 exact ⟨_, _, rfl, (ep.wide bx.size eq), eo⟩
 refine w9d ?_
 refine qD rfl (xH [vN] [vN] [] dI zr29 rfl pl29 rfl (fun _ h => by cases h) rfl) (q0 rfl rfl rfl (o_stp (cs' := [vN]) (us := [vN]) (v := .agg #[vN]) sz29 rfl rfl rfl (yG (by rfl)) am.pins bl (cE rfl) rfl (fun f5 er es et f6 => ?_)))
 have eu := am.write es et ((zW aw))
 refine qM (.bool false) ?_
 refine qe (zA ?_)
 refine cO (zT (qV (cs := [vN]) (v := .bool false) rfl rfl rfl rfl rfl ag29 sz29 (fun j u hj => by rw [cR]; exact er.cell hj) ?_))
 obtain ⟨s, y⟩ := @kG ns bs (fun g => decP_false.1 (cr.symm.trans bw) g.ge)
 rw [s, y]
 exact ⟨_, _, rfl, DPrf.nil, eu⟩
 refine w9d ?_
 refine qD rfl (xH [vN] [vN] [] dI zr29 rfl pl29 rfl (fun _ h => by cases h) rfl) (q0 rfl rfl rfl (o_stp (cs' := [vN]) (us := [vN]) (v := .agg #[vN]) sz29 rfl rfl rfl (yG (by rfl)) ak.pins b2 (cE rfl) rfl (fun f7 ev ew ex f8 => ?_)))
 have ey := ak.write ew ex ((zW aw))
 refine qM (.bool false) ?_
 refine qe (zA ?_)
 refine cO (zT (qV (cs := [vN]) (v := .bool false) rfl rfl rfl rfl rfl ag29 sz29 (fun j u hj => by rw [cR]; exact ev.cell hj) ?_))
 obtain ⟨s, y⟩ := @kG ns bs (fun g => goodB_false.1 bh g.gb)
 rw [s, y]
 exact ⟨_, _, rfl, DPrf.nil, ey⟩
 refine qW ?_
 refine qW ?_
 refine qW ?_
 refine qD rfl (yL (v := .bool true) rfl rfl) (qe (zA ?_))
 refine xY rfl rfl (w9d ?_)
 refine qD rfl (xH [vN] [vN] [] dI zr29 rfl pl29 rfl (fun _ h => by cases h) rfl) (q0 rfl rfl rfl (o_stp (cs' := [vN]) (us := [vN]) (v := .agg #[vN]) sz29 rfl rfl rfl (yG (by rfl)) aj.pins b0 (cE rfl) rfl (fun f9 ez e0 e3 gc => ?_)))
 have e4 := aj.write e0 e3 ((zW aw))
 refine qM (.bool false) ?_
 refine qe (zA ?_)
 refine cO (zT (qV (cs := [vN]) (v := .bool false) rfl rfl rfl rfl rfl ag29 sz29 (fun j u hj => by rw [cR]; exact ez.cell hj) ?_))
 obtain ⟨s, y⟩ := @kG ns bs (fun g => goodB_false.1 bf g.ga)
 rw [s, y]
 exact ⟨_, _, rfl, DPrf.nil, e4⟩
end PF6
namespace AT1
open B1 K1 PO1 PL1
theorem pA {w : World} {G : Pin} {u v : Value} {ax bs : List Nd} (hP : Pins G w) (hu : RSl eNode G u ax) (hv : RSl eNode G v bs) :
  Calls Tryz.prog 9 [.agg #[u], .agg #[v]].toArray w fun e w' => ∃ G', e = .returned (.tuple #[.bool (alB ax bs), .bool (goodB ax && goodB bs)]) ∧ Ext noS G w G' w' := by
 refine yC (n := 24) Tryz.func9 Tryz.ntmps9 rfl rfl ?_
 have al := exr noS hP
 refine w9d ?_
 refine qI rfl (xL [u] (v := .agg #[u]) rfl rfl al.pins (fun b1 w2 cf bj bk bl => ?_))
 have bm := al.step bk bl
 have bn : w.heap.size ≤ b1 := by have := al.size; omega
 obtain ⟨G9, ac, am, a2, ch⟩ := bj.shut bm bn
 refine qI rfl (xL [v] (v := .agg #[v]) rfl rfl am.pins (fun bo ci cj bp bq br => ?_))
 have bt := am.step bq br
 have bu : w.heap.size ≤ bo := by have := am.size; omega
 obtain ⟨ck, p, an, a3, cl⟩ := bp.shut bt bu
 refine qM (.bool false) ?_
 refine qM (.bool false) ?_
 refine qe (zA (w9b ?_))
 refine qD rfl (zU (cs := [u]) ag26 sz26 rfl (fun j u hj => (cC an.pins p) _ _ _ (a2 _ _ (by simpa using hj)))) (qI rfl (zP (vs := [.agg #[u]]) Tryz.func19 nm19 rfl rfl rfl ?_))
 refine cD (qR an.pins (hu.mono (cB ac p))) ?_
 rintro _ cm ⟨cn, rfl, g⟩
 refine rt9 ?_
 have ad := an.tr g
 refine qD rfl (xN rfl) (qM (.bool (!(goodB ax))) ?_)
 refine qbn (t := 10) rfl (fun ao => ?_) (fun ao => ?_)
 refine qN (zU (cs := [v]) ag26 sz26 rfl (fun j u hj => (cC ad.pins g.le) _ _ _ (a3 _ _ (by simpa using hj)))) ?_
 refine q1g rfl rfl rfl rfl rfl rfl (zP (vs := [.agg #[v]]) Tryz.func19 nm19 rfl rfl rfl ?_)
 refine cD (qR ad.pins (hv.mono (cB (cB ac p) g.le))) ?_
 rintro _ co ⟨cp, rfl, s⟩
 refine rt9 ?_
 have ae := ad.tr s
 refine qN (xN rfl) ?_
 refine qD rfl (yM (v := .bool (!(goodB bs))) rfl rfl) (qe (zA ?_))
 refine qO rfl rfl (fun ap => ?_) (fun ap => ?_)
 refine cN (w9a ?_)
 have hga : GoodP ax := goodB_true.1 ao
 have hgb : GoodP bs := goodB_true.1 ap
 have hla := hga.lo
 have hlb := hgb.lo
 have hha := hga.hi
 have hhb := hgb.hi
 refine qI rfl (zP (vs := []) Tryz.func25 nm25 rfl rfl rfl ?_)
 refine cD (sT ae.pins) ?_
 rintro _ af ⟨a, aq, a4, rfl, a5, bv, x⟩
 refine rt9 ?_
 have a6 := ae.tr x
 have bw : PIn w (noS) a vN vN vN aq := PIn.fresh bv ae.size
 obtain ⟨c, au⟩ : ∃ q, q = (⟨[], [], [], [], [], [], []⟩ : PSt) := ⟨_, rfl⟩
 rw [← au] at a5
 have av : PoolOk c := by rw [au]; exact PoolOk.empty
 have hq45l : c.ns.length = 0 := by rw [au]; rfl
 obtain ⟨a7, a8, a9, ba, bb, bc⟩ : ∃ (l r b : Value), l = .slice none 0 0 ∧ r = .slice none 0 0 ∧ b = .slice none 0 0 := ⟨_, _, _, rfl, rfl, rfl⟩
 have bx : Pk 40 3 a4 af a a7 a8 a9 aq c := by rw [ba, bb, bc]; exact a5
 have bd : PIn w (noS) a a7 a8 a9 aq := by rw [ba, bb, bc]; exact bw
 have cq := pkl c
 have cr := pkb av
 refine qM (vP a) ?_
 refine qe (zA (zB ?_))
 refine yT (S := fun wz => Pins a4 wz) (last := 10) (by kernel_rfl) rfl ?_
 have aw := bdr af
 have be := a6.pins.below aw
 have f := a6.step be aw
 have bz := bx.below aw be
 refine dM 0 (vP a) f.pins ?_
 refine dM 1 (vP a) f.pins ?_
 refine dT (i := 2) rfl rfl (by kernel_rfl) (fun _ hS => zU (cs := [u]) ag26 sz26 rfl (fun j u hj => (cC hS (cB (cB (cB p g.le) s.le) x.le)) _ _ _ (a2 _ _ (by simpa using hj)))) f.pins ?_
 refine dM 4 (vP a) f.pins ?_
 refine dT (i := 5) rfl rfl (by kernel_rfl) (fun _ hS => zU (cs := [v]) ag26 sz26 rfl (fun j u hj => (cC hS (cB (cB g.le s.le) x.le)) _ _ _ (a3 _ _ (by simpa using hj)))) f.pins ?_
 refine dP (i := 3) rfl rfl (zP (vs := [vP a, .agg #[u]]) Tryz.func27 nm27 rfl rfl rfl ?_)
 refine cD (jK f.pins bz av (hu.mono (cB (cB (cB (cB ac p) g.le) s.le) x.le)) (jL hga) (by omega) hla) ?_
 rintro _ ct ⟨ay, cu, cv, cw, h, cx, rfl, b0, ag, b2, b3, k, bf, b4, cy⟩
 refine rt9 ?_
 have ah := f.trans k bd
 have bg := PIn.call bd b3 f.size
 have cz := b2.len
 have c0 := pkl h
 have c1 := pkb ag
 refine ⟨fun _ => (cC ah.pins k.le), ?_⟩
 refine dP (i := 6) rfl rfl (zP (vs := [vP a, .agg #[v]]) Tryz.func27 nm27 rfl rfl rfl ?_)
 refine cD (jK ah.pins b0 ag (hv.mono (cB (cB (cB (cB (cB ac p) g.le) s.le) x.le) k.le)) (jL hgb) (by omega) hlb) ?_
 rintro _ c2 ⟨az, c3, c4, c5, d, c6, rfl, b5, ai, a0, b6, y, b7, b8, c7⟩
 refine rt9 ?_
 have a1 := ah.trans y bg
 have b9 := PIn.call bg b6 ah.size
 have c8 := a0.len
 have c9 := pkl d
 have da := pkb ai
 refine ⟨fun _ => (cC a1.pins (cB k.le y.le)), ?_⟩
 refine dP (i := 7) rfl rfl (zP (vs := [vP a, vJ ay, vJ az]) Tryz.func26 nm26 rfl rfl rfl ?_)
 refine cD (ge_spec a1.pins b5 ai (a0.place bf) b7) ?_
 rintro _ db ⟨m, dc, rfl, dd, bh, ca, cb, aj⟩
 refine rt9 ?_
 have ak := a1.trans aj (fun i hi => (PIn.o b9) i hi)
 have de := ca.len
 have df := pkl m
 have dg := pkb bh
 have dh := cgA List.length cb.1
 refine ⟨fun _ => (cC ak.pins (cB (cB k.le y.le) aj.le)), ?_⟩
 refine dM 8 (.bool (geB d.ns ay az)) (cC ak.pins (cB (cB k.le y.le) aj.le)) ?_
 refine dM 9 (.bool true) (cC ak.pins (cB (cB k.le y.le) aj.le)) ?_
 refine yH (by kernel_rfl) (zA (cO (zT (qF (v := .bool (geB d.ns ay az)) (u := .bool true) rfl rfl rfl rfl rfl ?_))))
 have cc := (a0.pd ag ai bf).trans b4
 have cd := b8
 obtain ⟨e1, e2⟩ := nT hga hgb
 rw [e1, e2]
 exact ⟨_, cgA (fun z => Ending.returned (Value.tuple #[Value.bool z, Value.bool true])) (geB_roots cc cd), ak⟩
 refine w9d ?_
 refine qM (.bool false) ?_
 refine qM (.bool false) ?_
 refine qe (zA ?_)
 refine cO (zT (qF (v := .bool false) (u := .bool false) rfl rfl rfl rfl rfl ?_))
 obtain ⟨e1, e2⟩ := alB_bad (cG ap)
 rw [e1, e2]
 exact ⟨_, rfl, ae⟩
 refine qW ?_
 refine qW ?_
 refine qW ?_
 refine qD rfl (yL (v := .bool true) rfl rfl) (qe (zA ?_))
 refine xY rfl rfl (w9d ?_)
 refine qM (.bool false) ?_
 refine qM (.bool false) ?_
 refine qe (zA ?_)
 refine cO (zT (qF (v := .bool false) (u := .bool false) rfl rfl rfl rfl rfl ?_))
 obtain ⟨e1, e2⟩ := alB_bad (cF ao)
 rw [e1, e2]
 exact ⟨_, rfl, ad⟩
end AT1
namespace DR1
open B1
variable {G : Pin} {cv : Value} {code : List UInt8} {a : Int}
theorem pQ {w : World} {c : Nat} {s : Int} (hP : Pins G w) (hB : Bx G w c [cv, .int .i64 a, .int .u64 s]) (hc : RSl eByte G cv code) (ha : 0 ≤ a ∧ a + 1 ≤ 1000000) (_ : 0 ≤ s ∧ s < 18446744073709551616) :
  Calls Tryz.prog 66 #[vP c] w fun e w' => ∃ (z : Int) (a' s' : Int), e = .returned (vJ z) ∧ (0 ≤ z ∧ z ≤ 255) ∧ Bx G w' c [cv, .int .i64 a', .int .u64 s'] ∧ (a ≤ a' ∧ a' ≤ a + 1) ∧ (0 ≤ s' ∧ s' < 18446744073709551616) ∧ Ext (inO (some c)) G w G w' := by
 refine yC (n := 62) Tryz.func66 Tryz.ntmps66 rfl rfl ?_
 have ab := exr (inO (some c)) hP
 have hm := hc.max
 refine w9d ?_
 refine qM (vJ 0) ?_
 refine qe (w9a ?_)
 refine qM (vJ 0) ?_
 refine qe (zA (zB (zB ?_)))
 refine yT (S := fun wz => BxR wz c [cv, vJ a, .int .u64 s]) (last := 10) (by kernel_rfl) rfl ?_
 have m := bdr w
 have ak := ab.pins.below m
 have l := ab.step ak m
 have f := hB.below m
 refine dM 0 (vP c) f.reads ?_
 refine dT (i := 1) rfl rfl (by kernel_rfl) (fun _ _ => yW rfl) f.reads ?_
 refine dT (i := 2) rfl rfl (by kernel_rfl) (fun _ _ => zI (k := 1) rfl dN rfl nz3 rfl) f.reads ?_
 refine dT (i := 3) rfl rfl (by kernel_rfl) (fun _ hS => zJ (u := vJ a) ag3 rfl (hS 1 _ rfl)) f.reads ?_
 refine dM 4 (vP c) f.reads ?_
 refine dT (i := 5) rfl rfl (by kernel_rfl) (fun _ _ => yW rfl) f.reads ?_
 refine dT (i := 6) rfl rfl (by kernel_rfl) (fun _ _ => zI (k := 0) rfl dN rfl nz22 rfl) f.reads ?_
 refine dT (i := 7) rfl rfl (by kernel_rfl) (fun _ hS => zJ (u := cv) ag22 rfl (hS 0 _ rfl)) f.reads ?_
 refine dT (i := 8) rfl rfl (by kernel_rfl) (fun _ _ => zN dS (v := cv) rfl hc) f.reads ?_
 refine dT (i := 9) rfl rfl (by kernel_rfl) (fun _ _ => yQ rfl rfl) f.reads ?_
 refine yH (by kernel_rfl) (zA (yA (p := (a : Int) < (code.length : Int)) rfl rfl (fun h5 => ?_) (fun h5 => ?_)))
 have a3 := (code.getD a.toNat 0).toNat_lt
 refine yT (S := fun wz => BxR wz c [cv, vJ a, .int .u64 s] ∧ Pins G wz) (last := 12) (by kernel_rfl) rfl ?_
 have q : Below w.drew.heap.size w.drew w.drew.drew := (Below.refl _ _).drew
 have am := l.pins.below q
 have b := l.step am q
 have d := f.below q
 refine dT (i := 0) rfl rfl (by kernel_rfl) (fun _ _ => zX (v := vP c) rfl) ⟨d.reads, b.pins⟩ ?_
 refine dT (i := 1) rfl rfl (by kernel_rfl) (fun _ _ => yW rfl) ⟨d.reads, b.pins⟩ ?_
 refine dT (i := 2) rfl rfl (by kernel_rfl) (fun _ _ => zI (k := 0) rfl dN rfl nz22 rfl) ⟨d.reads, b.pins⟩ ?_
 refine dT (i := 3) rfl rfl (by kernel_rfl) (fun _ hS => zJ (u := cv) ag22 rfl (hS.1 0 _ rfl)) ⟨d.reads, b.pins⟩ ?_
 refine dT (i := 4) rfl rfl (by kernel_rfl) (fun _ _ => zX (v := vP c) rfl) ⟨d.reads, b.pins⟩ ?_
 refine dT (i := 5) rfl rfl (by kernel_rfl) (fun _ _ => yW rfl) ⟨d.reads, b.pins⟩ ?_
 refine dT (i := 6) rfl rfl (by kernel_rfl) (fun _ _ => zI (k := 1) rfl dN rfl nz3 rfl) ⟨d.reads, b.pins⟩ ?_
 refine dT (i := 7) rfl rfl (by kernel_rfl) (fun _ hS => zJ (u := vJ a) ag3 rfl (hS.1 1 _ rfl)) ⟨d.reads, b.pins⟩ ?_
 refine dT (i := 8) rfl rfl (by kernel_rfl) (fun _ _ => zE dS sz5 (v := cv) rfl rfl hc (by omega) (by omega)) ⟨d.reads, b.pins⟩ ?_
 refine dT (i := 9) rfl rfl (by kernel_rfl) (fun _ hS => nX (r := code.getD (a).toNat 0) rfl ag5 (z := a) rfl hc hS.2 (by omega) (by omega)) ⟨d.reads, b.pins⟩ ?_
 refine dT (i := 10) rfl rfl (by kernel_rfl) (fun _ _ => gH (j := ((code.getD (a).toNat 0).toNat : Int)) Tryz.underlying5 dX rfl (wrapI (by omega))) ⟨d.reads, b.pins⟩ ?_
 refine dT (i := 11) rfl rfl (by kernel_rfl) (fun _ _ => jC (v := vJ ((code.getD (a).toNat 0).toNat : Int)) rfl) ⟨d.reads, b.pins⟩ ?_
 refine yH (by kernel_rfl) (w9a ?_)
 refine qM (vP c) ?_
 refine qD rfl (yW rfl) (qD rfl (zI (k := 1) rfl dN rfl nz3 rfl) (qD rfl (zJ (u := vJ a) ag3 rfl (d.cell (o := 1) rfl)) (qD rfl (yO rfl rfl (by omega)) (qD rfl (yW rfl) (qD rfl (zI (k := 1) rfl dN rfl nz3 rfl) (q0 rfl rfl rfl (o_stp (cs' := [cv, vJ (a + 1), .int .u64 s]) (us := [vJ (a + 1)]) (v := vJ (a + 1)) sz3 rfl rfl rfl (yG (by rfl)) b.pins d (cE rfl) rfl (fun a4 ac an ao a5 => ?_))))))))
 have ad := b.write an ao (xD)
 refine qe (w9a ?_)
 refine qM (vP c) ?_
 refine qM (vP c) ?_
 refine qD rfl (yW rfl) (qD rfl (zI (k := 2) rfl dN rfl nz44 rfl) (qD rfl (zJ (u := .int .u64 s) ag44 rfl (ac.cell (o := 2) rfl)) (qD rfl (r_mulU rfl rfl) (qM (vJ ((code.getD (a).toNat 0).toNat : Int)) ?_))))
 refine qD rfl (gH (j := ((code.getD (a).toNat 0).toNat : Int)) dX dY rfl (rD (by omega))) (qD rfl (sP rfl rfl) (qD rfl (sP rfl rfl) (qD rfl (yW rfl) (qD rfl (zI (k := 2) rfl dN rfl nz44 rfl) (q0 rfl rfl rfl (o_stp (cs' := [cv, vJ (a + 1), .int .u64 (IntKind.u64.wrap ((IntKind.u64.wrap ((IntKind.u64.wrap (s * 6364136223846793005)) + ((code.getD (a).toNat 0).toNat : Int))) + 868868))]) (us := [.int .u64 (IntKind.u64.wrap ((IntKind.u64.wrap ((IntKind.u64.wrap (s * 6364136223846793005)) + ((code.getD (a).toNat 0).toNat : Int))) + 868868))]) (v := .int .u64 (IntKind.u64.wrap ((IntKind.u64.wrap ((IntKind.u64.wrap (s * 6364136223846793005)) + ((code.getD (a).toNat 0).toNat : Int))) + 868868))) sz44 rfl rfl rfl (yG (by rfl)) ad.pins ac (cE rfl) rfl (fun t ap aq ar a6 => ?_)))))))
 have ae := ad.write aq ar (xD)
 refine qe (zA (zB (zB ?_)))
 refine yT (S := fun wz => BxR wz c [cv, vJ (a + 1), .int .u64 (IntKind.u64.wrap ((IntKind.u64.wrap ((IntKind.u64.wrap (s * 6364136223846793005)) + ((code.getD (a).toNat 0).toNat : Int))) + 868868))]) (last := 10) (by kernel_rfl) rfl ?_
 have x := bdr t
 have au := ae.pins.below x
 have af := ae.step au x
 have g := ap.below x
 refine dM 0 (vP c) g.reads ?_
 refine dT (i := 1) rfl rfl (by kernel_rfl) (fun _ _ => yW rfl) g.reads ?_
 refine dT (i := 2) rfl rfl (by kernel_rfl) (fun _ _ => zI (k := 1) rfl dN rfl nz3 rfl) g.reads ?_
 refine dT (i := 3) rfl rfl (by kernel_rfl) (fun _ hS => zJ (u := vJ (a + 1)) ag3 rfl (hS 1 _ rfl)) g.reads ?_
 refine dM 4 (vP c) g.reads ?_
 refine dT (i := 5) rfl rfl (by kernel_rfl) (fun _ _ => yW rfl) g.reads ?_
 refine dT (i := 6) rfl rfl (by kernel_rfl) (fun _ _ => zI (k := 0) rfl dN rfl nz22 rfl) g.reads ?_
 refine dT (i := 7) rfl rfl (by kernel_rfl) (fun _ hS => zJ (u := cv) ag22 rfl (hS 0 _ rfl)) g.reads ?_
 refine dT (i := 8) rfl rfl (by kernel_rfl) (fun _ _ => zN dS (v := cv) rfl hc) g.reads ?_
 refine dT (i := 9) rfl rfl (by kernel_rfl) (fun _ _ => gV rfl rfl) g.reads ?_
 refine yH (by kernel_rfl) (zA (yA (p := (a + 1 : Int) ≤ (code.length : Int)) rfl rfl (fun av => ?_) (fun av => ?_)))
 refine w9d ?_
 refine qM (vJ ((code.getD (a).toNat 0).toNat : Int)) ?_
 refine qM (vJ ((code.getD (a).toNat 0).toNat : Int)) ?_
 refine qe (zA ?_)
 refine cO (zT (zS (v := vJ ((code.getD (a).toNat 0).toNat : Int)) rfl rfl rfl ?_))
 have hwr := gP (((IntKind.u64.wrap ((IntKind.u64.wrap (s * 6364136223846793005)) + ((code.getD (a).toNat 0).toNat : Int))) + 868868))
 exact ⟨_, _, _, rfl, (by omega), g, (by omega), (by omega), af⟩
 refine cN (w9a ?_)
 refine qM (vP c) ?_
 refine qD rfl (yW rfl) (qD rfl (zI (k := 2) rfl dN rfl nz44 rfl) (qD rfl (zJ (u := .int .u64 (IntKind.u64.wrap ((IntKind.u64.wrap ((IntKind.u64.wrap (s * 6364136223846793005)) + ((code.getD (a).toNat 0).toNat : Int))) + 868868))) ag44 rfl (g.cell (o := 2) rfl)) (qD rfl (r_shrU rfl rfl (by omega)) (qD rfl (r_and rfl rfl) ?_))))
 have a7 := low8_lt (Int.fdiv (IntKind.u64.wrap ((IntKind.u64.wrap ((IntKind.u64.wrap (s * 6364136223846793005)) + ((code.getD (a).toNat 0).toNat : Int))) + 868868)) (2 ^ (min (40 : Int).toNat 64)))
 refine qD rfl (gH (j := andW .u64 (Int.fdiv (IntKind.u64.wrap ((IntKind.u64.wrap ((IntKind.u64.wrap (s * 6364136223846793005)) + ((code.getD (a).toNat 0).toNat : Int))) + 868868)) (2 ^ (min (40 : Int).toNat 64))) 255) dY dX rfl (wrapI (by omega))) (qM (vJ (andW .u64 (Int.fdiv (IntKind.u64.wrap ((IntKind.u64.wrap ((IntKind.u64.wrap (s * 6364136223846793005)) + ((code.getD (a).toNat 0).toNat : Int))) + 868868)) (2 ^ (min (40 : Int).toNat 64))) 255)) ?_)
 refine qe (zA ?_)
 refine cO (zT (zS (v := vJ (andW .u64 (Int.fdiv (IntKind.u64.wrap ((IntKind.u64.wrap ((IntKind.u64.wrap (s * 6364136223846793005)) + ((code.getD (a).toNat 0).toNat : Int))) + 868868)) (2 ^ (min (40 : Int).toNat 64))) 255)) rfl rfl rfl ?_))
 have hwr := gP (((IntKind.u64.wrap ((IntKind.u64.wrap (s * 6364136223846793005)) + ((code.getD (a).toNat 0).toNat : Int))) + 868868))
 exact ⟨_, _, _, rfl, (by omega), g, (by omega), (by omega), af⟩
 refine cN (w9a ?_)
 refine qM (vP c) ?_
 refine qD rfl (yW rfl) (qD rfl (zI (k := 1) rfl dN rfl nz3 rfl) (qD rfl (zJ (u := vJ a) ag3 rfl (f.cell (o := 1) rfl)) (qD rfl (yO rfl rfl (by omega)) (qD rfl (yW rfl) (qD rfl (zI (k := 1) rfl dN rfl nz3 rfl) (q0 rfl rfl rfl (o_stp (cs' := [cv, vJ (a + 1), .int .u64 s]) (us := [vJ (a + 1)]) (v := vJ (a + 1)) sz3 rfl rfl rfl (yG (by rfl)) l.pins f (cE rfl) rfl (fun a8 ag aw ax a9 => ?_))))))))
 have ah := l.write aw ax (xD)
 refine qe (w9a ?_)
 refine qM (vP c) ?_
 refine qM (vP c) ?_
 refine qD rfl (yW rfl) (qD rfl (zI (k := 2) rfl dN rfl nz44 rfl) (qD rfl (zJ (u := .int .u64 s) ag44 rfl (ag.cell (o := 2) rfl)) (qD rfl (r_mulU rfl rfl) (qM (vJ 0) ?_))))
 refine qD rfl (gH (j := 0) dX dY rfl (rD (by omega))) (qD rfl (sP rfl rfl) (qD rfl (sP rfl rfl) (qD rfl (yW rfl) (qD rfl (zI (k := 2) rfl dN rfl nz44 rfl) (q0 rfl rfl rfl (o_stp (cs' := [cv, vJ (a + 1), .int .u64 (IntKind.u64.wrap ((IntKind.u64.wrap ((IntKind.u64.wrap (s * 6364136223846793005)) + 0)) + 868868))]) (us := [.int .u64 (IntKind.u64.wrap ((IntKind.u64.wrap ((IntKind.u64.wrap (s * 6364136223846793005)) + 0)) + 868868))]) (v := .int .u64 (IntKind.u64.wrap ((IntKind.u64.wrap ((IntKind.u64.wrap (s * 6364136223846793005)) + 0)) + 868868))) sz44 rfl rfl rfl (yG (by rfl)) ah.pins ag (cE rfl) rfl (fun y ay az a0 ba => ?_)))))))
 have ai := ah.write az a0 (xD)
 refine qe (zA (zB (zB ?_)))
 refine yT (S := fun wz => BxR wz c [cv, vJ (a + 1), .int .u64 (IntKind.u64.wrap ((IntKind.u64.wrap ((IntKind.u64.wrap (s * 6364136223846793005)) + 0)) + 868868))]) (last := 10) (by kernel_rfl) rfl ?_
 have aa := bdr y
 have a1 := ai.pins.below aa
 have aj := ai.step a1 aa
 have h := ay.below aa
 refine dM 0 (vP c) h.reads ?_
 refine dT (i := 1) rfl rfl (by kernel_rfl) (fun _ _ => yW rfl) h.reads ?_
 refine dT (i := 2) rfl rfl (by kernel_rfl) (fun _ _ => zI (k := 1) rfl dN rfl nz3 rfl) h.reads ?_
 refine dT (i := 3) rfl rfl (by kernel_rfl) (fun _ hS => zJ (u := vJ (a + 1)) ag3 rfl (hS 1 _ rfl)) h.reads ?_
 refine dM 4 (vP c) h.reads ?_
 refine dT (i := 5) rfl rfl (by kernel_rfl) (fun _ _ => yW rfl) h.reads ?_
 refine dT (i := 6) rfl rfl (by kernel_rfl) (fun _ _ => zI (k := 0) rfl dN rfl nz22 rfl) h.reads ?_
 refine dT (i := 7) rfl rfl (by kernel_rfl) (fun _ hS => zJ (u := cv) ag22 rfl (hS 0 _ rfl)) h.reads ?_
 refine dT (i := 8) rfl rfl (by kernel_rfl) (fun _ _ => zN dS (v := cv) rfl hc) h.reads ?_
 refine dT (i := 9) rfl rfl (by kernel_rfl) (fun _ _ => gV rfl rfl) h.reads ?_
 refine yH (by kernel_rfl) (zA (yA (p := (a + 1 : Int) ≤ (code.length : Int)) rfl rfl (fun a2 => ?_) (fun a2 => ?_)))
 refine w9d ?_
 refine qM (vJ 0) ?_
 refine qM (vJ 0) ?_
 refine qe (zA ?_)
 refine cO (zT (zS (v := vJ 0) rfl rfl rfl ?_))
 have hwr := gP (((IntKind.u64.wrap ((IntKind.u64.wrap (s * 6364136223846793005)) + 0)) + 868868))
 exact ⟨_, _, _, rfl, (by omega), h, (by omega), (by omega), aj⟩
 refine cN (w9a ?_)
 refine qM (vP c) ?_
 refine qD rfl (yW rfl) (qD rfl (zI (k := 2) rfl dN rfl nz44 rfl) (qD rfl (zJ (u := .int .u64 (IntKind.u64.wrap ((IntKind.u64.wrap ((IntKind.u64.wrap (s * 6364136223846793005)) + 0)) + 868868))) ag44 rfl (h.cell (o := 2) rfl)) (qD rfl (r_shrU rfl rfl (by omega)) (qD rfl (r_and rfl rfl) ?_))))
 have bb := low8_lt (Int.fdiv (IntKind.u64.wrap ((IntKind.u64.wrap ((IntKind.u64.wrap (s * 6364136223846793005)) + 0)) + 868868)) (2 ^ (min (40 : Int).toNat 64)))
 refine qD rfl (gH (j := andW .u64 (Int.fdiv (IntKind.u64.wrap ((IntKind.u64.wrap ((IntKind.u64.wrap (s * 6364136223846793005)) + 0)) + 868868)) (2 ^ (min (40 : Int).toNat 64))) 255) dY dX rfl (wrapI (by omega))) (qM (vJ (andW .u64 (Int.fdiv (IntKind.u64.wrap ((IntKind.u64.wrap ((IntKind.u64.wrap (s * 6364136223846793005)) + 0)) + 868868)) (2 ^ (min (40 : Int).toNat 64))) 255)) ?_)
 refine qe (zA ?_)
 refine cO (zT (zS (v := vJ (andW .u64 (Int.fdiv (IntKind.u64.wrap ((IntKind.u64.wrap ((IntKind.u64.wrap (s * 6364136223846793005)) + 0)) + 868868)) (2 ^ (min (40 : Int).toNat 64))) 255)) rfl rfl rfl ?_))
 have hwr := gP (((IntKind.u64.wrap ((IntKind.u64.wrap (s * 6364136223846793005)) + 0)) + 868868))
 exact ⟨_, _, _, rfl, (by omega), h, (by omega), (by omega), aj⟩
theorem jT {w : World} {c : Nat} {s : Int} {n : Int} (hP : Pins G w) (hB : Bx G w c [cv, .int .i64 a, .int .u64 s]) (hc : RSl eByte G cv code) (ha : 0 ≤ a ∧ a + 2 ≤ 1000000) (hs : 0 ≤ s ∧ s < 18446744073709551616) (hn : n ≤ 1000) :
  Calls Tryz.prog 35 #[vP c, vJ n] w fun e w' => ∃ (z : Int) (a' s' : Int), e = .returned (vJ z) ∧ (0 ≤ z ∧ (z < n ∨ z = 0)) ∧ Bx G w' c [cv, .int .i64 a', .int .u64 s'] ∧ (a ≤ a' ∧ a' ≤ a + 2) ∧ (0 ≤ s' ∧ s' < 18446744073709551616) ∧ Ext (inO (some c)) G w G w' := by
 refine yC (n := 20) Tryz.func35 Tryz.ntmps35 rfl rfl ?_
 have f := exr (inO (some c)) hP
 have hm := hc.max
 refine w9d ?_
 refine qM (vJ 0) ?_
 refine qe (zA (w9b ?_))
 refine qM (vJ n) ?_
 refine qD rfl (gV rfl rfl) (qe (zA ?_))
 refine yA (p := (n : Int) ≤ 1) rfl rfl (fun j => ?_) (fun j => ?_)
 refine w9d ?_
 refine qM (vJ 0) ?_
 refine qe (zA ?_)
 exact cO (zT (zS (v := vJ 0) rfl rfl rfl (⟨_, _, _, rfl, (by omega), hB, (by omega), (by omega), f⟩)))
 refine cN (w9a ?_)
 refine qM (vP c) ?_
 refine qI rfl (zP (vs := [vP c]) Tryz.func66 nm66 rfl rfl rfl ?_)
 refine cD (pQ f.pins hB hc (by omega) (by omega)) ?_
 rintro _ u ⟨b, x, y, rfl, aa, h, ab, ac, k⟩
 refine rt9 ?_
 have g := f.trans k (fun i hi => xD i hi)
 refine qM (vJ b) ?_
 refine qe (zA (w9b ?_))
 refine qM (vJ n) ?_
 refine qD rfl (jR rfl rfl) (qe (zA ?_))
 refine yA (p := (200 : Int) < n) rfl rfl (fun l => ?_) (fun l => ?_)
 refine zC (qM (vJ b) ?_)
 refine qD rfl (r_mul rfl rfl (by omega)) (qM (vP c) ?_)
 refine qI rfl (zP (vs := [vP c]) Tryz.func66 nm66 rfl rfl rfl ?_)
 refine cD (pQ g.pins h hc (by omega) (by omega)) ?_
 rintro _ ad ⟨d, ae, af, rfl, ag, m, ah, ai, o⟩
 refine rt9 ?_
 have q := g.trans o (fun i hi => xD i hi)
 refine qD rfl (yO rfl rfl (by omega)) (qM (vJ ((b * 256) + d)) ?_)
 refine qe (w9a ?_)
 refine qM (vJ ((b * 256) + d)) ?_
 refine qM (vJ n) ?_
 refine qD rfl (r_rem rfl rfl (by omega) (by omega)) (qM (vJ (((b * 256) + d) % n)) ?_)
 refine qe (zA ?_)
 refine cO (zT (zS (v := vJ (((b * 256) + d) % n)) rfl rfl rfl ?_))
 have r := Int.emod_nonneg (((b * 256) + d)) (show n ≠ 0 by omega)
 have t := Int.emod_lt_of_pos (((b * 256) + d)) (show 0 < n by omega)
 exact ⟨_, _, _, rfl, (by omega), m, (by omega), (by omega), q⟩
 refine cN (w9a ?_)
 refine qM (vJ b) ?_
 refine qM (vJ n) ?_
 refine qD rfl (r_rem rfl rfl (by omega) (by omega)) (qM (vJ (b % n)) ?_)
 refine qe (zA ?_)
 refine cO (zT (zS (v := vJ (b % n)) rfl rfl rfl ?_))
 have r := Int.emod_nonneg (b) (show n ≠ 0 by omega)
 have t := Int.emod_lt_of_pos (b) (show 0 < n by omega)
 exact ⟨_, _, _, rfl, (by omega), h, (by omega), (by omega), g⟩
theorem one_spec {w : World} {c : Nat} {s : Int} {n : Int} (hP : Pins G w) (hB : Bx G w c [cv, .int .i64 a, .int .u64 s]) (hc : RSl eByte G cv code) (ha : 0 ≤ a ∧ a + 2 ≤ 1000000) (hs : 0 ≤ s ∧ s < 18446744073709551616) (hn : n ≤ 1000) :
  Calls Tryz.prog 16 #[.pointer (some ⟨c, 0, none⟩), .int .i64 n] w fun e w' => ∃ (z : Bool) (a' s' : Int), e = .returned (.bool z) ∧ Bx G w' c [cv, .int .i64 a', .int .u64 s'] ∧ (a ≤ a' ∧ a' ≤ a + 2) ∧ (0 ≤ s' ∧ s' < 18446744073709551616) ∧ Ext (inO (some c)) G w G w' := by
 refine yC (n := 9) Tryz.func16 Tryz.ntmps16 rfl rfl ?_
 have b := exr (inO (some c)) hP
 have hm := hc.max
 refine w9d ?_
 refine qM (.bool false) ?_
 refine qe (w9a ?_)
 refine qM (.pointer (some ⟨c, 0, none⟩)) ?_
 refine qM (.int .i64 n) ?_
 refine qI rfl (zP (vs := [.pointer (some ⟨c, 0, none⟩), .int .i64 n]) Tryz.func35 nm35 rfl rfl rfl ?_)
 refine cD (jT b.pins hB hc (by omega) (by omega) (n := n) (by omega)) ?_
 rintro _ j ⟨d, k, l, rfl, m, f, o, p, g⟩
 refine rt9 ?_
 have h := b.trans g (fun i hi => xD i hi)
 refine qD rfl (qL rfl rfl) (qM (.bool (decide ((d : Int) = 0))) ?_)
 refine qe (zA ?_)
 exact cO (zT (zS (v := .bool (decide ((d : Int) = 0))) rfl rfl rfl (⟨_, _, _, rfl, f, (by omega), (by omega), h⟩)))
theorem nS {w : World} {c : Nat} {s : Int} {l : Value} {xs : List Int} (hP : Pins G w) (hB : Bx G w c [cv, .int .i64 a, .int .u64 s]) (hc : RSl eByte G cv code) (ha : 0 ≤ a ∧ a + 2 ≤ 1000000) (hs : 0 ≤ s ∧ s < 18446744073709551616) (hl : RSl eInt G l xs) (hx : 1 ≤ xs.length ∧ xs.length ≤ 1000) :
  Calls Tryz.prog 37 #[.pointer (some ⟨c, 0, none⟩), l] w fun e w' => ∃ (z : Int) (a' s' : Int), e = .returned (.int .i64 z) ∧ z ∈ xs ∧ Bx G w' c [cv, .int .i64 a', .int .u64 s'] ∧ (a ≤ a' ∧ a' ≤ a + 2) ∧ (0 ≤ s' ∧ s' < 18446744073709551616) ∧ Ext (inO (some c)) G w G w' := by
 refine yC (n := 12) Tryz.func37 Tryz.ntmps37 rfl rfl ?_
 have d := exr (inO (some c)) hP
 have hm := hc.max
 have hml := hl.max
 refine w9d ?_
 refine qM (.int .i64 0) ?_
 refine qe (w9a ?_)
 refine qM l ?_
 refine qM (.pointer (some ⟨c, 0, none⟩)) ?_
 refine qM l ?_
 refine qD rfl (zN dC (v := l) rfl hl) (qI rfl (zP (vs := [.pointer (some ⟨c, 0, none⟩), .int .i64 (xs.length : Int)]) Tryz.func35 nm35 rfl rfl rfl ?_))
 refine cD (jT d.pins hB hc (by omega) (by omega) (n := (xs.length : Int)) (by omega)) ?_
 rintro _ j ⟨b, k, m, rfl, o, g, p, q, h⟩
 refine rt9 ?_
 have f := d.trans h (fun i hi => xD i hi)
 refine qD rfl (zE dC sz3 (v := l) rfl rfl hl (by omega) (by omega)) (qD rfl (zL (r := xs.getD (b).toNat 0) rfl ag3 (z := b) rfl hl f.pins (by omega) (by omega)) (qM (.int .i64 (xs.getD (b).toNat 0)) ?_))
 refine qe (zA ?_)
 exact cO (zT (zS (v := .int .i64 (xs.getD (b).toNat 0)) rfl rfl rfl (⟨_, _, _, rfl, xF (by omega), g, (by omega), (by omega), f⟩)))
end DR1
namespace MK1
open B1 C1 D1 E1
theorem pl92 : (Tryz.prog.underlying 92).bind (placesD Tryz.prog) = some [(0, 1), (1, 1)] := by kernel_rfl
theorem l3Make_own {w : World} {G : Pin} {u v : Value} {fs gs : List (List Nd)} (hP : Pins G w) (hu : RSl (eSl eNode) G u fs) (hv : RSl (eSl eNode) G v gs) (hfa : AllW fs) (hga : AllW gs) :
  Calls Tryz.prog 65 #[u, v] w fun e w' => ∃ (u : Value) (G' : Pin), e = .returned (.agg #[u]) ∧ RSl eNode G' u (formG (mkGm fs gs)) ∧ Ext noS G w G' w' ∧ ∃ Gi, Own eNode 76 Gi w' w.heap.size u (formG (mkGm fs gs)) ∧ Pin.le Gi G' := by
 refine yC (n := 50) Tryz.func65 Tryz.ntmps65 rfl rfl ?_
 have a1 := exr noS hP
 have hmu := hu.max
 have hmv := hv.max
 have hfle := hfa.len
 have hgle := hga.len
 refine w9d ?_
 refine qI rfl (yK [vN] zr26 rfl a1.pins (fun g w2 hp bw dy dz => ?_))
 have a2 := a1.step dy dz
 have d0 : w.heap.size ≤ g := by have := a1.size; omega
 refine qe (w9a ?_)
 refine qD rfl (xH [vN, vN] [vN, vN] [] dK zr92 rfl pl92 rfl (fun _ h => by cases h) rfl) (qI rfl (xL [vN, vN] (v := .agg #[vN, vN]) rfl rfl a2.pins (fun c hq d1 bz d2 b0 => ?_)))
 have a3 := a2.step d2 b0
 have b2 := bw.below b0
 have a4 := zD (cgA some d1) bw.lt
 have a5 : w.heap.size ≤ c := by have := a2.size; omega
 refine qM (vP c) ?_
 refine qe (w9a ?_)
 refine qI rfl (xB (E := eInt) (e := 3) dC sz3 a3.pins (fun a6 d3 d4 d5 a7 b3 => ?_))
 have a8 := a3.step d5 a7
 have b4 := b2.below a7
 have b5 := bz.below a7
 have d6 := zD b3 b2.lt
 have d7 := zD b3 bz.lt
 have b6 := d4.weaken a3.size
 refine qI rfl (xB (E := eInt) (e := 3) dC sz3 a8.pins (fun l d8 d9 ea ak a9 => ?_))
 have eb := a8.step ea ak
 have ec := b6.below ak
 have ed := b4.below ak
 have ee := b5.below ak
 have ef := zG a9 b6.lt
 have eg := zD a9 b4.lt
 have b7 := zD a9 b5.lt
 have eh := d9.weaken a8.size
 refine qM a6 ?_
 refine qM l ?_
 refine qe (zA (w9b ?_))
 refine qM (vJ 0) ?_
 refine qe (zA ?_)
 refine zY (yN (fun k en W => ∃ (ab : Nat → Value) (d : Nat) (atA : Value) (atsA : List Int) (uA : Value) (vA : Value) (nsA : List Nd) (bsA : List Int) (GLA : Pin), en = (upd (upd (upd (upd (upd (upd (upd ab 0 u) 1 v) 4 (vP g)) 5 (vP c)) 6 atA) 7 l) 8 (vJ (d : Int))) ∧ k = fs.length - d ∧ Ext noS G w GLA W ∧ Pin.le G GLA ∧ (d ≤ fs.length) ∧ (PoolOk (bkq nsA bsA)) ∧ (GsOk (bkq nsA bsA) atsA ((fs.take d).map gOf)) ∧ (nsA.length ≤ 1000 * d) ∧ (Own eInt 3 GLA W w.heap.size atA (atsA)) ∧ (Own eNode 76 GLA W 0 uA (nsA)) ∧ (Own eInt 3 GLA W 0 vA (bsA)) ∧ (Own eInt 3 GLA W w.heap.size l ([])) ∧ (Bx GLA W g [vN]) ∧ (Bx GLA W c [uA, vA]) ∧ (Apart atA.ownBlock uA.ownBlock) ∧ (Apart atA.ownBlock vA.ownBlock) ∧ (Apart atA.ownBlock l.ownBlock) ∧ (Apart atA.ownBlock (some g)) ∧ (Apart atA.ownBlock (some c)) ∧ (Apart uA.ownBlock vA.ownBlock) ∧ (Apart uA.ownBlock l.ownBlock) ∧ (Apart uA.ownBlock (some g)) ∧ (Apart uA.ownBlock (some c)) ∧ (Apart vA.ownBlock l.ownBlock) ∧ (Apart vA.ownBlock (some g)) ∧ (Apart vA.ownBlock (some c)) ∧ (Lo w noS uA.ownBlock) ∧ (Lo w noS vA.ownBlock)) _ ⟨_, 0, a6, [], vN, vN, [], [], G, (pS 8 (pS 7 (pS 6 (pS 5 (pS 4 (pS 1 (pU 0))))))), rfl, eb, cJ _, cI _, (eZ Ar.empty), GsOk.nil, (by simp), ec, (Own.nil _ _ _ _ _), (Own.nil _ _ _ _ _), eh, ed, ee, apart_none.symm, apart_none.symm, ef.symm, d6, d7, apart_none, apart_none, apart_none, apart_none, apart_none, apart_none, apart_none, (kD _ _), (kD _ _)⟩ ?_)
 rintro hr _ hs ⟨ab, d, atA, atsA, uA, vA, nsA, bsA, GLA, rfl, ht, q, ac, hw, hokA, hgsA, hblA, al, b8, ca, am, an, cb, cc, cd, ba, bb, ad, ce, cf, cg, ch, ci, cj, ck, cl, cm⟩
 have hglA := hgsA.len
 rw [List.length_map, List.length_take] at hglA
 refine w9b ?_
 refine qM (vJ (d : Int)) ?_
 refine qM u ?_
 refine qD rfl (zN dJ (v := u) rfl hu) (qD rfl (yQ rfl rfl) (qe (zA ?_)))
 refine yA (p := ((d : Int) : Int) < (fs.length : Int)) rfl rfl (fun ei => ?_) (fun ei => ?_)
 have hgd := hfa.ok d (by omega)
 have hgdl := hgd.2.1
 have hgdh := hgd.2.2
 have hrk := dA (fs := fs.getD d []) hokA hgd.1 (by omega) (by omega)
 refine cN (zA (zB ?_))
 refine zY (zC (qM atA ?_))
 refine qM (vP c) ?_
 refine qM u ?_
 refine qM (vJ (d : Int)) ?_
 refine qD rfl (zE dJ sz26 (v := u) rfl rfl hu (by omega) (by omega)) ?_
 obtain ⟨ej, cn, ek⟩ := nm_form (hu.at (z := (d : Int)) (by omega) (by omega)) (j := d) rfl
 have hx := cn.max
 refine qD rfl (ek ag26 sz26 rfl (cC q.pins ac)) (qI rfl (zP (vs := [vP c, .agg #[ej]]) Tryz.func52 nm52 rfl rfl rfl ?_))
 refine cD (jK q.pins ⟨cb, b8, ca, ch.symm, ck.symm, ce⟩ hokA.ar.ok (cn.mono ac) ⟨hgd.1, hgdl⟩ (by first | omega | (simp; omega))) ?_
 rintro _ hy ⟨el, em, co, rfl, r, ae, ao, ap⟩
 refine rt9 ?_
 have bc : ∀ i, inS c uA vA i → w.heap.size ≤ i ∨ noS i := kH (zW a5) cl cm
 have bd := q.trans ae bc
 have be := notS (u := uA) (v := vA) ad cc cd
 have eo := al.extS ae be
 have cp := qY ao be (jG al)
 have cq := qY ap be (jG al)
 have bf := notS (u := uA) (v := vA) b7 cf.symm ci.symm
 have ep := am.extS ae bf
 have er := qY ao bf (jG am)
 have es := qY ap bf (jG am)
 have bg := notS (u := uA) (v := vA) a4.symm cg.symm cj.symm
 have et := an.extS ae (notSb bg)
 have eu := qY ao bg (eX an)
 have ev := qY ap bg (eX an)
 have ew := r.bx
 have ex := r.ou
 have ey := r.ov
 have ez := r.abu
 have e0 := r.abv
 have e1 := r.auv
 have e2 := xT ao bc q.size
 have e3 := xT ap bc q.size
 refine qI rfl (xA (E := eInt) (e := 3) [vJ (rootM nsA bsA (fs.getD d []))] [rootM nsA bsA (fs.getD d [])] dC sz3 zr3 (by exact qC (by rfl)) (yG (by rfl)) rfl rfl rfl rfl (by decide) bd.pins (fun cr e4 e5 e6 m hz => ?_))
 have bh := bd.step e6 m
 have ct := eo.below m
 have cu := ep.below m
 have cv := ex.below m
 have cw := ey.below m
 have cx := et.below m
 have cy := ew.below m
 have e7 := e5.weaken bd.size
 refine qI rfl (oA (E := eInt) (v := atA) (u := cr) 8 dC ap3 (by decide) rfl rfl bh.pins ct e7.src (bh.size) (fun cz h0 e8 e9 s af => ?_))
 have fa := bh.write e9 s ((yE ct))
 have fb := cu.keptA s ba.symm
 have fc := cv.keptA s cp.symm
 have fd := cw.keptA s cq.symm
 have fe := cx.keptA s bb.symm
 have ff := cy.keptA s ad.symm
 have fg := zF ba.symm af cu.lt
 have fh := zF cp.symm af cv.lt
 have fi := zF cq.symm af cw.lt
 have fj := zO bb.symm af cx.lt
 have fk := zO ad.symm af cy.lt
 have h1 := la1 atsA (rootM nsA bsA (fs.getD d []))
 refine qM cz ?_
 refine qe (w9c ?_)
 refine qM (vJ (d : Int)) ?_
 refine qD rfl (yO rfl rfl (by omega)) (qM (vJ ((d : Int) + 1)) ?_)
 refine qe (yD (⟨_, ?_, _, rfl, _, d + 1, cz, atsA ++ ([rootM nsA bsA (fs.getD d [])]), el, em, (addM nsA bsA (fs.getD d [])).2.1, (addM nsA bsA (fs.getD d [])).2.2, co, (pS 8 (pS 7 (pS 6 (pS 5 (pS 4 (pS 1 (pU 0))))))), rfl, fa, (cB ac ae.le), (by omega), hrk.ok, (by rw [take_map (by omega)]; exact (hgsA.px hrk.px hokA hrk.ok).snoc hrk.pl hrk.pd), (by have h8 := hrk.len; have h9 := hgd.2.2; omega), e8, fc, fd, fb, fe, ff, fh.symm, fi.symm, fg.symm, fj.symm, fk.symm, e1, er.symm, eu.symm, ez.symm, es.symm, ev.symm, e0.symm, e2, e3⟩))
 omega
 refine cP (zZ (yJ (yI (zA (w9b ?_)))))
 refine qM (vJ 0) ?_
 refine qe (zA ?_)
 refine zY ?_
 have hi5n : d = fs.length := by omega
 have hgsF : GsOk (bkq nsA bsA) atsA (fs.map gOf) := by rw [hi5n, List.take_length] at hgsA; exact hgsA
 refine yN (fun k en W => ∃ (ab : Nat → Value) (f : Nat) (atB : Value) (atsB : List Int) (uB : Value) (vB : Value) (nsB : List Nd) (bsB : List Int) (GLB : Pin), en = (upd (upd (upd (upd (upd (upd ab 1 v) 4 (vP g)) 5 (vP c)) 6 atA) 7 atB) 9 (vJ (f : Int))) ∧ k = gs.length - f ∧ Ext noS G w GLB W ∧ Pin.le GLA GLB ∧ (f ≤ gs.length) ∧ (PoolOk (bkq nsB bsB)) ∧ (GsOk (bkq nsB bsB) atsB ((gs.take f).map gOf)) ∧ (nsB.length ≤ 100000 + 1000 * f) ∧ (GsOk (bkq nsB bsB) atsA (fs.map gOf)) ∧ (Own eInt 3 GLB W w.heap.size atB (atsB)) ∧ (Own eNode 76 GLB W 0 uB (nsB)) ∧ (Own eInt 3 GLB W 0 vB (bsB)) ∧ (Own eInt 3 GLB W w.heap.size atA (atsA)) ∧ (Bx GLB W g [vN]) ∧ (Bx GLB W c [uB, vB]) ∧ (Apart atB.ownBlock uB.ownBlock) ∧ (Apart atB.ownBlock vB.ownBlock) ∧ (Apart atB.ownBlock atA.ownBlock) ∧ (Apart atB.ownBlock (some g)) ∧ (Apart atB.ownBlock (some c)) ∧ (Apart uB.ownBlock vB.ownBlock) ∧ (Apart uB.ownBlock atA.ownBlock) ∧ (Apart uB.ownBlock (some g)) ∧ (Apart uB.ownBlock (some c)) ∧ (Apart vB.ownBlock atA.ownBlock) ∧ (Apart vB.ownBlock (some g)) ∧ (Apart vB.ownBlock (some c)) ∧ (Lo w noS uB.ownBlock) ∧ (Lo w noS vB.ownBlock)) _ ⟨_, 0, l, [], uA, vA, nsA, bsA, GLA, (pS 9 (pS 7 (pS 6 (pS 5 (pS 4 (pU 1)))))), rfl, q, cJ _, cI _, hokA, GsOk.nil, (by omega), hgsF, am, b8, ca, al, an, cb, cf.symm, ci.symm, ba.symm, eg, b7, ce, cc.symm, cg, ch, cd.symm, cj, ck, cl, cm⟩ ?_
 rintro h2 _ h3 ⟨ab, f, atB, atsB, uB, vB, nsB, bsB, GLB, rfl, h4, t, bi, h5, hokB, hgsB, hblB, hgsL, aq, c0, c1, au, av, c2, c3, c4, bj, bk, aw, c5, c6, c7, c8, c9, da, db, dc, dd⟩
 have hglB := hgsB.len
 rw [List.length_map, List.length_take] at hglB
 refine w9b ?_
 refine qM (vJ (f : Int)) ?_
 refine qM v ?_
 refine qD rfl (zN dJ (v := v) rfl hv) (qD rfl (yQ rfl rfl) (qe (zA ?_)))
 refine yA (p := ((f : Int) : Int) < (gs.length : Int)) rfl rfl (fun fn => ?_) (fun fn => ?_)
 have hgd := hga.ok f (by omega)
 have hgdl := hgd.2.1
 have hgdh := hgd.2.2
 have hrk := dA (fs := gs.getD f []) hokB hgd.1 (by omega) (by omega)
 refine cN (zA (zB ?_))
 refine zY (zC (qM atB ?_))
 refine qM (vP c) ?_
 refine qM v ?_
 refine qM (vJ (f : Int)) ?_
 refine qD rfl (zE dJ sz26 (v := v) rfl rfl hv (by omega) (by omega)) ?_
 obtain ⟨fo, de, fp⟩ := nm_form (hv.at (z := (f : Int)) (by omega) (by omega)) (j := f) rfl
 have h6 := de.max
 refine qD rfl (fp ag26 sz26 rfl (cC t.pins (cB ac bi))) (qI rfl (zP (vs := [vP c, .agg #[fo]]) Tryz.func52 nm52 rfl rfl rfl ?_))
 refine cD (jK t.pins ⟨c2, c0, c1, c8.symm, db.symm, c5⟩ hokB.ar.ok (de.mono (cB ac bi)) ⟨hgd.1, hgdl⟩ (by first | omega | (simp; omega))) ?_
 rintro _ h7 ⟨fq, fr, df, rfl, x, ag, ax, ay⟩
 refine rt9 ?_
 have bl : ∀ i, inS c uB vB i → w.heap.size ≤ i ∨ noS i := kH (zW a5) dc dd
 have bm := t.trans ag bl
 have bn := notS (u := uB) (v := vB) aw c3 c4
 have ft := aq.extS ag bn
 have dg := qY ax bn (jG aq)
 have dh := qY ay bn (jG aq)
 have bo := notS (u := uB) (v := vB) ad c6.symm c9.symm
 have fu := au.extS ag bo
 have fv := qY ax bo (jG au)
 have fw := qY ay bo (jG au)
 have bp := notS (u := uB) (v := vB) a4.symm c7.symm da.symm
 have fx := av.extS ag (notSb bp)
 have fy := qY ax bp (eX av)
 have fz := qY ay bp (eX av)
 have f0 := x.bx
 have f1 := x.ou
 have f2 := x.ov
 have f3 := x.abu
 have f4 := x.abv
 have f5 := x.auv
 have f6 := xT ax bl t.size
 have f7 := xT ay bl t.size
 refine qI rfl (xA (E := eInt) (e := 3) [vJ (rootM nsB bsB (gs.getD f []))] [rootM nsB bsB (gs.getD f [])] dC sz3 zr3 (by exact qC (by rfl)) (yG (by rfl)) rfl rfl rfl rfl (by decide) bm.pins (fun di f8 f9 ga o ia => ?_))
 have bq := bm.step ga o
 have dj := ft.below o
 have dk := fu.below o
 have dl := f1.below o
 have dm := f2.below o
 have dn := fx.below o
 have dp := f0.below o
 have gb := f9.weaken bm.size
 refine qI rfl (oA (E := eInt) (v := atB) (u := di) 8 dC ap3 (by decide) rfl rfl bq.pins dj gb.src (bq.size) (fun dq ib gc gd y ah => ?_))
 have ge := bq.write gd y ((yE dj))
 have gf := dk.keptA y bj.symm
 have gg := dl.keptA y dg.symm
 have gh := dm.keptA y dh.symm
 have gi := dn.keptA y bk.symm
 have gj := dp.keptA y aw.symm
 have gk := zF bj.symm ah dk.lt
 have gl := zF dg.symm ah dl.lt
 have gm := zF dh.symm ah dm.lt
 have gn := zO bk.symm ah dn.lt
 have gp := zO aw.symm ah dp.lt
 have ic := la1 atsB (rootM nsB bsB (gs.getD f []))
 refine qM dq ?_
 refine qe (w9c ?_)
 refine qM (vJ (f : Int)) ?_
 refine qD rfl (yO rfl rfl (by omega)) (qM (vJ ((f : Int) + 1)) ?_)
 refine qe (yD (⟨_, ?_, _, rfl, _, f + 1, dq, atsB ++ ([rootM nsB bsB (gs.getD f [])]), fq, fr, (addM nsB bsB (gs.getD f [])).2.1, (addM nsB bsB (gs.getD f [])).2.2, df, (pS 9 (pS 7 (pS 6 (pS 5 (pS 4 (pU 1)))))), rfl, ge, (cB bi ag.le), (by omega), hrk.ok, (by rw [take_map (by omega)]; exact (hgsB.px hrk.px hokB hrk.ok).snoc hrk.pl hrk.pd), (by have h8 := hrk.len; have h9 := hgd.2.2; omega), (hgsL.px hrk.px hokB hrk.ok), gc, gg, gh, gf, gi, gj, gl.symm, gm.symm, gk.symm, gn.symm, gp.symm, f5, fv.symm, fy.symm, f3.symm, fw.symm, fz.symm, f4.symm, f6, f7⟩))
 omega
 refine cP (zZ (yJ (yI (w9a ?_))))
 have hj5n : f = gs.length := by omega
 have hgsR : GsOk (bkq nsB bsB) atsB (gs.map gOf) := by rw [hj5n, List.take_length] at hgsB; exact hgsB
 have gq := hgsL.len
 have gr := hgsR.len
 rw [List.length_map] at gq gr
 have hpt := bk_put (xs := atsA) (ys := atsB) hokB (by omega) ⟨by omega, by omega⟩ hgsL.pl hgsR.pl
 have hpd := hpt.pd
 rw [hgsL.eq, hgsR.eq] at hpd
 refine qM (vP c) ?_
 refine qM (vP c) ?_
 refine qM atA ?_
 refine qM atB ?_
 obtain ⟨ie, br, gt, gu, ai⟩ := au.sealed t
 have gv := aq.moreO br ai bj
 have gw := c0.moreO br ai c6
 have gx := c1.moreO br ai c9
 have gy := av.moreO ai bb.symm
 have gz := c2.moreO ai ad.symm
 obtain ⟨ig, bs, az, g0, a0⟩ := gv.sealed gt
 have g1 := gw.moreO bs a0 c3.symm
 have g2 := gx.moreO bs a0 c4.symm
 have g3 := gy.moreO a0 bk.symm
 have g4 := gz.moreO a0 aw.symm
 refine qI rfl (zP (vs := [vP c, atA, atB]) Tryz.func77 nm77 rfl rfl rfl ?_)
 refine cD (put_spec az.pins ⟨g4, g1, g2, c8.symm, db.symm, c5⟩ hokB.ar.ok (gu.mono bs) g0 ⟨by omega, by omega⟩ (fS hgsL.pl) (fS hgsR.pl)) ?_
 rintro _ bt ⟨ih, ii, ij, rfl, aa, dr, g5, g6⟩
 refine rt9 ?_
 have bu : ∀ i, inS c uB vB i → w.heap.size ≤ i ∨ noS i := kH (zW a5) dc dd
 have bv := az.trans dr bu
 have g7 := notS (u := uB) (v := vB) a4.symm c7.symm da.symm
 have ds := g3.extS dr (notSb g7)
 have dt := aa.bx
 have g8 := aa.ou
 have g9 := aa.ov
 have ha := aa.abu
 have hb := aa.abv
 have hc := aa.auv
 have ik := xT g5 bu az.size
 have il := xT g6 bu az.size
 refine qI rfl (zP (vs := [vP c, vJ (putK nsB bsB atsA atsB)]) Tryz.func51 nm51 rfl rfl rfl ?_)
 refine cD (form_own bv.pins ⟨dt, g8, g9, ha, hb, hc⟩ hpt.ok.ar.ok hpt.pl) ?_
 rintro _ im ⟨aj, hd, rfl, du, dv, he⟩
 refine rt9 ?_
 have io : g < bt.heap.size := ds.lt
 have ip : c < bt.heap.size := dt.lt
 have dw := bv.tr dv
 have hf := ds.ext dv
 refine q0 rfl rfl rfl (o_stp (cs' := [aj]) (us := [aj]) (v := .agg #[aj]) sz26 rfl rfl rfl (yG du.one) dw.pins hf (cE rfl) rfl (fun hg hh hi dx iq => ?_))
 have hk := dw.write hi dx ((zW d0))
 have hl : ∃ Gi, Own eNode 76 Gi hg bt.heap.size aj (formM (putN nsB bsB atsA atsB) (putB nsB bsB atsA atsB) (putK nsB bsB atsA atsB).toNat) ∧ Pin.le Gi hd := let ⟨Gi, a, b⟩ := he; ⟨Gi, a.keptA dx (fun k hm hn => by cases hn; have := (a.lt _ hm).1; omega), b⟩
 refine qe (zA ?_)
 refine cO (zT (vU (cs := [aj]) rfl rfl rfl ag26 sz26 (fun j u hj => by rw [cR]; exact hh.cell hj) ?_))
 have hfe : mkGm fs gs = _ := hpd.symm
 obtain ⟨Gi, hoi, hli⟩ := hl
 exact ⟨_, _, rfl, (by rw [hfe, ← sE hpt.ok hpt.pl]; exact du), hk, (by rw [hfe, ← sE hpt.ok hpt.pl]; exact ⟨Gi, hoi.weaken bv.size, hli⟩)⟩
end MK1
namespace DR2
open B1 C1 D1 E1 MK1 DR1
variable {G : Pin} {base : Nat} {vs : List Value} {cv : Value} {code : List UInt8} {a m : Int}
theorem xR {w : World} {Q : List Nat} {us ws : List Value} {u v : Value} (hP : Pins G w) (hF : Fr 76 base G w Q vs) (hq : KQ Q) (hl : Q.length ≤ 60) (hb : base ≤ w.heap.size)
  (hu : RSl eVal G u us) (hv : RSl eVal G v ws) (hmu : ∀ x ∈ us, x ∈ vs) (hmv : ∀ x ∈ ws, x ∈ vs) (hlu : us.length ≤ 100) (hlv : ws.length ≤ 100) :
  Calls Tryz.prog 65 #[u, v] w fun e w' => ∃ (x : Value) (g : Nat) (G' : Pin), e = .returned (.agg #[x]) ∧ KQ (g :: Q) ∧ Fr 76 base G' w' (g :: Q) (x :: vs) ∧ Ext noS G w G' w' := by
 obtain ⟨gs, g1, g2, g3⟩ := (hF.mem hmu).games
 obtain ⟨hs, h1, h2, h3⟩ := (hF.mem hmv).games
 have ru := pE hu (by rw [List.length_map]; exact g1) g3
 have rv := pE hv (by rw [List.length_map]; exact h1) h3
 have wu := hq.allW (by omega) g2 (by omega)
 have wv := hq.allW (by omega) h2 (by omega)
 refine (l3Make_own hP ru rv wu wv).mono fun e w' ⟨x, G', e1, hr, hx, Gi, ho, hle⟩ => ?_
 have hk := hq.add (by omega) g2 h2 (by omega) (by omega)
 have hm := hk.is _ List.mem_cons_self
 exact ⟨x, _, G', e1, hk, (hF.ext hx).cons ⟨⟨Gi, ho.weaken hb, hle⟩, hr, hm.1.lo⟩, hx⟩
theorem sZ {w : World} (hP : Pins G w) :
  Calls Tryz.prog 63 #[] w fun e w' => ∃ (u : Value) (vs : List Value) (Q : List Nat) (G' : Pin), e = .returned u ∧ Own eVal 26 G' w' w.heap.size u vs ∧ Fr 76 w.heap.size G' w' Q vs ∧ KQ Q ∧ vs.length = 9 ∧ Q.length = 9 ∧ Ext noS G w G' w' := by
 refine yC (n := 59) Tryz.func63 Tryz.ntmps63 rfl rfl ?_
 have bi := exr noS hP
 have ey : Fr 76 w.heap.size G w [] [] := Fr.nil
 refine w9d ?_
 refine qM vN ?_
 refine qe (w9a ?_)
 refine qI rfl (zP (vs := [vN, vN]) Tryz.func65 nm65 rfl rfl rfl ?_)
 refine cD (xR bi.pins ey KQ.nil (by first | omega | (simp; done) | (simp; omega)) bi.size (xV _ _) (xV _ _) (by simp) (by simp) (by first | omega | simp) (by first | omega | simp)) ?_
 rintro _ w4 ⟨a, g2, G3, rfl, ez, ce, e0⟩
 refine rt9 ?_
 have bj := bi.tr e0
 have m := ce.one List.mem_cons_self
 refine qI rfl (yK [vN] zr26 rfl bj.pins (fun e1 ls lu cf e2 cg => ?_))
 have ch := bj.step e2 cg
 have e3 := ce.below cg
 have ci : w.heap.size ≤ e1 := by have := bj.size; omega
 refine q0 rfl rfl rfl (o_stp (cs' := [a]) (us := [a]) (v := .agg #[a]) sz26 rfl rfl rfl (yG m) ch.pins cf (cE rfl) rfl (fun lv e4 e5 cj lw => ?_))
 have e6 := ch.write e5 cj ((zW ci))
 have e7 := e3.kept cj (fun k hk o u => by cases hk; exact cf.free o u)
 obtain ⟨e8, e9, a5, aj, lx⟩ := e4.shut e6 ci
 have fa := e7.le e9
 refine qe (w9a ?_)
 refine qD rfl (zU (cs := [a]) ag26 sz26 rfl (fun j u hj => a5.pins _ _ _ (aj _ _ (by simpa using hj)))) (qI rfl (xE (E := eVal) (e := 26) [a] a dJ sz26 zr26 ⟨rfl, m⟩ rfl (by decide) a5.pins (fun ck fb fc fd cl ly => ?_)))
 have fe := a5.step fd cl
 have ff := fa.below cl
 have fg := fc.weaken a5.size
 obtain ⟨lz, ak, bk, fh, l0⟩ := fg.sealed fe
 have fi := ff.le ak
 refine qI rfl (zP (vs := [ck, vN]) Tryz.func65 nm65 rfl rfl rfl ?_)
 refine cD (xR bk.pins fi ez (by first | omega | (simp; done) | (simp; omega)) bk.size fh (xV _ _) (by simp) (by simp) (by first | omega | simp) (by first | omega | simp)) ?_
 rintro _ l1 ⟨f, l2, l3, rfl, fj, cm, al⟩
 refine rt9 ?_
 have bl := bk.tr al
 have a1 := cm.one List.mem_cons_self
 refine qI rfl (yK [vN] zr26 rfl bl.pins (fun fk l4 l5 cn fl co => ?_))
 have cp := bl.step fl co
 have fm := cm.below co
 have cq : w.heap.size ≤ fk := by have := bl.size; omega
 refine q0 rfl rfl rfl (o_stp (cs' := [f]) (us := [f]) (v := .agg #[f]) sz26 rfl rfl rfl (yG a1) cp.pins cn (cE rfl) rfl (fun l6 fn fo cr l7 => ?_))
 have fp := cp.write fo cr ((zW cq))
 have fq := fm.kept cr (fun k hk o u => by cases hk; exact cn.free o u)
 obtain ⟨fr, am, a6, bm, l8⟩ := fn.shut fp cq
 have fs := fq.le am
 refine qe (w9a ?_)
 refine qD rfl (zU (cs := [a]) ag26 sz26 rfl (fun j u hj => (cC a6.pins (cB (cB ak al.le) am)) _ _ _ (aj _ _ (by simpa using hj)))) (qI rfl (xE (E := eVal) (e := 26) [a] a dJ sz26 zr26 ⟨rfl, m⟩ rfl (by decide) a6.pins (fun ct ft fu fv cu l9 => ?_)))
 have fw := a6.step fv cu
 have fx := fs.below cu
 have fy := fu.weaken a6.size
 obtain ⟨ma, aa, bn, fz, mb⟩ := fy.sealed fw
 have f0 := fx.le aa
 refine qI rfl (zP (vs := [vN, ct]) Tryz.func65 nm65 rfl rfl rfl ?_)
 refine cD (xR bn.pins f0 fj (by first | omega | (simp; done) | (simp; omega)) bn.size (xV _ _) fz (by simp) (by simp) (by first | omega | simp) (by first | omega | simp)) ?_
 rintro _ mc ⟨ag, md, me, rfl, f1, cv, ab⟩
 refine rt9 ?_
 have bo := bn.tr ab
 have a7 := cv.one List.mem_cons_self
 refine qI rfl (yK [vN] zr26 rfl bo.pins (fun f2 mf mg cw f3 cx => ?_))
 have cy := bo.step f3 cx
 have f4 := cv.below cx
 have cz : w.heap.size ≤ f2 := by have := bo.size; omega
 refine q0 rfl rfl rfl (o_stp (cs' := [ag]) (us := [ag]) (v := .agg #[ag]) sz26 rfl rfl rfl (yG a7) cy.pins cw (cE rfl) rfl (fun mh f5 f6 c0 mi => ?_))
 have f7 := cy.write f6 c0 ((zW cz))
 have f8 := f4.kept c0 (fun k hk o u => by cases hk; exact cw.free o u)
 obtain ⟨c1, ac, a8, c2, mj⟩ := f5.shut f7 cz
 have f9 := f8.le ac
 refine qe (w9a ?_)
 refine qD rfl (zU (cs := [a]) ag26 sz26 rfl (fun j u hj => (cC a8.pins (cB (cB (cB (cB (cB ak al.le) am) aa) ab.le) ac)) _ _ _ (aj _ _ (by simpa using hj)))) (qI rfl (xE (E := eVal) (e := 26) [a] a dJ sz26 zr26 ⟨rfl, m⟩ rfl (by decide) a8.pins (fun c3 ga gb gc c4 mk => ?_)))
 have a9 := a8.step gc c4
 have gd := f9.below c4
 have c5 := gb.weaken a8.size
 refine qD rfl (zU (cs := [a]) ag26 sz26 rfl (fun j u hj => (cC a9.pins (cB (cB (cB (cB (cB ak al.le) am) aa) ab.le) ac)) _ _ _ (aj _ _ (by simpa using hj)))) (qI rfl (xE (E := eVal) (e := 26) [a] a dJ sz26 zr26 ⟨rfl, m⟩ rfl (by decide) a9.pins (fun c6 ge gf gg bp gh => ?_)))
 have gi := a9.step gg bp
 have gj := c5.below bp
 have gk := gd.below bp
 have gl := zG gh c5.lt
 have gm := gf.weaken a9.size
 obtain ⟨ml, t, gn, gp, gq⟩ := gj.sealed gi
 have gr := gm.moreO t gq gl
 have gs := gk.le t
 obtain ⟨mm, x, bq, gt, mn⟩ := gr.sealed gn
 have gu := gs.le x
 refine qI rfl (zP (vs := [c3, c6]) Tryz.func65 nm65 rfl rfl rfl ?_)
 refine cD (xR bq.pins gu f1 (by first | omega | (simp; done) | (simp; omega)) bq.size (gp.mono x) gt (by simp) (by simp) (by first | omega | simp) (by first | omega | simp)) ?_
 rintro _ mo ⟨b, mp, mq, rfl, gv, c7, ad⟩
 refine rt9 ?_
 have br := bq.tr ad
 have ar := c7.one List.mem_cons_self
 refine qI rfl (yK [vN] zr26 rfl br.pins (fun gw mr ms c8 gx c9 => ?_))
 have da := br.step gx c9
 have gy := c7.below c9
 have db : w.heap.size ≤ gw := by have := br.size; omega
 refine q0 rfl rfl rfl (o_stp (cs' := [b]) (us := [b]) (v := .agg #[b]) sz26 rfl rfl rfl (yG ar) da.pins c8 (cE rfl) rfl (fun mt gz g0 dc mu => ?_))
 have g1 := da.write g0 dc ((zW db))
 have g3 := gy.kept dc (fun k hk o u => by cases hk; exact c8.free o u)
 obtain ⟨dd, ae, ba, a2, mv⟩ := gz.shut g1 db
 have g4 := g3.le ae
 refine qe (w9a ?_)
 refine qD rfl (zU (cs := [a]) ag26 sz26 rfl (fun j u hj => (cC ba.pins (cB (cB (cB (cB (cB (cB (cB (cB (cB ak al.le) am) aa) ab.le) ac) t) x) ad.le) ae)) _ _ _ (aj _ _ (by simpa using hj)))) (qI rfl (xE (E := eVal) (e := 26) [a] a dJ sz26 zr26 ⟨rfl, m⟩ rfl (by decide) ba.pins (fun de g5 g6 g7 df mw => ?_)))
 have bb := ba.step g7 df
 have g8 := g4.below df
 have dg := g6.weaken ba.size
 refine qD rfl (zU (cs := [b]) ag26 sz26 rfl (fun j u hj => bb.pins _ _ _ (a2 _ _ (by simpa using hj)))) (qI rfl (xE (E := eVal) (e := 26) [b] b dJ sz26 zr26 ⟨rfl, ar⟩ rfl (by decide) bb.pins (fun dh g9 ha hb bs hc => ?_)))
 have hd := bb.step hb bs
 have he := dg.below bs
 have hf := g8.below bs
 have hg := zG hc dg.lt
 have hh := ha.weaken bb.size
 obtain ⟨mx, c, hi, hl, hm⟩ := he.sealed hd
 have hn := hh.moreO c hm hg
 have ho := hf.le c
 obtain ⟨my, d, bt, hp, mz⟩ := hn.sealed hi
 have hq := ho.le d
 refine qI rfl (zP (vs := [de, dh]) Tryz.func65 nm65 rfl rfl rfl ?_)
 refine cD (xR bt.pins hq gv (by first | omega | (simp; done) | (simp; omega)) bt.size (hl.mono d) hp (by simp) (by simp) (by first | omega | simp) (by first | omega | simp)) ?_
 rintro _ m0 ⟨aw, m1, m2, rfl, hr, di, g⟩
 refine rt9 ?_
 have bu := bt.tr g
 have bv := di.one List.mem_cons_self
 refine qI rfl (yK [vN] zr26 rfl bu.pins (fun hs m3 m4 dj ht dk => ?_))
 have dl := bu.step ht dk
 have hu := di.below dk
 have dm : w.heap.size ≤ hs := by have := bu.size; omega
 refine q0 rfl rfl rfl (o_stp (cs' := [aw]) (us := [aw]) (v := .agg #[aw]) sz26 rfl rfl rfl (yG bv) dl.pins dj (cE rfl) rfl (fun m5 hv hw dn m6 => ?_))
 have hx := dl.write hw dn ((zW dm))
 have hy := hu.kept dn (fun k hk o u => by cases hk; exact dj.free o u)
 obtain ⟨dp, h, bc, hz, m7⟩ := hv.shut hx dm
 have h0 := hy.le h
 refine qe (w9a ?_)
 refine qD rfl (zU (cs := [a]) ag26 sz26 rfl (fun j u hj => (cC bc.pins (cB (cB (cB (cB (cB (cB (cB (cB (cB (cB (cB (cB (cB ak al.le) am) aa) ab.le) ac) t) x) ad.le) ae) c) d) g.le) h)) _ _ _ (aj _ _ (by simpa using hj)))) (qI rfl (xE (E := eVal) (e := 26) [a] a dJ sz26 zr26 ⟨rfl, m⟩ rfl (by decide) bc.pins (fun dq h1 h2 h3 dr m8 => ?_)))
 have bd := bc.step h3 dr
 have h4 := h0.below dr
 have ds := h2.weaken bc.size
 refine qD rfl (zU (cs := [f]) ag26 sz26 rfl (fun j u hj => (cC bd.pins (cB (cB (cB (cB (cB (cB (cB (cB (cB (cB aa ab.le) ac) t) x) ad.le) ae) c) d) g.le) h)) _ _ _ (bm _ _ (by simpa using hj)))) (qI rfl (xE (E := eVal) (e := 26) [f] f dJ sz26 zr26 ⟨rfl, a1⟩ rfl (by decide) bd.pins (fun dt h5 h6 h7 bw h8 => ?_)))
 have h9 := bd.step h7 bw
 have ia := ds.below bw
 have ib := h4.below bw
 have ic := zG h8 ds.lt
 have ie := h6.weaken bd.size
 obtain ⟨m9, i, ig, ih, ii⟩ := ia.sealed h9
 have ij := ie.moreO i ii ic
 have ik := ib.le i
 obtain ⟨na, l, bx, il, nb⟩ := ij.sealed ig
 have im := ik.le l
 refine qI rfl (zP (vs := [dq, dt]) Tryz.func65 nm65 rfl rfl rfl ?_)
 refine cD (xR bx.pins im hr (by first | omega | (simp; done) | (simp; omega)) bx.size (ih.mono l) il (by simp) (by simp) (by first | omega | simp) (by first | omega | simp)) ?_
 rintro _ nc ⟨ax, nd, ne, rfl, io, du, p⟩
 refine rt9 ?_
 have bz := bx.tr p
 have b0 := du.one List.mem_cons_self
 refine qI rfl (yK [vN] zr26 rfl bz.pins (fun ip nf ng dv iq dw => ?_))
 have dx := bz.step iq dw
 have ir := du.below dw
 have dy : w.heap.size ≤ ip := by have := bz.size; omega
 refine q0 rfl rfl rfl (o_stp (cs' := [ax]) (us := [ax]) (v := .agg #[ax]) sz26 rfl rfl rfl (yG b0) dx.pins dv (cE rfl) rfl (fun nh it iu dz ni => ?_))
 have iv := dx.write iu dz ((zW dy))
 have iw := ir.kept dz (fun k hk o u => by cases hk; exact dv.free o u)
 obtain ⟨d0, q, be, ix, nj⟩ := it.shut iv dy
 have iy := iw.le q
 refine qe (w9a ?_)
 refine qD rfl (zU (cs := [f]) ag26 sz26 rfl (fun j u hj => (cC be.pins (cB (cB (cB (cB (cB (cB (cB (cB (cB (cB (cB (cB (cB (cB aa ab.le) ac) t) x) ad.le) ae) c) d) g.le) h) i) l) p.le) q)) _ _ _ (bm _ _ (by simpa using hj)))) (qI rfl (xE (E := eVal) (e := 26) [f] f dJ sz26 zr26 ⟨rfl, a1⟩ rfl (by decide) be.pins (fun d1 iz i0 i1 d2 nk => ?_)))
 have bf := be.step i1 d2
 have i2 := iy.below d2
 have d3 := i0.weaken be.size
 refine qD rfl (zU (cs := [ag]) ag26 sz26 rfl (fun j u hj => (cC bf.pins (cB (cB (cB (cB (cB (cB (cB (cB (cB (cB (cB t x) ad.le) ae) c) d) g.le) h) i) l) p.le) q)) _ _ _ (c2 _ _ (by simpa using hj)))) (qI rfl (xE (E := eVal) (e := 26) [ag] ag dJ sz26 zr26 ⟨rfl, a7⟩ rfl (by decide) bf.pins (fun d4 i3 i4 i5 b1 i6 => ?_)))
 have i7 := bf.step i5 b1
 have i8 := d3.below b1
 have i9 := i2.below b1
 have ja := zG i6 d3.lt
 have jb := i4.weaken bf.size
 obtain ⟨nl, r, jc, jd, je⟩ := i8.sealed i7
 have jf := jb.moreO r je ja
 have jg := i9.le r
 obtain ⟨nm, s, b2, jh, nn⟩ := jf.sealed jc
 have ji := jg.le s
 refine qI rfl (zP (vs := [d1, d4]) Tryz.func65 nm65 rfl rfl rfl ?_)
 refine cD (xR b2.pins ji io (by first | omega | (simp; done) | (simp; omega)) b2.size (jd.mono s) jh (by simp) (by simp) (by first | omega | simp) (by first | omega | simp)) ?_
 rintro _ no ⟨ay, np, nq, rfl, jj, d5, y⟩
 refine rt9 ?_
 have b3 := b2.tr y
 have b4 := d5.one List.mem_cons_self
 refine qI rfl (yK [vN] zr26 rfl b3.pins (fun jk nr ns d6 jl d7 => ?_))
 have d8 := b3.step jl d7
 have jm := d5.below d7
 have d9 : w.heap.size ≤ jk := by have := b3.size; omega
 refine q0 rfl rfl rfl (o_stp (cs' := [ay]) (us := [ay]) (v := .agg #[ay]) sz26 rfl rfl rfl (yG b4) d8.pins d6 (cE rfl) rfl (fun nt jn jo ea nu => ?_))
 have jp := d8.write jo ea ((zW d9))
 have jq := jm.kept ea (fun k hk o u => by cases hk; exact d6.free o u)
 obtain ⟨eb, z, a3, jr, nv⟩ := jn.shut jp d9
 have js := jq.le z
 refine qe (w9a ?_)
 refine qD rfl (zU (cs := [a]) ag26 sz26 rfl (fun j u hj => (cC a3.pins (cB (cB (cB (cB (cB (cB (cB (cB (cB (cB (cB (cB (cB (cB (cB (cB (cB (cB (cB (cB (cB ak al.le) am) aa) ab.le) ac) t) x) ad.le) ae) c) d) g.le) h) i) l) p.le) q) r) s) y.le) z)) _ _ _ (aj _ _ (by simpa using hj)))) (qD rfl (zU (cs := [b]) ag26 sz26 rfl (fun j u hj => (cC a3.pins (cB (cB (cB (cB (cB (cB (cB (cB (cB (cB (cB c d) g.le) h) i) l) p.le) q) r) s) y.le) z)) _ _ _ (a2 _ _ (by simpa using hj)))) (qI rfl (mV (E := eVal) (e := 26) [a, b] [a, b] dJ sz26 zr26 (by exact reps2 (⟨rfl, m⟩) (⟨rfl, ar⟩)) (vD m ar) rfl rfl rfl rfl (by decide) a3.pins (fun ec jt ju jv ed nw => ?_))))
 have a4 := a3.step jv ed
 have jw := js.below ed
 have ee := ju.weaken a3.size
 refine qD rfl (zU (cs := [a]) ag26 sz26 rfl (fun j u hj => (cC a4.pins (cB (cB (cB (cB (cB (cB (cB (cB (cB (cB (cB (cB (cB (cB (cB (cB (cB (cB (cB (cB (cB ak al.le) am) aa) ab.le) ac) t) x) ad.le) ae) c) d) g.le) h) i) l) p.le) q) r) s) y.le) z)) _ _ _ (aj _ _ (by simpa using hj)))) (qD rfl (zU (cs := [b]) ag26 sz26 rfl (fun j u hj => (cC a4.pins (cB (cB (cB (cB (cB (cB (cB (cB (cB (cB (cB c d) g.le) h) i) l) p.le) q) r) s) y.le) z)) _ _ _ (a2 _ _ (by simpa using hj)))) (qI rfl (mV (E := eVal) (e := 26) [a, b] [a, b] dJ sz26 zr26 (by exact reps2 (⟨rfl, m⟩) (⟨rfl, ar⟩)) (vD m ar) rfl rfl rfl rfl (by decide) a4.pins (fun ef jx jy jz b5 j0 => ?_))))
 have j1 := a4.step jz b5
 have j2 := ee.below b5
 have j3 := jw.below b5
 have j4 := zG j0 ee.lt
 have j5 := jy.weaken a4.size
 obtain ⟨nx, ah, j6, j7, j8⟩ := j2.sealed j1
 have j9 := j5.moreO ah j8 j4
 have ka := j3.le ah
 obtain ⟨ny, ai, b6, kb, nz⟩ := j9.sealed j6
 have kc := ka.le ai
 refine qI rfl (zP (vs := [ec, ef]) Tryz.func65 nm65 rfl rfl rfl ?_)
 refine cD (xR b6.pins kc jj (by first | omega | (simp; done) | (simp; omega)) b6.size (j7.mono ai) kb (by simp) (by simp) (by first | omega | simp) (by first | omega | simp)) ?_
 rintro _ n0 ⟨az, n1, n2, rfl, kd, eg, an⟩
 refine rt9 ?_
 have b7 := b6.tr an
 have b8 := eg.one List.mem_cons_self
 refine qI rfl (yK [vN] zr26 rfl b7.pins (fun ke n3 n4 eh kf ei => ?_))
 have ej := b7.step kf ei
 have kg := eg.below ei
 have ek : w.heap.size ≤ ke := by have := b7.size; omega
 refine q0 rfl rfl rfl (o_stp (cs' := [az]) (us := [az]) (v := .agg #[az]) sz26 rfl rfl rfl (yG b8) ej.pins eh (cE rfl) rfl (fun n5 kh ki el n6 => ?_))
 have kj := ej.write ki el ((zW ek))
 have kk := kg.kept el (fun k hk o u => by cases hk; exact eh.free o u)
 obtain ⟨em, ao, bg, kl, n7⟩ := kh.shut kj ek
 have km := kk.le ao
 refine qe (w9a ?_)
 refine qD rfl (zU (cs := [b]) ag26 sz26 rfl (fun j u hj => (cC bg.pins (cB (cB (cB (cB (cB (cB (cB (cB (cB (cB (cB (cB (cB (cB (cB c d) g.le) h) i) l) p.le) q) r) s) y.le) z) ah) ai) an.le) ao)) _ _ _ (a2 _ _ (by simpa using hj)))) (qI rfl (xE (E := eVal) (e := 26) [b] b dJ sz26 zr26 ⟨rfl, ar⟩ rfl (by decide) bg.pins (fun en kn ko kp eo n8 => ?_)))
 have bh := bg.step kp eo
 have kq := km.below eo
 have ep := ko.weaken bg.size
 refine qD rfl (zU (cs := [a]) ag26 sz26 rfl (fun j u hj => (cC bh.pins (cB (cB (cB (cB (cB (cB (cB (cB (cB (cB (cB (cB (cB (cB (cB (cB (cB (cB (cB (cB (cB (cB (cB (cB (cB ak al.le) am) aa) ab.le) ac) t) x) ad.le) ae) c) d) g.le) h) i) l) p.le) q) r) s) y.le) z) ah) ai) an.le) ao)) _ _ _ (aj _ _ (by simpa using hj)))) (qI rfl (xE (E := eVal) (e := 26) [a] a dJ sz26 zr26 ⟨rfl, m⟩ rfl (by decide) bh.pins (fun eq kr ks kt b9 ku => ?_)))
 have kv := bh.step kt b9
 have kw := ep.below b9
 have kx := kq.below b9
 have ky := zG ku ep.lt
 have kz := ks.weaken bh.size
 obtain ⟨n9, ap, k0, k1, k2⟩ := kw.sealed kv
 have k3 := kz.moreO ap k2 ky
 have k4 := kx.le ap
 obtain ⟨oa, aq, ca, k5, ob⟩ := k3.sealed k0
 have k6 := k4.le aq
 refine qI rfl (zP (vs := [en, eq]) Tryz.func65 nm65 rfl rfl rfl ?_)
 refine cD (xR ca.pins k6 kd (by first | omega | (simp; done) | (simp; omega)) ca.size (k1.mono aq) k5 (by simp) (by simp) (by first | omega | simp) (by first | omega | simp)) ?_
 rintro _ oc ⟨a0, od, oe, rfl, k7, er, au⟩
 refine rt9 ?_
 have cb := ca.tr au
 have cc := er.one List.mem_cons_self
 refine qI rfl (yK [vN] zr26 rfl cb.pins (fun k8 og oh es k9 et => ?_))
 have eu := cb.step k9 et
 have la := er.below et
 have ev : w.heap.size ≤ k8 := by have := cb.size; omega
 refine q0 rfl rfl rfl (o_stp (cs' := [a0]) (us := [a0]) (v := .agg #[a0]) sz26 rfl rfl rfl (yG cc) eu.pins es (cE rfl) rfl (fun oi lb lc ew oj => ?_))
 have ld := eu.write lc ew ((zW ev))
 have lf := la.kept ew (fun k hk o u => by cases hk; exact es.free o u)
 obtain ⟨lg, av, af, lh, ok⟩ := lb.shut ld ev
 have li := lf.le av
 refine qe (w9a ?_)
 refine qD rfl (zU (cs := [a]) ag26 sz26 rfl (fun j u hj => (cC af.pins (cB (cB (cB (cB (cB (cB (cB (cB (cB (cB (cB (cB (cB (cB (cB (cB (cB (cB (cB (cB (cB (cB (cB (cB (cB (cB (cB (cB (cB ak al.le) am) aa) ab.le) ac) t) x) ad.le) ae) c) d) g.le) h) i) l) p.le) q) r) s) y.le) z) ah) ai) an.le) ao) ap) aq) au.le) av)) _ _ _ (aj _ _ (by simpa using hj)))) (qD rfl (zU (cs := [f]) ag26 sz26 rfl (fun j u hj => (cC af.pins (cB (cB (cB (cB (cB (cB (cB (cB (cB (cB (cB (cB (cB (cB (cB (cB (cB (cB (cB (cB (cB (cB (cB (cB (cB (cB aa ab.le) ac) t) x) ad.le) ae) c) d) g.le) h) i) l) p.le) q) r) s) y.le) z) ah) ai) an.le) ao) ap) aq) au.le) av)) _ _ _ (bm _ _ (by simpa using hj)))) (qD rfl (zU (cs := [ag]) ag26 sz26 rfl (fun j u hj => (cC af.pins (cB (cB (cB (cB (cB (cB (cB (cB (cB (cB (cB (cB (cB (cB (cB (cB (cB (cB (cB (cB (cB (cB (cB t x) ad.le) ae) c) d) g.le) h) i) l) p.le) q) r) s) y.le) z) ah) ai) an.le) ao) ap) aq) au.le) av)) _ _ _ (c2 _ _ (by simpa using hj)))) (qD rfl (zU (cs := [b]) ag26 sz26 rfl (fun j u hj => (cC af.pins (cB (cB (cB (cB (cB (cB (cB (cB (cB (cB (cB (cB (cB (cB (cB (cB (cB (cB (cB c d) g.le) h) i) l) p.le) q) r) s) y.le) z) ah) ai) an.le) ao) ap) aq) au.le) av)) _ _ _ (a2 _ _ (by simpa using hj)))) (qD rfl (zU (cs := [aw]) ag26 sz26 rfl (fun j u hj => (cC af.pins (cB (cB (cB (cB (cB (cB (cB (cB (cB (cB (cB (cB (cB (cB (cB i l) p.le) q) r) s) y.le) z) ah) ai) an.le) ao) ap) aq) au.le) av)) _ _ _ (hz _ _ (by simpa using hj)))) (qD rfl (zU (cs := [ax]) ag26 sz26 rfl (fun j u hj => (cC af.pins (cB (cB (cB (cB (cB (cB (cB (cB (cB (cB (cB r s) y.le) z) ah) ai) an.le) ao) ap) aq) au.le) av)) _ _ _ (ix _ _ (by simpa using hj)))) (qD rfl (zU (cs := [ay]) ag26 sz26 rfl (fun j u hj => (cC af.pins (cB (cB (cB (cB (cB (cB (cB ah ai) an.le) ao) ap) aq) au.le) av)) _ _ _ (jr _ _ (by simpa using hj)))) (qD rfl (zU (cs := [az]) ag26 sz26 rfl (fun j u hj => (cC af.pins (cB (cB (cB ap aq) au.le) av)) _ _ _ (kl _ _ (by simpa using hj)))) (qD rfl (zU (cs := [a0]) ag26 sz26 rfl (fun j u hj => af.pins _ _ _ (lh _ _ (by simpa using hj)))) (qI rfl (mV (E := eVal) (e := 26) [a, f, ag, b, aw, ax, ay, az, a0] [a, f, ag, b, aw, ax, ay, az, a0] dJ sz26 zr26 (gU (⟨rfl, m⟩) (gU (⟨rfl, a1⟩) (gU (⟨rfl, a7⟩) (gU (⟨rfl, ar⟩) (gU (⟨rfl, bv⟩) (gU (⟨rfl, b0⟩) (gU (⟨rfl, b4⟩) (gU (⟨rfl, b8⟩) (gU (⟨rfl, cc⟩) repsN))))))))) (gW m (gW a1 (gW a7 (gW ar (gW bv (gW b0 (gW b4 (gW b8 (gW cc onesN))))))))) rfl rfl rfl rfl (by decide) af.pins (fun cd lj lk ll ex ol => ?_)))))))))))
 have lm := af.step ll ex
 have ln := li.below ex
 have lo := lk.weaken af.size
 refine qM cd ?_
 refine qe (zA ?_)
 exact cO (zT (zS (v := cd) rfl rfl rfl (⟨_, _, _, _, rfl, lo, ln.mem (by simp), k7, rfl, rfl, lm⟩)))
theorem some_spec {w : World} {c : Nat} {s : Int} {l : Value} (hP : Pins G w) (hB : Bx G w c [cv, .int .i64 a, .int .u64 s]) (hc : RSl eByte G cv code) (ha : 0 ≤ a ∧ a + 6 ≤ 1000000) (hs : 0 ≤ s ∧ s < 18446744073709551616) (hl : RSl eVal G l vs) (hn : 1 ≤ vs.length ∧ vs.length ≤ 1000) (hm2 : 0 ≤ m ∧ m ≤ 2) :
  Calls Tryz.prog 64 #[vP c, l, vJ m] w fun e w' => ∃ (u : Value) (ys : List Value) (a' s' : Int) (G' : Pin), e = .returned u ∧ Own eVal 26 G' w' w.heap.size u ys ∧ (∀ y ∈ ys, y ∈ vs) ∧ ys.length ≤ 2 ∧ Bx G' w' c [cv, .int .i64 a', .int .u64 s'] ∧ (a ≤ a' ∧ a' ≤ a + 6) ∧ (0 ≤ s' ∧ s' < 18446744073709551616) ∧ Ext (inO (some c)) G w G' w' := by
 refine yC (n := 31) Tryz.func64 Tryz.ntmps64 rfl rfl ?_
 have q := exr (inO (some c)) hP
 have hm := hc.max
 refine w9d ?_
 refine qM vN ?_
 refine qe (w9a ?_)
 refine qI rfl (xB (E := eVal) (e := 26) dJ sz26 q.pins (fun r w2 ar au ad av => ?_))
 have ae := q.step au ad
 have aw := hB.below ad
 have af := zD av hB.lt
 have ax := ar.weaken q.size
 refine qM r ?_
 refine qe (w9a ?_)
 refine qM (vP c) ?_
 refine qM (vJ m) ?_
 refine qD rfl (yO rfl rfl (by omega)) (qI rfl (zP (vs := [vP c, vJ (m + 1)]) Tryz.func35 nm35 rfl rfl rfl ?_))
 refine cD (jT ae.pins aw hc (by omega) (by omega) (n := m + 1) (by omega)) ?_
 rintro _ bm ⟨d, ay, az, rfl, bn, a0, bo, bp, ag⟩
 refine rt9 ?_
 have a2 := ae.trans ag (fun i hi => xD i hi)
 have a3 := ax.extS ag (notO af)
 refine qM (vJ d) ?_
 refine qe (zA (w9b ?_))
 refine qM (vJ 0) ?_
 refine qe (zA ?_)
 refine zY (yN (fun k en W => ∃ (ah : Nat → Value) (i : Nat) (ov : Value) (ys : List Value) (f : Int) (g : Int) (GL : Pin), en = (upd (upd (upd (upd (upd (upd ah 0 (vP c)) 1 l) 6 vN) 7 ov) 8 (vJ d)) 9 (vJ (i : Int))) ∧ k = (d).toNat - i ∧ Ext (inO (some c)) G w GL W ∧ Pin.le G GL ∧ (i : Int) ≤ d ∧ (∀ y ∈ ys, y ∈ vs) ∧ (ys.length = i) ∧ (a ≤ f ∧ f ≤ a + 2 + 2 * (i : Int)) ∧ (0 ≤ g ∧ g < 18446744073709551616) ∧ (Own eVal 26 GL W w.heap.size ov (ys)) ∧ (Bx GL W c [cv, vJ f, .int .u64 g]) ∧ (Apart ov.ownBlock (some c))) _ ⟨_, 0, r, [], ay, az, G, (pS 9 (pS 8 (pS 7 (pS 6 (pS 1 (pU 0)))))), rfl, a2, cJ _, (by omega), (fun y hy => (List.not_mem_nil hy).elim), rfl, (by omega), (by omega), a3, a0, af⟩ ?_)
 rintro bq _ br ⟨ah, i, ov, ys, f, g, GL, rfl, bs, t, x, hi, hys, hyl, hda, hds, ai, aj, aa⟩
 refine w9b ?_
 refine qM (vJ (i : Int)) ?_
 refine qM (vJ d) ?_
 refine qD rfl (yQ rfl rfl) (qe (zA ?_))
 refine yA (p := ((i : Int) : Int) < d) rfl rfl (fun a4 => ?_) (fun a4 => ?_)
 refine cN (zA (zB ?_))
 refine zY (zC (qM ov ?_))
 refine qM l ?_
 refine qM (vP c) ?_
 refine qM l ?_
 refine qD rfl (zN dJ (v := l) rfl hl) (qI rfl (zP (vs := [vP c, vJ (vs.length : Int)]) Tryz.func35 nm35 rfl rfl rfl ?_))
 refine cD (jT t.pins aj (hc.mono x) (by omega) (by omega) (n := (vs.length : Int)) (by omega)) ?_
 rintro _ bt ⟨b, a5, a6, rfl, bu, a7, bv, bw, ak⟩
 refine rt9 ?_
 have o := t.trans ak (fun i hi => xD i hi)
 have a8 := ai.extS ak (notO aa)
 refine qD rfl (zE dJ sz26 (v := l) rfl rfl hl (by omega) (by omega)) ?_
 obtain ⟨bx, a9, ba, bz⟩ := qE (j := (b).toNat) default (hl.at (z := b) (by omega) (by omega)) rfl
 obtain ⟨rfl, bb⟩ := a9
 refine qD rfl (ba ag26 sz26 rfl (cC o.pins x)) (qI rfl (xE (E := eVal) (e := 26) [vs.getD (b).toNat default] (vs.getD (b).toNat default) dJ sz26 zr26 ⟨rfl, bb⟩ rfl (by decide) o.pins (fun al bc bd be ab b0 => ?_)))
 have ac := o.step be ab
 have am := a8.below ab
 have an := a7.below ab
 have bf := bd.weaken o.size
 refine qI rfl (oA (E := eVal) (v := ov) (u := al) 24 dJ ap26 (by decide) rfl rfl ac.pins am bf.src (ac.size) (fun ao b1 bg bh ap bi => ?_))
 have bj := ac.write bh ap ((yE am))
 have bk := an.keptA ap aa.symm
 have bl := zO aa.symm bi an.lt
 have b2 := la1 ys (vs.getD (b).toNat default)
 refine qM ao ?_
 refine qe (w9c ?_)
 refine qM (vJ (i : Int)) ?_
 refine qD rfl (yO rfl rfl (by omega)) (qM (vJ ((i : Int) + 1)) ?_)
 refine qe (yD (⟨_, ?_, _, rfl, _, i + 1, ao, ys ++ ([vs.getD (b).toNat default]), a5, a6, GL, (pS 9 (pS 8 (pS 7 (pS 6 (pS 1 (pU 0)))))), rfl, bj, x, (by omega), (fun y hy => (List.mem_append.1 hy).elim (hys y) (fun h => by rw [List.mem_singleton.1 h]; exact xF (by omega))), (by simp; omega), (by omega), (by omega), bg, bk, bl.symm⟩))
 omega
 refine cP (zZ (yJ (yI (w9a ?_))))
 refine qM ov ?_
 refine qM ov ?_
 refine qe (zA ?_)
 exact cO (zT (zS (v := ov) rfl rfl rfl (⟨_, _, _, _, _, rfl, ai, hys, (by omega), aj, (by omega), (by omega), t⟩)))
theorem mM {w : World} {c : Nat} {s : Int} {l : Value} {e : Nat} (hP : Pins G w) (hB : Bx G w c [cv, .int .i64 a, .int .u64 s]) (hc : RSl eByte G cv code) (ha : 0 ≤ a ∧ a + 6 ≤ 1000000) (hs : 0 ≤ s ∧ s < 18446744073709551616) (hl : Own eVal e G w base l vs) (hap : Apart (some c) l.ownBlock) (hn : 1 ≤ vs.length ∧ vs.length ≤ 1000) (hm2 : 0 ≤ m ∧ m ≤ 2) :
  Calls Tryz.prog 64 #[.pointer (some ⟨c, 0, none⟩), l, .int .i64 m] w fun e w' => ∃ (u : Value) (ys : List Value) (a' s' : Int), e = .returned u ∧ Own eVal 26 G w' w.heap.size u ys ∧ (∀ y ∈ ys, y ∈ vs) ∧ ys.length ≤ 2 ∧ Bx G w' c [cv, .int .i64 a', .int .u64 s'] ∧ (a ≤ a' ∧ a' ≤ a + 6) ∧ (0 ≤ s' ∧ s' < 18446744073709551616) ∧ Ext (inO (some c)) G w G w' := by
 have hb2 : Bx (Gadd G w l) w c [cv, .int .i64 a, .int .u64 s] := ⟨hB.heap, fun o u hu => hu.elim (hB.free o u) (fun h => hap c rfl h.1)⟩
 refine (some_spec (cL hP l) hb2 (hc.mono (Gadd.le _ _ _)) ha hs hl.read hn hm2).mono fun e w' ⟨u, ys, a', s', G', e1, ho, hm, hy, hb, h1, h2, hx⟩ => ?_
 have hle : Pin.le G G' := cB (Gadd.le _ _ _) hx.le
 exact ⟨u, ys, a', s', e1, ownV_anti ho hle, hm, hy, hb.anti hle, h1, h2, ext_back (Gadd.le _ _ _) hx⟩
theorem gN {w : World} {c : Nat} {s : Int} {n : Int} (hP : Pins G w) (hB : Bx G w c [cv, .int .i64 a, .int .u64 s]) (hc : RSl eByte G cv code) (ha : 0 ≤ a ∧ a + (12 * n + 4) ≤ 1000000) (hs : 0 ≤ s ∧ s < 18446744073709551616) (hn : 0 ≤ n ∧ n ≤ 6) :
  Calls Tryz.prog 34 #[vP c, vJ n] w fun e w' => ∃ (u : Value) (g : Nat) (a' s' : Int) (G' : Pin), e = .returned (.agg #[u]) ∧ Own eNode 76 G' w' w.heap.size u (formG g) ∧ IsForm g (formG g) ∧ ((formG g).length : Int) ≤ 9 + n ∧ Bx G' w' c [cv, .int .i64 a', .int .u64 s'] ∧ (a ≤ a' ∧ a' ≤ a + (12 * n + 4)) ∧ (0 ≤ s' ∧ s' < 18446744073709551616) ∧ Ext (inO (some c)) G w G' w' := by
 refine yC (n := 40) Tryz.func34 Tryz.ntmps34 rfl rfl ?_
 have ar := exr (inO (some c)) hP
 have hm := hc.max
 refine w9d ?_
 refine qI rfl (yK [vN] zr26 rfl ar.pins (fun b1 w2 b3 bg b4 bh => ?_))
 have ae := ar.step b4 bh
 have bi := hB.below bh
 have h := zD (cgA some b3) hB.lt
 have bj : w.heap.size ≤ b1 := by have := ar.size; omega
 refine qe (w9a ?_)
 refine qI rfl (zP (vs := []) Tryz.func63 nm63 rfl rfl rfl ?_)
 refine cD (sZ ae.pins) ?_
 rintro _ b5 ⟨au, bk, b6, av, rfl, aw, b7, b8, el, em, d⟩
 refine rt9 ?_
 have b9 := ae.tr d
 have ca := bi.ext d
 have cb := bg.ext d
 have cc := zV aw.lt bi.lt
 have cd := zV aw.lt bg.lt
 have ce := aw.weaken ae.size
 have cf := b7.wide ae.size
 refine qM au ?_
 refine qe (zA (w9b ?_))
 refine qM (vJ 0) ?_
 refine qe (zA ?_)
 refine zY (yN (fun k en W => ∃ (bl : Nat → Value) (i : Nat) (lv : Value) (ls : List Value) (Q : List Nat) (a1 : Int) (s1 : Int) (GL : Pin), en = (upd (upd (upd (upd (upd bl 0 (vP c)) 1 (vJ n)) 4 (vP b1)) 5 lv) 6 (vJ (i : Int))) ∧ k = n.toNat - i ∧ Ext (inO (some c)) G w GL W ∧ Pin.le av GL ∧ (i : Int) ≤ n ∧ (Fr 76 w.heap.size GL W Q ls) ∧ (KQ Q) ∧ (ls.length = 9 + i) ∧ (Q.length = 9 + i) ∧ (a ≤ a1 ∧ a1 ≤ a + 12 * (i : Int)) ∧ (0 ≤ s1 ∧ s1 < 18446744073709551616) ∧ (Own eVal 26 GL W w.heap.size lv (ls)) ∧ (Bx GL W c [cv, vJ a1, .int .u64 s1]) ∧ (Bx GL W b1 [vN]) ∧ (Apart lv.ownBlock (some c)) ∧ (Apart lv.ownBlock (some b1))) _ ⟨_, 0, au, bk, b6, a, s, av, (pS 6 (pS 5 (pS 4 (pS 1 (pU 0))))), rfl, b9, cJ _, (by omega), cf, b8, (by omega), (by omega), (by omega), (by omega), ce, ca, cb, cc, cd⟩ ?_)
 rintro eo _ ep ⟨bl, i, lv, ls, Q, a1, s1, GL, rfl, eq, l, m, hi, hfl, hkl, hll, hQl, hda, hds, ah, q, ax, b, bm⟩
 refine w9b ?_
 refine qM (vJ (i : Int)) ?_
 refine qM (vJ n) ?_
 refine qD rfl (yQ rfl rfl) (qe (zA ?_))
 refine yA (p := ((i : Int) : Int) < n) rfl rfl (fun cg => ?_) (fun cg => ?_)
 refine cN (zA (zB ?_))
 refine zY (w9d ?_)
 refine qM (vP c) ?_
 refine qM lv ?_
 refine qI rfl (zP (vs := [vP c, lv, vJ 2]) Tryz.func64 nm64 rfl rfl rfl ?_)
 refine cD (mM l.pins q (hc.mono (cB d.le m)) (by omega) (by omega) ah b.symm (by omega) (by omega)) ?_
 rintro _ ch ⟨ai, ci, er, es, rfl, aj, cj, et, ay, eu, ev, ak⟩
 refine rt9 ?_
 have az := l.trans ak (fun i hi => xD i hi)
 have a0 := ah.extS ak (notO b)
 have bn := ax.extS ak (xP h)
 have ck := hfl.turned ak (fun k hk o u => by cases hk; exact q.free o u)
 have cl := zR aj.lt ah.lt
 have bo := zV aj.lt q.lt
 have cm := zV aj.lt ax.lt
 have bp := aj.weaken l.size
 refine qM ai ?_
 refine qe (zA (zC ?_))
 refine qM lv ?_
 refine qM ai ?_
 refine qM (vP c) ?_
 refine qM lv ?_
 refine qI rfl (zP (vs := [vP c, lv, vJ 2]) Tryz.func64 nm64 rfl rfl rfl ?_)
 refine cD (mM az.pins ay (hc.mono (cB d.le m)) (by omega) (by omega) a0 b.symm (by omega) (by omega)) ?_
 rintro _ cn ⟨bq, co, cp, cq, rfl, r, cr, ew, ct, ex, ey, t⟩
 refine rt9 ?_
 have cu := az.trans t (fun i hi => xD i hi)
 have cw := a0.extS t (notO b)
 have cx := bp.extS t (notO bo)
 have cy := bn.extS t (xP h)
 have cz := ck.turned t (fun k hk o u => by cases hk; exact ay.free o u)
 have c0 := zR r.lt a0.lt
 have c1 := zR r.lt bp.lt
 have c2 := zV r.lt ay.lt
 have c3 := zV r.lt bn.lt
 have c4 := r.weaken az.size
 obtain ⟨ez, al, c5, c6, am⟩ := cx.sealed cu
 have c7 := cw.moreO al am cl.symm
 have c8 := c4.moreO al am c1
 have c9 := ct.moreO am bo.symm
 have da := cy.moreO am cm.symm
 have db := cz.le al
 obtain ⟨e0, an, a2, dc, a3⟩ := c8.sealed c5
 have dd := c7.moreO an a3 c0.symm
 have de := c9.moreO a3 c2.symm
 have df := da.moreO a3 c3.symm
 have dg := db.le an
 refine qI rfl (zP (vs := [ai, bq]) Tryz.func65 nm65 rfl rfl rfl ?_)
 refine cD (xR a2.pins dg hkl (by first | omega | (simp; done) | (simp; omega)) a2.size (c6.mono an) dc cj cr (by first | omega | simp) (by first | omega | simp)) ?_
 rintro _ e1 ⟨x, dh, br, rfl, di, bs, y⟩
 refine rt9 ?_
 have a4 := a2.tr y
 have dj := dd.ext y
 have dk := de.ext y
 have dl := df.ext y
 have dm := bs.one List.mem_cons_self
 refine qI rfl (xE (E := eVal) (e := 26) [x] x dJ sz26 zr26 ⟨rfl, dm⟩ rfl (by decide) a4.pins (fun bt dn dp dq aa e2 => ?_))
 have a5 := a4.step dq aa
 have a6 := dj.below aa
 have bu := dk.below aa
 have bv := dl.below aa
 have dr := bs.below aa
 have ds := dp.weaken a4.size
 refine qI rfl (oA (E := eVal) (v := lv) (u := bt) 24 dJ ap26 (by decide) rfl rfl a5.pins a6 ds.src (a5.size) (fun bw e3 dt du ao bx => ?_))
 have dv := a5.write du ao ((yE a6))
 have dw := bu.keptA ao b.symm
 have dx := bv.keptA ao bm.symm
 have dy := dr.kept ao a6.free
 have dz := zO b.symm bx bu.lt
 have d0 := zO bm.symm bx bv.lt
 have e4 := la1 ls x
 refine qM bw ?_
 refine qe (w9c ?_)
 refine qM (vJ (i : Int)) ?_
 refine qD rfl (yO rfl rfl (by omega)) (qM (vJ ((i : Int) + 1)) ?_)
 refine qe (yD (⟨_, ?_, _, rfl, _, i + 1, bw, ls ++ ([x]), (dh :: Q), cp, cq, br, (pS 6 (pS 5 (pS 4 (pS 1 (pU 0))))), rfl, dv, (cB (cB (cB m al) an) y.le), (by omega), (dy.mem snoc_mem), di, (by simp; omega), (by simp; omega), (by omega), (by omega), dt, dw, dx, dz.symm, d0.symm⟩))
 omega
 refine cP (zZ (yJ (yI (zA (w9b ?_)))))
 refine qM (vP c) ?_
 refine qI rfl (zP (vs := [vP c, vJ 3]) Tryz.func16 nm16 rfl rfl rfl ?_)
 refine cD (one_spec l.pins q (hc.mono (cB d.le m)) (by omega) (by omega) (n := 3) (by omega)) ?_
 rintro _ e5 ⟨e6, e7, e8, rfl, a7, e9, fa, ap⟩
 refine rt9 ?_
 have ab := l.trans ap (fun i hi => xD i hi)
 have ac := ah.extS ap (notO b)
 have a8 := ax.extS ap (xP h)
 have bz := hfl.turned ap (fun k hk o u => by cases hk; exact q.free o u)
 refine qe (zA ?_)
 refine c_if rfl rfl (fun d1 => ?_) (fun d1 => ?_)
 refine w9d ?_
 refine qM lv ?_
 refine qM (vP c) ?_
 refine qM lv ?_
 refine qD rfl (zN dJ (v := lv) rfl ac.read) (qI rfl (zP (vs := [vP c, vJ (ls.length : Int)]) Tryz.func35 nm35 rfl rfl rfl ?_))
 refine cD (jT ab.pins a7 (hc.mono (cB d.le m)) (by omega) (by omega) (n := (ls.length : Int)) (by omega)) ?_
 rintro _ fb ⟨f, fc, fd, rfl, fe, d2, ff, fg, aq⟩
 refine rt9 ?_
 have a9 := ab.trans aq (fun i hi => xD i hi)
 have b0 := ac.extS aq (notO b)
 have b2 := a8.extS aq (xP h)
 have d3 := bz.turned aq (fun k hk o u => by cases hk; exact a7.free o u)
 refine qD rfl (zE dJ sz26 (v := lv) rfl rfl b0.read (by omega) (by omega)) ?_
 obtain ⟨fh, d4, d5, fi⟩ := qE (j := (f).toNat) default (b0.at (z := f) (by omega) (by omega)) rfl
 obtain ⟨rfl, d6⟩ := d4
 refine qD rfl (d5 ag26 sz26 rfl (cL a9.pins lv)) (q0 rfl rfl rfl (o_stp (cs' := [ls.getD (f).toNat default]) (us := [ls.getD (f).toNat default]) (v := .agg #[ls.getD (f).toNat default]) sz26 rfl rfl rfl (yG d6) a9.pins b2 (cE rfl) rfl (fun fj d7 d8 ba fk => ?_)))
 have d9 := a9.write d8 ba ((zW bj))
 have ea := d2.keptA ba h.symm
 have eb := d3.kept ba (fun k hk o u => by cases hk; exact b2.free o u)
 refine qe (zA ?_)
 refine cO (zT (vU (cs := [ls.getD (f).toNat default]) rfl rfl rfl ag26 sz26 (fun j u hj => by rw [cR]; exact d7.cell hj) ?_))
 obtain ⟨g, hgq, htk⟩ := eb (ls.getD (f).toNat default) (xF (by omega))
 obtain ⟨G2, bc, bd, be⟩ := htk.give hP d9
 have hw := hkl.w (by omega) hgq
 exact ⟨_, g, _, _, G2, rfl, bc, hkl.is g hgq, (by omega), ea.anti be, (by omega), (by omega), bd⟩
 refine cN (w9a ?_)
 refine qM lv ?_
 refine qM lv ?_
 refine qD rfl (zN dJ (v := lv) rfl ac.read) (qD rfl (xX rfl rfl (by omega)) (qD rfl (zE dJ sz26 (v := lv) rfl rfl ac.read (by omega) (by omega)) ?_))
 obtain ⟨fl, ec, ed, fm⟩ := qE (j := ((ls.length : Int) - 1).toNat) default (ac.at (z := (ls.length : Int) - 1) (by omega) (by omega)) rfl
 obtain ⟨rfl, ee⟩ := ec
 refine qD rfl (ed ag26 sz26 rfl (cL ab.pins lv)) (q0 rfl rfl rfl (o_stp (cs' := [ls.getD ((ls.length : Int) - 1).toNat default]) (us := [ls.getD ((ls.length : Int) - 1).toNat default]) (v := .agg #[ls.getD ((ls.length : Int) - 1).toNat default]) sz26 rfl rfl rfl (yG ee) ab.pins a8 (cE rfl) rfl (fun fn ef eg bf fo => ?_)))
 have eh := ab.write eg bf ((zW bj))
 have ei := a7.keptA bf h.symm
 have ej := bz.kept bf (fun k hk o u => by cases hk; exact a8.free o u)
 refine qe (zA ?_)
 refine cO (zT (vU (cs := [ls.getD ((ls.length : Int) - 1).toNat default]) rfl rfl rfl ag26 sz26 (fun j u hj => by rw [cR]; exact ef.cell hj) ?_))
 obtain ⟨g, hgq, htk⟩ := ej (ls.getD ((ls.length : Int) - 1).toNat default) (xF (by omega))
 obtain ⟨G2, bc, bd, be⟩ := htk.give hP eh
 have hw := hkl.w (by omega) hgq
 exact ⟨_, g, _, _, G2, rfl, bc, hkl.is g hgq, (by omega), ei.anti be, (by omega), (by omega), bd⟩
end DR2
namespace DV1
open B1 C1 D1 E1 MK1 DR1 DR2
theorem pl76 : (Tryz.prog.underlying 76).bind (placesD Tryz.prog) = some [(0, 1), (1, 1)] := by kernel_rfl
variable {G : Pin}
theorem nB {w : World} {v : Value} {xs : List Int} (hP : Pins G w) (hv : RSl eInt G v xs) (hs : xs.length ≤ 1048576) :
  Calls Tryz.prog 36 #[v] w fun e w' => ∃ (u : Value) (G' : Pin), e = .returned u ∧ Own eInt 3 G' w' w.heap.size u xs ∧ Ext noS G w G' w' := by
 refine yC (n := 6) Tryz.func36 Tryz.ntmps36 rfl rfl ?_
 have b := exr noS hP
 refine w9d ?_
 refine qM (.slice none 0 0) ?_
 refine qe (w9a ?_)
 refine qI rfl (xB (E := eInt) (e := 3) dC sz3 b.pins (fun c g h i j p => ?_))
 have a := b.step i j
 have d := h.weaken b.size
 refine qM v ?_
 refine qI rfl (fJ (E := eInt) (v := c) (u := v) 8 dC ap3 (by decide) rfl rfl a.pins d ((hv.mono (cJ _)).src a.pins (by decide)) (by first | omega | (rw [List.nil_append]; omega) | (rw [List.length_nil]; omega) | (rw [List.length_append]; omega) | (simp; done) | (simp; omega) | (simp only [List.length_cons, List.length_nil]; omega) | (simp only [List.length_append, List.length_cons, List.length_nil]; omega)) (by first | omega | (rw [List.nil_append]; omega) | (rw [List.length_nil]; omega) | (rw [List.length_append]; omega) | (simp; done) | (simp; omega) | (simp only [List.length_cons, List.length_nil]; omega) | (simp only [List.length_append, List.length_cons, List.length_nil]; omega)) (a.size) (fun f q k l m r => ?_))
 have o := a.write l m ((yE d))
 have s := la2 ([]) xs
 refine qM f ?_
 refine qe (zA ?_)
 exact cO (zT (zS (v := f) rfl rfl rfl (⟨_, _, rfl, (by simpa using k), o⟩)))
theorem tI {w : World} {c : Nat} {cv : Value} {code : List UInt8} {a s : Int} {n : Int} (hP : Pins G w) (hB : Bx G w c [cv, .int .i64 a, .int .u64 s]) (hc : RSl eByte G cv code) (ha : 0 ≤ a ∧ a + (12 * n + 10) ≤ 1000000) (hs : 0 ≤ s ∧ s < 18446744073709551616) (hn : 0 ≤ n ∧ n ≤ 6) :
  Calls Tryz.prog 17 #[vP c, vJ n] w fun e w' => ∃ (u : Value) (ns : List Nd) (a' s' : Int) (G' : Pin), e = .returned (.agg #[u]) ∧ RSl eNode G' u ns ∧ Bx G' w' c [cv, .int .i64 a', .int .u64 s'] ∧ (a ≤ a' ∧ a' ≤ a + (12 * n + 10)) ∧ (0 ≤ s' ∧ s' < 18446744073709551616) ∧ Ext (inO (some c)) G w G' w' := by
 refine yC (n := 77) Tryz.func17 Tryz.ntmps17 rfl rfl ?_
 have cg := exr (inO (some c)) hP
 have hm := hc.max
 refine w9d ?_
 refine qI rfl (yK [vN] zr26 rfl cg.pins (fun b1 w2 ga dq gb dr => ?_))
 have ch := cg.step gb dr
 have ds := hB.below dr
 have y := zD (cgA some ga) hB.lt
 have au : w.heap.size ≤ b1 := by have := cg.size; omega
 refine qe (w9a ?_)
 refine qM (vP c) ?_
 refine qM (vJ n) ?_
 refine qI rfl (zP (vs := [vP c, vJ n]) Tryz.func34 nm34 rfl rfl rfl ?_)
 refine cD (gN (n := n) ch.pins ds hc (by omega) (by omega) (by omega)) ?_
 rintro _ gc ⟨b, f, np, nq, bh, rfl, ci, dt, nr, du, nt, nu, av⟩
 refine rt9 ?_
 have cj := ch.trans av (fun i hi => xD i hi)
 have dv := dq.extS av (xP y)
 have g := zV ci.lt ds.lt
 have aa := zV ci.lt dq.lt
 have dw := ci.weaken ch.size
 have nv := dt.1.lo
 refine qI rfl (yK [vN] zr26 rfl cj.pins (fun bi nw ck gd ge bj => ?_))
 have dx := cj.step ge bj
 have dy := dw.below bj
 have gf := du.below bj
 have gg := dv.below bj
 have ag := zG (cgA some ck) dw.lt
 have ak := zD (cgA some ck) du.lt
 have cl := zD (cgA some ck) dv.lt
 have cm : w.heap.size ≤ bi := by have := cj.size; omega
 refine q0 rfl rfl rfl (o_stp (cs' := [b]) (us := [b]) (v := .agg #[b]) sz26 rfl rfl rfl (yG dy.one) dx.pins gd (cE rfl) rfl (fun nx dz gh bk ny => ?_))
 have d0 := dx.write gh bk ((zW cm))
 have d1 := dy.keptA bk ag.symm
 have gi := gf.keptA bk ak.symm
 have gj := gg.keptA bk cl.symm
 refine qe (w9a ?_)
 refine qM (vP c) ?_
 refine qD rfl (zI (k := 0) rfl dF rfl nz24 rfl) (qD rfl (zJ (u := b) ag24 rfl (dz.cell (o := 0) rfl)) (qD rfl (zN dD (v := b) rfl d1.read) (qI rfl (zP (vs := [vP c, vJ ((formG f).length : Int)]) Tryz.func35 nm35 rfl rfl rfl ?_))))
 refine cD (jT d0.pins gi (hc.mono av.le) (by omega) (by omega) (n := ((formG f).length : Int)) (by omega)) ?_
 rintro _ nz ⟨d, n0, n1, rfl, n2, gk, n3, n4, bl⟩
 refine rt9 ?_
 have d2 := d0.trans bl (fun i hi => xD i hi)
 have gl := d1.extS bl (notO g)
 have gm := gj.extS bl (xP y)
 have gn := dz.extS bl (xP ak)
 refine qM (vJ d) ?_
 refine qe (zA (w9b ?_))
 refine qM (vP c) ?_
 refine qI rfl (zP (vs := [vP c, vJ 24]) Tryz.func35 nm35 rfl rfl rfl ?_)
 refine cD (jT d2.pins gk (hc.mono av.le) (by omega) (by omega) (n := 24) (by omega)) ?_
 rintro _ bm ⟨ah, n5, n6, rfl, n7, al, n8, n9, bn⟩
 refine rt9 ?_
 have q := d2.trans bn (fun i hi => xD i hi)
 have t := gl.extS bn (notO g)
 have am := gm.extS bn (xP y)
 have ab := gn.extS bn (xP ak)
 refine qe (zA ?_)
 refine zY (w9d ?_)
 refine qD rfl (qL rfl rfl) (qM (.bool (decide ((ah : Int) = 0))) ?_)
 refine qe (zA ?_)
 refine yA (p := (ah : Int) = 0) rfl rfl (fun gp => ?_) (fun gp => ?_)
 have hlk := (pW dt (by omega)).lens (d).toNat (by omega)
 have gq := cL q.pins b
 have aw := t.read
 refine yT (S := fun wz => BxR wz bi [b] ∧ Pins (Gadd bh bm b) wz) (last := 18) (by kernel_rfl) rfl ?_
 have an := bdr bm
 have gr := q.pins.below an
 have ax := q.step gr an
 have bo := t.below an
 have bp := al.below an
 have bq := am.below an
 have m := ab.below an
 have x := gq.below an
 refine dT (i := 0) rfl rfl (by kernel_rfl) (fun _ _ => zI (k := 0) rfl dF rfl nz24 rfl) ⟨m.reads, x⟩ ?_
 refine dT (i := 1) rfl rfl (by kernel_rfl) (fun _ hS => zJ (u := b) ag24 rfl (hS.1 0 _ rfl)) ⟨m.reads, x⟩ ?_
 refine dT (i := 2) rfl rfl (by kernel_rfl) (fun _ _ => zX (v := vJ d) rfl) ⟨m.reads, x⟩ ?_
 refine dT (i := 3) rfl rfl (by kernel_rfl) (fun _ _ => zI (k := 0) rfl dF rfl nz24 rfl) ⟨m.reads, x⟩ ?_
 refine dT (i := 4) rfl rfl (by kernel_rfl) (fun _ hS => zJ (u := b) ag24 rfl (hS.1 0 _ rfl)) ⟨m.reads, x⟩ ?_
 refine dT (i := 5) rfl rfl (by kernel_rfl) (fun _ _ => zX (v := vJ d) rfl) ⟨m.reads, x⟩ ?_
 refine dT (i := 6) rfl rfl (by kernel_rfl) (fun _ _ => zE dD sz76 (v := b) rfl rfl aw (by omega) (by omega)) ⟨m.reads, x⟩ ?_
 refine dT (i := 7) rfl rfl (by kernel_rfl) (fun _ _ => yP (off := 0) dH rfl rfl nz40 (z := d) (k := 0) rfl aw (by omega) (by omega)) ⟨m.reads, x⟩ ?_
 obtain ⟨d3, cn, gs⟩ := jD (t.at (z := d) (by omega) (by omega)) (j := (d).toNat) rfl
 have oa := cn.max
 refine dT (i := 8) rfl rfl (by kernel_rfl) (fun _ hS => gs ag40 rfl hS.2) ⟨m.reads, x⟩ ?_
 refine dT (i := 10) rfl rfl (by kernel_rfl) (fun _ _ => zX (v := vP c) rfl) ⟨m.reads, x⟩ ?_
 refine dT (i := 11) rfl rfl (by kernel_rfl) (fun _ _ => zX (v := vJ d) rfl) ⟨m.reads, x⟩ ?_
 refine jH (i := 9) (j := 12) (by kernel_rfl) ?_ ?_
 refine (dQ (i := 9) rfl rfl (zP (vs := [d3]) Tryz.func36 nm36 rfl rfl rfl ?_))
 refine cD (nB ax.pins cn (by omega)) ?_
 rintro _ gt ⟨d4, d5, rfl, a4, ae⟩
 refine rt9 ?_
 have co := ax.tr ae
 have d6 := bo.ext ae
 have d7 := bp.ext ae
 have d8 := bq.ext ae
 have cp := m.ext ae
 have cq := zR a4.lt bo.lt
 have cr := zV a4.lt bp.lt
 have d9 := zV a4.lt bq.lt
 have ea := zV a4.lt m.lt
 have eb := a4.weaken ax.size
 have ec := x.below ae.below
 refine ⟨fun _ => ⟨cp.reads, ec⟩, ?_⟩
 refine dP (i := 12) rfl rfl (xA (E := eInt) (e := 3) [vJ 0, vJ d, vJ (-1), vJ 1] [0, d, -1, 1] dC sz3 zr3 (by exact reps4 (by rfl) (by rfl) (by rfl) (by rfl)) (jS (by rfl) (by rfl) (by rfl) (by rfl)) rfl rfl rfl rfl (by decide) co.pins (fun ed gu gv gw ao a5 => ?_))
 have gx := co.step gw ao
 have gy := d6.below ao
 have gz := eb.below ao
 have g0 := d7.below ao
 have g1 := d8.below ao
 have ee := cp.below ao
 have g2 := zG a5 d6.lt
 have g3 := zG a5 eb.lt
 have g4 := zD a5 d7.lt
 have g5 := zD a5 d8.lt
 have g6 := zD a5 cp.lt
 have g7 := gv.weaken co.size
 have ef := ec.below ao
 refine ⟨fun _ => ⟨ee.reads, ef⟩, ?_⟩
 obtain ⟨g8, a6, eg, g9, a7⟩ := g7.sealed gx
 have hb := gy.moreO a6 a7 g2.symm
 have hd := gz.moreO a6 a7 g3.symm
 have he := g0.moreO a7 g4.symm
 have hf := g1.moreO a7 g5.symm
 have hg := ee.moreO a7 g6.symm
 refine dP (i := 13) rfl rfl (zP (vs := [vP c, ed]) Tryz.func37 nm37 rfl rfl rfl ?_)
 refine cD (nS eg.pins he (hc.mono (cB (cB av.le ae.le) a6)) (by omega) (by omega) g9 (by simp)) ?_
 rintro _ ob ⟨br, oc, od, rfl, oe, hh, og, oh, ay⟩
 refine rt9 ?_
 have bs := eg.trans ay (fun i hi => xD i hi)
 have hk := hb.extS ay (notO g)
 have hl := hd.extS ay (notO cr)
 have ho := hf.extS ay (xP y)
 have eh := hg.extS ay (xP ak)
 have ei := Gadd.turn ef (cC bs.pins (cB ae.le a6)) ay (notO g)
 refine ⟨fun _ => ⟨eh.reads, ei⟩, ?_⟩
 refine dP (i := 14) rfl rfl (xA (E := eInt) (e := 3) [vJ br] [br] dC sz3 zr3 (by exact qC (by rfl)) (yG (by rfl)) rfl rfl rfl rfl (by decide) bs.pins (fun ej hp hq hr ap oi => ?_))
 have ct := bs.step hr ap
 have ek := hk.below ap
 have el := hl.below ap
 have em := hh.below ap
 have en := ho.below ap
 have cu := eh.below ap
 have ht := hq.weaken bs.size
 have eo := ei.below ap
 refine ⟨fun _ => ⟨cu.reads, eo⟩, ?_⟩
 refine dP (i := 15) rfl rfl (fJ (E := eInt) (v := d4) (u := ej) 8 dC ap3 (by decide) rfl rfl ct.pins el ht.src (by first | omega | (rw [List.nil_append]; omega) | (rw [List.length_nil]; omega) | (rw [List.length_append]; omega) | (simp; done) | (simp; omega) | (simp only [List.length_cons, List.length_nil]; omega) | (simp only [List.length_append, List.length_cons, List.length_nil]; omega)) (by first | omega | (rw [List.nil_append]; omega) | (rw [List.length_nil]; omega) | (rw [List.length_append]; omega) | (simp; done) | (simp; omega) | (simp only [List.length_cons, List.length_nil]; omega) | (simp only [List.length_append, List.length_cons, List.length_nil]; omega)) (ct.size) (fun hu oj hv ep az bt => ?_))
 have eq := ct.write ep az ((yE el))
 have hw := ek.keptA az cq.symm
 have hx := em.keptA az cr.symm
 have hy := en.keptA az d9.symm
 have bu := cu.keptA az ea.symm
 have hz := zF cq.symm bt ek.lt
 have h0 := zO cr.symm bt em.lt
 have h1 := zO d9.symm bt en.lt
 have h2 := zO ea.symm bt cu.lt
 have ok := la1 (((formG f).getD (d).toNat default).l) br
 have cw := Gadd.turn eo (cC eq.pins (cB ae.le a6)) (Ext.one ep az) (notO cq.symm)
 refine ⟨fun _ => ⟨bu.reads, cw⟩, ?_⟩
 refine dP (i := 16) rfl rfl (EO.run (zE dD sz76 (v := b) rfl rfl aw (by omega) (by omega)) ⟨fun _ => ⟨bu.reads, cw⟩, ?_⟩)
 refine dT (i := 17) rfl rfl (by kernel_rfl) (fun _ _ => yP (off := 0) dH rfl rfl nz40 (z := d) (k := 0) rfl aw (by omega) (by omega)) ⟨bu.reads, cw⟩ ?_
 obtain ⟨ol, h3, er, h4, bv⟩ := hv.sealed eq
 have es := hw.moreO h3 bv hz
 have h5 := hx.moreO bv h0
 have h6 := hy.moreO bv h1
 have h7 := bu.moreO bv h2
 refine dO (i := 18) (xK (i := 18) rfl rfl rfl (yF rfl _) (o_setNL (v := b) (z := d) (u := hu) sz40 rfl rfl h4 er.pins es (by omega) (by omega) (fun om et h8 bw oo => ?_)))
 have eu := er.write h8 bw ((yE es))
 have h9 := h5.keptA bw g.symm
 have ia := h6.keptA bw aa.symm
 have ib := h7.keptA bw ag
 refine ⟨fun h => absurd rfl h, ?_⟩
 refine yH (by kernel_rfl) (yB (w9a ?_))
 refine qD rfl (zU (cs := [b]) ag26 sz26 rfl (fun j u hj => ib.cell (by simpa using hj))) (q0 rfl rfl rfl (o_stp (cs' := [b]) (us := [b]) (v := .agg #[b]) sz26 rfl rfl rfl (yG et.one) eu.pins ia (cE rfl) rfl (fun op ic ie cx oq => ?_)))
 have ig := eu.write ie cx ((zW au))
 have ih := et.keptA cx aa
 have ii := h9.keptA cx y.symm
 refine qe (zA ?_)
 refine cO (zT (vU (cs := [b]) rfl rfl rfl ag26 sz26 (fun j u hj => by rw [cR]; exact ic.cell hj) ?_))
 obtain ⟨os, ot, ij, ik, il⟩ := ih.sealed ig
 have im := ii.moreO il g.symm
 exact ⟨_, _, _, _, _, rfl, ik, im, (by omega), (by omega), ij⟩
 refine (dQ (i := 12) rfl rfl (xA (E := eInt) (e := 3) [vJ 0, vJ d, vJ (-1), vJ 1] [0, d, -1, 1] dC sz3 zr3 (by exact reps4 (by rfl) (by rfl) (by rfl) (by rfl)) (jS (by rfl) (by rfl) (by rfl) (by rfl)) rfl rfl rfl rfl (by decide) ax.pins (fun ev io ip iq a0 bx => ?_)))
 have cy := ax.step iq a0
 have ew := bo.below a0
 have ex := bp.below a0
 have ey := bq.below a0
 have cz := m.below a0
 have ir := zG bx bo.lt
 have it := zD bx bp.lt
 have iu := zD bx bq.lt
 have iv := zD bx m.lt
 have ez := ip.weaken ax.size
 have e0 := x.below a0
 refine ⟨fun _ => ⟨cz.reads, e0⟩, ?_⟩
 refine dP (i := 9) rfl rfl (zP (vs := [d3]) Tryz.func36 nm36 rfl rfl rfl ?_)
 refine cD (nB cy.pins cn (by omega)) ?_
 rintro _ iw ⟨e1, ix, rfl, a1, ad⟩
 refine rt9 ?_
 have iy := cy.tr ad
 have iz := ew.ext ad
 have i0 := ez.ext ad
 have i1 := ex.ext ad
 have i2 := ey.ext ad
 have e2 := cz.ext ad
 have c0 := zR a1.lt ew.lt
 have i3 := zR a1.lt ez.lt
 have c1 := zV a1.lt ex.lt
 have e3 := zV a1.lt ey.lt
 have e4 := zV a1.lt cz.lt
 have i4 := a1.weaken cy.size
 have e5 := e0.below ad.below
 refine ⟨fun _ => ⟨e2.reads, e5⟩, ?_⟩
 obtain ⟨i5, a8, e6, i6, a9⟩ := i0.sealed iy
 have i7 := iz.moreO a8 a9 ir.symm
 have i8 := i4.moreO a8 a9 i3
 have i9 := i1.moreO a9 it.symm
 have ja := i2.moreO a9 iu.symm
 have jb := e2.moreO a9 iv.symm
 refine dP (i := 13) rfl rfl (zP (vs := [vP c, ev]) Tryz.func37 nm37 rfl rfl rfl ?_)
 refine cD (nS e6.pins i9 (hc.mono (cB (cB av.le ad.le) a8)) (by omega) (by omega) i6 (by simp)) ?_
 rintro _ ou ⟨bz, ov, ow, rfl, ox, jc, oy, oz, a2⟩
 refine rt9 ?_
 have b0 := e6.trans a2 (fun i hi => xD i hi)
 have jd := i7.extS a2 (notO g)
 have je := i8.extS a2 (notO c1)
 have jf := ja.extS a2 (xP y)
 have e7 := jb.extS a2 (xP ak)
 have e8 := Gadd.turn e5 (cC b0.pins (cB ad.le a8)) a2 (notO g)
 refine ⟨fun _ => ⟨e7.reads, e8⟩, ?_⟩
 refine dP (i := 14) rfl rfl (xA (E := eInt) (e := 3) [vJ bz] [bz] dC sz3 zr3 (by exact qC (by rfl)) (yG (by rfl)) rfl rfl rfl rfl (by decide) b0.pins (fun e9 jg jh ji aq o0 => ?_))
 have c2 := b0.step ji aq
 have fa := jd.below aq
 have fb := je.below aq
 have fc := jc.below aq
 have fd := jf.below aq
 have c3 := e7.below aq
 have jj := jh.weaken b0.size
 have fe := e8.below aq
 refine ⟨fun _ => ⟨c3.reads, fe⟩, ?_⟩
 refine dP (i := 15) rfl rfl (fJ (E := eInt) (v := e1) (u := e9) 8 dC ap3 (by decide) rfl rfl c2.pins fb jj.src (by first | omega | (rw [List.nil_append]; omega) | (rw [List.length_nil]; omega) | (rw [List.length_append]; omega) | (simp; done) | (simp; omega) | (simp only [List.length_cons, List.length_nil]; omega) | (simp only [List.length_append, List.length_cons, List.length_nil]; omega)) (by first | omega | (rw [List.nil_append]; omega) | (rw [List.length_nil]; omega) | (rw [List.length_append]; omega) | (simp; done) | (simp; omega) | (simp only [List.length_cons, List.length_nil]; omega) | (simp only [List.length_append, List.length_cons, List.length_nil]; omega)) (c2.size) (fun jk o1 jl ff a3 b2 => ?_))
 have fg := c2.write ff a3 ((yE fb))
 have jm := fa.keptA a3 c0.symm
 have jn := fc.keptA a3 c1.symm
 have jo := fd.keptA a3 e3.symm
 have b3 := c3.keptA a3 e4.symm
 have jp := zF c0.symm b2 fa.lt
 have jq := zO c1.symm b2 fc.lt
 have jr := zO e3.symm b2 fd.lt
 have js := zO e4.symm b2 c3.lt
 have o2 := la1 (((formG f).getD (d).toNat default).l) bz
 have c4 := Gadd.turn fe (cC fg.pins (cB ad.le a8)) (Ext.one ff a3) (notO c0.symm)
 refine ⟨fun _ => ⟨b3.reads, c4⟩, ?_⟩
 refine dP (i := 16) rfl rfl (EO.run (zE dD sz76 (v := b) rfl rfl aw (by omega) (by omega)) ⟨fun _ => ⟨b3.reads, c4⟩, ?_⟩)
 refine dT (i := 17) rfl rfl (by kernel_rfl) (fun _ _ => yP (off := 0) dH rfl rfl nz40 (z := d) (k := 0) rfl aw (by omega) (by omega)) ⟨b3.reads, c4⟩ ?_
 obtain ⟨o3, jt, fh, ju, b4⟩ := jl.sealed fg
 have fi := jm.moreO jt b4 jp
 have jv := jn.moreO b4 jq
 have jw := jo.moreO b4 jr
 have jx := b3.moreO b4 js
 refine dO (i := 18) (xK (i := 18) rfl rfl rfl (yF rfl _) (o_setNL (v := b) (z := d) (u := jk) sz40 rfl rfl ju fh.pins fi (by omega) (by omega) (fun o4 fj jy b5 o5 => ?_)))
 have fk := fh.write jy b5 ((yE fi))
 have jz := jv.keptA b5 g.symm
 have j0 := jw.keptA b5 aa.symm
 have j1 := jx.keptA b5 ag
 refine ⟨fun h => absurd rfl h, ?_⟩
 refine yH (by kernel_rfl) (yB (w9a ?_))
 refine qD rfl (zU (cs := [b]) ag26 sz26 rfl (fun j u hj => j1.cell (by simpa using hj))) (q0 rfl rfl rfl (o_stp (cs' := [b]) (us := [b]) (v := .agg #[b]) sz26 rfl rfl rfl (yG fj.one) fk.pins j0 (cE rfl) rfl (fun o6 j2 j3 c5 o7 => ?_)))
 have j4 := fk.write j3 c5 ((zW au))
 have j5 := fj.keptA c5 aa
 have j6 := jz.keptA c5 y.symm
 refine qe (zA ?_)
 refine cO (zT (vU (cs := [b]) rfl rfl rfl ag26 sz26 (fun j u hj => by rw [cR]; exact j2.cell hj) ?_))
 obtain ⟨o8, o9, j7, j8, j9⟩ := j5.sealed j4
 have ka := j6.moreO j9 g.symm
 exact ⟨_, _, _, _, _, rfl, j8, ka, (by omega), (by omega), j7⟩
 refine w9d ?_
 refine qD rfl (qL rfl rfl) (qM (.bool (decide ((ah : Int) = 1))) ?_)
 refine qe (zA ?_)
 refine yA (p := (ah : Int) = 1) rfl rfl (fun kb => ?_) (fun kb => ?_)
 refine zC (qD rfl (zI (k := 0) rfl dF rfl nz24 rfl) (qD rfl (zJ (u := b) ag24 rfl (ab.cell (o := 0) rfl)) (qI rfl (xA (E := eInt) (e := 3) [vJ 0] [0] dC sz3 zr3 (by exact qC (by rfl)) (yG (by rfl)) rfl rfl rfl rfl (by decide) q.pins (fun ba kc kd ke bb b6 => ?_)))))
 have kf := q.step ke bb
 have kg := t.below bb
 have kh := al.below bb
 have ki := am.below bb
 have kj := ab.below bb
 have kk := zG b6 t.lt
 have kl := zD b6 al.lt
 have km := zD b6 am.lt
 have kn := zD b6 ab.lt
 have fl := kd.weaken q.size
 refine qD rfl (xH [vN, vN] [vN, ba] [(1, ba, [ba])] dH zr76 rfl pl76 rfl (cM.2 ⟨(yX fl.one), (fun _ h => by cases h)⟩) rfl) ?_
 obtain ⟨ko, kp, c6, kq, b7⟩ := fl.sealed kf
 have kr := kg.moreO kp b7 kk.symm
 have ks := kh.moreO b7 kl.symm
 have kt := ki.moreO b7 km.symm
 have ku := kj.moreO b7 kn.symm
 refine qI rfl (xE (E := eNode) (e := 76) [vN, ba] (⟨[], [0]⟩ : Nd) dD sz76 zr76 ⟨_, _, rfl, (xV _ _), kq⟩ rfl (by decide) c6.pins (fun fm kv kw kx bc pa => ?_))
 have c7 := c6.step kx bc
 have fn := kr.below bc
 have fo := ks.below bc
 have fp := kt.below bc
 have fq := ku.below bc
 have ky := kw.weaken c6.size
 refine qI rfl (fJ (E := eNode) (v := b) (u := fm) 48 dD ap76 (by decide) rfl rfl c7.pins fn ky.src (by first | omega | (rw [List.nil_append]; omega) | (rw [List.length_nil]; omega) | (rw [List.length_append]; omega) | (simp; done) | (simp; omega) | (simp only [List.length_cons, List.length_nil]; omega) | (simp only [List.length_append, List.length_cons, List.length_nil]; omega)) (by first | omega | (rw [List.nil_append]; omega) | (rw [List.length_nil]; omega) | (rw [List.length_append]; omega) | (simp; done) | (simp; omega) | (simp only [List.length_cons, List.length_nil]; omega) | (simp only [List.length_append, List.length_cons, List.length_nil]; omega)) (c7.size) (fun ai pb c8 kz b8 c9 => ?_))
 have fr := c7.write kz b8 ((yE fn))
 have k0 := fo.keptA b8 g.symm
 have k1 := fp.keptA b8 aa.symm
 have k2 := fq.keptA b8 ag
 have k3 := zO g.symm c9 fo.lt
 have k4 := zO aa.symm c9 fp.lt
 have k5 := zO ag c9 fq.lt
 have pc := la1 (formG f) (⟨[], [0]⟩ : Nd)
 refine qD rfl (zI (k := 0) rfl dF rfl nz24 rfl) (q0 rfl rfl rfl (o_stp (cs' := [ai]) (us := [ai]) (v := ai) sz24 rfl rfl (jX c8.one) (yG c8.one) fr.pins k2 (cE rfl) rfl (fun pd k6 k7 b9 pe => ?_)))
 have fs := fr.write k7 b9 ((zW cm))
 have ft := c8.keptA b9 k5.symm
 have k8 := k0.keptA b9 ak.symm
 have k9 := k1.keptA b9 cl.symm
 refine qe (yB (w9a ?_))
 refine qD rfl (zU (cs := [ai]) ag26 sz26 rfl (fun j u hj => k6.cell (by simpa using hj))) (q0 rfl rfl rfl (o_stp (cs' := [ai]) (us := [ai]) (v := .agg #[ai]) sz26 rfl rfl rfl (yG ft.one) fs.pins k9 (cE rfl) rfl (fun pf la lb da pg => ?_)))
 have lc := fs.write lb da ((zW au))
 have ld := ft.keptA da k4.symm
 have lf := k8.keptA da y.symm
 refine qe (zA ?_)
 refine cO (zT (vU (cs := [ai]) rfl rfl rfl ag26 sz26 (fun j u hj => by rw [cR]; exact la.cell hj) ?_))
 obtain ⟨ph, pi, lg, lh, li⟩ := ld.sealed lc
 have lj := lf.moreO li k3
 exact ⟨_, _, _, _, _, rfl, lh, lj, (by omega), (by omega), lg⟩
 refine w9d ?_
 refine qD rfl (qL rfl rfl) (qM (.bool (decide ((ah : Int) = 2))) ?_)
 refine qe (zA ?_)
 refine yA (p := (ah : Int) = 2) rfl rfl (fun lk => ?_) (fun lk => ?_)
 refine zC (qD rfl (zI (k := 0) rfl dF rfl nz24 rfl) (qD rfl (zJ (u := b) ag24 rfl (ab.cell (o := 0) rfl)) (qD rfl (zI (k := 0) rfl dF rfl nz24 rfl) (qD rfl (zJ (u := b) ag24 rfl (ab.cell (o := 0) rfl)) (qD rfl (zN dD (v := b) rfl t.read) (qD rfl (xX rfl rfl (by omega)) ?_))))))
 obtain ⟨ac, db, dc, ll⟩ := own_cut t ((((formG f).length : Int) - 1).toNat) (((formG f).length : Int) - 1) (by omega) rfl (by omega) (by omega)
 have lm : Apart ac.ownBlock (some c) := by rw [dc]; exact g
 have ln : Apart ac.ownBlock (some b1) := by rw [dc]; exact aa
 have lp : Apart (some bi) ac.ownBlock := by rw [dc]; exact ag
 refine qD rfl (ll dD sz76 rfl rfl rfl) (qD rfl (zI (k := 0) rfl dF rfl nz24 rfl) (q0 rfl rfl rfl (o_stp (cs' := [ac]) (us := [ac]) (v := ac) sz24 rfl rfl (jX db.one) (yG db.one) q.pins ab (cE rfl) rfl (fun pj lq lr ca pk => ?_))))
 have fu := q.write lr ca ((zW cm))
 have fv := db.keptA ca lp.symm
 have ls := al.keptA ca ak.symm
 have lu := am.keptA ca cl.symm
 refine qe (yB (w9a ?_))
 refine qD rfl (zU (cs := [ac]) ag26 sz26 rfl (fun j u hj => lq.cell (by simpa using hj))) (q0 rfl rfl rfl (o_stp (cs' := [ac]) (us := [ac]) (v := .agg #[ac]) sz26 rfl rfl rfl (yG fv.one) fu.pins lu (cE rfl) rfl (fun pl lv lw dd pm => ?_)))
 have lx := fu.write lw dd ((zW au))
 have ly := fv.keptA dd ln
 have lz := ls.keptA dd y.symm
 refine qe (zA ?_)
 refine cO (zT (vU (cs := [ac]) rfl rfl rfl ag26 sz26 (fun j u hj => by rw [cR]; exact lv.cell hj) ?_))
 obtain ⟨pn, po, l0, l1, l2⟩ := ly.sealed lx
 have l3 := lz.moreO l2 lm.symm
 exact ⟨_, _, _, _, _, rfl, l1, l3, (by omega), (by omega), l0⟩
 refine w9d ?_
 refine qD rfl (qL rfl rfl) (qM (.bool (decide ((ah : Int) = 3))) ?_)
 refine qe (zA ?_)
 refine yA (p := (ah : Int) = 3) rfl rfl (fun l4 => ?_) (fun l4 => ?_)
 refine w9d ?_
 refine qD rfl (zI (k := 0) rfl dF rfl nz24 rfl) (qD rfl (zJ (u := b) ag24 rfl (ab.cell (o := 0) rfl)) (qD rfl (zE dD sz76 (v := b) rfl rfl t.read (by omega) (by omega)) ?_))
 obtain ⟨bd, be, de, df, l5⟩ := vK (t.at (z := 0) (by omega) (by omega)) (j := 0) rfl
 have pp := de.max
 have pq := df.max
 refine qD rfl (l5 ag76 sz76 rfl (cL q.pins b)) (qI rfl (yK [vN, vN] zr76 rfl q.pins (fun l6 pr cb l7 l8 bf => ?_)))
 have fw := q.step l8 bf
 have l9 := t.below bf
 have ma := al.below bf
 have mb := am.below bf
 have mc := ab.below bf
 have fx := zG (cgA some cb) t.lt
 have fy := zD (cgA some cb) al.lt
 have fz := zD (cgA some cb) am.lt
 have f0 := zD (cgA some cb) ab.lt
 have f1 : w.heap.size ≤ l6 := by have := q.size; omega
 refine q0 rfl rfl rfl (o_stp (cs' := [bd, be]) (us := [bd, be]) (v := .agg #[bd, be]) sz76 rfl rfl rfl (vD de.one df.one) fw.pins l7 (cE rfl) rfl (fun cc md me bg ps => ?_))
 have mf := fw.write me bg ((zW f1))
 have mg := l9.keptA bg fx.symm
 have mh := ma.keptA bg fy.symm
 have mi := mb.keptA bg fz.symm
 have mj := mc.keptA bg f0.symm
 obtain ⟨dg, dh, di, mk, cd⟩ := md.shut mf f1
 have dj := mg.moreA dh cd fx.symm
 have ml := mh.moreA cd fy.symm
 have mm := mi.moreA cd fz.symm
 have mn := mj.moreA cd f0.symm
 refine qe (zA (zB ?_))
 have mo := cL di.pins b
 have f2 := dj.read
 refine yT (S := fun wz => BxR wz bi [b] ∧ Pins (Gadd dg cc b) wz) (last := 8) (by kernel_rfl) rfl ?_
 have ar := bdr cc
 have mp := di.pins.below ar
 have f3 := di.step mp ar
 have f4 := dj.below ar
 have mq := ml.below ar
 have mr := mm.below ar
 have af := mn.below ar
 have aj := mo.below ar
 refine dT (i := 0) rfl rfl (by kernel_rfl) (fun _ _ => zI (k := 0) rfl dF rfl nz24 rfl) ⟨af.reads, aj⟩ ?_
 refine dT (i := 1) rfl rfl (by kernel_rfl) (fun _ hS => zJ (u := b) ag24 rfl (hS.1 0 _ rfl)) ⟨af.reads, aj⟩ ?_
 refine dT (i := 2) rfl rfl (by kernel_rfl) (fun _ _ => zI (k := 0) rfl dF rfl nz24 rfl) ⟨af.reads, aj⟩ ?_
 refine dT (i := 3) rfl rfl (by kernel_rfl) (fun _ hS => zJ (u := b) ag24 rfl (hS.1 0 _ rfl)) ⟨af.reads, aj⟩ ?_
 refine dT (i := 4) rfl rfl (by kernel_rfl) (fun _ _ => zX (v := vJ d) rfl) ⟨af.reads, aj⟩ ?_
 refine dT (i := 5) rfl rfl (by kernel_rfl) (fun _ _ => zE dD sz76 (v := b) rfl rfl f2 (by omega) (by omega)) ⟨af.reads, aj⟩ ?_
 obtain ⟨ms, mt, f5, f6, mu⟩ := vK (dj.at (z := d) (by omega) (by omega)) (j := (d).toNat) rfl
 have pt := f5.max
 have pu := f6.max
 refine dT (i := 6) rfl rfl (by kernel_rfl) (fun _ hS => mu ag76 sz76 rfl hS.2) ⟨af.reads, aj⟩ ?_
 refine dT (i := 7) rfl rfl (by kernel_rfl) (fun _ _ => zE dD sz76 (v := b) rfl rfl f2 (by omega) (by omega)) ⟨af.reads, aj⟩ ?_
 refine dO (i := 8) (xK (i := 8) rfl rfl rfl (yF rfl _) (qU (E := eNode) (v := b) (u := .agg #[ms, mt]) (z := 0) ((⟨((formG f).getD (d).toNat default).l, ((formG f).getD (d).toNat default).r⟩ : Nd)) sz76 rfl rfl rfl ⟨_, _, rfl, f5, f6⟩ f3.pins f4 (by omega) (by omega) (fun mv mw mx ce pv => ?_)))
 have dk := f3.write mx ce ((yE f4))
 have my := mq.keptA ce g.symm
 have mz := mr.keptA ce aa.symm
 have f7 := af.keptA ce ag
 have dl : Own eNode 76 dg mv w.heap.size b ((formG f).set 0 (⟨((formG f).getD (d).toNat default).l, ((formG f).getD (d).toNat default).r⟩ : Nd)) := mw
 have pw : ((formG f).set 0 (⟨((formG f).getD (d).toNat default).l, ((formG f).getD (d).toNat default).r⟩ : Nd)).length = (formG f).length := cS ..
 refine ⟨fun h => absurd rfl h, ?_⟩
 refine yH (by kernel_rfl) (zA (zC ?_))
 refine qD rfl (zI (k := 0) rfl dF rfl nz24 rfl) (qD rfl (zJ (u := b) ag24 rfl (f7.cell (o := 0) rfl)) (qM (vJ d) ?_))
 refine qD rfl (zU (cs := [bd, be]) ag76 sz76 rfl (fun j u hj => dk.pins _ _ _ (mk _ _ (by simpa using hj)))) (qD rfl (zE dD sz76 (v := b) rfl rfl dl.read (by omega) (by omega)) (q0 rfl rfl rfl (qU (E := eNode) (v := b) (u := .agg #[bd, be]) (z := d) ((⟨((formG f).getD 0 default).l, ((formG f).getD 0 default).r⟩ : Nd)) sz76 rfl rfl rfl ⟨_, _, rfl, (de.mono dh), (df.mono dh)⟩ dk.pins dl (by omega) (by omega) (fun m0 m1 m2 cf px => ?_))))
 have f8 := dk.write m2 cf ((yE dl))
 have m3 := my.keptA cf g.symm
 have m4 := mz.keptA cf aa.symm
 have m5 := f7.keptA cf ag
 have f9 : Own eNode 76 dg m0 w.heap.size b (((formG f).set 0 (⟨((formG f).getD (d).toNat default).l, ((formG f).getD (d).toNat default).r⟩ : Nd)).set (d).toNat (⟨((formG f).getD 0 default).l, ((formG f).getD 0 default).r⟩ : Nd)) := m1
 have py : (((formG f).set 0 (⟨((formG f).getD (d).toNat default).l, ((formG f).getD (d).toNat default).r⟩ : Nd)).set (d).toNat (⟨((formG f).getD 0 default).l, ((formG f).getD 0 default).r⟩ : Nd)).length = ((formG f).set 0 (⟨((formG f).getD (d).toNat default).l, ((formG f).getD (d).toNat default).r⟩ : Nd)).length := cS ..
 refine qe (yB (w9a ?_))
 refine qD rfl (zU (cs := [b]) ag26 sz26 rfl (fun j u hj => m5.cell (by simpa using hj))) (q0 rfl rfl rfl (o_stp (cs' := [b]) (us := [b]) (v := .agg #[b]) sz26 rfl rfl rfl (yG f9.one) f8.pins m4 (cE rfl) rfl (fun pz m6 m7 dm p0 => ?_)))
 have m8 := f8.write m7 dm ((zW au))
 have m9 := f9.keptA dm aa
 have na := m3.keptA dm y.symm
 refine qe (zA ?_)
 refine cO (zT (vU (cs := [b]) rfl rfl rfl ag26 sz26 (fun j u hj => by rw [cR]; exact m6.cell hj) ?_))
 obtain ⟨p1, p2, nb, nc, nd⟩ := m9.sealed m8
 have ne := na.moreO nd g.symm
 exact ⟨_, _, _, _, _, rfl, nc, ne, (by omega), (by omega), nb⟩
 refine cN (yB (w9a ?_))
 refine qD rfl (zU (cs := [b]) ag26 sz26 rfl (fun j u hj => ab.cell (by simpa using hj))) (q0 rfl rfl rfl (o_stp (cs' := [b]) (us := [b]) (v := .agg #[b]) sz26 rfl rfl rfl (yG t.one) q.pins am (cE rfl) rfl (fun p3 nf ng dn p4 => ?_)))
 have nh := q.write ng dn ((zW au))
 have ni := t.keptA dn aa
 have nj := al.keptA dn y.symm
 refine qe (zA ?_)
 refine cO (zT (vU (cs := [b]) rfl rfl rfl ag26 sz26 (fun j u hj => by rw [cR]; exact nf.cell hj) ?_))
 obtain ⟨p5, p6, nk, nl, nm⟩ := ni.sealed nh
 have nn := nj.moreO nm g.symm
 exact ⟨_, _, _, _, _, rfl, nl, nn, (by omega), (by omega), nk⟩
end DV1
namespace DV2
open B1 C1 D1 E1 MK1 DR1 DR2 DV1
theorem vBig_spec {w : World} {G : Pin} {v : Value} {code : List UInt8} (hP : Pins G w) (hc : RSl eByte G v code) :
  Calls Tryz.prog 5 #[v] w fun e w' => e = .returned (.bool (decide ((65536 : Int) < (code.length : Int)))) ∧ Ext noS G w G w' := by
 refine yC (n := 6) Tryz.func5 Tryz.ntmps5 rfl rfl ?_
 have hX0 := exr noS hP
 have hm := hc.max
 refine w9d ?_
 refine qM (.bool false) ?_
 refine qe (w9a ?_)
 refine qM v ?_
 refine qD rfl (zN dS (v := v) rfl hc) (qD rfl (jR rfl rfl) (qM (.bool (decide ((65536 : Int) < (code.length : Int)))) ?_))
 refine qe (zA ?_)
 exact cO (zT (zS (v := .bool (decide ((65536 : Int) < (code.length : Int)))) rfl rfl rfl (⟨rfl, hX0⟩)))
end DV2
namespace LX1
open B1 C1 D1 E1 SF1 DR1 DR2 DV1 PF4
theorem pl46 : (Tryz.prog.underlying 46).bind (placesD Tryz.prog) = some [(0, 1), (1, 1), (2, 1)] := by kernel_rfl
variable {G : Pin} {code : List UInt8}
theorem proof_spec {w : World} {c : Nat} {cv : Value} {a s : Int} (hP : Pins G w) (hB : Bx G w c [cv, .int .i64 a, .int .u64 s]) (hc : RSl eByte G cv code) (ha : 0 ≤ a ∧ a + 56 ≤ 1000000) (hs : 0 ≤ s ∧ s < 18446744073709551616) :
  Calls Tryz.prog 15 #[vP c] w fun e w' => ∃ (u v r : Value) (xs ys : List Nd) (ps : List Cl) (a' s' : Int) (G' : Pin), e = .returned (.tuple #[.agg #[u], .agg #[v], .agg #[r]]) ∧ RSl eNode G' u xs ∧ RSl eNode G' v ys ∧ RSl eClaim G' r ps ∧ Bx G' w' c [cv, .int .i64 a', .int .u64 s'] ∧ (a ≤ a' ∧ a' ≤ a + 56) ∧ (0 ≤ s' ∧ s' < 18446744073709551616) ∧ Ext (inO (some c)) G w G' w' := by
 refine yC (n := 38) Tryz.func15 Tryz.ntmps15 rfl rfl ?_
 have d2 := exr (inO (some c)) hP
 have hm := hc.max
 refine w9d ?_
 refine qI rfl (yK [vN] zr26 rfl d2.pins (fun b1 w2 j2 eq j3 er => ?_))
 have d3 := d2.step j3 er
 have et := hB.below er
 have a0 := zD (cgA some j2) hB.lt
 have b4 : w.heap.size ≤ b1 := by have := d2.size; omega
 refine qI rfl (yK [vN] zr26 rfl d3.pins (fun j4 uk eu ev j5 d4 => ?_))
 have d5 := d3.step j5 d4
 have ew := et.below d4
 have ex := eq.below d4
 have a1 := zD (cgA some eu) et.lt
 have z := zD (cgA some eu) eq.lt
 have b5 : w.heap.size ≤ j4 := by have := d3.size; omega
 refine qI rfl (yK [vN] zr29 rfl d5.pins (fun j6 ul d6 ey j7 cr => ?_))
 have d7 := d5.step j7 cr
 have ez := ew.below cr
 have e0 := ex.below cr
 have e1 := ev.below cr
 have a2 := zD (cgA some d6) ew.lt
 have aa := zD (cgA some d6) ex.lt
 have ab := zD (cgA some d6) ev.lt
 have b6 : w.heap.size ≤ j6 := by have := d5.size; omega
 refine qe (w9a ?_)
 refine qM (vP c) ?_
 refine qI rfl (zP (vs := [vP c, vJ 2]) Tryz.func34 nm34 rfl rfl rfl ?_)
 refine cD (gN (n := 2) d7.pins ez hc (by omega) (by omega) (by omega)) ?_
 rintro _ j8 ⟨b, l, um, un, j9, rfl, cl, ac, uo, e2, up, uq, cm⟩
 refine rt9 ?_
 have d8 := d7.trans cm (fun i hi => xD i hi)
 have e3 := e0.extS cm (xP a0)
 have e4 := e1.extS cm (xP a1)
 have e5 := ey.extS cm (xP a2)
 have e6 := zV cl.lt ez.lt
 have ka := zV cl.lt e0.lt
 have kb := zV cl.lt e1.lt
 have kc := zV cl.lt ey.lt
 have e7 := cl.weaken d7.size
 have ur := ac.1.lo
 refine qM (vP c) ?_
 refine qI rfl (zP (vs := [vP c, vJ 2]) Tryz.func34 nm34 rfl rfl rfl ?_)
 refine cD (gN (n := 2) d8.pins e2 (hc.mono cm.le) (by omega) (by omega) (by omega)) ?_
 rintro _ kd ⟨d, o, ut, uu, ke, rfl, b7, ad, uv, e8, uw, ux, cn⟩
 refine rt9 ?_
 have d9 := d8.trans cn (fun i hi => xD i hi)
 have e9 := e7.extS cn (notO e6)
 have fa := e3.extS cn (xP a0)
 have fb := e4.extS cn (xP a1)
 have fc := e5.extS cn (xP a2)
 have kf := zR b7.lt e7.lt
 have kg := zV b7.lt e2.lt
 have kh := zV b7.lt e3.lt
 have ki := zV b7.lt e4.lt
 have kj := zV b7.lt e5.lt
 have fd := b7.weaken d8.size
 have uy := ad.1.lo
 refine qI rfl (yK [vN] zr26 rfl d9.pins (fun a8 uz b8 fe kk a9 => ?_))
 have ea := d9.step kk a9
 have ff := e9.below a9
 have fg := fd.below a9
 have fh := e8.below a9
 have fi := fa.below a9
 have fj := fb.below a9
 have fk := fc.below a9
 have fl := zG (cgA some b8) e9.lt
 have fm := zG (cgA some b8) fd.lt
 have fn := zD (cgA some b8) e8.lt
 have a3 := zD (cgA some b8) fa.lt
 have a4 := zD (cgA some b8) fb.lt
 have fo := zD (cgA some b8) fc.lt
 have fp : w.heap.size ≤ a8 := by have := d9.size; omega
 refine qI rfl (yK [vN] zr26 rfl ea.pins (fun ba u0 bb kl km a5 => ?_))
 have fq := ea.step km a5
 have fr := ff.below a5
 have kn := fg.below a5
 have ko := fh.below a5
 have kp := fi.below a5
 have kq := fj.below a5
 have kr := fk.below a5
 have ks := fe.below a5
 have fs := zG (cgA some bb) ff.lt
 have ft := zG (cgA some bb) fg.lt
 have co := zD (cgA some bb) fh.lt
 have ae := zD (cgA some bb) fi.lt
 have af := zD (cgA some bb) fj.lt
 have cp := zD (cgA some bb) fk.lt
 have bc := zD (cgA some bb) fe.lt
 have cq : w.heap.size ≤ ba := by have := ea.size; omega
 refine q0 rfl rfl rfl (o_stp (cs' := [b]) (us := [b]) (v := .agg #[b]) sz26 rfl rfl rfl (yG fr.one) fq.pins ks (cE rfl) rfl (fun u1 kt ku a6 u2 => ?_))
 have fu := fq.write ku a6 ((zW fp))
 have kv := fr.keptA a6 fl.symm
 have fv := kn.keptA a6 fm.symm
 have kw := ko.keptA a6 fn.symm
 have kx := kp.keptA a6 a3.symm
 have ky := kq.keptA a6 a4.symm
 have kz := kr.keptA a6 fo.symm
 have k0 := kl.keptA a6 bc
 refine q0 rfl rfl rfl (o_stp (cs' := [d]) (us := [d]) (v := .agg #[d]) sz26 rfl rfl rfl (yG fv.one) fu.pins k0 (cE rfl) rfl (fun u3 fw k1 a7 u4 => ?_))
 have k2 := fu.write k1 a7 ((zW cq))
 have k3 := kv.keptA a7 fs.symm
 have k4 := fv.keptA a7 ft.symm
 have k5 := kw.keptA a7 co.symm
 have k6 := kx.keptA a7 ae.symm
 have k7 := ky.keptA a7 af.symm
 have k8 := kz.keptA a7 cp.symm
 have fx := kt.keptA a7 bc.symm
 refine qe (zA (w9b ?_))
 refine qD rfl (zU (cs := [d]) ag26 sz26 rfl (fun j u hj => fw.cell (by simpa using hj))) (qD rfl (zU (cs := [b]) ag26 sz26 rfl (fun j u hj => fx.cell (by simpa using hj))) ?_)
 obtain ⟨u5, k9, la, m, bd⟩ := k4.sealed k2
 have lb := k3.moreO k9 bd kf.symm
 have lc := k5.moreO bd kg.symm
 have ld := k6.moreO bd kh.symm
 have lf := k7.moreO bd ki.symm
 have lg := k8.moreO bd kj.symm
 have lh := fx.moreO bd fm
 have li := fw.moreO bd ft
 obtain ⟨u6, p, fy, g, b9⟩ := lb.sealed la
 have lj := lc.moreO b9 e6.symm
 have lk := ld.moreO b9 ka.symm
 have ll := lf.moreO b9 kb.symm
 have lm := lg.moreO b9 kc.symm
 have ln := lh.moreO b9 fl
 have lp := li.moreO b9 fs
 refine qI rfl (zP (vs := [.agg #[d], .agg #[b]]) Tryz.func30 nm30 rfl rfl rfl ?_)
 refine cD (jU fy.pins (m.mono p) g ⟨ad.1.wf.ok, ad.1.lo⟩ ⟨ac.1.wf.ok, ac.1.lo⟩ (by omega)) ?_
 rintro _ u7 ⟨u8, rfl, f⟩
 refine rt9 ?_
 have ct := fy.tr f
 have fz := lj.ext f
 have f0 := lk.ext f
 have f1 := ll.ext f
 have f2 := lm.ext f
 have cu := ln.ext f
 have cw := lp.ext f
 refine qM (.bool (decP (geG (gOf (formG o)) (gOf (formG l))))) ?_
 refine qb (t := 16) rfl (fun lq => ?_) (fun lq => ?_)
 refine qN (zU (cs := [b]) ag26 sz26 rfl (fun j u hj => cu.cell (by simpa using hj))) ?_
 refine qN (zU (cs := [d]) ag26 sz26 rfl (fun j u hj => cw.cell (by simpa using hj))) ?_
 refine q1g rfl rfl rfl rfl rfl rfl (zP (vs := [.agg #[b], .agg #[d]]) Tryz.func30 nm30 rfl rfl rfl ?_)
 refine cD (jU ct.pins (g.mono f.le) (m.mono (cB p f.le)) ⟨ac.1.wf.ok, ac.1.lo⟩ ⟨ad.1.wf.ok, ad.1.lo⟩ (by omega)) ?_
 rintro _ u9 ⟨va, rfl, k⟩
 refine rt9 ?_
 have cx := ct.tr k
 have f3 := fz.ext k
 have f4 := f0.ext k
 have f5 := f1.ext k
 have f6 := f2.ext k
 have cy := cu.ext k
 have cz := cw.ext k
 refine qN (xN rfl) ?_
 refine qD rfl (yL (v := .bool (!(decP (geG (gOf (formG l)) (gOf (formG o)))))) rfl rfl) (qe (zA ?_))
 refine qO rfl rfl (fun lr => ?_) (fun lr => ?_)
 refine cN (zA (w9b ?_))
 refine qD rfl (zU (cs := [b]) ag26 sz26 rfl (fun j u hj => cy.cell (by simpa using hj))) (qD rfl (zU (cs := [d]) ag26 sz26 rfl (fun j u hj => cz.cell (by simpa using hj))) (qI rfl (zP (vs := [.agg #[b], .agg #[d]]) Tryz.func30 nm30 rfl rfl rfl ?_)))
 refine cD (jU cx.pins (g.mono (cB f.le k.le)) (m.mono (cB (cB p f.le) k.le)) ⟨ac.1.wf.ok, ac.1.lo⟩ ⟨ad.1.wf.ok, ad.1.lo⟩ (by omega)) ?_
 rintro _ vb ⟨vc, rfl, q⟩
 refine rt9 ?_
 have c0 := cx.tr q
 have f7 := f3.ext q
 have f8 := f4.ext q
 have f9 := f5.ext q
 have ga := f6.ext q
 have c1 := cy.ext q
 have eb := cz.ext q
 refine qD rfl (xN rfl) (qe (zA ?_))
 refine qO rfl rfl (fun ls => ?_) (fun ls => ?_)
 refine cN (w9a ?_)
 refine qD rfl (zU (cs := [b]) ag26 sz26 rfl (fun j u hj => c1.cell (by simpa using hj))) (qD rfl (zU (cs := [d]) ag26 sz26 rfl (fun j u hj => eb.cell (by simpa using hj))) (qI rfl (zP (vs := [.agg #[b], .agg #[d]]) Tryz.func12 nm12 rfl rfl rfl ?_)))
 refine cD (xW c0.pins (g.mono (cB (cB f.le k.le) q.le)) (m.mono (cB (cB (cB p f.le) k.le) q.le))) ?_
 rintro _ vd ⟨ag, ve, rfl, c2, am⟩
 refine rt9 ?_
 have ec := c0.tr am
 have gb := f7.ext am
 have gc := f8.ext am
 have gd := f9.ext am
 have ge := ga.ext am
 have gf := c1.ext am
 have gg := eb.ext am
 have vf := c2.max
 refine qM (.tuple #[.agg #[ag], .bool (prfB (formG l) (formG o))]) ?_
 refine qD rfl (yR (v := .agg #[ag]) rfl rfl) (qD rfl (yR (v := .bool (prfB (formG l) (formG o))) rfl rfl) (qI rfl (yK [vN] zr29 rfl ec.pins (fun gh vg ca lu lv be => ?_))))
 have gi := ec.step lv be
 have lw := gb.below be
 have lx := gc.below be
 have ly := gd.below be
 have lz := ge.below be
 have l0 := gf.below be
 have l1 := gg.below be
 have l2 := zD (cgA some ca) gb.lt
 have gj := zD (cgA some ca) gc.lt
 have gk := zD (cgA some ca) gd.lt
 have l3 := zD (cgA some ca) ge.lt
 have l4 := zD (cgA some ca) gf.lt
 have l5 := zD (cgA some ca) gg.lt
 have l6 : w.heap.size ≤ gh := by have := ec.size; omega
 refine q0 rfl rfl rfl (o_stp (cs' := [ag]) (us := [ag]) (v := .agg #[ag]) sz29 rfl rfl rfl (yG c2.one) gi.pins lu (cE rfl) rfl (fun ed l7 l8 bf vh => ?_))
 have gl := gi.write l8 bf ((zW l6))
 have l9 := lw.keptA bf l2.symm
 have ma := lx.keptA bf gj.symm
 have mb := ly.keptA bf gk.symm
 have mc := lz.keptA bf l3.symm
 have md := l0.keptA bf l4.symm
 have me := l1.keptA bf l5.symm
 refine qM (.bool (prfB (formG l) (formG o))) ?_
 refine qe (zA (zB ?_))
 refine yT (S := fun wz => BxR wz a8 [b] ∧ BxR wz ba [d] ∧ BxR wz gh [ag]) (last := 5) (by kernel_rfl) rfl ?_
 have an := bdr ed
 have mf := gl.pins.below an
 have gm := gl.step mf an
 have mg := l9.below an
 have mh := ma.below an
 have mi := mb.below an
 have mj := mc.below an
 have c3 := md.below an
 have c4 := me.below an
 have c5 := l7.below an
 refine dT (i := 0) rfl rfl (by kernel_rfl) (fun _ hS => zU (cs := [b]) ag26 sz26 rfl (fun j u hj => hS.1 _ _ (by simpa using hj))) ⟨c3.reads, c4.reads, c5.reads⟩ ?_
 refine dT (i := 1) rfl rfl (by kernel_rfl) (fun _ hS => zU (cs := [d]) ag26 sz26 rfl (fun j u hj => hS.2.1 _ _ (by simpa using hj))) ⟨c3.reads, c4.reads, c5.reads⟩ ?_
 refine dT (i := 2) rfl rfl (by kernel_rfl) (fun _ hS => zU (cs := [ag]) ag29 sz29 rfl (fun j u hj => hS.2.2 _ _ (by simpa using hj))) ⟨c3.reads, c4.reads, c5.reads⟩ ?_
 refine dO (i := 3) (xK (i := 3) rfl rfl rfl (yF rfl _) (o_stp (cs' := [b]) (us := [b]) (v := .agg #[b]) sz26 rfl rfl rfl (yG g.one) gm.pins mh (cE rfl) rfl (fun vi mk ml bg vj => ?_)))
 have gn := gm.write ml bg ((zW b4))
 have mm := mg.keptA bg a0.symm
 have mn := mi.keptA bg z
 have mo := mj.keptA bg aa
 have gp := c3.keptA bg a3
 have gq := c4.keptA bg ae
 have gr := c5.keptA bg gj
 refine ⟨fun _ => ⟨gp.reads, gq.reads, gr.reads⟩, ?_⟩
 refine dO (i := 4) (xK (i := 4) rfl rfl rfl (yF rfl _) (o_stp (cs' := [d]) (us := [d]) (v := .agg #[d]) sz26 rfl rfl rfl (yG m.one) gn.pins mn (cE rfl) rfl (fun vk mp mq bh vl => ?_)))
 have gs := gn.write mq bh ((zW b5))
 have mr := mm.keptA bh a1.symm
 have ms := mk.keptA bh z.symm
 have mt := mo.keptA bh ab
 have mu := gp.keptA bh a4
 have mv := gq.keptA bh af
 have mw := gr.keptA bh gk
 refine ⟨fun _ => ⟨mu.reads, mv.reads, mw.reads⟩, ?_⟩
 refine dO (i := 5) (xK (i := 5) rfl rfl rfl (yF rfl _) (o_stp (cs' := [ag]) (us := [ag]) (v := .agg #[ag]) sz29 rfl rfl rfl (yG c2.one) gs.pins mt (cE rfl) rfl (fun vm mx my c6 vn => ?_)))
 have mz := gs.write my c6 ((zW b6))
 have m0 := mr.keptA c6 a2.symm
 have m1 := ms.keptA c6 aa.symm
 have m2 := mp.keptA c6 ab.symm
 refine ⟨fun h => absurd rfl h, ?_⟩
 exact yH (by kernel_rfl) (zA (cO (zT (kU (cs := [b]) (ds := [d]) (es := [ag]) rfl rfl rfl rfl rfl rfl rfl ag26 sz26 rfl ag29 sz29 (fun j u hj => by rw [cR]; exact m1.cell hj) (fun j u hj => by rw [cR]; exact m2.cell hj) (fun j u hj => by rw [cR]; exact mx.cell hj) (⟨_, _, _, _, _, _, _, _, _, rfl, (g.mono (cB (cB (cB f.le k.le) q.le) am.le)), (m.mono (cB (cB (cB (cB p f.le) k.le) q.le) am.le)), c2, m0, (by omega), (by omega), mz⟩)))))
 refine zC (qD rfl (zU (cs := [b]) ag26 sz26 rfl (fun j u hj => c1.cell (by simpa using hj))) (q0 rfl rfl rfl (o_stp (cs' := [b]) (us := [b]) (v := .agg #[b]) sz26 rfl rfl rfl (yG g.one) c0.pins eb (cE rfl) rfl (fun vo gt m3 cb vp => ?_))))
 have gu := c0.write m3 cb ((zW cq))
 have m4 := f7.keptA cb co.symm
 have m5 := f8.keptA cb ae.symm
 have m6 := f9.keptA cb af.symm
 have m7 := ga.keptA cb cp.symm
 have gv := c1.keptA cb bc.symm
 refine qe (w9a ?_)
 refine qD rfl (zU (cs := [b]) ag26 sz26 rfl (fun j u hj => gv.cell (by simpa using hj))) (qD rfl (zU (cs := [b]) ag26 sz26 rfl (fun j u hj => gt.cell (by simpa using hj))) (qI rfl (zP (vs := [.agg #[b], .agg #[b]]) Tryz.func12 nm12 rfl rfl rfl ?_)))
 refine cD (xW gu.pins (g.mono (cB (cB f.le k.le) q.le)) (g.mono (cB (cB f.le k.le) q.le))) ?_
 rintro _ vq ⟨ah, vr, rfl, c7, ao⟩
 refine rt9 ?_
 have ee := gu.tr ao
 have gw := m4.ext ao
 have gx := m5.ext ao
 have gy := m6.ext ao
 have gz := m7.ext ao
 have g0 := gv.ext ao
 have g1 := gt.ext ao
 have vt := c7.max
 refine qM (.tuple #[.agg #[ah], .bool (prfB (formG l) (formG l))]) ?_
 refine qD rfl (yR (v := .agg #[ah]) rfl rfl) (qD rfl (yR (v := .bool (prfB (formG l) (formG l))) rfl rfl) (qI rfl (yK [vN] zr29 rfl ee.pins (fun g2 vu cc m8 m9 bi => ?_))))
 have g3 := ee.step m9 bi
 have na := gw.below bi
 have nb := gx.below bi
 have nc := gy.below bi
 have nd := gz.below bi
 have ne := g0.below bi
 have nf := g1.below bi
 have ng := zD (cgA some cc) gw.lt
 have g4 := zD (cgA some cc) gx.lt
 have g5 := zD (cgA some cc) gy.lt
 have nh := zD (cgA some cc) gz.lt
 have ni := zD (cgA some cc) g0.lt
 have nj := zD (cgA some cc) g1.lt
 have nk : w.heap.size ≤ g2 := by have := ee.size; omega
 refine q0 rfl rfl rfl (o_stp (cs' := [ah]) (us := [ah]) (v := .agg #[ah]) sz29 rfl rfl rfl (yG c7.one) g3.pins m8 (cE rfl) rfl (fun ef nl nm bj vv => ?_))
 have g6 := g3.write nm bj ((zW nk))
 have nn := na.keptA bj ng.symm
 have no := nb.keptA bj g4.symm
 have np := nc.keptA bj g5.symm
 have nq := nd.keptA bj nh.symm
 have nr := ne.keptA bj ni.symm
 have ns := nf.keptA bj nj.symm
 refine qM (.bool (prfB (formG l) (formG l))) ?_
 refine qe (zA (zB ?_))
 refine yT (S := fun wz => BxR wz a8 [b] ∧ BxR wz ba [b] ∧ BxR wz g2 [ah]) (last := 5) (by kernel_rfl) rfl ?_
 have ap := bdr ef
 have nt := g6.pins.below ap
 have g7 := g6.step nt ap
 have nu := nn.below ap
 have nv := no.below ap
 have nw := np.below ap
 have nx := nq.below ap
 have c8 := nr.below ap
 have c9 := ns.below ap
 have da := nl.below ap
 refine dT (i := 0) rfl rfl (by kernel_rfl) (fun _ hS => zU (cs := [b]) ag26 sz26 rfl (fun j u hj => hS.1 _ _ (by simpa using hj))) ⟨c8.reads, c9.reads, da.reads⟩ ?_
 refine dT (i := 1) rfl rfl (by kernel_rfl) (fun _ hS => zU (cs := [b]) ag26 sz26 rfl (fun j u hj => hS.2.1 _ _ (by simpa using hj))) ⟨c8.reads, c9.reads, da.reads⟩ ?_
 refine dT (i := 2) rfl rfl (by kernel_rfl) (fun _ hS => zU (cs := [ah]) ag29 sz29 rfl (fun j u hj => hS.2.2 _ _ (by simpa using hj))) ⟨c8.reads, c9.reads, da.reads⟩ ?_
 refine dO (i := 3) (xK (i := 3) rfl rfl rfl (yF rfl _) (o_stp (cs' := [b]) (us := [b]) (v := .agg #[b]) sz26 rfl rfl rfl (yG g.one) g7.pins nv (cE rfl) rfl (fun vw ny nz bk vx => ?_)))
 have g8 := g7.write nz bk ((zW b4))
 have n0 := nu.keptA bk a0.symm
 have n1 := nw.keptA bk z
 have n2 := nx.keptA bk aa
 have g9 := c8.keptA bk a3
 have hb := c9.keptA bk ae
 have hd := da.keptA bk g4
 refine ⟨fun _ => ⟨g9.reads, hb.reads, hd.reads⟩, ?_⟩
 refine dO (i := 4) (xK (i := 4) rfl rfl rfl (yF rfl _) (o_stp (cs' := [b]) (us := [b]) (v := .agg #[b]) sz26 rfl rfl rfl (yG g.one) g8.pins n1 (cE rfl) rfl (fun vy n3 n4 bl vz => ?_)))
 have he := g8.write n4 bl ((zW b5))
 have n5 := n0.keptA bl a1.symm
 have n6 := ny.keptA bl z.symm
 have n7 := n2.keptA bl ab
 have n8 := g9.keptA bl a4
 have n9 := hb.keptA bl af
 have oa := hd.keptA bl g5
 refine ⟨fun _ => ⟨n8.reads, n9.reads, oa.reads⟩, ?_⟩
 refine dO (i := 5) (xK (i := 5) rfl rfl rfl (yF rfl _) (o_stp (cs' := [ah]) (us := [ah]) (v := .agg #[ah]) sz29 rfl rfl rfl (yG c7.one) he.pins n7 (cE rfl) rfl (fun v0 ob oc db v1 => ?_)))
 have od := he.write oc db ((zW b6))
 have oe := n5.keptA db a2.symm
 have og := n6.keptA db aa.symm
 have oh := n3.keptA db ab.symm
 refine ⟨fun h => absurd rfl h, ?_⟩
 exact yH (by kernel_rfl) (zA (cO (zT (kU (cs := [b]) (ds := [b]) (es := [ah]) rfl rfl rfl rfl rfl rfl rfl ag26 sz26 rfl ag29 sz29 (fun j u hj => by rw [cR]; exact og.cell hj) (fun j u hj => by rw [cR]; exact oh.cell hj) (fun j u hj => by rw [cR]; exact ob.cell hj) (⟨_, _, _, _, _, _, _, _, _, rfl, (g.mono (cB (cB (cB f.le k.le) q.le) ao.le)), (g.mono (cB (cB (cB f.le k.le) q.le) ao.le)), c7, oe, (by omega), (by omega), od⟩)))))
 refine zC (qD rfl (zU (cs := [d]) ag26 sz26 rfl (fun j u hj => cz.cell (by simpa using hj))) (qD rfl (zU (cs := [b]) ag26 sz26 rfl (fun j u hj => cy.cell (by simpa using hj))) (q0 rfl rfl rfl (o_stp (cs' := [d]) (us := [d]) (v := .agg #[d]) sz26 rfl rfl rfl (yG m.one) cx.pins cy (cE rfl) rfl (fun v2 oi oj cd v3 => ?_)))))
 have hf := cx.write oj cd ((zW fp))
 have ol := f3.keptA cd fn.symm
 have om := f4.keptA cd a3.symm
 have oo := f5.keptA cd a4.symm
 have op := f6.keptA cd fo.symm
 have oq := cz.keptA cd bc
 refine q0 rfl rfl rfl (o_stp (cs' := [b]) (us := [b]) (v := .agg #[b]) sz26 rfl rfl rfl (yG g.one) hf.pins oq (cE rfl) rfl (fun v4 hg os ce v5 => ?_))
 have hh := hf.write os ce ((zW cq))
 have ot := ol.keptA ce co.symm
 have ou := om.keptA ce ae.symm
 have ov := oo.keptA ce af.symm
 have ow := op.keptA ce cp.symm
 have hk := oi.keptA ce bc.symm
 refine qe (zA (w9b ?_))
 refine qD rfl (zU (cs := [d]) ag26 sz26 rfl (fun j u hj => hk.cell (by simpa using hj))) (qD rfl (zU (cs := [b]) ag26 sz26 rfl (fun j u hj => hg.cell (by simpa using hj))) (qI rfl (zP (vs := [.agg #[d], .agg #[b]]) Tryz.func30 nm30 rfl rfl rfl ?_)))
 refine cD (jU hh.pins (m.mono (cB (cB p f.le) k.le)) (g.mono (cB f.le k.le)) ⟨ad.1.wf.ok, ad.1.lo⟩ ⟨ac.1.wf.ok, ac.1.lo⟩ (by omega)) ?_
 rintro _ v6 ⟨v7, rfl, x⟩
 refine rt9 ?_
 have dc := hh.tr x
 have hl := ot.ext x
 have hn := ou.ext x
 have ho := ov.ext x
 have hp := ow.ext x
 have dd := hk.ext x
 have eg := hg.ext x
 refine qD rfl (xN rfl) (qe (zA ?_))
 refine qO rfl rfl (fun ox => ?_) (fun ox => ?_)
 refine cN (w9a ?_)
 refine qD rfl (zU (cs := [d]) ag26 sz26 rfl (fun j u hj => dd.cell (by simpa using hj))) (qD rfl (zU (cs := [b]) ag26 sz26 rfl (fun j u hj => eg.cell (by simpa using hj))) (qI rfl (zP (vs := [.agg #[d], .agg #[b]]) Tryz.func12 nm12 rfl rfl rfl ?_)))
 refine cD (xW dc.pins (m.mono (cB (cB (cB p f.le) k.le) x.le)) (g.mono (cB (cB f.le k.le) x.le))) ?_
 rintro _ v8 ⟨ai, v9, rfl, de, aq⟩
 refine rt9 ?_
 have eh := dc.tr aq
 have hq := hl.ext aq
 have hr := hn.ext aq
 have ht := ho.ext aq
 have hu := hp.ext aq
 have hv := dd.ext aq
 have hw := eg.ext aq
 have wa := de.max
 refine qM (.tuple #[.agg #[ai], .bool (prfB (formG o) (formG l))]) ?_
 refine qD rfl (yR (v := .agg #[ai]) rfl rfl) (qD rfl (yR (v := .bool (prfB (formG o) (formG l))) rfl rfl) (qI rfl (yK [vN] zr29 rfl eh.pins (fun hx wb cf oy oz bm => ?_))))
 have hy := eh.step oz bm
 have o0 := hq.below bm
 have o1 := hr.below bm
 have o2 := ht.below bm
 have o3 := hu.below bm
 have o4 := hv.below bm
 have o5 := hw.below bm
 have o6 := zD (cgA some cf) hq.lt
 have hz := zD (cgA some cf) hr.lt
 have h0 := zD (cgA some cf) ht.lt
 have o7 := zD (cgA some cf) hu.lt
 have o8 := zD (cgA some cf) hv.lt
 have o9 := zD (cgA some cf) hw.lt
 have pa : w.heap.size ≤ hx := by have := eh.size; omega
 refine q0 rfl rfl rfl (o_stp (cs' := [ai]) (us := [ai]) (v := .agg #[ai]) sz29 rfl rfl rfl (yG de.one) hy.pins oy (cE rfl) rfl (fun ei pb pc bn wc => ?_))
 have h1 := hy.write pc bn ((zW pa))
 have pd := o0.keptA bn o6.symm
 have pe := o1.keptA bn hz.symm
 have pf := o2.keptA bn h0.symm
 have pg := o3.keptA bn o7.symm
 have ph := o4.keptA bn o8.symm
 have pi := o5.keptA bn o9.symm
 refine qM (.bool (prfB (formG o) (formG l))) ?_
 refine qe (zA (zB ?_))
 refine yT (S := fun wz => BxR wz a8 [d] ∧ BxR wz ba [b] ∧ BxR wz hx [ai]) (last := 5) (by kernel_rfl) rfl ?_
 have ar := bdr ei
 have pj := h1.pins.below ar
 have h2 := h1.step pj ar
 have pk := pd.below ar
 have pl := pe.below ar
 have pm := pf.below ar
 have pn := pg.below ar
 have df := ph.below ar
 have dg := pi.below ar
 have dh := pb.below ar
 refine dT (i := 0) rfl rfl (by kernel_rfl) (fun _ hS => zU (cs := [d]) ag26 sz26 rfl (fun j u hj => hS.1 _ _ (by simpa using hj))) ⟨df.reads, dg.reads, dh.reads⟩ ?_
 refine dT (i := 1) rfl rfl (by kernel_rfl) (fun _ hS => zU (cs := [b]) ag26 sz26 rfl (fun j u hj => hS.2.1 _ _ (by simpa using hj))) ⟨df.reads, dg.reads, dh.reads⟩ ?_
 refine dT (i := 2) rfl rfl (by kernel_rfl) (fun _ hS => zU (cs := [ai]) ag29 sz29 rfl (fun j u hj => hS.2.2 _ _ (by simpa using hj))) ⟨df.reads, dg.reads, dh.reads⟩ ?_
 refine dO (i := 3) (xK (i := 3) rfl rfl rfl (yF rfl _) (o_stp (cs' := [d]) (us := [d]) (v := .agg #[d]) sz26 rfl rfl rfl (yG m.one) h2.pins pl (cE rfl) rfl (fun wd po pp bo we => ?_)))
 have h3 := h2.write pp bo ((zW b4))
 have pq := pk.keptA bo a0.symm
 have pr := pm.keptA bo z
 have pt := pn.keptA bo aa
 have h4 := df.keptA bo a3
 have h5 := dg.keptA bo ae
 have h6 := dh.keptA bo hz
 refine ⟨fun _ => ⟨h4.reads, h5.reads, h6.reads⟩, ?_⟩
 refine dO (i := 4) (xK (i := 4) rfl rfl rfl (yF rfl _) (o_stp (cs' := [b]) (us := [b]) (v := .agg #[b]) sz26 rfl rfl rfl (yG g.one) h3.pins pr (cE rfl) rfl (fun wg pu pv bp wh => ?_)))
 have h7 := h3.write pv bp ((zW b5))
 have pw := pq.keptA bp a1.symm
 have px := po.keptA bp z.symm
 have py := pt.keptA bp ab
 have pz := h4.keptA bp a4
 have p0 := h5.keptA bp af
 have p1 := h6.keptA bp h0
 refine ⟨fun _ => ⟨pz.reads, p0.reads, p1.reads⟩, ?_⟩
 refine dO (i := 5) (xK (i := 5) rfl rfl rfl (yF rfl _) (o_stp (cs' := [ai]) (us := [ai]) (v := .agg #[ai]) sz29 rfl rfl rfl (yG de.one) h7.pins py (cE rfl) rfl (fun wi p2 p3 di wj => ?_)))
 have p4 := h7.write p3 di ((zW b6))
 have p5 := pw.keptA di a2.symm
 have p6 := px.keptA di aa.symm
 have p7 := pu.keptA di ab.symm
 refine ⟨fun h => absurd rfl h, ?_⟩
 exact yH (by kernel_rfl) (zA (cO (zT (kU (cs := [d]) (ds := [b]) (es := [ai]) rfl rfl rfl rfl rfl rfl rfl ag26 sz26 rfl ag29 sz29 (fun j u hj => by rw [cR]; exact p6.cell hj) (fun j u hj => by rw [cR]; exact p7.cell hj) (fun j u hj => by rw [cR]; exact p2.cell hj) (⟨_, _, _, _, _, _, _, _, _, rfl, (m.mono (cB (cB (cB (cB p f.le) k.le) x.le) aq.le)), (g.mono (cB (cB (cB f.le k.le) x.le) aq.le)), de, p5, (by omega), (by omega), p4⟩)))))
 refine zC (qD rfl (zU (cs := [d]) ag26 sz26 rfl (fun j u hj => dd.cell (by simpa using hj))) (q0 rfl rfl rfl (o_stp (cs' := [d]) (us := [d]) (v := .agg #[d]) sz26 rfl rfl rfl (yG m.one) dc.pins eg (cE rfl) rfl (fun wk h8 p8 cg wl => ?_))))
 have h9 := dc.write p8 cg ((zW cq))
 have p9 := hl.keptA cg co.symm
 have qa := hn.keptA cg ae.symm
 have qc := ho.keptA cg af.symm
 have qf := hp.keptA cg cp.symm
 have ia := dd.keptA cg bc.symm
 refine qe (w9a ?_)
 refine qD rfl (zU (cs := [d]) ag26 sz26 rfl (fun j u hj => ia.cell (by simpa using hj))) (qD rfl (zU (cs := [d]) ag26 sz26 rfl (fun j u hj => h8.cell (by simpa using hj))) (qI rfl (zP (vs := [.agg #[d], .agg #[d]]) Tryz.func12 nm12 rfl rfl rfl ?_)))
 refine cD (xW h9.pins (m.mono (cB (cB (cB p f.le) k.le) x.le)) (m.mono (cB (cB (cB p f.le) k.le) x.le))) ?_
 rintro _ wm ⟨aj, wn, rfl, dj, au⟩
 refine rt9 ?_
 have ej := h9.tr au
 have ib := p9.ext au
 have ic := qa.ext au
 have ie := qc.ext au
 have ig := qf.ext au
 have ih := ia.ext au
 have ii := h8.ext au
 have wo := dj.max
 refine qM (.tuple #[.agg #[aj], .bool (prfB (formG o) (formG o))]) ?_
 refine qD rfl (yR (v := .agg #[aj]) rfl rfl) (qD rfl (yR (v := .bool (prfB (formG o) (formG o))) rfl rfl) (qI rfl (yK [vN] zr29 rfl ej.pins (fun ij wp ch qg qh bq => ?_))))
 have ik := ej.step qh bq
 have qi := ib.below bq
 have qj := ic.below bq
 have qk := ie.below bq
 have ql := ig.below bq
 have qm := ih.below bq
 have qn := ii.below bq
 have qo := zD (cgA some ch) ib.lt
 have il := zD (cgA some ch) ic.lt
 have im := zD (cgA some ch) ie.lt
 have qp := zD (cgA some ch) ig.lt
 have qq := zD (cgA some ch) ih.lt
 have qr := zD (cgA some ch) ii.lt
 have qs : w.heap.size ≤ ij := by have := ej.size; omega
 refine q0 rfl rfl rfl (o_stp (cs' := [aj]) (us := [aj]) (v := .agg #[aj]) sz29 rfl rfl rfl (yG dj.one) ik.pins qg (cE rfl) rfl (fun ek qt qu br wq => ?_))
 have io := ik.write qu br ((zW qs))
 have qv := qi.keptA br qo.symm
 have qw := qj.keptA br il.symm
 have qx := qk.keptA br im.symm
 have qy := ql.keptA br qp.symm
 have qz := qm.keptA br qq.symm
 have q2 := qn.keptA br qr.symm
 refine qM (.bool (prfB (formG o) (formG o))) ?_
 refine qe (zA (zB ?_))
 refine yT (S := fun wz => BxR wz a8 [d] ∧ BxR wz ba [d] ∧ BxR wz ij [aj]) (last := 5) (by kernel_rfl) rfl ?_
 have av := bdr ek
 have q3 := io.pins.below av
 have ip := io.step q3 av
 have q4 := qv.below av
 have q5 := qw.below av
 have q6 := qx.below av
 have q7 := qy.below av
 have dk := qz.below av
 have dl := q2.below av
 have dm := qt.below av
 refine dT (i := 0) rfl rfl (by kernel_rfl) (fun _ hS => zU (cs := [d]) ag26 sz26 rfl (fun j u hj => hS.1 _ _ (by simpa using hj))) ⟨dk.reads, dl.reads, dm.reads⟩ ?_
 refine dT (i := 1) rfl rfl (by kernel_rfl) (fun _ hS => zU (cs := [d]) ag26 sz26 rfl (fun j u hj => hS.2.1 _ _ (by simpa using hj))) ⟨dk.reads, dl.reads, dm.reads⟩ ?_
 refine dT (i := 2) rfl rfl (by kernel_rfl) (fun _ hS => zU (cs := [aj]) ag29 sz29 rfl (fun j u hj => hS.2.2 _ _ (by simpa using hj))) ⟨dk.reads, dl.reads, dm.reads⟩ ?_
 refine dO (i := 3) (xK (i := 3) rfl rfl rfl (yF rfl _) (o_stp (cs' := [d]) (us := [d]) (v := .agg #[d]) sz26 rfl rfl rfl (yG m.one) ip.pins q5 (cE rfl) rfl (fun wr q8 q9 bs ws => ?_)))
 have iq := ip.write q9 bs ((zW b4))
 have ra := q4.keptA bs a0.symm
 have rb := q6.keptA bs z
 have rc := q7.keptA bs aa
 have ir := dk.keptA bs a3
 have it := dl.keptA bs ae
 have iu := dm.keptA bs il
 refine ⟨fun _ => ⟨ir.reads, it.reads, iu.reads⟩, ?_⟩
 refine dO (i := 4) (xK (i := 4) rfl rfl rfl (yF rfl _) (o_stp (cs' := [d]) (us := [d]) (v := .agg #[d]) sz26 rfl rfl rfl (yG m.one) iq.pins rb (cE rfl) rfl (fun wt rd re bt wu => ?_)))
 have iv := iq.write re bt ((zW b5))
 have rf := ra.keptA bt a1.symm
 have rg := q8.keptA bt z.symm
 have rh := rc.keptA bt ab
 have ri := ir.keptA bt a4
 have rj := it.keptA bt af
 have rk := iu.keptA bt im
 refine ⟨fun _ => ⟨ri.reads, rj.reads, rk.reads⟩, ?_⟩
 refine dO (i := 5) (xK (i := 5) rfl rfl rfl (yF rfl _) (o_stp (cs' := [aj]) (us := [aj]) (v := .agg #[aj]) sz29 rfl rfl rfl (yG dj.one) iv.pins rh (cE rfl) rfl (fun wv rl rm dn ww => ?_)))
 have rn := iv.write rm dn ((zW b6))
 have ro := rf.keptA dn a2.symm
 have rp := rg.keptA dn aa.symm
 have rq := rd.keptA dn ab.symm
 refine ⟨fun h => absurd rfl h, ?_⟩
 exact yH (by kernel_rfl) (zA (cO (zT (kU (cs := [d]) (ds := [d]) (es := [aj]) rfl rfl rfl rfl rfl rfl rfl ag26 sz26 rfl ag29 sz29 (fun j u hj => by rw [cR]; exact rp.cell hj) (fun j u hj => by rw [cR]; exact rq.cell hj) (fun j u hj => by rw [cR]; exact rl.cell hj) (⟨_, _, _, _, _, _, _, _, _, rfl, (m.mono (cB (cB (cB (cB p f.le) k.le) x.le) au.le)), (m.mono (cB (cB (cB (cB p f.le) k.le) x.le) au.le)), dj, ro, (by omega), (by omega), rn⟩)))))
 refine qW ?_
 refine qW ?_
 refine qW ?_
 refine qW ?_
 refine qD rfl (yM (v := .bool false) rfl rfl) (qe (zA ?_))
 refine jE rfl rfl (cN (zA (w9b ?_)))
 refine qD rfl (zU (cs := [b]) ag26 sz26 rfl (fun j u hj => cu.cell (by simpa using hj))) (qD rfl (zU (cs := [d]) ag26 sz26 rfl (fun j u hj => cw.cell (by simpa using hj))) (qI rfl (zP (vs := [.agg #[b], .agg #[d]]) Tryz.func30 nm30 rfl rfl rfl ?_)))
 refine cD (jU ct.pins (g.mono f.le) (m.mono (cB p f.le)) ⟨ac.1.wf.ok, ac.1.lo⟩ ⟨ad.1.wf.ok, ad.1.lo⟩ (by omega)) ?_
 rintro _ wx ⟨wy, rfl, y⟩
 refine rt9 ?_
 have dp := ct.tr y
 have iw := fz.ext y
 have ix := f0.ext y
 have iy := f1.ext y
 have iz := f2.ext y
 have dq := cu.ext y
 have el := cw.ext y
 refine qD rfl (xN rfl) (qe (zA ?_))
 refine qO rfl rfl (fun rr => ?_) (fun rr => ?_)
 refine cN (w9a ?_)
 refine qD rfl (zU (cs := [b]) ag26 sz26 rfl (fun j u hj => dq.cell (by simpa using hj))) (qD rfl (zU (cs := [d]) ag26 sz26 rfl (fun j u hj => el.cell (by simpa using hj))) (qI rfl (zP (vs := [.agg #[b], .agg #[d]]) Tryz.func12 nm12 rfl rfl rfl ?_)))
 refine cD (xW dp.pins (g.mono (cB f.le y.le)) (m.mono (cB (cB p f.le) y.le))) ?_
 rintro _ w0 ⟨ak, w1, rfl, dr, aw⟩
 refine rt9 ?_
 have em := dp.tr aw
 have i0 := iw.ext aw
 have i1 := ix.ext aw
 have i2 := iy.ext aw
 have i3 := iz.ext aw
 have i4 := dq.ext aw
 have i5 := el.ext aw
 have w3 := dr.max
 refine qM (.tuple #[.agg #[ak], .bool (prfB (formG l) (formG o))]) ?_
 refine qD rfl (yR (v := .agg #[ak]) rfl rfl) (qD rfl (yR (v := .bool (prfB (formG l) (formG o))) rfl rfl) (qI rfl (yK [vN] zr29 rfl em.pins (fun i6 w4 ci rs rt bu => ?_))))
 have i7 := em.step rt bu
 have ru := i0.below bu
 have rv := i1.below bu
 have rx := i2.below bu
 have ry := i3.below bu
 have rz := i4.below bu
 have r0 := i5.below bu
 have r1 := zD (cgA some ci) i0.lt
 have i8 := zD (cgA some ci) i1.lt
 have i9 := zD (cgA some ci) i2.lt
 have r2 := zD (cgA some ci) i3.lt
 have r3 := zD (cgA some ci) i4.lt
 have r4 := zD (cgA some ci) i5.lt
 have r5 : w.heap.size ≤ i6 := by have := em.size; omega
 refine q0 rfl rfl rfl (o_stp (cs' := [ak]) (us := [ak]) (v := .agg #[ak]) sz29 rfl rfl rfl (yG dr.one) i7.pins rs (cE rfl) rfl (fun en r6 r7 bv w5 => ?_))
 have ja := i7.write r7 bv ((zW r5))
 have r8 := ru.keptA bv r1.symm
 have r9 := rv.keptA bv i8.symm
 have sa := rx.keptA bv i9.symm
 have sb := ry.keptA bv r2.symm
 have sc := rz.keptA bv r3.symm
 have sd := r0.keptA bv r4.symm
 refine qM (.bool (prfB (formG l) (formG o))) ?_
 refine qe (zA (zB ?_))
 refine yT (S := fun wz => BxR wz a8 [b] ∧ BxR wz ba [d] ∧ BxR wz i6 [ak]) (last := 5) (by kernel_rfl) rfl ?_
 have ax := bdr en
 have se := ja.pins.below ax
 have jb := ja.step se ax
 have sf := r8.below ax
 have sg := r9.below ax
 have sh := sa.below ax
 have si := sb.below ax
 have dt := sc.below ax
 have du := sd.below ax
 have dv := r6.below ax
 refine dT (i := 0) rfl rfl (by kernel_rfl) (fun _ hS => zU (cs := [b]) ag26 sz26 rfl (fun j u hj => hS.1 _ _ (by simpa using hj))) ⟨dt.reads, du.reads, dv.reads⟩ ?_
 refine dT (i := 1) rfl rfl (by kernel_rfl) (fun _ hS => zU (cs := [d]) ag26 sz26 rfl (fun j u hj => hS.2.1 _ _ (by simpa using hj))) ⟨dt.reads, du.reads, dv.reads⟩ ?_
 refine dT (i := 2) rfl rfl (by kernel_rfl) (fun _ hS => zU (cs := [ak]) ag29 sz29 rfl (fun j u hj => hS.2.2 _ _ (by simpa using hj))) ⟨dt.reads, du.reads, dv.reads⟩ ?_
 refine dO (i := 3) (xK (i := 3) rfl rfl rfl (yF rfl _) (o_stp (cs' := [b]) (us := [b]) (v := .agg #[b]) sz26 rfl rfl rfl (yG g.one) jb.pins sg (cE rfl) rfl (fun w6 sj sk bw w7 => ?_)))
 have jc := jb.write sk bw ((zW b4))
 have sl := sf.keptA bw a0.symm
 have sm := sh.keptA bw z
 have sn := si.keptA bw aa
 have jd := dt.keptA bw a3
 have je := du.keptA bw ae
 have jf := dv.keptA bw i8
 refine ⟨fun _ => ⟨jd.reads, je.reads, jf.reads⟩, ?_⟩
 refine dO (i := 4) (xK (i := 4) rfl rfl rfl (yF rfl _) (o_stp (cs' := [d]) (us := [d]) (v := .agg #[d]) sz26 rfl rfl rfl (yG m.one) jc.pins sm (cE rfl) rfl (fun w8 sp sq bx w9 => ?_)))
 have jg := jc.write sq bx ((zW b5))
 have sr := sl.keptA bx a1.symm
 have ss := sj.keptA bx z.symm
 have st := sn.keptA bx ab
 have su := jd.keptA bx a4
 have sv := je.keptA bx af
 have sw := jf.keptA bx i9
 refine ⟨fun _ => ⟨su.reads, sv.reads, sw.reads⟩, ?_⟩
 refine dO (i := 5) (xK (i := 5) rfl rfl rfl (yF rfl _) (o_stp (cs' := [ak]) (us := [ak]) (v := .agg #[ak]) sz29 rfl rfl rfl (yG dr.one) jg.pins st (cE rfl) rfl (fun xa sx sy dw xb => ?_)))
 have sz := jg.write sy dw ((zW b6))
 have s0 := sr.keptA dw a2.symm
 have s1 := ss.keptA dw aa.symm
 have s2 := sp.keptA dw ab.symm
 refine ⟨fun h => absurd rfl h, ?_⟩
 exact yH (by kernel_rfl) (zA (cO (zT (kU (cs := [b]) (ds := [d]) (es := [ak]) rfl rfl rfl rfl rfl rfl rfl ag26 sz26 rfl ag29 sz29 (fun j u hj => by rw [cR]; exact s1.cell hj) (fun j u hj => by rw [cR]; exact s2.cell hj) (fun j u hj => by rw [cR]; exact sx.cell hj) (⟨_, _, _, _, _, _, _, _, _, rfl, (g.mono (cB (cB f.le y.le) aw.le)), (m.mono (cB (cB (cB p f.le) y.le) aw.le)), dr, s0, (by omega), (by omega), sz⟩)))))
 refine zC (qD rfl (zU (cs := [b]) ag26 sz26 rfl (fun j u hj => dq.cell (by simpa using hj))) (q0 rfl rfl rfl (o_stp (cs' := [b]) (us := [b]) (v := .agg #[b]) sz26 rfl rfl rfl (yG g.one) dp.pins el (cE rfl) rfl (fun xc jh s3 cj xd => ?_))))
 have ji := dp.write s3 cj ((zW cq))
 have s4 := iw.keptA cj co.symm
 have s5 := ix.keptA cj ae.symm
 have s6 := iy.keptA cj af.symm
 have s7 := iz.keptA cj cp.symm
 have jj := dq.keptA cj bc.symm
 refine qe (w9a ?_)
 refine qD rfl (zU (cs := [b]) ag26 sz26 rfl (fun j u hj => jj.cell (by simpa using hj))) (qD rfl (zU (cs := [b]) ag26 sz26 rfl (fun j u hj => jh.cell (by simpa using hj))) (qI rfl (zP (vs := [.agg #[b], .agg #[b]]) Tryz.func12 nm12 rfl rfl rfl ?_)))
 refine cD (xW ji.pins (g.mono (cB f.le y.le)) (g.mono (cB f.le y.le))) ?_
 rintro _ xe ⟨al, xf, rfl, dx, ay⟩
 refine rt9 ?_
 have eo := ji.tr ay
 have jk := s4.ext ay
 have jl := s5.ext ay
 have jm := s6.ext ay
 have jn := s7.ext ay
 have jo := jj.ext ay
 have jp := jh.ext ay
 have xg := dx.max
 refine qM (.tuple #[.agg #[al], .bool (prfB (formG l) (formG l))]) ?_
 refine qD rfl (yR (v := .agg #[al]) rfl rfl) (qD rfl (yR (v := .bool (prfB (formG l) (formG l))) rfl rfl) (qI rfl (yK [vN] zr29 rfl eo.pins (fun jq xh ck s8 s9 bz => ?_))))
 have jr := eo.step s9 bz
 have ta := jk.below bz
 have tb := jl.below bz
 have tc := jm.below bz
 have td := jn.below bz
 have te := jo.below bz
 have tf := jp.below bz
 have tg := zD (cgA some ck) jk.lt
 have js := zD (cgA some ck) jl.lt
 have jt := zD (cgA some ck) jm.lt
 have th := zD (cgA some ck) jn.lt
 have ti := zD (cgA some ck) jo.lt
 have tj := zD (cgA some ck) jp.lt
 have tk : w.heap.size ≤ jq := by have := eo.size; omega
 refine q0 rfl rfl rfl (o_stp (cs' := [al]) (us := [al]) (v := .agg #[al]) sz29 rfl rfl rfl (yG dx.one) jr.pins s8 (cE rfl) rfl (fun ep tl tm b0 xi => ?_))
 have ju := jr.write tm b0 ((zW tk))
 have tn := ta.keptA b0 tg.symm
 have tp := tb.keptA b0 js.symm
 have tq := tc.keptA b0 jt.symm
 have ts := td.keptA b0 th.symm
 have tt := te.keptA b0 ti.symm
 have tu := tf.keptA b0 tj.symm
 refine qM (.bool (prfB (formG l) (formG l))) ?_
 refine qe (zA (zB ?_))
 refine yT (S := fun wz => BxR wz a8 [b] ∧ BxR wz ba [b] ∧ BxR wz jq [al]) (last := 5) (by kernel_rfl) rfl ?_
 have az := bdr ep
 have tv := ju.pins.below az
 have jv := ju.step tv az
 have tw := tn.below az
 have tx := tp.below az
 have ty := tq.below az
 have tz := ts.below az
 have dy := tt.below az
 have dz := tu.below az
 have d0 := tl.below az
 refine dT (i := 0) rfl rfl (by kernel_rfl) (fun _ hS => zU (cs := [b]) ag26 sz26 rfl (fun j u hj => hS.1 _ _ (by simpa using hj))) ⟨dy.reads, dz.reads, d0.reads⟩ ?_
 refine dT (i := 1) rfl rfl (by kernel_rfl) (fun _ hS => zU (cs := [b]) ag26 sz26 rfl (fun j u hj => hS.2.1 _ _ (by simpa using hj))) ⟨dy.reads, dz.reads, d0.reads⟩ ?_
 refine dT (i := 2) rfl rfl (by kernel_rfl) (fun _ hS => zU (cs := [al]) ag29 sz29 rfl (fun j u hj => hS.2.2 _ _ (by simpa using hj))) ⟨dy.reads, dz.reads, d0.reads⟩ ?_
 refine dO (i := 3) (xK (i := 3) rfl rfl rfl (yF rfl _) (o_stp (cs' := [b]) (us := [b]) (v := .agg #[b]) sz26 rfl rfl rfl (yG g.one) jv.pins tx (cE rfl) rfl (fun xj t0 t1 b2 xk => ?_)))
 have jw := jv.write t1 b2 ((zW b4))
 have t2 := tw.keptA b2 a0.symm
 have t3 := ty.keptA b2 z
 have t4 := tz.keptA b2 aa
 have jx := dy.keptA b2 a3
 have jy := dz.keptA b2 ae
 have jz := d0.keptA b2 js
 refine ⟨fun _ => ⟨jx.reads, jy.reads, jz.reads⟩, ?_⟩
 refine dO (i := 4) (xK (i := 4) rfl rfl rfl (yF rfl _) (o_stp (cs' := [b]) (us := [b]) (v := .agg #[b]) sz26 rfl rfl rfl (yG g.one) jw.pins t3 (cE rfl) rfl (fun xl t5 t6 b3 xm => ?_)))
 have j0 := jw.write t6 b3 ((zW b5))
 have t7 := t2.keptA b3 a1.symm
 have t8 := t0.keptA b3 z.symm
 have t9 := t4.keptA b3 ab
 have ua := jx.keptA b3 a4
 have ub := jy.keptA b3 af
 have uc := jz.keptA b3 jt
 refine ⟨fun _ => ⟨ua.reads, ub.reads, uc.reads⟩, ?_⟩
 refine dO (i := 5) (xK (i := 5) rfl rfl rfl (yF rfl _) (o_stp (cs' := [al]) (us := [al]) (v := .agg #[al]) sz29 rfl rfl rfl (yG dx.one) j0.pins t9 (cE rfl) rfl (fun xn ud ue d1 xo => ?_)))
 have uf := j0.write ue d1 ((zW b6))
 have ug := t7.keptA d1 a2.symm
 have uh := t8.keptA d1 aa.symm
 have ui := t5.keptA d1 ab.symm
 refine ⟨fun h => absurd rfl h, ?_⟩
 exact yH (by kernel_rfl) (zA (cO (zT (kU (cs := [b]) (ds := [b]) (es := [al]) rfl rfl rfl rfl rfl rfl rfl ag26 sz26 rfl ag29 sz29 (fun j u hj => by rw [cR]; exact uh.cell hj) (fun j u hj => by rw [cR]; exact ui.cell hj) (fun j u hj => by rw [cR]; exact ud.cell hj) (⟨_, _, _, _, _, _, _, _, _, rfl, (g.mono (cB (cB f.le y.le) ay.le)), (g.mono (cB (cB f.le y.le) ay.le)), dx, ug, (by omega), (by omega), uf⟩)))))
theorem rX {w : World} {v : Value} (hP : Pins G w) (hc : RSl eByte G v code) :
  Calls Tryz.prog 10 #[v] w fun e w' => ∃ (u0 : Value) (cn : List Nd) (u1 : Value) (co : List Nd) (G' : Pin), e = .returned (.tuple #[.agg #[u0], .agg #[u1]]) ∧ RSl eNode G' u0 cn ∧ RSl eNode G' u1 co ∧ Ext noS G w G' w' := by
 refine yC (n := 27) Tryz.func10 Tryz.ntmps10 rfl rfl ?_
 have aj := exr noS hP
 have hm := hc.max
 refine w9d ?_
 refine qI rfl (yK [vN] zr26 rfl aj.pins (fun b1 w2 e3 a7 cq cr => ?_))
 have ak := aj.step cq cr
 have a8 : w.heap.size ≤ b1 := by have := aj.size; omega
 refine qI rfl (yK [vN] zr26 rfl ak.pins (fun b9 e4 cu a9 cv ba => ?_))
 have al := ak.step cv ba
 have bb := a7.below ba
 have r := zD (cgA some cu) a7.lt
 have bc : w.heap.size ≤ b9 := by have := ak.size; omega
 refine qe (w9a ?_)
 refine qM v ?_
 refine qD rfl (xH [vN, vJ 0, .int .u64 0] [v, vJ 0, .int .u64 0] [(0, v, [v])] dN zr46 rfl pl46 rfl (cM.2 ⟨(yX hc.one), (fun _ h => by cases h)⟩) rfl) (qI rfl (xL [v, vJ 0, .int .u64 0] (v := .agg #[v, vJ 0, .int .u64 0]) rfl rfl al.pins (fun c e5 bd cw cx am => ?_)))
 have be := al.step cx am
 have cy := bb.below am
 have cz := a9.below am
 have s := zD (cgA some bd) bb.lt
 have t := zD (cgA some bd) a9.lt
 have x : w.heap.size ≤ c := by have := al.size; omega
 refine qM (vP c) ?_
 refine qe (zA (w9b ?_))
 refine qM (vP c) ?_
 refine qI rfl (zP (vs := [vP c, vJ 3]) Tryz.func16 nm16 rfl rfl rfl ?_)
 refine cD (one_spec be.pins cw hc (by omega) (by omega) (n := 3) (by omega)) ?_
 rintro _ e6 ⟨e7, e8, e9, rfl, bf, fa, fb, an⟩
 refine rt9 ?_
 have y := be.trans an (fun i hi => (zW x) i hi)
 have bg := cy.extS an (xP s.symm)
 have bh := cz.extS an (xP t.symm)
 refine qe (zA ?_)
 refine c_if rfl rfl (fun c0 => ?_) (fun c0 => ?_)
 refine w9d ?_
 refine qM (vP c) ?_
 refine qI rfl (zP (vs := [vP c, vJ 2]) Tryz.func17 nm17 rfl rfl rfl ?_)
 refine cD (tI (n := 2) y.pins bf hc (by omega) (by omega) (by omega)) ?_
 rintro _ fc ⟨d, fd, fe, ff, fg, rfl, z, bi, fh, fi, aa⟩
 refine rt9 ?_
 have ao := y.trans aa (fun i hi => (zW x) i hi)
 have bj := bg.extS aa (xP s.symm)
 have bk := bh.extS aa (xP t.symm)
 have fj := z.max
 refine qI rfl (yK [vN] zr26 rfl ao.pins (fun bl fk ap c1 c2 ab => ?_))
 have bm := ao.step c2 ab
 have c3 := bj.below ab
 have c4 := bk.below ab
 have c5 := bi.below ab
 have bn := zD (cgA some ap) bj.lt
 have c6 := zD (cgA some ap) bk.lt
 have bo := zD (cgA some ap) bi.lt
 have c7 : w.heap.size ≤ bl := by have := ao.size; omega
 refine q0 rfl rfl rfl (o_stp (cs' := [d]) (us := [d]) (v := .agg #[d]) sz26 rfl rfl rfl (yG z.one) bm.pins c1 (cE rfl) rfl (fun aq c8 c9 ac fl => ?_))
 have bp := bm.write c9 ac ((zW c7))
 have da := c3.keptA ac bn.symm
 have db := c4.keptA ac c6.symm
 have dc := c5.keptA ac bo.symm
 refine qe (zA (zB ?_))
 refine yT (S := fun wz => BxR wz bl [d]) (last := 4) (by kernel_rfl) rfl ?_
 have f := bdr aq
 have dd := bp.pins.below f
 have bq := bp.step dd f
 have de := da.below f
 have df := db.below f
 have dg := dc.below f
 have ar := c8.below f
 refine dT (i := 0) rfl rfl (by kernel_rfl) (fun _ hS => zU (cs := [d]) ag26 sz26 rfl (fun j u hj => hS _ _ (by simpa using hj))) ar.reads ?_
 refine dM 1 (vP c) ar.reads ?_
 refine dP (i := 2) rfl rfl (zP (vs := [vP c, vJ 2]) Tryz.func17 nm17 rfl rfl rfl ?_)
 refine cD (tI (n := 2) bq.pins dg (hc.mono aa.le) (by omega) (by omega) (by omega)) ?_
 rintro _ fm ⟨ad, fn, fo, fp, fq, rfl, au, fr, fs, ft, k⟩
 refine rt9 ?_
 have br := bq.trans k (fun i hi => (zW x) i hi)
 have dh := de.extS k (xP s.symm)
 have di := df.extS k (xP t.symm)
 have bs := ar.extS k (xP bo)
 have fu := au.max
 refine ⟨fun _ => bs.reads, ?_⟩
 refine dO (i := 3) (xK (i := 3) rfl rfl rfl (yF rfl _) (o_stp (cs' := [d]) (us := [d]) (v := .agg #[d]) sz26 rfl rfl rfl (yG z.one) br.pins dh (cE rfl) rfl (fun fv dj dk av fw => ?_)))
 have bt := br.write dk av ((zW a8))
 have dl := di.keptA av r
 have dm := bs.keptA av bn
 refine ⟨fun _ => dm.reads, ?_⟩
 refine dO (i := 4) (xK (i := 4) rfl rfl rfl (yF rfl _) (o_stp (cs' := [ad]) (us := [ad]) (v := .agg #[ad]) sz26 rfl rfl rfl (yG au.one) bt.pins dl (cE rfl) rfl (fun fx dn dp bu fy => ?_)))
 have dq := bt.write dp bu ((zW bc))
 have dr := dj.keptA bu r.symm
 refine ⟨fun h => absurd rfl h, ?_⟩
 exact yH (by kernel_rfl) (zA (cO (zT (c_retcc (cs := [d]) (ds := [ad]) rfl rfl rfl rfl rfl ag26 sz26 rfl (fun j u hj => by rw [cR]; exact dr.cell hj) (fun j u hj => by rw [cR]; exact dn.cell hj) (⟨_, _, _, _, _, rfl, (z.mono k.le), au, dq⟩)))))
 refine cN (w9a ?_)
 refine qM (vP c) ?_
 refine qI rfl (zP (vs := [vP c]) Tryz.func15 nm15 rfl rfl rfl ?_)
 refine cD (proof_spec y.pins bf hc (by omega) (by omega)) ?_
 rintro _ fz ⟨a, b, l, f0, f1, f2, f3, f4, f5, rfl, ae, af, bv, f6, f7, f8, aw⟩
 refine rt9 ?_
 have ax := y.trans aw (fun i hi => (zW x) i hi)
 have bw := bg.extS aw (xP s.symm)
 have bx := bh.extS aw (xP t.symm)
 have f9 := ae.max
 have ga := af.max
 have gb := bv.max
 refine qM (.tuple #[.agg #[a], .agg #[b], .agg #[l]]) ?_
 refine qD rfl (yR (v := .agg #[a]) rfl rfl) (qD rfl (yR (v := .agg #[b]) rfl rfl) (qD rfl (yR (v := .agg #[l]) rfl rfl) (qI rfl (yK [vN] zr26 rfl ax.pins (fun bz gc b0 b2 dt ay => ?_)))))
 have az := ax.step dt ay
 have b3 := bw.below ay
 have b4 := bx.below ay
 have b5 := zD (cgA some b0) bw.lt
 have du := zD (cgA some b0) bx.lt
 have dv : w.heap.size ≤ bz := by have := ax.size; omega
 refine qI rfl (yK [vN] zr26 rfl az.pins (fun b6 gd a0 b7 dw ag => ?_))
 have a1 := az.step dw ag
 have b8 := b3.below ag
 have ca := b4.below ag
 have cb := b2.below ag
 have cc := zD (cgA some a0) b3.lt
 have dx := zD (cgA some a0) b4.lt
 have cd := zD (cgA some a0) b2.lt
 have dy : w.heap.size ≤ b6 := by have := az.size; omega
 refine qI rfl (yK [vN] zr29 rfl a1.pins (fun dz ge ah d0 d1 m => ?_))
 have ce := a1.step d1 m
 have d2 := b8.below m
 have d3 := ca.below m
 have d4 := cb.below m
 have d5 := b7.below m
 have d6 := zD (cgA some ah) b8.lt
 have d7 := zD (cgA some ah) ca.lt
 have cf := zD (cgA some ah) cb.lt
 have cg := zD (cgA some ah) b7.lt
 have d8 : w.heap.size ≤ dz := by have := a1.size; omega
 refine q0 rfl rfl rfl (o_stp (cs' := [a]) (us := [a]) (v := .agg #[a]) sz26 rfl rfl rfl (yG ae.one) ce.pins d4 (cE rfl) rfl (fun gf d9 ea o gg => ?_))
 have ch := ce.write ea o ((zW dv))
 have eb := d2.keptA o b5.symm
 have ec := d3.keptA o du.symm
 have ed := d5.keptA o cd
 have ee := d0.keptA o cf
 refine q0 rfl rfl rfl (o_stp (cs' := [b]) (us := [b]) (v := .agg #[b]) sz26 rfl rfl rfl (yG af.one) ch.pins ed (cE rfl) rfl (fun gh ef eg p gi => ?_))
 have ci := ch.write eg p ((zW dy))
 have eh := eb.keptA p cc.symm
 have ei := ec.keptA p dx.symm
 have ej := d9.keptA p cd.symm
 have ek := ee.keptA p cg
 refine q0 rfl rfl rfl (o_stp (cs' := [l]) (us := [l]) (v := .agg #[l]) sz29 rfl rfl rfl (yG bv.one) ci.pins ek (cE rfl) rfl (fun a2 gj el q gk => ?_))
 have cj := ci.write el q ((zW d8))
 have em := eh.keptA q d6.symm
 have en := ei.keptA q d7.symm
 have eo := ej.keptA q cf.symm
 have ep := ef.keptA q cg.symm
 refine qe (zA (zB ?_))
 refine yT (S := fun wz => BxR wz bz [a] ∧ BxR wz b6 [b]) (last := 3) (by kernel_rfl) rfl ?_
 have g := bdr a2
 have eq := cj.pins.below g
 have ck := cj.step eq g
 have er := em.below g
 have es := en.below g
 have a3 := eo.below g
 have a4 := ep.below g
 refine dT (i := 0) rfl rfl (by kernel_rfl) (fun _ hS => zU (cs := [a]) ag26 sz26 rfl (fun j u hj => hS.1 _ _ (by simpa using hj))) ⟨a3.reads, a4.reads⟩ ?_
 refine dT (i := 1) rfl rfl (by kernel_rfl) (fun _ hS => zU (cs := [b]) ag26 sz26 rfl (fun j u hj => hS.2 _ _ (by simpa using hj))) ⟨a3.reads, a4.reads⟩ ?_
 refine dO (i := 2) (xK (i := 2) rfl rfl rfl (yF rfl _) (o_stp (cs' := [a]) (us := [a]) (v := .agg #[a]) sz26 rfl rfl rfl (yG ae.one) ck.pins er (cE rfl) rfl (fun gl et eu ai gm => ?_)))
 have cl := ck.write eu ai ((zW a8))
 have ev := es.keptA ai r
 have ew := a3.keptA ai b5
 have ex := a4.keptA ai cc
 refine ⟨fun _ => ⟨ew.reads, ex.reads⟩, ?_⟩
 refine dO (i := 3) (xK (i := 3) rfl rfl rfl (yF rfl _) (o_stp (cs' := [b]) (us := [b]) (v := .agg #[b]) sz26 rfl rfl rfl (yG af.one) cl.pins ev (cE rfl) rfl (fun gn ey ez cm gp => ?_)))
 have e0 := cl.write ez cm ((zW bc))
 have e1 := et.keptA cm r.symm
 refine ⟨fun h => absurd rfl h, ?_⟩
 exact yH (by kernel_rfl) (zA (cO (zT (c_retcc (cs := [a]) (ds := [b]) rfl rfl rfl rfl rfl ag26 sz26 rfl (fun j u hj => by rw [cR]; exact e1.cell hj) (fun j u hj => by rw [cR]; exact ey.cell hj) (⟨_, _, _, _, _, rfl, ae, af, e0⟩)))))
end LX1
namespace LX2
open B1
theorem mk3 : (Tryz.prog.info? 3).map (fun i => (i.size, i.bytes, i.zero)) = some (1, 8, some (.int .i64 0)) := by kernel_rfl
variable {G : Pin} {u v : Value}
theorem mI {w : World} {xs ys : List Int} (hP : Pins G w) (hu : RSl eInt G u xs) (hv : RSl eInt G v ys) :
  Calls Tryz.prog 33 #[u, v] w fun e w' => e = .returned (.bool (decide (xs = ys))) ∧ Ext noS G w G w' := by
 refine yC (n := 26) Tryz.func33 Tryz.ntmps33 rfl rfl ?_
 have f := exr noS hP
 have hm := hu.max
 refine w9d ?_
 refine qM (.bool false) ?_
 refine qe (zA (w9b ?_))
 refine qM u ?_
 refine qD rfl (zN dC (v := u) rfl hu) (qM v ?_)
 refine qD rfl (zN dC (v := v) rfl hv) (qD rfl (jO rfl rfl) (qe (zA ?_)))
 refine yA (p := ((xs.length : Int) : Int) ≠ (ys.length : Int)) rfl rfl (fun g => ?_) (fun g => ?_)
 refine w9d ?_
 refine qM (.bool false) ?_
 refine qe (zA ?_)
 exact cO (zT (zS (v := .bool false) rfl rfl rfl (⟨cgA eB (decide_eq_false (fun e => g (by rw [e]))).symm, f⟩)))
 refine cN (zA (w9b ?_))
 refine qM (vJ 0) ?_
 refine qe (zA ?_)
 refine zY (yN (fun k en W => ∃ (h : Nat → Value) (j : Nat), en = (upd (upd (upd h 0 u) 1 v) 5 (vJ (j : Int))) ∧ k = xs.length - j ∧ Ext noS G w G W ∧ (j ≤ xs.length) ∧ (xs.length = ys.length) ∧ (∀ i, i < j → xs.getD i 0 = ys.getD i 0)) _ ⟨_, 0, (pS 5 (pS 1 (pU 0))), rfl, f, cI _, (by omega), (fun i hi => absurd hi (cK i))⟩ ?_)
 rintro q _ b ⟨h, j, rfl, s, c, hj, heq, hp⟩
 refine w9b ?_
 refine qM (vJ (j : Int)) ?_
 refine qM u ?_
 refine qD rfl (zN dC (v := u) rfl hu) (qD rfl (yQ rfl rfl) (qe (zA ?_)))
 refine yA (p := ((j : Int) : Int) < (xs.length : Int)) rfl rfl (fun m => ?_) (fun m => ?_)
 refine cN (zA (zB ?_))
 refine zY (zB (yT (S := fun wz => Pins G wz) (last := 9) (by kernel_rfl) rfl ?_))
 have l := bdr b
 have o := c.pins.below l
 have a := c.step o l
 refine dM 0 u a.pins ?_
 refine dM 1 (vJ (j : Int)) a.pins ?_
 refine dT (i := 2) rfl rfl (by kernel_rfl) (fun _ _ => zE dC sz3 (v := u) rfl rfl hu (by omega) (by omega)) a.pins ?_
 refine dT (i := 3) rfl rfl (by kernel_rfl) (fun _ hS => zL (r := xs.getD j 0) rfl ag3 (z := (j : Int)) rfl hu hS (by omega) (by omega)) a.pins ?_
 refine dM 4 v a.pins ?_
 refine dM 5 (vJ (j : Int)) a.pins ?_
 refine dT (i := 6) rfl rfl (by kernel_rfl) (fun _ _ => zE dC sz3 (v := v) rfl rfl hv (by omega) (by omega)) a.pins ?_
 refine dT (i := 7) rfl rfl (by kernel_rfl) (fun _ hS => zL (r := ys.getD j 0) rfl ag3 (z := (j : Int)) rfl hv hS (by omega) (by omega)) a.pins ?_
 refine dT (i := 8) rfl rfl (by kernel_rfl) (fun _ _ => jO rfl rfl) a.pins ?_
 refine yH (by kernel_rfl) (zA (yA (p := (xs.getD j 0 : Int) ≠ (ys.getD j 0)) rfl rfl (fun d => ?_) (fun d => ?_)))
 refine w9d ?_
 refine qM (.bool false) ?_
 refine qe (zA ?_)
 exact cO (zT (zS (v := .bool false) rfl rfl rfl (⟨cgA eB (decide_eq_false (fun e => d (by rw [e]))).symm, a⟩)))
 refine cN (w9c ?_)
 refine qM (vJ (j : Int)) ?_
 refine qD rfl (yO rfl rfl (by omega)) (qM (vJ ((j : Int) + 1)) ?_)
 refine qe (yD (⟨_, ?_, _, rfl, _, j + 1, (pS 5 (pS 1 (pU 0))), rfl, a, (by omega), heq, (eqstep hp d)⟩))
 omega
 refine cP (zZ (yJ (yI (w9a ?_))))
 refine qM (.bool true) ?_
 refine qe (zA ?_)
 exact cO (zT (zS (v := .bool true) rfl rfl rfl (⟨cgA eB (decide_eq_true (eqdone heq (by omega) hp)).symm, c⟩)))
theorem vProof_spec {w : World} {xs ys : List Cl} (hP : Pins G w) (hu : RSl eClaim G u xs) (hv : RSl eClaim G v ys) :
  Calls Tryz.prog 13 [.agg #[u], .agg #[v]].toArray w fun e w' => ∃ G', e = .returned (.bool (decide (xs = ys))) ∧ Ext noS G w G' w' := by
 refine yC (n := 60) Tryz.func13 Tryz.ntmps13 rfl rfl ?_
 have a1 := exr noS hP
 have hm := hu.max
 refine w9d ?_
 refine qI rfl (xL [u] (v := .agg #[u]) rfl rfl a1.pins (fun b1 w2 dt b2 b3 b4 => ?_))
 have b5 := a1.step b3 b4
 have b6 : w.heap.size ≤ b1 := by have := a1.size; omega
 obtain ⟨G9, g, a3, a4, dv⟩ := b2.shut b5 b6
 refine qI rfl (xL [v] (v := .agg #[v]) rfl rfl a3.pins (fun a5 dw dx b7 b8 b9 => ?_))
 have ca := a3.step b8 b9
 have cb : w.heap.size ≤ a5 := by have := a3.size; omega
 obtain ⟨be, f, av, bf, dy⟩ := b7.shut ca cb
 refine qM (.bool false) ?_
 refine qe (zA (w9b ?_))
 refine qD rfl (zI (k := 0) rfl dI rfl nz27 rfl) (qD rfl (zJ (u := u) ag27 rfl ((cC av.pins f) _ _ _ (a4 0 _ rfl))) (qD rfl (zN dG (v := u) rfl hu) (qD rfl (zI (k := 0) rfl dI rfl nz27 rfl) (qD rfl (zJ (u := v) ag27 rfl (av.pins _ _ _ (bf 0 _ rfl))) (qD rfl (zN dG (v := v) rfl hv) (qD rfl (jO rfl rfl) (qe (zA ?_))))))))
 refine yA (p := ((xs.length : Int) : Int) ≠ (ys.length : Int)) rfl rfl (fun a6 => ?_) (fun a6 => ?_)
 refine w9d ?_
 refine qM (.bool false) ?_
 refine qe (zA ?_)
 exact cO (zT (zS (v := .bool false) rfl rfl rfl (⟨_, cgA eB (decide_eq_false (fun e => by subst e; first | omega | exact absurd rfl a6 | exact absurd a6 (by simp))).symm, av⟩)))
 refine cN (zA (w9b ?_))
 refine qM (vJ 0) ?_
 refine qe (zA ?_)
 refine zY (yN (fun k en W => ∃ (ai : Nat → Value) (j : Nat) (aj : Pin), en = (upd (upd (upd ai 2 (vP b1)) 3 (vP a5)) 5 (vJ (j : Int))) ∧ k = xs.length - j ∧ Ext noS G w aj W ∧ Pin.le be aj ∧ (j ≤ xs.length) ∧ (xs.length = ys.length) ∧ (∀ i, i < j → xs.getD i default = ys.getD i default)) _ ⟨_, 0, be, (pS 5 (pS 3 (pU 2))), rfl, av, cJ _, cI _, (by omega), (fun i hi => absurd hi (cK i))⟩ ?_)
 rintro dz _ a7 ⟨ai, j, aj, rfl, d0, aw, d, hj, heq, hp⟩
 refine w9b ?_
 refine qM (vJ (j : Int)) ?_
 refine qD rfl (zI (k := 0) rfl dI rfl nz27 rfl) (qD rfl (zJ (u := u) ag27 rfl ((cC aw.pins (cB f d)) _ _ _ (a4 0 _ rfl))) (qD rfl (zN dG (v := u) rfl hu) (qD rfl (yQ rfl rfl) (qe (zA ?_)))))
 refine yA (p := ((j : Int) : Int) < (xs.length : Int)) rfl rfl (fun cc => ?_) (fun cc => ?_)
 refine cN (zA (zB ?_))
 refine zY (zB (nQ (fun (en : Nat → Value) (W : World) => ∃ (ai : Nat → Value) (a8 : Nat) (ak : Value) (al : Value) (a9 : Nat) (am : Value) (an : Value) (m : Pin), en = (upd (upd (upd (upd (upd ai 2 (vP b1)) 3 (vP a5)) 5 (vJ (j : Int))) 6 (vP a8)) 7 (vP a9)) ∧ Ext noS G w m W ∧ Pin.le aj m ∧ (RSl eInt m ak ((xs.getD j default).r)) ∧ (RSl eInt m al ((xs.getD j default).l)) ∧ (RSl eInt m am ((ys.getD j default).r)) ∧ (RSl eInt m an ((ys.getD j default).l)) ∧ (BxP m a8 [vJ ((xs.getD j default).a), vJ ((xs.getD j default).b), ak, al]) ∧ (BxP m a9 [vJ ((ys.getD j default).a), vJ ((ys.getD j default).b), am, an])) ?_ ?_))
 ·rintro _ d1 ⟨ai, a8, ak, al, a9, am, an, m, rfl, o, cd, ce, cf, cg, ch, ax, ay⟩
  refine w9a ?_
  refine qD rfl (zI (k := 0) rfl dE rfl nz3 rfl) (qD rfl (zJ (u := vJ ((xs.getD j default).a)) ag3 rfl (o.pins _ _ _ (ax 0 _ rfl))) (qD rfl (zI (k := 0) rfl dE rfl nz3 rfl) (qD rfl (zJ (u := vJ ((ys.getD j default).a)) ag3 rfl (o.pins _ _ _ (ay 0 _ rfl))) (qD rfl (jO rfl rfl) (qM (.bool (decide (((xs.getD j default).a : Int) ≠ ((ys.getD j default).a)))) ?_)))))
  refine qbd (p := ((xs.getD j default).a : Int) ≠ ((ys.getD j default).a)) (t := 37) rfl (fun ac => ?_) (fun ac => ?_)
  refine qW ?_
  refine qW ?_
  refine qW ?_
  refine qW ?_
  refine qW ?_
  refine qD rfl (yL (v := .bool true) rfl rfl) (qM (.bool true) ?_)
  refine qW ?_
  refine qW ?_
  refine qW ?_
  refine qW ?_
  refine qW ?_
  refine qW ?_
  refine qD rfl (yL (v := .bool true) rfl rfl) (qM (.bool true) ?_)
  refine qW ?_
  refine qW ?_
  refine qW ?_
  refine qW ?_
  refine qW ?_
  refine qW ?_
  refine qD rfl (yL (v := .bool true) rfl rfl) (qe (zA ?_))
  refine xY rfl rfl (w9d ?_)
  refine qM (.bool false) ?_
  refine qe (zA ?_)
  exact cO (zT (zS (v := .bool false) rfl rfl rfl (⟨_, cgA eB (decide_eq_false (fun e => by subst e; first | omega | exact absurd rfl ac | exact absurd ac (by simp))).symm, o⟩)))
  refine qN (zI (k := 1) rfl dE rfl nz3 rfl) ?_
  refine qN (zJ (u := vJ ((xs.getD j default).b)) ag3 rfl (o.pins _ _ _ (ax 1 _ rfl))) ?_
  refine qN (zI (k := 1) rfl dE rfl nz3 rfl) ?_
  refine qN (zJ (u := vJ ((ys.getD j default).b)) ag3 rfl (o.pins _ _ _ (ay 1 _ rfl))) ?_
  refine qN (jO rfl rfl) ?_
  refine qD rfl (yM (v := .bool (decide (((xs.getD j default).b : Int) ≠ ((ys.getD j default).b)))) rfl rfl) (qM (.bool (decide (((xs.getD j default).b : Int) ≠ ((ys.getD j default).b)))) ?_)
  refine qbd (p := ((xs.getD j default).b : Int) ≠ ((ys.getD j default).b)) (t := 44) rfl (fun ad => ?_) (fun ad => ?_)
  refine qW ?_
  refine qW ?_
  refine qW ?_
  refine qW ?_
  refine qW ?_
  refine qW ?_
  refine qD rfl (yL (v := .bool true) rfl rfl) (qM (.bool true) ?_)
  refine qW ?_
  refine qW ?_
  refine qW ?_
  refine qW ?_
  refine qW ?_
  refine qW ?_
  refine qD rfl (yL (v := .bool true) rfl rfl) (qe (zA ?_))
  refine xY rfl rfl (w9d ?_)
  refine qM (.bool false) ?_
  refine qe (zA ?_)
  exact cO (zT (zS (v := .bool false) rfl rfl rfl (⟨_, cgA eB (decide_eq_false (fun e => by subst e; first | omega | exact absurd rfl ad | exact absurd ad (by simp))).symm, o⟩)))
  refine qN (zI (k := 2) rfl dE rfl nz40 rfl) ?_
  refine qN (zJ (u := ak) ag40 rfl (o.pins _ _ _ (ax 2 _ rfl))) ?_
  refine qN (zI (k := 2) rfl dE rfl nz40 rfl) ?_
  refine qN (zJ (u := am) ag40 rfl (o.pins _ _ _ (ay 2 _ rfl))) ?_
  refine q1g rfl rfl rfl rfl rfl rfl (zP (vs := [ak, am]) Tryz.func33 nm33 rfl rfl rfl ?_)
  refine cD (mI o.pins ce cg) ?_
  rintro _ d2 ⟨rfl, bg⟩
  refine rt9 ?_
  have ao := o.step bg.pins bg.below
  refine qN (xN rfl) ?_
  refine qD rfl (yM (v := .bool (!(decide (((xs.getD j default).r) = ((ys.getD j default).r))))) rfl rfl) (qM (.bool (!(decide (((xs.getD j default).r) = ((ys.getD j default).r))))) ?_)
  refine qbn (t := 52) rfl (fun q => ?_) (fun q => ?_)
  replace q := of_decide_eq_true q
  refine qN (zI (k := 3) rfl dE rfl nz40 rfl) ?_
  refine qN (zJ (u := al) ag40 rfl (ao.pins _ _ _ (ax 3 _ rfl))) ?_
  refine qN (zI (k := 3) rfl dE rfl nz40 rfl) ?_
  refine qN (zJ (u := an) ag40 rfl (ao.pins _ _ _ (ay 3 _ rfl))) ?_
  refine q1g rfl rfl rfl rfl rfl rfl (zP (vs := [al, an]) Tryz.func33 nm33 rfl rfl rfl ?_)
  refine cD (mI ao.pins cf ch) ?_
  rintro _ d3 ⟨rfl, bh⟩
  refine rt9 ?_
  have bi := ao.step bh.pins bh.below
  refine qN (xN rfl) ?_
  refine qD rfl (yM (v := .bool (!(decide (((xs.getD j default).l) = ((ys.getD j default).l))))) rfl rfl) (qe (zA ?_))
  refine qO rfl rfl (fun s => ?_) (fun s => ?_)
  replace s := of_decide_eq_true s
  refine cN (w9c ?_)
  refine qM (vJ (j : Int)) ?_
  refine qD rfl (yO rfl rfl (by omega)) (qM (vJ ((j : Int) + 1)) ?_)
  refine qe (yD (⟨_, ?_, _, rfl, _, j + 1, m, (pS 5 (pS 3 (pU 2))), rfl, bi, (cB d cd), (by omega), heq, (eqstepG hp (cl_ext (by first | exact ac | exact Decidable.not_not.1 ac | (simpa using ac)) (by first | exact ad | exact Decidable.not_not.1 ad | (simpa using ad)) (by first | exact q | exact Decidable.not_not.1 q | (simpa using q)) (by first | exact s | exact Decidable.not_not.1 s | (simpa using s))))⟩))
  omega
  replace s := of_decide_eq_false s
  refine w9d ?_
  refine qM (.bool false) ?_
  refine qe (zA ?_)
  exact cO (zT (zS (v := .bool false) rfl rfl rfl (⟨_, cgA eB (decide_eq_false (fun e => by subst e; first | omega | exact absurd rfl s | exact absurd s (by simp))).symm, bi⟩)))
  replace q := of_decide_eq_false q
  refine qW ?_
  refine qW ?_
  refine qW ?_
  refine qW ?_
  refine qW ?_
  refine qW ?_
  refine qD rfl (yL (v := .bool true) rfl rfl) (qe (zA ?_))
  refine xY rfl rfl (w9d ?_)
  refine qM (.bool false) ?_
  refine qe (zA ?_)
  exact cO (zT (zS (v := .bool false) rfl rfl rfl (⟨_, cgA eB (decide_eq_false (fun e => by subst e; first | omega | exact absurd rfl q | exact absurd q (by simp))).symm, ao⟩)))
 refine yT (S := fun wz => Pins aj wz) (last := 13) (by kernel_rfl) rfl ?_
 have bj := bdr a7
 have ci := aw.pins.below bj
 have c := aw.step ci bj
 refine dT (i := 0) rfl rfl (by kernel_rfl) (fun _ _ => zI (k := 0) rfl dI rfl nz27 rfl) c.pins ?_
 refine dT (i := 1) rfl rfl (by kernel_rfl) (fun _ hS => zJ (u := u) ag27 rfl ((cC hS (cB f d)) _ _ _ (a4 0 _ rfl))) c.pins ?_
 refine dM 2 (vJ (j : Int)) c.pins ?_
 refine dT (i := 3) rfl rfl (by kernel_rfl) (fun _ _ => zE dG sz53 (v := u) rfl rfl hu (by omega) (by omega)) c.pins ?_
 obtain ⟨d4, cj, ck, d5⟩ := qE (j := j) default (hu.at (z := (j : Int)) (by omega) (by omega)) rfl
 obtain ⟨x, y, rfl, ap, aq⟩ := cj
 have d6 := ap.max
 have d7 := aq.max
 refine dT (i := 4) rfl rfl (by kernel_rfl) (fun _ hS => ck ag53 sz53 rfl (cC hS (cB (cB g f) d))) c.pins ?_
 refine dT (i := 5) rfl rfl (by kernel_rfl) (fun _ _ => zI (k := 0) rfl dI rfl nz27 rfl) c.pins ?_
 refine dT (i := 6) rfl rfl (by kernel_rfl) (fun _ hS => zJ (u := v) ag27 rfl ((cC hS d) _ _ _ (bf 0 _ rfl))) c.pins ?_
 refine dM 7 (vJ (j : Int)) c.pins ?_
 refine dT (i := 8) rfl rfl (by kernel_rfl) (fun _ _ => zE dG sz53 (v := v) rfl rfl hv (by omega) (by omega)) c.pins ?_
 obtain ⟨d8, cl, cm, d9⟩ := qE (j := j) default (hv.at (z := (j : Int)) (by omega) (by omega)) rfl
 obtain ⟨aa, ab, rfl, ar, au⟩ := cl
 have ea := ar.max
 have eb := au.max
 refine dT (i := 9) rfl rfl (by kernel_rfl) (fun _ hS => cm ag53 sz53 rfl (cC hS (cB (cB g f) d))) c.pins ?_
 refine jH (i := 10) (j := 11) (by kernel_rfl) ?_ ?_
 refine (dQ (i := 10) rfl rfl (yK [vJ 0, vJ 0, vN, vN] zr53 rfl c.pins (fun bk ec ed bl cn co => ?_)))
 have az := c.step cn co
 have bm : w.heap.size ≤ bk := by have := c.size; omega
 refine ⟨fun _ => az.pins, ?_⟩
 refine dP (i := 11) rfl rfl (yK [vJ 0, vJ 0, vN, vN] zr53 rfl az.pins (fun bn ee cp cq cr bo => ?_))
 have ba := az.step cr bo
 have cs := bl.below bo
 have bp := zD (cgA some cp) bl.lt
 have bq : w.heap.size ≤ bn := by have := az.size; omega
 refine ⟨fun _ => ba.pins, ?_⟩
 refine dO (i := 12) (xK (i := 12) rfl rfl rfl (yF rfl _) (o_stp (cs' := [vJ ((xs.getD j default).a), vJ ((xs.getD j default).b), x, y]) (us := [vJ ((xs.getD j default).a), vJ ((xs.getD j default).b), x, y]) (v := .agg #[vJ ((xs.getD j default).a), vJ ((xs.getD j default).b), x, y]) sz53 rfl rfl rfl (jS (by rfl) (by rfl) ap.one aq.one) ba.pins cs (cE rfl) rfl (fun ef ct cu br eg => ?_)))
 have cv := ba.write cu br ((zW bm))
 have cw := cq.keptA br bp
 obtain ⟨eh, ae, bb, cx, cy⟩ := ct.shut cv bm
 have cz := cw.moreA cy bp
 refine ⟨fun _ => (cC bb.pins ae), ?_⟩
 refine dO (i := 13) (xK (i := 13) rfl rfl rfl (yF rfl _) (o_stp (cs' := [vJ ((ys.getD j default).a), vJ ((ys.getD j default).b), aa, ab]) (us := [vJ ((ys.getD j default).a), vJ ((ys.getD j default).b), aa, ab]) (v := .agg #[vJ ((ys.getD j default).a), vJ ((ys.getD j default).b), aa, ab]) sz53 rfl rfl rfl (jS (by rfl) (by rfl) ar.one au.one) bb.pins cz (cE rfl) rfl (fun ei c0 c1 c2 ej => ?_)))
 have c3 := bb.write c1 c2 ((zW bq))
 obtain ⟨c4, af, c5, c6, ek⟩ := c0.shut c3 bq
 refine ⟨fun h => absurd rfl h, ?_⟩
 exact yH (by kernel_rfl) (qB ⟨_, bk, x, y, bn, aa, ab, c4, (pS 7 (pS 6 (pS 5 (pS 3 (pU 2))))), c5, (cB ae af), (ap.mono (cB (cB (cB (cB g f) d) ae) af)), (aq.mono (cB (cB (cB (cB g f) d) ae) af)), (ar.mono (cB (cB (cB (cB g f) d) ae) af)), (au.mono (cB (cB (cB (cB g f) d) ae) af)), (cx.mono af), (c6.mono (cJ _))⟩)
 refine (dQ (i := 11) rfl rfl (yK [vJ 0, vJ 0, vN, vN] zr53 rfl c.pins (fun bs el em bt c7 c8 => ?_)))
 have a0 := c.step c7 c8
 have bu : w.heap.size ≤ bs := by have := c.size; omega
 refine ⟨fun _ => a0.pins, ?_⟩
 refine dP (i := 10) rfl rfl (yK [vJ 0, vJ 0, vN, vN] zr53 rfl a0.pins (fun bv eo c9 da db bw => ?_))
 have bc := a0.step db bw
 have dc := bt.below bw
 have bx := zD (cgA some c9) bt.lt
 have bz : w.heap.size ≤ bv := by have := a0.size; omega
 refine ⟨fun _ => bc.pins, ?_⟩
 refine dO (i := 12) (xK (i := 12) rfl rfl rfl (yF rfl _) (o_stp (cs' := [vJ ((xs.getD j default).a), vJ ((xs.getD j default).b), x, y]) (us := [vJ ((xs.getD j default).a), vJ ((xs.getD j default).b), x, y]) (v := .agg #[vJ ((xs.getD j default).a), vJ ((xs.getD j default).b), x, y]) sz53 rfl rfl rfl (jS (by rfl) (by rfl) ap.one aq.one) bc.pins da (cE rfl) rfl (fun ep dd de b0 eq => ?_)))
 have df := bc.write de b0 ((zW bz))
 have dg := dc.keptA b0 bx.symm
 obtain ⟨er, ag, bd, dh, di⟩ := dd.shut df bz
 have dj := dg.moreA di bx.symm
 refine ⟨fun _ => (cC bd.pins ag), ?_⟩
 refine dO (i := 13) (xK (i := 13) rfl rfl rfl (yF rfl _) (o_stp (cs' := [vJ ((ys.getD j default).a), vJ ((ys.getD j default).b), aa, ab]) (us := [vJ ((ys.getD j default).a), vJ ((ys.getD j default).b), aa, ab]) (v := .agg #[vJ ((ys.getD j default).a), vJ ((ys.getD j default).b), aa, ab]) sz53 rfl rfl rfl (jS (by rfl) (by rfl) ar.one au.one) bd.pins dj (cE rfl) rfl (fun es dk dl dm et => ?_)))
 have dn := bd.write dl dm ((zW bu))
 obtain ⟨dp, ah, dq, dr, eu⟩ := dk.shut dn bu
 refine ⟨fun h => absurd rfl h, ?_⟩
 exact yH (by kernel_rfl) (qB ⟨_, bv, x, y, bs, aa, ab, dp, (pS 7 (pS 6 (pS 5 (pS 3 (pU 2))))), dq, (cB ag ah), (ap.mono (cB (cB (cB (cB g f) d) ag) ah)), (aq.mono (cB (cB (cB (cB g f) d) ag) ah)), (ar.mono (cB (cB (cB (cB g f) d) ag) ah)), (au.mono (cB (cB (cB (cB g f) d) ag) ah)), (dh.mono ah), (dr.mono (cJ _))⟩)
 refine cP (zZ (yJ (yI (w9a ?_))))
 refine qM (.bool true) ?_
 refine qe (zA ?_)
 exact cO (zT (zS (v := .bool true) rfl rfl rfl (⟨_, cgA eB (decide_eq_true (eqdoneG heq (by omega) hp)).symm, aw⟩)))
theorem usesOf_spec {w : World} {ps : List Cl} (hP : Pins G w) (hv : RSl eClaim G v ps) (hsm : SmC ps) :
  Calls Tryz.prog 14 [.agg #[v]].toArray w fun e w' => ∃ (u : Value) (us : List Int) (ok : Bool) (G' : Pin), e = .returned (.tuple #[u, .bool ok]) ∧ RSl eInt G' u us ∧ (UsP ps → ok = true ∧ us = usesN ps ps.length) ∧ Ext noS G w G' w' := by
 refine yC (n := 60) Tryz.func14 Tryz.ntmps14 rfl rfl ?_
 have ap := exr noS hP
 have hm := hv.max
 have hsl := hsm.len
 refine w9d ?_
 refine qI rfl (xL [v] (v := .agg #[v]) rfl rfl ap.pins (fun b1 w2 dc bf bg bh => ?_))
 have bi := ap.step bg bh
 have bj : w.heap.size ≤ b1 := by have := ap.size; omega
 obtain ⟨G9, aq, ab, ar, dd⟩ := bf.shut bi bj
 refine qM vN ?_
 refine qM (.bool false) ?_
 refine qe (zA (w9b ?_))
 refine qD rfl (zI (k := 0) rfl dI rfl nz27 rfl) (qD rfl (zJ (u := v) ag27 rfl (ab.pins _ _ _ (ar 0 _ rfl))) (qD rfl (zN dG (v := v) rfl hv) (qD rfl (jR rfl rfl) (qe (zA ?_)))))
 refine yA (p := (200 : Int) < (ps.length : Int)) rfl rfl (fun bk => ?_) (fun bk => ?_)
 refine w9d ?_
 refine qI rfl (xB (E := eInt) (e := 3) dC sz3 ab.pins (fun au bl bm bn bo de => ?_))
 have bp := ab.step bn bo
 have bq := bm.weaken ab.size
 refine qM au ?_
 refine qM (.bool false) ?_
 refine qe (zA ?_)
 refine cO (zT (qF (v := au) (u := .bool false) rfl rfl rfl rfl rfl ?_))
 obtain ⟨df, dg, br, bs, dh⟩ := bq.sealed bp
 exact ⟨_, _, _, _, rfl, bs, fun g => absurd g (fun g => absurd g.hi (by omega)), br⟩
 refine cN (w9a ?_)
 refine qD rfl (zI (k := 0) rfl dI rfl nz27 rfl) (qD rfl (zJ (u := v) ag27 rfl (ab.pins _ _ _ (ar 0 _ rfl))) (qD rfl (zN dG (v := v) rfl hv) (qI rfl (vH (E := eInt) 0 8 (vJ 0) dC mk3 (fun _ => rfl) rfl rfl ab.pins (by omega) (by omega) (by omega) (fun d bt bu bv bw di => ?_)))))
 have a3 := ab.step bv bw
 have bx : Own eInt 3 G9 bt w.heap.size d (List.replicate ps.length 0) := bu.weaken ab.size
 have dj : (List.replicate ps.length 0).length = ps.length := List.length_replicate ..
 refine qM d ?_
 refine qe (zA (w9b ?_))
 refine qD rfl (zI (k := 0) rfl dI rfl nz27 rfl) (qD rfl (zJ (u := v) ag27 rfl (a3.pins _ _ _ (ar 0 _ rfl))) (qD rfl (zN dG (v := v) rfl hv) (qM (vJ 0) ?_)))
 refine qe (zA ?_)
 refine zY (yN (fun k en W => ∃ (ac : Nat → Value) (kc : Nat) (us : List Int) (ai : Pin), en = (upd (upd (upd (upd ac 4 d) 21 v) 22 (vJ (ps.length : Int))) 23 (vJ (kc : Int))) ∧ k = ps.length - kc ∧ Ext noS G w ai W ∧ Pin.le G9 ai ∧ (kc ≤ ps.length) ∧ (us = usesN ps kc) ∧ (∀ m : Nat, 0 ≤ us.getD m 0 ∧ us.getD m 0 ≤ 48 * (kc : Int)) ∧ (Own eInt 3 ai W w.heap.size d (us))) _ ⟨_, 0, List.replicate ps.length 0, G9, (pS 23 (pS 22 (pS 21 (pU 4)))), rfl, a3, cJ _, cI _, rfl, (rep_bd _), bx⟩ ?_)
 rintro dk _ dl ⟨ac, kc, us, ai, rfl, dm, af, aj, hk, hus, hbd, av⟩
 have hul : us.length = ps.length := by rw [hus]; exact jI ps kc
 refine w9d ?_
 refine qD rfl (yQ rfl rfl) (qe (zA (zB ?_)))
 refine yA (p := ((kc : Int) : Int) < (ps.length : Int)) rfl rfl (fun bz => ?_) (fun bz => ?_)
 have hso := hsm.ln kc (by omega)
 refine cN (zA (zB ?_))
 refine zY (w9d ?_)
 refine qM (vJ (kc : Int)) ?_
 refine qD rfl (zE dG sz53 (v := v) rfl rfl hv (by omega) (by omega)) ?_
 obtain ⟨dn, b0, b2, dp⟩ := qE (j := kc) default (hv.at (z := (kc : Int)) (by omega) (by omega)) rfl
 obtain ⟨x, y, rfl, ak, al⟩ := b0
 have dq := ak.max
 have dr := al.max
 refine qD rfl (b2 ag53 sz53 rfl (cC af.pins (cB aq aj))) (qI rfl (yK [vJ 0, vJ 0, vN, vN] zr53 rfl af.pins (fun b3 ds b4 b5 b6 a4 => ?_)))
 have a5 := af.step b6 a4
 have b7 := av.below a4
 have a6 := zG (cgA some b4) av.lt
 have a7 : w.heap.size ≤ b3 := by have := af.size; omega
 refine qM (vJ (kc : Int)) ?_
 refine q0 rfl rfl rfl (o_stp (cs' := [vJ ((ps.getD kc default).a), vJ ((ps.getD kc default).b), x, y]) (us := [vJ ((ps.getD kc default).a), vJ ((ps.getD kc default).b), x, y]) (v := .agg #[vJ ((ps.getD kc default).a), vJ ((ps.getD kc default).b), x, y]) sz53 rfl rfl rfl (jS (by rfl) (by rfl) ak.one al.one) a5.pins b5 (cE rfl) rfl (fun dt b8 b9 a8 du => ?_))
 have ca := a5.write b9 a8 ((zW a7))
 have cb := b7.keptA a8 a6.symm
 obtain ⟨a9, am, aw, ba, cc⟩ := b8.shut ca a7
 have cd := cb.moreA am cc a6.symm
 refine qe (w9a ?_)
 refine qD rfl (zI (k := 2) rfl dE rfl nz40 rfl) (qD rfl (zJ (u := x) ag40 rfl (aw.pins _ _ _ (ba 2 _ rfl))) (qD rfl (zI (k := 3) rfl dE rfl nz40 rfl) (qD rfl (zJ (u := y) ag40 rfl (aw.pins _ _ _ (ba 3 _ rfl))) (qD rfl (jZ (m := 1) [vN, vN] [x, y] [(0, x, [x]), (1, y, [y])] Tryz.underlying72 zr72 rfl sz40 rfl (cM.2 ⟨(yX ak.one), (cM.2 ⟨(yX al.one), (fun _ h => by cases h)⟩)⟩) rfl) (qM (vJ 0) ?_)))))
 refine qe (zA ?_)
 refine zY (yN (fun k en W => ∃ (ac : Nat → Value) (h : Nat) (o : List Int) (ad : Pin), en = (upd (upd (upd (upd (upd (upd (upd ac 4 d) 5 (vJ (kc : Int))) 21 v) 22 (vJ (ps.length : Int))) 23 (vJ (kc : Int))) 32 (.agg #[x, y])) 33 (vJ (h : Int))) ∧ k = 2 - h ∧ Ext noS G w ad W ∧ Pin.le a9 ad ∧ (h ≤ 2) ∧ (o = useH us (ps.getD kc default).r (ps.getD kc default).l h) ∧ (∀ m : Nat, 0 ≤ o.getD m 0 ∧ o.getD m 0 ≤ 48 * (kc : Int) + 24 * (h : Int)) ∧ (Own eInt 3 ad W w.heap.size d (o))) _ ⟨_, 0, us, a9, (pS 33 (pS 32 (pS 23 (pS 22 (pS 21 (pS 5 (pU 4))))))), rfl, aw, cJ _, cI _, rfl, (bd_le hbd (by omega)), cd⟩ ?_)
 rintro dv _ dw ⟨ac, h, o, ad, rfl, dx, bb, an, hh, ax, bc, bd⟩
 have ce : o.length = ps.length := by rw [ax, useH_length]; exact hul
 refine w9d ?_
 refine qD rfl (yQ rfl rfl) (qe (zA (zB ?_)))
 refine yA (p := ((h : Int) : Int) < 2) rfl rfl (fun cf => ?_) (fun cf => ?_)
 refine cN (zA (zB ?_))
 refine zY (w9d ?_)
 obtain ⟨ag, ao, cg⟩ := name_index2 (ak.mono (cB (cB (cB aq aj) am) an)) (al.mono (cB (cB (cB aq aj) am) an)) (z := (h : Int)) h (by omega) (by omega) rfl
 have dy := ao.max
 refine qD rfl (cg Tryz.underlying72 rfl sz40 ag40 rfl rfl) (qM ag ?_)
 refine qe (w9a ?_)
 refine qM ag ?_
 refine qD rfl (zN dC (v := ag) rfl ao) (qM (vJ 0) ?_)
 refine qe (zA ?_)
 refine zY (yN (fun k en W => ∃ (ac : Nat → Value) (q : Nat) (c : List Int) (aa : Pin), en = (upd (upd (upd (upd (upd (upd (upd (upd (upd (upd ac 4 d) 5 (vJ (kc : Int))) 21 v) 22 (vJ (ps.length : Int))) 23 (vJ (kc : Int))) 32 (.agg #[x, y])) 33 (vJ (h : Int))) 36 ag) 37 (vJ ((pick2 h ((ps.getD kc default).r) ((ps.getD kc default).l)).length : Int))) 38 (vJ (q : Int))) ∧ k = (pick2 h (ps.getD kc default).r (ps.getD kc default).l).length - q ∧ Ext noS G w aa W ∧ Pin.le ad aa ∧ (q ≤ (pick2 h (ps.getD kc default).r (ps.getD kc default).l).length) ∧ (c = useL o ((pick2 h (ps.getD kc default).r (ps.getD kc default).l).take q)) ∧ (∀ m : Nat, 0 ≤ c.getD m 0 ∧ c.getD m 0 ≤ 48 * (kc : Int) + 24 * (h : Int) + (q : Int)) ∧ (Own eInt 3 aa W w.heap.size d (c))) _ ⟨_, 0, o, ad, (pS 38 (pS 37 (pS 36 (pS 33 (pS 32 (pS 23 (pS 22 (pS 21 (pS 5 (pU 4)))))))))), rfl, bb, cJ _, cI _, rfl, (bd_le bc (by omega)), bd⟩ ?_)
 rintro dz _ d0 ⟨ac, q, c, aa, rfl, d1, f, ay, hq, az, a0, ae⟩
 have d2 : c.length = ps.length := by rw [az, qH]; exact ce
 have d3 : (pick2 h (ps.getD kc default).r (ps.getD kc default).l).length ≤ 24 := pick2_len hso.1 hso.2
 refine w9d ?_
 refine qD rfl (yQ rfl rfl) (qe (zA (zB ?_)))
 refine yA (p := ((q : Int) : Int) < ((pick2 h ((ps.getD kc default).r) ((ps.getD kc default).l)).length : Int)) rfl rfl (fun ch => ?_) (fun ch => ?_)
 have hbq := a0 ((pick2 h (ps.getD kc default).r (ps.getD kc default).l).getD q 0).toNat
 refine cN (zA (zB ?_))
 refine zY (w9d ?_)
 refine qD rfl (zE dC sz3 (v := ag) rfl rfl ao (by omega) (by omega)) (qD rfl (zL (r := (pick2 h ((ps.getD kc default).r) ((ps.getD kc default).l)).getD q 0) rfl ag3 (z := (q : Int)) rfl ao (cC f.pins ay) (by omega) (by omega)) (qM (vJ ((pick2 h ((ps.getD kc default).r) ((ps.getD kc default).l)).getD q 0)) ?_))
 refine qe (zA (w9b ?_))
 refine qM (vJ ((pick2 h ((ps.getD kc default).r) ((ps.getD kc default).l)).getD q 0)) ?_
 refine qD rfl (yQ rfl rfl) (qM (.bool (decide (((pick2 h ((ps.getD kc default).r) ((ps.getD kc default).l)).getD q 0 : Int) < 0))) ?_)
 refine qbd (p := ((pick2 h ((ps.getD kc default).r) ((ps.getD kc default).l)).getD q 0 : Int) < 0) (t := 44) rfl (fun ci => ?_) (fun ci => ?_)
 refine qW ?_
 refine qW ?_
 refine qW ?_
 refine qD rfl (yL (v := .bool true) rfl rfl) (qe (zA ?_))
 refine xY rfl rfl (w9d ?_)
 refine qI rfl (xB (E := eInt) (e := 3) dC sz3 f.pins (fun a1 cj ck cl cm d4 => ?_))
 have cn := f.step cl cm
 have co := ck.weaken f.size
 refine qM a1 ?_
 refine qM (.bool false) ?_
 refine qe (zA ?_)
 refine cO (zT (qF (v := a1) (u := .bool false) rfl rfl rfl rfl rfl ?_))
 obtain ⟨d5, d6, cp, cq, d7⟩ := co.sealed cn
 exact ⟨_, _, _, _, rfl, cq, fun g => absurd g (fun g => absurd (g.at (k := kc) (s := h) (i := q) (by omega) (by omega)) (by omega)), cp⟩
 refine qN (zX (v := vJ ((pick2 h ((ps.getD kc default).r) ((ps.getD kc default).l)).getD q 0)) rfl) ?_
 refine qN (zX (v := vJ (kc : Int)) rfl) ?_
 refine qN (vI rfl rfl) ?_
 refine qD rfl (yM (v := .bool (decide (((kc : Int) : Int) ≤ ((pick2 h ((ps.getD kc default).r) ((ps.getD kc default).l)).getD q 0)))) rfl rfl) (qe (zA ?_))
 refine yA (p := ((kc : Int) : Int) ≤ ((pick2 h ((ps.getD kc default).r) ((ps.getD kc default).l)).getD q 0)) rfl rfl (fun cr => ?_) (fun cr => ?_)
 refine w9d ?_
 refine qI rfl (xB (E := eInt) (e := 3) dC sz3 f.pins (fun a2 cs ct cu cv d8 => ?_))
 have cw := f.step cu cv
 have cx := ct.weaken f.size
 refine qM a2 ?_
 refine qM (.bool false) ?_
 refine qe (zA ?_)
 refine cO (zT (qF (v := a2) (u := .bool false) rfl rfl rfl rfl rfl ?_))
 obtain ⟨d9, ea, cy, cz, eb⟩ := cx.sealed cw
 exact ⟨_, _, _, _, rfl, cz, fun g => absurd g (fun g => absurd (g.at (k := kc) (s := h) (i := q) (by omega) (by omega)) (by omega)), cy⟩
 refine cN (zA (zC ?_))
 refine qM d ?_
 refine qM (vJ ((pick2 h ((ps.getD kc default).r) ((ps.getD kc default).l)).getD q 0)) ?_
 refine qD rfl (zE dC sz3 (v := d) rfl rfl ae.read (by omega) (by omega)) (qD rfl (zL (r := c.getD ((pick2 h ((ps.getD kc default).r) ((ps.getD kc default).l)).getD q 0).toNat 0) rfl ag3 (z := (pick2 h ((ps.getD kc default).r) ((ps.getD kc default).l)).getD q 0) rfl ae.read (cL f.pins d) (by omega) (by omega)) (qD rfl (yO rfl rfl (by omega)) (qD rfl (zE dC sz3 (v := d) rfl rfl ae.read (by omega) (by omega)) (q0 rfl rfl rfl (qU (E := eInt) (v := d) (u := vJ ((c.getD ((pick2 h ((ps.getD kc default).r) ((ps.getD kc default).l)).getD q 0).toNat 0) + 1)) (z := (pick2 h ((ps.getD kc default).r) ((ps.getD kc default).l)).getD q 0) ((c.getD ((pick2 h ((ps.getD kc default).r) ((ps.getD kc default).l)).getD q 0).toNat 0) + 1) sz3 rfl rfl rfl rfl f.pins ae (by omega) (by omega) (fun c0 c1 c2 c3 ec => ?_))))))
 have c4 := f.write c2 c3 ((yE ae))
 have c5 : Own eInt 3 aa c0 w.heap.size d ((c).set ((pick2 h ((ps.getD kc default).r) ((ps.getD kc default).l)).getD q 0).toNat ((c.getD ((pick2 h ((ps.getD kc default).r) ((ps.getD kc default).l)).getD q 0).toNat 0) + 1)) := c1
 have ed : ((c).set ((pick2 h ((ps.getD kc default).r) ((ps.getD kc default).l)).getD q 0).toNat ((c.getD ((pick2 h ((ps.getD kc default).r) ((ps.getD kc default).l)).getD q 0).toNat 0) + 1)).length = c.length := cS ..
 refine qe (w9c ?_)
 refine qD rfl (yO rfl rfl (by omega)) (qM (vJ ((q : Int) + 1)) ?_)
 refine qe (yD (⟨_, ?_, _, rfl, _, q + 1, (c).set ((pick2 h ((ps.getD kc default).r) ((ps.getD kc default).l)).getD q 0).toNat ((c.getD ((pick2 h ((ps.getD kc default).r) ((ps.getD kc default).l)).getD q 0).toNat 0) + 1), aa, (pS 38 (pS 37 (pS 36 (pS 33 (pS 32 (pS 23 (pS 22 (pS 21 (pS 5 (pU 4)))))))))), rfl, c4, ay, (by omega), (by rw [az]; exact useL_next (by omega)), (bd_le (set_bd a0 _) (by omega)), c5⟩))
 omega
 have hqn : q = (pick2 h (ps.getD kc default).r (ps.getD kc default).l).length := by omega
 have c6 : c = useH us (ps.getD kc default).r (ps.getD kc default).l (h + 1) := by rw [az, hqn, List.take_length, ax]; exact useH_next (by omega)
 refine cP (zZ (yJ (yI (w9c ?_))))
 refine qD rfl (yO rfl rfl (by omega)) (qM (vJ ((h : Int) + 1)) ?_)
 refine qe (yD (⟨_, ?_, _, rfl, _, h + 1, c, aa, (pS 33 (pS 32 (pS 23 (pS 22 (pS 21 (pS 5 (pU 4))))))), rfl, f, (cB an ay), (by omega), c6, (bd_le a0 (by omega)), ae⟩))
 omega
 have c7 : h = 2 := by omega
 have c8 : o = usesN ps (kc + 1) := by rw [ax, c7, hus]; rfl
 refine cP (zZ (yJ (yI (w9c ?_))))
 refine qD rfl (yO rfl rfl (by omega)) (qM (vJ ((kc : Int) + 1)) ?_)
 refine qe (yD (⟨_, ?_, _, rfl, _, kc + 1, o, ad, (pS 23 (pS 22 (pS 21 (pU 4)))), rfl, bb, (cB (cB aj am) an), (by omega), c8, (bd_le bc (by omega)), bd⟩))
 omega
 refine cP (zZ (yJ (yI (w9a ?_))))
 refine qM d ?_
 refine qM d ?_
 refine qM (.bool true) ?_
 refine qe (zA ?_)
 refine cO (zT (qF (v := d) (u := .bool true) rfl rfl rfl rfl rfl ?_))
 obtain ⟨ee, ef, c9, da, eg⟩ := av.sealed af
 have hkn : kc = ps.length := by omega
 rw [hkn] at hus
 exact ⟨_, _, _, _, rfl, da, fun _ => ⟨rfl, hus⟩, c9⟩
end LX2
end Go.Proofs.YtdleojbknkbpiaaGreatDoor
