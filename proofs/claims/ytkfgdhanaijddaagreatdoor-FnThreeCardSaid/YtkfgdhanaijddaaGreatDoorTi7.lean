/- Texts of this claim in one file: SM1, GW1, SO8, LTH. -/
import Derived.Test.YtkfgdhanaijddaaGreatDoorTi6
import Derived.Test.YtkfgdhanaijddaaGreatDoorChecked
set_option maxRecDepth 20000
set_option maxHeartbeats 2000000
namespace Go.Proofs.YtkfgdhanaijddaaGreatDoor
namespace SM1
open Go.RowKit Go.GL Go.Proofs
open Go.Proofs.YtkfgdhanaijddaaGreatDoor.B1
open Go.Proofs.YtkfgdhanaijddaaGreatDoor.C1
open Go.Proofs.YtkfgdhanaijddaaGreatDoor.D1
open Go.Proofs.YtkfgdhanaijddaaGreatDoor.E1
open Go.Proofs.YtkfgdhanaijddaaGreatDoor.K1
open Go.Proofs.YtkfgdhanaijddaaGreatDoor.PO1
open Go.Proofs.YtkfgdhanaijddaaGreatDoor.PL1
open Go.Proofs.YtkfgdhanaijddaaGreatDoor.PA1
open Go.Proofs.YtkfgdhanaijddaaGreatDoor.SO1
open Go.Proofs.YtkfgdhanaijddaaGreatDoor.OD1
open Go.Proofs.YtkfgdhanaijddaaGreatDoor.FO1
open Go.Proofs.YtkfgdhanaijddaaGreatDoor.NG1
open Go.Proofs.YtkfgdhanaijddaaGreatDoor.NF1




















theorem pl133 : (Tryz.prog.underlying 133).bind (placesD Tryz.prog) = some [(0, 1), (1, 1)] := by kernel_rfl
theorem pl28 : (Tryz.prog.underlying 28).bind (placesD Tryz.prog) = some [(0, 1)] := by kernel_rfl






theorem l5Sum_spec {w : World} {G : Pin} {u v : Value} {fs gs : List Nd} (hP : Pins G w) (hu : RSl eNode G u fs) (hv : RSl eNode G v gs) (hf : FormOk fs) (hg : FormOk gs) (h1 : 1 ≤ fs.length ∧ 1 ≤ gs.length) (hs : fs.length * gs.length ≤ 524288) (hfl : ∀ k, k < fs.length → (fs.getD k default).l.length ≤ 1000 ∧ (fs.getD k default).r.length ≤ 1000) (hgl : ∀ k, k < gs.length → (gs.getD k default).l.length ≤ 1000 ∧ (gs.getD k default).r.length ≤ 1000) :
  Calls Tryz.prog 103 [(.agg [u].toArray), (.agg [v].toArray)].toArray w fun e w' => ∃ (u : Value) (G' : Pin), e = .returned (.agg [u].toArray) ∧ RSl eNode G' u (formG (addG (gOf fs) (gOf gs))) ∧ Ext noS G w G' w' := by
 refine yD (n := 171) Tryz.func103 Tryz.ntmps103 rfl rfl ?_
 have cj : Ext noS G w G w := Ext.refl hP
 have hmu := hu.max
 have hmv := hv.max
 have hfle := hf.len
 have hgle := hg.len
 refine zB (zC ?_)
 refine qI rfl (qA [u] (v := (.agg [u].toArray)) rfl rfl cj.pins (fun b1 w2 g8 g9 ha hb => ?_))
 have hc := cj.step ha hb
 have hd : w.heap.size ≤ b1 := by have := cj.size; omega
 obtain ⟨G9, an, ck, bs, nk⟩ := g9.shut hc hd
 refine qI rfl (qA [v] (v := (.agg [v].toArray)) rfl rfl ck.pins (fun bb nl nm he hh hi => ?_))
 have hk := ck.step hh hi
 have hl : w.heap.size ≤ bb := by have := ck.size; omega
 obtain ⟨cl, ae, cm, bt, nn⟩ := he.shut hk hl
 refine qI rfl (yH [(.slice none 0 0)] zr28 rfl cm.pins (fun g no np d3 hm hn => ?_))
 have cn := cm.step hm hn
 have ho : w.heap.size ≤ g := by have := cm.size; omega
 refine qe (zA (zB (zC ?_)))
 refine qD rfl (xF [(.slice none 0 0), (.slice none 0 0)] [(.slice none 0 0), (.slice none 0 0)] [] Tryz.underlying133 zr133 rfl pl133 rfl (fun _ h => by cases h) rfl) ?_
 refine qI rfl (qA [(.slice none 0 0), (.slice none 0 0)] (v := (.agg [(.slice none 0 0), (.slice none 0 0)].toArray)) rfl rfl cn.pins (fun c nq hp d4 hq d5 => ?_))
 have b4 := cn.step hq d5
 have d6 := d3.below d5
 have hr : Apart (some c) (some g) := zH (congrArg some hp) d3.lt
 have ht : w.heap.size ≤ c := by have := cn.size; omega
 refine qM (.pointer (some ⟨c, 0, none⟩)) ?_
 refine qe (zA (zB (zC ?_)))
 refine qD rfl (zO (k := 0) rfl Tryz.underlying28 rfl nz26 rfl) ?_
 refine qD rfl (zP (u := v) ag26 rfl (b4.pins _ _ _ (bt 0 _ rfl))) ?_
 refine qD rfl (zN Tryz.underlying26 (v := v) rfl hv) ?_
 refine qM (vJ (gs.length : Int)) ?_
 refine qe (zA (zB (zC ?_)))
 refine qI rfl (yZ (E := eInt) (e := 3) Tryz.underlying57 sz3 b4.pins (fun bu hw hx hy co d7 => ?_))
 have hz := b4.step hy co
 have h0 := d6.below co
 have h2 := d4.below co
 have h3 : Apart bu.ownBlock (some g) := zH d7 d6.lt
 have h4 : Apart bu.ownBlock (some c) := zH d7 d4.lt
 have h5 : Own eInt 3 cl hw w.heap.size bu ([]) := hx.weaken b4.size
 refine qM bu ?_
 refine qe (zA (zB (zB (zC ?_))))
 refine qM (vJ 0) ?_
 refine qe (zA ?_)
 refine zX ?_
 refine yQ (fun (k : Nat) (en : Nat → Value) (W : World) => ∃ (af : Nat → Value) (a : Nat) (atA : Value) (atsA : List Int) (uA : Value) (vA : Value) (nsA : List Nd) (bsA : List Int) (GA : Pin), en = (upd (upd (upd (upd (upd (upd (upd af 2 (.pointer (some ⟨b1, 0, none⟩))) 3 (.pointer (some ⟨bb, 0, none⟩))) 4 (.pointer (some ⟨g, 0, none⟩))) 5 (.pointer (some ⟨c, 0, none⟩))) 6 (vJ (gs.length : Int))) 7 atA) 8 (vJ (a : Int))) ∧ k = fs.length - a ∧ Ext noS G w GA W ∧ Pin.le cl GA ∧ (a ≤ fs.length) ∧ (PoolOk (bkq nsA bsA)) ∧ (NkOk (bkq nsA bsA) atsA (a * gs.length) (sumPhi fs gs)) ∧ (nsA.length ≤ a * gs.length) ∧ (Own eInt 3 GA W w.heap.size atA (atsA)) ∧ (Own eNode 68 GA W 0 uA (nsA)) ∧ (Own eInt 3 GA W 0 vA (bsA)) ∧ (Bx GA W g [(.slice none 0 0)]) ∧ (Bx GA W c [uA, vA]) ∧ (Apart atA.ownBlock uA.ownBlock) ∧ (Apart atA.ownBlock vA.ownBlock) ∧ (Apart atA.ownBlock (some g)) ∧ (Apart atA.ownBlock (some c)) ∧ (Apart uA.ownBlock vA.ownBlock) ∧ (Apart uA.ownBlock (some g)) ∧ (Apart uA.ownBlock (some c)) ∧ (Apart vA.ownBlock (some g)) ∧ (Apart vA.ownBlock (some c)) ∧ (Lo w noS uA.ownBlock) ∧ (Lo w noS vA.ownBlock)) _ ⟨_, 0, bu, [], (.slice none 0 0), (.slice none 0 0), [], [], cl, (pS 8 (pS 7 (pS 6 (pS 5 (pS 4 (pS 3 (pU 2))))))), rfl, hz, Pin.le_refl _, Nat.zero_le _, (bkq_ok Ar.empty), (by rw [Nat.zero_mul]; exact NkOk.start), (by simp), h5, (Own.nil _ _ _ _ _), (Own.nil _ _ _ _ _), h0, h2, apart_none.symm, apart_none.symm, h3, h4, apart_none, apart_none, apart_none, apart_none, apart_none, (lo_none _ _), (lo_none _ _)⟩ ?_
 rintro nr _ ns ⟨af, a, atA, atsA, uA, vA, nsA, bsA, GA, rfl, nt, bv, q, nu, hokA, hnkA, hblA, b5, d8, d9, ea, eb, h6, h7, h8, ia, ec, ib, ed, ic, ee, ie, ig⟩
 have hnlA := hnkA.len
 refine zB (zB (zC ?_))
 refine qM (vJ (a : Int)) ?_
 refine qD rfl (zO (k := 0) rfl Tryz.underlying28 rfl nz26 rfl) ?_
 refine qD rfl (zP (u := u) ag26 rfl ((Pins.of_le bv.pins (Pin.le_trans ae q)) _ _ _ (bs 0 _ rfl))) ?_
 refine qD rfl (zN Tryz.underlying26 (v := u) rfl hu) ?_
 refine qD rfl (yV rfl rfl) ?_
 refine qe (zA ?_)
 refine yI (p := ((a : Int) : Int) < (fs.length : Int)) rfl rfl (fun ih => ?_) (fun ih => ?_)
 ·skip
  have hmi : a * gs.length + gs.length ≤ 524288 := by have h9 := Nat.mul_le_mul_right gs.length (show a + 1 ≤ fs.length by omega); rw [Nat.add_mul, Nat.one_mul] at h9; omega
  have hci : ((a * gs.length : Nat) : Int) = (a : Int) * (gs.length : Int) := Int.natCast_mul ..
  have oo := xI hf.opts (show a < fs.length by omega)
  have hfe := hf.lens a (by omega)
  have nv := hfl a (by omega)
  refine wp_skip ?_
  refine zA (zB ?_)
  refine zX ?_
  refine zB (zC ?_)
  refine qM (vJ 0) ?_
  refine qe (zA ?_)
  refine zX ?_
  refine yQ (fun (k : Nat) (en : Nat → Value) (W : World) => ∃ (af : Nat → Value) (b : Nat) (atB : Value) (atsB : List Int) (uB : Value) (vB : Value) (nsB : List Nd) (bsB : List Int) (GB : Pin), en = (upd (upd (upd (upd (upd (upd (upd (upd af 2 (.pointer (some ⟨b1, 0, none⟩))) 3 (.pointer (some ⟨bb, 0, none⟩))) 4 (.pointer (some ⟨g, 0, none⟩))) 5 (.pointer (some ⟨c, 0, none⟩))) 6 (vJ (gs.length : Int))) 7 atB) 8 (vJ (a : Int))) 9 (vJ (b : Int))) ∧ k = gs.length - b ∧ Ext noS G w GB W ∧ Pin.le GA GB ∧ (b ≤ gs.length) ∧ (PoolOk (bkq nsB bsB)) ∧ (NkOk (bkq nsB bsB) atsB (a * gs.length + b) (sumPhi fs gs)) ∧ (nsB.length ≤ a * gs.length + b) ∧ (Own eInt 3 GB W w.heap.size atB (atsB)) ∧ (Own eNode 68 GB W 0 uB (nsB)) ∧ (Own eInt 3 GB W 0 vB (bsB)) ∧ (Bx GB W g [(.slice none 0 0)]) ∧ (Bx GB W c [uB, vB]) ∧ (Apart atB.ownBlock uB.ownBlock) ∧ (Apart atB.ownBlock vB.ownBlock) ∧ (Apart atB.ownBlock (some g)) ∧ (Apart atB.ownBlock (some c)) ∧ (Apart uB.ownBlock vB.ownBlock) ∧ (Apart uB.ownBlock (some g)) ∧ (Apart uB.ownBlock (some c)) ∧ (Apart vB.ownBlock (some g)) ∧ (Apart vB.ownBlock (some c)) ∧ (Lo w noS uB.ownBlock) ∧ (Lo w noS vB.ownBlock)) _ ⟨_, 0, atA, atsA, uA, vA, nsA, bsA, GA, (pS 9 (pS 8 (pS 7 (pS 6 (pS 5 (pS 4 (pS 3 (pU 2)))))))), rfl, bv, Pin.le_refl _, Nat.zero_le _, hokA, hnkA, hblA, b5, d8, d9, ea, eb, h6, h7, h8, ia, ec, ib, ed, ic, ee, ie, ig⟩ ?_
  rintro nw _ nx ⟨af, b, atB, atsB, uB, vB, nsB, bsB, GB, rfl, ny, b7, s, nz, hokB, hnkB, hblB, cp, cq, cr, ct, cu, ef, eg, cv, b8, eh, ei, ej, ek, el, em, eo⟩
  have hnlB := hnkB.len
  refine zB (zB (zC ?_))
  refine qM (vJ (b : Int)) ?_
  refine qM (vJ (gs.length : Int)) ?_
  refine qD rfl (yV rfl rfl) ?_
  refine qe (zA ?_)
  refine yI (p := ((b : Int) : Int) < (gs.length : Int)) rfl rfl (fun ii => ?_) (fun ii => ?_)
  ·skip
   have og := xI hg.opts (show b < gs.length by omega)
   have hge := hg.lens b (by omega)
   have n0 := hgl b (by omega)
   refine wp_skip ?_
   refine zA (zB ?_)
   refine zX ?_
   refine zB (zC ?_)
   refine qI rfl (yZ (E := eInt) (e := 3) Tryz.underlying57 sz3 b7.pins (fun az ij ik il bi bw => ?_))
   have cw := b7.step il bi
   have ep := cp.below bi
   have eq := cq.below bi
   have er := cr.below bi
   have es := ct.below bi
   have et := cu.below bi
   have im : Apart az.ownBlock atB.ownBlock := zI bw cp.lt
   have io : Apart az.ownBlock uB.ownBlock := zI bw cq.lt
   have ip : Apart az.ownBlock vB.ownBlock := zI bw cr.lt
   have iq : Apart az.ownBlock (some g) := zH bw ct.lt
   have ir : Apart az.ownBlock (some c) := zH bw cu.lt
   have eu : Own eInt 3 GB ij w.heap.size az ([]) := ik.weaken b7.size
   refine qI rfl (yZ (E := eInt) (e := 3) Tryz.underlying57 sz3 cw.pins (fun ag it iu iv bc bj => ?_))
   have iw := cw.step iv bc
   have ix := ep.below bc
   have iy := eq.below bc
   have iz := er.below bc
   have i0 := eu.below bc
   have i1 := es.below bc
   have i2 := et.below bc
   have i3 : Apart ag.ownBlock atB.ownBlock := zI bj ep.lt
   have i4 : Apart ag.ownBlock uB.ownBlock := zI bj eq.lt
   have i6 : Apart ag.ownBlock vB.ownBlock := zI bj er.lt
   have i7 : Apart ag.ownBlock az.ownBlock := zI bj eu.lt
   have i8 : Apart ag.ownBlock (some g) := zH bj es.lt
   have i9 : Apart ag.ownBlock (some c) := zH bj et.lt
   have ja : Own eInt 3 GB it w.heap.size ag ([]) := iu.weaken cw.size
   refine qM az ?_
   refine qM ag ?_
   refine qe (zA (zB (zB (zC ?_))))
   refine qM (vJ 0) ?_
   refine qe (zA ?_)
   refine zX ?_
   refine yQ (fun (k : Nat) (en : Nat → Value) (W : World) => ∃ (af : Nat → Value) (t : Nat) (ao : Value) (l3 : List Int) (aj : Pin), en = (upd (upd (upd (upd (upd (upd (upd (upd (upd (upd (upd af 2 (.pointer (some ⟨b1, 0, none⟩))) 3 (.pointer (some ⟨bb, 0, none⟩))) 4 (.pointer (some ⟨g, 0, none⟩))) 5 (.pointer (some ⟨c, 0, none⟩))) 6 (vJ (gs.length : Int))) 7 atB) 8 (vJ (a : Int))) 9 (vJ (b : Int))) 10 ao) 11 ag) 12 (vJ (t : Int))) ∧ k = (fs.getD a default).l.length - t ∧ Ext noS G w aj W ∧ Pin.le GB aj ∧ (t ≤ (fs.getD a default).l.length) ∧ (l3 = atL atsB (((fs.getD a default).l.take t).map (fun o => o * (gs.length : Int) + (b : Int)))) ∧ (l3.length = t) ∧ (Own eInt 3 aj W w.heap.size ao (l3)) ∧ (Own eInt 3 aj W w.heap.size atB (atsB)) ∧ (Own eNode 68 aj W 0 uB (nsB)) ∧ (Own eInt 3 aj W 0 vB (bsB)) ∧ (Own eInt 3 aj W w.heap.size ag ([])) ∧ (Bx aj W g [(.slice none 0 0)]) ∧ (Bx aj W c [uB, vB]) ∧ (Apart ao.ownBlock atB.ownBlock) ∧ (Apart ao.ownBlock uB.ownBlock) ∧ (Apart ao.ownBlock vB.ownBlock) ∧ (Apart ao.ownBlock ag.ownBlock) ∧ (Apart ao.ownBlock (some g)) ∧ (Apart ao.ownBlock (some c))) _ ⟨_, 0, az, [], GB, (pS 12 (pS 11 (pS 10 (pS 9 (pS 8 (pS 7 (pS 6 (pS 5 (pS 4 (pS 3 (pU 2))))))))))), rfl, iw, Pin.le_refl _, Nat.zero_le _, (by simp [atL]), rfl, i0, ix, iy, iz, ja, i1, i2, im, io, ip, i7.symm, iq, ir⟩ ?_
   rintro n1 _ n2 ⟨af, t, ao, l3, aj, rfl, n3, av, x, g8, ev, ew, ex, b9, ey, ez, e0, e1, e2, cx, cy, cz, c0, c1, c2⟩
   refine zB (zB (zC ?_))
   refine qM (vJ (t : Int)) ?_
   refine qD rfl (zO (k := 0) rfl Tryz.underlying28 rfl nz26 rfl) ?_
   refine qD rfl (zP (u := u) ag26 rfl ((Pins.of_le av.pins (Pin.le_trans (Pin.le_trans (Pin.le_trans ae q) s) x)) _ _ _ (bs 0 _ rfl))) ?_
   refine qM (vJ (a : Int)) ?_
   refine qD rfl (zJ Tryz.underlying26 sz68 (v := u) rfl rfl hu (by omega) (by omega)) ?_
   refine qD rfl (xD (off := 0) Tryz.underlying68 rfl rfl nz57 (z := (a : Int)) (k := 0) rfl hu (by omega) (by omega)) ?_
   obtain ⟨jb, e3, jc⟩ := nm_nl (hu.at (z := (a : Int)) (by omega) (by omega)) (j := a) rfl
   have n4 := e3.max
   refine qD rfl (jc ag57 rfl (Pins.of_le av.pins (Pin.le_trans (Pin.le_trans (Pin.le_trans (Pin.le_trans an ae) q) s) x))) ?_
   refine qD rfl (zN Tryz.underlying57 (v := jb) rfl e3) ?_
   refine qD rfl (yV rfl rfl) ?_
   refine qe (zA ?_)
   refine yI (p := ((t : Int) : Int) < (((fs.getD a default).l).length : Int)) rfl rfl (fun jd => ?_) (fun jd => ?_)
   ·skip
    have e5 := oo.1 _ (yS (d := (0 : Int)) (show t < (fs.getD a default).l.length by omega))
    have n5 := mul_at (n := (gs.length : Int)) e5.1 e5.2 (by omega)
    refine wp_skip ?_
    refine zA (zB ?_)
    refine zX ?_
    refine zC ?_
    refine qM ao ?_
    refine qM atB ?_
    refine qD rfl (zO (k := 0) rfl Tryz.underlying28 rfl nz26 rfl) ?_
    refine qD rfl (zP (u := u) ag26 rfl ((Pins.of_le av.pins (Pin.le_trans (Pin.le_trans (Pin.le_trans ae q) s) x)) _ _ _ (bs 0 _ rfl))) ?_
    refine qM (vJ (a : Int)) ?_
    refine qD rfl (zJ Tryz.underlying26 sz68 (v := u) rfl rfl hu (by omega) (by omega)) ?_
    refine qD rfl (xD (off := 0) Tryz.underlying68 rfl rfl nz57 (z := (a : Int)) (k := 0) rfl hu (by omega) (by omega)) ?_
    obtain ⟨je, c3, jf⟩ := nm_nl (hu.at (z := (a : Int)) (by omega) (by omega)) (j := a) rfl
    have n6 := c3.max
    refine qD rfl (jf ag57 rfl (Pins.of_le av.pins (Pin.le_trans (Pin.le_trans (Pin.le_trans (Pin.le_trans an ae) q) s) x))) ?_
    refine qM (vJ (t : Int)) ?_
    refine qD rfl (zJ Tryz.underlying57 sz3 (v := je) rfl rfl c3 (by omega) (by omega)) ?_
    refine qD rfl (zK (r := ((fs.getD a default).l).getD t 0) rfl ag3 (z := (t : Int)) rfl c3 (Pins.of_le av.pins (Pin.le_trans (Pin.le_trans (Pin.le_trans (Pin.le_trans an ae) q) s) x)) (by omega) (by omega)) ?_
    refine qM (vJ (gs.length : Int)) ?_
    refine qD rfl (r_mul rfl rfl (by omega)) ?_
    refine qM (vJ (b : Int)) ?_
    refine qD rfl (yR rfl rfl (by omega)) ?_
    refine qD rfl (zJ Tryz.underlying57 sz3 (v := atB) rfl rfl b9.read (by omega) (by omega)) ?_
    refine qD rfl (zK (r := atsB.getD (((((fs.getD a default).l).getD t 0) * (gs.length : Int)) + (b : Int)).toNat 0) rfl ag3 (z := (((((fs.getD a default).l).getD t 0) * (gs.length : Int)) + (b : Int))) rfl b9.read (Gadd.pins av.pins atB) (by omega) (by omega)) ?_
    refine qI rfl (yU (E := eInt) (e := 3) [(vJ (atsB.getD (((((fs.getD a default).l).getD t 0) * (gs.length : Int)) + (b : Int)).toNat 0))] [atsB.getD (((((fs.getD a default).l).getD t 0) * (gs.length : Int)) + (b : Int)).toNat 0] Tryz.underlying57 sz3 zr3 (by exact xQ (by rfl)) (yC (by rfl)) rfl rfl rfl rfl (by decide) av.pins (fun e7 jg jh ji a1 n7 => ?_))
    have c4 := av.step ji a1
    have e8 := ex.below a1
    have e9 := b9.below a1
    have fa := ey.below a1
    have fb := ez.below a1
    have fc := e0.below a1
    have fd := e1.below a1
    have fe := e2.below a1
    have jj : Own eInt 3 aj jg w.heap.size e7 ([atsB.getD (((((fs.getD a default).l).getD t 0) * (gs.length : Int)) + (b : Int)).toNat 0]) := jh.weaken av.size
    refine qI rfl (oA (E := eInt) (v := ao) (u := e7) 8 Tryz.underlying57 ap3 (by decide) rfl rfl c4.pins e8 jj.src (c4.size) (fun a2 n8 jk jl bd bk => ?_))
    have jm := c4.write jl bd ((yB e8))
    have jn := e9.keptA bd cx.symm
    have jo := fa.keptA bd cy.symm
    have jp := fb.keptA bd cz.symm
    have jq := fc.keptA bd c0.symm
    have jr := fd.keptA bd c1.symm
    have js := fe.keptA bd c2.symm
    have jt : Apart atB.ownBlock a2.ownBlock := zG cx.symm bk e9.lt
    have ju : Apart uB.ownBlock a2.ownBlock := zG cy.symm bk fa.lt
    have jv : Apart vB.ownBlock a2.ownBlock := zG cz.symm bk fb.lt
    have jw : Apart ag.ownBlock a2.ownBlock := zG c0.symm bk fc.lt
    have jx : Apart (some g) a2.ownBlock := zL c1.symm bk fd.lt
    have jy : Apart (some c) a2.ownBlock := zL c2.symm bk fe.lt
    have n9 : (l3 ++ ([atsB.getD (((((fs.getD a default).l).getD t 0) * (gs.length : Int)) + (b : Int)).toNat 0])).length = l3.length + 1 := List.length_append
    refine qM a2 ?_
    refine qe ?_
    refine yJ ?_
    refine zA (zC ?_)
    refine qM (vJ (t : Int)) ?_
    refine qD rfl (yR rfl rfl (by omega)) ?_
    refine qM (vJ ((t : Int) + 1)) ?_
    refine qe ?_
    refine yK ?_
    refine ⟨_, ?_, _, rfl, _, t + 1, a2, l3 ++ ([atsB.getD (((((fs.getD a default).l).getD t 0) * (gs.length : Int)) + (b : Int)).toNat 0]), aj, (pS 12 (pS 11 (pS 10 (pS 9 (pS 8 (pS 7 (pS 6 (pS 5 (pS 4 (pS 3 (pU 2))))))))))), rfl, jm, x, (by omega), (by rw [ev]; exact (ix_next (f := (fun o => o * (gs.length : Int) + (b : Int))) ([]) (by omega)).symm), (by rw [List.length_append, ew]; rfl), jk, jn, jo, jp, jq, jr, js, jt.symm, ju.symm, jv.symm, jw.symm, jx.symm, jy.symm⟩
    omega
   refine wp_exit ?_
   refine yA ?_
   refine yN ?_
   refine yL ?_
   refine zA (zB (zB (zC ?_)))
   refine qM (vJ 0) ?_
   refine qe (zA ?_)
   refine zX ?_
   refine yQ (fun (k : Nat) (en : Nat → Value) (W : World) => ∃ (af : Nat → Value) (y : Nat) (ac : Value) (l4 : List Int) (ak : Pin), en = (upd (upd (upd (upd (upd (upd (upd (upd (upd (upd (upd af 2 (.pointer (some ⟨b1, 0, none⟩))) 3 (.pointer (some ⟨bb, 0, none⟩))) 4 (.pointer (some ⟨g, 0, none⟩))) 5 (.pointer (some ⟨c, 0, none⟩))) 6 (vJ (gs.length : Int))) 7 atB) 8 (vJ (a : Int))) 9 (vJ (b : Int))) 10 ac) 11 ag) 13 (vJ (y : Int))) ∧ k = (gs.getD b default).l.length - y ∧ Ext noS G w ak W ∧ Pin.le aj ak ∧ (y ≤ (gs.getD b default).l.length) ∧ (l4 = atL atsB ((fs.getD a default).l.map (fun o => o * (gs.length : Int) + (b : Int))) ++ atL atsB (((gs.getD b default).l.take y).map (fun o => (a : Int) * (gs.length : Int) + o))) ∧ (l4.length = (fs.getD a default).l.length + y) ∧ (Own eInt 3 ak W w.heap.size ac (l4)) ∧ (Own eInt 3 ak W w.heap.size atB (atsB)) ∧ (Own eNode 68 ak W 0 uB (nsB)) ∧ (Own eInt 3 ak W 0 vB (bsB)) ∧ (Own eInt 3 ak W w.heap.size ag ([])) ∧ (Bx ak W g [(.slice none 0 0)]) ∧ (Bx ak W c [uB, vB]) ∧ (Apart ac.ownBlock atB.ownBlock) ∧ (Apart ac.ownBlock uB.ownBlock) ∧ (Apart ac.ownBlock vB.ownBlock) ∧ (Apart ac.ownBlock ag.ownBlock) ∧ (Apart ac.ownBlock (some g)) ∧ (Apart ac.ownBlock (some c))) _ ⟨_, 0, ao, l3, aj, (pS 13 (pS 11 (pS 10 (pS 9 (pS 8 (pS 7 (pS 6 (pS 5 (pS 4 (pS 3 (pU 2))))))))))), rfl, av, Pin.le_refl _, Nat.zero_le _, (by rw [ev, qF (by omega)]; simp [atL]), (by rw [ew]; omega), ex, b9, ey, ez, e0, e1, e2, cx, cy, cz, c0, c1, c2⟩ ?_
   rintro oa _ ob ⟨af, y, ac, l4, ak, rfl, oc, aw, ah, od, ff, jz, fg, ca, fh, fi, fj, fk, fl, c5, c6, c7, c8, c9, da⟩
   refine zB (zB (zC ?_))
   refine qM (vJ (y : Int)) ?_
   refine qD rfl (zO (k := 0) rfl Tryz.underlying28 rfl nz26 rfl) ?_
   refine qD rfl (zP (u := v) ag26 rfl ((Pins.of_le aw.pins (Pin.le_trans (Pin.le_trans (Pin.le_trans q s) x) ah)) _ _ _ (bt 0 _ rfl))) ?_
   refine qM (vJ (b : Int)) ?_
   refine qD rfl (zJ Tryz.underlying26 sz68 (v := v) rfl rfl hv (by omega) (by omega)) ?_
   refine qD rfl (xD (off := 0) Tryz.underlying68 rfl rfl nz57 (z := (b : Int)) (k := 0) rfl hv (by omega) (by omega)) ?_
   obtain ⟨j0, fm, j1⟩ := nm_nl (hv.at (z := (b : Int)) (by omega) (by omega)) (j := b) rfl
   have oe := fm.max
   refine qD rfl (j1 ag57 rfl (Pins.of_le aw.pins (Pin.le_trans (Pin.le_trans (Pin.le_trans (Pin.le_trans (Pin.le_trans an ae) q) s) x) ah))) ?_
   refine qD rfl (zN Tryz.underlying57 (v := j0) rfl fm) ?_
   refine qD rfl (yV rfl rfl) ?_
   refine qe (zA ?_)
   refine yI (p := ((y : Int) : Int) < (((gs.getD b default).l).length : Int)) rfl rfl (fun j2 => ?_) (fun j2 => ?_)
   ·skip
    have oh := og.1 _ (yS (d := (0 : Int)) (show y < (gs.getD b default).l.length by omega))
    have oi := Int.mul_nonneg (show (0 : Int) ≤ (a : Int) by omega) (show (0 : Int) ≤ (gs.length : Int) by omega)
    refine wp_skip ?_
    refine zA (zB ?_)
    refine zX ?_
    refine zC ?_
    refine qM ac ?_
    refine qM atB ?_
    refine qM (vJ (a : Int)) ?_
    refine qM (vJ (gs.length : Int)) ?_
    refine qD rfl (r_mul rfl rfl (by omega)) ?_
    refine qD rfl (zO (k := 0) rfl Tryz.underlying28 rfl nz26 rfl) ?_
    refine qD rfl (zP (u := v) ag26 rfl ((Pins.of_le aw.pins (Pin.le_trans (Pin.le_trans (Pin.le_trans q s) x) ah)) _ _ _ (bt 0 _ rfl))) ?_
    refine qM (vJ (b : Int)) ?_
    refine qD rfl (zJ Tryz.underlying26 sz68 (v := v) rfl rfl hv (by omega) (by omega)) ?_
    refine qD rfl (xD (off := 0) Tryz.underlying68 rfl rfl nz57 (z := (b : Int)) (k := 0) rfl hv (by omega) (by omega)) ?_
    obtain ⟨j3, db, j4⟩ := nm_nl (hv.at (z := (b : Int)) (by omega) (by omega)) (j := b) rfl
    have oj := db.max
    refine qD rfl (j4 ag57 rfl (Pins.of_le aw.pins (Pin.le_trans (Pin.le_trans (Pin.le_trans (Pin.le_trans (Pin.le_trans an ae) q) s) x) ah))) ?_
    refine qM (vJ (y : Int)) ?_
    refine qD rfl (zJ Tryz.underlying57 sz3 (v := j3) rfl rfl db (by omega) (by omega)) ?_
    refine qD rfl (zK (r := ((gs.getD b default).l).getD y 0) rfl ag3 (z := (y : Int)) rfl db (Pins.of_le aw.pins (Pin.le_trans (Pin.le_trans (Pin.le_trans (Pin.le_trans (Pin.le_trans an ae) q) s) x) ah)) (by omega) (by omega)) ?_
    refine qD rfl (yR rfl rfl (by omega)) ?_
    refine qD rfl (zJ Tryz.underlying57 sz3 (v := atB) rfl rfl ca.read (by omega) (by omega)) ?_
    refine qD rfl (zK (r := atsB.getD (((a : Int) * (gs.length : Int)) + (((gs.getD b default).l).getD y 0)).toNat 0) rfl ag3 (z := (((a : Int) * (gs.length : Int)) + (((gs.getD b default).l).getD y 0))) rfl ca.read (Gadd.pins aw.pins atB) (by omega) (by omega)) ?_
    refine qI rfl (yU (E := eInt) (e := 3) [(vJ (atsB.getD (((a : Int) * (gs.length : Int)) + (((gs.getD b default).l).getD y 0)).toNat 0))] [atsB.getD (((a : Int) * (gs.length : Int)) + (((gs.getD b default).l).getD y 0)).toNat 0] Tryz.underlying57 sz3 zr3 (by exact xQ (by rfl)) (yC (by rfl)) rfl rfl rfl rfl (by decide) aw.pins (fun fn j6 j7 j8 a3 ol => ?_))
    have dc := aw.step j8 a3
    have fo := fg.below a3
    have fp := ca.below a3
    have fq := fh.below a3
    have fr := fi.below a3
    have ft := fj.below a3
    have fu := fk.below a3
    have fv := fl.below a3
    have j9 : Own eInt 3 ak j6 w.heap.size fn ([atsB.getD (((a : Int) * (gs.length : Int)) + (((gs.getD b default).l).getD y 0)).toNat 0]) := j7.weaken aw.size
    refine qI rfl (oA (E := eInt) (v := ac) (u := fn) 8 Tryz.underlying57 ap3 (by decide) rfl rfl dc.pins fo j9.src (dc.size) (fun a4 om ka kb be bl => ?_))
    have kc := dc.write kb be ((yB fo))
    have kd := fp.keptA be c5.symm
    have ke := fq.keptA be c6.symm
    have kf := fr.keptA be c7.symm
    have kg := ft.keptA be c8.symm
    have kh := fu.keptA be c9.symm
    have ki := fv.keptA be da.symm
    have kj : Apart atB.ownBlock a4.ownBlock := zG c5.symm bl fp.lt
    have kk : Apart uB.ownBlock a4.ownBlock := zG c6.symm bl fq.lt
    have kl : Apart vB.ownBlock a4.ownBlock := zG c7.symm bl fr.lt
    have km : Apart ag.ownBlock a4.ownBlock := zG c8.symm bl ft.lt
    have kn : Apart (some g) a4.ownBlock := zL c9.symm bl fu.lt
    have ko : Apart (some c) a4.ownBlock := zL da.symm bl fv.lt
    have op : (l4 ++ ([atsB.getD (((a : Int) * (gs.length : Int)) + (((gs.getD b default).l).getD y 0)).toNat 0])).length = l4.length + 1 := List.length_append
    refine qM a4 ?_
    refine qe ?_
    refine yJ ?_
    refine zA (zC ?_)
    refine qM (vJ (y : Int)) ?_
    refine qD rfl (yR rfl rfl (by omega)) ?_
    refine qM (vJ ((y : Int) + 1)) ?_
    refine qe ?_
    refine yK ?_
    refine ⟨_, ?_, _, rfl, _, y + 1, a4, l4 ++ ([atsB.getD (((a : Int) * (gs.length : Int)) + (((gs.getD b default).l).getD y 0)).toNat 0]), ak, (pS 13 (pS 11 (pS 10 (pS 9 (pS 8 (pS 7 (pS 6 (pS 5 (pS 4 (pS 3 (pU 2))))))))))), rfl, kc, ah, (by omega), (by rw [ff]; exact (ix_next (f := (fun o => (a : Int) * (gs.length : Int) + o)) (atL atsB ((fs.getD a default).l.map (fun o => o * (gs.length : Int) + (b : Int)))) (by omega)).symm), (by rw [List.length_append, jz]; simp; omega), ka, kd, ke, kf, kg, kh, ki, kj.symm, kk.symm, kl.symm, km.symm, kn.symm, ko.symm⟩
    omega
   refine wp_exit ?_
   refine yA ?_
   refine yN ?_
   refine yL ?_
   refine zA (zB (zB (zC ?_)))
   refine qM (vJ 0) ?_
   refine qe (zA ?_)
   refine zX ?_
   refine yQ (fun (k : Nat) (en : Nat → Value) (W : World) => ∃ (af : Nat → Value) (q5 : Nat) (ap : Value) (l5 : List Int) (al : Pin), en = (upd (upd (upd (upd (upd (upd (upd (upd (upd (upd (upd af 2 (.pointer (some ⟨b1, 0, none⟩))) 3 (.pointer (some ⟨bb, 0, none⟩))) 4 (.pointer (some ⟨g, 0, none⟩))) 5 (.pointer (some ⟨c, 0, none⟩))) 6 (vJ (gs.length : Int))) 7 atB) 8 (vJ (a : Int))) 9 (vJ (b : Int))) 10 ac) 11 ap) 14 (vJ (q5 : Int))) ∧ k = (fs.getD a default).r.length - q5 ∧ Ext noS G w al W ∧ Pin.le ak al ∧ (q5 ≤ (fs.getD a default).r.length) ∧ (l5 = atL atsB (((fs.getD a default).r.take q5).map (fun o => o * (gs.length : Int) + (b : Int)))) ∧ (l5.length = q5) ∧ (Own eInt 3 al W w.heap.size ap (l5)) ∧ (Own eInt 3 al W w.heap.size ac (l4)) ∧ (Own eInt 3 al W w.heap.size atB (atsB)) ∧ (Own eNode 68 al W 0 uB (nsB)) ∧ (Own eInt 3 al W 0 vB (bsB)) ∧ (Bx al W g [(.slice none 0 0)]) ∧ (Bx al W c [uB, vB]) ∧ (Apart ap.ownBlock ac.ownBlock) ∧ (Apart ap.ownBlock atB.ownBlock) ∧ (Apart ap.ownBlock uB.ownBlock) ∧ (Apart ap.ownBlock vB.ownBlock) ∧ (Apart ap.ownBlock (some g)) ∧ (Apart ap.ownBlock (some c))) _ ⟨_, 0, ag, [], ak, (pS 14 (pS 11 (pS 10 (pS 9 (pS 8 (pS 7 (pS 6 (pS 5 (pS 4 (pS 3 (pU 2))))))))))), rfl, aw, Pin.le_refl _, Nat.zero_le _, (by simp [atL]), rfl, fj, fg, ca, fh, fi, fk, fl, c8.symm, i3, i4, i6, i8, i9⟩ ?_
   rintro oq _ os ⟨af, q5, ap, l5, al, rfl, ot, ax, aq, ow, fw, fx, fy, fz, cb, f0, f1, f2, f3, dd, de, df, dg, dh, di⟩
   refine zB (zB (zC ?_))
   refine qM (vJ (q5 : Int)) ?_
   refine qD rfl (zO (k := 0) rfl Tryz.underlying28 rfl nz26 rfl) ?_
   refine qD rfl (zP (u := u) ag26 rfl ((Pins.of_le ax.pins (Pin.le_trans (Pin.le_trans (Pin.le_trans (Pin.le_trans (Pin.le_trans ae q) s) x) ah) aq)) _ _ _ (bs 0 _ rfl))) ?_
   refine qM (vJ (a : Int)) ?_
   refine qD rfl (zJ Tryz.underlying26 sz68 (v := u) rfl rfl hu (by omega) (by omega)) ?_
   refine qD rfl (xD (off := 1) Tryz.underlying68 rfl rfl nz57 (z := (a : Int)) (k := 0) rfl hu (by omega) (by omega)) ?_
   obtain ⟨kp, f4, kq⟩ := nm_nr (hu.at (z := (a : Int)) (by omega) (by omega)) (j := a) rfl
   have ox := f4.max
   refine qD rfl (kq ag57 rfl (Pins.of_le ax.pins (Pin.le_trans (Pin.le_trans (Pin.le_trans (Pin.le_trans (Pin.le_trans (Pin.le_trans an ae) q) s) x) ah) aq))) ?_
   refine qD rfl (zN Tryz.underlying57 (v := kp) rfl f4) ?_
   refine qD rfl (yV rfl rfl) ?_
   refine qe (zA ?_)
   refine yI (p := ((q5 : Int) : Int) < (((fs.getD a default).r).length : Int)) rfl rfl (fun kr => ?_) (fun kr => ?_)
   ·skip
    have f5 := oo.2 _ (yS (d := (0 : Int)) (show q5 < (fs.getD a default).r.length by omega))
    have oy := mul_at (n := (gs.length : Int)) f5.1 f5.2 (by omega)
    refine wp_skip ?_
    refine zA (zB ?_)
    refine zX ?_
    refine zC ?_
    refine qM ap ?_
    refine qM atB ?_
    refine qD rfl (zO (k := 0) rfl Tryz.underlying28 rfl nz26 rfl) ?_
    refine qD rfl (zP (u := u) ag26 rfl ((Pins.of_le ax.pins (Pin.le_trans (Pin.le_trans (Pin.le_trans (Pin.le_trans (Pin.le_trans ae q) s) x) ah) aq)) _ _ _ (bs 0 _ rfl))) ?_
    refine qM (vJ (a : Int)) ?_
    refine qD rfl (zJ Tryz.underlying26 sz68 (v := u) rfl rfl hu (by omega) (by omega)) ?_
    refine qD rfl (xD (off := 1) Tryz.underlying68 rfl rfl nz57 (z := (a : Int)) (k := 0) rfl hu (by omega) (by omega)) ?_
    obtain ⟨ks, dj, kt⟩ := nm_nr (hu.at (z := (a : Int)) (by omega) (by omega)) (j := a) rfl
    have oz := dj.max
    refine qD rfl (kt ag57 rfl (Pins.of_le ax.pins (Pin.le_trans (Pin.le_trans (Pin.le_trans (Pin.le_trans (Pin.le_trans (Pin.le_trans an ae) q) s) x) ah) aq))) ?_
    refine qM (vJ (q5 : Int)) ?_
    refine qD rfl (zJ Tryz.underlying57 sz3 (v := ks) rfl rfl dj (by omega) (by omega)) ?_
    refine qD rfl (zK (r := ((fs.getD a default).r).getD q5 0) rfl ag3 (z := (q5 : Int)) rfl dj (Pins.of_le ax.pins (Pin.le_trans (Pin.le_trans (Pin.le_trans (Pin.le_trans (Pin.le_trans (Pin.le_trans an ae) q) s) x) ah) aq)) (by omega) (by omega)) ?_
    refine qM (vJ (gs.length : Int)) ?_
    refine qD rfl (r_mul rfl rfl (by omega)) ?_
    refine qM (vJ (b : Int)) ?_
    refine qD rfl (yR rfl rfl (by omega)) ?_
    refine qD rfl (zJ Tryz.underlying57 sz3 (v := atB) rfl rfl cb.read (by omega) (by omega)) ?_
    refine qD rfl (zK (r := atsB.getD (((((fs.getD a default).r).getD q5 0) * (gs.length : Int)) + (b : Int)).toNat 0) rfl ag3 (z := (((((fs.getD a default).r).getD q5 0) * (gs.length : Int)) + (b : Int))) rfl cb.read (Gadd.pins ax.pins atB) (by omega) (by omega)) ?_
    refine qI rfl (yU (E := eInt) (e := 3) [(vJ (atsB.getD (((((fs.getD a default).r).getD q5 0) * (gs.length : Int)) + (b : Int)).toNat 0))] [atsB.getD (((((fs.getD a default).r).getD q5 0) * (gs.length : Int)) + (b : Int)).toNat 0] Tryz.underlying57 sz3 zr3 (by exact xQ (by rfl)) (yC (by rfl)) rfl rfl rfl rfl (by decide) ax.pins (fun f6 ku kv kw a6 o0 => ?_))
    have dk := ax.step kw a6
    have f7 := fy.below a6
    have f8 := fz.below a6
    have f9 := cb.below a6
    have ga := f0.below a6
    have gb := f1.below a6
    have gc := f2.below a6
    have gd := f3.below a6
    have kx : Own eInt 3 al ku w.heap.size f6 ([atsB.getD (((((fs.getD a default).r).getD q5 0) * (gs.length : Int)) + (b : Int)).toNat 0]) := kv.weaken ax.size
    refine qI rfl (oA (E := eInt) (v := ap) (u := f6) 8 Tryz.underlying57 ap3 (by decide) rfl rfl dk.pins f7 kx.src (dk.size) (fun a7 o1 ky kz bf bm => ?_))
    have k0 := dk.write kz bf ((yB f7))
    have k1 := f8.keptA bf dd.symm
    have k2 := f9.keptA bf de.symm
    have k3 := ga.keptA bf df.symm
    have k4 := gb.keptA bf dg.symm
    have k5 := gc.keptA bf dh.symm
    have k6 := gd.keptA bf di.symm
    have k7 : Apart ac.ownBlock a7.ownBlock := zG dd.symm bm f8.lt
    have k8 : Apart atB.ownBlock a7.ownBlock := zG de.symm bm f9.lt
    have k9 : Apart uB.ownBlock a7.ownBlock := zG df.symm bm ga.lt
    have la : Apart vB.ownBlock a7.ownBlock := zG dg.symm bm gb.lt
    have lb : Apart (some g) a7.ownBlock := zL dh.symm bm gc.lt
    have lc : Apart (some c) a7.ownBlock := zL di.symm bm gd.lt
    have o2 : (l5 ++ ([atsB.getD (((((fs.getD a default).r).getD q5 0) * (gs.length : Int)) + (b : Int)).toNat 0])).length = l5.length + 1 := List.length_append
    refine qM a7 ?_
    refine qe ?_
    refine yJ ?_
    refine zA (zC ?_)
    refine qM (vJ (q5 : Int)) ?_
    refine qD rfl (yR rfl rfl (by omega)) ?_
    refine qM (vJ ((q5 : Int) + 1)) ?_
    refine qe ?_
    refine yK ?_
    refine ⟨_, ?_, _, rfl, _, q5 + 1, a7, l5 ++ ([atsB.getD (((((fs.getD a default).r).getD q5 0) * (gs.length : Int)) + (b : Int)).toNat 0]), al, (pS 14 (pS 11 (pS 10 (pS 9 (pS 8 (pS 7 (pS 6 (pS 5 (pS 4 (pS 3 (pU 2))))))))))), rfl, k0, aq, (by omega), (by rw [fw]; exact (ix_next (f := (fun o => o * (gs.length : Int) + (b : Int))) ([]) (by omega)).symm), (by rw [List.length_append, fx]; rfl), ky, k1, k2, k3, k4, k5, k6, k7.symm, k8.symm, k9.symm, la.symm, lb.symm, lc.symm⟩
    omega
   refine wp_exit ?_
   refine yA ?_
   refine yN ?_
   refine yL ?_
   refine zA (zB (zB (zC ?_)))
   refine qM (vJ 0) ?_
   refine qe (zA ?_)
   refine zX ?_
   refine yQ (fun (k : Nat) (en : Nat → Value) (W : World) => ∃ (af : Nat → Value) (q6 : Nat) (am : Value) (l6 : List Int) (au : Pin), en = (upd (upd (upd (upd (upd (upd (upd (upd (upd (upd (upd af 2 (.pointer (some ⟨b1, 0, none⟩))) 3 (.pointer (some ⟨bb, 0, none⟩))) 4 (.pointer (some ⟨g, 0, none⟩))) 5 (.pointer (some ⟨c, 0, none⟩))) 6 (vJ (gs.length : Int))) 7 atB) 8 (vJ (a : Int))) 9 (vJ (b : Int))) 10 ac) 11 am) 15 (vJ (q6 : Int))) ∧ k = (gs.getD b default).r.length - q6 ∧ Ext noS G w au W ∧ Pin.le al au ∧ (q6 ≤ (gs.getD b default).r.length) ∧ (l6 = atL atsB ((fs.getD a default).r.map (fun o => o * (gs.length : Int) + (b : Int))) ++ atL atsB (((gs.getD b default).r.take q6).map (fun o => (a : Int) * (gs.length : Int) + o))) ∧ (l6.length = (fs.getD a default).r.length + q6) ∧ (Own eInt 3 au W w.heap.size am (l6)) ∧ (Own eInt 3 au W w.heap.size ac (l4)) ∧ (Own eInt 3 au W w.heap.size atB (atsB)) ∧ (Own eNode 68 au W 0 uB (nsB)) ∧ (Own eInt 3 au W 0 vB (bsB)) ∧ (Bx au W g [(.slice none 0 0)]) ∧ (Bx au W c [uB, vB]) ∧ (Apart am.ownBlock ac.ownBlock) ∧ (Apart am.ownBlock atB.ownBlock) ∧ (Apart am.ownBlock uB.ownBlock) ∧ (Apart am.ownBlock vB.ownBlock) ∧ (Apart am.ownBlock (some g)) ∧ (Apart am.ownBlock (some c))) _ ⟨_, 0, ap, l5, al, (pS 15 (pS 11 (pS 10 (pS 9 (pS 8 (pS 7 (pS 6 (pS 5 (pS 4 (pS 3 (pU 2))))))))))), rfl, ax, Pin.le_refl _, Nat.zero_le _, (by rw [fw, qF (by omega)]; simp [atL]), (by rw [fx]; omega), fy, fz, cb, f0, f1, f2, f3, dd, de, df, dg, dh, di⟩ ?_
   rintro o3 _ o4 ⟨af, q6, am, l6, au, rfl, o5, ay, bg, o6, ge, ld, gf, gg, cc, gh, gi, gj, gk, dl, dm, dn, dp, dq, dr⟩
   refine zB (zB (zC ?_))
   refine qM (vJ (q6 : Int)) ?_
   refine qD rfl (zO (k := 0) rfl Tryz.underlying28 rfl nz26 rfl) ?_
   refine qD rfl (zP (u := v) ag26 rfl ((Pins.of_le ay.pins (Pin.le_trans (Pin.le_trans (Pin.le_trans (Pin.le_trans (Pin.le_trans q s) x) ah) aq) bg)) _ _ _ (bt 0 _ rfl))) ?_
   refine qM (vJ (b : Int)) ?_
   refine qD rfl (zJ Tryz.underlying26 sz68 (v := v) rfl rfl hv (by omega) (by omega)) ?_
   refine qD rfl (xD (off := 1) Tryz.underlying68 rfl rfl nz57 (z := (b : Int)) (k := 0) rfl hv (by omega) (by omega)) ?_
   obtain ⟨lf, gl, lg⟩ := nm_nr (hv.at (z := (b : Int)) (by omega) (by omega)) (j := b) rfl
   have o7 := gl.max
   refine qD rfl (lg ag57 rfl (Pins.of_le ay.pins (Pin.le_trans (Pin.le_trans (Pin.le_trans (Pin.le_trans (Pin.le_trans (Pin.le_trans (Pin.le_trans an ae) q) s) x) ah) aq) bg))) ?_
   refine qD rfl (zN Tryz.underlying57 (v := lf) rfl gl) ?_
   refine qD rfl (yV rfl rfl) ?_
   refine qe (zA ?_)
   refine yI (p := ((q6 : Int) : Int) < (((gs.getD b default).r).length : Int)) rfl rfl (fun lh => ?_) (fun lh => ?_)
   ·skip
    have o8 := og.2 _ (yS (d := (0 : Int)) (show q6 < (gs.getD b default).r.length by omega))
    have o9 := Int.mul_nonneg (show (0 : Int) ≤ (a : Int) by omega) (show (0 : Int) ≤ (gs.length : Int) by omega)
    refine wp_skip ?_
    refine zA (zB ?_)
    refine zX ?_
    refine zC ?_
    refine qM am ?_
    refine qM atB ?_
    refine qM (vJ (a : Int)) ?_
    refine qM (vJ (gs.length : Int)) ?_
    refine qD rfl (r_mul rfl rfl (by omega)) ?_
    refine qD rfl (zO (k := 0) rfl Tryz.underlying28 rfl nz26 rfl) ?_
    refine qD rfl (zP (u := v) ag26 rfl ((Pins.of_le ay.pins (Pin.le_trans (Pin.le_trans (Pin.le_trans (Pin.le_trans (Pin.le_trans q s) x) ah) aq) bg)) _ _ _ (bt 0 _ rfl))) ?_
    refine qM (vJ (b : Int)) ?_
    refine qD rfl (zJ Tryz.underlying26 sz68 (v := v) rfl rfl hv (by omega) (by omega)) ?_
    refine qD rfl (xD (off := 1) Tryz.underlying68 rfl rfl nz57 (z := (b : Int)) (k := 0) rfl hv (by omega) (by omega)) ?_
    obtain ⟨li, ds, lj⟩ := nm_nr (hv.at (z := (b : Int)) (by omega) (by omega)) (j := b) rfl
    have pa := ds.max
    refine qD rfl (lj ag57 rfl (Pins.of_le ay.pins (Pin.le_trans (Pin.le_trans (Pin.le_trans (Pin.le_trans (Pin.le_trans (Pin.le_trans (Pin.le_trans an ae) q) s) x) ah) aq) bg))) ?_
    refine qM (vJ (q6 : Int)) ?_
    refine qD rfl (zJ Tryz.underlying57 sz3 (v := li) rfl rfl ds (by omega) (by omega)) ?_
    refine qD rfl (zK (r := ((gs.getD b default).r).getD q6 0) rfl ag3 (z := (q6 : Int)) rfl ds (Pins.of_le ay.pins (Pin.le_trans (Pin.le_trans (Pin.le_trans (Pin.le_trans (Pin.le_trans (Pin.le_trans (Pin.le_trans an ae) q) s) x) ah) aq) bg)) (by omega) (by omega)) ?_
    refine qD rfl (yR rfl rfl (by omega)) ?_
    refine qD rfl (zJ Tryz.underlying57 sz3 (v := atB) rfl rfl cc.read (by omega) (by omega)) ?_
    refine qD rfl (zK (r := atsB.getD (((a : Int) * (gs.length : Int)) + (((gs.getD b default).r).getD q6 0)).toNat 0) rfl ag3 (z := (((a : Int) * (gs.length : Int)) + (((gs.getD b default).r).getD q6 0))) rfl cc.read (Gadd.pins ay.pins atB) (by omega) (by omega)) ?_
    refine qI rfl (yU (E := eInt) (e := 3) [(vJ (atsB.getD (((a : Int) * (gs.length : Int)) + (((gs.getD b default).r).getD q6 0)).toNat 0))] [atsB.getD (((a : Int) * (gs.length : Int)) + (((gs.getD b default).r).getD q6 0)).toNat 0] Tryz.underlying57 sz3 zr3 (by exact xQ (by rfl)) (yC (by rfl)) rfl rfl rfl rfl (by decide) ay.pins (fun gm lk ll lm a8 pb => ?_))
    have dt := ay.step lm a8
    have gn := gf.below a8
    have gp := gg.below a8
    have gq := cc.below a8
    have gr := gh.below a8
    have gt := gi.below a8
    have gu := gj.below a8
    have gv := gk.below a8
    have ln : Own eInt 3 au lk w.heap.size gm ([atsB.getD (((a : Int) * (gs.length : Int)) + (((gs.getD b default).r).getD q6 0)).toNat 0]) := ll.weaken ay.size
    refine qI rfl (oA (E := eInt) (v := am) (u := gm) 8 Tryz.underlying57 ap3 (by decide) rfl rfl dt.pins gn ln.src (dt.size) (fun a9 pc lo lp bh bn => ?_))
    have lq := dt.write lp bh ((yB gn))
    have lr := gp.keptA bh dl.symm
    have ls := gq.keptA bh dm.symm
    have lu := gr.keptA bh dn.symm
    have lv := gt.keptA bh dp.symm
    have lw := gu.keptA bh dq.symm
    have lx := gv.keptA bh dr.symm
    have ly : Apart ac.ownBlock a9.ownBlock := zG dl.symm bn gp.lt
    have lz : Apart atB.ownBlock a9.ownBlock := zG dm.symm bn gq.lt
    have l0 : Apart uB.ownBlock a9.ownBlock := zG dn.symm bn gr.lt
    have l1 : Apart vB.ownBlock a9.ownBlock := zG dp.symm bn gt.lt
    have l2 : Apart (some g) a9.ownBlock := zL dq.symm bn gu.lt
    have l7 : Apart (some c) a9.ownBlock := zL dr.symm bn gv.lt
    have pe : (l6 ++ ([atsB.getD (((a : Int) * (gs.length : Int)) + (((gs.getD b default).r).getD q6 0)).toNat 0])).length = l6.length + 1 := List.length_append
    refine qM a9 ?_
    refine qe ?_
    refine yJ ?_
    refine zA (zC ?_)
    refine qM (vJ (q6 : Int)) ?_
    refine qD rfl (yR rfl rfl (by omega)) ?_
    refine qM (vJ ((q6 : Int) + 1)) ?_
    refine qe ?_
    refine yK ?_
    refine ⟨_, ?_, _, rfl, _, q6 + 1, a9, l6 ++ ([atsB.getD (((a : Int) * (gs.length : Int)) + (((gs.getD b default).r).getD q6 0)).toNat 0]), au, (pS 15 (pS 11 (pS 10 (pS 9 (pS 8 (pS 7 (pS 6 (pS 5 (pS 4 (pS 3 (pU 2))))))))))), rfl, lq, bg, (by omega), (by rw [ge]; exact (ix_next (f := (fun o => (a : Int) * (gs.length : Int) + o)) (atL atsB ((fs.getD a default).r.map (fun o => o * (gs.length : Int) + (b : Int)))) (by omega)).symm), (by rw [List.length_append, ld]; simp; omega), lo, lr, ls, lu, lv, lw, lx, ly.symm, lz.symm, l0.symm, l1.symm, l2.symm, l7.symm⟩
    omega
   refine wp_exit ?_
   refine yA ?_
   refine yN ?_
   refine yL ?_
   refine zA (zC ?_)
   have e4 : l4 = atL atsB (ixS (gs.length : Int) (fs.getD a default).l (gs.getD b default).l (a : Int) (b : Int)) := by rw [ff, qF (by omega), ← atL_app]; rfl
   have e6 : l6 = atL atsB (ixS (gs.length : Int) (fs.getD a default).r (gs.getD b default).r (a : Int) (b : Int)) := by rw [ge, qF (by omega), ← atL_app]; rfl
   have hol := sum_opts hnkB (by omega) oo.1 og.1
   rw [← e4] at hol
   have hor := sum_opts hnkB (by omega) oo.2 og.2
   rw [← e6] at hor
   have hpt := bk_put (xs := l4) (ys := l6) hokB (by omega) ⟨by omega, by omega⟩ hol.1 hor.1
   refine qM atB ?_
   refine qM (.pointer (some ⟨c, 0, none⟩)) ?_
   refine qM ac ?_
   refine qM am ?_
   obtain ⟨pf, bz, ma, mb, bo⟩ := gg.sealed ay
   have mc := gf.moreO bz bo dl
   have md := cc.moreO bz bo c5.symm
   have me := gh.moreO bz bo c6.symm
   have mf := gi.moreO bz bo c7.symm
   have mg := gj.moreO bo c9.symm
   have mh := gk.moreO bo da.symm
   obtain ⟨pg, b0, cd, mi, b2⟩ := mc.sealed ma
   have du := md.moreO b0 b2 dm.symm
   have mj := me.moreO b0 b2 dn.symm
   have mk := mf.moreO b0 b2 dp.symm
   have dv := mg.moreO b2 dq.symm
   have ml := mh.moreO b2 dr.symm
   refine qI rfl (zM (vs := [(.pointer (some ⟨c, 0, none⟩)), ac, am]) Tryz.func124 nm124 rfl rfl rfl ?_)
   refine Calls.mono (put_spec cd.pins ⟨ml, mj, mk, ej.symm, el.symm, eh⟩ hokB.ar.ok (mb.mono b0) mi ⟨by omega, by omega⟩ (qZ hol.1) (qZ hor.1)) ?_
   rintro _ ph ⟨ce, cf, gw, rfl, bp, cg, dw, dx⟩
   refine ⟨_, rfl, ?_⟩
   have dy : ∀ i, inS c uB vB i → w.heap.size ≤ i ∨ noS i := inS_lo (zV ht) em eo
   have dz := cd.trans cg dy
   have d0 := notS (u := uB) (v := vB) b8 ef eg
   have mm := du.extS cg d0
   have gx : Apart atB.ownBlock ce.ownBlock := xZ dw d0 (xV du)
   have gy : Apart atB.ownBlock cf.ownBlock := xZ dx d0 (xV du)
   have d1 := notS (u := uB) (v := vB) hr.symm ei.symm ek.symm
   have mn := dv.extS cg (notSb d1)
   have mo : Apart (some g) ce.ownBlock := xZ dw d1 (box_lt dv)
   have mp : Apart (some g) cf.ownBlock := xZ dx d1 (box_lt dv)
   have mq := bp.bx
   have mr := bp.ou
   have ms := bp.ov
   have mt := bp.abu
   have mu := bp.abv
   have mv := bp.auv
   have mw := qL dw dy cd.size
   have mx := qL dx dy cd.size
   refine qI rfl (yU (E := eInt) (e := 3) [(vJ (putK nsB bsB l4 l6))] [putK nsB bsB l4 l6] Tryz.underlying57 sz3 zr3 (by exact xQ (by rfl)) (yC (by rfl)) rfl rfl rfl rfl (by decide) dz.pins (fun gz my mz m0 bq pi => ?_))
   have d2 := dz.step m0 bq
   have g0 := mm.below bq
   have g1 := mr.below bq
   have g2 := ms.below bq
   have g3 := mn.below bq
   have g4 := mq.below bq
   have m1 : Own eInt 3 gw my w.heap.size gz ([putK nsB bsB l4 l6]) := mz.weaken dz.size
   refine qI rfl (oA (E := eInt) (v := atB) (u := gz) 8 Tryz.underlying57 ap3 (by decide) rfl rfl d2.pins g0 m1.src (d2.size) (fun br pj m2 m3 b3 ch => ?_))
   have m4 := d2.write m3 b3 ((yB g0))
   have m5 := g1.keptA b3 gx.symm
   have m6 := g2.keptA b3 gy.symm
   have m7 := g3.keptA b3 cv.symm
   have m8 := g4.keptA b3 b8.symm
   have m9 : Apart ce.ownBlock br.ownBlock := zG gx.symm ch g1.lt
   have na : Apart cf.ownBlock br.ownBlock := zG gy.symm ch g2.lt
   have nb : Apart (some g) br.ownBlock := zL cv.symm ch g3.lt
   have nc : Apart (some c) br.ownBlock := zL b8.symm ch g4.lt
   have pk : (atsB ++ ([putK nsB bsB l4 l6])).length = atsB.length + 1 := List.length_append
   refine qM br ?_
   refine qe ?_
   refine yJ ?_
   refine zA (zC ?_)
   refine qM (vJ (b : Int)) ?_
   refine qD rfl (yR rfl rfl (by omega)) ?_
   refine qM (vJ ((b : Int) + 1)) ?_
   refine qe ?_
   refine yK ?_
   refine ⟨_, ?_, _, rfl, _, b + 1, br, atsB ++ ([putK nsB bsB l4 l6]), ce, cf, putN nsB bsB l4 l6, putB nsB bsB l4 l6, gw, (pS 9 (pS 8 (pS 7 (pS 6 (pS 5 (pS 4 (pS 3 (pU 2)))))))), rfl, m4, (Pin.le_trans (Pin.le_trans (Pin.le_trans (Pin.le_trans (Pin.le_trans (Pin.le_trans (Pin.le_trans s x) ah) aq) bg) bz) b0) cg.le), (by omega), hpt.ok, (hnkB.snoc hpt.px hokB hpt.ok hpt.pl (hpt.pd.trans (by rw [hol.2, hor.2, sumPhi_at (by omega)]; exact sum_den hf.opts hg.opts (by omega) (by omega)))), (by have := hpt.len; omega), m2, m5, m6, m7, m8, m9.symm, na.symm, nb.symm, nc.symm, mv, mo.symm, mt.symm, mp.symm, mu.symm, mw, mx⟩
   omega
  refine wp_exit ?_
  refine yA ?_
  refine yN ?_
  refine yL ?_
  refine yJ ?_
  refine zA (zC ?_)
  refine qM (vJ (a : Int)) ?_
  refine qD rfl (yR rfl rfl (by omega)) ?_
  refine qM (vJ ((a : Int) + 1)) ?_
  refine qe ?_
  refine yK ?_
  refine ⟨_, ?_, _, rfl, _, a + 1, atB, atsB, uB, vB, nsB, bsB, GB, (pS 8 (pS 7 (pS 6 (pS 5 (pS 4 (pS 3 (pU 2))))))), rfl, b7, (Pin.le_trans q s), (by omega), hokB, (by have e : b = gs.length := (by omega); have h9 := hnkB; rw [e] at h9; rw [Nat.add_mul, Nat.one_mul]; exact h9), (by rw [Nat.add_mul, Nat.one_mul]; omega), cp, cq, cr, ct, cu, ef, eg, cv, b8, eh, ei, ej, ek, el, em, eo⟩
  omega
 refine wp_exit ?_
 refine yA ?_
 refine yN ?_
 refine yL ?_
 refine zA (zB (zC ?_))
 have hin : a = fs.length := by omega
 have hile : a * gs.length ≤ 524288 := by rw [hin]; exact hs
 have hlx := last_ix (m := a) (n := gs.length) (by omega) (by omega)
 have hrt := hnkA.at_ (i := a * gs.length - 1) (by omega)
 rw [show a * gs.length - 1 = ((atsA.length : Int) - 1).toNat by omega] at hrt
 have hgo : sumPhi fs gs ((atsA.length : Int) - 1).toNat = addG (gOf fs) (gOf gs) := by rw [show ((atsA.length : Int) - 1).toNat = a * gs.length - 1 by omega, hlx.1, sumPhi_at (by omega), hin]; rfl
 rw [hgo] at hrt
 refine qM (.pointer (some ⟨c, 0, none⟩)) ?_
 refine qM atA ?_
 refine qM atA ?_
 refine qD rfl (zN Tryz.underlying57 (v := atA) rfl b5.read) ?_
 refine qD rfl (qU rfl rfl (by omega)) ?_
 refine qD rfl (zJ Tryz.underlying57 sz3 (v := atA) rfl rfl b5.read (by omega) (by omega)) ?_
 refine qD rfl (zK (r := atsA.getD ((atsA.length : Int) - 1).toNat 0) rfl ag3 (z := ((atsA.length : Int) - 1)) rfl b5.read (Gadd.pins bv.pins atA) (by omega) (by omega)) ?_
 refine qI rfl (zM (vs := [(.pointer (some ⟨c, 0, none⟩)), (vJ (atsA.getD ((atsA.length : Int) - 1).toNat 0))]) Tryz.func115 nm115 rfl rfl rfl ?_)
 refine Calls.mono (form_spec bv.pins ⟨eb, d8, d9, ed.symm, ee.symm, ec⟩ hokA.ar.ok hrt.1) ?_
 rintro _ pm ⟨ci, pn, rfl, g5, g6⟩
 refine ⟨_, rfl, ?_⟩
 have g7 := bv.tr g6
 have nd := ea.ext g6
 refine q0 rfl rfl rfl (yM (cs' := [ci]) (us := [ci]) (v := (.agg [ci].toArray)) sz28 rfl rfl rfl (yC g5.one) g7.pins nd (Nat.le_of_ble_eq_true rfl) rfl (fun po ne nf ng pp => ?_))
 have nh := g7.write nf ng ((zV ho))
 refine qe (zA ?_)
 refine wp_ret ?_
 refine zR ?_
 refine c_retc (cs := [ci]) rfl rfl rfl ag28 sz28 (fun j u hj => by rw [Nat.zero_add]; exact ne.cell hj) ?_
 exact ⟨_, _, rfl, (by rw [← hrt.2, ← book_form hokA hrt.1]; exact g5), nh⟩

theorem l5Pair_spec {w : World} {G : Pin} {u v : Value} {fs gs : List Nd} (hP : Pins G w) (hu : RSl eNode G u fs) (hv : RSl eNode G v gs) :
  Calls Tryz.prog 94 [(.agg [u].toArray), (.agg [v].toArray)].toArray w fun e w' => ∃ G', e = .returned (.bool (pairB fs gs)) ∧ Ext noS G w G' w' := by
 refine yD (n := 21) Tryz.func94 Tryz.ntmps94 rfl rfl ?_
 have i : Ext noS G w G w := Ext.refl hP
 have hmu := hu.max
 have hmv := hv.max
 refine zB (zC ?_)
 refine qI rfl (qA [u] (v := (.agg [u].toArray)) rfl rfl i.pins (fun x w2 an y aa ab => ?_))
 have ac := i.step aa ab
 have ad : w.heap.size ≤ x := by have := i.size; omega
 obtain ⟨G9, q, l, r, ap⟩ := y.shut ac ad
 refine qI rfl (qA [v] (v := (.agg [v].toArray)) rfl rfl l.pins (fun ae aq ar af ag ah => ?_))
 have ai := l.step ag ah
 have aj : w.heap.size ≤ ae := by have := l.size; omega
 obtain ⟨au, c, m, s, av⟩ := af.shut ai aj
 refine qM (.bool false) ?_
 refine qe (zA (zB (zC ?_)))
 refine qD rfl (yF (cs := [u]) ag28 sz28 rfl (fun j u hj => (Pins.of_le m.pins c) _ _ _ (r _ _ (by simpa using hj)))) ?_
 refine qI rfl (zM (vs := [(.agg [u].toArray)]) Tryz.func59 nm59 rfl rfl rfl ?_)
 refine Calls.mono (l3Good_spec m.pins (hu.mono (Pin.le_trans q c))) ?_
 rintro _ aw ⟨ax, rfl, b⟩
 refine ⟨_, rfl, ?_⟩
 have d := m.tr b
 refine qM (.bool (decP (GoodS fs))) ?_
 refine qb (t := 7) rfl (fun f => ?_) (fun f => ?_)
 ·skip
  refine qN (yF (cs := [v]) ag28 sz28 rfl (fun j u hj => (Pins.of_le d.pins b.le) _ _ _ (s _ _ (by simpa using hj)))) ?_
  refine q1g rfl rfl rfl rfl rfl rfl (zM (vs := [(.agg [v].toArray)]) Tryz.func59 nm59 rfl rfl rfl ?_)
  refine Calls.mono (l3Good_spec d.pins (hv.mono (Pin.le_trans (Pin.le_trans q c) b.le))) ?_
  rintro _ ay ⟨az, rfl, o⟩
  refine ⟨_, rfl, ?_⟩
  have g := d.tr o
  refine qD rfl (xE (v := (.bool (decP (GoodS gs)))) rfl rfl) ?_
  refine qM (.bool (decP (GoodS gs))) ?_
  refine qb (t := 11) rfl (fun p => ?_) (fun p => ?_)
  ·skip
   refine qN (zO (k := 0) rfl Tryz.underlying28 rfl nz26 rfl) ?_
   refine qN (zP (u := u) ag26 rfl ((Pins.of_le g.pins (Pin.le_trans (Pin.le_trans c b.le) o.le)) _ _ _ (r 0 _ rfl))) ?_
   refine qN (zN Tryz.underlying26 (v := u) rfl hu) ?_
   refine qN (zO (k := 0) rfl Tryz.underlying28 rfl nz26 rfl) ?_
   refine qN (zP (u := v) ag26 rfl ((Pins.of_le g.pins (Pin.le_trans b.le o.le)) _ _ _ (s 0 _ rfl))) ?_
   refine qN (zN Tryz.underlying26 (v := v) rfl hv) ?_
   have a : goodB fs = true := (good_eq fs).symm.trans f
   have h : goodB gs = true := (good_eq gs).symm.trans p
   have ak := (goodB_true.1 a).hi
   have al := (goodB_true.1 h).hi
   have a0 := mul_120 ak al
   refine qN (r_mul rfl rfl (by omega)) ?_
   refine qN (r_leq rfl rfl) ?_
   refine qD rfl (xE (v := (.bool (decide (((fs.length : Int) * (gs.length : Int) : Int) ≤ 1600)))) rfl rfl) ?_
   refine qM (.bool (decide (((fs.length : Int) * (gs.length : Int) : Int) ≤ 1600))) ?_
   refine qe (zA ?_)
   refine wp_ret ?_
   refine zR ?_
   refine zQ (v := (.bool (decide (((fs.length : Int) * (gs.length : Int) : Int) ≤ 1600)))) rfl rfl rfl ?_
   exact ⟨_, congrArg (fun z => Ending.returned (Value.bool z)) (by unfold pairB; rw [a, h]; exact decide_eq_decide.2 pair_int), g⟩
  refine qW ?_
  refine qW ?_
  refine qW ?_
  refine qW ?_
  refine qW ?_
  refine qW ?_
  refine qW ?_
  refine qW ?_
  refine qD rfl (xA (v := (.bool false)) rfl rfl) ?_
  refine qM (.bool false) ?_
  refine qe (zA ?_)
  refine wp_ret ?_
  refine zR ?_
  refine zQ (v := (.bool false)) rfl rfl rfl ?_
  have a : goodB fs = true := (good_eq fs).symm.trans f
  have h : goodB gs = false := (good_eq gs).symm.trans p
  exact ⟨_, congrArg (fun z => Ending.returned (Value.bool z)) (by unfold pairB; rw [a, h]; rfl), g⟩
 refine qW ?_
 refine qW ?_
 refine qD rfl (xA (v := (.bool false)) rfl rfl) ?_
 refine qM (.bool false) ?_
 refine qW ?_
 refine qW ?_
 refine qW ?_
 refine qW ?_
 refine qW ?_
 refine qW ?_
 refine qW ?_
 refine qW ?_
 refine qD rfl (xA (v := (.bool false)) rfl rfl) ?_
 refine qM (.bool false) ?_
 refine qe (zA ?_)
 refine wp_ret ?_
 refine zR ?_
 refine zQ (v := (.bool false)) rfl rfl rfl ?_
 have a : goodB fs = false := (good_eq fs).symm.trans f
 exact ⟨_, congrArg (fun z => Ending.returned (Value.bool z)) (by unfold pairB; rw [a]; rfl), d⟩

theorem pairs_spec {w : World} {G : Pin} {u v : Value} {fs gs : List Nd} (hP : Pins G w) (hu : RSl eNode G u fs) (hv : RSl eNode G v gs) :
  Calls Tryz.prog 45 [(.agg [u].toArray), (.agg [v].toArray)].toArray w fun e w' => ∃ G', e = .returned (.bool (pairB fs gs)) ∧ Ext noS G w G' w' := by
 refine yD (n := 21) Tryz.func45 Tryz.ntmps45 rfl rfl ?_
 have i : Ext noS G w G w := Ext.refl hP
 have hmu := hu.max
 have hmv := hv.max
 refine zB (zC ?_)
 refine qI rfl (qA [u] (v := (.agg [u].toArray)) rfl rfl i.pins (fun x w2 an y aa ab => ?_))
 have ac := i.step aa ab
 have ad : w.heap.size ≤ x := by have := i.size; omega
 obtain ⟨G9, q, l, r, ap⟩ := y.shut ac ad
 refine qI rfl (qA [v] (v := (.agg [v].toArray)) rfl rfl l.pins (fun ae aq ar af ag ah => ?_))
 have ai := l.step ag ah
 have aj : w.heap.size ≤ ae := by have := l.size; omega
 obtain ⟨au, c, m, s, av⟩ := af.shut ai aj
 refine qM (.bool false) ?_
 refine qe (zA (zB (zC ?_)))
 refine qD rfl (yF (cs := [u]) ag28 sz28 rfl (fun j u hj => (Pins.of_le m.pins c) _ _ _ (r _ _ (by simpa using hj)))) ?_
 refine qI rfl (zM (vs := [(.agg [u].toArray)]) Tryz.func57 nm57 rfl rfl rfl ?_)
 refine Calls.mono (goodForm_spec m.pins (hu.mono (Pin.le_trans q c))) ?_
 rintro _ aw ⟨ax, rfl, b⟩
 refine ⟨_, rfl, ?_⟩
 have d := m.tr b
 refine qM (.bool (goodB fs)) ?_
 refine qb (t := 7) rfl (fun f => ?_) (fun f => ?_)
 ·skip
  refine qN (yF (cs := [v]) ag28 sz28 rfl (fun j u hj => (Pins.of_le d.pins b.le) _ _ _ (s _ _ (by simpa using hj)))) ?_
  refine q1g rfl rfl rfl rfl rfl rfl (zM (vs := [(.agg [v].toArray)]) Tryz.func57 nm57 rfl rfl rfl ?_)
  refine Calls.mono (goodForm_spec d.pins (hv.mono (Pin.le_trans (Pin.le_trans q c) b.le))) ?_
  rintro _ ay ⟨az, rfl, o⟩
  refine ⟨_, rfl, ?_⟩
  have g := d.tr o
  refine qD rfl (xE (v := (.bool (goodB gs))) rfl rfl) ?_
  refine qM (.bool (goodB gs)) ?_
  refine qb (t := 11) rfl (fun p => ?_) (fun p => ?_)
  ·skip
   refine qN (zO (k := 0) rfl Tryz.underlying28 rfl nz26 rfl) ?_
   refine qN (zP (u := u) ag26 rfl ((Pins.of_le g.pins (Pin.le_trans (Pin.le_trans c b.le) o.le)) _ _ _ (r 0 _ rfl))) ?_
   refine qN (zN Tryz.underlying26 (v := u) rfl hu) ?_
   refine qN (zO (k := 0) rfl Tryz.underlying28 rfl nz26 rfl) ?_
   refine qN (zP (u := v) ag26 rfl ((Pins.of_le g.pins (Pin.le_trans b.le o.le)) _ _ _ (s 0 _ rfl))) ?_
   refine qN (zN Tryz.underlying26 (v := v) rfl hv) ?_
   have a : goodB fs = true := f
   have h : goodB gs = true := p
   have ak := (goodB_true.1 a).hi
   have al := (goodB_true.1 h).hi
   have a0 := mul_120 ak al
   refine qN (r_mul rfl rfl (by omega)) ?_
   refine qN (r_leq rfl rfl) ?_
   refine qD rfl (xE (v := (.bool (decide (((fs.length : Int) * (gs.length : Int) : Int) ≤ 1600)))) rfl rfl) ?_
   refine qM (.bool (decide (((fs.length : Int) * (gs.length : Int) : Int) ≤ 1600))) ?_
   refine qe (zA ?_)
   refine wp_ret ?_
   refine zR ?_
   refine zQ (v := (.bool (decide (((fs.length : Int) * (gs.length : Int) : Int) ≤ 1600)))) rfl rfl rfl ?_
   exact ⟨_, congrArg (fun z => Ending.returned (Value.bool z)) (by unfold pairB; rw [a, h]; exact decide_eq_decide.2 pair_int), g⟩
  refine qW ?_
  refine qW ?_
  refine qW ?_
  refine qW ?_
  refine qW ?_
  refine qW ?_
  refine qW ?_
  refine qW ?_
  refine qD rfl (xA (v := (.bool false)) rfl rfl) ?_
  refine qM (.bool false) ?_
  refine qe (zA ?_)
  refine wp_ret ?_
  refine zR ?_
  refine zQ (v := (.bool false)) rfl rfl rfl ?_
  have a : goodB fs = true := f
  have h : goodB gs = false := p
  exact ⟨_, congrArg (fun z => Ending.returned (Value.bool z)) (by unfold pairB; rw [a, h]; rfl), g⟩
 refine qW ?_
 refine qW ?_
 refine qD rfl (xA (v := (.bool false)) rfl rfl) ?_
 refine qM (.bool false) ?_
 refine qW ?_
 refine qW ?_
 refine qW ?_
 refine qW ?_
 refine qW ?_
 refine qW ?_
 refine qW ?_
 refine qW ?_
 refine qD rfl (xA (v := (.bool false)) rfl rfl) ?_
 refine qM (.bool false) ?_
 refine qe (zA ?_)
 refine wp_ret ?_
 refine zR ?_
 refine zQ (v := (.bool false)) rfl rfl rfl ?_
 have a : goodB fs = false := f
 exact ⟨_, congrArg (fun z => Ending.returned (Value.bool z)) (by unfold pairB; rw [a]; rfl), d⟩

theorem l3If_spec {w : World} {G : Pin} {v : Value} {fs : List Nd} (hP : Pins G w) (hv : RSl eNode G v fs) :
  Calls Tryz.prog 82 [(.agg [v].toArray)].toArray w fun e w' => ∃ (u : Value) (G' : Pin), e = .returned (.tuple #[(.agg [u].toArray), .bool (decP (FitsP fs))]) ∧ RSl eNode G' u (ifF fs) ∧ Ext noS G w G' w' := by
 refine yD (n := 9) Tryz.func82 Tryz.ntmps82 rfl rfl ?_
 have d : Ext noS G w G w := Ext.refl hP
 refine zB (zC ?_)
 refine qI rfl (qA [v] (v := (.agg [v].toArray)) rfl rfl d.pins (fun o w2 al p q r => ?_))
 have s := d.step q r
 have t : w.heap.size ≤ o := by have := d.size; omega
 obtain ⟨G9, i, f, k, an⟩ := p.shut s t
 refine qI rfl (yH [(.slice none 0 0)] zr28 rfl f.pins (fun x ao ap y aa ab => ?_))
 have g := f.step aa ab
 have l : w.heap.size ≤ x := by have := f.size; omega
 refine qM (.bool false) ?_
 refine qe (zA (zB (zB (zC ?_))))
 refine qD rfl (yF (cs := [v]) ag28 sz28 rfl (fun j u hj => g.pins _ _ _ (k _ _ (by simpa using hj)))) ?_
 refine qI rfl (zM (vs := [(.agg [v].toArray)]) Tryz.func113 nm113 rfl rfl rfl ?_)
 refine Calls.mono (l3Fits_spec g.pins (hv.mono i)) ?_
 rintro _ aq ⟨ar, rfl, c⟩
 refine ⟨_, rfl, ?_⟩
 have a := g.tr c
 have m := y.ext c
 refine qD rfl (qC rfl) ?_
 refine qe (zA ?_)
 refine c_ifn rfl rfl (fun b => ?_) (fun b => ?_)
 ·skip
  refine wp_skip ?_
  refine zA (zB (zC ?_))
  refine qD rfl (yF (cs := [v]) ag28 sz28 rfl (fun j u hj => (Pins.of_le a.pins c.le) _ _ _ (k _ _ (by simpa using hj)))) ?_
  refine q0 rfl rfl rfl (yM (cs' := [v]) (us := [v]) (v := (.agg [v].toArray)) sz28 rfl rfl rfl (yC hv.one) a.pins m (Nat.le_of_ble_eq_true rfl) rfl (fun au ac ad ae av => ?_))
  have af := a.write ad ae ((zV l))
  refine qM (.bool true) ?_
  refine qe (zA ?_)
  refine wp_ret ?_
  refine zR ?_
  refine qE (cs := [v]) (v := (.bool true)) rfl rfl rfl rfl rfl ag28 sz28 (fun j u hj => by rw [Nat.zero_add]; exact ac.cell hj) ?_
  exact ⟨_, _, congrArg (fun z => Ending.returned (Value.tuple #[(.agg [v].toArray), Value.bool z])) (b).symm, (by unfold ifF; rw [b]; exact (hv.mono (Pin.le_trans i c.le))), af⟩
 refine zB (zC ?_)
 refine qD rfl (xF [(.slice none 0 0)] [(.slice none 0 0)] [] Tryz.underlying28 zr28 rfl pl28 rfl (fun _ h => by cases h) rfl) ?_
 refine q0 rfl rfl rfl (yM (cs' := [(.slice none 0 0)]) (us := [(.slice none 0 0)]) (v := (.agg [(.slice none 0 0)].toArray)) sz28 rfl rfl rfl (yC (by rfl)) a.pins m (Nat.le_of_ble_eq_true rfl) rfl (fun aw ag ah ai ax => ?_))
 have aj := a.write ah ai ((zV l))
 refine qM (.bool false) ?_
 refine qe (zA ?_)
 refine wp_ret ?_
 refine zR ?_
 refine qE (cs := [(.slice none 0 0)]) (v := (.bool false)) rfl rfl rfl rfl rfl ag28 sz28 (fun j u hj => by rw [Nat.zero_add]; exact ag.cell hj) ?_
 exact ⟨_, _, congrArg (fun z => Ending.returned (Value.tuple #[(.agg [(.slice none 0 0)].toArray), Value.bool z])) (b).symm, (by unfold ifF; rw [b]; exact xL _ _), aj⟩

theorem sSumForms_spec {w : World} {G : Pin} {u v : Value} {fs gs : List Nd} (hP : Pins G w) (hu : RSl eNode G u fs) (hv : RSl eNode G v gs) :
  Calls Tryz.prog 53 [(.agg [u].toArray), (.agg [v].toArray)].toArray w fun e w' => ∃ (u : Value) (G' : Pin), e = .returned (.tuple #[(.agg [u].toArray), .bool (sumB fs gs)]) ∧ RSl eNode G' u (sumF fs gs) ∧ Ext noS G w G' w' := by
 refine yD (n := 17) Tryz.func53 Tryz.ntmps53 rfl rfl ?_
 have l : Ext noS G w G w := Ext.refl hP
 refine zB (zC ?_)
 refine qI rfl (qA [u] (v := (.agg [u].toArray)) rfl rfl l.pins (fun b1 w2 a9 af ag ah => ?_))
 have ai := l.step ag ah
 have aj : w.heap.size ≤ b1 := by have := l.size; omega
 obtain ⟨G9, i, m, s, bb⟩ := af.shut ai aj
 refine qI rfl (qA [v] (v := (.agg [v].toArray)) rfl rfl m.pins (fun ak bc bd al am an => ?_))
 have ao := m.step am an
 have ap : w.heap.size ≤ ak := by have := m.size; omega
 obtain ⟨be, c, o, t, bf⟩ := al.shut ao ap
 refine qI rfl (yH [(.slice none 0 0)] zr28 rfl o.pins (fun aq bg bh ar au av => ?_))
 have k := o.step au av
 have x : w.heap.size ≤ aq := by have := o.size; omega
 refine qM (.bool false) ?_
 refine qe (zA (zB (zB (zC ?_))))
 refine qD rfl (yF (cs := [u]) ag28 sz28 rfl (fun j u hj => (Pins.of_le k.pins c) _ _ _ (s _ _ (by simpa using hj)))) ?_
 refine qD rfl (yF (cs := [v]) ag28 sz28 rfl (fun j u hj => k.pins _ _ _ (t _ _ (by simpa using hj)))) ?_
 refine qI rfl (zM (vs := [(.agg [u].toArray), (.agg [v].toArray)]) Tryz.func94 nm94 rfl rfl rfl ?_)
 refine Calls.mono (l5Pair_spec k.pins (hu.mono (Pin.le_trans i c)) (hv.mono (Pin.le_trans i c))) ?_
 rintro _ bi ⟨bj, rfl, d⟩
 refine ⟨_, rfl, ?_⟩
 have f := k.tr d
 have y := ar.ext d
 refine qD rfl (qC rfl) ?_
 refine qe (zA ?_)
 refine c_ifn rfl rfl (fun p => ?_) (fun p => ?_)
 ·skip
  refine wp_skip ?_
  refine zA (zB (zC ?_))
  have hpp := pair_iff.1 p
  have hga := hpp.a
  have hgb := hpp.b
  have hle := hpp.le
  have hla := hga.lo
  have hlb := hgb.lo
  have hha := hga.hi
  have hhb := hgb.hi
  refine qD rfl (yF (cs := [u]) ag28 sz28 rfl (fun j u hj => (Pins.of_le f.pins (Pin.le_trans c d.le)) _ _ _ (s _ _ (by simpa using hj)))) ?_
  refine qD rfl (yF (cs := [v]) ag28 sz28 rfl (fun j u hj => (Pins.of_le f.pins d.le) _ _ _ (t _ _ (by simpa using hj)))) ?_
  refine qI rfl (zM (vs := [(.agg [u].toArray), (.agg [v].toArray)]) Tryz.func103 nm103 rfl rfl rfl ?_)
  refine Calls.mono (l5Sum_spec f.pins (hu.mono (Pin.le_trans (Pin.le_trans i c) d.le)) (hv.mono (Pin.le_trans (Pin.le_trans i c) d.le)) (good_form hga) (good_form hgb) ⟨by omega, by omega⟩ (by omega) (good_lensK hga) (good_lensK hgb)) ?_
  rintro _ bk ⟨aw, bl, rfl, ax, z⟩
  refine ⟨_, rfl, ?_⟩
  have aa := f.tr z
  have ay := y.ext z
  refine qI rfl (zM (vs := [(.agg [aw].toArray)]) Tryz.func82 nm82 rfl rfl rfl ?_)
  refine Calls.mono (l3If_spec aa.pins ax) ?_
  rintro _ bm ⟨g, bn, rfl, ab, ac⟩
  refine ⟨_, rfl, ?_⟩
  have ad := aa.tr ac
  have az := ay.ext ac
  refine qD rfl (yW (v := (.agg [g].toArray)) rfl rfl) ?_
  refine qD rfl (yW (v := (.bool (decP (FitsP (formG (addG (gOf fs) (gOf gs))))))) rfl rfl) ?_
  refine q0 rfl rfl rfl (yM (cs' := [g]) (us := [g]) (v := (.agg [g].toArray)) sz28 rfl rfl rfl (yC ab.one) ad.pins az (Nat.le_of_ble_eq_true rfl) rfl (fun bo a0 a1 a2 bp => ?_))
  have a3 := ad.write a1 a2 ((zV x))
  refine qM (.bool (decP (FitsP (formG (addG (gOf fs) (gOf gs)))))) ?_
  refine qe (zA ?_)
  refine wp_ret ?_
  refine zR ?_
  refine qE (cs := [g]) (v := (.bool (decP (FitsP (formG (addG (gOf fs) (gOf gs))))))) rfl rfl rfl rfl rfl ag28 sz28 (fun j u hj => by rw [Nat.zero_add]; exact a0.cell hj) ?_
  obtain ⟨q, r⟩ := sum_yes (pair_iff.2 hpp)
  rw [q, r]
  exact ⟨_, _, rfl, ab, a3⟩
 refine zB (zC ?_)
 refine qD rfl (xF [(.slice none 0 0)] [(.slice none 0 0)] [] Tryz.underlying28 zr28 rfl pl28 rfl (fun _ h => by cases h) rfl) ?_
 refine q0 rfl rfl rfl (yM (cs' := [(.slice none 0 0)]) (us := [(.slice none 0 0)]) (v := (.agg [(.slice none 0 0)].toArray)) sz28 rfl rfl rfl (yC (by rfl)) f.pins y (Nat.le_of_ble_eq_true rfl) rfl (fun bq a4 a5 a6 br => ?_))
 have a7 := f.write a5 a6 ((zV x))
 refine qM (.bool false) ?_
 refine qe (zA ?_)
 refine wp_ret ?_
 refine zR ?_
 refine qE (cs := [(.slice none 0 0)]) (v := (.bool false)) rfl rfl rfl rfl rfl ag28 sz28 (fun j u hj => by rw [Nat.zero_add]; exact a4.cell hj) ?_
 obtain ⟨q, r⟩ := sum_no (p)
 rw [q, r]
 exact ⟨_, _, rfl, (xL _ _), a7⟩

theorem iSumForms_dspec {w : World} {G : Pin} {u v : Value} {fs gs : List Nd} (hP : Pins G w) (hu : RSl eNode G u fs) (hv : RSl eNode G v gs) :
  Calls Tryz.prog 12 [(.agg [u].toArray), (.agg [v].toArray)].toArray w fun e w' => ∃ (u : Value) (G' : Pin), e = .returned (.tuple #[(.agg [u].toArray), .bool (sumB fs gs)]) ∧ DForm 68 3 G' w' w.heap.size w'.heap.size u (sumF fs gs) ∧ Ext noS G w G' w' := by
 refine yD (n := 25) Tryz.func12 Tryz.ntmps12 rfl rfl ?_
 have au : Ext noS G w G w := Ext.refl hP
 refine zB (zC ?_)
 refine qI rfl (qA [u] (v := (.agg [u].toArray)) rfl rfl au.pins (fun b1 w2 db b0 b2 b3 => ?_))
 have b4 := au.step b2 b3
 have b5 : w.heap.size ≤ b1 := by have := au.size; omega
 obtain ⟨G9, ag, av, be, dd⟩ := b0.shut b4 b5
 refine qI rfl (qA [v] (v := (.agg [v].toArray)) rfl rfl av.pins (fun b6 de df b7 b8 b9 => ?_))
 have ca := av.step b8 b9
 have cb : w.heap.size ≤ b6 := by have := av.size; omega
 obtain ⟨dg, z, aw, bf, dh⟩ := b7.shut ca cb
 refine qI rfl (yH [(.slice none 0 0)] zr28 rfl aw.pins (fun ax di dj cc cd ce => ?_))
 have ah := aw.step cd ce
 have bg : w.heap.size ≤ ax := by have := aw.size; omega
 refine qM (.bool false) ?_
 refine qe (zA (zB (zB (zC ?_))))
 refine qD rfl (yF (cs := [u]) ag28 sz28 rfl (fun j u hj => (Pins.of_le ah.pins z) _ _ _ (be _ _ (by simpa using hj)))) ?_
 refine qD rfl (yF (cs := [v]) ag28 sz28 rfl (fun j u hj => ah.pins _ _ _ (bf _ _ (by simpa using hj)))) ?_
 refine qI rfl (zM (vs := [(.agg [u].toArray), (.agg [v].toArray)]) Tryz.func45 nm45 rfl rfl rfl ?_)
 refine Calls.mono (pairs_spec ah.pins (hu.mono (Pin.le_trans ag z)) (hv.mono (Pin.le_trans ag z))) ?_
 rintro _ dk ⟨dl, rfl, aa⟩
 refine ⟨_, rfl, ?_⟩
 have ac := ah.tr aa
 have ay := cc.ext aa
 refine qD rfl (qC rfl) ?_
 refine qe (zA ?_)
 refine c_ifn rfl rfl (fun az => ?_) (fun az => ?_)
 ·skip
  refine wp_skip ?_
  refine zA (zB (zC ?_))
  have hpp := pair_iff.1 az
  have hga := hpp.a
  have hgb := hpp.b
  have hle := hpp.le
  have hla := hga.lo
  have hlb := hgb.lo
  have hha := hga.hi
  have hhb := hgb.hi
  refine qI rfl (zM (vs := []) Tryz.func46 nm46 rfl rfl rfl ?_)
  refine Calls.mono (newPool_spec ac.pins) ?_
  rintro _ ai ⟨c, aj, bh, rfl, bi, bj, ab⟩
  refine ⟨_, rfl, ?_⟩
  have bk := ac.tr ab
  have cf := ay.ext ab
  have cg := np_fresh bj (x := (some ax)) (box_lt ay)
  have ch : PIn w (noS) c (.slice none 0 0) (.slice none 0 0) (.slice none 0 0) aj := PIn.fresh bj ac.size
  obtain ⟨g, a0⟩ : ∃ q, q = (⟨[], [], [], [], [], [], []⟩ : PSt) := ⟨_, rfl⟩
  rw [← a0] at bi
  have a1 : PoolOk g := by rw [a0]; exact PoolOk.empty
  have hq49l : g.ns.length = 0 := by rw [a0]; rfl
  obtain ⟨a2, a3, a4, a5, a6, a7⟩ : ∃ (l r b : Value), l = .slice none 0 0 ∧ r = .slice none 0 0 ∧ b = .slice none 0 0 := ⟨_, _, _, rfl, rfl, rfl⟩
  have ci : Pk 57 3 bh ai c a2 a3 a4 aj g := by rw [a5, a6, a7]; exact bi
  have bl : PIn w (noS) c a2 a3 a4 aj := by rw [a5, a6, a7]; exact ch
  have dm : (g.ns.map Nd.l).length = g.ns.length ∧ (g.ns.map Nd.r).length = g.ns.length := ⟨List.length_map .., List.length_map ..⟩
  have dn : g.bs.length = g.ns.length ∧ g.ns.length ≤ 1048576 := ⟨a1.ar.ok.len, a1.ar.ok.lim⟩
  have hnp53x : NP c a2 a3 a4 aj (some ax) := by rw [a5, a6, a7]; exact cg
  refine qM (.pointer (some ⟨c, 0, none⟩)) ?_
  refine qe (zA (zB ?_))
  refine xG (S := fun wz => Pins bh wz) (last := 14) (by kernel_rfl) rfl ?_
  have ak : Below ai.heap.size ai ai.drew := (Below.refl _ _).drew
  have bm := bk.pins.below ak
  have k := bk.step bm ak
  have bn := cf.below ak
  have cj := ci.below ak bm
  refine dM 0 (.pointer (some ⟨c, 0, none⟩)) k.pins ?_
  refine dM 1 (.pointer (some ⟨c, 0, none⟩)) k.pins ?_
  refine dM 2 (.pointer (some ⟨c, 0, none⟩)) k.pins ?_
  refine dT (i := 3) rfl rfl (by kernel_rfl) (fun _ hS => yF (cs := [u]) ag28 sz28 rfl (fun j u hj => (Pins.of_le hS (Pin.le_trans (Pin.le_trans z aa.le) ab.le)) _ _ _ (be _ _ (by simpa using hj)))) k.pins ?_
  refine dM 5 (.pointer (some ⟨c, 0, none⟩)) k.pins ?_
  refine dT (i := 6) rfl rfl (by kernel_rfl) (fun _ hS => yF (cs := [v]) ag28 sz28 rfl (fun j u hj => (Pins.of_le hS (Pin.le_trans aa.le ab.le)) _ _ _ (bf _ _ (by simpa using hj)))) k.pins ?_
  refine dO (i := 4) (zT (i := 4) rfl rfl rfl (zD rfl _) (zM (vs := [(.pointer (some ⟨c, 0, none⟩)), (.agg [u].toArray)]) Tryz.func49 nm49 rfl rfl rfl ?_))
  refine Calls.mono (root_spec k.pins cj a1 (hu.mono (Pin.le_trans (Pin.le_trans (Pin.le_trans ag z) aa.le) ab.le)) (good_form hga) (by omega) hla) ?_
  rintro _ dp ⟨ck, dq, dr, ds, s, dt, rfl, cl, al, cm, bo, d, a8, cn, du⟩
  refine ⟨_, rfl, ?_⟩
  have am := k.trans d bl
  have bp := bn.extS d (NP.notb hnp53x)
  have bq := NP.call hnp53x bo (box_lt bn)
  have br := PIn.call bl bo k.size
  have dv := cm.len
  have dw : (s.ns.map Nd.l).length = s.ns.length ∧ (s.ns.map Nd.r).length = s.ns.length := ⟨List.length_map .., List.length_map ..⟩
  have dx : s.bs.length = s.ns.length ∧ s.ns.length ≤ 1048576 := ⟨al.ar.ok.len, al.ar.ok.lim⟩
  refine ⟨fun _ => (Pins.of_le am.pins d.le), ?_⟩
  refine dO (i := 7) (zT (i := 7) rfl rfl rfl (zD rfl _) (zM (vs := [(.pointer (some ⟨c, 0, none⟩)), (.agg [v].toArray)]) Tryz.func49 nm49 rfl rfl rfl ?_))
  refine Calls.mono (root_spec am.pins cl al (hv.mono (Pin.le_trans (Pin.le_trans (Pin.le_trans (Pin.le_trans ag z) aa.le) ab.le) d.le)) (good_form hgb) (by omega) hlb) ?_
  rintro _ dy ⟨co, dz, d0, d1, o, d2, rfl, cp, an, ao, bt, m, bu, cq, d3⟩
  refine ⟨_, rfl, ?_⟩
  have ap := am.trans m br
  have cr := bp.extS m (NP.notb bq)
  have ct := NP.call bq bt (box_lt bp)
  have bv := PIn.call br bt am.size
  have d4 := ao.len
  have d5 : (o.ns.map Nd.l).length = o.ns.length ∧ (o.ns.map Nd.r).length = o.ns.length := ⟨List.length_map .., List.length_map ..⟩
  have d6 : o.bs.length = o.ns.length ∧ o.ns.length ≤ 1048576 := ⟨an.ar.ok.len, an.ar.ok.lim⟩
  refine ⟨fun _ => (Pins.of_le ap.pins (Pin.le_trans d.le m.le)), ?_⟩
  have hpza := ((ao.pd al an a8).trans cn)
  have hpzb := cq
  have hza := ((ao.place a8)).2
  have hzb := (bu).2
  refine dO (i := 8) (zT (i := 8) rfl rfl rfl (zD rfl _) (zM (vs := [(.pointer (some ⟨c, 0, none⟩)), (vJ ck), (vJ co)]) Tryz.func48 nm48 rfl rfl rfl ?_))
  refine Calls.mono (sum_spec ap.pins cp an ((ao.place a8)) (bu) (qz := o) (S := prodL (subL fs) (subL gs)) (Bud.start (by rw [prod_len, subL_len, subL_len]; omega)) (fun x y hx hy => prod_mem (subL_mem (good_sg hga) (by rw [hpza] at hx; exact hx)) (subL_mem (good_sg hgb) (by rw [hpzb] at hy; exact hy))) ⟨by omega, by omega⟩) ?_
  rintro _ d7 ⟨ad, d8, d9, ea, f, eb, rfl, cu, a9, cv, cw, p, cx, cy, ec⟩
  refine ⟨_, rfl, ?_⟩
  have aq := ap.trans p bv
  have bw := cr.extS p (NP.notb ct)
  have ed := PIn.call bv cw ap.size
  have ee := cv.len
  have ef : (f.ns.map Nd.l).length = f.ns.length ∧ (f.ns.map Nd.r).length = f.ns.length := ⟨List.length_map .., List.length_map ..⟩
  have eg : f.bs.length = f.ns.length ∧ f.ns.length ≤ 1048576 := ⟨a9.ar.ok.len, a9.ar.ok.lim⟩
  refine ⟨fun _ => (Pins.of_le aq.pins (Pin.le_trans (Pin.le_trans d.le m.le) p.le)), ?_⟩
  refine dO (i := 9) (zT (i := 9) rfl rfl rfl (zD rfl _) (zM (vs := [(.pointer (some ⟨c, 0, none⟩)), (vJ ad)]) Tryz.func47 nm47 rfl rfl rfl ?_))
  refine Calls.mono (form_spec aq.pins cu a9 cx) ?_
  rintro _ cz ⟨ae, eh, rfl, bx, t⟩
  refine ⟨_, rfl, ?_⟩
  have af := aq.tr t
  have c0 := bw.ext t
  have c1 := bx.one
  refine ⟨fun _ => (Pins.of_le af.pins (Pin.le_trans (Pin.le_trans (Pin.le_trans d.le m.le) p.le) t.le)), ?_⟩
  refine dT (i := 10) rfl rfl (by kernel_rfl) (fun _ _ => yW (v := (.agg [ae].toArray)) rfl rfl) (Pins.of_le af.pins (Pin.le_trans (Pin.le_trans (Pin.le_trans d.le m.le) p.le) t.le)) ?_
  refine dT (i := 11) rfl rfl (by kernel_rfl) (fun _ _ => yW (v := (.bool (fitB (pd f ad)))) rfl rfl) (Pins.of_le af.pins (Pin.le_trans (Pin.le_trans (Pin.le_trans d.le m.le) p.le) t.le)) ?_
  refine dO (i := 12) (xP (i := 12) rfl rfl rfl (zD rfl _) (yM (cs' := [ae]) (us := [ae]) (v := (.agg [ae].toArray)) sz28 rfl rfl rfl (yC c1) af.pins c0 (Nat.le_of_ble_eq_true rfl) rfl (fun ei c2 c3 ba ej => ?_)))
  have bb := af.write c3 ba ((zV bg))
  have c4 := bx.kept ba (Or.inr bw.lt)
  have c5 := Nat.le_trans (Nat.le_refl cz.heap.size) ba.size
  refine ⟨fun _ => (Pins.of_le bb.pins (Pin.le_trans (Pin.le_trans (Pin.le_trans d.le m.le) p.le) t.le)), ?_⟩
  refine dM 13 (.bool (fitB (pd f ad))) (Pins.of_le bb.pins (Pin.le_trans (Pin.le_trans (Pin.le_trans d.le m.le) p.le) t.le)) ?_
  refine yT (by kernel_rfl) ?_
  refine zA ?_
  refine wp_ret ?_
  refine zR ?_
  refine qE (cs := [ae]) (v := (.bool (fitB (pd f ad)))) rfl rfl rfl rfl rfl ag28 sz28 (fun j u hj => by rw [Nat.zero_add]; exact c2.cell hj) ?_
  have hgz : pd f ad = addG (gOf fs) (gOf gs) := cy.trans (by rw [hpza, hpzb])
  obtain ⟨e1, e2⟩ := sum_yes (pair_iff.2 hpp)
  rw [e1, e2, ← hgz]
  exact ⟨_, _, rfl, (c4.wide aq.size c5), bb⟩
 refine zB (zC ?_)
 refine qD rfl (xF [(.slice none 0 0)] [(.slice none 0 0)] [] Tryz.underlying28 zr28 rfl pl28 rfl (fun _ h => by cases h) rfl) ?_
 refine q0 rfl rfl rfl (yM (cs' := [(.slice none 0 0)]) (us := [(.slice none 0 0)]) (v := (.agg [(.slice none 0 0)].toArray)) sz28 rfl rfl rfl (yC (by rfl)) ac.pins ay (Nat.le_of_ble_eq_true rfl) rfl (fun ek c6 c7 c8 el => ?_))
 have c9 := ac.write c7 c8 ((zV bg))
 refine qM (.bool false) ?_
 refine qe (zA ?_)
 refine wp_ret ?_
 refine zR ?_
 refine qE (cs := [(.slice none 0 0)]) (v := (.bool false)) rfl rfl rfl rfl rfl ag28 sz28 (fun j u hj => by rw [Nat.zero_add]; exact c6.cell hj) ?_
 obtain ⟨e1, e2⟩ := sum_no (az)
 rw [e1, e2]
 exact ⟨_, _, rfl, DForm.nil, c9⟩

end SM1
end Go.Proofs.YtkfgdhanaijddaaGreatDoor

set_option maxRecDepth 20000
set_option maxHeartbeats 2000000
namespace Go.Proofs.YtkfgdhanaijddaaGreatDoor
namespace GW1
open Go.RowKit Go.GL Go.Proofs
open Go.Proofs.YtkfgdhanaijddaaGreatDoor.B1
open Go.Proofs.YtkfgdhanaijddaaGreatDoor.C1
open Go.Proofs.YtkfgdhanaijddaaGreatDoor.D1
open Go.Proofs.YtkfgdhanaijddaaGreatDoor.E1
open Go.Proofs.YtkfgdhanaijddaaGreatDoor.MK1
open Go.Proofs.YtkfgdhanaijddaaGreatDoor.DR1
open Go.Proofs.YtkfgdhanaijddaaGreatDoor.DR2
open Go.Proofs.YtkfgdhanaijddaaGreatDoor.DV1
open Go.Proofs.YtkfgdhanaijddaaGreatDoor.DV2






theorem pl28 : (Tryz.prog.underlying 28).bind (placesD Tryz.prog) = some [(0, 1)] := by kernel_rfl
theorem pl63 : (Tryz.prog.underlying 63).bind (placesD Tryz.prog) = some [(0, 1), (1, 1), (2, 1)] := by kernel_rfl
theorem pl68 : (Tryz.prog.underlying 68).bind (placesD Tryz.prog) = some [(0, 1), (1, 1)] := by kernel_rfl






theorem vInts_spec {w : World} {G : Pin} {u v : Value} {xs ys : List Int} (hP : Pins G w) (hu : RSl eInt G u xs) (hv : RSl eInt G v ys) :
  Calls Tryz.prog 54 [u, v].toArray w fun e w' => e = .returned (.bool (decide (xs = ys))) ∧ Ext noS G w G w' := by
 refine yD (n := 26) Tryz.func54 Tryz.ntmps54 rfl rfl ?_
 have f : Ext noS G w G w := Ext.refl hP
 have hm := hu.max
 refine zB (zC ?_)
 refine qM (.bool false) ?_
 refine qe (zA (zB (zB (zC ?_))))
 refine qM u ?_
 refine qD rfl (zN Tryz.underlying57 (v := u) rfl hu) ?_
 refine qM v ?_
 refine qD rfl (zN Tryz.underlying57 (v := v) rfl hv) ?_
 refine qD rfl (r_neq rfl rfl) ?_
 refine qe (zA ?_)
 refine yI (p := ((xs.length : Int) : Int) ≠ (ys.length : Int)) rfl rfl (fun g => ?_) (fun g => ?_)
 ·skip
  refine zB (zC ?_)
  refine qM (.bool false) ?_
  refine qe (zA ?_)
  refine wp_ret ?_
  refine zR ?_
  refine zQ (v := (.bool false)) rfl rfl rfl ?_
  exact ⟨congrArg (fun z => Ending.returned (Value.bool z)) (decide_eq_false (fun e => g (by rw [e]))).symm, f⟩
 refine wp_skip ?_
 refine zA (zB (zB (zC ?_)))
 refine qM (vJ 0) ?_
 refine qe (zA ?_)
 refine zX ?_
 refine yQ (fun (k : Nat) (en : Nat → Value) (W : World) => ∃ (h : Nat → Value) (j : Nat), en = (upd (upd (upd h 0 u) 1 v) 5 (vJ (j : Int))) ∧ k = xs.length - j ∧ Ext noS G w G W ∧ (j ≤ xs.length) ∧ (xs.length = ys.length) ∧ (∀ i, i < j → xs.getD i 0 = ys.getD i 0)) _ ⟨_, 0, (pS 5 (pS 1 (pU 0))), rfl, f, Nat.zero_le _, (by omega), (fun i hi => absurd hi (Nat.not_lt_zero i))⟩ ?_
 rintro q _ b ⟨h, j, rfl, s, c, hj, heq, hp⟩
 refine zB (zB (zC ?_))
 refine qM (vJ (j : Int)) ?_
 refine qM u ?_
 refine qD rfl (zN Tryz.underlying57 (v := u) rfl hu) ?_
 refine qD rfl (yV rfl rfl) ?_
 refine qe (zA ?_)
 refine yI (p := ((j : Int) : Int) < (xs.length : Int)) rfl rfl (fun m => ?_) (fun m => ?_)
 ·skip
  refine wp_skip ?_
  refine zA (zB ?_)
  refine zX ?_
  refine zB ?_
  refine xG (S := fun wz => Pins G wz) (last := 9) (by kernel_rfl) rfl ?_
  have l : Below b.heap.size b b.drew := (Below.refl _ _).drew
  have o := c.pins.below l
  have a := c.step o l
  refine dM 0 u a.pins ?_
  refine dM 1 (vJ (j : Int)) a.pins ?_
  refine dT (i := 2) rfl rfl (by kernel_rfl) (fun _ _ => zJ Tryz.underlying57 sz3 (v := u) rfl rfl hu (by omega) (by omega)) a.pins ?_
  refine dT (i := 3) rfl rfl (by kernel_rfl) (fun _ hS => zK (r := xs.getD j 0) rfl ag3 (z := (j : Int)) rfl hu hS (by omega) (by omega)) a.pins ?_
  refine dM 4 v a.pins ?_
  refine dM 5 (vJ (j : Int)) a.pins ?_
  refine dT (i := 6) rfl rfl (by kernel_rfl) (fun _ _ => zJ Tryz.underlying57 sz3 (v := v) rfl rfl hv (by omega) (by omega)) a.pins ?_
  refine dT (i := 7) rfl rfl (by kernel_rfl) (fun _ hS => zK (r := ys.getD j 0) rfl ag3 (z := (j : Int)) rfl hv hS (by omega) (by omega)) a.pins ?_
  refine dT (i := 8) rfl rfl (by kernel_rfl) (fun _ _ => r_neq rfl rfl) a.pins ?_
  refine yT (by kernel_rfl) ?_
  refine zA ?_
  refine yI (p := (xs.getD j 0 : Int) ≠ (ys.getD j 0)) rfl rfl (fun d => ?_) (fun d => ?_)
  ·skip
   refine zB (zC ?_)
   refine qM (.bool false) ?_
   refine qe (zA ?_)
   refine wp_ret ?_
   refine zR ?_
   refine zQ (v := (.bool false)) rfl rfl rfl ?_
   exact ⟨congrArg (fun z => Ending.returned (Value.bool z)) (decide_eq_false (fun e => d (by rw [e]))).symm, a⟩
  refine wp_skip ?_
  refine yJ ?_
  refine zA (zC ?_)
  refine qM (vJ (j : Int)) ?_
  refine qD rfl (yR rfl rfl (by omega)) ?_
  refine qM (vJ ((j : Int) + 1)) ?_
  refine qe ?_
  refine yK ?_
  refine ⟨_, ?_, _, rfl, _, j + 1, (pS 5 (pS 1 (pU 0))), rfl, a, (by omega), heq, (eqstep hp d)⟩
  omega
 refine wp_exit ?_
 refine yA ?_
 refine yN ?_
 refine yL ?_
 refine zA (zB (zC ?_))
 refine qM (.bool true) ?_
 refine qe (zA ?_)
 refine wp_ret ?_
 refine zR ?_
 refine zQ (v := (.bool true)) rfl rfl rfl ?_
 exact ⟨congrArg (fun z => Ending.returned (Value.bool z)) (decide_eq_true (eqdone heq (by omega) hp)).symm, c⟩

theorem drGreatestOf_spec {w : World} {G : Pin} {v : Value} {code : List UInt8} (hP : Pins G w) (hc : RSl eByte G v code) :
  Calls Tryz.prog 11 [v].toArray w fun e w' => ∃ (u : Value) (fs : List (List Nd)) (G' : Pin), e = .returned u ∧ RSl (eSl eNode) G' u fs ∧ fs.length ≤ 30 ∧ Ext noS G w G' w' := by
 refine yD (n := 46) Tryz.func11 Tryz.ntmps11 rfl rfl ?_
 have an : Ext noS G w G w := Ext.refl hP
 have hm := hc.max
 refine zB (zC ?_)
 refine qM (.slice none 0 0) ?_
 refine qe (zA (zB (zC ?_)))
 refine qM v ?_
 refine qD rfl (xF [(.slice none 0 0), (vJ 0), (.int .u64 0)] [v, (vJ 0), (.int .u64 0)] [(0, v, [v])] Tryz.underlying63 zr63 rfl pl63 rfl (List.forall_mem_cons.2 ⟨(yY hc.one), (fun _ h => by cases h)⟩) rfl) ?_
 refine qI rfl (qA [v, (vJ 0), (.int .u64 0)] (v := (.agg [v, (vJ 0), (.int .u64 0)].toArray)) rfl rfl an.pins (fun a w2 hb bm da db => ?_))
 have ao := an.step da db
 have f : w.heap.size ≤ a := by have := an.size; omega
 refine qM (.pointer (some ⟨a, 0, none⟩)) ?_
 refine qe (zA (zB (zC ?_)))
 refine qI rfl (yZ (E := (eSl eNode)) (e := 28) Tryz.underlying24 sz28 ao.pins (fun x dc dd de bn df => ?_))
 have bo := ao.step de bn
 have dg := bm.below bn
 have bp : Apart x.ownBlock (some a) := zH df bm.lt
 have dh : Own (eSl eNode) 28 G dc w.heap.size x ([]) := dd.weaken ao.size
 refine qM x ?_
 refine qe (zA (zB (zB (zC ?_))))
 refine qM (.pointer (some ⟨a, 0, none⟩)) ?_
 refine qI rfl (zM (vs := [(.pointer (some ⟨a, 0, none⟩)), (vJ 6)]) Tryz.func41 nm41 rfl rfl rfl ?_)
 refine Calls.mono (qJ bo.pins dg hc (by omega) (by omega) (n := 6) (by omega)) ?_
 rintro _ hd ⟨bq, di, dj, rfl, he, dk, hf, hg, br⟩
 refine ⟨_, rfl, ?_⟩
 have dl := bo.trans br (fun i hi => (zV f) i hi)
 have dm := dh.extS br (notO bp)
 refine qM (vJ bq) ?_
 refine qe (zA ?_)
 refine zX ?_
 refine yQ (fun (k : Nat) (en : Nat → Value) (W : World) => ∃ (g : Nat → Value) (za : Int) (la : Value) (las : List (List Nd)) (ac : Int) (sc : Int) (j : Pin), en = (upd (upd (upd (upd g 2 (.slice none 0 0)) 3 (.pointer (some ⟨a, 0, none⟩))) 4 la) 5 (vJ za)) ∧ k = za.toNat ∧ Ext noS G w j W ∧ Pin.le G j ∧ (0 ≤ za ∧ za ≤ 6) ∧ (las.length : Int) + za ≤ 6 ∧ (0 ≤ ac ∧ ac + 16 * za ≤ 1000) ∧ (0 ≤ sc ∧ sc < 18446744073709551616) ∧ (Own (eSl eNode) 28 j W w.heap.size la (las)) ∧ (Bx j W a [v, (vJ ac), (.int .u64 sc)]) ∧ (Apart la.ownBlock (some a))) _ ⟨_, bq, x, [], di, dj, G, (pS 5 (pS 4 (pS 3 (pU 2)))), rfl, dl, Pin.le_refl _, (by omega), (by first | omega | (simp; omega)), (by omega), (by omega), dm, dk, bp⟩ ?_
 rintro hh _ hj ⟨g, za, la, las, ac, sc, j, rfl, hk, q, l, hzza, hlza, hac, hsc, ap, aq, d⟩
 refine zB (zB (zC ?_))
 refine qM (vJ za) ?_
 refine qD rfl (r_gtr rfl rfl) ?_
 refine qe (zA ?_)
 refine yI (p := (0 : Int) < za) rfl rfl (fun dn => ?_) (fun dn => ?_)
 ·skip
  refine wp_skip ?_
  refine zA (zB ?_)
  refine zX ?_
  refine zC ?_
  refine qM la ?_
  refine qM (.pointer (some ⟨a, 0, none⟩)) ?_
  refine qI rfl (zM (vs := [(.pointer (some ⟨a, 0, none⟩)), (vJ 1)]) Tryz.func42 nm42 rfl rfl rfl ?_)
  refine Calls.mono (dform_spec (n := 1) q.pins aq (hc.mono l) (by omega) (by omega) (by omega)) ?_
  rintro _ dp ⟨bs, r, dq, dr, ds, rfl, ar, dt, hl, du, hn, ho, au⟩
  refine ⟨_, rfl, ?_⟩
  have dv := q.trans au (fun i hi => (zV f) i hi)
  have dw := ap.extS au (notO d)
  have dx := zS ar.lt ap.lt
  have dy := zZ ar.lt aq.lt
  have dz : Own eNode 68 ds dp w.heap.size bs (formG r) := ar.weaken q.size
  have hp := dt.1.lo
  obtain ⟨bt, bu, av, d0, bv⟩ := dz.sealed dv
  have d1 := dw.moreO bu bv dx.symm
  have d2 := du.moreO bv dy.symm
  refine qI rfl (xC (E := (eSl eNode)) (e := 28) [bs] (formG r) Tryz.underlying24 sz28 zr28 ⟨_, rfl, d0⟩ rfl (by decide) av.pins (fun bw d3 d4 d5 aw hq => ?_))
  have ax := av.step d5 aw
  have bx := d1.below aw
  have bz := d2.below aw
  have d6 : Own (eSl eNode) 28 bt d3 w.heap.size bw ([formG r]) := d4.weaken av.size
  refine qI rfl (o_append (E := (eSl eNode)) (v := la) (u := bw) 24 Tryz.underlying24 ap28 (by decide) rfl rfl ax.pins bx d6.src (by first | omega | (rw [List.nil_append]; omega) | (rw [List.length_nil]; omega) | (rw [List.length_append]; omega) | (simp; done) | (simp; omega) | (simp only [List.length_cons, List.length_nil]; omega) | (simp only [List.length_append, List.length_cons, List.length_nil]; omega)) (by first | omega | (rw [List.nil_append]; omega) | (rw [List.length_nil]; omega) | (rw [List.length_append]; omega) | (simp; done) | (simp; omega) | (simp only [List.length_cons, List.length_nil]; omega) | (simp only [List.length_append, List.length_cons, List.length_nil]; omega)) (ax.size) (fun ay hr d7 d8 b0 d9 => ?_))
  have ea := ax.write d8 b0 ((yB bx))
  have eb := bz.keptA b0 d.symm
  have ec : Apart (some a) ay.ownBlock := zL d.symm d9 bz.lt
  have hs : (las ++ ([formG r])).length = las.length + 1 := List.length_append
  refine qM ay ?_
  refine qe ?_
  refine yJ ?_
  refine zA (zC ?_)
  refine qM (vJ za) ?_
  refine qD rfl (qU rfl rfl (by omega)) ?_
  refine qM (vJ (za - 1)) ?_
  refine qe ?_
  refine yK ?_
  refine ⟨_, ?_, _, rfl, _, za - 1, ay, las ++ ([formG r]), dq, dr, bt, (pS 5 (pS 4 (pS 3 (pU 2)))), rfl, ea, (Pin.le_trans (Pin.le_trans l au.le) bu), (by omega), (by simp; omega), (by omega), (by omega), d7, eb, ec.symm⟩
  omega
 refine wp_exit ?_
 refine yA ?_
 refine yN ?_
 refine yL ?_
 refine zA (zB (zB (zC ?_)))
 refine qM (.pointer (some ⟨a, 0, none⟩)) ?_
 refine qI rfl (zM (vs := [(.pointer (some ⟨a, 0, none⟩)), (vJ 20)]) Tryz.func43 nm43 rfl rfl rfl ?_)
 refine Calls.mono (one_spec q.pins aq (hc.mono l) (by omega) (by omega) (n := 20) (by omega)) ?_
 rintro _ ht ⟨hu, hv, hw, rfl, b2, hx, hy, b3⟩
 refine ⟨_, rfl, ?_⟩
 have y := q.trans b3 (fun i hi => (zV f) i hi)
 have b4 := ap.extS b3 (notO d)
 refine qe (zA ?_)
 refine c_if rfl rfl (fun ed => ?_) (fun ed => ?_)
 ·skip
  refine zC ?_
  refine qM la ?_
  refine qM (.pointer (some ⟨a, 0, none⟩)) ?_
  refine qI rfl (zM (vs := [(.pointer (some ⟨a, 0, none⟩)), (vJ 2)]) Tryz.func44 nm44 rfl rfl rfl ?_)
  refine Calls.mono (anyForm_spec (n := 2) y.pins b2 (hc.mono l) (by omega) (by omega) (by omega)) ?_
  rintro _ hz ⟨ee, z, h0, h1, aa, rfl, b5, ef, h2, h3, ab⟩
  refine ⟨_, rfl, ?_⟩
  have az := y.trans ab (fun i hi => (zV f) i hi)
  have eg := b4.extS ab (notO d)
  have h4 := b5.max
  refine qI rfl (xC (E := (eSl eNode)) (e := 28) [ee] z Tryz.underlying24 sz28 zr28 ⟨_, rfl, b5⟩ rfl (by decide) az.pins (fun b6 eh ei ej a0 h5 => ?_))
  have a1 := az.step ej a0
  have b7 := eg.below a0
  have b8 := ef.below a0
  have ek : Own (eSl eNode) 28 aa eh w.heap.size b6 ([z]) := ei.weaken az.size
  refine qI rfl (o_append (E := (eSl eNode)) (v := la) (u := b6) 24 Tryz.underlying24 ap28 (by decide) rfl rfl a1.pins b7 ek.src (by first | omega | (rw [List.nil_append]; omega) | (rw [List.length_nil]; omega) | (rw [List.length_append]; omega) | (simp; done) | (simp; omega) | (simp only [List.length_cons, List.length_nil]; omega) | (simp only [List.length_append, List.length_cons, List.length_nil]; omega)) (by first | omega | (rw [List.nil_append]; omega) | (rw [List.length_nil]; omega) | (rw [List.length_append]; omega) | (simp; done) | (simp; omega) | (simp only [List.length_cons, List.length_nil]; omega) | (simp only [List.length_append, List.length_cons, List.length_nil]; omega)) (a1.size) (fun c h6 el em b9 eo => ?_))
  have ca := a1.write em b9 ((yB b7))
  have ep := b8.keptA b9 d.symm
  have cb : Apart (some a) c.ownBlock := zL d.symm eo b8.lt
  have h7 : (las ++ ([z])).length = las.length + 1 := List.length_append
  refine qM c ?_
  refine qe (zA (zB (zB (zC ?_))))
  refine qM (.pointer (some ⟨a, 0, none⟩)) ?_
  refine qI rfl (zM (vs := [(.pointer (some ⟨a, 0, none⟩)), (vJ 20)]) Tryz.func43 nm43 rfl rfl rfl ?_)
  refine Calls.mono (one_spec ca.pins ep (hc.mono (Pin.le_trans l ab.le)) (by omega) (by omega) (n := 20) (by omega)) ?_
  rintro _ h8 ⟨h9, ia, ib, rfl, cc, ic, ie, cd⟩
  refine ⟨_, rfl, ?_⟩
  have ad := ca.trans cd (fun i hi => (zV f) i hi)
  have a2 := el.extS cd (notO cb.symm)
  refine qe (zA ?_)
  refine c_if rfl rfl (fun eq => ?_) (fun eq => ?_)
  ·skip
   refine zB (zC ?_)
   refine qI rfl (yZ (E := (eSl eNode)) (e := 28) Tryz.underlying24 sz28 ad.pins (fun s er es et a3 ce => ?_))
   have cf := ad.step et a3
   have eu := a2.below a3
   have ev := cc.below a3
   have ew : Apart s.ownBlock c.ownBlock := zI ce a2.lt
   have cg : Apart s.ownBlock (some a) := zH ce cc.lt
   have ex : Own (eSl eNode) 28 aa er w.heap.size s ([]) := es.weaken ad.size
   refine qM s ?_
   refine qe (zA (zB (zC ?_)))
   refine qM (.pointer (some ⟨a, 0, none⟩)) ?_
   refine qI rfl (zM (vs := [(.pointer (some ⟨a, 0, none⟩)), (vJ 2)]) Tryz.func41 nm41 rfl rfl rfl ?_)
   refine Calls.mono (qJ cf.pins ev (hc.mono (Pin.le_trans l ab.le)) (by omega) (by omega) (n := 2) (by omega)) ?_
   rintro _ ig ⟨ch, ey, ez, rfl, ih, e0, ii, ij, a4⟩
   refine ⟨_, rfl, ?_⟩
   have e1 := cf.trans a4 (fun i hi => (zV f) i hi)
   have e2 := eu.extS a4 (notO cb.symm)
   have e3 := ex.extS a4 (notO cg)
   refine qD rfl (yR rfl rfl (by omega)) ?_
   refine qM (vJ (24 + ch)) ?_
   refine qe (zA ?_)
   refine zX ?_
   refine yQ (fun (k : Nat) (en : Nat → Value) (W : World) => ∃ (g : Nat → Value) (zb : Int) (lb : Value) (lbs : List (List Nd)) (b : Pin), en = (upd (upd (upd g 2 (.slice none 0 0)) 4 lb) 6 (vJ zb)) ∧ k = zb.toNat ∧ Ext noS G w b W ∧ Pin.le aa b ∧ (0 ≤ zb ∧ zb ≤ 26) ∧ (lbs.length : Int) + zb ≤ 26 ∧ (Own (eSl eNode) 28 b W w.heap.size lb (lbs)) ∧ (Own (eSl eNode) 28 b W w.heap.size c (las ++ ([z]))) ∧ (Bx b W a [v, (vJ ey), (.int .u64 ez)]) ∧ (Apart lb.ownBlock c.ownBlock) ∧ (Apart lb.ownBlock (some a))) _ ⟨_, 24 + ch, s, [], aa, (pS 6 (pS 4 (pU 2))), rfl, e1, Pin.le_refl _, (by omega), (by first | omega | (simp; omega)), e3, e2, e0, ew, cg⟩ ?_
   rintro ik _ il ⟨g, zb, lb, lbs, b, rfl, im, ae, e4, hzzb, hlzb, a5, ci, cj, ck, cl⟩
   refine zB (zB (zC ?_))
   refine qM (vJ zb) ?_
   refine qD rfl (r_gtr rfl rfl) ?_
   refine qe (zA ?_)
   refine yI (p := (0 : Int) < zb) rfl rfl (fun e5 => ?_) (fun e5 => ?_)
   ·skip
    refine wp_skip ?_
    refine zA (zB ?_)
    refine zX ?_
    refine zC ?_
    refine qM lb ?_
    refine qD rfl (xF [(.slice none 0 0), (.slice none 0 0)] [(.slice none 0 0), (.slice none 0 0)] [] Tryz.underlying68 zr68 rfl pl68 rfl (fun _ h => by cases h) rfl) ?_
    refine qI rfl (xC (E := eNode) (e := 68) [(.slice none 0 0), (.slice none 0 0)] (⟨[], []⟩ : Nd) Tryz.underlying26 sz68 zr68 ⟨_, _, rfl, (xL _ _), (xL _ _)⟩ rfl (by decide) ae.pins (fun m e6 e7 e8 af a6 => ?_))
    have e9 := ae.step e8 af
    have fa := a5.below af
    have fb := ci.below af
    have fc := cj.below af
    have fd : Apart m.ownBlock lb.ownBlock := zI a6 a5.lt
    have fe : Apart m.ownBlock c.ownBlock := zI a6 ci.lt
    have ff : Apart m.ownBlock (some a) := zH a6 cj.lt
    have cm : Own eNode 68 b e6 w.heap.size m ([(⟨[], []⟩ : Nd)]) := e7.weaken ae.size
    refine qD rfl (xF [(.slice none 0 0)] [m] [(0, m, [m])] Tryz.underlying28 zr28 rfl pl28 rfl (List.forall_mem_cons.2 ⟨(yY cm.one), (fun _ h => by cases h)⟩) rfl) ?_
    obtain ⟨cn, a7, a8, fg, a9⟩ := cm.sealed e9
    have fh := fa.moreO a7 a9 fd.symm
    have fi := fb.moreO a7 a9 fe.symm
    have fj := fc.moreO a9 ff.symm
    refine qI rfl (xC (E := (eSl eNode)) (e := 28) [m] ([(⟨[], []⟩ : Nd)]) Tryz.underlying24 sz28 zr28 ⟨_, rfl, fg⟩ rfl (by decide) a8.pins (fun co fk fl fm ag io => ?_))
    have ba := a8.step fm ag
    have cp := fh.below ag
    have cq := fi.below ag
    have cr := fj.below ag
    have fn : Own (eSl eNode) 28 cn fk w.heap.size co ([[(⟨[], []⟩ : Nd)]]) := fl.weaken a8.size
    refine qI rfl (o_append (E := (eSl eNode)) (v := lb) (u := co) 24 Tryz.underlying24 ap28 (by decide) rfl rfl ba.pins cp fn.src (by first | omega | (rw [List.nil_append]; omega) | (rw [List.length_nil]; omega) | (rw [List.length_append]; omega) | (simp; done) | (simp; omega) | (simp only [List.length_cons, List.length_nil]; omega) | (simp only [List.length_append, List.length_cons, List.length_nil]; omega)) (by first | omega | (rw [List.nil_append]; omega) | (rw [List.length_nil]; omega) | (rw [List.length_append]; omega) | (simp; done) | (simp; omega) | (simp only [List.length_cons, List.length_nil]; omega) | (simp only [List.length_append, List.length_cons, List.length_nil]; omega)) (ba.size) (fun ah ip fo fp bb cs => ?_))
    have fq := ba.write fp bb ((yB cp))
    have fr := cq.keptA bb ck.symm
    have ft := cr.keptA bb cl.symm
    have fu : Apart c.ownBlock ah.ownBlock := zG ck.symm cs cq.lt
    have fv : Apart (some a) ah.ownBlock := zL cl.symm cs cr.lt
    have iq : (lbs ++ ([[(⟨[], []⟩ : Nd)]])).length = lbs.length + 1 := List.length_append
    refine qM ah ?_
    refine qe ?_
    refine yJ ?_
    refine zA (zC ?_)
    refine qM (vJ zb) ?_
    refine qD rfl (qU rfl rfl (by omega)) ?_
    refine qM (vJ (zb - 1)) ?_
    refine qe ?_
    refine yK ?_
    refine ⟨_, ?_, _, rfl, _, zb - 1, ah, lbs ++ ([[(⟨[], []⟩ : Nd)]]), cn, (pS 6 (pS 4 (pU 2))), rfl, fq, (Pin.le_trans e4 a7), (by omega), (by simp; omega), fo, fr, ft, fu.symm, fv.symm⟩
    omega
   refine wp_exit ?_
   refine yA ?_
   refine yN ?_
   refine yL ?_
   refine zA (zB (zC ?_))
   refine qM lb ?_
   refine qM lb ?_
   refine qe (zA ?_)
   refine wp_ret ?_
   refine zR ?_
   refine zQ (v := lb) rfl rfl rfl ?_
   obtain ⟨ir, it, fw, fx, iu⟩ := a5.sealed ae
   exact ⟨_, _, _, rfl, fx, (by first | omega | (simp; omega)), fw⟩
  refine wp_skip ?_
  refine zA (zB (zC ?_))
  refine qM c ?_
  refine qM c ?_
  refine qe (zA ?_)
  refine wp_ret ?_
  refine zR ?_
  refine zQ (v := c) rfl rfl rfl ?_
  obtain ⟨iv, iw, fy, fz, ix⟩ := a2.sealed ad
  exact ⟨_, _, _, rfl, fz, (by first | omega | (simp; omega)), fy⟩
 refine wp_skip ?_
 refine zA (zB (zB (zC ?_)))
 refine qM (.pointer (some ⟨a, 0, none⟩)) ?_
 refine qI rfl (zM (vs := [(.pointer (some ⟨a, 0, none⟩)), (vJ 20)]) Tryz.func43 nm43 rfl rfl rfl ?_)
 refine Calls.mono (one_spec y.pins b2 (hc.mono l) (by omega) (by omega) (n := 20) (by omega)) ?_
 rintro _ iy ⟨iz, i0, i1, rfl, ct, i2, i3, cu⟩
 refine ⟨_, rfl, ?_⟩
 have ai := y.trans cu (fun i hi => (zV f) i hi)
 have bc := b4.extS cu (notO d)
 refine qe (zA ?_)
 refine c_if rfl rfl (fun f0 => ?_) (fun f0 => ?_)
 ·skip
  refine zB (zC ?_)
  refine qI rfl (yZ (E := (eSl eNode)) (e := 28) Tryz.underlying24 sz28 ai.pins (fun t f1 f2 f3 bd cv => ?_))
  have cw := ai.step f3 bd
  have f4 := bc.below bd
  have f5 := ct.below bd
  have f6 : Apart t.ownBlock la.ownBlock := zI cv bc.lt
  have cx : Apart t.ownBlock (some a) := zH cv ct.lt
  have f7 : Own (eSl eNode) 28 j f1 w.heap.size t ([]) := f2.weaken ai.size
  refine qM t ?_
  refine qe (zA (zB (zC ?_)))
  refine qM (.pointer (some ⟨a, 0, none⟩)) ?_
  refine qI rfl (zM (vs := [(.pointer (some ⟨a, 0, none⟩)), (vJ 2)]) Tryz.func41 nm41 rfl rfl rfl ?_)
  refine Calls.mono (qJ cw.pins f5 (hc.mono l) (by omega) (by omega) (n := 2) (by omega)) ?_
  rintro _ i4 ⟨cy, f8, f9, rfl, i5, ga, i6, i7, be⟩
  refine ⟨_, rfl, ?_⟩
  have gb := cw.trans be (fun i hi => (zV f) i hi)
  have gc := f4.extS be (notO d)
  have gd := f7.extS be (notO cx)
  refine qD rfl (yR rfl rfl (by omega)) ?_
  refine qM (vJ (24 + cy)) ?_
  refine qe (zA ?_)
  refine zX ?_
  refine yQ (fun (k : Nat) (en : Nat → Value) (W : World) => ∃ (g : Nat → Value) (zb : Int) (lb : Value) (lbs : List (List Nd)) (b : Pin), en = (upd (upd (upd g 2 (.slice none 0 0)) 4 lb) 6 (vJ zb)) ∧ k = zb.toNat ∧ Ext noS G w b W ∧ Pin.le j b ∧ (0 ≤ zb ∧ zb ≤ 26) ∧ (lbs.length : Int) + zb ≤ 26 ∧ (Own (eSl eNode) 28 b W w.heap.size lb (lbs)) ∧ (Own (eSl eNode) 28 b W w.heap.size la (las)) ∧ (Bx b W a [v, (vJ f8), (.int .u64 f9)]) ∧ (Apart lb.ownBlock la.ownBlock) ∧ (Apart lb.ownBlock (some a))) _ ⟨_, 24 + cy, t, [], j, (pS 6 (pS 4 (pU 2))), rfl, gb, Pin.le_refl _, (by omega), (by first | omega | (simp; omega)), gd, gc, ga, f6, cx⟩ ?_
  rintro i8 _ i9 ⟨g, zb, lb, lbs, b, rfl, ja, aj, ge, hzzb, hlzb, bf, cz, c0, c1, c2⟩
  refine zB (zB (zC ?_))
  refine qM (vJ zb) ?_
  refine qD rfl (r_gtr rfl rfl) ?_
  refine qe (zA ?_)
  refine yI (p := (0 : Int) < zb) rfl rfl (fun gf => ?_) (fun gf => ?_)
  ·skip
   refine wp_skip ?_
   refine zA (zB ?_)
   refine zX ?_
   refine zC ?_
   refine qM lb ?_
   refine qD rfl (xF [(.slice none 0 0), (.slice none 0 0)] [(.slice none 0 0), (.slice none 0 0)] [] Tryz.underlying68 zr68 rfl pl68 rfl (fun _ h => by cases h) rfl) ?_
   refine qI rfl (xC (E := eNode) (e := 68) [(.slice none 0 0), (.slice none 0 0)] (⟨[], []⟩ : Nd) Tryz.underlying26 sz68 zr68 ⟨_, _, rfl, (xL _ _), (xL _ _)⟩ rfl (by decide) aj.pins (fun o gg gh gi ak bg => ?_))
   have gj := aj.step gi ak
   have gk := bf.below ak
   have gl := cz.below ak
   have gm := c0.below ak
   have gn : Apart o.ownBlock lb.ownBlock := zI bg bf.lt
   have gp : Apart o.ownBlock la.ownBlock := zI bg cz.lt
   have gq : Apart o.ownBlock (some a) := zH bg c0.lt
   have c3 : Own eNode 68 b gg w.heap.size o ([(⟨[], []⟩ : Nd)]) := gh.weaken aj.size
   refine qD rfl (xF [(.slice none 0 0)] [o] [(0, o, [o])] Tryz.underlying28 zr28 rfl pl28 rfl (List.forall_mem_cons.2 ⟨(yY c3.one), (fun _ h => by cases h)⟩) rfl) ?_
   obtain ⟨c4, bh, bi, gr, bj⟩ := c3.sealed gj
   have gs := gk.moreO bh bj gn.symm
   have gt := gl.moreO bh bj gp.symm
   have gu := gm.moreO bj gq.symm
   refine qI rfl (xC (E := (eSl eNode)) (e := 28) [o] ([(⟨[], []⟩ : Nd)]) Tryz.underlying24 sz28 zr28 ⟨_, rfl, gr⟩ rfl (by decide) bi.pins (fun c5 gv gw gx al jb => ?_))
   have bk := bi.step gx al
   have c6 := gs.below al
   have c7 := gt.below al
   have c8 := gu.below al
   have gy : Own (eSl eNode) 28 c4 gv w.heap.size c5 ([[(⟨[], []⟩ : Nd)]]) := gw.weaken bi.size
   refine qI rfl (o_append (E := (eSl eNode)) (v := lb) (u := c5) 24 Tryz.underlying24 ap28 (by decide) rfl rfl bk.pins c6 gy.src (by first | omega | (rw [List.nil_append]; omega) | (rw [List.length_nil]; omega) | (rw [List.length_append]; omega) | (simp; done) | (simp; omega) | (simp only [List.length_cons, List.length_nil]; omega) | (simp only [List.length_append, List.length_cons, List.length_nil]; omega)) (by first | omega | (rw [List.nil_append]; omega) | (rw [List.length_nil]; omega) | (rw [List.length_append]; omega) | (simp; done) | (simp; omega) | (simp only [List.length_cons, List.length_nil]; omega) | (simp only [List.length_append, List.length_cons, List.length_nil]; omega)) (bk.size) (fun am jc gz g0 bl c9 => ?_))
   have g1 := bk.write g0 bl ((yB c6))
   have g2 := c7.keptA bl c1.symm
   have g3 := c8.keptA bl c2.symm
   have g4 : Apart la.ownBlock am.ownBlock := zG c1.symm c9 c7.lt
   have g5 : Apart (some a) am.ownBlock := zL c2.symm c9 c8.lt
   have jd : (lbs ++ ([[(⟨[], []⟩ : Nd)]])).length = lbs.length + 1 := List.length_append
   refine qM am ?_
   refine qe ?_
   refine yJ ?_
   refine zA (zC ?_)
   refine qM (vJ zb) ?_
   refine qD rfl (qU rfl rfl (by omega)) ?_
   refine qM (vJ (zb - 1)) ?_
   refine qe ?_
   refine yK ?_
   refine ⟨_, ?_, _, rfl, _, zb - 1, am, lbs ++ ([[(⟨[], []⟩ : Nd)]]), c4, (pS 6 (pS 4 (pU 2))), rfl, g1, (Pin.le_trans ge bh), (by omega), (by simp; omega), gz, g2, g3, g4.symm, g5.symm⟩
   omega
  refine wp_exit ?_
  refine yA ?_
  refine yN ?_
  refine yL ?_
  refine zA (zB (zC ?_))
  refine qM lb ?_
  refine qM lb ?_
  refine qe (zA ?_)
  refine wp_ret ?_
  refine zR ?_
  refine zQ (v := lb) rfl rfl rfl ?_
  obtain ⟨je, jf, g6, g7, jg⟩ := bf.sealed aj
  exact ⟨_, _, _, rfl, g7, (by first | omega | (simp; omega)), g6⟩
 refine wp_skip ?_
 refine zA (zB (zC ?_))
 refine qM la ?_
 refine qM la ?_
 refine qe (zA ?_)
 refine wp_ret ?_
 refine zR ?_
 refine zQ (v := la) rfl rfl rfl ?_
 obtain ⟨jh, ji, g8, g9, jj⟩ := bc.sealed ai
 exact ⟨_, _, _, rfl, g9, (by first | omega | (simp; omega)), g8⟩

end GW1
end Go.Proofs.YtkfgdhanaijddaaGreatDoor

set_option maxRecDepth 20000
set_option maxHeartbeats 2000000
namespace Go.Proofs.YtkfgdhanaijddaaGreatDoor
namespace SO8
open Go.RowKit Go.GL Go.Proofs
open Go.Proofs.YtkfgdhanaijddaaGreatDoor.B1
open Go.Proofs.YtkfgdhanaijddaaGreatDoor.C1
open Go.Proofs.YtkfgdhanaijddaaGreatDoor.D1
open Go.Proofs.YtkfgdhanaijddaaGreatDoor.E1
open Go.Proofs.YtkfgdhanaijddaaGreatDoor.K1
open Go.Proofs.YtkfgdhanaijddaaGreatDoor.PO1
open Go.Proofs.YtkfgdhanaijddaaGreatDoor.PL1
open Go.Proofs.YtkfgdhanaijddaaGreatDoor.PA1
open Go.Proofs.YtkfgdhanaijddaaGreatDoor.SO1
open Go.Proofs.YtkfgdhanaijddaaGreatDoor.OD1
open Go.Proofs.YtkfgdhanaijddaaGreatDoor.FO1
open Go.Proofs.YtkfgdhanaijddaaGreatDoor.NG1
open Go.Proofs.YtkfgdhanaijddaaGreatDoor.NF1
open Go.Proofs.YtkfgdhanaijddaaGreatDoor.PF1
open Go.Proofs.YtkfgdhanaijddaaGreatDoor.SF1
open Go.Proofs.YtkfgdhanaijddaaGreatDoor.MK1
open Go.Proofs.YtkfgdhanaijddaaGreatDoor.DR1
open Go.Proofs.YtkfgdhanaijddaaGreatDoor.DR2
open Go.Proofs.YtkfgdhanaijddaaGreatDoor.DV1
open Go.Proofs.YtkfgdhanaijddaaGreatDoor.DV2
open Go.Proofs.YtkfgdhanaijddaaGreatDoor.SM1
open Go.Proofs.YtkfgdhanaijddaaGreatDoor.GW1












theorem pl28 : (Tryz.prog.underlying 28).bind (placesD Tryz.prog) = some [(0, 1)] := by kernel_rfl
theorem pl68 : (Tryz.prog.underlying 68).bind (placesD Tryz.prog) = some [(0, 1), (1, 1)] := by kernel_rfl




theorem qS {w : World} {G : Pin} {u v : Value} {fs gs : List Nd} (hP : Pins G w) (hu : RSl eNode G u fs) (hv : RSl eNode G v gs) :
  Calls Tryz.prog 12 [(.agg [u].toArray), (.agg [v].toArray)].toArray w fun e w' => ∃ (u : Value) (G' : Pin), e = .returned (.tuple #[(.agg [u].toArray), .bool (sumB fs gs)]) ∧ RSl eNode G' u (sumF fs gs) ∧ Ext noS G w G' w' := by
 refine (iSumForms_dspec hP hu hv).mono ?_
 rintro e w' ⟨u, G', rfl, hd, hx⟩
 obtain ⟨G2, hr, hx2⟩ := d_prom hd hx
 exact ⟨u, G2, rfl, hr, hx2⟩

theorem vSame_spec {w : World} {G : Pin} {u v : Value} {xs ys : List Nd} (hP : Pins G w) (hu : RSl eNode G u xs) (hv : RSl eNode G v ys) :
  Calls Tryz.prog 15 [(.agg [u].toArray), (.agg [v].toArray)].toArray w fun e w' => ∃ G', e = .returned (.bool (decide (xs = ys))) ∧ Ext noS G w G' w' := by
 refine yD (n := 50) Tryz.func15 Tryz.ntmps15 rfl rfl ?_
 have y : Ext noS G w G w := Ext.refl hP
 have hm := hu.max
 refine zB (zC ?_)
 refine qI rfl (qA [u] (v := (.agg [u].toArray)) rfl rfl y.pins (fun b1 w2 bc ap aq ar => ?_))
 have au := y.step aq ar
 have av : w.heap.size ≤ b1 := by have := y.size; omega
 obtain ⟨G9, f, aa, q, be⟩ := ap.shut au av
 refine qI rfl (qA [v] (v := (.agg [v].toArray)) rfl rfl aa.pins (fun ae bf bg aw ax ay => ?_))
 have az := aa.step ax ay
 have a0 : w.heap.size ≤ ae := by have := aa.size; omega
 obtain ⟨af, d, s, ab, bh⟩ := aw.shut az a0
 refine qM (.bool false) ?_
 refine qe (zA (zB (zB (zC ?_))))
 refine qD rfl (zO (k := 0) rfl Tryz.underlying28 rfl nz26 rfl) ?_
 refine qD rfl (zP (u := u) ag26 rfl ((Pins.of_le s.pins d) _ _ _ (q 0 _ rfl))) ?_
 refine qD rfl (zN Tryz.underlying26 (v := u) rfl hu) ?_
 refine qD rfl (zO (k := 0) rfl Tryz.underlying28 rfl nz26 rfl) ?_
 refine qD rfl (zP (u := v) ag26 rfl (s.pins _ _ _ (ab 0 _ rfl))) ?_
 refine qD rfl (zN Tryz.underlying26 (v := v) rfl hv) ?_
 refine qD rfl (r_neq rfl rfl) ?_
 refine qe (zA ?_)
 refine yI (p := ((xs.length : Int) : Int) ≠ (ys.length : Int)) rfl rfl (fun ag => ?_) (fun ag => ?_)
 ·skip
  refine zB (zC ?_)
  refine qM (.bool false) ?_
  refine qe (zA ?_)
  refine wp_ret ?_
  refine zR ?_
  refine zQ (v := (.bool false)) rfl rfl rfl ?_
  exact ⟨_, congrArg (fun z => Ending.returned (Value.bool z)) (decide_eq_false (fun e => ag (by rw [e]))).symm, s⟩
 refine wp_skip ?_
 refine zA (zB (zB (zC ?_)))
 refine qM (vJ 0) ?_
 refine qe (zA ?_)
 refine zX ?_
 refine yQ (fun (k : Nat) (en : Nat → Value) (W : World) => ∃ (ah : Nat → Value) (j : Nat) (m : Pin), en = (upd (upd (upd ah 2 (.pointer (some ⟨b1, 0, none⟩))) 3 (.pointer (some ⟨ae, 0, none⟩))) 5 (vJ (j : Int))) ∧ k = xs.length - j ∧ Ext noS G w m W ∧ Pin.le af m ∧ (j ≤ xs.length) ∧ (xs.length = ys.length) ∧ (∀ i, i < j → xs.getD i default = ys.getD i default)) _ ⟨_, 0, af, (pS 5 (pS 3 (pU 2))), rfl, s, Pin.le_refl _, Nat.zero_le _, (by omega), (fun i hi => absurd hi (Nat.not_lt_zero i))⟩ ?_
 rintro bi _ ac ⟨ah, j, m, rfl, bj, x, b, hj, heq, hp⟩
 refine zB (zB (zC ?_))
 refine qM (vJ (j : Int)) ?_
 refine qD rfl (zO (k := 0) rfl Tryz.underlying28 rfl nz26 rfl) ?_
 refine qD rfl (zP (u := u) ag26 rfl ((Pins.of_le x.pins (Pin.le_trans d b)) _ _ _ (q 0 _ rfl))) ?_
 refine qD rfl (zN Tryz.underlying26 (v := u) rfl hu) ?_
 refine qD rfl (yV rfl rfl) ?_
 refine qe (zA ?_)
 refine yI (p := ((j : Int) : Int) < (xs.length : Int)) rfl rfl (fun a1 => ?_) (fun a1 => ?_)
 ·skip
  refine wp_skip ?_
  refine zA (zB ?_)
  refine zX ?_
  refine zB ?_
  refine xG (S := fun wz => Pins m wz) (last := 30) (by kernel_rfl) rfl ?_
  have ai : Below ac.heap.size ac ac.drew := (Below.refl _ _).drew
  have a2 := x.pins.below ai
  have c := x.step a2 ai
  refine dT (i := 0) rfl rfl (by kernel_rfl) (fun _ _ => zO (k := 0) rfl Tryz.underlying28 rfl nz26 rfl) c.pins ?_
  refine dT (i := 1) rfl rfl (by kernel_rfl) (fun _ hS => zP (u := u) ag26 rfl ((Pins.of_le hS (Pin.le_trans d b)) _ _ _ (q 0 _ rfl))) c.pins ?_
  refine dM 2 (vJ (j : Int)) c.pins ?_
  refine dT (i := 3) rfl rfl (by kernel_rfl) (fun _ _ => zJ Tryz.underlying26 sz68 (v := u) rfl rfl hu (by omega) (by omega)) c.pins ?_
  refine dT (i := 4) rfl rfl (by kernel_rfl) (fun _ _ => xD (off := 0) Tryz.underlying68 rfl rfl nz57 (z := (j : Int)) (k := 0) rfl hu (by omega) (by omega)) c.pins ?_
  obtain ⟨a3, aj, a4⟩ := nm_nl (hu.at (z := (j : Int)) (by omega) (by omega)) (j := j) rfl
  have bk := aj.max
  refine dT (i := 5) rfl rfl (by kernel_rfl) (fun _ hS => a4 ag57 rfl (Pins.of_le hS (Pin.le_trans (Pin.le_trans f d) b))) c.pins ?_
  refine dT (i := 6) rfl rfl (by kernel_rfl) (fun _ _ => zO (k := 0) rfl Tryz.underlying28 rfl nz26 rfl) c.pins ?_
  refine dT (i := 7) rfl rfl (by kernel_rfl) (fun _ hS => zP (u := v) ag26 rfl ((Pins.of_le hS b) _ _ _ (ab 0 _ rfl))) c.pins ?_
  refine dM 8 (vJ (j : Int)) c.pins ?_
  refine dT (i := 9) rfl rfl (by kernel_rfl) (fun _ _ => zJ Tryz.underlying26 sz68 (v := v) rfl rfl hv (by omega) (by omega)) c.pins ?_
  refine dT (i := 10) rfl rfl (by kernel_rfl) (fun _ _ => xD (off := 0) Tryz.underlying68 rfl rfl nz57 (z := (j : Int)) (k := 0) rfl hv (by omega) (by omega)) c.pins ?_
  obtain ⟨a5, ak, a6⟩ := nm_nl (hv.at (z := (j : Int)) (by omega) (by omega)) (j := j) rfl
  have bl := ak.max
  refine dT (i := 11) rfl rfl (by kernel_rfl) (fun _ hS => a6 ag57 rfl (Pins.of_le hS (Pin.le_trans (Pin.le_trans f d) b))) c.pins ?_
  refine dO (i := 12) (zT (i := 12) rfl rfl rfl (zD rfl _) (zM (vs := [a3, a5]) Tryz.func54 nm54 rfl rfl rfl ?_))
  refine Calls.mono (vInts_spec c.pins (aj.mono (Pin.le_trans (Pin.le_trans f d) b)) (ak.mono (Pin.le_trans (Pin.le_trans f d) b))) ?_
  rintro _ bm ⟨rfl, al⟩
  refine ⟨_, rfl, ?_⟩
  have a := c.step al.pins al.below
  refine ⟨fun _ => a.pins, ?_⟩
  refine dT (i := 13) rfl rfl (by kernel_rfl) (fun _ _ => qC rfl) a.pins ?_
  refine dM 14 (.bool (!(decide (((xs.getD j default).l) = ((ys.getD j default).l))))) a.pins ?_
  refine drbn (t := 34) rfl (fun g => ?_) (fun g => ?_)
  ·skip
   replace g := of_decide_eq_true g
   refine yG (i := 15) rfl rfl rfl (zW rfl rfl rfl rfl) (by kernel_rfl) (fun _ _ => zO (k := 0) rfl Tryz.underlying28 rfl nz26 rfl) a.pins ?_
   refine yG (i := 16) rfl rfl rfl (zW rfl rfl rfl rfl) (by kernel_rfl) (fun _ hS => zP (u := u) ag26 rfl ((Pins.of_le hS (Pin.le_trans d b)) _ _ _ (q 0 _ rfl))) a.pins ?_
   refine yG (i := 17) rfl rfl rfl (zW rfl rfl rfl rfl) (by kernel_rfl) (fun _ _ => zU (v := (vJ (j : Int))) rfl) a.pins ?_
   refine yG (i := 18) rfl rfl rfl (zW rfl rfl rfl rfl) (by kernel_rfl) (fun _ _ => zJ Tryz.underlying26 sz68 (v := u) rfl rfl hu (by omega) (by omega)) a.pins ?_
   refine yG (i := 19) rfl rfl rfl (zW rfl rfl rfl rfl) (by kernel_rfl) (fun _ _ => xD (off := 1) Tryz.underlying68 rfl rfl nz57 (z := (j : Int)) (k := 0) rfl hu (by omega) (by omega)) a.pins ?_
   obtain ⟨a7, am, a8⟩ := nm_nr (hu.at (z := (j : Int)) (by omega) (by omega)) (j := j) rfl
   have bn := am.max
   refine yG (i := 20) rfl rfl rfl (zW rfl rfl rfl rfl) (by kernel_rfl) (fun _ hS => a8 ag57 rfl (Pins.of_le hS (Pin.le_trans (Pin.le_trans f d) b))) a.pins ?_
   refine yG (i := 21) rfl rfl rfl (zW rfl rfl rfl rfl) (by kernel_rfl) (fun _ _ => zO (k := 0) rfl Tryz.underlying28 rfl nz26 rfl) a.pins ?_
   refine yG (i := 22) rfl rfl rfl (zW rfl rfl rfl rfl) (by kernel_rfl) (fun _ hS => zP (u := v) ag26 rfl ((Pins.of_le hS b) _ _ _ (ab 0 _ rfl))) a.pins ?_
   refine yG (i := 23) rfl rfl rfl (zW rfl rfl rfl rfl) (by kernel_rfl) (fun _ _ => zU (v := (vJ (j : Int))) rfl) a.pins ?_
   refine yG (i := 24) rfl rfl rfl (zW rfl rfl rfl rfl) (by kernel_rfl) (fun _ _ => zJ Tryz.underlying26 sz68 (v := v) rfl rfl hv (by omega) (by omega)) a.pins ?_
   refine yG (i := 25) rfl rfl rfl (zW rfl rfl rfl rfl) (by kernel_rfl) (fun _ _ => xD (off := 1) Tryz.underlying68 rfl rfl nz57 (z := (j : Int)) (k := 0) rfl hv (by omega) (by omega)) a.pins ?_
   obtain ⟨a9, an, ba⟩ := nm_nr (hv.at (z := (j : Int)) (by omega) (by omega)) (j := j) rfl
   have bo := an.max
   refine yG (i := 26) rfl rfl rfl (zW rfl rfl rfl rfl) (by kernel_rfl) (fun _ hS => ba ag57 rfl (Pins.of_le hS (Pin.le_trans (Pin.le_trans f d) b))) a.pins ?_
   refine dO (i := 27) (zT (i := 27) rfl rfl rfl (zW rfl rfl rfl rfl) (zM (vs := [a7, a9]) Tryz.func54 nm54 rfl rfl rfl ?_))
   refine Calls.mono (vInts_spec a.pins (am.mono (Pin.le_trans (Pin.le_trans f d) b)) (an.mono (Pin.le_trans (Pin.le_trans f d) b))) ?_
   rintro _ bp ⟨rfl, ao⟩
   refine ⟨_, rfl, ?_⟩
   have o := a.step ao.pins ao.below
   refine ⟨fun _ => o.pins, ?_⟩
   refine yG (i := 28) rfl rfl rfl (zW rfl rfl rfl rfl) (by kernel_rfl) (fun _ _ => qC rfl) o.pins ?_
   refine dT (i := 29) rfl rfl (by kernel_rfl) (fun _ _ => xA (v := (.bool (!(decide (((xs.getD j default).r) = ((ys.getD j default).r)))))) rfl rfl) o.pins ?_
   refine yT (by kernel_rfl) ?_
   refine zA ?_
   refine c_ifn rfl rfl (fun h => ?_) (fun h => ?_)
   ·skip
    replace h := of_decide_eq_true h
    refine wp_skip ?_
    refine yJ ?_
    refine zA (zC ?_)
    refine qM (vJ (j : Int)) ?_
    refine qD rfl (yR rfl rfl (by omega)) ?_
    refine qM (vJ ((j : Int) + 1)) ?_
    refine qe ?_
    refine yK ?_
    refine ⟨_, ?_, _, rfl, _, j + 1, m, (pS 5 (pS 3 (pU 2))), rfl, o, b, (by omega), heq, (eqstepN hp g h)⟩
    omega
   replace h := of_decide_eq_false h
   refine zB (zC ?_)
   refine qM (.bool false) ?_
   refine qe (zA ?_)
   refine wp_ret ?_
   refine zR ?_
   refine zQ (v := (.bool false)) rfl rfl rfl ?_
   exact ⟨_, congrArg (fun z => Ending.returned (Value.bool z)) (decide_eq_false (fun e => h (by rw [e]))).symm, o⟩
  replace g := of_decide_eq_false g
  refine zY (i := 15) rfl rfl (yE rfl rfl rfl rfl rfl) (by kernel_rfl) a.pins ?_
  refine zY (i := 16) rfl rfl (yE rfl rfl rfl rfl rfl) (by kernel_rfl) a.pins ?_
  refine zY (i := 17) rfl rfl (yE rfl rfl rfl rfl rfl) (by kernel_rfl) a.pins ?_
  refine zY (i := 18) rfl rfl (yE rfl rfl rfl rfl rfl) (by kernel_rfl) a.pins ?_
  refine zY (i := 19) rfl rfl (yE rfl rfl rfl rfl rfl) (by kernel_rfl) a.pins ?_
  refine zY (i := 20) rfl rfl (yE rfl rfl rfl rfl rfl) (by kernel_rfl) a.pins ?_
  refine zY (i := 21) rfl rfl (yE rfl rfl rfl rfl rfl) (by kernel_rfl) a.pins ?_
  refine zY (i := 22) rfl rfl (yE rfl rfl rfl rfl rfl) (by kernel_rfl) a.pins ?_
  refine zY (i := 23) rfl rfl (yE rfl rfl rfl rfl rfl) (by kernel_rfl) a.pins ?_
  refine zY (i := 24) rfl rfl (yE rfl rfl rfl rfl rfl) (by kernel_rfl) a.pins ?_
  refine zY (i := 25) rfl rfl (yE rfl rfl rfl rfl rfl) (by kernel_rfl) a.pins ?_
  refine zY (i := 26) rfl rfl (yE rfl rfl rfl rfl rfl) (by kernel_rfl) a.pins ?_
  refine zY (i := 27) rfl rfl (yE rfl rfl rfl rfl rfl) (by kernel_rfl) a.pins ?_
  refine zY (i := 28) rfl rfl (yE rfl rfl rfl rfl rfl) (by kernel_rfl) a.pins ?_
  refine dT (i := 29) rfl rfl (by kernel_rfl) (fun _ _ => xE (v := (.bool true)) rfl rfl) a.pins ?_
  refine yT (by kernel_rfl) ?_
  refine zA ?_
  refine c_ifT rfl rfl ?_
  refine zB (zC ?_)
  refine qM (.bool false) ?_
  refine qe (zA ?_)
  refine wp_ret ?_
  refine zR ?_
  refine zQ (v := (.bool false)) rfl rfl rfl ?_
  exact ⟨_, congrArg (fun z => Ending.returned (Value.bool z)) (decide_eq_false (fun e => g (by rw [e]))).symm, a⟩
 refine wp_exit ?_
 refine yA ?_
 refine yN ?_
 refine yL ?_
 refine zA (zB (zC ?_))
 refine qM (.bool true) ?_
 refine qe (zA ?_)
 refine wp_ret ?_
 refine zR ?_
 refine zQ (v := (.bool true)) rfl rfl rfl ?_
 exact ⟨_, congrArg (fun z => Ending.returned (Value.bool z)) (decide_eq_true (eqdoneN heq (by omega) hp)).symm, x⟩

theorem l5Zero_spec {w : World} {G : Pin} (hP : Pins G w) :
  Calls Tryz.prog 52 [].toArray w fun e w' => ∃ (u : Value) (G' : Pin), e = .returned (.agg [u].toArray) ∧ RSl eNode G' u zF ∧ Ext noS G w G' w' := by
 refine yD (n := 4) Tryz.func52 Tryz.ntmps52 rfl rfl ?_
 have b : Ext noS G w G w := Ext.refl hP
 refine zB (zC ?_)
 refine qI rfl (yH [(.slice none 0 0)] zr28 rfl b.pins (fun f w2 ag g m o => ?_))
 have c := b.step m o
 have p : w.heap.size ≤ f := by have := b.size; omega
 refine qe (zA (zB (zC ?_)))
 refine qD rfl (xF [(.slice none 0 0), (.slice none 0 0)] [(.slice none 0 0), (.slice none 0 0)] [] Tryz.underlying68 zr68 rfl pl68 rfl (fun _ h => by cases h) rfl) ?_
 refine qI rfl (xC (E := eNode) (e := 68) [(.slice none 0 0), (.slice none 0 0)] (⟨[], []⟩ : Nd) Tryz.underlying26 sz68 zr68 ⟨_, _, rfl, (xL _ _), (xL _ _)⟩ rfl (by decide) c.pins (fun a q r s i t => ?_))
 have k := c.step s i
 have x := g.below i
 have y : Apart a.ownBlock (some f) := zH t g.lt
 have d : Own eNode 68 G q w.heap.size a ([(⟨[], []⟩ : Nd)]) := r.weaken c.size
 refine qD rfl (xF [(.slice none 0 0)] [a] [(0, a, [a])] Tryz.underlying28 zr28 rfl pl28 rfl (List.forall_mem_cons.2 ⟨(yY d.one), (fun _ h => by cases h)⟩) rfl) ?_
 refine q0 rfl rfl rfl (yM (cs' := [a]) (us := [a]) (v := (.agg [a].toArray)) sz28 rfl rfl rfl (yC d.one) k.pins x (Nat.le_of_ble_eq_true rfl) rfl (fun ah z aa l ai => ?_))
 have ab := k.write aa l ((zV p))
 have ac := d.keptA l y
 refine qe (zA ?_)
 refine wp_ret ?_
 refine zR ?_
 refine c_retc (cs := [a]) rfl rfl rfl ag28 sz28 (fun j u hj => by rw [Nat.zero_add]; exact z.cell hj) ?_
 obtain ⟨aj, ak, ad, ae, al⟩ := ac.sealed ab
 exact ⟨_, _, rfl, ae, ad⟩

theorem zeroForm_spec {w : World} {G : Pin} (hP : Pins G w) :
  Calls Tryz.prog 50 [].toArray w fun e w' => ∃ (u : Value) (G' : Pin), e = .returned (.agg [u].toArray) ∧ RSl eNode G' u zF ∧ Ext noS G w G' w' := by
 refine yD (n := 4) Tryz.func50 Tryz.ntmps50 rfl rfl ?_
 have b : Ext noS G w G w := Ext.refl hP
 refine zB (zC ?_)
 refine qI rfl (yH [(.slice none 0 0)] zr28 rfl b.pins (fun f w2 ag g m o => ?_))
 have c := b.step m o
 have p : w.heap.size ≤ f := by have := b.size; omega
 refine qe (zA (zB (zC ?_)))
 refine qD rfl (xF [(.slice none 0 0), (.slice none 0 0)] [(.slice none 0 0), (.slice none 0 0)] [] Tryz.underlying68 zr68 rfl pl68 rfl (fun _ h => by cases h) rfl) ?_
 refine qI rfl (xC (E := eNode) (e := 68) [(.slice none 0 0), (.slice none 0 0)] (⟨[], []⟩ : Nd) Tryz.underlying26 sz68 zr68 ⟨_, _, rfl, (xL _ _), (xL _ _)⟩ rfl (by decide) c.pins (fun a q r s i t => ?_))
 have k := c.step s i
 have x := g.below i
 have y : Apart a.ownBlock (some f) := zH t g.lt
 have d : Own eNode 68 G q w.heap.size a ([(⟨[], []⟩ : Nd)]) := r.weaken c.size
 refine qD rfl (xF [(.slice none 0 0)] [a] [(0, a, [a])] Tryz.underlying28 zr28 rfl pl28 rfl (List.forall_mem_cons.2 ⟨(yY d.one), (fun _ h => by cases h)⟩) rfl) ?_
 refine q0 rfl rfl rfl (yM (cs' := [a]) (us := [a]) (v := (.agg [a].toArray)) sz28 rfl rfl rfl (yC d.one) k.pins x (Nat.le_of_ble_eq_true rfl) rfl (fun ah z aa l ai => ?_))
 have ab := k.write aa l ((zV p))
 have ac := d.keptA l y
 refine qe (zA ?_)
 refine wp_ret ?_
 refine zR ?_
 refine c_retc (cs := [a]) rfl rfl rfl ag28 sz28 (fun j u hj => by rw [Nat.zero_add]; exact z.cell hj) ?_
 obtain ⟨aj, ak, ad, ae, al⟩ := ac.sealed ab
 exact ⟨_, _, rfl, ae, ad⟩

theorem l3All_spec {w : World} {G : Pin} {v : Value} {fs : List (List Nd)} {most : Int} (hP : Pins G w) (hv : RSl (eSl eNode) G v fs) :
  Calls Tryz.prog 51 [v, (vJ most)].toArray w fun e w' => ∃ G', e = .returned (.bool (decP (((fs.length : Int) ≤ most) ∧ ∀ i, i < fs.length → GoodS (fs.getD i [])))) ∧ Ext noS G w G' w' := by
 refine yD (n := 27) Tryz.func51 Tryz.ntmps51 rfl rfl ?_
 have q : Ext noS G w G w := Ext.refl hP
 have hm := hv.max
 refine zB (zC ?_)
 refine qM (.bool false) ?_
 refine qe (zA (zB (zB (zC ?_))))
 refine qM (vJ 0) ?_
 refine qe (zA ?_)
 refine zX ?_
 refine yQ (fun (k : Nat) (en : Nat → Value) (W : World) => ∃ (f : Nat → Value) (j : Nat) (c : Pin), en = (upd (upd (upd f 0 v) 1 (vJ most)) 5 (vJ (j : Int))) ∧ k = fs.length - j ∧ Ext noS G w c W ∧ Pin.le G c ∧ (j ≤ fs.length) ∧ (∀ i, i < j → GoodS (fs.getD i []))) _ ⟨_, 0, G, (pS 5 (pS 1 (pU 0))), rfl, q, Pin.le_refl _, Nat.zero_le _, (fun i hi => absurd hi (Nat.not_lt_zero i))⟩ ?_
 rintro k1 _ w2 ⟨f, j, c, rfl, ac, a, d, hj, hp⟩
 refine zB (zB (zC ?_))
 refine qM (vJ (j : Int)) ?_
 refine qM v ?_
 refine qD rfl (zN Tryz.underlying24 (v := v) rfl hv) ?_
 refine qD rfl (yV rfl rfl) ?_
 refine qM (.bool (decide (((j : Int) : Int) < (fs.length : Int)))) ?_
 refine qbd (p := ((j : Int) : Int) < (fs.length : Int)) (t := 10) rfl (fun r => ?_) (fun r => ?_)
 ·skip
  refine qN (zU (v := (vJ (j : Int))) rfl) ?_
  refine qN (zU (v := (vJ most)) rfl) ?_
  refine qN (r_leq rfl rfl) ?_
  refine qD rfl (xE (v := (.bool (decide (((j : Int) : Int) ≤ most)))) rfl rfl) ?_
  refine qe (zA ?_)
  refine yI (p := ((j : Int) : Int) ≤ most) rfl rfl (fun s => ?_) (fun s => ?_)
  ·skip
   refine wp_skip ?_
   refine zA (zB ?_)
   refine zX ?_
   refine zB (zC ?_)
   refine qM v ?_
   refine qM (vJ (j : Int)) ?_
   refine qD rfl (zJ Tryz.underlying24 sz28 (v := v) rfl rfl hv (by omega) (by omega)) ?_
   obtain ⟨u, l, x⟩ := nm_form (hv.at (z := (j : Int)) (by omega) (by omega)) (j := j) rfl
   have ad := l.max
   refine qD rfl (x ag28 sz28 rfl (Pins.of_le a.pins d)) ?_
   refine qI rfl (zM (vs := [(.agg [u].toArray)]) Tryz.func59 nm59 rfl rfl rfl ?_)
   refine Calls.mono (l3Good_spec a.pins (l.mono d)) ?_
   rintro _ ae ⟨y, rfl, m⟩
   refine ⟨_, rfl, ?_⟩
   have o := a.tr m
   refine qD rfl (qC rfl) ?_
   refine qe (zA ?_)
   refine c_ifn rfl rfl (fun b => ?_) (fun b => ?_)
   ·skip
    refine wp_skip ?_
    refine yJ ?_
    refine zA (zC ?_)
    refine qM (vJ (j : Int)) ?_
    refine qD rfl (yR rfl rfl (by omega)) ?_
    refine qM (vJ ((j : Int) + 1)) ?_
    refine qe ?_
    refine yK ?_
    refine ⟨_, ?_, _, rfl, _, j + 1, y, (pS 5 (pS 1 (pU 0))), rfl, o, (Pin.le_trans d m.le), (by omega), (fun i hi => if h3 : i = j then h3 ▸ decP_true.1 b else hp i (by omega))⟩
    omega
   refine zB (zC ?_)
   refine qM (.bool false) ?_
   refine qe (zA ?_)
   refine wp_ret ?_
   refine zR ?_
   refine zQ (v := (.bool false)) rfl rfl rfl ?_
   exact ⟨_, congrArg (fun z => Ending.returned (Value.bool z)) (decP_false.2 (fun g => by have := g.2 j (by omega); rw [decP_true.2 this] at b; cases b)).symm, o⟩
  refine wp_exit ?_
  refine yA ?_
  refine yN ?_
  refine yL ?_
  refine zA (zB (zC ?_))
  refine qM v ?_
  refine qD rfl (zN Tryz.underlying24 (v := v) rfl hv) ?_
  refine qM (vJ most) ?_
  refine qD rfl (r_leq rfl rfl) ?_
  refine qM (.bool (decide (((fs.length : Int) : Int) ≤ most))) ?_
  refine qe (zA ?_)
  refine wp_ret ?_
  refine zR ?_
  refine zQ (v := (.bool (decide (((fs.length : Int) : Int) ≤ most)))) rfl rfl rfl ?_
  exact ⟨_, congrArg (fun z => Ending.returned (Value.bool z)) (decP_dec.symm.trans (decP_iff ⟨fun h => ⟨h, fun i hi => hp i (by omega)⟩, fun h => h.1⟩)), a⟩
 refine qW ?_
 refine qW ?_
 refine qW ?_
 refine qD rfl (xA (v := (.bool false)) rfl rfl) ?_
 refine qe (zA ?_)
 refine c_ifF rfl rfl ?_
 refine wp_exit ?_
 refine yA ?_
 refine yN ?_
 refine yL ?_
 refine zA (zB (zC ?_))
 refine qM v ?_
 refine qD rfl (zN Tryz.underlying24 (v := v) rfl hv) ?_
 refine qM (vJ most) ?_
 refine qD rfl (r_leq rfl rfl) ?_
 refine qM (.bool (decide (((fs.length : Int) : Int) ≤ most))) ?_
 refine qe (zA ?_)
 refine wp_ret ?_
 refine zR ?_
 refine zQ (v := (.bool (decide (((fs.length : Int) : Int) ≤ most)))) rfl rfl rfl ?_
 exact ⟨_, congrArg (fun z => Ending.returned (Value.bool z)) (decP_dec.symm.trans (decP_iff ⟨fun h => ⟨h, fun i hi => hp i (by omega)⟩, fun h => h.1⟩)), a⟩

theorem iSumOfMany_spec {w : World} {G : Pin} {v : Value} {l : List (List Nd)} (hP : Pins G w) (hv : RSl (eSl eNode) G v l) :
  Calls Tryz.prog 13 [v].toArray w fun e w' => ∃ (u : Value) (G' : Pin), e = .returned (.tuple #[(.agg [u].toArray), .bool (somP l).2]) ∧ RSl eNode G' u (somP l).1 ∧ Ext noS G w G' w' := by
 refine yD (n := 32) Tryz.func13 Tryz.ntmps13 rfl rfl ?_
 have s : Ext noS G w G w := Ext.refl hP
 have hm := hv.max
 refine zB (zC ?_)
 refine qI rfl (yH [(.slice none 0 0)] zr28 rfl s.pins (fun b w2 c2 ao bi bj => ?_))
 have m := s.step bi bj
 have t : w.heap.size ≤ b := by have := s.size; omega
 refine qM (.bool false) ?_
 refine qe (zA (zB (zB (zC ?_))))
 refine qM v ?_
 refine qD rfl (zN Tryz.underlying24 (v := v) rfl hv) ?_
 refine qD rfl (r_gtr rfl rfl) ?_
 refine qe (zA ?_)
 refine yI (p := (12 : Int) < (l.length : Int)) rfl rfl (fun h9 => ?_) (fun h9 => ?_)
 ·skip
  refine zB (zC ?_)
  refine qD rfl (xF [(.slice none 0 0)] [(.slice none 0 0)] [] Tryz.underlying28 zr28 rfl pl28 rfl (fun _ h => by cases h) rfl) ?_
  refine q0 rfl rfl rfl (yM (cs' := [(.slice none 0 0)]) (us := [(.slice none 0 0)]) (v := (.agg [(.slice none 0 0)].toArray)) sz28 rfl rfl rfl (yC (by rfl)) m.pins ao (Nat.le_of_ble_eq_true rfl) rfl (fun c3 bl bm bn c4 => ?_))
  have bo := m.write bm bn ((zV t))
  refine qM (.bool false) ?_
  refine qe (zA ?_)
  refine wp_ret ?_
  refine zR ?_
  refine qE (cs := [(.slice none 0 0)]) (v := (.bool false)) rfl rfl rfl rfl rfl ag28 sz28 (fun j u hj => by rw [Nat.zero_add]; exact bl.cell hj) ?_
  have he : somP l = ([], false) := if_neg (by omega)
  rw [he]
  exact ⟨_, _, rfl, (xL _ _), bo⟩
 refine wp_skip ?_
 refine zA (zB (zC ?_))
 refine qI rfl (zM (vs := []) Tryz.func50 nm50 rfl rfl rfl ?_)
 refine Calls.mono (zeroForm_spec m.pins ) ?_
 rintro _ c5 ⟨o, ap, rfl, aq, q⟩
 refine ⟨_, rfl, ?_⟩
 have x := m.tr q
 have ar := ao.ext q
 refine qI rfl (yH [(.slice none 0 0)] zr28 rfl x.pins (fun c c6 bp bq br au => ?_))
 have av := x.step br au
 have bs := ar.below au
 have aw : Apart (some c) (some b) := zH (congrArg some bp) ar.lt
 have ax : w.heap.size ≤ c := by have := x.size; omega
 refine q0 rfl rfl rfl (yM (cs' := [o]) (us := [o]) (v := (.agg [o].toArray)) sz28 rfl rfl rfl (yC aq.one) av.pins bq (Nat.le_of_ble_eq_true rfl) rfl (fun c7 bt bu ay c8 => ?_))
 have bv := av.write bu ay ((zV ax))
 have bw := bs.keptA ay aw.symm
 refine qe (zA (zB (zB (zC ?_))))
 refine qM v ?_
 refine qD rfl (zN Tryz.underlying24 (v := v) rfl hv) ?_
 refine qM (vJ 0) ?_
 refine qe (zA ?_)
 refine zX ?_
 refine yQ (fun (k : Nat) (en : Nat → Value) (W : World) => ∃ (az : Nat → Value) (j : Nat) (fv : Value) (z : List Nd) (d : Pin), en = (upd (upd (upd (upd (upd az 2 (.pointer (some ⟨b, 0, none⟩))) 4 (.pointer (some ⟨c, 0, none⟩))) 14 v) 15 (vJ (l.length : Int))) 16 (vJ (j : Int))) ∧ k = l.length - j ∧ Ext noS G w d W ∧ Pin.le ap d ∧ (j ≤ l.length) ∧ (somF zF l = somF z (l.drop j)) ∧ (RSl eNode d fv z) ∧ (Bx d W b [(.slice none 0 0)]) ∧ (Bx d W c [fv])) _ ⟨_, 0, o, zF, ap, (pS 16 (pS 15 (pS 14 (pS 4 (pU 2))))), rfl, bv, Pin.le_refl _, Nat.zero_le _, rfl, aq, bw, bt⟩ ?_
 rintro c9 _ da ⟨az, j, fv, z, d, rfl, db, f, y, hj, hz, hfv, aa, ab⟩
 have hmf := hfv.max
 refine zB (zC ?_)
 refine qD rfl (yV rfl rfl) ?_
 refine qe (zA (zB ?_))
 refine yI (p := ((j : Int) : Int) < (l.length : Int)) rfl rfl (fun bx => ?_) (fun bx => ?_)
 ·skip
  refine wp_skip ?_
  refine zA (zB ?_)
  refine zX ?_
  refine zB (zC ?_)
  refine qD rfl (zJ Tryz.underlying24 sz28 (v := v) rfl rfl hv (by omega) (by omega)) ?_
  obtain ⟨g, ac, bz⟩ := nm_form (hv.at (z := (j : Int)) (by omega) (by omega)) (j := j) rfl
  have dc := ac.max
  refine qD rfl (bz ag28 sz28 rfl (Pins.of_le f.pins (Pin.le_trans q.le y))) ?_
  refine qI rfl (yH [(.slice none 0 0)] zr28 rfl f.pins (fun ad dd a0 b0 b2 ae => ?_))
  have a1 := f.step b2 ae
  have b3 := aa.below ae
  have b4 := ab.below ae
  have a2 : Apart (some ad) (some b) := zH (congrArg some a0) aa.lt
  have a3 : Apart (some ad) (some c) := zH (congrArg some a0) ab.lt
  have a4 : w.heap.size ≤ ad := by have := f.size; omega
  refine q0 rfl rfl rfl (yM (cs' := [g]) (us := [g]) (v := (.agg [g].toArray)) sz28 rfl rfl rfl (yC ac.one) a1.pins b0 (Nat.le_of_ble_eq_true rfl) rfl (fun de b5 b6 af df => ?_))
  have b7 := a1.write b6 af ((zV a4))
  have b8 := b3.keptA af a2.symm
  have b9 := b4.keptA af a3.symm
  obtain ⟨dg, ag, ah, ca, a5⟩ := b5.shut b7 a4
  have cb := b8.moreA a5 a2.symm
  have a6 := b9.moreA a5 a3.symm
  refine qe (zA (zB (zC ?_)))
  refine qD rfl (yF (cs := [fv]) ag28 sz28 rfl (fun j u hj => a6.cell (by simpa using hj))) ?_
  refine qD rfl (yF (cs := [g]) ag28 sz28 rfl (fun j u hj => ah.pins _ _ _ (ca _ _ (by simpa using hj)))) ?_
  refine qI rfl (zM (vs := [(.agg [fv].toArray), (.agg [g].toArray)]) Tryz.func12 nm12 rfl rfl rfl ?_)
  refine Calls.mono (qS ah.pins (hfv.mono ag) (ac.mono (Pin.le_trans (Pin.le_trans q.le y) ag))) ?_
  rintro _ dh ⟨a, di, rfl, ai, r⟩
  refine ⟨_, rfl, ?_⟩
  have aj := ah.tr r
  have a7 := cb.ext r
  have a8 := a6.ext r
  refine qM (.tuple #[(.agg [a].toArray), (.bool (sumB z (l.getD j [])))]) ?_
  refine qD rfl (yW (v := (.agg [a].toArray)) rfl rfl) ?_
  refine qD rfl (yW (v := (.bool (sumB z (l.getD j [])))) rfl rfl) ?_
  refine qI rfl (yH [(.slice none 0 0)] zr28 rfl aj.pins (fun ak dj a9 cc cd al => ?_))
  have ba := aj.step cd al
  have ce := a7.below al
  have cf := a8.below al
  have bb : Apart (some ak) (some b) := zH (congrArg some a9) a7.lt
  have bc : Apart (some ak) (some c) := zH (congrArg some a9) a8.lt
  have bd : w.heap.size ≤ ak := by have := aj.size; omega
  refine q0 rfl rfl rfl (yM (cs' := [a]) (us := [a]) (v := (.agg [a].toArray)) sz28 rfl rfl rfl (yC ai.one) ba.pins cc (Nat.le_of_ble_eq_true rfl) rfl (fun dk cg ch am dl => ?_))
  have ci := ba.write ch am ((zV bd))
  have cj := ce.keptA am bb.symm
  have ck := cf.keptA am bc.symm
  obtain ⟨cl, be, i, cm, bf⟩ := cg.shut ci bd
  have bg := cj.moreA bf bb.symm
  have cn := ck.moreA bf bc.symm
  refine qM (.bool (sumB z (l.getD j []))) ?_
  refine qe (zA (zB (zB (zC ?_))))
  refine qM (.bool (sumB z (l.getD j []))) ?_
  refine qD rfl (qC rfl) ?_
  refine qe (zA ?_)
  refine c_ifn rfl rfl (fun an => ?_) (fun an => ?_)
  ·skip
   refine wp_skip ?_
   refine zA (zC ?_)
   refine qD rfl (yF (cs := [a]) ag28 sz28 rfl (fun j u hj => i.pins _ _ _ (cm _ _ (by simpa using hj)))) ?_
   refine q0 rfl rfl rfl (yM (cs' := [a]) (us := [a]) (v := (.agg [a].toArray)) sz28 rfl rfl rfl (yC ai.one) i.pins cn (Nat.le_of_ble_eq_true rfl) rfl (fun dm co cp bh dn => ?_))
   have cq := i.write cp bh ((zV ax))
   have cr := bg.keptA bh aw.symm
   refine qe ?_
   refine yJ ?_
   refine zA (zC ?_)
   refine qD rfl (yR rfl rfl (by omega)) ?_
   refine qM (vJ ((j : Int) + 1)) ?_
   refine qe ?_
   refine yK ?_
   refine ⟨_, ?_, _, rfl, _, j + 1, a, sumF z (l.getD j []), cl, (pS 16 (pS 15 (pS 14 (pS 4 (pU 2))))), rfl, cq, (Pin.le_trans (Pin.le_trans (Pin.le_trans y ag) r.le) be), (by omega), (by rw [hz, som_next (by omega) an]), (ai.mono be), cr, co⟩
   omega
  refine zB (zC ?_)
  refine qD rfl (xF [(.slice none 0 0)] [(.slice none 0 0)] [] Tryz.underlying28 zr28 rfl pl28 rfl (fun _ h => by cases h) rfl) ?_
  refine q0 rfl rfl rfl (yM (cs' := [(.slice none 0 0)]) (us := [(.slice none 0 0)]) (v := (.agg [(.slice none 0 0)].toArray)) sz28 rfl rfl rfl (yC (by rfl)) i.pins bg (Nat.le_of_ble_eq_true rfl) rfl (fun dp ct cu cv dq => ?_))
  have cw := i.write cu cv ((zV t))
  refine qM (.bool false) ?_
  refine qe (zA ?_)
  refine wp_ret ?_
  refine zR ?_
  refine qE (cs := [(.slice none 0 0)]) (v := (.bool false)) rfl rfl rfl rfl rfl ag28 sz28 (fun j u hj => by rw [Nat.zero_add]; exact ct.cell hj) ?_
  have he : somP l = ([], false) := by unfold somP; rw [if_pos (by omega), hz, som_stop (by omega) an]
  rw [he]
  exact ⟨_, _, rfl, (xL _ _), cw⟩
 refine wp_exit ?_
 refine yA ?_
 refine yN ?_
 refine yL ?_
 refine zA (zB (zC ?_))
 refine qD rfl (yF (cs := [fv]) ag28 sz28 rfl (fun j u hj => ab.cell (by simpa using hj))) ?_
 refine q0 rfl rfl rfl (yM (cs' := [fv]) (us := [fv]) (v := (.agg [fv].toArray)) sz28 rfl rfl rfl (yC hfv.one) f.pins aa (Nat.le_of_ble_eq_true rfl) rfl (fun dr cx cy cz ds => ?_))
 have c0 := f.write cy cz ((zV t))
 refine qM (.bool true) ?_
 refine qe (zA ?_)
 refine wp_ret ?_
 refine zR ?_
 refine qE (cs := [fv]) (v := (.bool true)) rfl rfl rfl rfl rfl ag28 sz28 (fun j u hj => by rw [Nat.zero_add]; exact cx.cell hj) ?_
 have he : somP l = (z, true) := by unfold somP; rw [if_pos (by omega), hz, som_end (by omega)]
 rw [he]
 exact ⟨_, _, rfl, hfv, c0⟩

theorem sSumOfMany_spec {w : World} {G : Pin} {v : Value} {l : List (List Nd)} (hP : Pins G w) (hv : RSl (eSl eNode) G v l) :
  Calls Tryz.prog 14 [v].toArray w fun e w' => ∃ (u : Value) (G' : Pin), e = .returned (.tuple #[(.agg [u].toArray), .bool (somP l).2]) ∧ RSl eNode G' u (somP l).1 ∧ Ext noS G w G' w' := by
 refine yD (n := 33) Tryz.func14 Tryz.ntmps14 rfl rfl ?_
 have ao : Ext noS G w G w := Ext.refl hP
 have hm := hv.max
 refine zB (zC ?_)
 refine qI rfl (yH [(.slice none 0 0)] zr28 rfl ao.pins (fun f w2 du b6 b7 b8 => ?_))
 have a9 := ao.step b7 b8
 have ap : w.heap.size ≤ f := by have := ao.size; omega
 refine qM (.bool false) ?_
 refine qe (zA (zB (zB (zC ?_))))
 refine qM v ?_
 refine qI rfl (zM (vs := [v, (vJ 12)]) Tryz.func51 nm51 rfl rfl rfl ?_)
 refine Calls.mono (l3All_spec a9.pins hv) ?_
 rintro _ dv ⟨G9, rfl, aa⟩
 refine ⟨_, rfl, ?_⟩
 have af := a9.tr aa
 have ba := b6.ext aa
 refine qD rfl (qC rfl) ?_
 refine qe (zA ?_)
 refine c_ifn rfl rfl (fun aq => ?_) (fun aq => ?_)
 ·skip
  refine wp_skip ?_
  refine zA (zB (zC ?_))
  have dx := (decP_true.1 aq).1
  refine qI rfl (zM (vs := []) Tryz.func52 nm52 rfl rfl rfl ?_)
  refine Calls.mono (l5Zero_spec af.pins ) ?_
  rintro _ dy ⟨ag, bb, rfl, bc, ab⟩
  refine ⟨_, rfl, ?_⟩
  have ar := af.tr ab
  have bd := ba.ext ab
  refine qI rfl (yH [(.slice none 0 0)] zr28 rfl ar.pins (fun d dz b9 ca cb be => ?_))
  have bf := ar.step cb be
  have cc := bd.below be
  have bg : Apart (some d) (some f) := zH (congrArg some b9) bd.lt
  have bh : w.heap.size ≤ d := by have := ar.size; omega
  refine q0 rfl rfl rfl (yM (cs' := [ag]) (us := [ag]) (v := (.agg [ag].toArray)) sz28 rfl rfl rfl (yC bc.one) bf.pins ca (Nat.le_of_ble_eq_true rfl) rfl (fun d0 cd ce bi d1 => ?_))
  have cf := bf.write ce bi ((zV bh))
  have cg := cc.keptA bi bg.symm
  refine qe (zA (zB (zB (zC ?_))))
  refine qM (vJ 0) ?_
  refine qe (zA ?_)
  refine zX ?_
  refine yQ (fun (k : Nat) (en : Nat → Value) (W : World) => ∃ (ac : Nat → Value) (j : Nat) (fv : Value) (z : List Nd) (g : Pin), en = (upd (upd (upd (upd ac 0 v) 2 (.pointer (some ⟨f, 0, none⟩))) 4 (.pointer (some ⟨d, 0, none⟩))) 5 (vJ (j : Int))) ∧ k = l.length - j ∧ Ext noS G w g W ∧ Pin.le bb g ∧ (j ≤ l.length) ∧ (somF zF l = somF z (l.drop j)) ∧ (RSl eNode g fv z) ∧ (Bx g W f [(.slice none 0 0)]) ∧ (Bx g W d [fv])) _ ⟨_, 0, ag, zF, bb, (pS 5 (pS 4 (pS 2 (pU 0)))), rfl, cf, Pin.le_refl _, Nat.zero_le _, rfl, bc, cg, cd⟩ ?_
  rintro d2 _ au ⟨ac, j, fv, z, g, rfl, d3, ah, ai, hj, hz, hfv, bj, bk⟩
  have hmf := hfv.max
  refine zB (zB (zC ?_))
  refine qM (vJ (j : Int)) ?_
  refine qM v ?_
  refine qD rfl (zN Tryz.underlying24 (v := v) rfl hv) ?_
  refine qD rfl (yV rfl rfl) ?_
  refine qe (zA ?_)
  refine yI (p := ((j : Int) : Int) < (l.length : Int)) rfl rfl (fun ch => ?_) (fun ch => ?_)
  ·skip
   refine wp_skip ?_
   refine zA (zB ?_)
   refine zX ?_
   refine zB ?_
   refine c_cut (fun (en : Nat → Value) (W : World) => ∃ (ac : Nat → Value) (av : Nat) (m : Value) (o : Pin), en = (upd (upd (upd (upd (upd (upd ac 0 v) 2 (.pointer (some ⟨f, 0, none⟩))) 4 (.pointer (some ⟨d, 0, none⟩))) 5 (vJ (j : Int))) 6 (.pointer (some ⟨av, 0, none⟩))) 7 (.bool (sumB z (l.getD j [])))) ∧ Ext noS G w o W ∧ Pin.le g o ∧ (RSl eNode o m (sumF z (l.getD j []))) ∧ (Bx o W f [(.slice none 0 0)]) ∧ (Bx o W d [fv]) ∧ (BxP o av [m])) ?_ ?_
   ·rintro _ d4 ⟨ac, av, m, o, rfl, ad, ci, bl, bm, cj, ck⟩
    refine zA (zB (zB (zC ?_)))
    refine qM (.bool (sumB z (l.getD j []))) ?_
    refine qD rfl (qC rfl) ?_
    refine qe (zA ?_)
    refine c_ifn rfl rfl (fun aw => ?_) (fun aw => ?_)
    ·skip
     refine wp_skip ?_
     refine zA (zC ?_)
     refine qD rfl (yF (cs := [m]) ag28 sz28 rfl (fun j u hj => ad.pins _ _ _ (ck _ _ (by simpa using hj)))) ?_
     refine q0 rfl rfl rfl (yM (cs' := [m]) (us := [m]) (v := (.agg [m].toArray)) sz28 rfl rfl rfl (yC bl.one) ad.pins cj (Nat.le_of_ble_eq_true rfl) rfl (fun d5 cl cm bn d6 => ?_))
     have cn := ad.write cm bn ((zV bh))
     have co := bm.keptA bn bg.symm
     refine qe ?_
     refine yJ ?_
     refine zA (zC ?_)
     refine qM (vJ (j : Int)) ?_
     refine qD rfl (yR rfl rfl (by omega)) ?_
     refine qM (vJ ((j : Int) + 1)) ?_
     refine qe ?_
     refine yK ?_
     refine ⟨_, ?_, _, rfl, _, j + 1, m, sumF z (l.getD j []), o, (pS 5 (pS 4 (pS 2 (pU 0)))), rfl, cn, (Pin.le_trans ai ci), (by omega), (by rw [hz, som_next (by omega) aw]), bl, co, cl⟩
     omega
    refine zB (zC ?_)
    refine qD rfl (xF [(.slice none 0 0)] [(.slice none 0 0)] [] Tryz.underlying28 zr28 rfl pl28 rfl (fun _ h => by cases h) rfl) ?_
    refine q0 rfl rfl rfl (yM (cs' := [(.slice none 0 0)]) (us := [(.slice none 0 0)]) (v := (.agg [(.slice none 0 0)].toArray)) sz28 rfl rfl rfl (yC (by rfl)) ad.pins bm (Nat.le_of_ble_eq_true rfl) rfl (fun d7 cp cq cr d8 => ?_))
    have ct := ad.write cq cr ((zV ap))
    refine qM (.bool false) ?_
    refine qe (zA ?_)
    refine wp_ret ?_
    refine zR ?_
    refine qE (cs := [(.slice none 0 0)]) (v := (.bool false)) rfl rfl rfl rfl rfl ag28 sz28 (fun j u hj => by rw [Nat.zero_add]; exact cp.cell hj) ?_
    have he : somP l = ([], false) := by unfold somP; rw [if_pos (by omega), hz, som_stop (by omega) aw]
    rw [he]
    exact ⟨_, _, rfl, (xL _ _), ct⟩
   ·skip
    refine xG (S := fun wz => BxR wz d [fv] ∧ Pins g wz) (last := 12) (by kernel_rfl) rfl ?_
    have aj : Below au.heap.size au au.drew := (Below.refl _ _).drew
    have cu := ah.pins.below aj
    have c := ah.step cu aj
    have ax := bj.below aj
    have q := bk.below aj
    refine dT (i := 0) rfl rfl (by kernel_rfl) (fun _ hS => yF (cs := [fv]) ag28 sz28 rfl (fun j u hj => hS.1 _ _ (by simpa using hj))) ⟨q.reads, c.pins⟩ ?_
    refine dT (i := 1) rfl rfl (by kernel_rfl) (fun _ _ => zU (v := v) rfl) ⟨q.reads, c.pins⟩ ?_
    refine dT (i := 2) rfl rfl (by kernel_rfl) (fun _ _ => zU (v := (vJ (j : Int))) rfl) ⟨q.reads, c.pins⟩ ?_
    refine dT (i := 3) rfl rfl (by kernel_rfl) (fun _ _ => zJ Tryz.underlying24 sz28 (v := v) rfl rfl hv (by omega) (by omega)) ⟨q.reads, c.pins⟩ ?_
    obtain ⟨bo, ay, cv⟩ := nm_form (hv.at (z := (j : Int)) (by omega) (by omega)) (j := j) rfl
    have d9 := ay.max
    refine dT (i := 4) rfl rfl (by kernel_rfl) (fun _ hS => cv ag28 sz28 rfl (Pins.of_le hS.2 (Pin.le_trans (Pin.le_trans aa.le ab.le) ai))) ⟨q.reads, c.pins⟩ ?_
    refine qK (i := 5) (j := 9) (by kernel_rfl) ?_ ?_
    ·skip
     refine (zT (i := 5) rfl rfl rfl (zD rfl _) (zM (vs := [(.agg [fv].toArray), (.agg [bo].toArray)]) Tryz.func53 nm53 rfl rfl rfl ?_))
     refine Calls.mono (sSumForms_spec c.pins hfv (ay.mono (Pin.le_trans (Pin.le_trans aa.le ab.le) ai))) ?_
     rintro _ ea ⟨s, eb, rfl, bp, a⟩
     refine ⟨_, rfl, ?_⟩
     have r := c.tr a
     have bq := ax.ext a
     have t := q.ext a
     refine ⟨fun _ => ⟨t.reads, (Pins.of_le r.pins a.le)⟩, ?_⟩
     refine dT (i := 6) rfl rfl (by kernel_rfl) (fun _ _ => zU (v := (.tuple #[(.agg [s].toArray), (.bool (sumB z (l.getD j [])))])) rfl) ⟨t.reads, (Pins.of_le r.pins a.le)⟩ ?_
     refine dT (i := 7) rfl rfl (by kernel_rfl) (fun _ _ => yW (v := (.agg [s].toArray)) rfl rfl) ⟨t.reads, (Pins.of_le r.pins a.le)⟩ ?_
     refine dT (i := 8) rfl rfl (by kernel_rfl) (fun _ _ => yW (v := (.bool (sumB z (l.getD j [])))) rfl rfl) ⟨t.reads, (Pins.of_le r.pins a.le)⟩ ?_
     refine dO (i := 9) (zT (i := 9) rfl rfl rfl (zD rfl _) (yH [(.slice none 0 0)] zr28 rfl r.pins (fun ak ec br cw cx az => ?_)))
     have a0 := r.step cx az
     have cy := bq.below az
     have bs := t.below az
     have bt : Apart (some ak) (some f) := zH (congrArg some br) bq.lt
     have bu : Apart (some ak) (some d) := zH (congrArg some br) t.lt
     have bv : w.heap.size ≤ ak := by have := r.size; omega
     refine ⟨fun _ => ⟨bs.reads, (Pins.of_le a0.pins a.le)⟩, ?_⟩
     refine dO (i := 10) (xP (i := 10) rfl rfl rfl (zD rfl _) (yM (cs' := [s]) (us := [s]) (v := (.agg [s].toArray)) sz28 rfl rfl rfl (yC bp.one) a0.pins cw (Nat.le_of_ble_eq_true rfl) rfl (fun ed cz c0 a1 ee => ?_)))
     have c1 := a0.write c0 a1 ((zV bv))
     have c2 := cy.keptA a1 bt.symm
     have c3 := bs.keptA a1 bu.symm
     obtain ⟨c4, al, a2, c5, bw⟩ := cz.shut c1 bv
     have c6 := c2.moreA bw bt.symm
     have a3 := c3.moreA bw bu.symm
     refine ⟨fun _ => ⟨a3.reads, (Pins.of_le a2.pins (Pin.le_trans a.le al))⟩, ?_⟩
     refine dT (i := 11) rfl rfl (by kernel_rfl) (fun _ _ => qG (v := (.bool (sumB z (l.getD j [])))) rfl) ⟨a3.reads, (Pins.of_le a2.pins (Pin.le_trans a.le al))⟩ ?_
     refine yT (by kernel_rfl) ?_
     exact xR ⟨_, ak, s, c4, (pS 7 (pS 6 (pS 5 (pS 4 (pS 2 (pU 0)))))), a2, (Pin.le_trans a.le al), (bp.mono al), c6, a3, (c5.mono (Pin.le_refl _))⟩
    ·skip
     refine (zT (i := 9) rfl rfl rfl (zD rfl _) (yH [(.slice none 0 0)] zr28 rfl c.pins (fun am ef bx c7 c8 a4 => ?_)))
     have a5 := c.step c8 a4
     have c9 := ax.below a4
     have bz := q.below a4
     have b0 : Apart (some am) (some f) := zH (congrArg some bx) ax.lt
     have b2 : Apart (some am) (some d) := zH (congrArg some bx) q.lt
     have b3 : w.heap.size ≤ am := by have := c.size; omega
     refine ⟨fun _ => ⟨bz.reads, a5.pins⟩, ?_⟩
     refine dO (i := 5) (zT (i := 5) rfl rfl rfl (zD rfl _) (zM (vs := [(.agg [fv].toArray), (.agg [bo].toArray)]) Tryz.func53 nm53 rfl rfl rfl ?_))
     refine Calls.mono (sSumForms_spec a5.pins hfv (ay.mono (Pin.le_trans (Pin.le_trans aa.le ab.le) ai))) ?_
     rintro _ eg ⟨x, eh, rfl, b4, b⟩
     refine ⟨_, rfl, ?_⟩
     have y := a5.tr b
     have da := c9.ext b
     have ae := bz.ext b
     have db := c7.ext b
     refine ⟨fun _ => ⟨ae.reads, (Pins.of_le y.pins b.le)⟩, ?_⟩
     refine dT (i := 6) rfl rfl (by kernel_rfl) (fun _ _ => zU (v := (.tuple #[(.agg [x].toArray), (.bool (sumB z (l.getD j [])))])) rfl) ⟨ae.reads, (Pins.of_le y.pins b.le)⟩ ?_
     refine dT (i := 7) rfl rfl (by kernel_rfl) (fun _ _ => yW (v := (.agg [x].toArray)) rfl rfl) ⟨ae.reads, (Pins.of_le y.pins b.le)⟩ ?_
     refine dT (i := 8) rfl rfl (by kernel_rfl) (fun _ _ => yW (v := (.bool (sumB z (l.getD j [])))) rfl rfl) ⟨ae.reads, (Pins.of_le y.pins b.le)⟩ ?_
     refine dO (i := 10) (xP (i := 10) rfl rfl rfl (zD rfl _) (yM (cs' := [x]) (us := [x]) (v := (.agg [x].toArray)) sz28 rfl rfl rfl (yC b4.one) y.pins db (Nat.le_of_ble_eq_true rfl) rfl (fun ei dc dd a6 ej => ?_)))
     have de := y.write dd a6 ((zV b3))
     have df := da.keptA a6 b0.symm
     have dg := ae.keptA a6 b2.symm
     obtain ⟨dh, an, a7, di, b5⟩ := dc.shut de b3
     have dj := df.moreA b5 b0.symm
     have a8 := dg.moreA b5 b2.symm
     refine ⟨fun _ => ⟨a8.reads, (Pins.of_le a7.pins (Pin.le_trans b.le an))⟩, ?_⟩
     refine dT (i := 11) rfl rfl (by kernel_rfl) (fun _ _ => qG (v := (.bool (sumB z (l.getD j [])))) rfl) ⟨a8.reads, (Pins.of_le a7.pins (Pin.le_trans b.le an))⟩ ?_
     refine yT (by kernel_rfl) ?_
     exact xR ⟨_, am, x, dh, (pS 7 (pS 6 (pS 5 (pS 4 (pS 2 (pU 0)))))), a7, (Pin.le_trans b.le an), (b4.mono an), dj, a8, (di.mono (Pin.le_refl _))⟩
  refine wp_exit ?_
  refine yA ?_
  refine yN ?_
  refine yL ?_
  refine zA (zB (zC ?_))
  refine qD rfl (yF (cs := [fv]) ag28 sz28 rfl (fun j u hj => bk.cell (by simpa using hj))) ?_
  refine q0 rfl rfl rfl (yM (cs' := [fv]) (us := [fv]) (v := (.agg [fv].toArray)) sz28 rfl rfl rfl (yC hfv.one) ah.pins bj (Nat.le_of_ble_eq_true rfl) rfl (fun ek dk dl dm el => ?_))
  have dn := ah.write dl dm ((zV ap))
  refine qM (.bool true) ?_
  refine qe (zA ?_)
  refine wp_ret ?_
  refine zR ?_
  refine qE (cs := [fv]) (v := (.bool true)) rfl rfl rfl rfl rfl ag28 sz28 (fun j u hj => by rw [Nat.zero_add]; exact dk.cell hj) ?_
  have he : somP l = (z, true) := by unfold somP; rw [if_pos (by omega), hz, som_end (by omega)]
  rw [he]
  exact ⟨_, _, rfl, hfv, dn⟩
 refine zB (zC ?_)
 refine qD rfl (xF [(.slice none 0 0)] [(.slice none 0 0)] [] Tryz.underlying28 zr28 rfl pl28 rfl (fun _ h => by cases h) rfl) ?_
 refine q0 rfl rfl rfl (yM (cs' := [(.slice none 0 0)]) (us := [(.slice none 0 0)]) (v := (.agg [(.slice none 0 0)].toArray)) sz28 rfl rfl rfl (yC (by rfl)) af.pins ba (Nat.le_of_ble_eq_true rfl) rfl (fun em dp dq dr eo => ?_))
 have ds := af.write dq dr ((zV ap))
 refine qM (.bool false) ?_
 refine qe (zA ?_)
 refine wp_ret ?_
 refine zR ?_
 refine qE (cs := [(.slice none 0 0)]) (v := (.bool false)) rfl rfl rfl rfl rfl ag28 sz28 (fun j u hj => by rw [Nat.zero_add]; exact dp.cell hj) ?_
 have he : somP l = ([], false) := som_all_no (decP_false.1 aq)
 rw [he]
 exact ⟨_, _, rfl, (xL _ _), ds⟩

end SO8
end Go.Proofs.YtkfgdhanaijddaaGreatDoor

set_option maxRecDepth 20000
set_option maxHeartbeats 2000000
namespace Go.Proofs.YtkfgdhanaijddaaGreatDoor
namespace LTH
open Go.RowKit Go.GL Go.Proofs
open Go.Proofs.YtkfgdhanaijddaaGreatDoor.B1
open Go.Proofs.YtkfgdhanaijddaaGreatDoor.C1
open Go.Proofs.YtkfgdhanaijddaaGreatDoor.D1
open Go.Proofs.YtkfgdhanaijddaaGreatDoor.E1
open Go.Proofs.YtkfgdhanaijddaaGreatDoor.K1
open Go.Proofs.YtkfgdhanaijddaaGreatDoor.PO1
open Go.Proofs.YtkfgdhanaijddaaGreatDoor.PL1
open Go.Proofs.YtkfgdhanaijddaaGreatDoor.PA1
open Go.Proofs.YtkfgdhanaijddaaGreatDoor.SO1
open Go.Proofs.YtkfgdhanaijddaaGreatDoor.OD1
open Go.Proofs.YtkfgdhanaijddaaGreatDoor.FO1
open Go.Proofs.YtkfgdhanaijddaaGreatDoor.NG1
open Go.Proofs.YtkfgdhanaijddaaGreatDoor.NF1
open Go.Proofs.YtkfgdhanaijddaaGreatDoor.PF1
open Go.Proofs.YtkfgdhanaijddaaGreatDoor.SF1
open Go.Proofs.YtkfgdhanaijddaaGreatDoor.MK1
open Go.Proofs.YtkfgdhanaijddaaGreatDoor.DR1
open Go.Proofs.YtkfgdhanaijddaaGreatDoor.DR2
open Go.Proofs.YtkfgdhanaijddaaGreatDoor.DV1
open Go.Proofs.YtkfgdhanaijddaaGreatDoor.DV2
open Go.Proofs.YtkfgdhanaijddaaGreatDoor.SM1
open Go.Proofs.YtkfgdhanaijddaaGreatDoor.GW1
open Go.Proofs.YtkfgdhanaijddaaGreatDoor.SO8









theorem law {w : World} {G : Pin} {v : Value} {code : List UInt8} (hP : Pins G w) (hc : RSl eByte G v code) :
  Calls Tryz.prog 3 [v].toArray w fun e w' => ∃ G', e = .returned (.bool true) ∧ Ext noS G w G' w' := by
 refine yD (n := 110) Tryz.func3 Tryz.ntmps3 rfl rfl ?_
 have d2 : Ext noS G w G w := Ext.refl hP
 have hm := hc.max
 refine zB (zC ?_)
 refine qM (.bool false) ?_
 refine qe (zA (zB (zB (zC ?_))))
 refine qM v ?_
 refine qI rfl (zM (vs := [v]) Tryz.func10 nm10 rfl rfl rfl ?_)
 refine Calls.mono (vBig_spec d2.pins hc) ?_
 rintro _ w1 ⟨rfl, d3⟩
 refine ⟨_, rfl, ?_⟩
 have cq := d2.step d3.pins d3.below
 refine qe (zA ?_)
 refine yI (p := ((65536 : Int) < (code.length : Int))) rfl rfl (fun h4 => ?_) (fun h4 => ?_)
 ·skip
  refine zB (zC ?_)
  refine qM (.bool true) ?_
  refine qe (zA ?_)
  refine wp_ret ?_
  refine zR ?_
  refine zQ (v := (.bool true)) rfl rfl rfl ?_
  exact ⟨_, rfl, cq⟩
 refine wp_skip ?_
 refine zA (zB (zC ?_))
 refine qM v ?_
 refine qI rfl (zM (vs := [v]) Tryz.func11 nm11 rfl rfl rfl ?_)
 refine Calls.mono (drGreatestOf_spec cq.pins hc) ?_
 rintro _ w8 ⟨u5, a, G7, rfl, ar, n3, gt⟩
 refine ⟨_, rfl, ?_⟩
 have ct := cq.tr gt
 refine qM u5 ?_
 refine qe (zA (zB (zB (zC ?_))))
 refine qM u5 ?_
 refine qD rfl (zN Tryz.underlying24 (v := u5) rfl ar) ?_
 refine qD rfl (yV rfl rfl) ?_
 refine qe (zA ?_)
 refine yI (p := ((a.length : Int) : Int) < 3) rfl rfl (fun gu => ?_) (fun gu => ?_)
 ·skip
  refine zB (zC ?_)
  refine qM (.bool true) ?_
  refine qe (zA ?_)
  refine wp_ret ?_
  refine zR ?_
  refine zQ (v := (.bool true)) rfl rfl rfl ?_
  exact ⟨_, rfl, ct⟩
 refine wp_skip ?_
 refine zA (zB ?_)
 refine c_cut (fun (en : Nat → Value) (W : World) => ∃ (d5 : Nat → Value) (cu : Nat) (af : Value) (cv : Nat) (ag : Value) (cw : Nat) (ah : Value) (am : Pin), en = (upd (upd (upd (upd d5 2 (.bool false)) 4 (.pointer (some ⟨cu, 0, none⟩))) 5 (.pointer (some ⟨cv, 0, none⟩))) 6 (.pointer (some ⟨cw, 0, none⟩))) ∧ Ext noS G w am W ∧ Pin.le G7 am ∧ (RSl eNode am af (a.getD 0 [])) ∧ (RSl eNode am ag (a.getD 1 [])) ∧ (RSl eNode am ah (a.getD 2 [])) ∧ (BxP am cu [af]) ∧ (BxP am cv [ag]) ∧ (BxP am cw [ah])) ?_ ?_
 ·rintro _ n4 ⟨d5, cu, af, cv, ag, cw, ah, am, rfl, bt, n5, a4, a5, a6, bu, bv, bw⟩
  refine zA (zB (zC ?_))
  refine qD rfl (yF (cs := [af]) ag28 sz28 rfl (fun j u hj => bt.pins _ _ _ (bu _ _ (by simpa using hj)))) ?_
  refine qD rfl (yF (cs := [ag]) ag28 sz28 rfl (fun j u hj => bt.pins _ _ _ (bv _ _ (by simpa using hj)))) ?_
  refine qI rfl (zM (vs := [(.agg [af].toArray), (.agg [ag].toArray)]) Tryz.func12 nm12 rfl rfl rfl ?_)
  refine Calls.mono (qS bt.pins a4 a5) ?_
  rintro _ n6 ⟨au, n7, rfl, d6, f⟩
  refine ⟨_, rfl, ?_⟩
  have cx := bt.tr f
  refine qM (.tuple #[(.agg [au].toArray), (.bool (sumB (a.getD 0 []) (a.getD 1 [])))]) ?_
  refine qD rfl (yW (v := (.agg [au].toArray)) rfl rfl) ?_
  refine qD rfl (yW (v := (.bool (sumB (a.getD 0 []) (a.getD 1 [])))) rfl rfl) ?_
  refine qI rfl (yH [(.slice none 0 0)] zr28 rfl cx.pins (fun gv n8 n9 gw gx gy => ?_))
  have d7 := cx.step gx gy
  have d8 : w.heap.size ≤ gv := by have := cx.size; omega
  refine q0 rfl rfl rfl (yM (cs' := [au]) (us := [au]) (v := (.agg [au].toArray)) sz28 rfl rfl rfl (yC d6.one) d7.pins gw (Nat.le_of_ble_eq_true rfl) rfl (fun oa gz g0 g1 ob => ?_))
  have g2 := d7.write g0 g1 ((zV d8))
  obtain ⟨oc, g, bx, g3, od⟩ := gz.shut g2 d8
  refine qM (.bool (sumB (a.getD 0 []) (a.getD 1 []))) ?_
  refine qe (zA (zB (zC ?_)))
  refine qD rfl (yF (cs := [ag]) ag28 sz28 rfl (fun j u hj => (Pins.of_le bx.pins (Pin.le_trans f.le g)) _ _ _ (bv _ _ (by simpa using hj)))) ?_
  refine qD rfl (yF (cs := [ah]) ag28 sz28 rfl (fun j u hj => (Pins.of_le bx.pins (Pin.le_trans f.le g)) _ _ _ (bw _ _ (by simpa using hj)))) ?_
  refine qI rfl (zM (vs := [(.agg [ag].toArray), (.agg [ah].toArray)]) Tryz.func12 nm12 rfl rfl rfl ?_)
  refine Calls.mono (qS bx.pins (a5.mono (Pin.le_trans f.le g)) (a6.mono (Pin.le_trans f.le g))) ?_
  rintro _ oe ⟨av, og, rfl, d9, k⟩
  refine ⟨_, rfl, ?_⟩
  have cy := bx.tr k
  refine qM (.tuple #[(.agg [av].toArray), (.bool (sumB (a.getD 1 []) (a.getD 2 [])))]) ?_
  refine qD rfl (yW (v := (.agg [av].toArray)) rfl rfl) ?_
  refine qD rfl (yW (v := (.bool (sumB (a.getD 1 []) (a.getD 2 [])))) rfl rfl) ?_
  refine qI rfl (yH [(.slice none 0 0)] zr28 rfl cy.pins (fun g4 oh oi g5 g6 g7 => ?_))
  have ea := cy.step g6 g7
  have eb : w.heap.size ≤ g4 := by have := cy.size; omega
  refine q0 rfl rfl rfl (yM (cs' := [av]) (us := [av]) (v := (.agg [av].toArray)) sz28 rfl rfl rfl (yC d9.one) ea.pins g5 (Nat.le_of_ble_eq_true rfl) rfl (fun oj g8 g9 ha ok => ?_))
  have hb := ea.write g9 ha ((zV eb))
  obtain ⟨ol, m, bz, hd, om⟩ := g8.shut hb eb
  refine qM (.bool (sumB (a.getD 1 []) (a.getD 2 []))) ?_
  refine qe (zA (zB (zC ?_)))
  refine qD rfl (yF (cs := [au]) ag28 sz28 rfl (fun j u hj => (Pins.of_le bz.pins (Pin.le_trans k.le m)) _ _ _ (g3 _ _ (by simpa using hj)))) ?_
  refine qD rfl (yF (cs := [ah]) ag28 sz28 rfl (fun j u hj => (Pins.of_le bz.pins (Pin.le_trans (Pin.le_trans (Pin.le_trans f.le g) k.le) m)) _ _ _ (bw _ _ (by simpa using hj)))) ?_
  refine qI rfl (zM (vs := [(.agg [au].toArray), (.agg [ah].toArray)]) Tryz.func12 nm12 rfl rfl rfl ?_)
  refine Calls.mono (qS bz.pins (d6.mono (Pin.le_trans (Pin.le_trans g k.le) m)) (a6.mono (Pin.le_trans (Pin.le_trans (Pin.le_trans f.le g) k.le) m))) ?_
  rintro _ oo ⟨an, op, rfl, cz, r⟩
  refine ⟨_, rfl, ?_⟩
  have c0 := bz.tr r
  refine qM (.tuple #[(.agg [an].toArray), (.bool (sumB (sumF (a.getD 0 []) (a.getD 1 [])) (a.getD 2 [])))]) ?_
  refine qD rfl (yW (v := (.agg [an].toArray)) rfl rfl) ?_
  refine qD rfl (yW (v := (.bool (sumB (sumF (a.getD 0 []) (a.getD 1 [])) (a.getD 2 [])))) rfl rfl) ?_
  refine qI rfl (yH [(.slice none 0 0)] zr28 rfl c0.pins (fun he oq os hf hg hh => ?_))
  have ec := c0.step hg hh
  have ed : w.heap.size ≤ he := by have := c0.size; omega
  refine q0 rfl rfl rfl (yM (cs' := [an]) (us := [an]) (v := (.agg [an].toArray)) sz28 rfl rfl rfl (yC cz.one) ec.pins hf (Nat.le_of_ble_eq_true rfl) rfl (fun ot hi hk hl ou => ?_))
  have hn := ec.write hk hl ((zV ed))
  obtain ⟨ov, o, b0, ee, ow⟩ := hi.shut hn ed
  refine qM (.bool (sumB (sumF (a.getD 0 []) (a.getD 1 [])) (a.getD 2 []))) ?_
  refine qe (zA (zB (zC ?_)))
  refine qD rfl (yF (cs := [af]) ag28 sz28 rfl (fun j u hj => (Pins.of_le b0.pins (Pin.le_trans (Pin.le_trans (Pin.le_trans (Pin.le_trans (Pin.le_trans f.le g) k.le) m) r.le) o)) _ _ _ (bu _ _ (by simpa using hj)))) ?_
  refine qD rfl (yF (cs := [av]) ag28 sz28 rfl (fun j u hj => (Pins.of_le b0.pins (Pin.le_trans r.le o)) _ _ _ (hd _ _ (by simpa using hj)))) ?_
  refine qI rfl (zM (vs := [(.agg [af].toArray), (.agg [av].toArray)]) Tryz.func12 nm12 rfl rfl rfl ?_)
  refine Calls.mono (qS b0.pins (a4.mono (Pin.le_trans (Pin.le_trans (Pin.le_trans (Pin.le_trans (Pin.le_trans f.le g) k.le) m) r.le) o)) (d9.mono (Pin.le_trans (Pin.le_trans m r.le) o))) ?_
  rintro _ ox ⟨aw, oy, rfl, ef, s⟩
  refine ⟨_, rfl, ?_⟩
  have c1 := b0.tr s
  refine qM (.tuple #[(.agg [aw].toArray), (.bool (sumB (a.getD 0 []) (sumF (a.getD 1 []) (a.getD 2 []))))]) ?_
  refine qD rfl (yW (v := (.agg [aw].toArray)) rfl rfl) ?_
  refine qD rfl (yW (v := (.bool (sumB (a.getD 0 []) (sumF (a.getD 1 []) (a.getD 2 []))))) rfl rfl) ?_
  refine qI rfl (yH [(.slice none 0 0)] zr28 rfl c1.pins (fun ho oz o0 hp hq hr => ?_))
  have eg := c1.step hq hr
  have eh : w.heap.size ≤ ho := by have := c1.size; omega
  refine q0 rfl rfl rfl (yM (cs' := [aw]) (us := [aw]) (v := (.agg [aw].toArray)) sz28 rfl rfl rfl (yC ef.one) eg.pins hp (Nat.le_of_ble_eq_true rfl) rfl (fun o1 hs ht hu o2 => ?_))
  have hv := eg.write ht hu ((zV eh))
  obtain ⟨hw, x, a7, hx, o3⟩ := hs.shut hv eh
  refine qM (.bool (sumB (a.getD 0 []) (sumF (a.getD 1 []) (a.getD 2 [])))) ?_
  refine qe (zA (zB (zC ?_)))
  refine qD rfl (yF (cs := [af]) ag28 sz28 rfl (fun j u hj => (Pins.of_le a7.pins (Pin.le_trans (Pin.le_trans (Pin.le_trans (Pin.le_trans (Pin.le_trans (Pin.le_trans (Pin.le_trans f.le g) k.le) m) r.le) o) s.le) x)) _ _ _ (bu _ _ (by simpa using hj)))) ?_
  refine qD rfl (yF (cs := [ag]) ag28 sz28 rfl (fun j u hj => (Pins.of_le a7.pins (Pin.le_trans (Pin.le_trans (Pin.le_trans (Pin.le_trans (Pin.le_trans (Pin.le_trans (Pin.le_trans f.le g) k.le) m) r.le) o) s.le) x)) _ _ _ (bv _ _ (by simpa using hj)))) ?_
  refine qD rfl (yF (cs := [ah]) ag28 sz28 rfl (fun j u hj => (Pins.of_le a7.pins (Pin.le_trans (Pin.le_trans (Pin.le_trans (Pin.le_trans (Pin.le_trans (Pin.le_trans (Pin.le_trans f.le g) k.le) m) r.le) o) s.le) x)) _ _ _ (bw _ _ (by simpa using hj)))) ?_
  refine qI rfl (o_buildA (E := (eSl eNode)) (e := 28) [af, ag, ah] [a.getD 0 [], a.getD 1 [], a.getD 2 []] Tryz.underlying24 sz28 zr28 (by exact reps3 (⟨_, rfl, (a4.mono (Pin.le_trans (Pin.le_trans (Pin.le_trans (Pin.le_trans (Pin.le_trans (Pin.le_trans (Pin.le_trans f.le g) k.le) m) r.le) o) s.le) x))⟩) (⟨_, rfl, (a5.mono (Pin.le_trans (Pin.le_trans (Pin.le_trans (Pin.le_trans (Pin.le_trans (Pin.le_trans (Pin.le_trans f.le g) k.le) m) r.le) o) s.le) x))⟩) (⟨_, rfl, (a6.mono (Pin.le_trans (Pin.le_trans (Pin.le_trans (Pin.le_trans (Pin.le_trans (Pin.le_trans (Pin.le_trans f.le g) k.le) m) r.le) o) s.le) x))⟩)) (ones3 a4.one a5.one a6.one) rfl rfl rfl rfl (by decide) a7.pins (fun ei hy hz h0 h1 o4 => ?_))
  have h2 := a7.step h0 h1
  have h3 : Own (eSl eNode) 28 hw hy w.heap.size ei ([a.getD 0 [], a.getD 1 [], a.getD 2 []]) := hz.weaken a7.size
  obtain ⟨o5, ae, ej, h5, o6⟩ := h3.sealed h2
  refine qI rfl (zM (vs := [ei]) Tryz.func13 nm13 rfl rfl rfl ?_)
  refine Calls.mono (iSumOfMany_spec ej.pins h5) ?_
  rintro _ o7 ⟨ao, o8, rfl, c2, aa⟩
  refine ⟨_, rfl, ?_⟩
  have c3 := ej.tr aa
  refine qM (.tuple #[(.agg [ao].toArray), (.bool ((somP ([a.getD 0 [], a.getD 1 [], a.getD 2 []])).2))]) ?_
  refine qD rfl (yW (v := (.agg [ao].toArray)) rfl rfl) ?_
  refine qD rfl (yW (v := (.bool ((somP ([a.getD 0 [], a.getD 1 [], a.getD 2 []])).2))) rfl rfl) ?_
  refine qI rfl (yH [(.slice none 0 0)] zr28 rfl c3.pins (fun h6 o9 pa h7 h8 h9 => ?_))
  have ek := c3.step h8 h9
  have el : w.heap.size ≤ h6 := by have := c3.size; omega
  refine q0 rfl rfl rfl (yM (cs' := [ao]) (us := [ao]) (v := (.agg [ao].toArray)) sz28 rfl rfl rfl (yC c2.one) ek.pins h7 (Nat.le_of_ble_eq_true rfl) rfl (fun pb ia ib ic pc => ?_))
  have ie := ek.write ib ic ((zV el))
  obtain ⟨ig, y, a8, em, pd⟩ := ia.shut ie el
  refine qM (.bool ((somP ([a.getD 0 [], a.getD 1 [], a.getD 2 []])).2)) ?_
  refine qe (zA (zB (zC ?_)))
  refine qD rfl (yF (cs := [af]) ag28 sz28 rfl (fun j u hj => (Pins.of_le a8.pins (Pin.le_trans (Pin.le_trans (Pin.le_trans (Pin.le_trans (Pin.le_trans (Pin.le_trans (Pin.le_trans (Pin.le_trans (Pin.le_trans (Pin.le_trans f.le g) k.le) m) r.le) o) s.le) x) ae) aa.le) y)) _ _ _ (bu _ _ (by simpa using hj)))) ?_
  refine qD rfl (yF (cs := [ag]) ag28 sz28 rfl (fun j u hj => (Pins.of_le a8.pins (Pin.le_trans (Pin.le_trans (Pin.le_trans (Pin.le_trans (Pin.le_trans (Pin.le_trans (Pin.le_trans (Pin.le_trans (Pin.le_trans (Pin.le_trans f.le g) k.le) m) r.le) o) s.le) x) ae) aa.le) y)) _ _ _ (bv _ _ (by simpa using hj)))) ?_
  refine qD rfl (yF (cs := [ah]) ag28 sz28 rfl (fun j u hj => (Pins.of_le a8.pins (Pin.le_trans (Pin.le_trans (Pin.le_trans (Pin.le_trans (Pin.le_trans (Pin.le_trans (Pin.le_trans (Pin.le_trans (Pin.le_trans (Pin.le_trans f.le g) k.le) m) r.le) o) s.le) x) ae) aa.le) y)) _ _ _ (bw _ _ (by simpa using hj)))) ?_
  refine qI rfl (o_buildA (E := (eSl eNode)) (e := 28) [af, ag, ah] [a.getD 0 [], a.getD 1 [], a.getD 2 []] Tryz.underlying24 sz28 zr28 (by exact reps3 (⟨_, rfl, (a4.mono (Pin.le_trans (Pin.le_trans (Pin.le_trans (Pin.le_trans (Pin.le_trans (Pin.le_trans (Pin.le_trans (Pin.le_trans (Pin.le_trans (Pin.le_trans f.le g) k.le) m) r.le) o) s.le) x) ae) aa.le) y))⟩) (⟨_, rfl, (a5.mono (Pin.le_trans (Pin.le_trans (Pin.le_trans (Pin.le_trans (Pin.le_trans (Pin.le_trans (Pin.le_trans (Pin.le_trans (Pin.le_trans (Pin.le_trans f.le g) k.le) m) r.le) o) s.le) x) ae) aa.le) y))⟩) (⟨_, rfl, (a6.mono (Pin.le_trans (Pin.le_trans (Pin.le_trans (Pin.le_trans (Pin.le_trans (Pin.le_trans (Pin.le_trans (Pin.le_trans (Pin.le_trans (Pin.le_trans f.le g) k.le) m) r.le) o) s.le) x) ae) aa.le) y))⟩)) (ones3 a4.one a5.one a6.one) rfl rfl rfl rfl (by decide) a8.pins (fun eo ih ii ij ik pe => ?_))
  have il := a8.step ij ik
  have im : Own (eSl eNode) 28 ig ih w.heap.size eo ([a.getD 0 [], a.getD 1 [], a.getD 2 []]) := ii.weaken a8.size
  obtain ⟨pf, ak, ep, io, pg⟩ := im.sealed il
  refine qI rfl (zM (vs := [eo]) Tryz.func14 nm14 rfl rfl rfl ?_)
  refine Calls.mono (sSumOfMany_spec ep.pins io) ?_
  rintro _ ph ⟨ax, pi, rfl, eq, ai⟩
  refine ⟨_, rfl, ?_⟩
  have c4 := ep.tr ai
  refine qM (.tuple #[(.agg [ax].toArray), (.bool ((somP ([a.getD 0 [], a.getD 1 [], a.getD 2 []])).2))]) ?_
  refine qD rfl (yW (v := (.agg [ax].toArray)) rfl rfl) ?_
  refine qD rfl (yW (v := (.bool ((somP ([a.getD 0 [], a.getD 1 [], a.getD 2 []])).2))) rfl rfl) ?_
  refine qI rfl (yH [(.slice none 0 0)] zr28 rfl c4.pins (fun ip pj pk iq ir it => ?_))
  have er := c4.step ir it
  have es : w.heap.size ≤ ip := by have := c4.size; omega
  refine q0 rfl rfl rfl (yM (cs' := [ax]) (us := [ax]) (v := (.agg [ax].toArray)) sz28 rfl rfl rfl (yC eq.one) er.pins iq (Nat.le_of_ble_eq_true rfl) rfl (fun pl iu iv iw pm => ?_))
  have ix := er.write iv iw ((zV es))
  obtain ⟨pn, aj, b1, iy, po⟩ := iu.shut ix es
  refine qM (.bool ((somP ([a.getD 0 [], a.getD 1 [], a.getD 2 []])).2)) ?_
  refine qe (zA (zB (zB (zC ?_))))
  refine qM (.bool ((somP ([a.getD 0 [], a.getD 1 [], a.getD 2 []])).2)) ?_
  refine qM (.bool ((somP ([a.getD 0 [], a.getD 1 [], a.getD 2 []])).2)) ?_
  refine qD rfl (r_neqB_same Tryz.underlying4 rfl rfl) ?_
  refine qM (.bool false) ?_
  refine qN (yF (cs := [ao]) ag28 sz28 rfl (fun j u hj => (Pins.of_le b1.pins (Pin.le_trans (Pin.le_trans ak ai.le) aj)) _ _ _ (em _ _ (by simpa using hj)))) ?_
  refine qN (yF (cs := [ax]) ag28 sz28 rfl (fun j u hj => b1.pins _ _ _ (iy _ _ (by simpa using hj)))) ?_
  refine q1g rfl rfl rfl rfl rfl rfl (zM (vs := [(.agg [ao].toArray), (.agg [ax].toArray)]) Tryz.func15 nm15 rfl rfl rfl ?_)
  refine Calls.mono (vSame_spec b1.pins (c2.mono (Pin.le_trans (Pin.le_trans (Pin.le_trans y ak) ai.le) aj)) (eq.mono aj)) ?_
  rintro _ pp ⟨pq, rfl, ap⟩
  refine ⟨_, rfl, ?_⟩
  have aq := b1.tr ap
  refine qN (qC rfl) ?_
  refine qD rfl (xA (v := (.bool (!(decide (((somP ([a.getD 0 [], a.getD 1 [], a.getD 2 []])).1) = ((somP ([a.getD 0 [], a.getD 1 [], a.getD 2 []])).1)))))) rfl rfl) ?_
  refine qe (zA ?_)
  refine c_ifn rfl rfl (fun _ => ?_) (fun h => absurd rfl (of_decide_eq_false h))
  refine wp_skip ?_
  refine zA (zB (zB (zC ?_)))
  refine qM (.bool (sumB (a.getD 0 []) (a.getD 1 []))) ?_
  refine qD rfl (qC rfl) ?_
  refine qM (.bool (!(sumB (a.getD 0 []) (a.getD 1 [])))) ?_
  refine qbn (t := 86) rfl (fun c5 => ?_) (fun c5 => ?_)
  ·skip
   refine qN (zU (v := (.bool (sumB (a.getD 1 []) (a.getD 2 [])))) rfl) ?_
   refine qN (qC rfl) ?_
   refine qD rfl (xA (v := (.bool (!(sumB (a.getD 1 []) (a.getD 2 []))))) rfl rfl) ?_
   refine qM (.bool (!(sumB (a.getD 1 []) (a.getD 2 [])))) ?_
   refine qbn (t := 90) rfl (fun et => ?_) (fun et => ?_)
   ·skip
    refine qN (zU (v := (.bool (sumB (sumF (a.getD 0 []) (a.getD 1 [])) (a.getD 2 [])))) rfl) ?_
    refine qN (qC rfl) ?_
    refine qD rfl (xA (v := (.bool (!(sumB (sumF (a.getD 0 []) (a.getD 1 [])) (a.getD 2 []))))) rfl rfl) ?_
    refine qM (.bool (!(sumB (sumF (a.getD 0 []) (a.getD 1 [])) (a.getD 2 [])))) ?_
    refine qbn (t := 94) rfl (fun c6 => ?_) (fun c6 => ?_)
    ·skip
     refine qN (zU (v := (.bool (sumB (a.getD 0 []) (sumF (a.getD 1 []) (a.getD 2 []))))) rfl) ?_
     refine qN (qC rfl) ?_
     refine qD rfl (xA (v := (.bool (!(sumB (a.getD 0 []) (sumF (a.getD 1 []) (a.getD 2 [])))))) rfl rfl) ?_
     refine qe (zA ?_)
     refine c_ifn rfl rfl (fun eu => ?_) (fun eu => ?_)
     ·skip
      refine wp_skip ?_
      refine zA (zB (zC ?_))
      refine qD rfl (yF (cs := [an]) ag28 sz28 rfl (fun j u hj => (Pins.of_le aq.pins (Pin.le_trans (Pin.le_trans (Pin.le_trans (Pin.le_trans (Pin.le_trans (Pin.le_trans (Pin.le_trans (Pin.le_trans s.le x) ae) aa.le) y) ak) ai.le) aj) ap.le)) _ _ _ (ee _ _ (by simpa using hj)))) ?_
      refine qD rfl (yF (cs := [aw]) ag28 sz28 rfl (fun j u hj => (Pins.of_le aq.pins (Pin.le_trans (Pin.le_trans (Pin.le_trans (Pin.le_trans (Pin.le_trans (Pin.le_trans ae aa.le) y) ak) ai.le) aj) ap.le)) _ _ _ (hx _ _ (by simpa using hj)))) ?_
      refine qI rfl (zM (vs := [(.agg [an].toArray), (.agg [aw].toArray)]) Tryz.func15 nm15 rfl rfl rfl ?_)
      refine Calls.mono (vSame_spec aq.pins (cz.mono (Pin.le_trans (Pin.le_trans (Pin.le_trans (Pin.le_trans (Pin.le_trans (Pin.le_trans (Pin.le_trans (Pin.le_trans (Pin.le_trans o s.le) x) ae) aa.le) y) ak) ai.le) aj) ap.le)) (ef.mono (Pin.le_trans (Pin.le_trans (Pin.le_trans (Pin.le_trans (Pin.le_trans (Pin.le_trans (Pin.le_trans x ae) aa.le) y) ak) ai.le) aj) ap.le))) ?_
      rintro _ pr ⟨ps, rfl, br⟩
      refine ⟨_, rfl, ?_⟩
      have bs := aq.tr br
      refine qM (.bool (decide ((sumF (sumF (a.getD 0 []) (a.getD 1 [])) (a.getD 2 [])) = (sumF (a.getD 0 []) (sumF (a.getD 1 []) (a.getD 2 [])))))) ?_
      refine qbd (p := ((sumF (sumF (a.getD 0 []) (a.getD 1 [])) (a.getD 2 [])) = (sumF (a.getD 0 []) (sumF (a.getD 1 []) (a.getD 2 []))))) (t := 101) rfl (fun ev => ?_) (fun ev => ?_)
      ·skip
       refine qN (zU (v := (.bool ((somP ([a.getD 0 [], a.getD 1 [], a.getD 2 []])).2))) rfl) ?_
       refine qN (qC rfl) ?_
       refine qN (zU (v := (.bool (!((somP ([a.getD 0 [], a.getD 1 [], a.getD 2 []])).2)))) rfl) ?_
       refine qbn (t := 104) rfl (fun iz => ?_) (fun iz => ?_)
       ·skip
        refine qN (yF (cs := [ao]) ag28 sz28 rfl (fun j u hj => (Pins.of_le bs.pins (Pin.le_trans (Pin.le_trans (Pin.le_trans (Pin.le_trans ak ai.le) aj) ap.le) br.le)) _ _ _ (em _ _ (by simpa using hj)))) ?_
        refine qN (yF (cs := [an]) ag28 sz28 rfl (fun j u hj => (Pins.of_le bs.pins (Pin.le_trans (Pin.le_trans (Pin.le_trans (Pin.le_trans (Pin.le_trans (Pin.le_trans (Pin.le_trans (Pin.le_trans (Pin.le_trans s.le x) ae) aa.le) y) ak) ai.le) aj) ap.le) br.le)) _ _ _ (ee _ _ (by simpa using hj)))) ?_
        refine q1g rfl rfl rfl rfl rfl rfl (zM (vs := [(.agg [ao].toArray), (.agg [an].toArray)]) Tryz.func15 nm15 rfl rfl rfl ?_)
        refine Calls.mono (vSame_spec bs.pins (c2.mono (Pin.le_trans (Pin.le_trans (Pin.le_trans (Pin.le_trans (Pin.le_trans y ak) ai.le) aj) ap.le) br.le)) (cz.mono (Pin.le_trans (Pin.le_trans (Pin.le_trans (Pin.le_trans (Pin.le_trans (Pin.le_trans (Pin.le_trans (Pin.le_trans (Pin.le_trans (Pin.le_trans o s.le) x) ae) aa.le) y) ak) ai.le) aj) ap.le) br.le))) ?_
        rintro _ pt ⟨pu, rfl, i0⟩
        refine ⟨_, rfl, ?_⟩
        have i1 := bs.tr i0
        refine qN (xA (v := (.bool (decide (((somP ([a.getD 0 [], a.getD 1 [], a.getD 2 []])).1) = (sumF (sumF (a.getD 0 []) (a.getD 1 [])) (a.getD 2 [])))))) rfl rfl) ?_
        refine qD rfl (xE (v := (.bool (decide (((somP ([a.getD 0 [], a.getD 1 [], a.getD 2 []])).1) = (sumF (sumF (a.getD 0 []) (a.getD 1 [])) (a.getD 2 [])))))) rfl rfl) ?_
        refine qM (.bool (decide (((somP ([a.getD 0 [], a.getD 1 [], a.getD 2 []])).1) = (sumF (sumF (a.getD 0 []) (a.getD 1 [])) (a.getD 2 []))))) ?_
        refine qe (zA ?_)
        refine wp_ret ?_
        refine zR ?_
        refine zQ (v := (.bool (decide (((somP ([a.getD 0 [], a.getD 1 [], a.getD 2 []])).1) = (sumF (sumF (a.getD 0 []) (a.getD 1 [])) (a.getD 2 [])))))) rfl rfl rfl ?_
        exact ⟨_, congrArg (fun z => Ending.returned (Value.bool z)) (decide_eq_true (by rw [three_some c5 c6])), i1⟩
       refine qW ?_
       refine qW ?_
       refine qW ?_
       refine qN (xE (v := (.bool true)) rfl rfl) ?_
       refine qD rfl (xE (v := (.bool true)) rfl rfl) ?_
       refine qM (.bool true) ?_
       refine qe (zA ?_)
       refine wp_ret ?_
       refine zR ?_
       refine zQ (v := (.bool true)) rfl rfl rfl ?_
       exact ⟨_, rfl, bs⟩
      refine qW ?_
      refine qW ?_
      refine qW ?_
      refine qX ?_
      refine qX ?_
      refine qX ?_
      refine qW ?_
      refine qD rfl (xA (v := (.bool false)) rfl rfl) ?_
      refine qM (.bool false) ?_
      refine qe (zA ?_)
      refine wp_ret ?_
      refine zR ?_
      refine zQ (v := (.bool false)) rfl rfl rfl ?_
      exact absurd (three_law c5 et c6 eu) ev
     refine zB (zC ?_)
     refine qM (.bool true) ?_
     refine qe (zA ?_)
     refine wp_ret ?_
     refine zR ?_
     refine zQ (v := (.bool true)) rfl rfl rfl ?_
     exact ⟨_, rfl, aq⟩
    refine qW ?_
    refine qW ?_
    refine qD rfl (xE (v := (.bool true)) rfl rfl) ?_
    refine qe (zA ?_)
    refine c_ifT rfl rfl ?_
    refine zB (zC ?_)
    refine qM (.bool true) ?_
    refine qe (zA ?_)
    refine wp_ret ?_
    refine zR ?_
    refine zQ (v := (.bool true)) rfl rfl rfl ?_
    exact ⟨_, rfl, aq⟩
   refine qW ?_
   refine qW ?_
   refine qD rfl (xE (v := (.bool true)) rfl rfl) ?_
   refine qM (.bool true) ?_
   refine qW ?_
   refine qW ?_
   refine qD rfl (xE (v := (.bool true)) rfl rfl) ?_
   refine qe (zA ?_)
   refine c_ifT rfl rfl ?_
   refine zB (zC ?_)
   refine qM (.bool true) ?_
   refine qe (zA ?_)
   refine wp_ret ?_
   refine zR ?_
   refine zQ (v := (.bool true)) rfl rfl rfl ?_
   exact ⟨_, rfl, aq⟩
  refine qW ?_
  refine qW ?_
  refine qD rfl (xE (v := (.bool true)) rfl rfl) ?_
  refine qM (.bool true) ?_
  refine qW ?_
  refine qW ?_
  refine qD rfl (xE (v := (.bool true)) rfl rfl) ?_
  refine qM (.bool true) ?_
  refine qW ?_
  refine qW ?_
  refine qD rfl (xE (v := (.bool true)) rfl rfl) ?_
  refine qe (zA ?_)
  refine c_ifT rfl rfl ?_
  refine zB (zC ?_)
  refine qM (.bool true) ?_
  refine qe (zA ?_)
  refine wp_ret ?_
  refine zR ?_
  refine zQ (v := (.bool true)) rfl rfl rfl ?_
  exact ⟨_, rfl, aq⟩
 ·skip
  refine xG (S := fun wz => Pins G7 wz) (last := 14) (by kernel_rfl) rfl ?_
  have ew : Below w8.heap.size w8 w8.drew := (Below.refl _ _).drew
  have i2 := ct.pins.below ew
  have q := ct.step i2 ew
  refine dM 0 u5 q.pins ?_
  refine dT (i := 1) rfl rfl (by kernel_rfl) (fun _ _ => zJ Tryz.underlying24 sz28 (v := u5) rfl rfl ar (by omega) (by omega)) q.pins ?_
  obtain ⟨b, ab, i3⟩ := nm_form (ar.at (z := 0) (by omega) (by omega)) (j := 0) rfl
  have pv := ab.max
  refine dT (i := 2) rfl rfl (by kernel_rfl) (fun _ hS => i3 ag28 sz28 rfl hS) q.pins ?_
  refine dM 3 u5 q.pins ?_
  refine dT (i := 4) rfl rfl (by kernel_rfl) (fun _ _ => zJ Tryz.underlying24 sz28 (v := u5) rfl rfl ar (by omega) (by omega)) q.pins ?_
  obtain ⟨c, ac, i4⟩ := nm_form (ar.at (z := 1) (by omega) (by omega)) (j := 1) rfl
  have pw := ac.max
  refine dT (i := 5) rfl rfl (by kernel_rfl) (fun _ hS => i4 ag28 sz28 rfl hS) q.pins ?_
  refine dM 6 u5 q.pins ?_
  refine dT (i := 7) rfl rfl (by kernel_rfl) (fun _ _ => zJ Tryz.underlying24 sz28 (v := u5) rfl rfl ar (by omega) (by omega)) q.pins ?_
  obtain ⟨d, ad, i5⟩ := nm_form (ar.at (z := 2) (by omega) (by omega)) (j := 2) rfl
  have px := ad.max
  refine dT (i := 8) rfl rfl (by kernel_rfl) (fun _ hS => i5 ag28 sz28 rfl hS) q.pins ?_
  refine dr_three (i := 9) (j := 10) (l := 11) (by kernel_rfl) ?_ ?_ ?_
  ·skip
   refine (zT (i := 9) rfl rfl rfl (zD rfl _) (yH [(.slice none 0 0)] zr28 rfl q.pins (fun ay py pz b2 i6 i7 => ?_)))
   have az := q.step i6 i7
   have b3 : w.heap.size ≤ ay := by have := q.size; omega
   refine ⟨fun _ => az.pins, ?_⟩
   refine qK (i := 10) (j := 11) (by kernel_rfl) ?_ ?_
   ·skip
    refine (zT (i := 10) rfl rfl rfl (zD rfl _) (yH [(.slice none 0 0)] zr28 rfl az.pins (fun b4 p0 i8 ex i9 ey => ?_)))
    have b5 := az.step i9 ey
    have ez := b2.below ey
    have e0 : Apart (some b4) (some ay) := zH (congrArg some i8) b2.lt
    have e1 : w.heap.size ≤ b4 := by have := az.size; omega
    refine ⟨fun _ => b5.pins, ?_⟩
    refine dO (i := 11) (zT (i := 11) rfl rfl rfl (zD rfl _) (yH [(.slice none 0 0)] zr28 rfl b5.pins (fun b6 p1 e2 ja jb c7 => ?_)))
    have c8 := b5.step jb c7
    have jc := ez.below c7
    have jd := ex.below c7
    have e3 : Apart (some b6) (some ay) := zH (congrArg some e2) ez.lt
    have e4 : Apart (some b6) (some b4) := zH (congrArg some e2) ex.lt
    have e5 : w.heap.size ≤ b6 := by have := b5.size; omega
    refine ⟨fun _ => c8.pins, ?_⟩
    refine dO (i := 12) (xP (i := 12) rfl rfl rfl (zD rfl _) (yM (cs' := [b]) (us := [b]) (v := (.agg [b].toArray)) sz28 rfl rfl rfl (yC ab.one) c8.pins jc (Nat.le_of_ble_eq_true rfl) rfl (fun p2 je jf c9 p3 => ?_)))
    have jg := c8.write jf c9 ((zV b3))
    have jh := jd.keptA c9 e0
    have ji := ja.keptA c9 e3
    obtain ⟨p4, a9, da, jj, e6⟩ := je.shut jg b3
    have jk := jh.moreA e6 e0
    have jl := ji.moreA e6 e3
    refine ⟨fun _ => (Pins.of_le da.pins a9), ?_⟩
    refine dO (i := 13) (xP (i := 13) rfl rfl rfl (zD rfl _) (yM (cs' := [c]) (us := [c]) (v := (.agg [c].toArray)) sz28 rfl rfl rfl (yC ac.one) da.pins jk (Nat.le_of_ble_eq_true rfl) rfl (fun p5 jm jn e7 p6 => ?_)))
    have jo := da.write jn e7 ((zV e1))
    have jp := jl.keptA e7 e4
    obtain ⟨p7, ba, db, jq, jr⟩ := jm.shut jo e1
    have js := jp.moreA jr e4
    refine ⟨fun _ => (Pins.of_le db.pins (Pin.le_trans a9 ba)), ?_⟩
    refine dO (i := 14) (xP (i := 14) rfl rfl rfl (zD rfl _) (yM (cs' := [d]) (us := [d]) (v := (.agg [d].toArray)) sz28 rfl rfl rfl (yC ad.one) db.pins js (Nat.le_of_ble_eq_true rfl) rfl (fun p8 jt ju jv p9 => ?_)))
    have jw := db.write ju jv ((zV e5))
    obtain ⟨jx, bb, jy, jz, qa⟩ := jt.shut jw e5
    refine ⟨fun h => absurd rfl h, ?_⟩
    refine yT (by kernel_rfl) ?_
    exact xR ⟨_, ay, b, b4, c, b6, d, jx, (pS 6 (pS 5 (pS 4 (pU 2)))), jy, (Pin.le_trans (Pin.le_trans a9 ba) bb), (ab.mono (Pin.le_trans (Pin.le_trans a9 ba) bb)), (ac.mono (Pin.le_trans (Pin.le_trans a9 ba) bb)), (ad.mono (Pin.le_trans (Pin.le_trans a9 ba) bb)), (jj.mono (Pin.le_trans ba bb)), (jq.mono bb), (jz.mono (Pin.le_refl _))⟩
   ·skip
    refine (zT (i := 11) rfl rfl rfl (zD rfl _) (yH [(.slice none 0 0)] zr28 rfl az.pins (fun b7 qb j0 e8 j1 e9 => ?_)))
    have b8 := az.step j1 e9
    have fa := b2.below e9
    have fb : Apart (some b7) (some ay) := zH (congrArg some j0) b2.lt
    have fc : w.heap.size ≤ b7 := by have := az.size; omega
    refine ⟨fun _ => b8.pins, ?_⟩
    refine dO (i := 10) (zT (i := 10) rfl rfl rfl (zD rfl _) (yH [(.slice none 0 0)] zr28 rfl b8.pins (fun b9 qc fd j2 j3 dc => ?_)))
    have dd := b8.step j3 dc
    have j4 := fa.below dc
    have j5 := e8.below dc
    have fe : Apart (some b9) (some ay) := zH (congrArg some fd) fa.lt
    have ff : Apart (some b9) (some b7) := zH (congrArg some fd) e8.lt
    have fg : w.heap.size ≤ b9 := by have := b8.size; omega
    refine ⟨fun _ => dd.pins, ?_⟩
    refine dO (i := 12) (xP (i := 12) rfl rfl rfl (zD rfl _) (yM (cs' := [b]) (us := [b]) (v := (.agg [b].toArray)) sz28 rfl rfl rfl (yC ab.one) dd.pins j4 (Nat.le_of_ble_eq_true rfl) rfl (fun qf j6 j7 de qg => ?_)))
    have j8 := dd.write j7 de ((zV b3))
    have j9 := j5.keptA de fb
    have ka := j2.keptA de fe
    obtain ⟨qh, bc, df, kb, fh⟩ := j6.shut j8 b3
    have kc := j9.moreA fh fb
    have kd := ka.moreA fh fe
    refine ⟨fun _ => (Pins.of_le df.pins bc), ?_⟩
    refine dO (i := 13) (xP (i := 13) rfl rfl rfl (zD rfl _) (yM (cs' := [c]) (us := [c]) (v := (.agg [c].toArray)) sz28 rfl rfl rfl (yC ac.one) df.pins kd (Nat.le_of_ble_eq_true rfl) rfl (fun qi ke kf fi qj => ?_)))
    have kg := df.write kf fi ((zV fg))
    have kh := kc.keptA fi ff.symm
    obtain ⟨qk, bd, dg, ki, kj⟩ := ke.shut kg fg
    have kk := kh.moreA kj ff.symm
    refine ⟨fun _ => (Pins.of_le dg.pins (Pin.le_trans bc bd)), ?_⟩
    refine dO (i := 14) (xP (i := 14) rfl rfl rfl (zD rfl _) (yM (cs' := [d]) (us := [d]) (v := (.agg [d].toArray)) sz28 rfl rfl rfl (yC ad.one) dg.pins kk (Nat.le_of_ble_eq_true rfl) rfl (fun ql kl km kn qm => ?_)))
    have ko := dg.write km kn ((zV fc))
    obtain ⟨kp, be, kq, kr, qn⟩ := kl.shut ko fc
    refine ⟨fun h => absurd rfl h, ?_⟩
    refine yT (by kernel_rfl) ?_
    exact xR ⟨_, ay, b, b9, c, b7, d, kp, (pS 6 (pS 5 (pS 4 (pU 2)))), kq, (Pin.le_trans (Pin.le_trans bc bd) be), (ab.mono (Pin.le_trans (Pin.le_trans bc bd) be)), (ac.mono (Pin.le_trans (Pin.le_trans bc bd) be)), (ad.mono (Pin.le_trans (Pin.le_trans bc bd) be)), (kb.mono (Pin.le_trans bd be)), (ki.mono be), (kr.mono (Pin.le_refl _))⟩
  ·skip
   refine (zT (i := 10) rfl rfl rfl (zD rfl _) (yH [(.slice none 0 0)] zr28 rfl q.pins (fun a0 qo qp ca ks kt => ?_)))
   have a1 := q.step ks kt
   have cb : w.heap.size ≤ a0 := by have := q.size; omega
   refine ⟨fun _ => a1.pins, ?_⟩
   refine qK (i := 9) (j := 11) (by kernel_rfl) ?_ ?_
   ·skip
    refine (zT (i := 9) rfl rfl rfl (zD rfl _) (yH [(.slice none 0 0)] zr28 rfl a1.pins (fun cc qq ku fj kv fk => ?_)))
    have cd := a1.step kv fk
    have fl := ca.below fk
    have fm : Apart (some cc) (some a0) := zH (congrArg some ku) ca.lt
    have fn : w.heap.size ≤ cc := by have := a1.size; omega
    refine ⟨fun _ => cd.pins, ?_⟩
    refine dO (i := 11) (zT (i := 11) rfl rfl rfl (zD rfl _) (yH [(.slice none 0 0)] zr28 rfl cd.pins (fun ce qr fo kw kx dh => ?_)))
    have di := cd.step kx dh
    have ky := fl.below dh
    have kz := fj.below dh
    have fp : Apart (some ce) (some a0) := zH (congrArg some fo) fl.lt
    have fq : Apart (some ce) (some cc) := zH (congrArg some fo) fj.lt
    have fr : w.heap.size ≤ ce := by have := cd.size; omega
    refine ⟨fun _ => di.pins, ?_⟩
    refine dO (i := 12) (xP (i := 12) rfl rfl rfl (zD rfl _) (yM (cs' := [b]) (us := [b]) (v := (.agg [b].toArray)) sz28 rfl rfl rfl (yC ab.one) di.pins kz (Nat.le_of_ble_eq_true rfl) rfl (fun qs k0 k1 dj qt => ?_)))
    have k2 := di.write k1 dj ((zV fn))
    have k3 := ky.keptA dj fm.symm
    have k4 := kw.keptA dj fq
    obtain ⟨qu, bf, dk, k5, fs⟩ := k0.shut k2 fn
    have k6 := k3.moreA fs fm.symm
    have k7 := k4.moreA fs fq
    refine ⟨fun _ => (Pins.of_le dk.pins bf), ?_⟩
    refine dO (i := 13) (xP (i := 13) rfl rfl rfl (zD rfl _) (yM (cs' := [c]) (us := [c]) (v := (.agg [c].toArray)) sz28 rfl rfl rfl (yC ac.one) dk.pins k6 (Nat.le_of_ble_eq_true rfl) rfl (fun qv k8 k9 ft qw => ?_)))
    have la := dk.write k9 ft ((zV cb))
    have lb := k7.keptA ft fp
    obtain ⟨qx, bg, dl, lc, ld⟩ := k8.shut la cb
    have lf := lb.moreA ld fp
    refine ⟨fun _ => (Pins.of_le dl.pins (Pin.le_trans bf bg)), ?_⟩
    refine dO (i := 14) (xP (i := 14) rfl rfl rfl (zD rfl _) (yM (cs' := [d]) (us := [d]) (v := (.agg [d].toArray)) sz28 rfl rfl rfl (yC ad.one) dl.pins lf (Nat.le_of_ble_eq_true rfl) rfl (fun qy lg lh li qz => ?_)))
    have lj := dl.write lh li ((zV fr))
    obtain ⟨lk, bh, ll, lm, q2⟩ := lg.shut lj fr
    refine ⟨fun h => absurd rfl h, ?_⟩
    refine yT (by kernel_rfl) ?_
    exact xR ⟨_, cc, b, a0, c, ce, d, lk, (pS 6 (pS 5 (pS 4 (pU 2)))), ll, (Pin.le_trans (Pin.le_trans bf bg) bh), (ab.mono (Pin.le_trans (Pin.le_trans bf bg) bh)), (ac.mono (Pin.le_trans (Pin.le_trans bf bg) bh)), (ad.mono (Pin.le_trans (Pin.le_trans bf bg) bh)), (k5.mono (Pin.le_trans bg bh)), (lc.mono bh), (lm.mono (Pin.le_refl _))⟩
   ·skip
    refine (zT (i := 11) rfl rfl rfl (zD rfl _) (yH [(.slice none 0 0)] zr28 rfl a1.pins (fun cf q3 ln fu lo fv => ?_)))
    have cg := a1.step lo fv
    have fw := ca.below fv
    have fx : Apart (some cf) (some a0) := zH (congrArg some ln) ca.lt
    have fy : w.heap.size ≤ cf := by have := a1.size; omega
    refine ⟨fun _ => cg.pins, ?_⟩
    refine dO (i := 9) (zT (i := 9) rfl rfl rfl (zD rfl _) (yH [(.slice none 0 0)] zr28 rfl cg.pins (fun ch q4 fz lp lq dm => ?_)))
    have dn := cg.step lq dm
    have lr := fw.below dm
    have ls := fu.below dm
    have f0 : Apart (some ch) (some a0) := zH (congrArg some fz) fw.lt
    have f1 : Apart (some ch) (some cf) := zH (congrArg some fz) fu.lt
    have f2 : w.heap.size ≤ ch := by have := cg.size; omega
    refine ⟨fun _ => dn.pins, ?_⟩
    refine dO (i := 12) (xP (i := 12) rfl rfl rfl (zD rfl _) (yM (cs' := [b]) (us := [b]) (v := (.agg [b].toArray)) sz28 rfl rfl rfl (yC ab.one) dn.pins lp (Nat.le_of_ble_eq_true rfl) rfl (fun q5 lu lv dp q6 => ?_)))
    have lw := dn.write lv dp ((zV f2))
    have lx := lr.keptA dp f0.symm
    have ly := ls.keptA dp f1.symm
    obtain ⟨q7, bi, dq, lz, f3⟩ := lu.shut lw f2
    have l0 := lx.moreA f3 f0.symm
    have l1 := ly.moreA f3 f1.symm
    refine ⟨fun _ => (Pins.of_le dq.pins bi), ?_⟩
    refine dO (i := 13) (xP (i := 13) rfl rfl rfl (zD rfl _) (yM (cs' := [c]) (us := [c]) (v := (.agg [c].toArray)) sz28 rfl rfl rfl (yC ac.one) dq.pins l0 (Nat.le_of_ble_eq_true rfl) rfl (fun q8 l2 l3 f4 q9 => ?_)))
    have l4 := dq.write l3 f4 ((zV cb))
    have l5 := l1.keptA f4 fx
    obtain ⟨ra, bj, dr, l6, l7⟩ := l2.shut l4 cb
    have l8 := l5.moreA l7 fx
    refine ⟨fun _ => (Pins.of_le dr.pins (Pin.le_trans bi bj)), ?_⟩
    refine dO (i := 14) (xP (i := 14) rfl rfl rfl (zD rfl _) (yM (cs' := [d]) (us := [d]) (v := (.agg [d].toArray)) sz28 rfl rfl rfl (yC ad.one) dr.pins l8 (Nat.le_of_ble_eq_true rfl) rfl (fun rb l9 ma mb rc => ?_)))
    have mc := dr.write ma mb ((zV fy))
    obtain ⟨md, bk, me, mf, rd⟩ := l9.shut mc fy
    refine ⟨fun h => absurd rfl h, ?_⟩
    refine yT (by kernel_rfl) ?_
    exact xR ⟨_, ch, b, a0, c, cf, d, md, (pS 6 (pS 5 (pS 4 (pU 2)))), me, (Pin.le_trans (Pin.le_trans bi bj) bk), (ab.mono (Pin.le_trans (Pin.le_trans bi bj) bk)), (ac.mono (Pin.le_trans (Pin.le_trans bi bj) bk)), (ad.mono (Pin.le_trans (Pin.le_trans bi bj) bk)), (lz.mono (Pin.le_trans bj bk)), (l6.mono bk), (mf.mono (Pin.le_refl _))⟩
  ·skip
   refine (zT (i := 11) rfl rfl rfl (zD rfl _) (yH [(.slice none 0 0)] zr28 rfl q.pins (fun a2 re rf ci mg mh => ?_)))
   have a3 := q.step mg mh
   have cj : w.heap.size ≤ a2 := by have := q.size; omega
   refine ⟨fun _ => a3.pins, ?_⟩
   refine qK (i := 9) (j := 10) (by kernel_rfl) ?_ ?_
   ·skip
    refine (zT (i := 9) rfl rfl rfl (zD rfl _) (yH [(.slice none 0 0)] zr28 rfl a3.pins (fun ck rg mi f5 mj f6 => ?_)))
    have cl := a3.step mj f6
    have f7 := ci.below f6
    have f8 : Apart (some ck) (some a2) := zH (congrArg some mi) ci.lt
    have f9 : w.heap.size ≤ ck := by have := a3.size; omega
    refine ⟨fun _ => cl.pins, ?_⟩
    refine dO (i := 10) (zT (i := 10) rfl rfl rfl (zD rfl _) (yH [(.slice none 0 0)] zr28 rfl cl.pins (fun cm rh ga mk ml ds => ?_)))
    have dt := cl.step ml ds
    have mm := f7.below ds
    have mn := f5.below ds
    have gb : Apart (some cm) (some a2) := zH (congrArg some ga) f7.lt
    have gc : Apart (some cm) (some ck) := zH (congrArg some ga) f5.lt
    have gd : w.heap.size ≤ cm := by have := cl.size; omega
    refine ⟨fun _ => dt.pins, ?_⟩
    refine dO (i := 12) (xP (i := 12) rfl rfl rfl (zD rfl _) (yM (cs' := [b]) (us := [b]) (v := (.agg [b].toArray)) sz28 rfl rfl rfl (yC ab.one) dt.pins mn (Nat.le_of_ble_eq_true rfl) rfl (fun ri mo mp du rj => ?_)))
    have mq := dt.write mp du ((zV f9))
    have mr := mm.keptA du f8.symm
    have ms := mk.keptA du gc
    obtain ⟨rk, bl, dv, mt, ge⟩ := mo.shut mq f9
    have mu := mr.moreA ge f8.symm
    have mv := ms.moreA ge gc
    refine ⟨fun _ => (Pins.of_le dv.pins bl), ?_⟩
    refine dO (i := 13) (xP (i := 13) rfl rfl rfl (zD rfl _) (yM (cs' := [c]) (us := [c]) (v := (.agg [c].toArray)) sz28 rfl rfl rfl (yC ac.one) dv.pins mv (Nat.le_of_ble_eq_true rfl) rfl (fun rl mw mx gf rm => ?_)))
    have my := dv.write mx gf ((zV gd))
    have mz := mu.keptA gf gb.symm
    obtain ⟨rn, bm, dw, m0, m1⟩ := mw.shut my gd
    have m2 := mz.moreA m1 gb.symm
    refine ⟨fun _ => (Pins.of_le dw.pins (Pin.le_trans bl bm)), ?_⟩
    refine dO (i := 14) (xP (i := 14) rfl rfl rfl (zD rfl _) (yM (cs' := [d]) (us := [d]) (v := (.agg [d].toArray)) sz28 rfl rfl rfl (yC ad.one) dw.pins m2 (Nat.le_of_ble_eq_true rfl) rfl (fun ro m3 m4 m5 rp => ?_)))
    have m6 := dw.write m4 m5 ((zV cj))
    obtain ⟨m7, bn, m8, m9, rq⟩ := m3.shut m6 cj
    refine ⟨fun h => absurd rfl h, ?_⟩
    refine yT (by kernel_rfl) ?_
    exact xR ⟨_, ck, b, cm, c, a2, d, m7, (pS 6 (pS 5 (pS 4 (pU 2)))), m8, (Pin.le_trans (Pin.le_trans bl bm) bn), (ab.mono (Pin.le_trans (Pin.le_trans bl bm) bn)), (ac.mono (Pin.le_trans (Pin.le_trans bl bm) bn)), (ad.mono (Pin.le_trans (Pin.le_trans bl bm) bn)), (mt.mono (Pin.le_trans bm bn)), (m0.mono bn), (m9.mono (Pin.le_refl _))⟩
   ·skip
    refine (zT (i := 10) rfl rfl rfl (zD rfl _) (yH [(.slice none 0 0)] zr28 rfl a3.pins (fun cn rr na gg nb gh => ?_)))
    have co := a3.step nb gh
    have gi := ci.below gh
    have gj : Apart (some cn) (some a2) := zH (congrArg some na) ci.lt
    have gk : w.heap.size ≤ cn := by have := a3.size; omega
    refine ⟨fun _ => co.pins, ?_⟩
    refine dO (i := 9) (zT (i := 9) rfl rfl rfl (zD rfl _) (yH [(.slice none 0 0)] zr28 rfl co.pins (fun cp rs gl nc nd dx => ?_)))
    have dy := co.step nd dx
    have ne := gi.below dx
    have nf := gg.below dx
    have gm : Apart (some cp) (some a2) := zH (congrArg some gl) gi.lt
    have gn : Apart (some cp) (some cn) := zH (congrArg some gl) gg.lt
    have gp : w.heap.size ≤ cp := by have := co.size; omega
    refine ⟨fun _ => dy.pins, ?_⟩
    refine dO (i := 12) (xP (i := 12) rfl rfl rfl (zD rfl _) (yM (cs' := [b]) (us := [b]) (v := (.agg [b].toArray)) sz28 rfl rfl rfl (yC ab.one) dy.pins nc (Nat.le_of_ble_eq_true rfl) rfl (fun rt ng nh dz ru => ?_)))
    have ni := dy.write nh dz ((zV gp))
    have nj := ne.keptA dz gm.symm
    have nk := nf.keptA dz gn.symm
    obtain ⟨rv, bo, d0, nl, gq⟩ := ng.shut ni gp
    have nm := nj.moreA gq gm.symm
    have nn := nk.moreA gq gn.symm
    refine ⟨fun _ => (Pins.of_le d0.pins bo), ?_⟩
    refine dO (i := 13) (xP (i := 13) rfl rfl rfl (zD rfl _) (yM (cs' := [c]) (us := [c]) (v := (.agg [c].toArray)) sz28 rfl rfl rfl (yC ac.one) d0.pins nn (Nat.le_of_ble_eq_true rfl) rfl (fun rx no np gr ry => ?_)))
    have nq := d0.write np gr ((zV gk))
    have nr := nm.keptA gr gj.symm
    obtain ⟨rz, bp, d1, ns, nt⟩ := no.shut nq gk
    have nu := nr.moreA nt gj.symm
    refine ⟨fun _ => (Pins.of_le d1.pins (Pin.le_trans bo bp)), ?_⟩
    refine dO (i := 14) (xP (i := 14) rfl rfl rfl (zD rfl _) (yM (cs' := [d]) (us := [d]) (v := (.agg [d].toArray)) sz28 rfl rfl rfl (yC ad.one) d1.pins nu (Nat.le_of_ble_eq_true rfl) rfl (fun r0 nv nw nx r1 => ?_)))
    have ny := d1.write nw nx ((zV cj))
    obtain ⟨nz, bq, n0, n1, r2⟩ := nv.shut ny cj
    refine ⟨fun h => absurd rfl h, ?_⟩
    refine yT (by kernel_rfl) ?_
    exact xR ⟨_, cp, b, cn, c, a2, d, nz, (pS 6 (pS 5 (pS 4 (pU 2)))), n0, (Pin.le_trans (Pin.le_trans bo bp) bq), (ab.mono (Pin.le_trans (Pin.le_trans bo bp) bq)), (ac.mono (Pin.le_trans (Pin.le_trans bo bp) bq)), (ad.mono (Pin.le_trans (Pin.le_trans bo bp) bq)), (nl.mono (Pin.le_trans bp bq)), (ns.mono bq), (n1.mono (Pin.le_refl _))⟩

end LTH
end Go.Proofs.YtkfgdhanaijddaaGreatDoor
