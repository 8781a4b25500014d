/- Texts of this claim in one file: DV2, LWO. -/
import Derived.Test.YtkfgdhanaijddaaDoorOr5
import Derived.Test.YtkfgdhanaijddaaDoorChecked
set_option maxRecDepth 20000
set_option maxHeartbeats 2000000
namespace Go.Proofs.YtkfgdhanaijddaaDoor
namespace DV2
open Go.RowKit Go.GL Go.Proofs
open Go.Proofs.YtkfgdhanaijddaaDoor.B1
open Go.Proofs.YtkfgdhanaijddaaDoor.C1
open Go.Proofs.YtkfgdhanaijddaaDoor.D1
open Go.Proofs.YtkfgdhanaijddaaDoor.E1
open Go.Proofs.YtkfgdhanaijddaaDoor.MK1
open Go.Proofs.YtkfgdhanaijddaaDoor.DR1
open Go.Proofs.YtkfgdhanaijddaaDoor.DR2
open Go.Proofs.YtkfgdhanaijddaaDoor.DV1














theorem pl26 : (Tryd.prog.underlying 26).bind (placesD Tryd.prog) = some [(0, 1)] := by kernel_rfl
theorem pl53 : (Tryd.prog.underlying 53).bind (placesD Tryd.prog) = some [(0, 1), (1, 1), (2, 1)] := by kernel_rfl
theorem pl60 : (Tryd.prog.underlying 60).bind (placesD Tryd.prog) = some [(0, 1), (1, 1)] := by kernel_rfl







theorem drFormText_spec {w : World} {G : Pin} {v : Value} {code : List UInt8} (hP : Pins G w) (hc : RSl eByte G v code) :
  Calls Tryd.prog 23 [v].toArray w fun e w' => ∃ (u0 : Value) (bp : List Nd) (G' : Pin), e = .returned (.agg [u0].toArray) ∧ RSl eNode G' u0 bp ∧ Ext noS G w G' w' := by
 refine zV (n := 20) Tryd.func23 Tryd.ntmps23 rfl rfl ?_
 have r : Ext noS G w G w := Ext.refl hP
 have hm := hc.max
 refine zB (zC ?_)
 refine qI rfl (yI [(.slice none 0 0)] zr26 rfl r.pins (fun g w2 du an bq br => ?_))
 have s := r.step bq br
 have ao : w.heap.size ≤ g := by have := r.size; omega
 refine qe (zA (zB (zC ?_)))
 refine qM v ?_
 refine qD rfl (xR [(.slice none 0 0), (vJ 0), (.int .u64 0)] [v, (vJ 0), (.int .u64 0)] [(0, v, [v])] Tryd.underlying53 zr53 rfl pl53 rfl (List.forall_mem_cons.2 ⟨(xA hc.one), (fun _ h => by cases h)⟩) rfl) ?_
 refine qI rfl (xY [v, (vJ 0), (.int .u64 0)] (v := (.agg [v, (vJ 0), (.int .u64 0)].toArray)) rfl rfl s.pins (fun a dv bs bt bu ap => ?_))
 have aq := s.step bu ap
 have bv := an.below ap
 have b : Apart (some a) (some g) := zH (congrArg some bs) an.lt
 have c : w.heap.size ≤ a := by have := s.size; omega
 refine qM (.pointer (some ⟨a, 0, none⟩)) ?_
 refine qe (zA (zB (zB (zC ?_))))
 refine qM (.pointer (some ⟨a, 0, none⟩)) ?_
 refine qI rfl (zK (vs := [(.pointer (some ⟨a, 0, none⟩)), (vJ 8)]) Tryd.func37 nm37 rfl rfl rfl ?_)
 refine Calls.mono (one_spec aq.pins bt hc (by omega) (by omega) (n := 8) (by omega)) ?_
 rintro _ dw ⟨dx, dy, dz, rfl, t, d0, d1, ar⟩
 refine ⟨_, rfl, ?_⟩
 have d := aq.trans ar (fun i hi => (yA c) i hi)
 have x := bv.extS ar (xP b.symm)
 refine qe (zA ?_)
 refine c_if rfl rfl (fun bw => ?_) (fun bw => ?_)
 ·skip
  refine zB (zC ?_)
  refine qM (.pointer (some ⟨a, 0, none⟩)) ?_
  refine qI rfl (zK (vs := [(.pointer (some ⟨a, 0, none⟩)), (vJ 5)]) Tryd.func36 nm36 rfl rfl rfl ?_)
  refine Calls.mono (dform_spec (n := 5) d.pins t hc (by omega) (by omega) (by omega)) ?_
  rintro _ bx ⟨au, y, d2, d3, bz, rfl, z, av, d4, aw, d5, d6, k⟩
  refine ⟨_, rfl, ?_⟩
  have aa := d.trans k (fun i hi => (yA c) i hi)
  have ax := x.extS k (xP b.symm)
  have b0 := zR z.lt x.lt
  have ay := zR z.lt t.lt
  have az : Own eNode 60 bz bx w.heap.size au (formG y) := z.weaken d.size
  have d7 := av.1.lo
  refine qM (.pointer (some ⟨a, 0, none⟩)) ?_
  refine qI rfl (zK (vs := [(.pointer (some ⟨a, 0, none⟩)), (vJ 6)]) Tryd.func36 nm36 rfl rfl rfl ?_)
  refine Calls.mono (dform_spec (n := 6) aa.pins aw (hc.mono k.le) (by omega) (by omega) (by omega)) ?_
  rintro _ b2 ⟨a0, ab, d8, d9, b3, rfl, l, a1, ea, b4, eb, ec, m⟩
  refine ⟨_, rfl, ?_⟩
  have b5 := aa.trans m (fun i hi => (yA c) i hi)
  have b6 := az.extS m (notO ay)
  have b7 := ax.extS m (xP b.symm)
  have b8 := zQ l.lt az.lt
  have ca := zR l.lt ax.lt
  have cb := zR l.lt aw.lt
  have cc : Own eNode 60 b3 b2 w.heap.size a0 (formG ab) := l.weaken aa.size
  have ed := a1.1.lo
  obtain ⟨ee, a2, cd, a3, ac⟩ := b6.sealed b5
  have ce := cc.moreO a2 ac b8
  have cf := b7.moreO ac b0.symm
  have cg := b4.moreO ac ay.symm
  obtain ⟨ch, a4, ad, a5, a6⟩ := ce.sealed cd
  have a7 := cf.moreO a6 ca.symm
  have a8 := cg.moreO a6 cb.symm
  refine qI rfl (o_buildA (E := (eSl eNode)) (e := 26) [au, a0] [formG y, formG ab] Tryd.underlying38 sz26 zr26 (by exact reps2 (⟨_, rfl, (a3.mono a4)⟩) (⟨_, rfl, a5⟩)) (ones2 a3.one a5.one) rfl rfl rfl rfl (by decide) ad.pins (fun f ci cj ck ae a9 => ?_))
  have af := ad.step ck ae
  have ba := a7.below ae
  have cl := a8.below ae
  have cm : Apart f.ownBlock (some g) := zH a9 a7.lt
  have cn : Apart f.ownBlock (some a) := zH a9 a8.lt
  have bb : Own (eSl eNode) 26 ch ci w.heap.size f ([formG y, formG ab]) := cj.weaken ad.size
  refine qM (.pointer (some ⟨a, 0, none⟩)) ?_
  refine qI rfl (zK (vs := [(.pointer (some ⟨a, 0, none⟩)), (vJ 6)]) Tryd.func36 nm36 rfl rfl rfl ?_)
  refine Calls.mono (dform_spec (n := 6) af.pins cl (hc.mono (Pin.le_trans (Pin.le_trans (Pin.le_trans k.le m.le) a2) a4)) (by omega) (by omega) (by omega)) ?_
  rintro _ co ⟨bc, ag, ef, eg, cp, rfl, ah, bd, eh, ei, ej, ek, ai⟩
  refine ⟨_, rfl, ?_⟩
  have cq := af.trans ai (fun i hi => (yA c) i hi)
  have cr := bb.extS ai (notO cn)
  have ct := ba.extS ai (xP b.symm)
  have cu := zQ ah.lt bb.lt
  have cv := zR ah.lt ba.lt
  have cw : Own eNode 60 cp co w.heap.size bc (formG ag) := ah.weaken af.size
  have el := bd.1.lo
  obtain ⟨cx, cy, aj, cz, be⟩ := cw.sealed cq
  have bf := cr.moreO cy be cu.symm
  have bg := ct.moreO be cv.symm
  refine qI rfl (xJ (E := (eSl eNode)) (e := 26) [bc] (formG ag) Tryd.underlying38 sz26 zr26 ⟨_, rfl, cz⟩ rfl (by decide) aj.pins (fun o c0 c1 c2 ak bh => ?_))
  have c3 := aj.step c2 ak
  have c4 := bf.below ak
  have c5 := bg.below ak
  have c6 : Apart o.ownBlock f.ownBlock := zG bh bf.lt
  have c7 : Apart o.ownBlock (some g) := zH bh bg.lt
  have c8 : Own (eSl eNode) 26 cx c0 w.heap.size o ([formG ag]) := c1.weaken aj.size
  obtain ⟨em, c9, da, db, bi⟩ := c4.sealed c3
  have dc := c8.moreO c9 bi c6
  have dd := c5.moreO bi cm.symm
  obtain ⟨en, de, bj, df, dg⟩ := dc.sealed da
  have dh := dd.moreO dg c7.symm
  refine qI rfl (zK (vs := [f, o]) Tryd.func40 nm40 rfl rfl rfl ?_)
  refine Calls.mono (l3Make_spec bj.pins (db.mono de) df (AllW.cons av (by omega) (AllW.cons a1 (by omega) AllW.nil (by simp)) (by simp)) (AllW.cons bd (by omega) AllW.nil (by simp))) ?_
  rintro _ eo ⟨p, ep, rfl, bk, bl⟩
  refine ⟨_, rfl, ?_⟩
  have bm := bj.tr bl
  have di := dh.ext bl
  refine q0 rfl rfl rfl (yN (cs' := [p]) (us := [p]) (v := (.agg [p].toArray)) sz26 rfl rfl rfl (yD bk.one) bm.pins di (Nat.le_of_ble_eq_true rfl) rfl (fun eq dj dk dl er => ?_))
  have dm := bm.write dk dl ((yA ao))
  refine qe (zA ?_)
  refine wp_ret ?_
  refine zS ?_
  refine qA (cs := [p]) rfl rfl rfl ag26 sz26 (fun j u hj => by rw [Nat.zero_add]; exact dj.cell hj) ?_
  exact ⟨_, _, _, rfl, bk, dm⟩
 refine wp_skip ?_
 refine zA (zB (zC ?_))
 refine qM (.pointer (some ⟨a, 0, none⟩)) ?_
 refine qI rfl (zK (vs := [(.pointer (some ⟨a, 0, none⟩)), (vJ 4)]) Tryd.func31 nm31 rfl rfl rfl ?_)
 refine Calls.mono (anyForm_spec (n := 4) d.pins t hc (by omega) (by omega) (by omega)) ?_
 rintro _ es ⟨q, et, eu, ev, ew, rfl, al, ex, ey, ez, bn⟩
 refine ⟨_, rfl, ?_⟩
 have bo := d.trans bn (fun i hi => (yA c) i hi)
 have dn := x.extS bn (xP b.symm)
 have e0 := al.max
 refine q0 rfl rfl rfl (yN (cs' := [q]) (us := [q]) (v := (.agg [q].toArray)) sz26 rfl rfl rfl (yD al.one) bo.pins dn (Nat.le_of_ble_eq_true rfl) rfl (fun e1 dp dq dr e2 => ?_))
 have ds := bo.write dq dr ((yA ao))
 refine qe (zA ?_)
 refine wp_ret ?_
 refine zS ?_
 refine qA (cs := [q]) rfl rfl rfl ag26 sz26 (fun j u hj => by rw [Nat.zero_add]; exact dp.cell hj) ?_
 exact ⟨_, _, _, rfl, al, ds⟩

theorem drAtLeast_spec {w : World} {G : Pin} {v : Value} {code : List UInt8} (hP : Pins G w) (hc : RSl eByte G v code) :
  Calls Tryd.prog 12 [v].toArray w fun e w' => ∃ (u0 : Value) (a4 : List Nd) (u1 : Value) (a5 : List Nd) (G' : Pin), e = .returned (.tuple #[(.agg [u0].toArray), (.agg [u1].toArray)]) ∧ RSl eNode G' u0 a4 ∧ RSl eNode G' u1 a5 ∧ Ext noS G w G' w' := by
 refine zV (n := 14) Tryd.func12 Tryd.ntmps12 rfl rfl ?_
 have r : Ext noS G w G w := Ext.refl hP
 have hm := hc.max
 refine zB (zC ?_)
 refine qI rfl (yI [(.slice none 0 0)] zr26 rfl r.pins (fun g w2 ca ag a6 a7 => ?_))
 have s := r.step a6 a7
 have a8 : w.heap.size ≤ g := by have := r.size; omega
 refine qI rfl (yI [(.slice none 0 0)] zr26 rfl s.pins (fun k cb a9 ah ba ai => ?_))
 have t := s.step ba ai
 have aj := ag.below ai
 have ak : Apart (some k) (some g) := zH (congrArg some a9) ag.lt
 have bb : w.heap.size ≤ k := by have := s.size; omega
 refine qe (zA (zB (zC ?_)))
 refine qM v ?_
 refine qD rfl (xR [(.slice none 0 0), (vJ 0), (.int .u64 0)] [v, (vJ 0), (.int .u64 0)] [(0, v, [v])] Tryd.underlying53 zr53 rfl pl53 rfl (List.forall_mem_cons.2 ⟨(xA hc.one), (fun _ h => by cases h)⟩) rfl) ?_
 refine qI rfl (xY [v, (vJ 0), (.int .u64 0)] (v := (.agg [v, (vJ 0), (.int .u64 0)].toArray)) rfl rfl t.pins (fun a cc al bc bd x => ?_))
 have am := t.step bd x
 have be := aj.below x
 have bf := ah.below x
 have an : Apart (some a) (some g) := zH (congrArg some al) aj.lt
 have ao : Apart (some a) (some k) := zH (congrArg some al) ah.lt
 have ap : w.heap.size ≤ a := by have := t.size; omega
 refine qM (.pointer (some ⟨a, 0, none⟩)) ?_
 refine qe (zA (zB (zC ?_)))
 refine qM (.pointer (some ⟨a, 0, none⟩)) ?_
 refine qI rfl (zK (vs := [(.pointer (some ⟨a, 0, none⟩)), (vJ 3)]) Tryd.func31 nm31 rfl rfl rfl ?_)
 refine Calls.mono (anyForm_spec (n := 3) am.pins bc hc (by omega) (by omega) (by omega)) ?_
 rintro _ cd ⟨b, ce, cf, cg, ch, rfl, l, aq, ci, cj, m⟩
 refine ⟨_, rfl, ?_⟩
 have y := am.trans m (fun i hi => (yA ap) i hi)
 have ar := be.extS m (xP an.symm)
 have au := bf.extS m (xP ao.symm)
 have ck := l.max
 refine qI rfl (yI [(.slice none 0 0)] zr26 rfl y.pins (fun d cl z bg bh o => ?_))
 have av := y.step bh o
 have bi := ar.below o
 have bj := au.below o
 have bk := aq.below o
 have aw : Apart (some d) (some g) := zH (congrArg some z) ar.lt
 have bl : Apart (some d) (some k) := zH (congrArg some z) au.lt
 have ax : Apart (some d) (some a) := zH (congrArg some z) aq.lt
 have bm : w.heap.size ≤ d := by have := y.size; omega
 refine q0 rfl rfl rfl (yN (cs' := [b]) (us := [b]) (v := (.agg [b].toArray)) sz26 rfl rfl rfl (yD l.one) av.pins bg (Nat.le_of_ble_eq_true rfl) rfl (fun aa bn bo p cm => ?_))
 have ay := av.write bo p ((yA bm))
 have bp := bi.keptA p aw.symm
 have bq := bj.keptA p bl.symm
 have br := bk.keptA p ax.symm
 refine qe (zA (zB ?_))
 refine xB (S := fun wz => BxR wz d [b]) (last := 4) (by kernel_rfl) rfl ?_
 have c : Below aa.heap.size aa aa.drew := (Below.refl _ _).drew
 have bs := ay.pins.below c
 have az := ay.step bs c
 have bt := bp.below c
 have bu := bq.below c
 have bv := br.below c
 have ab := bn.below c
 refine dT (i := 0) rfl rfl (by kernel_rfl) (fun _ hS => zW (cs := [b]) ag26 sz26 rfl (fun j u hj => hS _ _ (by simpa using hj))) ab.reads ?_
 refine dM 1 (.pointer (some ⟨a, 0, none⟩)) ab.reads ?_
 refine dO (i := 2) (zT (i := 2) rfl rfl rfl (zD rfl _) (zK (vs := [(.pointer (some ⟨a, 0, none⟩)), (vJ 3)]) Tryd.func31 nm31 rfl rfl rfl ?_))
 refine Calls.mono (anyForm_spec (n := 3) az.pins bv (hc.mono m.le) (by omega) (by omega) (by omega)) ?_
 rintro _ cn ⟨q, co, cp, cq, cr, rfl, ac, ct, cu, cv, f⟩
 refine ⟨_, rfl, ?_⟩
 have a0 := az.trans f (fun i hi => (yA ap) i hi)
 have bw := bt.extS f (xP an.symm)
 have bx := bu.extS f (xP ao.symm)
 have a1 := ab.extS f (xP ax)
 have cw := ac.max
 refine ⟨fun _ => a1.reads, ?_⟩
 refine dO (i := 3) (qB (i := 3) rfl rfl rfl (zD rfl _) (yN (cs' := [b]) (us := [b]) (v := (.agg [b].toArray)) sz26 rfl rfl rfl (yD l.one) a0.pins bw (Nat.le_of_ble_eq_true rfl) rfl (fun cx bz b0 ad cy => ?_)))
 have a2 := a0.write b0 ad ((yA a8))
 have b2 := bx.keptA ad ak
 have b3 := a1.keptA ad aw
 refine ⟨fun _ => b3.reads, ?_⟩
 refine dO (i := 4) (qB (i := 4) rfl rfl rfl (zD rfl _) (yN (cs' := [q]) (us := [q]) (v := (.agg [q].toArray)) sz26 rfl rfl rfl (yD ac.one) a2.pins b2 (Nat.le_of_ble_eq_true rfl) rfl (fun cz b4 b5 a3 c0 => ?_)))
 have b6 := a2.write b5 a3 ((yA bb))
 have b7 := bz.keptA a3 ak.symm
 refine ⟨fun h => absurd rfl h, ?_⟩
 refine yF (by kernel_rfl) ?_
 refine zA ?_
 refine wp_ret ?_
 refine zS ?_
 refine c_retcc (cs := [b]) (ds := [q]) rfl rfl rfl rfl rfl ag26 sz26 rfl (fun j u hj => by rw [Nat.zero_add]; exact b7.cell hj) (fun j u hj => by rw [Nat.zero_add]; exact b4.cell hj) ?_
 exact ⟨_, _, _, _, _, rfl, (l.mono f.le), ac, b6⟩

theorem vBig_spec {w : World} {G : Pin} {v : Value} {code : List UInt8} (hP : Pins G w) (hc : RSl eByte G v code) :
  Calls Tryd.prog 6 [v].toArray w fun e w' => e = .returned (.bool (decide ((65536 : Int) < (code.length : Int)))) ∧ Ext noS G w G w' := by
 refine zV (n := 6) Tryd.func6 Tryd.ntmps6 rfl rfl ?_
 have hX0 : Ext noS G w G w := Ext.refl hP
 have hm := hc.max
 refine zB (zC ?_)
 refine qM (.bool false) ?_
 refine qe (zA (zB (zC ?_)))
 refine qM v ?_
 refine qD rfl (zO Tryd.underlying22 (v := v) rfl hc) ?_
 refine qD rfl (r_gtr rfl rfl) ?_
 refine qM (.bool (decide ((65536 : Int) < (code.length : Int)))) ?_
 refine qe (zA ?_)
 refine wp_ret ?_
 refine zS ?_
 refine zP (v := (.bool (decide ((65536 : Int) < (code.length : Int))))) rfl rfl rfl ?_
 exact ⟨rfl, hX0⟩

theorem vZero_spec {w : World} {G : Pin} (hP : Pins G w) :
  Calls Tryd.prog 17 [].toArray w fun e w' => ∃ (u : Value) (G' : Pin), e = .returned (.agg [u].toArray) ∧ RSl eNode G' u zF ∧ Ext noS G w G' w' := by
 refine zV (n := 4) Tryd.func17 Tryd.ntmps17 rfl rfl ?_
 have b : Ext noS G w G w := Ext.refl hP
 refine zB (zC ?_)
 refine qI rfl (yI [(.slice none 0 0)] zr26 rfl b.pins (fun f w2 ag g m o => ?_))
 have c := b.step m o
 have p : w.heap.size ≤ f := by have := b.size; omega
 refine qe (zA (zB (zC ?_)))
 refine qD rfl (xR [(.slice none 0 0), (.slice none 0 0)] [(.slice none 0 0), (.slice none 0 0)] [] Tryd.underlying60 zr60 rfl pl60 rfl (fun _ h => by cases h) rfl) ?_
 refine qI rfl (xJ (E := eNode) (e := 60) [(.slice none 0 0), (.slice none 0 0)] (⟨[], []⟩ : Nd) Tryd.underlying24 sz60 zr60 ⟨_, _, rfl, (nil_reads _ _), (nil_reads _ _)⟩ rfl (by decide) c.pins (fun a q r s i t => ?_))
 have k := c.step s i
 have x := g.below i
 have y : Apart a.ownBlock (some f) := zH t g.lt
 have d : Own eNode 60 G q w.heap.size a ([(⟨[], []⟩ : Nd)]) := r.weaken c.size
 refine qD rfl (xR [(.slice none 0 0)] [a] [(0, a, [a])] Tryd.underlying26 zr26 rfl pl26 rfl (List.forall_mem_cons.2 ⟨(xA d.one), (fun _ h => by cases h)⟩) rfl) ?_
 refine q0 rfl rfl rfl (yN (cs' := [a]) (us := [a]) (v := (.agg [a].toArray)) sz26 rfl rfl rfl (yD d.one) k.pins x (Nat.le_of_ble_eq_true rfl) rfl (fun ah z aa l ai => ?_))
 have ab := k.write aa l ((yA p))
 have ac := d.keptA l y
 refine qe (zA ?_)
 refine wp_ret ?_
 refine zS ?_
 refine qA (cs := [a]) rfl rfl rfl ag26 sz26 (fun j u hj => by rw [Nat.zero_add]; exact z.cell hj) ?_
 obtain ⟨aj, ak, ad, ae, al⟩ := ac.sealed ab
 exact ⟨_, _, rfl, ae, ad⟩

theorem vCut_spec {w : World} {G : Pin} {v : Value} {code : List UInt8} {n : Int} (hP : Pins G w) (hc : RSl eByte G v code) (hn : 0 ≤ n ∧ n ≤ 100) (hcl : code.length ≤ 65536) :
  Calls Tryd.prog 9 [v, (vJ n)].toArray w fun e w' => ∃ (u : Value) (ys : List UInt8) (G' : Pin), e = .returned u ∧ RSl eByte G' u ys ∧ Ext noS G w G' w' := by
 refine zV (n := 20) Tryd.func9 Tryd.ntmps9 rfl rfl ?_
 have a : Ext noS G w G w := Ext.refl hP
 have hm := hc.max
 refine zB (zC ?_)
 refine qM (.slice none 0 0) ?_
 refine qe (zA (zB (zB (zC ?_))))
 refine qM (vJ n) ?_
 refine qM v ?_
 refine qD rfl (zO Tryd.underlying22 (v := v) rfl hc) ?_
 refine qD rfl (r_gtr rfl rfl) ?_
 refine qe (zA ?_)
 refine yB (p := ((code.length : Int) : Int) < n) rfl rfl (fun h1 => ?_) (fun h1 => ?_)
 ·skip
  refine zC ?_
  refine qM v ?_
  refine qD rfl (zO Tryd.underlying22 (v := v) rfl hc) ?_
  refine qM (vJ (code.length : Int)) ?_
  refine qe (zA (zB (zC ?_)))
  have hdl : ((code.take code.length).drop code.length).length ≤ code.length := by simp
  refine qI rfl (xE (E := eByte) (e := 5) Tryd.underlying22 sz5 a.pins (fun i w3 ad ae af bk => ?_))
  have b := a.step ae af
  have k : Own eByte 5 G w3 w.heap.size i ([]) := ad.weaken a.size
  refine qM v ?_
  refine qM (vJ (code.length : Int)) ?_
  obtain ⟨ag, ah, ai⟩ := xT hc (lo := (some ((code.length : Int)))) (hi := none) (code.length) (code.length) (Or.inr ⟨_, rfl, (by omega), rfl⟩) (Or.inl ⟨rfl, rfl⟩) (by omega) (by omega)
  refine qD rfl (ai Tryd.underlying22 sz5 rfl rfl rfl) ?_
  refine qI rfl (o_append (E := eByte) (v := i) (u := ag) 1 Tryd.underlying22 ap5 (by decide) rfl rfl b.pins k ((ah.mono (Pin.le_refl _)).src b.pins (by decide)) (by first | omega | (rw [List.nil_append]; omega) | (rw [List.length_nil]; omega) | (rw [List.length_append]; omega) | (simp; done) | (simp; omega) | (simp only [List.length_cons, List.length_nil]; omega) | (simp only [List.length_append, List.length_cons, List.length_nil]; omega)) (by first | omega | (rw [List.nil_append]; omega) | (rw [List.length_nil]; omega) | (rw [List.length_append]; omega) | (simp; done) | (simp; omega) | (simp only [List.length_cons, List.length_nil]; omega) | (simp only [List.length_append, List.length_cons, List.length_nil]; omega)) (b.size) (fun aj bl ak al am bm => ?_))
  have d := b.write al am ((zX k))
  have bn : (([]) ++ ((code.take code.length).drop code.length)).length = ([]).length + ((code.take code.length).drop code.length).length := List.length_append
  refine qM (vJ (code.length : Int)) ?_
  refine qD rfl (r_conv (j := (code.length : Int)) Tryd.underlying3 Tryd.underlying5 rfl (wrapB (by omega))) ?_
  refine qI rfl (yT (E := eByte) (e := 5) [(.int .u8 (code.length : Int))] [(UInt8.ofNat ((code.length : Int)).toNat)] Tryd.underlying22 sz5 zr5 (by exact xW (congrArg (fun z => [Value.int .u8 z]) (u8_of (by omega)))) (yD (by rfl)) rfl rfl rfl rfl (by decide) d.pins (fun l an ao ap m bo => ?_))
  have f := d.step ap m
  have o := ak.below m
  have aq : Own eByte 5 G an w.heap.size l ([(UInt8.ofNat ((code.length : Int)).toNat)]) := ao.weaken d.size
  refine qI rfl (o_append (E := eByte) (v := aj) (u := l) 1 Tryd.underlying22 ap5 (by decide) rfl rfl f.pins o aq.src (by first | omega | (rw [List.nil_append]; omega) | (rw [List.length_nil]; omega) | (rw [List.length_append]; omega) | (simp; done) | (simp; omega) | (simp only [List.length_cons, List.length_nil]; omega) | (simp only [List.length_append, List.length_cons, List.length_nil]; omega)) (by first | omega | (rw [List.nil_append]; omega) | (rw [List.length_nil]; omega) | (rw [List.length_append]; omega) | (simp; done) | (simp; omega) | (simp only [List.length_cons, List.length_nil]; omega) | (simp only [List.length_append, List.length_cons, List.length_nil]; omega)) (f.size) (fun q bp ar au av bq => ?_))
  have aw := f.write au av ((zX o))
  have br : ((([]) ++ ((code.take code.length).drop code.length)) ++ ([(UInt8.ofNat ((code.length : Int)).toNat)])).length = (([]) ++ ((code.take code.length).drop code.length)).length + 1 := List.length_append
  refine qM q ?_
  refine qe (zA ?_)
  refine wp_ret ?_
  refine zS ?_
  refine zP (v := q) rfl rfl rfl ?_
  obtain ⟨bs, bt, ax, ay, bu⟩ := ar.sealed aw
  exact ⟨_, _, _, rfl, ay, ax⟩
 refine wp_skip ?_
 refine zA (zB (zC ?_))
 have hdl : ((code.take code.length).drop (n).toNat).length ≤ code.length := by simp
 refine qI rfl (xE (E := eByte) (e := 5) Tryd.underlying22 sz5 a.pins (fun r az a0 a1 a2 bv => ?_))
 have c := a.step a1 a2
 have s : Own eByte 5 G az w.heap.size r ([]) := a0.weaken a.size
 refine qM v ?_
 refine qM (vJ n) ?_
 obtain ⟨a3, a4, a5⟩ := xT hc (lo := (some (n))) (hi := none) ((n).toNat) (code.length) (Or.inr ⟨_, rfl, (by omega), rfl⟩) (Or.inl ⟨rfl, rfl⟩) (by omega) (by omega)
 refine qD rfl (a5 Tryd.underlying22 sz5 rfl rfl rfl) ?_
 refine qI rfl (o_append (E := eByte) (v := r) (u := a3) 1 Tryd.underlying22 ap5 (by decide) rfl rfl c.pins s ((a4.mono (Pin.le_refl _)).src c.pins (by decide)) (by first | omega | (rw [List.nil_append]; omega) | (rw [List.length_nil]; omega) | (rw [List.length_append]; omega) | (simp; done) | (simp; omega) | (simp only [List.length_cons, List.length_nil]; omega) | (simp only [List.length_append, List.length_cons, List.length_nil]; omega)) (by first | omega | (rw [List.nil_append]; omega) | (rw [List.length_nil]; omega) | (rw [List.length_append]; omega) | (simp; done) | (simp; omega) | (simp only [List.length_cons, List.length_nil]; omega) | (simp only [List.length_append, List.length_cons, List.length_nil]; omega)) (c.size) (fun a6 bw a7 a8 a9 bx => ?_))
 have g := c.write a8 a9 ((zX s))
 have bz : (([]) ++ ((code.take code.length).drop (n).toNat)).length = ([]).length + ((code.take code.length).drop (n).toNat).length := List.length_append
 refine qM (vJ n) ?_
 refine qD rfl (r_conv (j := n) Tryd.underlying3 Tryd.underlying5 rfl (wrapB (by omega))) ?_
 refine qI rfl (yT (E := eByte) (e := 5) [(.int .u8 n)] [(UInt8.ofNat (n).toNat)] Tryd.underlying22 sz5 zr5 (by exact xW (congrArg (fun z => [Value.int .u8 z]) (u8_of (by omega)))) (yD (by rfl)) rfl rfl rfl rfl (by decide) g.pins (fun t ba bb bc x b0 => ?_))
 have h := g.step bc x
 have y := a7.below x
 have bd : Own eByte 5 G ba w.heap.size t ([(UInt8.ofNat (n).toNat)]) := bb.weaken g.size
 refine qI rfl (o_append (E := eByte) (v := a6) (u := t) 1 Tryd.underlying22 ap5 (by decide) rfl rfl h.pins y bd.src (by first | omega | (rw [List.nil_append]; omega) | (rw [List.length_nil]; omega) | (rw [List.length_append]; omega) | (simp; done) | (simp; omega) | (simp only [List.length_cons, List.length_nil]; omega) | (simp only [List.length_append, List.length_cons, List.length_nil]; omega)) (by first | omega | (rw [List.nil_append]; omega) | (rw [List.length_nil]; omega) | (rw [List.length_append]; omega) | (simp; done) | (simp; omega) | (simp only [List.length_cons, List.length_nil]; omega) | (simp only [List.length_append, List.length_cons, List.length_nil]; omega)) (h.size) (fun aa b1 be bf bg b2 => ?_))
 have bh := h.write bf bg ((zX y))
 have b3 : ((([]) ++ ((code.take code.length).drop (n).toNat)) ++ ([(UInt8.ofNat (n).toNat)])).length = (([]) ++ ((code.take code.length).drop (n).toNat)).length + 1 := List.length_append
 refine qM aa ?_
 refine qe (zA ?_)
 refine wp_ret ?_
 refine zS ?_
 refine zP (v := aa) rfl rfl rfl ?_
 obtain ⟨b4, b5, bi, bj, b6⟩ := be.sealed bh
 exact ⟨_, _, _, rfl, bj, bi⟩

theorem GoodForm_spec {w : World} {G : Pin} {v : Value} {ns : List Nd} (hP : Pins G w) (hv : RSl eNode G v ns) :
  Calls Tryd.prog 24 [(.agg [v].toArray)].toArray w fun e w' => ∃ G', e = .returned (.bool (goodB ns)) ∧ Ext noS G w G' w' := by
 refine zV (n := 5) Tryd.func24 Tryd.ntmps24 rfl rfl ?_
 have a : Ext noS G w G w := Ext.refl hP
 refine zB (zC ?_)
 refine qI rfl (xY [v] (v := (.agg [v].toArray)) rfl rfl a.pins (fun c p q d f g => ?_))
 have h := a.step f g
 have i : w.heap.size ≤ c := by have := a.size; omega
 obtain ⟨r, k, b, l, s⟩ := d.shut h i
 refine qM (.bool false) ?_
 refine qe (zA (zB (zC ?_)))
 refine qD rfl (zW (cs := [v]) ag26 sz26 rfl (fun j u hj => b.pins _ _ _ (l _ _ (by simpa using hj)))) ?_
 refine qI rfl (zK (vs := [(.agg [v].toArray)]) Tryd.func29 nm29 rfl rfl rfl ?_)
 refine Calls.mono (l3Good_spec b.pins (hv.mono k)) ?_
 rintro _ t ⟨x, rfl, m⟩
 refine ⟨_, rfl, ?_⟩
 have o := b.tr m
 refine qM (.bool (decP (GoodS ns))) ?_
 refine qe (zA ?_)
 refine wp_ret ?_
 refine zS ?_
 refine zP (v := (.bool (decP (GoodS ns)))) rfl rfl rfl ?_
 exact ⟨_, congrArg (fun z => Ending.returned (Value.bool z)) (good_eq ns), o⟩

theorem vForm_spec {w : World} {G : Pin} {v : Value} {code : List UInt8} (hP : Pins G w) (hc : RSl eByte G v code) :
  Calls Tryd.prog 7 [v].toArray w fun e w' => ∃ (u : Value) (ns : List Nd) (G' : Pin), e = .returned (.agg [u].toArray) ∧ RSl eNode G' u ns ∧ GoodP ns ∧ ns.length ≤ 30 ∧ Ext noS G w G' w' := by
 refine zV (n := 17) Tryd.func7 Tryd.ntmps7 rfl rfl ?_
 have h : Ext noS G w G w := Ext.refl hP
 have hm := hc.max
 refine zB (zC ?_)
 refine qI rfl (yI [(.slice none 0 0)] zr26 rfl h.pins (fun s w2 bj ao ap aq => ?_))
 have x := h.step ap aq
 have i : w.heap.size ≤ s := by have := h.size; omega
 refine qe (zA (zB (zC ?_)))
 refine qM v ?_
 refine qI rfl (zK (vs := [v]) Tryd.func23 nm23 rfl rfl rfl ?_)
 refine Calls.mono (drFormText_spec x.pins hc) ?_
 rintro _ bk ⟨a, l, G9, rfl, c, y⟩
 refine ⟨_, rfl, ?_⟩
 have m := x.tr y
 have z := ao.ext y
 have bm := c.max
 refine qI rfl (yI [(.slice none 0 0)] zr26 rfl m.pins (fun aa bn ar au av ab => ?_))
 have ac := m.step av ab
 have aw := z.below ab
 have ad : Apart (some aa) (some s) := zH (congrArg some ar) z.lt
 have ae : w.heap.size ≤ aa := by have := m.size; omega
 refine q0 rfl rfl rfl (yN (cs' := [a]) (us := [a]) (v := (.agg [a].toArray)) sz26 rfl rfl rfl (yD c.one) ac.pins au (Nat.le_of_ble_eq_true rfl) rfl (fun bo ax ay af bp => ?_))
 have az := ac.write ay af ((yA ae))
 have a0 := aw.keptA af ad.symm
 obtain ⟨bq, ag, o, q, a1⟩ := ax.shut az ae
 have a2 := a0.moreA a1 ad.symm
 refine qe (zA (zB (zB (zC ?_))))
 refine qD rfl (zW (cs := [a]) ag26 sz26 rfl (fun j u hj => o.pins _ _ _ (q _ _ (by simpa using hj)))) ?_
 refine qI rfl (zK (vs := [(.agg [a].toArray)]) Tryd.func24 nm24 rfl rfl rfl ?_)
 refine Calls.mono (GoodForm_spec o.pins (c.mono ag)) ?_
 rintro _ br ⟨bs, rfl, d⟩
 refine ⟨_, rfl, ?_⟩
 have b := o.tr d
 have r := a2.ext d
 refine qD rfl (qL rfl) ?_
 refine qM (.bool (!(goodB l))) ?_
 refine qbn (t := 9) rfl (fun ah => ?_) (fun ah => ?_)
 ·skip
  refine qN (zM (k := 0) rfl Tryd.underlying26 rfl nz24 rfl) ?_
  refine qN (zN (u := a) ag24 rfl ((Pins.of_le b.pins d.le) _ _ _ (q 0 _ rfl))) ?_
  refine qN (zO Tryd.underlying24 (v := a) rfl c) ?_
  refine qN (r_gtr rfl rfl) ?_
  refine qD rfl (xD (v := (.bool (decide ((30 : Int) < (l.length : Int))))) rfl rfl) ?_
  refine qe (zA ?_)
  refine yB (p := (30 : Int) < (l.length : Int)) rfl rfl (fun a3 => ?_) (fun a3 => ?_)
  ·skip
   refine zB (zC ?_)
   refine qI rfl (zK (vs := []) Tryd.func17 nm17 rfl rfl rfl ?_)
   refine Calls.mono (vZero_spec b.pins ) ?_
   rintro _ bt ⟨f, bu, rfl, ai, aj⟩
   refine ⟨_, rfl, ?_⟩
   have ak := b.tr aj
   have a4 := r.ext aj
   refine q0 rfl rfl rfl (yN (cs' := [f]) (us := [f]) (v := (.agg [f].toArray)) sz26 rfl rfl rfl (yD ai.one) ak.pins a4 (Nat.le_of_ble_eq_true rfl) rfl (fun bv a5 a6 a7 bw => ?_))
   have a8 := ak.write a6 a7 ((yA i))
   refine qe (zA ?_)
   refine wp_ret ?_
   refine zS ?_
   refine qA (cs := [f]) rfl rfl rfl ag26 sz26 (fun j u hj => by rw [Nat.zero_add]; exact a5.cell hj) ?_
   exact ⟨_, _, _, rfl, ai, goodP_zF, (by decide), a8⟩
  refine wp_skip ?_
  refine zA (zB (zC ?_))
  refine qD rfl (zW (cs := [a]) ag26 sz26 rfl (fun j u hj => (Pins.of_le b.pins d.le) _ _ _ (q _ _ (by simpa using hj)))) ?_
  refine q0 rfl rfl rfl (yN (cs' := [a]) (us := [a]) (v := (.agg [a].toArray)) sz26 rfl rfl rfl (yD c.one) b.pins r (Nat.le_of_ble_eq_true rfl) rfl (fun bx a9 ba bb bz => ?_))
  have bc := b.write ba bb ((yA i))
  refine qe (zA ?_)
  refine wp_ret ?_
  refine zS ?_
  refine qA (cs := [a]) rfl rfl rfl ag26 sz26 (fun j u hj => by rw [Nat.zero_add]; exact a9.cell hj) ?_
  exact ⟨_, _, _, rfl, (c.mono (Pin.le_trans ag d.le)), (goodB_true.1 ah), (by omega), bc⟩
 refine qW ?_
 refine qW ?_
 refine qW ?_
 refine qW ?_
 refine qD rfl (xI (v := (.bool true)) rfl rfl) ?_
 refine qe (zA ?_)
 refine c_ifT rfl rfl ?_
 refine zB (zC ?_)
 refine qI rfl (zK (vs := []) Tryd.func17 nm17 rfl rfl rfl ?_)
 refine Calls.mono (vZero_spec b.pins ) ?_
 rintro _ b0 ⟨g, b2, rfl, al, am⟩
 refine ⟨_, rfl, ?_⟩
 have an := b.tr am
 have bd := r.ext am
 refine q0 rfl rfl rfl (yN (cs' := [g]) (us := [g]) (v := (.agg [g].toArray)) sz26 rfl rfl rfl (yD al.one) an.pins bd (Nat.le_of_ble_eq_true rfl) rfl (fun b3 be bf bg b4 => ?_))
 have bh := an.write bf bg ((yA i))
 refine qe (zA ?_)
 refine wp_ret ?_
 refine zS ?_
 refine qA (cs := [g]) rfl rfl rfl ag26 sz26 (fun j u hj => by rw [Nat.zero_add]; exact be.cell hj) ?_
 exact ⟨_, _, _, rfl, al, goodP_zF, (by decide), bh⟩

theorem vTwo_spec {w : World} {G : Pin} {v : Value} {code : List UInt8} (hP : Pins G w) (hc : RSl eByte G v code) (hcl : code.length ≤ 65536) :
  Calls Tryd.prog 8 [v].toArray w fun e w' => ∃ (u : Value) (ns : List Nd) (G' : Pin), e = .returned (.agg [u].toArray) ∧ RSl eNode G' u ns ∧ GoodP ns ∧ ns.length ≤ 30 ∧ Ext noS G w G' w' := by
 refine zV (n := 6) Tryd.func8 Tryd.ntmps8 rfl rfl ?_
 have b : Ext noS G w G w := Ext.refl hP
 have hm := hc.max
 refine zB (zC ?_)
 refine qI rfl (yI [(.slice none 0 0)] zr26 rfl b.pins (fun k w2 ae l m o => ?_))
 have c := b.step m o
 have p : w.heap.size ≤ k := by have := b.size; omega
 refine qe (zA (zB (zC ?_)))
 refine qM v ?_
 refine qI rfl (zK (vs := [v, (.int .i64 2)]) Tryd.func9 nm9 rfl rfl rfl ?_)
 refine Calls.mono (vCut_spec c.pins hc (n := 2) (by omega) (by omega)) ?_
 rintro _ af ⟨q, ag, ah, rfl, r, d⟩
 refine ⟨_, rfl, ?_⟩
 have f := c.tr d
 have s := l.ext d
 refine qI rfl (zK (vs := [q]) Tryd.func7 nm7 rfl rfl rfl ?_)
 refine Calls.mono (vForm_spec f.pins r) ?_
 rintro _ ai ⟨a, aj, ak, rfl, g, t, x, h⟩
 refine ⟨_, rfl, ?_⟩
 have i := f.tr h
 have y := s.ext h
 refine q0 rfl rfl rfl (yN (cs' := [a]) (us := [a]) (v := (.agg [a].toArray)) sz26 rfl rfl rfl (yD g.one) i.pins y (Nat.le_of_ble_eq_true rfl) rfl (fun al z aa ab am => ?_))
 have ac := i.write aa ab ((yA p))
 refine qe (zA ?_)
 refine wp_ret ?_
 refine zS ?_
 refine qA (cs := [a]) rfl rfl rfl ag26 sz26 (fun j u hj => by rw [Nat.zero_add]; exact z.cell hj) ?_
 exact ⟨_, _, _, rfl, g, t, x, ac⟩

end DV2
end Go.Proofs.YtkfgdhanaijddaaDoor

set_option maxRecDepth 20000
set_option maxHeartbeats 2000000
namespace Go.Proofs.YtkfgdhanaijddaaDoor
namespace LWO
open Go.RowKit Go.GL Go.Proofs
open Go.Proofs.YtkfgdhanaijddaaDoor.B1
open Go.Proofs.YtkfgdhanaijddaaDoor.C1
open Go.Proofs.YtkfgdhanaijddaaDoor.D1
open Go.Proofs.YtkfgdhanaijddaaDoor.E1
open Go.Proofs.YtkfgdhanaijddaaDoor.K1
open Go.Proofs.YtkfgdhanaijddaaDoor.PO1
open Go.Proofs.YtkfgdhanaijddaaDoor.PL1
open Go.Proofs.YtkfgdhanaijddaaDoor.PF1
open Go.Proofs.YtkfgdhanaijddaaDoor.SF1
open Go.Proofs.YtkfgdhanaijddaaDoor.DR1
open Go.Proofs.YtkfgdhanaijddaaDoor.DR2
open Go.Proofs.YtkfgdhanaijddaaDoor.DV1
open Go.Proofs.YtkfgdhanaijddaaDoor.DV2










theorem law {w : World} {G : Pin} {v : Value} {code : List UInt8} (hP : Pins G w) (hc : RSl eByte G v code) :
  Calls Tryd.prog 3 [v].toArray w fun e w' => ∃ G', e = .returned (.bool true) ∧ Ext noS G w G' w' := by
 refine zV (n := 109) Tryd.func3 Tryd.ntmps3 rfl rfl ?_
 have bb : Ext noS G w G w := Ext.refl hP
 have hm := hc.max
 refine zB (zC ?_)
 refine qM (.bool false) ?_
 refine qe (zA (zB (zB (zC ?_))))
 refine qM v ?_
 refine qI rfl (zK (vs := [v]) Tryd.func6 nm6 rfl rfl rfl ?_)
 refine Calls.mono (vBig_spec bb.pins hc) ?_
 rintro _ w1 ⟨rfl, bc⟩
 refine ⟨_, rfl, ?_⟩
 have av := bb.step bc.pins bc.below
 refine qe (zA ?_)
 refine yB (p := ((65536 : Int) < (code.length : Int))) rfl rfl (fun h4 => ?_) (fun h4 => ?_)
 ·skip
  refine zB (zC ?_)
  refine qM (.bool true) ?_
  refine qe (zA ?_)
  refine wp_ret ?_
  refine zS ?_
  refine zP (v := (.bool true)) rfl rfl rfl ?_
  exact ⟨_, rfl, av⟩
 refine wp_skip ?_
 refine zA (zB (zC ?_))
 refine qM v ?_
 refine qI rfl (zK (vs := [v]) Tryd.func7 nm7 rfl rfl rfl ?_)
 refine Calls.mono (vForm_spec av.pins hc) ?_
 rintro _ w8 ⟨l, a, G7, rfl, ac, bd, dv, ah⟩
 refine ⟨_, rfl, ?_⟩
 have be := av.tr ah
 refine qM v ?_
 refine qI rfl (zK (vs := [v]) Tryd.func8 nm8 rfl rfl rfl ?_)
 refine Calls.mono (vTwo_spec be.pins (hc.mono ah.le) (by omega)) ?_
 rintro _ dw ⟨s, b, dx, rfl, ai, cf, dy, aa⟩
 refine ⟨_, rfl, ?_⟩
 have bf := be.tr aa
 refine qM v ?_
 refine qI rfl (zK (vs := [v, (vJ 5)]) Tryd.func9 nm9 rfl rfl rfl ?_)
 refine Calls.mono (vCut_spec bf.pins (hc.mono (Pin.le_trans ah.le aa.le)) (n := 5) (by omega) (by omega)) ?_
 rintro _ dz ⟨cg, d0, d1, rfl, ch, o⟩
 refine ⟨_, rfl, ?_⟩
 have bg := bf.tr o
 refine qI rfl (zK (vs := [cg]) Tryd.func7 nm7 rfl rfl rfl ?_)
 refine Calls.mono (vForm_spec bg.pins ch) ?_
 rintro _ d2 ⟨ab, c, d3, rfl, aw, ci, d4, q⟩
 refine ⟨_, rfl, ?_⟩
 have ax := bg.tr q
 refine qI rfl (yI [(.slice none 0 0)] zr26 rfl ax.pins (fun ay d5 d6 bh cj ck => ?_))
 have az := ax.step cj ck
 have bi : w.heap.size ≤ ay := by have := ax.size; omega
 refine qI rfl (yI [(.slice none 0 0)] zr26 rfl az.pins (fun a0 d7 cl bj cm bk => ?_))
 have a1 := az.step cm bk
 have bl := bh.below bk
 have bm : Apart (some a0) (some ay) := zH (congrArg some cl) bh.lt
 have bn : w.heap.size ≤ a0 := by have := az.size; omega
 refine qI rfl (yI [(.slice none 0 0)] zr26 rfl a1.pins (fun a2 d8 bo cn co a3 => ?_))
 have bp := a1.step co a3
 have cp := bl.below a3
 have cq := bj.below a3
 have bq : Apart (some a2) (some ay) := zH (congrArg some bo) bl.lt
 have br : Apart (some a2) (some a0) := zH (congrArg some bo) bj.lt
 have bs : w.heap.size ≤ a2 := by have := a1.size; omega
 refine q0 rfl rfl rfl (yN (cs' := [l]) (us := [l]) (v := (.agg [l].toArray)) sz26 rfl rfl rfl (yD ac.one) bp.pins cp (Nat.le_of_ble_eq_true rfl) rfl (fun d9 cr ct a4 ea => ?_))
 have cu := bp.write ct a4 ((yA bi))
 have cv := cq.keptA a4 bm
 have cw := cn.keptA a4 bq
 obtain ⟨eb, m, bt, af, bu⟩ := cr.shut cu bi
 have cx := cv.moreA bu bm
 have cy := cw.moreA bu bq
 refine q0 rfl rfl rfl (yN (cs' := [s]) (us := [s]) (v := (.agg [s].toArray)) sz26 rfl rfl rfl (yD ai.one) bt.pins cx (Nat.le_of_ble_eq_true rfl) rfl (fun ec cz c0 bv ed => ?_))
 have c1 := bt.write c0 bv ((yA bn))
 have c2 := cy.keptA bv br
 obtain ⟨ee, g, bw, a5, c3⟩ := cz.shut c1 bn
 have c4 := c2.moreA c3 br
 refine q0 rfl rfl rfl (yN (cs' := [ab]) (us := [ab]) (v := (.agg [ab].toArray)) sz26 rfl rfl rfl (yD aw.one) bw.pins c4 (Nat.le_of_ble_eq_true rfl) rfl (fun ef c5 c6 c7 eg => ?_))
 have c8 := bw.write c6 c7 ((yA bs))
 obtain ⟨eh, d, aj, bx, ei⟩ := c5.shut c8 bs
 refine qe (zA (zB (zC ?_)))
 refine qD rfl (zW (cs := [l]) ag26 sz26 rfl (fun j u hj => (Pins.of_le aj.pins (Pin.le_trans g d)) _ _ _ (af _ _ (by simpa using hj)))) ?_
 refine qD rfl (zW (cs := [l]) ag26 sz26 rfl (fun j u hj => (Pins.of_le aj.pins (Pin.le_trans g d)) _ _ _ (af _ _ (by simpa using hj)))) ?_
 refine qI rfl (zK (vs := [(.agg [l].toArray), (.agg [l].toArray)]) Tryd.func10 nm10 rfl rfl rfl ?_)
 refine Calls.mono (qF aj.pins (ac.mono (Pin.le_trans (Pin.le_trans (Pin.le_trans (Pin.le_trans (Pin.le_trans aa.le o.le) q.le) m) g) d)) (ac.mono (Pin.le_trans (Pin.le_trans (Pin.le_trans (Pin.le_trans (Pin.le_trans aa.le o.le) q.le) m) g) d))) ?_
 rintro _ ej ⟨ek, rfl, f⟩
 refine ⟨_, rfl, ?_⟩
 have ak := aj.tr f
 refine qM (.tuple #[(.bool (alB a a)), (.bool (goodB a && goodB a))]) ?_
 refine qD rfl (yY (v := (.bool (alB a a))) rfl rfl) ?_
 refine qD rfl (yY (v := (.bool (goodB a && goodB a))) rfl rfl) ?_
 refine qM (.bool (alB a a)) ?_
 refine qM (.bool (goodB a && goodB a)) ?_
 refine qe (zA (zB (zC ?_)))
 refine qD rfl (zW (cs := [l]) ag26 sz26 rfl (fun j u hj => (Pins.of_le ak.pins (Pin.le_trans (Pin.le_trans g d) f.le)) _ _ _ (af _ _ (by simpa using hj)))) ?_
 refine qD rfl (zW (cs := [s]) ag26 sz26 rfl (fun j u hj => (Pins.of_le ak.pins (Pin.le_trans d f.le)) _ _ _ (a5 _ _ (by simpa using hj)))) ?_
 refine qI rfl (zK (vs := [(.agg [l].toArray), (.agg [s].toArray)]) Tryd.func10 nm10 rfl rfl rfl ?_)
 refine Calls.mono (qF ak.pins (ac.mono (Pin.le_trans (Pin.le_trans (Pin.le_trans (Pin.le_trans (Pin.le_trans (Pin.le_trans aa.le o.le) q.le) m) g) d) f.le)) (ai.mono (Pin.le_trans (Pin.le_trans (Pin.le_trans (Pin.le_trans (Pin.le_trans o.le q.le) m) g) d) f.le))) ?_
 rintro _ el ⟨em, rfl, k⟩
 refine ⟨_, rfl, ?_⟩
 have al := ak.tr k
 refine qM (.tuple #[(.bool (alB a b)), (.bool (goodB a && goodB b))]) ?_
 refine qD rfl (yY (v := (.bool (alB a b))) rfl rfl) ?_
 refine qD rfl (yY (v := (.bool (goodB a && goodB b))) rfl rfl) ?_
 refine qM (.bool (alB a b)) ?_
 refine qM (.bool (goodB a && goodB b)) ?_
 refine qe (zA (zB (zC ?_)))
 refine qD rfl (zW (cs := [s]) ag26 sz26 rfl (fun j u hj => (Pins.of_le al.pins (Pin.le_trans (Pin.le_trans d f.le) k.le)) _ _ _ (a5 _ _ (by simpa using hj)))) ?_
 refine qD rfl (zW (cs := [ab]) ag26 sz26 rfl (fun j u hj => (Pins.of_le al.pins (Pin.le_trans f.le k.le)) _ _ _ (bx _ _ (by simpa using hj)))) ?_
 refine qI rfl (zK (vs := [(.agg [s].toArray), (.agg [ab].toArray)]) Tryd.func10 nm10 rfl rfl rfl ?_)
 refine Calls.mono (qF al.pins (ai.mono (Pin.le_trans (Pin.le_trans (Pin.le_trans (Pin.le_trans (Pin.le_trans (Pin.le_trans o.le q.le) m) g) d) f.le) k.le)) (aw.mono (Pin.le_trans (Pin.le_trans (Pin.le_trans (Pin.le_trans m g) d) f.le) k.le))) ?_
 rintro _ en ⟨eo, rfl, r⟩
 refine ⟨_, rfl, ?_⟩
 have am := al.tr r
 refine qM (.tuple #[(.bool (alB b c)), (.bool (goodB b && goodB c))]) ?_
 refine qD rfl (yY (v := (.bool (alB b c))) rfl rfl) ?_
 refine qD rfl (yY (v := (.bool (goodB b && goodB c))) rfl rfl) ?_
 refine qM (.bool (alB b c)) ?_
 refine qM (.bool (goodB b && goodB c)) ?_
 refine qe (zA (zB (zC ?_)))
 refine qD rfl (zW (cs := [l]) ag26 sz26 rfl (fun j u hj => (Pins.of_le am.pins (Pin.le_trans (Pin.le_trans (Pin.le_trans (Pin.le_trans g d) f.le) k.le) r.le)) _ _ _ (af _ _ (by simpa using hj)))) ?_
 refine qD rfl (zW (cs := [ab]) ag26 sz26 rfl (fun j u hj => (Pins.of_le am.pins (Pin.le_trans (Pin.le_trans f.le k.le) r.le)) _ _ _ (bx _ _ (by simpa using hj)))) ?_
 refine qI rfl (zK (vs := [(.agg [l].toArray), (.agg [ab].toArray)]) Tryd.func10 nm10 rfl rfl rfl ?_)
 refine Calls.mono (qF am.pins (ac.mono (Pin.le_trans (Pin.le_trans (Pin.le_trans (Pin.le_trans (Pin.le_trans (Pin.le_trans (Pin.le_trans (Pin.le_trans aa.le o.le) q.le) m) g) d) f.le) k.le) r.le)) (aw.mono (Pin.le_trans (Pin.le_trans (Pin.le_trans (Pin.le_trans (Pin.le_trans m g) d) f.le) k.le) r.le))) ?_
 rintro _ ep ⟨eq, rfl, ad⟩
 refine ⟨_, rfl, ?_⟩
 have an := am.tr ad
 refine qM (.tuple #[(.bool (alB a c)), (.bool (goodB a && goodB c))]) ?_
 refine qD rfl (yY (v := (.bool (alB a c))) rfl rfl) ?_
 refine qD rfl (yY (v := (.bool (goodB a && goodB c))) rfl rfl) ?_
 refine qM (.bool (alB a c)) ?_
 refine qM (.bool (goodB a && goodB c)) ?_
 refine qe (zA (zB (zC ?_)))
 refine qD rfl (zW (cs := [l]) ag26 sz26 rfl (fun j u hj => (Pins.of_le an.pins (Pin.le_trans (Pin.le_trans (Pin.le_trans (Pin.le_trans (Pin.le_trans g d) f.le) k.le) r.le) ad.le)) _ _ _ (af _ _ (by simpa using hj)))) ?_
 refine qD rfl (zW (cs := [s]) ag26 sz26 rfl (fun j u hj => (Pins.of_le an.pins (Pin.le_trans (Pin.le_trans (Pin.le_trans (Pin.le_trans d f.le) k.le) r.le) ad.le)) _ _ _ (a5 _ _ (by simpa using hj)))) ?_
 refine qI rfl (zK (vs := [(.agg [l].toArray), (.agg [s].toArray)]) Tryd.func11 nm11 rfl rfl rfl ?_)
 refine Calls.mono (sAtLeast_spec an.pins (ac.mono (Pin.le_trans (Pin.le_trans (Pin.le_trans (Pin.le_trans (Pin.le_trans (Pin.le_trans (Pin.le_trans (Pin.le_trans (Pin.le_trans aa.le o.le) q.le) m) g) d) f.le) k.le) r.le) ad.le)) (ai.mono (Pin.le_trans (Pin.le_trans (Pin.le_trans (Pin.le_trans (Pin.le_trans (Pin.le_trans (Pin.le_trans (Pin.le_trans o.le q.le) m) g) d) f.le) k.le) r.le) ad.le))) ?_
 rintro _ er ⟨es, rfl, bz⟩
 refine ⟨_, rfl, ?_⟩
 have a6 := an.tr bz
 refine qM (.tuple #[(.bool (alB a b)), (.bool (goodB a && goodB b))]) ?_
 refine qD rfl (yY (v := (.bool (alB a b))) rfl rfl) ?_
 refine qD rfl (yY (v := (.bool (goodB a && goodB b))) rfl rfl) ?_
 refine qM (.bool (alB a b)) ?_
 refine qM (.bool (goodB a && goodB b)) ?_
 refine qe (zA (zB (zB (zC ?_))))
 refine qM (.bool (alB a b)) ?_
 refine qM (.bool (alB a b)) ?_
 refine qD rfl (r_neqB_same Tryd.underlying4 rfl rfl) ?_
 refine qM (.bool false) ?_
 refine qN (zU (v := (.bool (goodB a && goodB b))) rfl) ?_
 refine qN (zU (v := (.bool (goodB a && goodB b))) rfl) ?_
 refine qN (r_neqB_same Tryd.underlying4 rfl rfl) ?_
 refine qD rfl (xD (v := (.bool false)) rfl rfl) ?_
 refine qM (.bool false) ?_
 refine qN (zU (v := (.bool (alB a a))) rfl) ?_
 refine qN (qL rfl) ?_
 refine qD rfl (xD (v := (.bool (!(alB a a)))) rfl rfl) ?_
 refine qe (zA ?_)
 refine c_ifn rfl rfl (fun a7 => ?_) (fun a7 => ?_)
 ·skip
  refine wp_skip ?_
  refine zA (zB (zC ?_))
  refine qM v ?_
  refine qI rfl (zK (vs := [v]) Tryd.func12 nm12 rfl rfl rfl ?_)
  refine Calls.mono (drAtLeast_spec a6.pins (hc.mono (Pin.le_trans (Pin.le_trans (Pin.le_trans (Pin.le_trans (Pin.le_trans (Pin.le_trans (Pin.le_trans (Pin.le_trans (Pin.le_trans (Pin.le_trans (Pin.le_trans ah.le aa.le) o.le) q.le) m) g) d) f.le) k.le) r.le) ad.le) bz.le))) ?_
  rintro _ et ⟨x, h, y, i, eu, rfl, ao, ap, c9⟩
  refine ⟨_, rfl, ?_⟩
  have a8 := a6.tr c9
  have ev := ao.max
  have ew := ap.max
  refine qM (.tuple #[(.agg [x].toArray), (.agg [y].toArray)]) ?_
  refine qD rfl (yY (v := (.agg [x].toArray)) rfl rfl) ?_
  refine qD rfl (yY (v := (.agg [y].toArray)) rfl rfl) ?_
  refine qI rfl (yI [(.slice none 0 0)] zr26 rfl a8.pins (fun b0 ex ey b1 da db => ?_))
  have a9 := a8.step da db
  have b2 : w.heap.size ≤ b0 := by have := a8.size; omega
  refine qI rfl (yI [(.slice none 0 0)] zr26 rfl a9.pins (fun b3 ez dc dd de b4 => ?_))
  have b5 := a9.step de b4
  have df := b1.below b4
  have b6 : Apart (some b3) (some b0) := zH (congrArg some dc) b1.lt
  have b7 : w.heap.size ≤ b3 := by have := a9.size; omega
  refine q0 rfl rfl rfl (yN (cs' := [x]) (us := [x]) (v := (.agg [x].toArray)) sz26 rfl rfl rfl (yD ao.one) b5.pins df (Nat.le_of_ble_eq_true rfl) rfl (fun e0 dg dh b8 e1 => ?_))
  have di := b5.write dh b8 ((yA b2))
  have dj := dd.keptA b8 b6
  obtain ⟨e2, aq, b9, ca, dk⟩ := dg.shut di b2
  have dl := dj.moreA dk b6
  refine q0 rfl rfl rfl (yN (cs' := [y]) (us := [y]) (v := (.agg [y].toArray)) sz26 rfl rfl rfl (yD ap.one) b9.pins dl (Nat.le_of_ble_eq_true rfl) rfl (fun e3 dm dn dp e4 => ?_))
  have dq := b9.write dn dp ((yA b7))
  obtain ⟨e5, ae, ar, cb, e6⟩ := dm.shut dq b7
  refine qe (zA (zB (zC ?_)))
  refine qD rfl (zW (cs := [x]) ag26 sz26 rfl (fun j u hj => (Pins.of_le ar.pins ae) _ _ _ (ca _ _ (by simpa using hj)))) ?_
  refine qD rfl (zW (cs := [y]) ag26 sz26 rfl (fun j u hj => ar.pins _ _ _ (cb _ _ (by simpa using hj)))) ?_
  refine qI rfl (zK (vs := [(.agg [x].toArray), (.agg [y].toArray)]) Tryd.func10 nm10 rfl rfl rfl ?_)
  refine Calls.mono (qF ar.pins (ao.mono (Pin.le_trans aq ae)) (ap.mono (Pin.le_trans aq ae))) ?_
  rintro _ e7 ⟨e8, rfl, ag⟩
  refine ⟨_, rfl, ?_⟩
  have au := ar.tr ag
  refine qM (.tuple #[(.bool (alB h i)), (.bool (goodB h && goodB i))]) ?_
  refine qD rfl (yY (v := (.bool (alB h i))) rfl rfl) ?_
  refine qD rfl (yY (v := (.bool (goodB h && goodB i))) rfl rfl) ?_
  refine qM (.bool (alB h i)) ?_
  refine qM (.bool (goodB h && goodB i)) ?_
  refine qe (zA (zB (zC ?_)))
  refine qD rfl (zW (cs := [x]) ag26 sz26 rfl (fun j u hj => (Pins.of_le au.pins (Pin.le_trans ae ag.le)) _ _ _ (ca _ _ (by simpa using hj)))) ?_
  refine qD rfl (zW (cs := [y]) ag26 sz26 rfl (fun j u hj => (Pins.of_le au.pins ag.le) _ _ _ (cb _ _ (by simpa using hj)))) ?_
  refine qI rfl (zK (vs := [(.agg [x].toArray), (.agg [y].toArray)]) Tryd.func11 nm11 rfl rfl rfl ?_)
  refine Calls.mono (sAtLeast_spec au.pins (ao.mono (Pin.le_trans (Pin.le_trans aq ae) ag.le)) (ap.mono (Pin.le_trans (Pin.le_trans aq ae) ag.le))) ?_
  rintro _ e9 ⟨fa, rfl, dr⟩
  refine ⟨_, rfl, ?_⟩
  have ba := au.tr dr
  refine qM (.tuple #[(.bool (alB h i)), (.bool (goodB h && goodB i))]) ?_
  refine qD rfl (yY (v := (.bool (alB h i))) rfl rfl) ?_
  refine qD rfl (yY (v := (.bool (goodB h && goodB i))) rfl rfl) ?_
  refine qM (.bool (alB h i)) ?_
  refine qM (.bool (goodB h && goodB i)) ?_
  refine qe (zA (zB (zC ?_)))
  refine qM (.bool (alB h i)) ?_
  refine qM (.bool (alB h i)) ?_
  refine qD rfl (r_eqlB_same Tryd.underlying4 rfl rfl) ?_
  refine qM (.bool true) ?_
  refine qN (zU (v := (.bool (goodB h && goodB i))) rfl) ?_
  refine qN (zU (v := (.bool (goodB h && goodB i))) rfl) ?_
  refine qN (r_eqlB_same Tryd.underlying4 rfl rfl) ?_
  refine qD rfl (xI (v := (.bool true)) rfl rfl) ?_
  refine qM (.bool true) ?_
  refine qN (zU (v := (.bool (alB a b))) rfl) ?_
  refine qN (qL rfl) ?_
  refine qN (zU (v := (.bool (!(alB a b)))) rfl) ?_
  refine qbn (t := 101) rfl (fun cc => ?_) (fun cc => ?_)
  ·skip
   refine qN (zU (v := (.bool (alB b c))) rfl) ?_
   refine qN (qL rfl) ?_
   refine qN (xD (v := (.bool (!(alB b c)))) rfl rfl) ?_
   refine qN (zU (v := (.bool (!(alB b c)))) rfl) ?_
   refine qbn (t := 105) rfl (fun cd => ?_) (fun cd => ?_)
   ·skip
    refine qN (zU (v := (.bool (alB a c))) rfl) ?_
    refine qN (xD (v := (.bool (alB a c))) rfl rfl) ?_
    refine qD rfl (xI (v := (.bool (alB a c))) rfl rfl) ?_
    refine qM (.bool (alB a c)) ?_
    refine qe (zA ?_)
    refine wp_ret ?_
    refine zS ?_
    refine zP (v := (.bool (alB a c))) rfl rfl rfl ?_
    exact ⟨_, congrArg (fun z => Ending.returned (Value.bool z)) (al_trans bd cf ci cc cd), ba⟩
   refine qW ?_
   refine qN (xI (v := (.bool true)) rfl rfl) ?_
   refine qD rfl (xI (v := (.bool true)) rfl rfl) ?_
   refine qM (.bool true) ?_
   refine qe (zA ?_)
   refine wp_ret ?_
   refine zS ?_
   refine zP (v := (.bool true)) rfl rfl rfl ?_
   exact ⟨_, rfl, ba⟩
  refine qW ?_
  refine qW ?_
  refine qN (xI (v := (.bool true)) rfl rfl) ?_
  refine qN (zU (v := (.bool true)) rfl) ?_
  refine qW ?_
  refine qN (xI (v := (.bool true)) rfl rfl) ?_
  refine qD rfl (xI (v := (.bool true)) rfl rfl) ?_
  refine qM (.bool true) ?_
  refine qe (zA ?_)
  refine wp_ret ?_
  refine zS ?_
  refine zP (v := (.bool true)) rfl rfl rfl ?_
  exact ⟨_, rfl, ba⟩
 refine zB (zC ?_)
 refine qM (.bool false) ?_
 refine qe (zA ?_)
 refine wp_ret ?_
 refine zS ?_
 refine zP (v := (.bool false)) rfl rfl rfl ?_
 exact ⟨_, congrArg (fun z => Ending.returned (Value.bool z)) (by rw [al_self bd] at a7; cases a7), a6⟩

end LWO
end Go.Proofs.YtkfgdhanaijddaaDoor
