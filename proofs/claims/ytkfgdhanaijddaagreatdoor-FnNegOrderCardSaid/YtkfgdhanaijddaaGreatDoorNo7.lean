/- Texts of this claim in one file: DV2, LNO. -/
import Derived.Test.YtkfgdhanaijddaaGreatDoorNo6
import Derived.Test.YtkfgdhanaijddaaGreatDoorChecked
set_option maxRecDepth 20000
set_option maxHeartbeats 2000000
namespace Go.Proofs.YtkfgdhanaijddaaGreatDoor
namespace DV2
open Go.RowKit Go.GL Go.Proofs
open Go.Proofs.YtkfgdhanaijddaaGreatDoor.B1
open Go.Proofs.YtkfgdhanaijddaaGreatDoor.C1
open Go.Proofs.YtkfgdhanaijddaaGreatDoor.D1
open Go.Proofs.YtkfgdhanaijddaaGreatDoor.E1
open Go.Proofs.YtkfgdhanaijddaaGreatDoor.MK1
open Go.Proofs.YtkfgdhanaijddaaGreatDoor.DR1
open Go.Proofs.YtkfgdhanaijddaaGreatDoor.DR2
open Go.Proofs.YtkfgdhanaijddaaGreatDoor.DV1














theorem pl28 : (Tryz.prog.underlying 28).bind (placesD Tryz.prog) = some [(0, 1)] := by kernel_rfl
theorem pl63 : (Tryz.prog.underlying 63).bind (placesD Tryz.prog) = some [(0, 1), (1, 1), (2, 1)] := by kernel_rfl
theorem pl68 : (Tryz.prog.underlying 68).bind (placesD Tryz.prog) = some [(0, 1), (1, 1)] := by kernel_rfl







theorem drFormText_spec {w : World} {G : Pin} {v : Value} {code : List UInt8} (hP : Pins G w) (hc : RSl eByte G v code) :
  Calls Tryz.prog 73 [v].toArray w fun e w' => ∃ (u0 : Value) (bp : List Nd) (G' : Pin), e = .returned (.agg [u0].toArray) ∧ RSl eNode G' u0 bp ∧ Ext noS G w G' w' := by
 refine zW (n := 20) Tryz.func73 Tryz.ntmps73 rfl rfl ?_
 have r : Ext noS G w G w := Ext.refl hP
 have hm := hc.max
 refine zB (zC ?_)
 refine qI rfl (yT [(.slice none 0 0)] zr28 rfl r.pins (fun g w2 du an bq br => ?_))
 have s := r.step bq br
 have ao : w.heap.size ≤ g := by have := r.size; omega
 refine qe (zA (zB (zC ?_)))
 refine qM v ?_
 refine qD rfl (xN [(.slice none 0 0), (vJ 0), (.int .u64 0)] [v, (vJ 0), (.int .u64 0)] [(0, v, [v])] Tryz.underlying63 zr63 rfl pl63 rfl (List.forall_mem_cons.2 ⟨(yY hc.one), (fun _ h => by cases h)⟩) rfl) ?_
 refine qI rfl (qC [v, (vJ 0), (.int .u64 0)] (v := (.agg [v, (vJ 0), (.int .u64 0)].toArray)) rfl rfl s.pins (fun a dv bs bt bu ap => ?_))
 have aq := s.step bu ap
 have bv := an.below ap
 have b : Apart (some a) (some g) := zK (congrArg some bs) an.lt
 have c : w.heap.size ≤ a := by have := s.size; omega
 refine qM (.pointer (some ⟨a, 0, none⟩)) ?_
 refine qe (zA (zB (zB (zC ?_))))
 refine qM (.pointer (some ⟨a, 0, none⟩)) ?_
 refine qI rfl (zL (vs := [(.pointer (some ⟨a, 0, none⟩)), (vJ 8)]) Tryz.func43 nm43 rfl rfl rfl ?_)
 refine Calls.mono (one_spec aq.pins bt hc (by omega) (by omega) (n := 8) (by omega)) ?_
 rintro _ dw ⟨dx, dy, dz, rfl, t, d0, d1, ar⟩
 refine ⟨_, rfl, ?_⟩
 have d := aq.trans ar (fun i hi => (yD c) i hi)
 have x := bv.extS ar (xZ b.symm)
 refine qe (zA ?_)
 refine c_if rfl rfl (fun bw => ?_) (fun bw => ?_)
 ·skip
  refine zB (zC ?_)
  refine qM (.pointer (some ⟨a, 0, none⟩)) ?_
  refine qI rfl (zL (vs := [(.pointer (some ⟨a, 0, none⟩)), (vJ 5)]) Tryz.func42 nm42 rfl rfl rfl ?_)
  refine Calls.mono (dform_spec (n := 5) d.pins t hc (by omega) (by omega) (by omega)) ?_
  rintro _ bx ⟨au, y, d2, d3, bz, rfl, z, av, d4, aw, d5, d6, k⟩
  refine ⟨_, rfl, ?_⟩
  have aa := d.trans k (fun i hi => (yD c) i hi)
  have ax := x.extS k (xZ b.symm)
  have b0 := zU z.lt x.lt
  have ay := zU z.lt t.lt
  have az : Own eNode 68 bz bx w.heap.size au (formG y) := z.weaken d.size
  have d7 := av.1.lo
  refine qM (.pointer (some ⟨a, 0, none⟩)) ?_
  refine qI rfl (zL (vs := [(.pointer (some ⟨a, 0, none⟩)), (vJ 6)]) Tryz.func42 nm42 rfl rfl rfl ?_)
  refine Calls.mono (dform_spec (n := 6) aa.pins aw (hc.mono k.le) (by omega) (by omega) (by omega)) ?_
  rintro _ b2 ⟨a0, ab, d8, d9, b3, rfl, l, a1, ea, b4, eb, ec, m⟩
  refine ⟨_, rfl, ?_⟩
  have b5 := aa.trans m (fun i hi => (yD c) i hi)
  have b6 := az.extS m (notO ay)
  have b7 := ax.extS m (xZ b.symm)
  have b8 := zQ l.lt az.lt
  have ca := zU l.lt ax.lt
  have cb := zU l.lt aw.lt
  have cc : Own eNode 68 b3 b2 w.heap.size a0 (formG ab) := l.weaken aa.size
  have ed := a1.1.lo
  obtain ⟨ee, a2, cd, a3, ac⟩ := b6.sealed b5
  have ce := cc.moreO a2 ac b8
  have cf := b7.moreO ac b0.symm
  have cg := b4.moreO ac ay.symm
  obtain ⟨ch, a4, ad, a5, a6⟩ := ce.sealed cd
  have a7 := cf.moreO a6 ca.symm
  have a8 := cg.moreO a6 cb.symm
  refine qI rfl (o_buildA (E := (eSl eNode)) (e := 28) [au, a0] [formG y, formG ab] Tryz.underlying24 sz28 zr28 (by exact reps2 (⟨_, rfl, (a3.mono a4)⟩) (⟨_, rfl, a5⟩)) (ones2 a3.one a5.one) rfl rfl rfl rfl (by decide) ad.pins (fun f ci cj ck ae a9 => ?_))
  have af := ad.step ck ae
  have ba := a7.below ae
  have cl := a8.below ae
  have cm : Apart f.ownBlock (some g) := zK a9 a7.lt
  have cn : Apart f.ownBlock (some a) := zK a9 a8.lt
  have bb : Own (eSl eNode) 28 ch ci w.heap.size f ([formG y, formG ab]) := cj.weaken ad.size
  refine qM (.pointer (some ⟨a, 0, none⟩)) ?_
  refine qI rfl (zL (vs := [(.pointer (some ⟨a, 0, none⟩)), (vJ 6)]) Tryz.func42 nm42 rfl rfl rfl ?_)
  refine Calls.mono (dform_spec (n := 6) af.pins cl (hc.mono (Pin.le_trans (Pin.le_trans (Pin.le_trans k.le m.le) a2) a4)) (by omega) (by omega) (by omega)) ?_
  rintro _ co ⟨bc, ag, ef, eg, cp, rfl, ah, bd, eh, ei, ej, ek, ai⟩
  refine ⟨_, rfl, ?_⟩
  have cq := af.trans ai (fun i hi => (yD c) i hi)
  have cr := bb.extS ai (notO cn)
  have ct := ba.extS ai (xZ b.symm)
  have cu := zQ ah.lt bb.lt
  have cv := zU ah.lt ba.lt
  have cw : Own eNode 68 cp co w.heap.size bc (formG ag) := ah.weaken af.size
  have el := bd.1.lo
  obtain ⟨cx, cy, aj, cz, be⟩ := cw.sealed cq
  have bf := cr.moreO cy be cu.symm
  have bg := ct.moreO be cv.symm
  refine qI rfl (xI (E := (eSl eNode)) (e := 28) [bc] (formG ag) Tryz.underlying24 sz28 zr28 ⟨_, rfl, cz⟩ rfl (by decide) aj.pins (fun o c0 c1 c2 ak bh => ?_))
  have c3 := aj.step c2 ak
  have c4 := bf.below ak
  have c5 := bg.below ak
  have c6 : Apart o.ownBlock f.ownBlock := zH bh bf.lt
  have c7 : Apart o.ownBlock (some g) := zK bh bg.lt
  have c8 : Own (eSl eNode) 28 cx c0 w.heap.size o ([formG ag]) := c1.weaken aj.size
  obtain ⟨em, c9, da, db, bi⟩ := c4.sealed c3
  have dc := c8.moreO c9 bi c6
  have dd := c5.moreO bi cm.symm
  obtain ⟨en, de, bj, df, dg⟩ := dc.sealed da
  have dh := dd.moreO dg c7.symm
  refine qI rfl (zL (vs := [f, o]) Tryz.func67 nm67 rfl rfl rfl ?_)
  refine Calls.mono (l3Make_spec bj.pins (db.mono de) df (AllW.cons av (by omega) (AllW.cons a1 (by omega) AllW.nil (by simp)) (by simp)) (AllW.cons bd (by omega) AllW.nil (by simp))) ?_
  rintro _ eo ⟨p, ep, rfl, bk, bl⟩
  refine ⟨_, rfl, ?_⟩
  have bm := bj.tr bl
  have di := dh.ext bl
  refine q0 rfl rfl rfl (yV (cs' := [p]) (us := [p]) (v := (.agg [p].toArray)) sz28 rfl rfl rfl (yP bk.one) bm.pins di (Nat.le_of_ble_eq_true rfl) rfl (fun eq dj dk dl er => ?_))
  have dm := bm.write dk dl ((yD ao))
  refine qe (zA ?_)
  refine wp_ret ?_
  refine zS ?_
  refine qL (cs := [p]) rfl rfl rfl ag28 sz28 (fun j u hj => by rw [Nat.zero_add]; exact dj.cell hj) ?_
  exact ⟨_, _, _, rfl, bk, dm⟩
 refine wp_skip ?_
 refine zA (zB (zC ?_))
 refine qM (.pointer (some ⟨a, 0, none⟩)) ?_
 refine qI rfl (zL (vs := [(.pointer (some ⟨a, 0, none⟩)), (vJ 4)]) Tryz.func44 nm44 rfl rfl rfl ?_)
 refine Calls.mono (anyForm_spec (n := 4) d.pins t hc (by omega) (by omega) (by omega)) ?_
 rintro _ es ⟨q, et, eu, ev, ew, rfl, al, ex, ey, ez, bn⟩
 refine ⟨_, rfl, ?_⟩
 have bo := d.trans bn (fun i hi => (yD c) i hi)
 have dn := x.extS bn (xZ b.symm)
 have e0 := al.max
 refine q0 rfl rfl rfl (yV (cs' := [q]) (us := [q]) (v := (.agg [q].toArray)) sz28 rfl rfl rfl (yP al.one) bo.pins dn (Nat.le_of_ble_eq_true rfl) rfl (fun e1 dp dq dr e2 => ?_))
 have ds := bo.write dq dr ((yD ao))
 refine qe (zA ?_)
 refine wp_ret ?_
 refine zS ?_
 refine qL (cs := [q]) rfl rfl rfl ag28 sz28 (fun j u hj => by rw [Nat.zero_add]; exact dp.cell hj) ?_
 exact ⟨_, _, _, rfl, al, ds⟩

theorem vBig_spec {w : World} {G : Pin} {v : Value} {code : List UInt8} (hP : Pins G w) (hc : RSl eByte G v code) :
  Calls Tryz.prog 10 [v].toArray w fun e w' => e = .returned (.bool (decide ((65536 : Int) < (code.length : Int)))) ∧ Ext noS G w G w' := by
 refine zW (n := 6) Tryz.func10 Tryz.ntmps10 rfl rfl ?_
 have hX0 : Ext noS G w G w := Ext.refl hP
 have hm := hc.max
 refine zB (zC ?_)
 refine qM (.bool false) ?_
 refine qe (zA (zB (zC ?_)))
 refine qM v ?_
 refine qD rfl (zP Tryz.underlying22 (v := v) rfl hc) ?_
 refine qD rfl (r_gtr rfl rfl) ?_
 refine qM (.bool (decide ((65536 : Int) < (code.length : Int)))) ?_
 refine qe (zA ?_)
 refine wp_ret ?_
 refine zS ?_
 refine zR (v := (.bool (decide ((65536 : Int) < (code.length : Int))))) rfl rfl rfl ?_
 exact ⟨rfl, hX0⟩

theorem vZero_spec {w : World} {G : Pin} (hP : Pins G w) :
  Calls Tryz.prog 40 [].toArray w fun e w' => ∃ (u : Value) (G' : Pin), e = .returned (.agg [u].toArray) ∧ RSl eNode G' u zF ∧ Ext noS G w G' w' := by
 refine zW (n := 4) Tryz.func40 Tryz.ntmps40 rfl rfl ?_
 have b : Ext noS G w G w := Ext.refl hP
 refine zB (zC ?_)
 refine qI rfl (yT [(.slice none 0 0)] zr28 rfl b.pins (fun f w2 ag g m o => ?_))
 have c := b.step m o
 have p : w.heap.size ≤ f := by have := b.size; omega
 refine qe (zA (zB (zC ?_)))
 refine qD rfl (xN [(.slice none 0 0), (.slice none 0 0)] [(.slice none 0 0), (.slice none 0 0)] [] Tryz.underlying68 zr68 rfl pl68 rfl (fun _ h => by cases h) rfl) ?_
 refine qI rfl (xI (E := eNode) (e := 68) [(.slice none 0 0), (.slice none 0 0)] (⟨[], []⟩ : Nd) Tryz.underlying26 sz68 zr68 ⟨_, _, rfl, (nil_reads _ _), (nil_reads _ _)⟩ rfl (by decide) c.pins (fun a q r s i t => ?_))
 have k := c.step s i
 have x := g.below i
 have y : Apart a.ownBlock (some f) := zK t g.lt
 have d : Own eNode 68 G q w.heap.size a ([(⟨[], []⟩ : Nd)]) := r.weaken c.size
 refine qD rfl (xN [(.slice none 0 0)] [a] [(0, a, [a])] Tryz.underlying28 zr28 rfl pl28 rfl (List.forall_mem_cons.2 ⟨(yY d.one), (fun _ h => by cases h)⟩) rfl) ?_
 refine q0 rfl rfl rfl (yV (cs' := [a]) (us := [a]) (v := (.agg [a].toArray)) sz28 rfl rfl rfl (yP d.one) k.pins x (Nat.le_of_ble_eq_true rfl) rfl (fun ah z aa l ai => ?_))
 have ab := k.write aa l ((yD p))
 have ac := d.keptA l y
 refine qe (zA ?_)
 refine wp_ret ?_
 refine zS ?_
 refine qL (cs := [a]) rfl rfl rfl ag28 sz28 (fun j u hj => by rw [Nat.zero_add]; exact z.cell hj) ?_
 obtain ⟨aj, ak, ad, ae, al⟩ := ac.sealed ab
 exact ⟨_, _, rfl, ae, ad⟩

theorem vCut_spec {w : World} {G : Pin} {v : Value} {code : List UInt8} {n : Int} (hP : Pins G w) (hc : RSl eByte G v code) (hn : 0 ≤ n ∧ n ≤ 100) (hcl : code.length ≤ 65536) :
  Calls Tryz.prog 88 [v, (vJ n)].toArray w fun e w' => ∃ (u : Value) (ys : List UInt8) (G' : Pin), e = .returned u ∧ RSl eByte G' u ys ∧ Ext noS G w G' w' := by
 refine zW (n := 20) Tryz.func88 Tryz.ntmps88 rfl rfl ?_
 have a : Ext noS G w G w := Ext.refl hP
 have hm := hc.max
 refine zB (zC ?_)
 refine qM (.slice none 0 0) ?_
 refine qe (zA (zB (zB (zC ?_))))
 refine qM (vJ n) ?_
 refine qM v ?_
 refine qD rfl (zP Tryz.underlying22 (v := v) rfl hc) ?_
 refine qD rfl (r_gtr rfl rfl) ?_
 refine qe (zA ?_)
 refine yE (p := ((code.length : Int) : Int) < n) rfl rfl (fun h1 => ?_) (fun h1 => ?_)
 ·skip
  refine zC ?_
  refine qM v ?_
  refine qD rfl (zP Tryz.underlying22 (v := v) rfl hc) ?_
  refine qM (vJ (code.length : Int)) ?_
  refine qe (zA (zB (zC ?_)))
  have hdl : ((code.take code.length).drop code.length).length ≤ code.length := by simp
  refine qI rfl (xC (E := eByte) (e := 5) Tryz.underlying22 sz5 a.pins (fun i w3 ad ae af bk => ?_))
  have b := a.step ae af
  have k : Own eByte 5 G w3 w.heap.size i ([]) := ad.weaken a.size
  refine qM v ?_
  refine qM (vJ (code.length : Int)) ?_
  obtain ⟨ag, ah, ai⟩ := xW hc (lo := (some ((code.length : Int)))) (hi := none) (code.length) (code.length) (Or.inr ⟨_, rfl, (by omega), rfl⟩) (Or.inl ⟨rfl, rfl⟩) (by omega) (by omega)
  refine qD rfl (ai Tryz.underlying22 sz5 rfl rfl rfl) ?_
  refine qI rfl (o_append (E := eByte) (v := i) (u := ag) 1 Tryz.underlying22 ap5 (by decide) rfl rfl b.pins k ((ah.mono (Pin.le_refl _)).src b.pins (by decide)) (by first | omega | (rw [List.nil_append]; omega) | (rw [List.length_nil]; omega) | (rw [List.length_append]; omega) | (simp; done) | (simp; omega) | (simp only [List.length_cons, List.length_nil]; omega) | (simp only [List.length_append, List.length_cons, List.length_nil]; omega)) (by first | omega | (rw [List.nil_append]; omega) | (rw [List.length_nil]; omega) | (rw [List.length_append]; omega) | (simp; done) | (simp; omega) | (simp only [List.length_cons, List.length_nil]; omega) | (simp only [List.length_append, List.length_cons, List.length_nil]; omega)) (b.size) (fun aj bl ak al am bm => ?_))
  have d := b.write al am ((zZ k))
  have bn : (([]) ++ ((code.take code.length).drop code.length)).length = ([]).length + ((code.take code.length).drop code.length).length := List.length_append
  refine qM (vJ (code.length : Int)) ?_
  refine qD rfl (r_conv (j := (code.length : Int)) Tryz.underlying3 Tryz.underlying5 rfl (wrapB (by omega))) ?_
  refine qI rfl (yU (E := eByte) (e := 5) [(.int .u8 (code.length : Int))] [(UInt8.ofNat ((code.length : Int)).toNat)] Tryz.underlying22 sz5 zr5 (by exact xR (congrArg (fun z => [Value.int .u8 z]) (u8_of (by omega)))) (yP (by rfl)) rfl rfl rfl rfl (by decide) d.pins (fun l an ao ap m bo => ?_))
  have f := d.step ap m
  have o := ak.below m
  have aq : Own eByte 5 G an w.heap.size l ([(UInt8.ofNat ((code.length : Int)).toNat)]) := ao.weaken d.size
  refine qI rfl (o_append (E := eByte) (v := aj) (u := l) 1 Tryz.underlying22 ap5 (by decide) rfl rfl f.pins o aq.src (by first | omega | (rw [List.nil_append]; omega) | (rw [List.length_nil]; omega) | (rw [List.length_append]; omega) | (simp; done) | (simp; omega) | (simp only [List.length_cons, List.length_nil]; omega) | (simp only [List.length_append, List.length_cons, List.length_nil]; omega)) (by first | omega | (rw [List.nil_append]; omega) | (rw [List.length_nil]; omega) | (rw [List.length_append]; omega) | (simp; done) | (simp; omega) | (simp only [List.length_cons, List.length_nil]; omega) | (simp only [List.length_append, List.length_cons, List.length_nil]; omega)) (f.size) (fun q bp ar au av bq => ?_))
  have aw := f.write au av ((zZ o))
  have br : ((([]) ++ ((code.take code.length).drop code.length)) ++ ([(UInt8.ofNat ((code.length : Int)).toNat)])).length = (([]) ++ ((code.take code.length).drop code.length)).length + 1 := List.length_append
  refine qM q ?_
  refine qe (zA ?_)
  refine wp_ret ?_
  refine zS ?_
  refine zR (v := q) rfl rfl rfl ?_
  obtain ⟨bs, bt, ax, ay, bu⟩ := ar.sealed aw
  exact ⟨_, _, _, rfl, ay, ax⟩
 refine wp_skip ?_
 refine zA (zB (zC ?_))
 have hdl : ((code.take code.length).drop (n).toNat).length ≤ code.length := by simp
 refine qI rfl (xC (E := eByte) (e := 5) Tryz.underlying22 sz5 a.pins (fun r az a0 a1 a2 bv => ?_))
 have c := a.step a1 a2
 have s : Own eByte 5 G az w.heap.size r ([]) := a0.weaken a.size
 refine qM v ?_
 refine qM (vJ n) ?_
 obtain ⟨a3, a4, a5⟩ := xW hc (lo := (some (n))) (hi := none) ((n).toNat) (code.length) (Or.inr ⟨_, rfl, (by omega), rfl⟩) (Or.inl ⟨rfl, rfl⟩) (by omega) (by omega)
 refine qD rfl (a5 Tryz.underlying22 sz5 rfl rfl rfl) ?_
 refine qI rfl (o_append (E := eByte) (v := r) (u := a3) 1 Tryz.underlying22 ap5 (by decide) rfl rfl c.pins s ((a4.mono (Pin.le_refl _)).src c.pins (by decide)) (by first | omega | (rw [List.nil_append]; omega) | (rw [List.length_nil]; omega) | (rw [List.length_append]; omega) | (simp; done) | (simp; omega) | (simp only [List.length_cons, List.length_nil]; omega) | (simp only [List.length_append, List.length_cons, List.length_nil]; omega)) (by first | omega | (rw [List.nil_append]; omega) | (rw [List.length_nil]; omega) | (rw [List.length_append]; omega) | (simp; done) | (simp; omega) | (simp only [List.length_cons, List.length_nil]; omega) | (simp only [List.length_append, List.length_cons, List.length_nil]; omega)) (c.size) (fun a6 bw a7 a8 a9 bx => ?_))
 have g := c.write a8 a9 ((zZ s))
 have bz : (([]) ++ ((code.take code.length).drop (n).toNat)).length = ([]).length + ((code.take code.length).drop (n).toNat).length := List.length_append
 refine qM (vJ n) ?_
 refine qD rfl (r_conv (j := n) Tryz.underlying3 Tryz.underlying5 rfl (wrapB (by omega))) ?_
 refine qI rfl (yU (E := eByte) (e := 5) [(.int .u8 n)] [(UInt8.ofNat (n).toNat)] Tryz.underlying22 sz5 zr5 (by exact xR (congrArg (fun z => [Value.int .u8 z]) (u8_of (by omega)))) (yP (by rfl)) rfl rfl rfl rfl (by decide) g.pins (fun t ba bb bc x b0 => ?_))
 have h := g.step bc x
 have y := a7.below x
 have bd : Own eByte 5 G ba w.heap.size t ([(UInt8.ofNat (n).toNat)]) := bb.weaken g.size
 refine qI rfl (o_append (E := eByte) (v := a6) (u := t) 1 Tryz.underlying22 ap5 (by decide) rfl rfl h.pins y bd.src (by first | omega | (rw [List.nil_append]; omega) | (rw [List.length_nil]; omega) | (rw [List.length_append]; omega) | (simp; done) | (simp; omega) | (simp only [List.length_cons, List.length_nil]; omega) | (simp only [List.length_append, List.length_cons, List.length_nil]; omega)) (by first | omega | (rw [List.nil_append]; omega) | (rw [List.length_nil]; omega) | (rw [List.length_append]; omega) | (simp; done) | (simp; omega) | (simp only [List.length_cons, List.length_nil]; omega) | (simp only [List.length_append, List.length_cons, List.length_nil]; omega)) (h.size) (fun aa b1 be bf bg b2 => ?_))
 have bh := h.write bf bg ((zZ y))
 have b3 : ((([]) ++ ((code.take code.length).drop (n).toNat)) ++ ([(UInt8.ofNat (n).toNat)])).length = (([]) ++ ((code.take code.length).drop (n).toNat)).length + 1 := List.length_append
 refine qM aa ?_
 refine qe (zA ?_)
 refine wp_ret ?_
 refine zS ?_
 refine zR (v := aa) rfl rfl rfl ?_
 obtain ⟨b4, b5, bi, bj, b6⟩ := be.sealed bh
 exact ⟨_, _, _, rfl, bj, bi⟩

theorem GoodForm_spec {w : World} {G : Pin} {v : Value} {ns : List Nd} (hP : Pins G w) (hv : RSl eNode G v ns) :
  Calls Tryz.prog 74 [(.agg [v].toArray)].toArray w fun e w' => ∃ G', e = .returned (.bool (goodB ns)) ∧ Ext noS G w G' w' := by
 refine zW (n := 5) Tryz.func74 Tryz.ntmps74 rfl rfl ?_
 have a : Ext noS G w G w := Ext.refl hP
 refine zB (zC ?_)
 refine qI rfl (qC [v] (v := (.agg [v].toArray)) rfl rfl a.pins (fun c p q d f g => ?_))
 have h := a.step f g
 have i : w.heap.size ≤ c := by have := a.size; omega
 obtain ⟨r, k, b, l, s⟩ := d.shut h i
 refine qM (.bool false) ?_
 refine qe (zA (zB (zC ?_)))
 refine qD rfl (yG (cs := [v]) ag28 sz28 rfl (fun j u hj => b.pins _ _ _ (l _ _ (by simpa using hj)))) ?_
 refine qI rfl (zL (vs := [(.agg [v].toArray)]) Tryz.func59 nm59 rfl rfl rfl ?_)
 refine Calls.mono (l3Good_spec b.pins (hv.mono k)) ?_
 rintro _ t ⟨x, rfl, m⟩
 refine ⟨_, rfl, ?_⟩
 have o := b.tr m
 refine qM (.bool (decP (GoodS ns))) ?_
 refine qe (zA ?_)
 refine wp_ret ?_
 refine zS ?_
 refine zR (v := (.bool (decP (GoodS ns)))) rfl rfl rfl ?_
 exact ⟨_, congrArg (fun z => Ending.returned (Value.bool z)) (good_eq ns), o⟩

theorem vForm_spec {w : World} {G : Pin} {v : Value} {code : List UInt8} (hP : Pins G w) (hc : RSl eByte G v code) :
  Calls Tryz.prog 24 [v].toArray w fun e w' => ∃ (u : Value) (ns : List Nd) (G' : Pin), e = .returned (.agg [u].toArray) ∧ RSl eNode G' u ns ∧ GoodP ns ∧ ns.length ≤ 30 ∧ Ext noS G w G' w' := by
 refine zW (n := 17) Tryz.func24 Tryz.ntmps24 rfl rfl ?_
 have h : Ext noS G w G w := Ext.refl hP
 have hm := hc.max
 refine zB (zC ?_)
 refine qI rfl (yT [(.slice none 0 0)] zr28 rfl h.pins (fun s w2 bj ao ap aq => ?_))
 have x := h.step ap aq
 have i : w.heap.size ≤ s := by have := h.size; omega
 refine qe (zA (zB (zC ?_)))
 refine qM v ?_
 refine qI rfl (zL (vs := [v]) Tryz.func73 nm73 rfl rfl rfl ?_)
 refine Calls.mono (drFormText_spec x.pins hc) ?_
 rintro _ bk ⟨a, l, G9, rfl, c, y⟩
 refine ⟨_, rfl, ?_⟩
 have m := x.tr y
 have z := ao.ext y
 have bm := c.max
 refine qI rfl (yT [(.slice none 0 0)] zr28 rfl m.pins (fun aa bn ar au av ab => ?_))
 have ac := m.step av ab
 have aw := z.below ab
 have ad : Apart (some aa) (some s) := zK (congrArg some ar) z.lt
 have ae : w.heap.size ≤ aa := by have := m.size; omega
 refine q0 rfl rfl rfl (yV (cs' := [a]) (us := [a]) (v := (.agg [a].toArray)) sz28 rfl rfl rfl (yP c.one) ac.pins au (Nat.le_of_ble_eq_true rfl) rfl (fun bo ax ay af bp => ?_))
 have az := ac.write ay af ((yD ae))
 have a0 := aw.keptA af ad.symm
 obtain ⟨bq, ag, o, q, a1⟩ := ax.shut az ae
 have a2 := a0.moreA a1 ad.symm
 refine qe (zA (zB (zB (zC ?_))))
 refine qD rfl (yG (cs := [a]) ag28 sz28 rfl (fun j u hj => o.pins _ _ _ (q _ _ (by simpa using hj)))) ?_
 refine qI rfl (zL (vs := [(.agg [a].toArray)]) Tryz.func74 nm74 rfl rfl rfl ?_)
 refine Calls.mono (GoodForm_spec o.pins (c.mono ag)) ?_
 rintro _ br ⟨bs, rfl, d⟩
 refine ⟨_, rfl, ?_⟩
 have b := o.tr d
 have r := a2.ext d
 refine qD rfl (qS rfl) ?_
 refine qM (.bool (!(goodB l))) ?_
 refine qbn (t := 9) rfl (fun ah => ?_) (fun ah => ?_)
 ·skip
  refine qN (zN (k := 0) rfl Tryz.underlying28 rfl nz26 rfl) ?_
  refine qN (zO (u := a) ag26 rfl ((Pins.of_le b.pins d.le) _ _ _ (q 0 _ rfl))) ?_
  refine qN (zP Tryz.underlying26 (v := a) rfl c) ?_
  refine qN (r_gtr rfl rfl) ?_
  refine qD rfl (yZ (v := (.bool (decide ((30 : Int) < (l.length : Int))))) rfl rfl) ?_
  refine qe (zA ?_)
  refine yE (p := (30 : Int) < (l.length : Int)) rfl rfl (fun a3 => ?_) (fun a3 => ?_)
  ·skip
   refine zB (zC ?_)
   refine qI rfl (zL (vs := []) Tryz.func40 nm40 rfl rfl rfl ?_)
   refine Calls.mono (vZero_spec b.pins ) ?_
   rintro _ bt ⟨f, bu, rfl, ai, aj⟩
   refine ⟨_, rfl, ?_⟩
   have ak := b.tr aj
   have a4 := r.ext aj
   refine q0 rfl rfl rfl (yV (cs' := [f]) (us := [f]) (v := (.agg [f].toArray)) sz28 rfl rfl rfl (yP ai.one) ak.pins a4 (Nat.le_of_ble_eq_true rfl) rfl (fun bv a5 a6 a7 bw => ?_))
   have a8 := ak.write a6 a7 ((yD i))
   refine qe (zA ?_)
   refine wp_ret ?_
   refine zS ?_
   refine qL (cs := [f]) rfl rfl rfl ag28 sz28 (fun j u hj => by rw [Nat.zero_add]; exact a5.cell hj) ?_
   exact ⟨_, _, _, rfl, ai, goodP_zF, (by decide), a8⟩
  refine wp_skip ?_
  refine zA (zB (zC ?_))
  refine qD rfl (yG (cs := [a]) ag28 sz28 rfl (fun j u hj => (Pins.of_le b.pins d.le) _ _ _ (q _ _ (by simpa using hj)))) ?_
  refine q0 rfl rfl rfl (yV (cs' := [a]) (us := [a]) (v := (.agg [a].toArray)) sz28 rfl rfl rfl (yP c.one) b.pins r (Nat.le_of_ble_eq_true rfl) rfl (fun bx a9 ba bb bz => ?_))
  have bc := b.write ba bb ((yD i))
  refine qe (zA ?_)
  refine wp_ret ?_
  refine zS ?_
  refine qL (cs := [a]) rfl rfl rfl ag28 sz28 (fun j u hj => by rw [Nat.zero_add]; exact a9.cell hj) ?_
  exact ⟨_, _, _, rfl, (c.mono (Pin.le_trans ag d.le)), (goodB_true.1 ah), (by omega), bc⟩
 refine qW ?_
 refine qW ?_
 refine qW ?_
 refine qW ?_
 refine qD rfl (xL (v := (.bool true)) rfl rfl) ?_
 refine qe (zA ?_)
 refine c_ifT rfl rfl ?_
 refine zB (zC ?_)
 refine qI rfl (zL (vs := []) Tryz.func40 nm40 rfl rfl rfl ?_)
 refine Calls.mono (vZero_spec b.pins ) ?_
 rintro _ b0 ⟨g, b2, rfl, al, am⟩
 refine ⟨_, rfl, ?_⟩
 have an := b.tr am
 have bd := r.ext am
 refine q0 rfl rfl rfl (yV (cs' := [g]) (us := [g]) (v := (.agg [g].toArray)) sz28 rfl rfl rfl (yP al.one) an.pins bd (Nat.le_of_ble_eq_true rfl) rfl (fun b3 be bf bg b4 => ?_))
 have bh := an.write bf bg ((yD i))
 refine qe (zA ?_)
 refine wp_ret ?_
 refine zS ?_
 refine qL (cs := [g]) rfl rfl rfl ag28 sz28 (fun j u hj => by rw [Nat.zero_add]; exact be.cell hj) ?_
 exact ⟨_, _, _, rfl, al, goodP_zF, (by decide), bh⟩

theorem vTwo_spec {w : World} {G : Pin} {v : Value} {code : List UInt8} (hP : Pins G w) (hc : RSl eByte G v code) (hcl : code.length ≤ 65536) :
  Calls Tryz.prog 34 [v].toArray w fun e w' => ∃ (u : Value) (ns : List Nd) (G' : Pin), e = .returned (.agg [u].toArray) ∧ RSl eNode G' u ns ∧ GoodP ns ∧ ns.length ≤ 30 ∧ Ext noS G w G' w' := by
 refine zW (n := 6) Tryz.func34 Tryz.ntmps34 rfl rfl ?_
 have b : Ext noS G w G w := Ext.refl hP
 have hm := hc.max
 refine zB (zC ?_)
 refine qI rfl (yT [(.slice none 0 0)] zr28 rfl b.pins (fun k w2 ae l m o => ?_))
 have c := b.step m o
 have p : w.heap.size ≤ k := by have := b.size; omega
 refine qe (zA (zB (zC ?_)))
 refine qM v ?_
 refine qI rfl (zL (vs := [v, (.int .i64 2)]) Tryz.func88 nm88 rfl rfl rfl ?_)
 refine Calls.mono (vCut_spec c.pins hc (n := 2) (by omega) (by omega)) ?_
 rintro _ af ⟨q, ag, ah, rfl, r, d⟩
 refine ⟨_, rfl, ?_⟩
 have f := c.tr d
 have s := l.ext d
 refine qI rfl (zL (vs := [q]) Tryz.func24 nm24 rfl rfl rfl ?_)
 refine Calls.mono (vForm_spec f.pins r) ?_
 rintro _ ai ⟨a, aj, ak, rfl, g, t, x, h⟩
 refine ⟨_, rfl, ?_⟩
 have i := f.tr h
 have y := s.ext h
 refine q0 rfl rfl rfl (yV (cs' := [a]) (us := [a]) (v := (.agg [a].toArray)) sz28 rfl rfl rfl (yP g.one) i.pins y (Nat.le_of_ble_eq_true rfl) rfl (fun al z aa ab am => ?_))
 have ac := i.write aa ab ((yD p))
 refine qe (zA ?_)
 refine wp_ret ?_
 refine zS ?_
 refine qL (cs := [a]) rfl rfl rfl ag28 sz28 (fun j u hj => by rw [Nat.zero_add]; exact z.cell hj) ?_
 exact ⟨_, _, _, rfl, g, t, x, ac⟩

end DV2
end Go.Proofs.YtkfgdhanaijddaaGreatDoor

set_option maxRecDepth 20000
set_option maxHeartbeats 2000000
namespace Go.Proofs.YtkfgdhanaijddaaGreatDoor
namespace LNO
open Go.RowKit Go.GL Go.Proofs
open Go.Proofs.YtkfgdhanaijddaaGreatDoor.B1
open Go.Proofs.YtkfgdhanaijddaaGreatDoor.C1
open Go.Proofs.YtkfgdhanaijddaaGreatDoor.D1
open Go.Proofs.YtkfgdhanaijddaaGreatDoor.E1
open Go.Proofs.YtkfgdhanaijddaaGreatDoor.K1
open Go.Proofs.YtkfgdhanaijddaaGreatDoor.PO1
open Go.Proofs.YtkfgdhanaijddaaGreatDoor.PL1
open Go.Proofs.YtkfgdhanaijddaaGreatDoor.PA1
open Go.Proofs.YtkfgdhanaijddaaGreatDoor.SO1
open Go.Proofs.YtkfgdhanaijddaaGreatDoor.OD1
open Go.Proofs.YtkfgdhanaijddaaGreatDoor.FO1
open Go.Proofs.YtkfgdhanaijddaaGreatDoor.NG1
open Go.Proofs.YtkfgdhanaijddaaGreatDoor.NF1
open Go.Proofs.YtkfgdhanaijddaaGreatDoor.PF1
open Go.Proofs.YtkfgdhanaijddaaGreatDoor.SF1
open Go.Proofs.YtkfgdhanaijddaaGreatDoor.MK1
open Go.Proofs.YtkfgdhanaijddaaGreatDoor.DR1
open Go.Proofs.YtkfgdhanaijddaaGreatDoor.DR2
open Go.Proofs.YtkfgdhanaijddaaGreatDoor.DV1
open Go.Proofs.YtkfgdhanaijddaaGreatDoor.DV2









theorem iNegForm_spec {w : World} {G : Pin} {v : Value} {fs : List Nd} (hP : Pins G w) (hv : RSl eNode G v fs) :
  Calls Tryz.prog 35 [(.agg [v].toArray)].toArray w fun e w' => ∃ (u : Value) (G' : Pin), e = .returned (.tuple #[(.agg [u].toArray), .bool (goodB fs)]) ∧ RSl eNode G' u (ngF fs) ∧ Ext noS G w G' w' := by
 refine (iNegForm_dspec hP hv).mono ?_
 rintro e w' ⟨u, G', rfl, hd, hx⟩
 obtain ⟨G2, hr, hx2⟩ := d_prom hd hx
 exact ⟨u, G2, rfl, hr, hx2⟩

theorem law {w : World} {G : Pin} {v : Value} {code : List UInt8} (hP : Pins G w) (hc : RSl eByte G v code) :
  Calls Tryz.prog 8 [v].toArray w fun e w' => ∃ G', e = .returned (.bool true) ∧ Ext noS G w G' w' := by
 refine zW (n := 66) Tryz.func8 Tryz.ntmps8 rfl rfl ?_
 have a1 : Ext noS G w G w := Ext.refl hP
 have hm := hc.max
 refine zB (zC ?_)
 refine qM (.bool false) ?_
 refine qe (zA (zB (zB (zC ?_))))
 refine qM v ?_
 refine qI rfl (zL (vs := [v]) Tryz.func10 nm10 rfl rfl rfl ?_)
 refine Calls.mono (vBig_spec a1.pins hc) ?_
 rintro _ w1 ⟨rfl, a2⟩
 refine ⟨_, rfl, ?_⟩
 have ap := a1.step a2.pins a2.below
 refine qe (zA ?_)
 refine yE (p := ((65536 : Int) < (code.length : Int))) rfl rfl (fun h4 => ?_) (fun h4 => ?_)
 ·skip
  refine zB (zC ?_)
  refine qM (.bool true) ?_
  refine qe (zA ?_)
  refine wp_ret ?_
  refine zS ?_
  refine zR (v := (.bool true)) rfl rfl rfl ?_
  exact ⟨_, rfl, ap⟩
 refine wp_skip ?_
 refine zA (zB (zC ?_))
 refine qM v ?_
 refine qI rfl (zL (vs := [v]) Tryz.func24 nm24 rfl rfl rfl ?_)
 refine Calls.mono (vForm_spec ap.pins hc) ?_
 rintro _ w8 ⟨o, b, G7, rfl, ai, l, cp, a3⟩
 refine ⟨_, rfl, ?_⟩
 have a4 := ap.tr a3
 refine qM v ?_
 refine qI rfl (zL (vs := [v]) Tryz.func34 nm34 rfl rfl rfl ?_)
 refine Calls.mono (vTwo_spec a4.pins (hc.mono a3.le) (by omega)) ?_
 rintro _ cq ⟨q, a, cr, rfl, aj, m, ct, ak⟩
 refine ⟨_, rfl, ?_⟩
 have aq := a4.tr ak
 refine qI rfl (yT [(.slice none 0 0)] zr28 rfl aq.pins (fun a5 cu cv a6 bm bn => ?_))
 have ar := aq.step bm bn
 have a7 : w.heap.size ≤ a5 := by have := aq.size; omega
 refine qI rfl (yT [(.slice none 0 0)] zr28 rfl ar.pins (fun a8 cw bo bp bq a9 => ?_))
 have ba := ar.step bq a9
 have br := a6.below a9
 have bb : Apart (some a8) (some a5) := zK (congrArg some bo) a6.lt
 have bc : w.heap.size ≤ a8 := by have := ar.size; omega
 refine q0 rfl rfl rfl (yV (cs' := [o]) (us := [o]) (v := (.agg [o].toArray)) sz28 rfl rfl rfl (yP ai.one) ba.pins br (Nat.le_of_ble_eq_true rfl) rfl (fun cx bs bt bd cy => ?_))
 have bu := ba.write bt bd ((yD a7))
 have bv := bp.keptA bd bb
 obtain ⟨cz, ad, be, au, bw⟩ := bs.shut bu a7
 have bx := bv.moreA bw bb
 refine q0 rfl rfl rfl (yV (cs' := [q]) (us := [q]) (v := (.agg [q].toArray)) sz28 rfl rfl rfl (yP aj.one) be.pins bx (Nat.le_of_ble_eq_true rfl) rfl (fun c0 bz b0 b1 c1 => ?_))
 have b2 := be.write b0 b1 ((yD bc))
 obtain ⟨c2, r, av, aw, c3⟩ := bz.shut b2 bc
 refine qe (zA (zB (zC ?_)))
 refine qD rfl (yG (cs := [o]) ag28 sz28 rfl (fun j u hj => (Pins.of_le av.pins r) _ _ _ (au _ _ (by simpa using hj)))) ?_
 refine qI rfl (zL (vs := [(.agg [o].toArray)]) Tryz.func35 nm35 rfl rfl rfl ?_)
 refine Calls.mono (iNegForm_spec av.pins (ai.mono (Pin.le_trans (Pin.le_trans ak.le ad) r))) ?_
 rintro _ c4 ⟨ab, c5, rfl, bf, g⟩
 refine ⟨_, rfl, ?_⟩
 have ax := av.tr g
 refine qM (.tuple #[(.agg [ab].toArray), (.bool (goodB b))]) ?_
 refine qD rfl (xF (v := (.agg [ab].toArray)) rfl rfl) ?_
 refine qD rfl (xF (v := (.bool (goodB b))) rfl rfl) ?_
 refine qI rfl (yT [(.slice none 0 0)] zr28 rfl ax.pins (fun b3 c6 c7 b4 b5 b6 => ?_))
 have bg := ax.step b5 b6
 have bh : w.heap.size ≤ b3 := by have := ax.size; omega
 refine q0 rfl rfl rfl (yV (cs' := [ab]) (us := [ab]) (v := (.agg [ab].toArray)) sz28 rfl rfl rfl (yP bf.one) bg.pins b4 (Nat.le_of_ble_eq_true rfl) rfl (fun c8 b7 b8 b9 c9 => ?_))
 have ca := bg.write b8 b9 ((yD bh))
 obtain ⟨da, h, ay, cb, db⟩ := b7.shut ca bh
 refine qM (.bool (goodB b)) ?_
 refine qe (zA (zB (zC ?_)))
 refine qD rfl (yG (cs := [q]) ag28 sz28 rfl (fun j u hj => (Pins.of_le ay.pins (Pin.le_trans g.le h)) _ _ _ (aw _ _ (by simpa using hj)))) ?_
 refine qI rfl (zL (vs := [(.agg [q].toArray)]) Tryz.func35 nm35 rfl rfl rfl ?_)
 refine Calls.mono (iNegForm_spec ay.pins (aj.mono (Pin.le_trans (Pin.le_trans (Pin.le_trans ad r) g.le) h))) ?_
 rintro _ dc ⟨ac, dd, rfl, bi, i⟩
 refine ⟨_, rfl, ?_⟩
 have az := ay.tr i
 refine qM (.tuple #[(.agg [ac].toArray), (.bool (goodB a))]) ?_
 refine qD rfl (xF (v := (.agg [ac].toArray)) rfl rfl) ?_
 refine qD rfl (xF (v := (.bool (goodB a))) rfl rfl) ?_
 refine qI rfl (yT [(.slice none 0 0)] zr28 rfl az.pins (fun cc de df cd ce cf => ?_))
 have bj := az.step ce cf
 have bk : w.heap.size ≤ cc := by have := az.size; omega
 refine q0 rfl rfl rfl (yV (cs' := [ac]) (us := [ac]) (v := (.agg [ac].toArray)) sz28 rfl rfl rfl (yP bi.one) bj.pins cd (Nat.le_of_ble_eq_true rfl) rfl (fun dg cg ch ci dh => ?_))
 have cj := bj.write ch ci ((yD bk))
 obtain ⟨di, k, al, ck, dj⟩ := cg.shut cj bk
 refine qM (.bool (goodB a)) ?_
 refine qe (zA (zB (zC ?_)))
 refine qD rfl (yG (cs := [o]) ag28 sz28 rfl (fun j u hj => (Pins.of_le al.pins (Pin.le_trans (Pin.le_trans (Pin.le_trans (Pin.le_trans r g.le) h) i.le) k)) _ _ _ (au _ _ (by simpa using hj)))) ?_
 refine qD rfl (yG (cs := [q]) ag28 sz28 rfl (fun j u hj => (Pins.of_le al.pins (Pin.le_trans (Pin.le_trans (Pin.le_trans g.le h) i.le) k)) _ _ _ (aw _ _ (by simpa using hj)))) ?_
 refine qI rfl (zL (vs := [(.agg [o].toArray), (.agg [q].toArray)]) Tryz.func19 nm19 rfl rfl rfl ?_)
 refine Calls.mono (iAtLeast_spec al.pins (ai.mono (Pin.le_trans (Pin.le_trans (Pin.le_trans (Pin.le_trans (Pin.le_trans (Pin.le_trans ak.le ad) r) g.le) h) i.le) k)) (aj.mono (Pin.le_trans (Pin.le_trans (Pin.le_trans (Pin.le_trans (Pin.le_trans ad r) g.le) h) i.le) k))) ?_
 rintro _ dk ⟨dl, rfl, s⟩
 refine ⟨_, rfl, ?_⟩
 have am := al.tr s
 refine qM (.tuple #[(.bool (alB b a)), (.bool (goodB b && goodB a))]) ?_
 refine qD rfl (xF (v := (.bool (alB b a))) rfl rfl) ?_
 refine qD rfl (xF (v := (.bool (goodB b && goodB a))) rfl rfl) ?_
 refine qM (.bool (alB b a)) ?_
 refine qM (.bool (goodB b && goodB a)) ?_
 refine qe (zA (zB (zC ?_)))
 refine qD rfl (yG (cs := [ac]) ag28 sz28 rfl (fun j u hj => (Pins.of_le am.pins s.le) _ _ _ (ck _ _ (by simpa using hj)))) ?_
 refine qD rfl (yG (cs := [ab]) ag28 sz28 rfl (fun j u hj => (Pins.of_le am.pins (Pin.le_trans (Pin.le_trans i.le k) s.le)) _ _ _ (cb _ _ (by simpa using hj)))) ?_
 refine qI rfl (zL (vs := [(.agg [ac].toArray), (.agg [ab].toArray)]) Tryz.func19 nm19 rfl rfl rfl ?_)
 refine Calls.mono (iAtLeast_spec am.pins (bi.mono (Pin.le_trans k s.le)) (bf.mono (Pin.le_trans (Pin.le_trans (Pin.le_trans h i.le) k) s.le))) ?_
 rintro _ dm ⟨dn, rfl, af⟩
 refine ⟨_, rfl, ?_⟩
 have an := am.tr af
 refine qM (.tuple #[(.bool (alB (ngF a) (ngF b))), (.bool (goodB (ngF a) && goodB (ngF b)))]) ?_
 refine qD rfl (xF (v := (.bool (alB (ngF a) (ngF b)))) rfl rfl) ?_
 refine qD rfl (xF (v := (.bool (goodB (ngF a) && goodB (ngF b)))) rfl rfl) ?_
 refine qM (.bool (alB (ngF a) (ngF b))) ?_
 refine qM (.bool (goodB (ngF a) && goodB (ngF b))) ?_
 refine qe (zA (zB (zC ?_)))
 refine qD rfl (yG (cs := [o]) ag28 sz28 rfl (fun j u hj => (Pins.of_le an.pins (Pin.le_trans (Pin.le_trans (Pin.le_trans (Pin.le_trans (Pin.le_trans (Pin.le_trans r g.le) h) i.le) k) s.le) af.le)) _ _ _ (au _ _ (by simpa using hj)))) ?_
 refine qD rfl (yG (cs := [q]) ag28 sz28 rfl (fun j u hj => (Pins.of_le an.pins (Pin.le_trans (Pin.le_trans (Pin.le_trans (Pin.le_trans (Pin.le_trans g.le h) i.le) k) s.le) af.le)) _ _ _ (aw _ _ (by simpa using hj)))) ?_
 refine qI rfl (zL (vs := [(.agg [o].toArray), (.agg [q].toArray)]) Tryz.func36 nm36 rfl rfl rfl ?_)
 refine Calls.mono (sAtLeast_spec an.pins (ai.mono (Pin.le_trans (Pin.le_trans (Pin.le_trans (Pin.le_trans (Pin.le_trans (Pin.le_trans (Pin.le_trans (Pin.le_trans ak.le ad) r) g.le) h) i.le) k) s.le) af.le)) (aj.mono (Pin.le_trans (Pin.le_trans (Pin.le_trans (Pin.le_trans (Pin.le_trans (Pin.le_trans (Pin.le_trans ad r) g.le) h) i.le) k) s.le) af.le))) ?_
 rintro _ dp ⟨dq, rfl, cl⟩
 refine ⟨_, rfl, ?_⟩
 have ag := an.tr cl
 refine qM (.tuple #[(.bool (alB b a)), (.bool (goodB b && goodB a))]) ?_
 refine qD rfl (xF (v := (.bool (alB b a))) rfl rfl) ?_
 refine qD rfl (xF (v := (.bool (goodB b && goodB a))) rfl rfl) ?_
 refine qM (.bool (alB b a)) ?_
 refine qM (.bool (goodB b && goodB a)) ?_
 refine qe (zA (zB (zC ?_)))
 refine qM (.bool (goodB b)) ?_
 refine qM (.bool (goodB b)) ?_
 refine qb (t := 50) rfl (fun ae => ?_) (fun ae => ?_)
 ·skip
  refine qN (zT (v := (.bool (goodB a))) rfl) ?_
  refine qD rfl (xL (v := (.bool (goodB a))) rfl rfl) ?_
  refine qM (.bool (goodB a)) ?_
  refine qb (t := 53) rfl (fun ah => ?_) (fun ah => ?_)
  ·skip
   refine qN (zT (v := (.bool (goodB (ngF a) && goodB (ngF b)))) rfl) ?_
   refine qD rfl (xL (v := (.bool (goodB (ngF a) && goodB (ngF b)))) rfl rfl) ?_
   refine qM (.bool (goodB (ngF a) && goodB (ngF b))) ?_
   refine qb (t := 56) rfl (fun ao => ?_) (fun ao => ?_)
   ·skip
    refine qN (zT (v := (.bool (alB b a))) rfl) ?_
    refine qN (zT (v := (.bool (alB (ngF a) (ngF b)))) rfl) ?_
    refine qN (r_eqlB Tryz.underlying4 rfl rfl) ?_
    refine qD rfl (xL (v := (.bool ((alB b a) == (alB (ngF a) (ngF b))))) rfl rfl) ?_
    refine qM (.bool ((alB b a) == (alB (ngF a) (ngF b)))) ?_
    refine qb (t := 61) rfl (fun a0 => ?_) (fun a0 => ?_)
    ·skip
     refine qN (zT (v := (.bool (alB b a))) rfl) ?_
     refine qN (zT (v := (.bool (alB b a))) rfl) ?_
     refine qN (r_eqlB_same Tryz.underlying4 rfl rfl) ?_
     refine qD rfl (xL (v := (.bool true)) rfl rfl) ?_
     refine qM (.bool true) ?_
     refine qe (zA ?_)
     refine wp_ret ?_
     refine zS ?_
     refine zR (v := (.bool true)) rfl rfl rfl ?_
     have c := neg_turn l m
     have d := goodB_true.2 l
     have f := goodB_true.2 m
     rw [← qK d, ← qK f] at c
     have x := c.1
     have y := c.2
     have k5 : (true) = true := by
      revert ae ah ao a0
      try rw [x]
      try rw [y]
      try rw [d]
      try rw [f]
      generalize alB b a = p
      cases p <;> decide
     exact ⟨_, congrArg (fun z => Ending.returned (Value.bool z)) k5, ag⟩
    refine qW ?_
    refine qW ?_
    refine qW ?_
    refine qD rfl (yZ (v := (.bool false)) rfl rfl) ?_
    refine qM (.bool false) ?_
    refine qe (zA ?_)
    refine wp_ret ?_
    refine zS ?_
    refine zR (v := (.bool false)) rfl rfl rfl ?_
    have c := neg_turn l m
    have d := goodB_true.2 l
    have f := goodB_true.2 m
    rw [← qK d, ← qK f] at c
    have x := c.1
    have y := c.2
    have k5 : (false) = true := by
     revert ae ah ao a0
     try rw [x]
     try rw [y]
     try rw [d]
     try rw [f]
     generalize alB b a = p
     cases p <;> decide
    exact ⟨_, congrArg (fun z => Ending.returned (Value.bool z)) k5, ag⟩
   refine qW ?_
   refine qW ?_
   refine qW ?_
   refine qD rfl (yZ (v := (.bool false)) rfl rfl) ?_
   refine qM (.bool false) ?_
   refine qW ?_
   refine qW ?_
   refine qW ?_
   refine qD rfl (yZ (v := (.bool false)) rfl rfl) ?_
   refine qM (.bool false) ?_
   refine qe (zA ?_)
   refine wp_ret ?_
   refine zS ?_
   refine zR (v := (.bool false)) rfl rfl rfl ?_
   have c := neg_turn l m
   have d := goodB_true.2 l
   have f := goodB_true.2 m
   rw [← qK d, ← qK f] at c
   have x := c.1
   have y := c.2
   have k5 : (false) = true := by
    revert ae ah ao
    try rw [x]
    try rw [y]
    try rw [d]
    try rw [f]
    generalize alB b a = p
    cases p <;> decide
   exact ⟨_, congrArg (fun z => Ending.returned (Value.bool z)) k5, ag⟩
  refine qW ?_
  refine qD rfl (yZ (v := (.bool false)) rfl rfl) ?_
  refine qM (.bool false) ?_
  refine qW ?_
  refine qW ?_
  refine qW ?_
  refine qD rfl (yZ (v := (.bool false)) rfl rfl) ?_
  refine qM (.bool false) ?_
  refine qW ?_
  refine qW ?_
  refine qW ?_
  refine qD rfl (yZ (v := (.bool false)) rfl rfl) ?_
  refine qM (.bool false) ?_
  refine qe (zA ?_)
  refine wp_ret ?_
  refine zS ?_
  refine zR (v := (.bool false)) rfl rfl rfl ?_
  have c := neg_turn l m
  have d := goodB_true.2 l
  have f := goodB_true.2 m
  rw [← qK d, ← qK f] at c
  have x := c.1
  have y := c.2
  have k5 : (false) = true := by
   revert ae ah
   try rw [x]
   try rw [y]
   try rw [d]
   try rw [f]
   generalize alB b a = p
   cases p <;> decide
  exact ⟨_, congrArg (fun z => Ending.returned (Value.bool z)) k5, ag⟩
 refine qW ?_
 refine qD rfl (yZ (v := (.bool false)) rfl rfl) ?_
 refine qM (.bool false) ?_
 refine qW ?_
 refine qD rfl (yZ (v := (.bool false)) rfl rfl) ?_
 refine qM (.bool false) ?_
 refine qW ?_
 refine qW ?_
 refine qW ?_
 refine qD rfl (yZ (v := (.bool false)) rfl rfl) ?_
 refine qM (.bool false) ?_
 refine qW ?_
 refine qW ?_
 refine qW ?_
 refine qD rfl (yZ (v := (.bool false)) rfl rfl) ?_
 refine qM (.bool false) ?_
 refine qe (zA ?_)
 refine wp_ret ?_
 refine zS ?_
 refine zR (v := (.bool false)) rfl rfl rfl ?_
 have c := neg_turn l m
 have d := goodB_true.2 l
 have f := goodB_true.2 m
 rw [← qK d, ← qK f] at c
 have x := c.1
 have y := c.2
 have k5 : (false) = true := by
  revert ae
  try rw [x]
  try rw [y]
  try rw [d]
  try rw [f]
  generalize alB b a = p
  cases p <;> decide
 exact ⟨_, congrArg (fun z => Ending.returned (Value.bool z)) k5, ag⟩

end LNO
end Go.Proofs.YtkfgdhanaijddaaGreatDoor
