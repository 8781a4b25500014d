/- Texts of this claim in one file: OD1, FO1, NG1, NF1, PF1, OR1, SF1, MK1, DR1, DR2, DV1, DV2. -/
import Derived.Test.YtkfgdhanaijddaaGreatDoorTi5
import Derived.Test.YtkfgdhanaijddaaGreatDoorChecked
set_option maxRecDepth 20000
set_option maxHeartbeats 2000000
namespace Go.Proofs.YtkfgdhanaijddaaGreatDoor
namespace OD1
open Go.RowKit Go.GL Go.Proofs
open Go.Proofs.YtkfgdhanaijddaaGreatDoor.B1
open Go.Proofs.YtkfgdhanaijddaaGreatDoor.PO1
open Go.Proofs.YtkfgdhanaijddaaGreatDoor.PA1
open Go.Proofs.YtkfgdhanaijddaaGreatDoor.SO1








theorem mk3 : (Tryz.prog.info? 3).map (fun i => (i.size, i.bytes, i.zero)) = some (1, 8, some (.int .i64 0)) := by kernel_rfl
theorem mk68 : (Tryz.prog.info? 68).map (fun i => (i.size, i.bytes, i.zero)) = some (2, 48, some (.agg #[(.slice none 0 0), (.slice none 0 0)])) := by kernel_rfl









theorem pl139 : (Tryz.prog.underlying 139).bind (placesD Tryz.prog) = some [(0, 1), (1, 2)] := by kernel_rfl
theorem pl68 : (Tryz.prog.underlying 68).bind (placesD Tryz.prog) = some [(0, 1), (1, 1)] := by kernel_rfl







theorem ranked_spec {w : World} {G : Pin} {v : Value} {xs : List Int} {m : Nat} {rk : List (Int × Int)} (hP : Pins G w) (hv : RSl eInt G v xs) (hmp : Mp (fun k : Int => Value.int .i64 k) (fun v : Int => Value.int .i64 v) w m rk) (hs : xs.length ≤ 1048576) :
  Calls Tryz.prog 121 [v, (.map (some m))].toArray w fun e w' => ∃ (u : Value) (G' : Pin), e = .returned u ∧ Own eInt 3 G' w' w.heap.size u (sortM (xs.map (rkI rk))) ∧ Ext noS G w G' w' := by
 refine yD (n := 28) Tryz.func121 Tryz.ntmps121 rfl rfl ?_
 have d : Ext noS G w G w := Ext.refl hP
 have hm := hv.max
 have hal : (xs.map (rkI rk)).length = xs.length := List.length_map ..
 have hrl : (List.replicate xs.length (0 : Int)).length = xs.length := List.length_replicate
 refine zB (zC ?_)
 refine qM (.slice none 0 0) ?_
 refine qe (zA (zB (zC ?_)))
 refine qM v ?_
 refine qD rfl (zN Tryz.underlying57 (v := v) rfl hv) ?_
 refine qI rfl (o_make (E := eInt) 0 8 (vJ 0) Tryz.underlying57 mk3 (fun _ => rfl) rfl rfl d.pins (by omega) (by omega) (by omega) (fun a o q s g ai => ?_))
 have t := d.step s g
 have x := hmp.below g
 have y : Own eInt 3 G o w.heap.size a (List.replicate xs.length 0) := q.weaken d.size
 have aj : (List.replicate xs.length 0).length = xs.length := List.length_replicate ..
 refine qM a ?_
 refine qe (zA (zB (zB (zC ?_))))
 refine qM v ?_
 refine qD rfl (zN Tryz.underlying57 (v := v) rfl hv) ?_
 refine qM (vJ 0) ?_
 refine qe (zA ?_)
 refine zX ?_
 refine yQ (fun (k : Nat) (en : Nat → Value) (W : World) => ∃ (h : Nat → Value) (j : Nat) (os : List Int), en = (upd (upd (upd (upd (upd (upd h 1 (.map (some m))) 4 (.slice none 0 0)) 5 a) 11 v) 12 (vJ (xs.length : Int))) 13 (vJ (j : Int))) ∧ k = xs.length - j ∧ Ext noS G w G W ∧ (j ≤ xs.length) ∧ (os = (xs.map (rkI rk)).take j ++ (List.replicate xs.length 0).drop j) ∧ (os.length = xs.length) ∧ (Own eInt 3 G W w.heap.size a (os)) ∧ (Mp (fun k : Int => Value.int .i64 k) (fun v : Int => Value.int .i64 v) W m (rk))) _ ⟨_, 0, List.replicate xs.length 0, (pS 13 (pS 12 (pS 11 (pS 5 (pS 4 (pU 1)))))), rfl, t, Nat.zero_le _, rfl, hrl, y, x⟩ ?_
 rintro ak _ al ⟨h, j, os, rfl, am, c, hj, hr, hol, b, f⟩
 refine zB (zC ?_)
 refine qD rfl (yV rfl rfl) ?_
 refine qe (zA (zB ?_))
 refine yI (p := ((j : Int) : Int) < (xs.length : Int)) rfl rfl (fun aa => ?_) (fun aa => ?_)
 ·skip
  refine wp_skip ?_
  refine zA (zB ?_)
  refine zX ?_
  refine zB (zC ?_)
  refine qM (vJ (j : Int)) ?_
  refine qD rfl (zJ Tryz.underlying57 sz3 (v := v) rfl rfl hv (by omega) (by omega)) ?_
  refine qD rfl (zK (r := xs.getD j 0) rfl ag3 (z := (j : Int)) rfl hv c.pins (by omega) (by omega)) ?_
  refine qM (vJ (j : Int)) ?_
  refine qM (vJ (xs.getD j 0)) ?_
  refine qe (zA (zC ?_))
  refine qM a ?_
  refine qM (vJ (j : Int)) ?_
  refine qM (.map (some m)) ?_
  refine qM (vJ (xs.getD j 0)) ?_
  refine qD rfl (run_look1_int (k := (xs.getD j 0)) (key_int Tryz.underlying3) Tryz.underlying113 zr3 f rfl rfl) ?_
  refine qD rfl (zJ Tryz.underlying57 sz3 (v := a) rfl rfl b.read (by omega) (by omega)) ?_
  refine q0 rfl rfl rfl (o_set (E := eInt) (v := a) (u := (vJ ((Go.GL.look rk (xs.getD j 0)).getD 0))) (z := (j : Int)) ((Go.GL.look rk (xs.getD j 0)).getD 0) sz3 rfl rfl rfl rfl c.pins b (by omega) (by omega) (fun an ab ac l ao => ?_))
  have ad := c.write ac l ((yB b))
  have ae := f.kept l (yO f b)
  refine qe ?_
  refine yJ ?_
  refine zA (zC ?_)
  refine qD rfl (yR rfl rfl (by omega)) ?_
  refine qM (vJ ((j : Int) + 1)) ?_
  refine qe ?_
  refine yK ?_
  refine ⟨_, ?_, _, rfl, _, j + 1, (os).set j ((Go.GL.look rk (xs.getD j 0)).getD 0), (pS 13 (pS 12 (pS 11 (pS 5 (pS 4 (pU 1)))))), rfl, ad, (by omega), (by rw [hr]; exact cur_set 0 (by omega) (by omega) (rk_getD (by omega))), ((List.length_set ..).trans hol), ab, ae⟩
  omega
 refine wp_exit ?_
 refine yA ?_
 refine yN ?_
 refine yL ?_
 refine zA (zB (zC ?_))
 refine qM a ?_
 refine qI rfl (zM (vs := [a]) Tryz.func150 nm150 rfl rfl rfl ?_)
 refine Calls.mono (sortI_spec c.pins b (by omega)) ?_
 rintro _ ap ⟨aq, rfl, af, ag⟩
 refine ⟨_, rfl, ?_⟩
 have ah := c.trans ag (fun i hi => (yB b) i hi)
 have ar := sortM_length os
 refine qe (zA (zB (zC ?_)))
 refine qM a ?_
 refine qM a ?_
 refine qe (zA ?_)
 refine wp_ret ?_
 refine zR ?_
 refine zQ (v := a) rfl rfl rfl ?_
 rw [cur_end (by omega) (by omega)] at hr
 exact ⟨_, _, rfl, (by rw [← hr]; exact af), ah⟩

theorem order_spec {w : World} {G : Pin} {p : Nat} {L R B : Value} {mm : PM} {q : PSt} (hP : Pins G w) (hpk : Pk 57 3 G w p L R B mm q) (hok : PoolOk q) {x : Value} {xs : List Int} (hx : RSl eInt G x xs) (hr : ∀ i, i < xs.length → PlaceOk q (xs.getD i 0)) (hxl : xs.length ≤ 1048576) :
  Calls Tryz.prog 65 [(.pointer (some ⟨p, 0, none⟩)), x].toArray w fun e w' => ∃ (u v : Value) (ls : List Int) (ns : List Nd) (zs : List Int) (G' : Pin), e = .returned (.tuple #[u, v]) ∧ Own eInt 3 G' w' w.heap.size u ls ∧ DForm 68 3 G' w' w.heap.size w'.heap.size v ns ∧ OrI q zs ls ls.length ns ∧ PtOk q xs zs zs.length ∧ Ext noS G w G' w' := by
 refine yD (n := 122) Tryz.func65 Tryz.ntmps65 rfl rfl ?_
 have c0 : Ext noS G w G w := Ext.refl hP
 have hpin : PIn w (inP p L R B mm) p L R B mm := PIn.self
 have ky : (q.ns.map Nd.l).length = q.ns.length ∧ (q.ns.map Nd.r).length = q.ns.length := ⟨List.length_map .., List.length_map ..⟩
 have kz : q.bs.length = q.ns.length ∧ q.ns.length ≤ 1048576 := ⟨hok.ar.ok.len, hok.ar.ok.lim⟩
 have d6 : Lvs 3 G w w.heap.size w.heap.size [] := Lvs.nil
 have hm := hx.max
 refine zB (zC ?_)
 refine qI rfl (qA [(.pointer (some ⟨p, 0, none⟩))] (v := (.pointer (some ⟨p, 0, none⟩))) rfl rfl c0.pins (fun b3 w4 d7 gh d8 c1 => ?_))
 have gi := c0.step d8 c1
 have gj := (d6.below c1).top
 have gk := hpk.below c1 d8
 have gl : ApL [] (some b3) := ApL.fresh d6 (fun k hk => by rw [(congrArg some d7)] at hk; cases hk; exact Nat.le_refl _)
 have gm := hpk.new (x := (some b3)) (fun k hk => by rw [(congrArg some d7)] at hk; cases hk; exact Nat.le_refl _)
 have gp : w.heap.size ≤ b3 := by have := c0.size; omega
 obtain ⟨k1, c2, cd, be, d9⟩ := gh.shut gi gp
 have ea := gj.more c2 d9 gl
 have c3 := gk.more c2 d9 gm
 refine qM (.slice none 0 0) ?_
 refine qM (.slice none 0 0) ?_
 refine qe (zA (zB (zC ?_)))
 refine qD rfl (zP (u := (.pointer (some ⟨p, 0, none⟩))) ag69 rfl (cd.pins _ _ _ (be 0 _ rfl))) ?_
 refine qM x ?_
 refine qI rfl (zM (vs := [(.pointer (some ⟨p, 0, none⟩)), x]) Tryz.func101 nm101 rfl rfl rfl ?_)
 refine Calls.mono (parts_spec cd.pins c3 hok (hx.mono c2) hr hxl) ?_
 rintro _ gq ⟨d, c4, ce, rfl, c5, a4, a0⟩
 refine ⟨_, rfl, ?_⟩
 have eb := cd.tr a0
 have gr := (ea.ext a0).top
 have ec := c3.ext a0
 have ed : ApL [] d.ownBlock := ApL.fresh ea (fun k hk => (c5.lt k hk).1)
 have c6 := c3.new (x := d.ownBlock) (fun k hk => (c5.lt k hk).1)
 have ee : Own eInt 3 ce gq w.heap.size d c4 := c5.weaken cd.size
 have k2 := a4.len
 refine qM d ?_
 refine qe (zA (zB (zC ?_)))
 refine qM d ?_
 refine qD rfl (r_makeFunc [(.pointer (some ⟨b3, 0, none⟩))] rfl) ?_
 refine qI rfl (zM (vs := [d, (.func (.func 120) #[] #[(.pointer (some ⟨b3, 0, none⟩))])]) Tryz.func119 nm119 rfl rfl rfl ?_)
 refine Calls.mono (sortB_spec eb.pins ec hok (be.mono a0.le) ee a4.pl c6 (by omega)) ?_
 rintro _ k3 ⟨gt, rfl, gu, ef, gw, c7⟩
 refine ⟨_, rfl, ?_⟩
 have c8 := eb.trans c7 (fun i hi => (yB ee) i hi)
 have gx := Lvs.turned gr c7 ed
 have eg := ec.extS c7 (fun k hk hx => c6 k hx hk)
 have k4 := ef.length_eq
 refine qe (zA (zB (zC ?_)))
 refine qI rfl (o_makeMap (fun k : Int => Value.int .i64 k) (fun v : Int => Value.int .i64 v) c8.pins (fun ak k5 k6 gy eh cf => ?_))
 have c9 := c8.step eh cf
 have da := gu.below cf
 have ei := (gx.below cf).top
 have ej := eg.below cf eh
 have gz := eg.new (x := some ak) (fun k hk => by cases hk; omega)
 have g0 : w.heap.size ≤ ak := by have := c8.size; omega
 refine qM (.map (some ak)) ?_
 refine qe (zA (zB (zC ?_)))
 refine qM d ?_
 refine qD rfl (zN Tryz.underlying57 (v := d) rfl da.read) ?_
 refine qI rfl (o_make0 (E := eVal2) Tryz.underlying26 mk68 rfl rfl c9.pins (by omega) (by omega) (by omega) (fun bf g1 g2 ek bt db => ?_))
 have g3 := c9.step ek bt
 have g4 := da.below bt
 have g5 := (ei.below bt).top
 have g6 := gy.below bt
 have g7 := ej.below bt ek
 have g8 : Apart bf.ownBlock d.ownBlock := zI db da.lt
 have g9 : ApL [] bf.ownBlock := ApL.fresh ei (fun k hk => by rw [db] at hk; cases hk; exact Nat.le_refl _)
 have ha := ej.new (x := bf.ownBlock) (fun k hk => by rw [db] at hk; cases hk; exact Nat.le_refl _)
 have hb : Own eVal2 68 ce g1 w.heap.size bf ([]) := g2.weaken c9.size
 refine qM bf ?_
 refine qe (zA (zB (zB (zC ?_))))
 refine qM (vJ 0) ?_
 refine qe (zA ?_)
 refine zX ?_
 refine yQ (fun (k : Nat) (en : Nat → Value) (W : World) => ∃ (al : Nat → Value) (n : Nat) (nv : Value) (done : List Ent) (ps : List (Value × Value)) (rk : List (Int × Int)) (LV : List Leaf) (ls : List Int) (am : Pin), en = (upd (upd (upd (upd (upd (upd (upd al 2 (.pointer (some ⟨b3, 0, none⟩))) 4 (.slice none 0 0)) 5 (.slice none 0 0)) 6 d) 7 (.map (some ak))) 8 nv) 9 (vJ (n : Int))) ∧ k = ls.length - n ∧ Ext noS G w am W ∧ Pin.le ce am ∧ (OrI q c4 ls n (done.map Ent.nd)) ∧ (RkOk ls n rk) ∧ (LV.Perm (lvE done)) ∧ (ps = done.map Ent.pr) ∧ (Own eInt 3 am W w.heap.size d (ls)) ∧ (Own eVal2 68 am W w.heap.size nv (ps)) ∧ (Apart d.ownBlock nv.ownBlock) ∧ (Lvs 3 am W w.heap.size W.heap.size LV) ∧ (ApL LV d.ownBlock) ∧ (ApL LV nv.ownBlock) ∧ (Mp (fun k : Int => Value.int .i64 k) (fun v : Int => Value.int .i64 v) W ak (rk)) ∧ (Pk 57 3 am W p L R B mm q) ∧ (NP p L R B mm nv.ownBlock)) _ ⟨_, 0, bf, [], [], [], [], gt, ce, (pS 9 (pS 8 (pS 7 (pS 6 (pS 5 (pS 4 (pU 2))))))), rfl, g3, Pin.le_refl _, (OrI.start ef gw), (fun i hi => absurd hi (Nat.not_lt_zero i)), (List.Perm.refl _), rfl, g4, hb, g8.symm, g5, ed, g9, g6, g7, ha⟩ ?_
 rintro k7 _ k8 ⟨al, n, nv, done, ps, rk, LV, ls, am, rfl, k9, cg, bu, hor, hrk, hLV, hps, ch, dc, hc, dd, hd, el, he, em, hf⟩
 have hll := hor.perm.length_eq
 have hnl := hor.nl
 have hdl : done.length = n := by have := hor.len; simpa using this
 have hpsl : ps.length = n := by rw [hps, List.length_map]; exact hdl
 have hplk : ∀ i, i < ls.length → 0 ≤ ls.getD i 0 ∧ ls.getD i 0 < q.ns.length := fun i hi => a4.pl _ (hor.mem.1 (yS hi))
 refine zB (zB (zC ?_))
 refine qM (vJ (n : Int)) ?_
 refine qM d ?_
 refine qD rfl (zN Tryz.underlying57 (v := d) rfl ch.read) ?_
 refine qD rfl (yV rfl rfl) ?_
 refine qe (zA ?_)
 refine yI (p := ((n : Int) : Int) < (ls.length : Int)) rfl rfl (fun hg => ?_) (fun hg => ?_)
 ·skip
  have hzn := hplk n (by omega)
  refine wp_skip ?_
  refine zA ?_
  refine zX ?_
  refine zB (zC ?_)
  refine qI rfl (yZ (E := eEnt) (e := 139) Tryz.underlying136 sz139 cg.pins (fun a5 hh hn eo bg ci => ?_))
  have ho := cg.step eo bg
  have hq := ch.below bg
  have hs := dc.below bg
  have ht := (dd.below bg).top
  have hu := he.below bg
  have hv := em.below bg eo
  have hw : Apart a5.ownBlock d.ownBlock := zI ci ch.lt
  have hy : Apart a5.ownBlock nv.ownBlock := zI ci dc.lt
  have hz : ApL LV a5.ownBlock := ApL.fresh dd (fun k hk => by rw [ci] at hk; cases hk; exact Nat.le_refl _)
  have h0 := em.new (x := a5.ownBlock) (fun k hk => by rw [ci] at hk; cases hk; exact Nat.le_refl _)
  have h1 : Own eEnt 139 am hh w.heap.size a5 ([]) := hn.weaken cg.size
  refine qM a5 ?_
  refine qe (zA (zB (zB (zC ?_))))
  refine qM (vJ (n : Int)) ?_
  refine qM (vJ (n : Int)) ?_
  refine qe (zA ?_)
  refine zX ?_
  refine c_cutE (fun (en : Nat → Value) (W : World) => ∃ (al : Nat → Value) (kk : Nat) (gv : Value) (gs : List Ent) (aa : List Leaf) (ab : Pin), en = (upd (upd (upd (upd (upd (upd (upd (upd (upd al 2 (.pointer (some ⟨b3, 0, none⟩))) 4 (.slice none 0 0)) 5 (.slice none 0 0)) 6 d) 7 (.map (some ak))) 8 nv) 9 (vJ (n : Int))) 10 gv) 11 (vJ (kk : Int))) ∧ Ext noS G w ab W ∧ Pin.le am ab ∧ (kk = n + gs.length) ∧ (GrI q ls n (gs.map Ent.gn)) ∧ (aa.Perm (lvE done ++ lvE gs)) ∧ (n + gs.length = ls.length ∨ bn q (ls.getD (n + gs.length) 0) ≠ bn q (ls.getD n 0)) ∧ (Own eEnt 139 ab W w.heap.size gv (gs)) ∧ (Own eInt 3 ab W w.heap.size d (ls)) ∧ (Own eVal2 68 ab W w.heap.size nv (ps)) ∧ (Apart gv.ownBlock d.ownBlock) ∧ (Apart gv.ownBlock nv.ownBlock) ∧ (Lvs 3 ab W w.heap.size W.heap.size aa) ∧ (ApL aa gv.ownBlock) ∧ (ApL aa d.ownBlock) ∧ (ApL aa nv.ownBlock) ∧ (Mp (fun k : Int => Value.int .i64 k) (fun v : Int => Value.int .i64 v) W ak (rk)) ∧ (Pk 57 3 ab W p L R B mm q) ∧ (NP p L R B mm gv.ownBlock)) 2 ?_ ?_
  ·rintro _ an ⟨al, kk, gv, gs, aa, ab, rfl, a6, ax, hkk, hgr, a7, hend, bv, cj, de, a8, a9, ck, a1, bw, bz, cl, cm, a2⟩
   have hgl := hgr.le
   rw [List.length_map] at hgl
   have la : 0 < gs.length := Nat.pos_of_ne_zero fun h => hend.elim (fun e => by omega) (fun e => by rw [h] at e; exact e rfl)
   refine yL ?_
   refine zA (zB (zC ?_))
   refine qM gv ?_
   refine qI rfl (zM (vs := [gv, (.func (.func 123) #[] #[])]) Tryz.func122 nm122 rfl rfl rfl ?_)
   refine Calls.mono (sortE_spec a6.pins bv ck (fun x hx => ⟨a7.mem_iff.2 (List.mem_append_right _ (lvE_mem hx).1), a7.mem_iff.2 (List.mem_append_right _ (lvE_mem hx).2)⟩) a1 (by omega)) ?_
   rintro _ lb ⟨y, rfl, ep, cn, h2, bh⟩
   refine ⟨_, rfl, ?_⟩
   have h3 := a6.trans bh (fun i hi => (yB bv) i hi)
   have h4 := cj.extS bh (notO a8.symm)
   have h5 := de.extS bh (notO a9.symm)
   have h6 := Lvs.turned ck bh a1
   have h7 := cl.extS bh (notOb (yO cl bv))
   have h8 := cm.extS bh (fun k hk hx => a2 k hx hk)
   have lc := cn.length_eq
   refine qe (zA (zB (zB (zC ?_))))
   refine qM gv ?_
   refine qD rfl (zN Tryz.underlying136 (v := gv) rfl ep.read) ?_
   refine qM (vJ 0) ?_
   refine qe (zA ?_)
   refine zX ?_
   have hgp : (y.map Ent.gn).Perm (gs.map Ent.gn) := cn.map _
   have eq : n + y.length ≤ ls.length := by omega
   have hRl : (regroup ls n (y.map Ent.gn)).length = ls.length := regroup_length (by rw [List.length_map]; omega)
   have hRn : (regroup ls n (y.map Ent.gn)).Nodup := (regroup_perm hgr hgp).nodup_iff.2 (hor.perm.nodup_iff.2 a4.nd)
   refine yQ (fun (k : Nat) (en : Nat → Value) (W : World) => ∃ (al : Nat → Value) (j : Nat) (ao : Value) (ba : List Int) (a3 : List (Value × Value)) (b0 : List (Int × Int)) (ay : Pin), en = (upd (upd (upd (upd (upd (upd (upd (upd (upd (upd (upd al 2 (.pointer (some ⟨b3, 0, none⟩))) 4 (.slice none 0 0)) 5 (.slice none 0 0)) 6 d) 7 (.map (some ak))) 8 ao) 9 (vJ (n : Int))) 10 gv) 90 gv) 91 (vJ (y.length : Int))) 92 (vJ (j : Int))) ∧ k = y.length - j ∧ Ext noS G w ay W ∧ Pin.le ab ay ∧ (j ≤ y.length) ∧ (ba = ls.take n ++ (y.take j).map Ent.id ++ ls.drop (n + j)) ∧ (RkOk (regroup ls n (y.map Ent.gn)) (n + j) b0) ∧ (a3 = (done ++ y.take j).map Ent.pr) ∧ (Own eInt 3 ay W w.heap.size d (ba)) ∧ (Own eVal2 68 ay W w.heap.size ao (a3)) ∧ (Own eEnt 139 ay W w.heap.size gv (y)) ∧ (Apart d.ownBlock ao.ownBlock) ∧ (Apart ao.ownBlock gv.ownBlock) ∧ (Lvs 3 ay W w.heap.size W.heap.size aa) ∧ (ApL aa d.ownBlock) ∧ (ApL aa ao.ownBlock) ∧ (ApL aa gv.ownBlock) ∧ (Mp (fun k : Int => Value.int .i64 k) (fun v : Int => Value.int .i64 v) W ak (b0)) ∧ (Pk 57 3 ay W p L R B mm q) ∧ (NP p L R B mm ao.ownBlock)) _ ⟨_, 0, nv, ls, ps, rk, ab, (pS 92 (pS 91 (pS 90 (pS 10 (pS 9 (pS 8 (pS 7 (pS 6 (pS 5 (pS 4 (pU 2))))))))))), rfl, h3, Pin.le_refl _, Nat.zero_le _, (by simp), (hrk.reg eq), (by rw [List.take_zero, List.append_nil]; exact hps), h4, h5, ep, hc, a9.symm, h6, bw, bz, a1, h7, h8, hf⟩ ?_
   rintro ld _ lf ⟨al, j, ao, ba, a3, b0, ay, rfl, lg, b1, er, hj, bi, df, b2, dg, dh, b4, co, es, di, dj, dk, h9, et, dl, dm⟩
   have lh : ba.length = ls.length := by rw [bi]; simp; omega
   have hps3l : a3.length = n + j := by rw [b2]; simp; omega
   refine zB (zC ?_)
   refine qD rfl (yV rfl rfl) ?_
   refine qe (zA (zB ?_))
   refine yI (p := ((j : Int) : Int) < (y.length : Int)) rfl rfl (fun ia => ?_) (fun ia => ?_)
   ·skip
    refine wp_skip ?_
    refine zA (zB ?_)
    refine zX ?_
    refine zB (zC ?_)
    refine qM (vJ (j : Int)) ?_
    refine qD rfl (zJ Tryz.underlying136 sz139 (v := gv) rfl rfl b4.read (by omega) (by omega)) ?_
    obtain ⟨li, ib, ic, lj⟩ := nm_el (j := j) default (b4.at (z := (j : Int)) (by omega) (by omega)) rfl
    obtain ⟨rfl, eu, ev⟩ := ib
    refine qD rfl (ic ag139 sz139 rfl (Gadd.pins b1.pins gv)) ?_
    refine qI rfl (yH [(vJ 0), (.slice none 0 0), (.slice none 0 0)] zr139 rfl b1.pins (fun bj lk b5 ew ex bb => ?_))
    have ey := b1.step ex bb
    have ie := dg.below bb
    have ig := dh.below bb
    have ih := b4.below bb
    have ii := (di.below bb).top
    have ez := et.below bb
    have ij := dl.below bb ex
    have e0 : Apart (some bj) d.ownBlock := zI (congrArg some b5) dg.lt
    have e1 : Apart (some bj) ao.ownBlock := zI (congrArg some b5) dh.lt
    have e2 : Apart (some bj) gv.ownBlock := zI (congrArg some b5) b4.lt
    have e3 : ApL aa (some bj) := ApL.fresh di (fun k hk => by rw [(congrArg some b5)] at hk; cases hk; exact Nat.le_refl _)
    have e4 := dl.new (x := (some bj)) (fun k hk => by rw [(congrArg some b5)] at hk; cases hk; exact Nat.le_refl _)
    have e5 : w.heap.size ≤ bj := by have := b1.size; omega
    refine qM (vJ (j : Int)) ?_
    refine q0 rfl rfl rfl (yM (cs' := [(vJ ((y.getD j default).id)), (y.getD j default).l, (y.getD j default).r]) (us := [(vJ ((y.getD j default).id)), (y.getD j default).l, (y.getD j default).r]) (v := (.agg [(vJ ((y.getD j default).id)), (y.getD j default).l, (y.getD j default).r].toArray)) sz139 rfl rfl rfl (ones3 (by rfl) eu ev) ey.pins ew (Nat.le_of_ble_eq_true rfl) rfl (fun ll ik e6 bc lm => ?_))
    have il := ey.write e6 bc ((zV e5))
    have im := ie.keptA bc e0.symm
    have io := ig.keptA bc e1.symm
    have ip := ih.keptA bc e2.symm
    have iq := (ii.kept bc e3).top
    have e7 := ez.kept bc (xK ez ew)
    have ir := ij.kept bc e6 e4
    obtain ⟨e8, bk, dn, dp, b6⟩ := ik.shut il e5
    have cp := im.moreA bk b6 e0.symm
    have it := io.moreA bk b6 e1.symm
    have iu := ip.moreA bk b6 e2.symm
    have iv := iq.more bk b6 e3
    have iw := ir.more bk b6 e4
    refine qe (zA (zB (zC ?_)))
    refine qM d ?_
    refine qM (vJ (n : Int)) ?_
    refine qM (vJ (j : Int)) ?_
    refine qD rfl (yR rfl rfl (by omega)) ?_
    refine qD rfl (zO (k := 0) rfl Tryz.underlying139 rfl nz3 rfl) ?_
    refine qD rfl (zP (u := (vJ ((y.getD j default).id))) ag3 rfl (dn.pins _ _ _ (dp 0 _ rfl))) ?_
    refine qD rfl (zJ Tryz.underlying57 sz3 (v := d) rfl rfl cp.read (by omega) (by omega)) ?_
    refine q0 rfl rfl rfl (o_set (E := eInt) (v := d) (u := (vJ ((y.getD j default).id))) (z := ((n : Int) + (j : Int))) ((y.getD j default).id) sz3 rfl rfl rfl rfl dn.pins cp (by omega) (by omega) (fun ln e9 fa bl lo => ?_))
    have dq := dn.write fa bl ((yB cp))
    have fb := it.keptA bl co.symm
    have fc := iu.keptA bl a8
    have fd := (iv.kept bl dj).top
    have b7 := e7.kept bl (yO e7 cp)
    have ix := iw.kept bl fa c6
    refine qe (zA (zB (zC ?_)))
    refine qM (.map (some ak)) ?_
    refine qD rfl (zO (k := 0) rfl Tryz.underlying139 rfl nz3 rfl) ?_
    refine qD rfl (zP (u := (vJ ((y.getD j default).id))) ag3 rfl (dq.pins _ _ _ (dp 0 _ rfl))) ?_
    refine qM (vJ (n : Int)) ?_
    refine qM (vJ (j : Int)) ?_
    refine qD rfl (yR rfl rfl (by omega)) ?_
    refine q0 rfl rfl rfl (o_mapUpdate (val := (fun v : Int => Value.int .i64 v)) (k := ((y.getD j default).id)) (v := ((n : Int) + (j : Int))) (key_int Tryz.underlying3) Tryz.underlying113 rfl rfl rfl dq.pins b7 (fun lp iy fe bm lq => ?_))
    have cq := dq.write fe bm ((zV g0))
    have iz := e9.keptA bm (yO b7 e9).symm
    have i0 := fb.keptA bm (yO b7 fb).symm
    have i1 := fc.keptA bm (yO b7 fc).symm
    have i2 := (fd.kept bm (fun p hp => (yO b7 (fd.own p hp)).symm)).top
    have i3 := ix.kept bm fe gz
    refine qe (zA (zC ?_))
    refine qM ao ?_
    refine qD rfl (zO (k := 1) rfl Tryz.underlying139 rfl nz68 rfl) ?_
    refine qD rfl (yF (cs := [(y.getD j default).l, (y.getD j default).r]) ag68 sz68 rfl (fun j u hj => cq.pins _ _ _ (dp _ _ (by rw [Nat.add_comm]; simpa using hj)))) ?_
    refine qI rfl (xC (E := eVal2) (e := 68) [(y.getD j default).l, (y.getD j default).r] (((y.getD j default).l, (y.getD j default).r) : Value × Value) Tryz.underlying26 sz68 zr68 ⟨rfl, eu, ev⟩ rfl (by decide) cq.pins (fun ff i4 i5 fg bd lr => ?_))
    have dr := cq.step fg bd
    have fh := iz.below bd
    have ds := i0.below bd
    have fi := i1.below bd
    have fj := (i2.below bd).top
    have fk := iy.below bd
    have fl := i3.below bd fg
    have i6 : Own eVal2 68 e8 i4 w.heap.size ff ([(((y.getD j default).l, (y.getD j default).r) : Value × Value)]) := i5.weaken cq.size
    refine qI rfl (oA (E := eVal2) (v := ao) (u := ff) 48 Tryz.underlying26 ap68 (by decide) rfl rfl dr.pins ds i6.src (dr.size) (fun b8 lu i7 fm bo cr => ?_))
    have i8 := dr.write fm bo ((yB ds))
    have i9 := fh.keptA bo co
    have ja := fi.keptA bo es.symm
    have jb := (fj.kept bo dk).top
    have jc := fk.kept bo (yO fk ds)
    have jd := fl.kept bo fm dm
    have je : Apart d.ownBlock b8.ownBlock := zG co cr fh.lt
    have jf : Apart gv.ownBlock b8.ownBlock := zG es.symm cr fi.lt
    have jg : ApL aa b8.ownBlock := ApL.app fj dk cr
    have jh := np_app dm fl cr
    have lv : (a3 ++ ([(((y.getD j default).l, (y.getD j default).r) : Value × Value)])).length = a3.length + 1 := List.length_append
    refine qM b8 ?_
    refine qe ?_
    refine yJ ?_
    refine zA (zC ?_)
    refine qD rfl (yR rfl rfl (by omega)) ?_
    refine qM (vJ ((j : Int) + 1)) ?_
    refine qe ?_
    refine yK ?_
    refine ⟨_, ?_, _, rfl, _, j + 1, b8, (ba).set ((n : Int) + (j : Int)).toNat ((y.getD j default).id), a3 ++ ([(((y.getD j default).l, (y.getD j default).r) : Value × Value)]), putE b0 ((y.getD j default).id) ((n : Int) + (j : Int)), e8, (pS 92 (pS 91 (pS 90 (pS 10 (pS 9 (pS 8 (pS 7 (pS 6 (pS 5 (pS 4 (pU 2))))))))))), rfl, i8, (Pin.le_trans er bk), (by omega), (by rw [bi, show ((n : Int) + (j : Int)).toNat = n + j by omega]; exact reg_step (by omega) (by omega)), (df.ent hRn eq (by omega)), (by rw [b2, xX _ default (by omega), ← List.append_assoc, List.map_append (l₁ := done ++ _)]; rfl), i9, i7, ja, je, jf.symm, jb, dj, jg, h9, jc, jd, jh⟩
    omega
   refine wp_exit ?_
   refine yA ?_
   refine yN ?_
   refine yL ?_
   refine zA (zC ?_)
   refine qM (vJ (n : Int)) ?_
   refine qM gv ?_
   refine qD rfl (zN Tryz.underlying136 (v := gv) rfl b4.read) ?_
   refine qD rfl (yR rfl rfl (by omega)) ?_
   refine qM (vJ ((n : Int) + (y.length : Int))) ?_
   refine qe ?_
   refine yJ ?_
   refine yK ?_
   have hjn : j = y.length := by omega
   rw [hjn, reg_end] at bi
   rw [hjn] at df b2
   rw [List.take_length] at b2
   have hls3l : ba.length = ls.length := by rw [bi]; exact hRl
   refine ⟨_, ?_, _, rfl, _, n + y.length, ao, done ++ y, a3, b0, aa, ba, ay, (pS 9 (pS 8 (pS 7 (pS 6 (pS 5 (pS 4 (pU 2))))))), rfl, b1, (Pin.le_trans (Pin.le_trans bu ax) er), (by rw [bi]; exact hor.ents hok a4 hgr (by omega) hend cn h2), (by rw [bi]; exact df), (a7.trans (by rw [lvE_app]; exact List.Perm.append_left _ (lvE_perm cn.symm))), b2, dg, dh, co, di, dj, dk, et, dl, dm⟩
   omega
  ·skip
   refine yQ (fun (k : Nat) (en : Nat → Value) (W : World) => ∃ (al : Nat → Value) (kk : Nat) (gv : Value) (gs : List Ent) (aa : List Leaf) (ab : Pin), en = (upd (upd (upd (upd (upd (upd (upd (upd (upd al 2 (.pointer (some ⟨b3, 0, none⟩))) 4 (.slice none 0 0)) 5 (.slice none 0 0)) 6 d) 7 (.map (some ak))) 8 nv) 9 (vJ (n : Int))) 10 gv) 11 (vJ (kk : Int))) ∧ k = ls.length - kk ∧ Ext noS G w ab W ∧ Pin.le am ab ∧ (kk = n + gs.length) ∧ (GrI q ls n (gs.map Ent.gn)) ∧ (aa.Perm (lvE done ++ lvE gs)) ∧ (Own eEnt 139 ab W w.heap.size gv (gs)) ∧ (Own eInt 3 ab W w.heap.size d (ls)) ∧ (Own eVal2 68 ab W w.heap.size nv (ps)) ∧ (Apart gv.ownBlock d.ownBlock) ∧ (Apart gv.ownBlock nv.ownBlock) ∧ (Lvs 3 ab W w.heap.size W.heap.size aa) ∧ (ApL aa gv.ownBlock) ∧ (ApL aa d.ownBlock) ∧ (ApL aa nv.ownBlock) ∧ (Mp (fun k : Int => Value.int .i64 k) (fun v : Int => Value.int .i64 v) W ak (rk)) ∧ (Pk 57 3 ab W p L R B mm q) ∧ (NP p L R B mm gv.ownBlock)) _ ⟨_, n, a5, [], LV, am, (pS 11 (pS 10 (pS 9 (pS 8 (pS 7 (pS 6 (pS 5 (pS 4 (pU 2))))))))), rfl, ho, Pin.le_refl _, rfl, (GrI.start hor), (by simpa [lvE] using hLV), h1, hq, hs, hw, hy, ht, hz, hd, el, hu, hv, h0⟩ ?_
   rintro lw _ an ⟨al, kk, gv, gs, aa, ab, rfl, lx, a6, ax, hkk, hgr, a7, bv, cj, de, a8, a9, ck, a1, bw, bz, cl, cm, a2⟩
   have hgl := hgr.le
   rw [List.length_map] at hgl
   refine zB (zB ?_)
   have ji := Gadd.pins a6.pins d
   have jj := Gadd.pins a6.pins B
   have b9 := cj.read
   have ct := cm.ob.read
   refine xG (S := fun wz => Pins (Gadd ab an d) wz ∧ Pins ab wz ∧ BxR wz p [L, R, B, (.map (some mm.f)), (.map (some mm.o)), (.map (some mm.c)), (.map (some mm.s)), (.map (some mm.n))] ∧ Pins (Gadd ab an B) wz) (last := 27) (by kernel_rfl) rfl ?_
   have aq : Below an.heap.size an an.drew := (Below.refl _ _).drew
   have fn := a6.pins.below aq
   have a := a6.step fn aq
   have dt := bv.below aq
   have ca := cj.below aq
   have du := de.below aq
   have dv := (ck.below aq).top
   have dw := cl.below aq
   have b := cm.below aq fn
   have g := ji.below aq
   have m := jj.below aq
   refine dT (i := 0) rfl rfl (by kernel_rfl) (fun _ _ => zU (v := (vJ (kk : Int))) rfl) ⟨g, a.pins, b.bx.reads, m⟩ ?_
   refine dT (i := 1) rfl rfl (by kernel_rfl) (fun _ _ => zU (v := d) rfl) ⟨g, a.pins, b.bx.reads, m⟩ ?_
   refine dT (i := 2) rfl rfl (by kernel_rfl) (fun _ _ => zN Tryz.underlying57 (v := d) rfl b9) ⟨g, a.pins, b.bx.reads, m⟩ ?_
   refine dT (i := 3) rfl rfl (by kernel_rfl) (fun _ _ => yV rfl rfl) ⟨g, a.pins, b.bx.reads, m⟩ ?_
   refine dT (i := 4) rfl rfl (by kernel_rfl) (fun _ _ => zU (v := (.bool (decide (((kk : Int) : Int) < (ls.length : Int))))) rfl) ⟨g, a.pins, b.bx.reads, m⟩ ?_
   refine drbd (p := ((kk : Int) : Int) < (ls.length : Int)) (t := 35) rfl (fun jk => ?_) (fun jk => ?_)
   ·skip
    have hzk := hplk kk (by omega)
    have hollk := hok.ar.ok.lens (ls.getD kk 0).toNat (by omega)
    refine yG (i := 5) rfl rfl rfl (zW rfl rfl rfl rfl) (by kernel_rfl) (fun _ hS => zP (u := (.pointer (some ⟨p, 0, none⟩))) ag69 rfl ((Pins.of_le hS.2.1 (Pin.le_trans (Pin.le_trans a0.le bu) ax)) _ _ _ (be 0 _ rfl))) ⟨g, a.pins, b.bx.reads, m⟩ ?_
    refine yG (i := 6) rfl rfl rfl (zW rfl rfl rfl rfl) (by kernel_rfl) (fun _ _ => xB rfl) ⟨g, a.pins, b.bx.reads, m⟩ ?_
    refine yG (i := 7) rfl rfl rfl (zW rfl rfl rfl rfl) (by kernel_rfl) (fun _ _ => zO (k := 2) rfl Tryz.underlying117 rfl nz57 rfl) ⟨g, a.pins, b.bx.reads, m⟩ ?_
    refine yG (i := 8) rfl rfl rfl (zW rfl rfl rfl rfl) (by kernel_rfl) (fun _ hS => zP (u := B) ag57 rfl (hS.2.2.1 2 _ rfl)) ⟨g, a.pins, b.bx.reads, m⟩ ?_
    refine yG (i := 9) rfl rfl rfl (zW rfl rfl rfl rfl) (by kernel_rfl) (fun _ _ => zU (v := d) rfl) ⟨g, a.pins, b.bx.reads, m⟩ ?_
    refine yG (i := 10) rfl rfl rfl (zW rfl rfl rfl rfl) (by kernel_rfl) (fun _ _ => zU (v := (vJ (kk : Int))) rfl) ⟨g, a.pins, b.bx.reads, m⟩ ?_
    refine yG (i := 11) rfl rfl rfl (zW rfl rfl rfl rfl) (by kernel_rfl) (fun _ _ => zJ Tryz.underlying57 sz3 (v := d) rfl rfl b9 (by omega) (by omega)) ⟨g, a.pins, b.bx.reads, m⟩ ?_
    refine yG (i := 12) rfl rfl rfl (zW rfl rfl rfl rfl) (by kernel_rfl) (fun _ hS => zK (r := ls.getD kk 0) rfl ag3 (z := (kk : Int)) rfl b9 hS.1 (by omega) (by omega)) ⟨g, a.pins, b.bx.reads, m⟩ ?_
    refine yG (i := 13) rfl rfl rfl (zW rfl rfl rfl rfl) (by kernel_rfl) (fun _ _ => zJ Tryz.underlying57 sz3 (v := B) rfl rfl ct (by omega) (by omega)) ⟨g, a.pins, b.bx.reads, m⟩ ?_
    refine yG (i := 14) rfl rfl rfl (zW rfl rfl rfl rfl) (by kernel_rfl) (fun _ hS => zK (r := q.bs.getD (ls.getD kk 0).toNat 0) rfl ag3 (z := (ls.getD kk 0)) rfl ct hS.2.2.2 (by omega) (by omega)) ⟨g, a.pins, b.bx.reads, m⟩ ?_
    refine yG (i := 15) rfl rfl rfl (zW rfl rfl rfl rfl) (by kernel_rfl) (fun _ hS => zP (u := (.pointer (some ⟨p, 0, none⟩))) ag69 rfl ((Pins.of_le hS.2.1 (Pin.le_trans (Pin.le_trans a0.le bu) ax)) _ _ _ (be 0 _ rfl))) ⟨g, a.pins, b.bx.reads, m⟩ ?_
    refine yG (i := 16) rfl rfl rfl (zW rfl rfl rfl rfl) (by kernel_rfl) (fun _ _ => xB rfl) ⟨g, a.pins, b.bx.reads, m⟩ ?_
    refine yG (i := 17) rfl rfl rfl (zW rfl rfl rfl rfl) (by kernel_rfl) (fun _ _ => zO (k := 2) rfl Tryz.underlying117 rfl nz57 rfl) ⟨g, a.pins, b.bx.reads, m⟩ ?_
    refine yG (i := 18) rfl rfl rfl (zW rfl rfl rfl rfl) (by kernel_rfl) (fun _ hS => zP (u := B) ag57 rfl (hS.2.2.1 2 _ rfl)) ⟨g, a.pins, b.bx.reads, m⟩ ?_
    refine yG (i := 19) rfl rfl rfl (zW rfl rfl rfl rfl) (by kernel_rfl) (fun _ _ => zU (v := d) rfl) ⟨g, a.pins, b.bx.reads, m⟩ ?_
    refine yG (i := 20) rfl rfl rfl (zW rfl rfl rfl rfl) (by kernel_rfl) (fun _ _ => zU (v := (vJ (n : Int))) rfl) ⟨g, a.pins, b.bx.reads, m⟩ ?_
    refine yG (i := 21) rfl rfl rfl (zW rfl rfl rfl rfl) (by kernel_rfl) (fun _ _ => zJ Tryz.underlying57 sz3 (v := d) rfl rfl b9 (by omega) (by omega)) ⟨g, a.pins, b.bx.reads, m⟩ ?_
    refine yG (i := 22) rfl rfl rfl (zW rfl rfl rfl rfl) (by kernel_rfl) (fun _ hS => zK (r := ls.getD n 0) rfl ag3 (z := (n : Int)) rfl b9 hS.1 (by omega) (by omega)) ⟨g, a.pins, b.bx.reads, m⟩ ?_
    refine yG (i := 23) rfl rfl rfl (zW rfl rfl rfl rfl) (by kernel_rfl) (fun _ _ => zJ Tryz.underlying57 sz3 (v := B) rfl rfl ct (by omega) (by omega)) ⟨g, a.pins, b.bx.reads, m⟩ ?_
    refine yG (i := 24) rfl rfl rfl (zW rfl rfl rfl rfl) (by kernel_rfl) (fun _ hS => zK (r := q.bs.getD (ls.getD n 0).toNat 0) rfl ag3 (z := (ls.getD n 0)) rfl ct hS.2.2.2 (by omega) (by omega)) ⟨g, a.pins, b.bx.reads, m⟩ ?_
    refine yG (i := 25) rfl rfl rfl (zW rfl rfl rfl rfl) (by kernel_rfl) (fun _ _ => r_eql rfl rfl) ⟨g, a.pins, b.bx.reads, m⟩ ?_
    refine dT (i := 26) rfl rfl (by kernel_rfl) (fun _ _ => xE (v := (.bool (decide ((q.bs.getD (ls.getD kk 0).toNat 0 : Int) = (q.bs.getD (ls.getD n 0).toNat 0))))) rfl rfl) ⟨g, a.pins, b.bx.reads, m⟩ ?_
    refine yT (by kernel_rfl) ?_
    refine zA ?_
    refine yI (p := (q.bs.getD (ls.getD kk 0).toNat 0 : Int) = (q.bs.getD (ls.getD n 0).toNat 0)) rfl rfl (fun dx => ?_) (fun dx => ?_)
    ·skip
     refine wp_skip ?_
     refine zA (zB ?_)
     refine zX ?_
     refine zB (zC ?_)
     refine qM d ?_
     refine qM (vJ (kk : Int)) ?_
     refine qD rfl (zJ Tryz.underlying57 sz3 (v := d) rfl rfl ca.read (by omega) (by omega)) ?_
     refine qD rfl (zK (r := ls.getD kk 0) rfl ag3 (z := (kk : Int)) rfl ca.read (Gadd.pins a.pins d) (by omega) (by omega)) ?_
     refine qM (vJ (ls.getD kk 0)) ?_
     refine qe (zA ?_)
     have jl := Gadd.pins a.pins L
     have jm := Gadd.pins a.pins R
     have jn := b.ol.read
     have jo := b.rr.read
     refine xG (S := fun wz => Pins ab wz ∧ BxR wz p [L, R, B, (.map (some mm.f)), (.map (some mm.o)), (.map (some mm.c)), (.map (some mm.s)), (.map (some mm.n))] ∧ Pins (Gadd ab an.drew L) wz ∧ Pins (Gadd ab an.drew R) wz) (last := 25) (by kernel_rfl) rfl ?_
     have au : Below an.drew.heap.size an.drew an.drew.drew := (Below.refl _ _).drew
     have fo := a.pins.below au
     have ad := a.step fo au
     have fp := dt.below au
     have fq := ca.below au
     have fr := du.below au
     have fs := (dv.below au).top
     have ft := dw.below au
     have af := b.below au fo
     have ag := jl.below au
     have ah := jm.below au
     refine dT (i := 0) rfl rfl (by kernel_rfl) (fun _ _ => zU (v := gv) rfl) ⟨ad.pins, af.bx.reads, ag, ah⟩ ?_
     refine dT (i := 1) rfl rfl (by kernel_rfl) (fun _ _ => zU (v := (vJ (ls.getD kk 0))) rfl) ⟨ad.pins, af.bx.reads, ag, ah⟩ ?_
     refine dT (i := 2) rfl rfl (by kernel_rfl) (fun _ hS => zP (u := (.pointer (some ⟨p, 0, none⟩))) ag69 rfl ((Pins.of_le hS.1 (Pin.le_trans (Pin.le_trans a0.le bu) ax)) _ _ _ (be 0 _ rfl))) ⟨ad.pins, af.bx.reads, ag, ah⟩ ?_
     refine dT (i := 3) rfl rfl (by kernel_rfl) (fun _ _ => xB rfl) ⟨ad.pins, af.bx.reads, ag, ah⟩ ?_
     refine dT (i := 4) rfl rfl (by kernel_rfl) (fun _ _ => zO (k := 0) rfl Tryz.underlying117 rfl nz115 rfl) ⟨ad.pins, af.bx.reads, ag, ah⟩ ?_
     refine dT (i := 5) rfl rfl (by kernel_rfl) (fun _ hS => zP (u := L) ag115 rfl (hS.2.1 0 _ rfl)) ⟨ad.pins, af.bx.reads, ag, ah⟩ ?_
     refine dT (i := 6) rfl rfl (by kernel_rfl) (fun _ _ => zU (v := (vJ (ls.getD kk 0))) rfl) ⟨ad.pins, af.bx.reads, ag, ah⟩ ?_
     refine dT (i := 7) rfl rfl (by kernel_rfl) (fun _ _ => zJ Tryz.underlying115 sz57 (v := L) rfl rfl jn (by omega) (by omega)) ⟨ad.pins, af.bx.reads, ag, ah⟩ ?_
     obtain ⟨jp, dy, jq⟩ := nm_sl (b.ol.at (z := (ls.getD kk 0)) (by omega) (by omega)) (j := (ls.getD kk 0).toNat) rfl
     rw [mapl_getD] at dy
     have ly := dy.max
     refine dT (i := 8) rfl rfl (by kernel_rfl) (fun _ hS => jq ag57 rfl hS.2.2.1) ⟨ad.pins, af.bx.reads, ag, ah⟩ ?_
     refine dT (i := 9) rfl rfl (by kernel_rfl) (fun _ _ => zU (v := (.map (some ak))) rfl) ⟨ad.pins, af.bx.reads, ag, ah⟩ ?_
     refine dT (i := 11) rfl rfl (by kernel_rfl) (fun _ hS => zP (u := (.pointer (some ⟨p, 0, none⟩))) ag69 rfl ((Pins.of_le hS.1 (Pin.le_trans (Pin.le_trans a0.le bu) ax)) _ _ _ (be 0 _ rfl))) ⟨ad.pins, af.bx.reads, ag, ah⟩ ?_
     refine dT (i := 12) rfl rfl (by kernel_rfl) (fun _ _ => xB rfl) ⟨ad.pins, af.bx.reads, ag, ah⟩ ?_
     refine dT (i := 13) rfl rfl (by kernel_rfl) (fun _ _ => zO (k := 1) rfl Tryz.underlying117 rfl nz115 rfl) ⟨ad.pins, af.bx.reads, ag, ah⟩ ?_
     refine dT (i := 14) rfl rfl (by kernel_rfl) (fun _ hS => zP (u := R) ag115 rfl (hS.2.1 1 _ rfl)) ⟨ad.pins, af.bx.reads, ag, ah⟩ ?_
     refine dT (i := 15) rfl rfl (by kernel_rfl) (fun _ _ => zU (v := (vJ (ls.getD kk 0))) rfl) ⟨ad.pins, af.bx.reads, ag, ah⟩ ?_
     refine dT (i := 16) rfl rfl (by kernel_rfl) (fun _ _ => zJ Tryz.underlying115 sz57 (v := R) rfl rfl jo (by omega) (by omega)) ⟨ad.pins, af.bx.reads, ag, ah⟩ ?_
     obtain ⟨jr, dz, js⟩ := nm_sl (b.rr.at (z := (ls.getD kk 0)) (by omega) (by omega)) (j := (ls.getD kk 0).toNat) rfl
     rw [mapr_getD] at dz
     have lz := dz.max
     refine dT (i := 17) rfl rfl (by kernel_rfl) (fun _ hS => js ag57 rfl hS.2.2.2) ⟨ad.pins, af.bx.reads, ag, ah⟩ ?_
     refine dT (i := 18) rfl rfl (by kernel_rfl) (fun _ _ => zU (v := (.map (some ak))) rfl) ⟨ad.pins, af.bx.reads, ag, ah⟩ ?_
     refine dO (i := 10) (zT (i := 10) rfl rfl rfl (zD rfl _) (zM (vs := [jp, (.map (some ak))]) Tryz.func121 nm121 rfl rfl rfl ?_))
     refine Calls.mono (ranked_spec ad.pins dy ft (by omega)) ?_
     rintro _ jt ⟨ac, ju, rfl, cb, ae⟩
     refine ⟨_, rfl, ?_⟩
     have cu := ad.tr ae
     have fu := fp.ext ae
     have fv := fq.ext ae
     have fw := fr.ext ae
     have fx := (fs.ext ae).top
     have fy := ft.below ae.below
     have fz := af.ext ae
     have f0 := zS cb.lt fp.lt
     have jv := zS cb.lt fq.lt
     have jw := zS cb.lt fr.lt
     have jx : ApL aa ac.ownBlock := ApL.fresh fs (fun k hk => (cb.lt k hk).1)
     have f1 : Own eInt 3 ju jt w.heap.size ac (sortM (((q.ns.getD (ls.getD kk 0).toNat default).l).map (rkI rk))) := cb.weaken ad.size
     have f2 := ag.below ae.below
     have f3 := ah.below ae.below
     refine ⟨fun _ => ⟨(Pins.of_le cu.pins ae.le), fz.bx.reads, f2, f3⟩, ?_⟩
     refine dO (i := 19) (zT (i := 19) rfl rfl rfl (zD rfl _) (zM (vs := [jr, (.map (some ak))]) Tryz.func121 nm121 rfl rfl rfl ?_))
     refine Calls.mono (ranked_spec cu.pins (dz.mono ae.le) fy (by omega)) ?_
     rintro _ jy ⟨ai, d0, rfl, bp, aj⟩
     refine ⟨_, rfl, ?_⟩
     have bq := cu.tr aj
     have jz := fu.ext aj
     have j0 := fv.ext aj
     have j1 := fw.ext aj
     have d1 := f1.ext aj
     have j2 := (fx.ext aj).top
     have j3 := fy.below aj.below
     have cv := fz.ext aj
     have f4 := zS bp.lt fu.lt
     have j4 := zS bp.lt fv.lt
     have j5 := zS bp.lt fw.lt
     have j6 := zS bp.lt f1.lt
     have j7 : ApL aa ai.ownBlock := ApL.fresh fx (fun k hk => (bp.lt k hk).1)
     have d2 : Own eInt 3 d0 jy w.heap.size ai (sortM (((q.ns.getD (ls.getD kk 0).toNat default).r).map (rkI rk))) := bp.weaken cu.size
     have cw := f2.below aj.below
     have cx := f3.below aj.below
     refine ⟨fun _ => ⟨(Pins.of_le bq.pins (Pin.le_trans ae.le aj.le)), cv.bx.reads, cw, cx⟩, ?_⟩
     refine dT (i := 20) rfl rfl (by kernel_rfl) (fun _ _ => xF [(.slice none 0 0), (.slice none 0 0)] [ac, ai] [(0, ac, [ac]), (1, ai, [ai])] Tryz.underlying68 zr68 rfl pl68 rfl (List.forall_mem_cons.2 ⟨(yY d1.one), (List.forall_mem_cons.2 ⟨(yY d2.one), (fun _ h => by cases h)⟩)⟩) rfl) ⟨(Pins.of_le bq.pins (Pin.le_trans ae.le aj.le)), cv.bx.reads, cw, cx⟩ ?_
     refine dT (i := 21) rfl rfl (by kernel_rfl) (fun _ _ => xF [(vJ 0), (.slice none 0 0), (.slice none 0 0)] [(vJ (ls.getD kk 0)), ac, ai] [(0, (vJ (ls.getD kk 0)), [(vJ (ls.getD kk 0))]), (1, (.agg [ac, ai].toArray), [ac, ai])] Tryz.underlying139 zr139 rfl pl139 rfl (List.forall_mem_cons.2 ⟨rfl, (List.forall_mem_cons.2 ⟨rfl, (fun _ h => by cases h)⟩)⟩) rfl) ⟨(Pins.of_le bq.pins (Pin.le_trans ae.le aj.le)), cv.bx.reads, cw, cx⟩ ?_
     refine dO (i := 22) (zT (i := 22) rfl rfl rfl (zD rfl _) (xC (E := eEnt) (e := 139) [(vJ (ls.getD kk 0)), ac, ai] (⟨ls.getD kk 0, ac, ai, ⟨sortM (((q.ns.getD (ls.getD kk 0).toNat default).l).map (rkI rk)), sortM (((q.ns.getD (ls.getD kk 0).toNat default).r).map (rkI rk))⟩⟩ : Ent) Tryz.underlying136 sz139 zr139 ⟨rfl, d1.one, d2.one⟩ rfl (by decide) bq.pins (fun f5 j8 j9 f6 ap l0 => ?_)))
     have cy := bq.step f6 ap
     have d3 := jz.below ap
     have f7 := j0.below ap
     have f8 := j1.below ap
     have f9 := d1.below ap
     have ga := d2.below ap
     have gb := (j2.below ap).top
     have gc := j3.below ap
     have d4 := cv.below ap f6
     have ka : Own eEnt 139 d0 j8 w.heap.size f5 ([(⟨ls.getD kk 0, ac, ai, ⟨sortM (((q.ns.getD (ls.getD kk 0).toNat default).l).map (rkI rk)), sortM (((q.ns.getD (ls.getD kk 0).toNat default).r).map (rkI rk))⟩⟩ : Ent)]) := j9.weaken bq.size
     have gd := cw.below ap
     have ge := cx.below ap
     refine ⟨fun _ => ⟨(Pins.of_le cy.pins (Pin.le_trans ae.le aj.le)), d4.bx.reads, gd, ge⟩, ?_⟩
     refine dO (i := 23) (zT (i := 23) rfl rfl rfl (zD rfl _) (oA (E := eEnt) (v := gv) (u := f5) 56 Tryz.underlying136 ap139 (by decide) rfl rfl cy.pins d3 ka.src (cy.size) (fun az l1 kb cz av br => ?_)))
     have cc := cy.write cz av ((yB d3))
     have kc := f7.keptA av a8.symm
     have kd := f8.keptA av a9.symm
     have ke := f9.keptA av f0
     have kf := ga.keptA av f4
     have kg := (gb.kept av a1).top
     have kh := gc.kept av (yO gc d3)
     have d5 := d4.kept av cz a2
     have ki : Apart d.ownBlock az.ownBlock := zG a8.symm br f7.lt
     have kj : Apart nv.ownBlock az.ownBlock := zG a9.symm br f8.lt
     have kl : Apart ac.ownBlock az.ownBlock := zG f0 br f9.lt
     have km : Apart ai.ownBlock az.ownBlock := zG f4 br ga.lt
     have kn : ApL aa az.ownBlock := ApL.app gb a1 br
     have ko := np_app a2 d4 br
     have l2 : (gs ++ ([(⟨ls.getD kk 0, ac, ai, ⟨sortM (((q.ns.getD (ls.getD kk 0).toNat default).l).map (rkI rk)), sortM (((q.ns.getD (ls.getD kk 0).toNat default).r).map (rkI rk))⟩⟩ : Ent)])).length = gs.length + 1 := List.length_append
     have gf := Gadd.turn gd (Pins.of_le cc.pins (Pin.le_trans ae.le aj.le)) (Ext.one cz av) (notO (NP.hl a2).symm)
     have gg := Gadd.turn ge (Pins.of_le cc.pins (Pin.le_trans ae.le aj.le)) (Ext.one cz av) (notO (NP.hr a2).symm)
     refine ⟨fun _ => ⟨(Pins.of_le cc.pins (Pin.le_trans ae.le aj.le)), d5.bx.reads, gf, gg⟩, ?_⟩
     refine dT (i := 24) rfl rfl (by kernel_rfl) (fun _ _ => qG (v := az) rfl) ⟨(Pins.of_le cc.pins (Pin.le_trans ae.le aj.le)), d5.bx.reads, gf, gg⟩ ?_
     refine yT (by kernel_rfl) ?_
     refine yJ ?_
     refine zA (zC ?_)
     refine qM (vJ (kk : Int)) ?_
     refine qD rfl (yR rfl rfl (by omega)) ?_
     refine qM (vJ ((kk : Int) + 1)) ?_
     refine qe ?_
     refine yK ?_
     have kp := kg.add ke jx
     have kq : ApL (aa ++ [(ac, sortM (((q.ns.getD (ls.getD kk 0).toNat default).l).map (rkI rk)))]) d.ownBlock := bw.add jv
     have kr : ApL (aa ++ [(ac, sortM (((q.ns.getD (ls.getD kk 0).toNat default).l).map (rkI rk)))]) nv.ownBlock := bz.add jw
     have ks : ApL (aa ++ [(ac, sortM (((q.ns.getD (ls.getD kk 0).toNat default).l).map (rkI rk)))]) ai.ownBlock := j7.add j6.symm
     have kt : ApL (aa ++ [(ac, sortM (((q.ns.getD (ls.getD kk 0).toNat default).l).map (rkI rk)))]) az.ownBlock := kn.add kl
     have ku := kp.add kf ks
     have kv : ApL ((aa ++ [(ac, sortM (((q.ns.getD (ls.getD kk 0).toNat default).l).map (rkI rk)))]) ++ [(ai, sortM (((q.ns.getD (ls.getD kk 0).toNat default).r).map (rkI rk)))]) d.ownBlock := kq.add j4
     have kw : ApL ((aa ++ [(ac, sortM (((q.ns.getD (ls.getD kk 0).toNat default).l).map (rkI rk)))]) ++ [(ai, sortM (((q.ns.getD (ls.getD kk 0).toNat default).r).map (rkI rk)))]) nv.ownBlock := kr.add j5
     have kx : ApL ((aa ++ [(ac, sortM (((q.ns.getD (ls.getD kk 0).toNat default).l).map (rkI rk)))]) ++ [(ai, sortM (((q.ns.getD (ls.getD kk 0).toNat default).r).map (rkI rk)))]) az.ownBlock := kt.add km
     refine ⟨_, ?_, _, rfl, _, kk + 1, az, gs ++ ([(⟨ls.getD kk 0, ac, ai, ⟨sortM (((q.ns.getD (ls.getD kk 0).toNat default).l).map (rkI rk)), sortM (((q.ns.getD (ls.getD kk 0).toNat default).r).map (rkI rk))⟩⟩ : Ent)]), (aa ++ [(ac, sortM (((q.ns.getD (ls.getD kk 0).toNat default).l).map (rkI rk)))]) ++ [(ai, sortM (((q.ns.getD (ls.getD kk 0).toNat default).r).map (rkI rk)))], d0, (pS 11 (pS 10 (pS 9 (pS 8 (pS 7 (pS 6 (pS 5 (pS 4 (pU 2))))))))), rfl, cc, (Pin.le_trans (Pin.le_trans ax ae.le) aj.le), (by rw [List.length_append]; simp; omega), (hgr.ent hor hok a4 hrk hkk (by omega) dx), (by rw [lvE_app, ← List.append_assoc, List.append_assoc aa]; exact a7.append_right _), kb, kc, kd, ki.symm, kj.symm, ku, kx, kv, kw, kh, d5, ko⟩
     omega
    refine wp_exit ?_
    refine yA ?_
    refine yN ?_
    exact cutE_in ⟨_, kk, gv, gs, aa, ab, (pS 11 (pS 10 (pS 9 (pS 8 (pS 7 (pS 6 (pS 5 (pS 4 (pU 2))))))))), a, ax, hkk, hgr, a7, (Or.inr (by rw [← hkk]; exact dx)), dt, ca, du, a8, a9, dv, a1, bw, bz, dw, b, a2⟩
   refine zY (i := 5) rfl rfl (yE rfl rfl rfl rfl rfl) (by kernel_rfl) ⟨g, a.pins, b.bx.reads, m⟩ ?_
   refine zY (i := 6) rfl rfl (yE rfl rfl rfl rfl rfl) (by kernel_rfl) ⟨g, a.pins, b.bx.reads, m⟩ ?_
   refine zY (i := 7) rfl rfl (yE rfl rfl rfl rfl rfl) (by kernel_rfl) ⟨g, a.pins, b.bx.reads, m⟩ ?_
   refine zY (i := 8) rfl rfl (yE rfl rfl rfl rfl rfl) (by kernel_rfl) ⟨g, a.pins, b.bx.reads, m⟩ ?_
   refine zY (i := 9) rfl rfl (yE rfl rfl rfl rfl rfl) (by kernel_rfl) ⟨g, a.pins, b.bx.reads, m⟩ ?_
   refine zY (i := 10) rfl rfl (yE rfl rfl rfl rfl rfl) (by kernel_rfl) ⟨g, a.pins, b.bx.reads, m⟩ ?_
   refine zY (i := 11) rfl rfl (yE rfl rfl rfl rfl rfl) (by kernel_rfl) ⟨g, a.pins, b.bx.reads, m⟩ ?_
   refine zY (i := 12) rfl rfl (yE rfl rfl rfl rfl rfl) (by kernel_rfl) ⟨g, a.pins, b.bx.reads, m⟩ ?_
   refine zY (i := 13) rfl rfl (yE rfl rfl rfl rfl rfl) (by kernel_rfl) ⟨g, a.pins, b.bx.reads, m⟩ ?_
   refine zY (i := 14) rfl rfl (yE rfl rfl rfl rfl rfl) (by kernel_rfl) ⟨g, a.pins, b.bx.reads, m⟩ ?_
   refine zY (i := 15) rfl rfl (yE rfl rfl rfl rfl rfl) (by kernel_rfl) ⟨g, a.pins, b.bx.reads, m⟩ ?_
   refine zY (i := 16) rfl rfl (yE rfl rfl rfl rfl rfl) (by kernel_rfl) ⟨g, a.pins, b.bx.reads, m⟩ ?_
   refine zY (i := 17) rfl rfl (yE rfl rfl rfl rfl rfl) (by kernel_rfl) ⟨g, a.pins, b.bx.reads, m⟩ ?_
   refine zY (i := 18) rfl rfl (yE rfl rfl rfl rfl rfl) (by kernel_rfl) ⟨g, a.pins, b.bx.reads, m⟩ ?_
   refine zY (i := 19) rfl rfl (yE rfl rfl rfl rfl rfl) (by kernel_rfl) ⟨g, a.pins, b.bx.reads, m⟩ ?_
   refine zY (i := 20) rfl rfl (yE rfl rfl rfl rfl rfl) (by kernel_rfl) ⟨g, a.pins, b.bx.reads, m⟩ ?_
   refine zY (i := 21) rfl rfl (yE rfl rfl rfl rfl rfl) (by kernel_rfl) ⟨g, a.pins, b.bx.reads, m⟩ ?_
   refine zY (i := 22) rfl rfl (yE rfl rfl rfl rfl rfl) (by kernel_rfl) ⟨g, a.pins, b.bx.reads, m⟩ ?_
   refine zY (i := 23) rfl rfl (yE rfl rfl rfl rfl rfl) (by kernel_rfl) ⟨g, a.pins, b.bx.reads, m⟩ ?_
   refine zY (i := 24) rfl rfl (yE rfl rfl rfl rfl rfl) (by kernel_rfl) ⟨g, a.pins, b.bx.reads, m⟩ ?_
   refine zY (i := 25) rfl rfl (yE rfl rfl rfl rfl rfl) (by kernel_rfl) ⟨g, a.pins, b.bx.reads, m⟩ ?_
   refine dT (i := 26) rfl rfl (by kernel_rfl) (fun _ _ => xA (v := (.bool false)) rfl rfl) ⟨g, a.pins, b.bx.reads, m⟩ ?_
   refine yT (by kernel_rfl) ?_
   refine zA ?_
   refine c_ifF rfl rfl ?_
   refine wp_exit ?_
   refine yA ?_
   refine yN ?_
   exact cutE_in ⟨_, kk, gv, gs, aa, ab, (pS 11 (pS 10 (pS 9 (pS 8 (pS 7 (pS 6 (pS 5 (pS 4 (pU 2))))))))), a, ax, hkk, hgr, a7, (Or.inl (by omega)), dt, ca, du, a8, a9, dv, a1, bw, bz, dw, b, a2⟩
 refine wp_exit ?_
 refine yA ?_
 refine yN ?_
 refine yL ?_
 refine zA (zB (zC ?_))
 refine qM d ?_
 refine qM nv ?_
 refine qM d ?_
 refine qM nv ?_
 refine qe (zA ?_)
 refine wp_ret ?_
 refine zR ?_
 refine c_ret2 (v := d) (u := nv) rfl rfl rfl rfl rfl ?_
 have hnn : n = ls.length := by omega
 rw [hnn] at hor
 have hon := dc
 rw [hps] at hon
 have hlv := dd.perm hLV
 have hap := el.perm hLV
 rw [lvE_lvN] at hlv hap
 exact ⟨_, _, ls, done.map Ent.nd, c4, _, rfl, ch, ⟨done.map Ent.pr, by rw [List.length_map, List.length_map], hon, fun k hk => (hon.lt k hk).2, hlv, hap⟩, hor, a4, cg⟩

end OD1
end Go.Proofs.YtkfgdhanaijddaaGreatDoor

set_option maxRecDepth 20000
set_option maxHeartbeats 2000000
namespace Go.Proofs.YtkfgdhanaijddaaGreatDoor
namespace FO1
open Go.RowKit Go.GL Go.Proofs
open Go.Proofs.YtkfgdhanaijddaaGreatDoor.B1
open Go.Proofs.YtkfgdhanaijddaaGreatDoor.PO1
open Go.Proofs.YtkfgdhanaijddaaGreatDoor.PA1
open Go.Proofs.YtkfgdhanaijddaaGreatDoor.SO1
open Go.Proofs.YtkfgdhanaijddaaGreatDoor.OD1






theorem pl28 : (Tryz.prog.underlying 28).bind (placesD Tryz.prog) = some [(0, 1)] := by kernel_rfl






theorem form_spec {w : World} {G : Pin} {p : Nat} {L R B : Value} {mm : PM} {q : PSt} (hP : Pins G w) (hpk : Pk 57 3 G w p L R B mm q) (hok : PoolOk q) {i : Int} (hi : PlaceOk q i) :
  Calls Tryz.prog 47 [(.pointer (some ⟨p, 0, none⟩)), (vJ i)].toArray w fun e w' => ∃ (u : Value) (G' : Pin), e = .returned (.tuple #[(.agg [u].toArray), .bool (fitB (pd q i))]) ∧ DForm 68 3 G' w' w.heap.size w'.heap.size u (frmG (pd q i)) ∧ Ext noS G w G' w' := by
 refine yD (n := 44) Tryz.func47 Tryz.ntmps47 rfl rfl ?_
 have aj : Ext noS G w G w := Ext.refl hP
 have hpin : PIn w (inP p L R B mm) p L R B mm := PIn.self
 have ea : (q.ns.map Nd.l).length = q.ns.length ∧ (q.ns.map Nd.r).length = q.ns.length := ⟨List.length_map .., List.length_map ..⟩
 have eb : q.bs.length = q.ns.length ∧ q.ns.length ≤ 1048576 := ⟨hok.ar.ok.len, hok.ar.ok.lim⟩
 have ec := hi.1
 have ed := hi.2
 have a1 := place_one hi
 refine zB (zC ?_)
 refine qI rfl (yH [(.slice none 0 0)] zr28 rfl aj.pins (fun d w4 ef a2 a3 a4 => ?_))
 have ak := aj.step a3 a4
 have a5 := hpk.below a4 a3
 have ac : w.heap.size ≤ d := by have := aj.size; omega
 refine qM (.bool false) ?_
 refine qe (zA (zB (zB (zC ?_))))
 refine qM (.pointer (some ⟨p, 0, none⟩)) ?_
 refine qM (vJ i) ?_
 refine qI rfl (yU (E := eInt) (e := 3) [(vJ i)] [i] Tryz.underlying57 sz3 zr3 (by exact xQ (by rfl)) (yC (by rfl)) rfl rfl rfl rfl (by decide) ak.pins (fun ad b4 b5 a6 al a7 => ?_))
 have b6 := ak.step a6 al
 have b7 := a2.below al
 have b8 := a5.below al a6
 have b9 : Apart ad.ownBlock (some d) := zH a7 a2.lt
 have ca := a5.new (x := ad.ownBlock) (fun k hk => by rw [a7] at hk; cases hk; exact Nat.le_refl _)
 have cb : Own eInt 3 G b4 w.heap.size ad ([i]) := b5.weaken ak.size
 obtain ⟨eg, cc, am, cd, a8⟩ := cb.sealed b6
 have ce := b7.moreO a8 b9.symm
 have a9 := b8.moreO cc a8 ca
 refine qI rfl (zM (vs := [(.pointer (some ⟨p, 0, none⟩)), ad]) Tryz.func101 nm101 rfl rfl rfl ?_)
 refine Calls.mono (parts_spec am.pins a9 hok cd a1 (by simp)) ?_
 rintro _ cf ⟨ba, bb, bc, rfl, cg, bd, an⟩
 refine ⟨_, rfl, ?_⟩
 have s := am.tr an
 have ao := ce.ext an
 have be := a9.ext an
 have ch : Own eInt 3 bc cf w.heap.size ba bb := cg.weaken am.size
 have eh := bd.len
 have hfl := form_len hok hi bd
 refine qD rfl (zN Tryz.underlying57 (v := ba) rfl ch.read) ?_
 refine qD rfl (r_gtr rfl rfl) ?_
 refine qe (zA ?_)
 refine yI (p := (120 : Int) < (bb.length : Int)) rfl rfl (fun ci => ?_) (fun ci => ?_)
 ·skip
  refine zB (zC ?_)
  refine qD rfl (xF [(.slice none 0 0)] [(.slice none 0 0)] [] Tryz.underlying28 zr28 rfl pl28 rfl (fun _ h => by cases h) rfl) ?_
  refine q0 rfl rfl rfl (yM (cs' := [(.slice none 0 0)]) (us := [(.slice none 0 0)]) (v := (.agg [(.slice none 0 0)].toArray)) sz28 rfl rfl rfl (yC (by rfl)) s.pins ao (Nat.le_of_ble_eq_true rfl) rfl (fun ei cj ck cl ej => ?_))
  have cm := s.write ck cl ((zV ac))
  refine qM (.bool false) ?_
  refine qe (zA ?_)
  refine wp_ret ?_
  refine zR ?_
  refine qE (cs := [(.slice none 0 0)]) (v := (.bool false)) rfl rfl rfl rfl rfl ag28 sz28 (fun j u hj => by rw [Nat.zero_add]; exact cj.cell hj) ?_
  have hfb : fitB (pd q i) = false := fit_long (by omega)
  rw [hfb, frm_no hfb]
  exact ⟨_, _, rfl, DForm.nil, cm⟩
 refine wp_skip ?_
 refine zA (zB (zC ?_))
 refine qM (.pointer (some ⟨p, 0, none⟩)) ?_
 refine qM (vJ i) ?_
 refine qI rfl (yU (E := eInt) (e := 3) [(vJ i)] [i] Tryz.underlying57 sz3 zr3 (by exact xQ (by rfl)) (yC (by rfl)) rfl rfl rfl rfl (by decide) s.pins (fun ae cn co bf ap bg => ?_))
 have cp := s.step bf ap
 have cq := ao.below ap
 have cr := be.below ap bf
 have ct : Apart ae.ownBlock (some d) := zH bg ao.lt
 have cu := be.new (x := ae.ownBlock) (fun k hk => by rw [bg] at hk; cases hk; exact Nat.le_refl _)
 have cv : Own eInt 3 bc cn w.heap.size ae ([i]) := co.weaken s.size
 obtain ⟨ek, cw, af, cx, bh⟩ := cv.sealed cp
 have aq := cq.moreO bh ct.symm
 have bi := cr.moreO cw bh cu
 refine qI rfl (zM (vs := [(.pointer (some ⟨p, 0, none⟩)), ae]) Tryz.func65 nm65 rfl rfl rfl ?_)
 refine Calls.mono (order_spec af.pins bi hok cx a1 (by simp)) ?_
 rintro _ el ⟨au, b, em, c, eo, bj, rfl, ep, cy, cz, c0, av⟩
 refine ⟨_, rfl, ?_⟩
 have c1 := af.tr av
 have c2 := aq.ext av
 have c3 := bi.ext av
 have hfo := cz.form hok c0
 obtain ⟨a, c4, bk, er, bl, c5⟩ := cy.ex
 have bm := bk.weaken af.size
 have c6 := (bl.weaken af.size (Nat.le_refl _)).top
 have c7 : Apart (some d) b.ownBlock := (zZ bk.lt aq.lt).symm
 have c8 : ApL (lvN a c) (some d) := fun p hp => zZ (bl.own p hp).lt aq.lt
 refine qM (.tuple #[au, b]) ?_
 refine qD rfl (yW (v := au) rfl rfl) ?_
 refine qD rfl (yW (v := b) rfl rfl) ?_
 refine qM au ?_
 refine qM b ?_
 refine qe (zA (zB (zB (zC ?_))))
 refine qM b ?_
 refine qD rfl (zN Tryz.underlying26 (v := b) rfl bm.read) ?_
 refine qM (vJ 0) ?_
 refine qe (zA ?_)
 refine zX ?_
 have hlo := hfo.1.lo
 have hlf := hfo.eq
 rw [hlf] at hfl
 refine yQ (fun (k : Nat) (en : Nat → Value) (W : World) => ∃ (bn : Nat → Value) (j : Nat) (f : Pin), en = (upd (upd (upd (upd (upd bn 4 (.pointer (some ⟨d, 0, none⟩))) 7 b) 24 b) 25 (vJ (a.length : Int))) 26 (vJ (j : Int))) ∧ k = c.length - j ∧ Ext noS G w f W ∧ Pin.le bj f ∧ (j ≤ c.length) ∧ (∀ k, k < j → (c.getD k default).l.length ≤ 24 ∧ (c.getD k default).r.length ≤ 24) ∧ (Own eVal2 68 f W w.heap.size b (a)) ∧ (Bx f W d [(.slice none 0 0)]) ∧ (Lvs 3 f W w.heap.size W.heap.size (lvN a c)) ∧ (ApL (lvN a c) b.ownBlock) ∧ (ApL (lvN a c) (some d)) ∧ (Pk 57 3 f W p L R B mm q)) _ ⟨_, 0, bj, (pS 26 (pS 25 (pS 24 (pS 7 (pU 4))))), rfl, c1, Pin.le_refl _, Nat.zero_le _, (fun k hk => absurd hk (Nat.not_lt_zero k)), bm, c2, c6, c5, c8, c3⟩ ?_
 rintro es _ et ⟨bn, j, f, rfl, eu, o, c9, hj, hop, g, aw, ax, bo, bp, bq⟩
 refine zB (zC ?_)
 refine qD rfl (yV rfl rfl) ?_
 refine qe (zA (zB ?_))
 refine yI (p := ((j : Int) : Int) < (a.length : Int)) rfl rfl (fun da => ?_) (fun da => ?_)
 ·skip
  refine wp_skip ?_
  refine zA (zB ?_)
  refine zX ?_
  refine zB (zC ?_)
  refine qD rfl (zJ Tryz.underlying26 sz68 (v := b) rfl rfl g.read (by omega) (by omega)) ?_
  obtain ⟨ev, db, dc, ew⟩ := nm_el (j := j) default (g.at (z := (j : Int)) (by omega) (by omega)) rfl
  obtain ⟨rfl, dd, de⟩ := db
  refine qD rfl (dc ag68 sz68 rfl (Gadd.pins o.pins b)) ?_
  refine qI rfl (yH [(.slice none 0 0), (.slice none 0 0)] zr68 rfl o.pins (fun y ey ag df br aa => ?_))
  have bt := o.step br aa
  have dg := g.below aa
  have dh := aw.below aa
  have di := (ax.below aa).top
  have dj := bq.below aa br
  have bu : Apart (some y) b.ownBlock := zI (congrArg some ag) g.lt
  have bv : Apart (some y) (some d) := zH (congrArg some ag) aw.lt
  have bw : ApL (lvN a c) (some y) := ApL.fresh ax (fun k hk => by rw [(congrArg some ag)] at hk; cases hk; exact Nat.le_refl _)
  have bx := bq.new (x := (some y)) (fun k hk => by rw [(congrArg some ag)] at hk; cases hk; exact Nat.le_refl _)
  have bz : w.heap.size ≤ y := by have := o.size; omega
  refine q0 rfl rfl rfl (yM (cs' := [(a.getD j default).1, (a.getD j default).2]) (us := [(a.getD j default).1, (a.getD j default).2]) (v := (.agg [(a.getD j default).1, (a.getD j default).2].toArray)) sz68 rfl rfl rfl (ones2 dd de) bt.pins df (Nat.le_of_ble_eq_true rfl) rfl (fun ez dk b0 ab e0 => ?_))
  have dl := bt.write b0 ab ((zV bz))
  have dm := dg.keptA ab bu.symm
  have dn := dh.keptA ab bv.symm
  have dp := (di.kept ab bw).top
  have dq := dj.kept ab b0 bx
  obtain ⟨dr, ah, m, b1, ai⟩ := dk.shut dl bz
  have ds := dm.moreA ah ai bu.symm
  have ay := dn.moreA ai bv.symm
  have az := dp.more ah ai bw
  have dt := dq.more ah ai bx
  refine qe (zA (zB (zC ?_)))
  have hpj : a[j]? = some (a.getD j default) := by simp [List.getD, show j < a.length by omega]
  have hnj : c[j]? = some (c.getD j default) := by simp [List.getD, show j < c.length by omega]
  have du := (az.own _ (lvN_mem hpj hnj).1).read
  have dv := (az.own _ (lvN_mem hpj hnj).2).read
  refine qD rfl (zO (k := 0) rfl Tryz.underlying68 rfl nz57 rfl) ?_
  refine qD rfl (zP (u := (a.getD j default).1) ag57 rfl (m.pins _ _ _ (b1 0 _ rfl))) ?_
  refine qD rfl (zN Tryz.underlying57 (v := (a.getD j default).1) rfl du) ?_
  refine qD rfl (r_gtr rfl rfl) ?_
  refine qM (.bool (decide ((24 : Int) < (((c.getD j default).l).length : Int)))) ?_
  refine qbd (p := (24 : Int) < (((c.getD j default).l).length : Int)) (t := 34) rfl (fun dw => ?_) (fun dw => ?_)
  ·skip
   refine qW ?_
   refine qW ?_
   refine qW ?_
   refine qW ?_
   refine qD rfl (xE (v := (.bool true)) rfl rfl) ?_
   refine qe (zA ?_)
   refine c_ifT rfl rfl ?_
   refine zB (zC ?_)
   refine qD rfl (xF [(.slice none 0 0)] [(.slice none 0 0)] [] Tryz.underlying28 zr28 rfl pl28 rfl (fun _ h => by cases h) rfl) ?_
   refine q0 rfl rfl rfl (yM (cs' := [(.slice none 0 0)]) (us := [(.slice none 0 0)]) (v := (.agg [(.slice none 0 0)].toArray)) sz28 rfl rfl rfl (yC (by rfl)) m.pins ay (Nat.le_of_ble_eq_true rfl) rfl (fun e1 dx dy dz e2 => ?_))
   have d0 := m.write dy dz ((zV ac))
   refine qM (.bool false) ?_
   refine qe (zA ?_)
   refine wp_ret ?_
   refine zR ?_
   refine qE (cs := [(.slice none 0 0)]) (v := (.bool false)) rfl rfl rfl rfl rfl ag28 sz28 (fun j u hj => by rw [Nat.zero_add]; exact dx.cell hj) ?_
   have hfb : fitB (pd q i) = false := fit_opt hfo (k := j) (by omega) (by omega)
   rw [hfb, frm_no hfb]
   exact ⟨_, _, rfl, DForm.nil, d0⟩
  refine qN (zO (k := 1) rfl Tryz.underlying68 rfl nz57 rfl) ?_
  refine qN (zP (u := (a.getD j default).2) ag57 rfl (m.pins _ _ _ (b1 1 _ rfl))) ?_
  refine qN (zN Tryz.underlying57 (v := (a.getD j default).2) rfl dv) ?_
  refine qN (r_gtr rfl rfl) ?_
  refine qD rfl (xA (v := (.bool (decide ((24 : Int) < (((c.getD j default).r).length : Int))))) rfl rfl) ?_
  refine qe (zA ?_)
  refine yI (p := (24 : Int) < (((c.getD j default).r).length : Int)) rfl rfl (fun d1 => ?_) (fun d1 => ?_)
  ·skip
   refine zB (zC ?_)
   refine qD rfl (xF [(.slice none 0 0)] [(.slice none 0 0)] [] Tryz.underlying28 zr28 rfl pl28 rfl (fun _ h => by cases h) rfl) ?_
   refine q0 rfl rfl rfl (yM (cs' := [(.slice none 0 0)]) (us := [(.slice none 0 0)]) (v := (.agg [(.slice none 0 0)].toArray)) sz28 rfl rfl rfl (yC (by rfl)) m.pins ay (Nat.le_of_ble_eq_true rfl) rfl (fun e3 d2 d3 d4 e4 => ?_))
   have d5 := m.write d3 d4 ((zV ac))
   refine qM (.bool false) ?_
   refine qe (zA ?_)
   refine wp_ret ?_
   refine zR ?_
   refine qE (cs := [(.slice none 0 0)]) (v := (.bool false)) rfl rfl rfl rfl rfl ag28 sz28 (fun j u hj => by rw [Nat.zero_add]; exact d2.cell hj) ?_
   have hfb : fitB (pd q i) = false := fit_opt hfo (k := j) (by omega) (by omega)
   rw [hfb, frm_no hfb]
   exact ⟨_, _, rfl, DForm.nil, d5⟩
  refine wp_skip ?_
  refine yJ ?_
  refine zA (zC ?_)
  refine qD rfl (yR rfl rfl (by omega)) ?_
  refine qM (vJ ((j : Int) + 1)) ?_
  refine qe ?_
  refine yK ?_
  refine ⟨_, ?_, _, rfl, _, j + 1, dr, (pS 26 (pS 25 (pS 24 (pS 7 (pU 4))))), rfl, m, (Pin.le_trans c9 ah), (by omega), (fun k hk => if h : k = j then h ▸ (by omega) else hop k (by omega)), ds, ay, az, bo, bp, dt⟩
  omega
 refine wp_exit ?_
 refine yA ?_
 refine yN ?_
 refine yL ?_
 refine zA (zB (zC ?_))
 refine qM b ?_
 refine qD rfl (xF [(.slice none 0 0)] [b] [(0, b, [b])] Tryz.underlying28 zr28 rfl pl28 rfl (List.forall_mem_cons.2 ⟨(yY g.one), (fun _ h => by cases h)⟩) rfl) ?_
 refine q0 rfl rfl rfl (yM (cs' := [b]) (us := [b]) (v := (.agg [b].toArray)) sz28 rfl rfl rfl (yC g.one) o.pins aw (Nat.le_of_ble_eq_true rfl) rfl (fun e5 d6 d7 a0 e6 => ?_))
 have d8 := o.write d7 a0 ((zV ac))
 have b2 := g.keptA a0 c7.symm
 have d9 := (ax.kept a0 bp).top
 refine qM (.bool true) ?_
 refine qe (zA ?_)
 refine wp_ret ?_
 refine zR ?_
 refine qE (cs := [b]) (v := (.bool true)) rfl rfl rfl rfl rfl ag28 sz28 (fun j u hj => by rw [Nat.zero_add]; exact d6.cell hj) ?_
 have hfb : fitB (pd q i) = true := fit_yes hfo (by omega) (fun k hk => hop k (by omega))
 rw [hfb, frm_yes hfo hfb]
 exact ⟨_, _, rfl, ⟨a, c4, b2, (fun k hk => (b2.lt k hk).2), d9, bo⟩, d8⟩

end FO1
end Go.Proofs.YtkfgdhanaijddaaGreatDoor

set_option maxRecDepth 20000
set_option maxHeartbeats 2000000
namespace Go.Proofs.YtkfgdhanaijddaaGreatDoor
namespace NG1
open Go.RowKit Go.GL Go.Proofs
open Go.Proofs.YtkfgdhanaijddaaGreatDoor.B1
open Go.Proofs.YtkfgdhanaijddaaGreatDoor.K1
open Go.Proofs.YtkfgdhanaijddaaGreatDoor.PO1
open Go.Proofs.YtkfgdhanaijddaaGreatDoor.PL1















def SumP (m p : Nat) (mm : PM) : Prop := ∀ {w : World} {G : Pin} {L R B : Value} {q : PSt} {fa fb : Int} {qz : PSt} {S : List Nat} (_ : Pins G w) (_ : Pk 57 3 G w p L R B mm q) (_ : PoolOk q) (_ : PlaceOk q fa) (_ : PlaceOk q fb) (_ : Bud qz q S) (_ : ∀ x y, SubG (pd q fa) x → SubG (pd q fb) y → addG x y ∈ S) (_ : fa < 524288 ∧ fb < 524288), fa.toNat + fb.toNat < m →
  Calls Tryz.prog 48 [(.pointer (some ⟨p, 0, none⟩)), (.int .i64 fa), (.int .i64 fb)].toArray w fun e w' => ∃ (z : Int) (L' R' B' : Value) (q' : PSt) (G' : Pin), e = .returned (.int .i64 z) ∧ Pk 57 3 G' w' p L' R' B' mm q' ∧ PoolOk q' ∧ PX q q' ∧ PLo w p L R B mm L' R' B' ∧ Ext (inP p L R B mm) G w G' w' ∧ PlaceOk q' z ∧ pd q' z = addG (pd q fa) (pd q fb) ∧ Bud qz q' S

theorem sum_step {w : World} {G : Pin} {L R B : Value} {q : PSt} {fa fb : Int} {p : Nat} {mm : PM} {qz : PSt} {S : List Nat} {m : Nat} (hP : Pins G w) (hpk : Pk 57 3 G w p L R B mm q) (hok : PoolOk q) (hfa : PlaceOk q fa) (hfb : PlaceOk q fb) (hbd : Bud qz q S) (hS : ∀ x y, SubG (pd q fa) x → SubG (pd q fb) y → addG x y ∈ S) (hh : fa < 524288 ∧ fb < 524288) (ih : SumP m p mm) (hm : fa.toNat + fb.toNat < m + 1) :
  Calls Tryz.prog 48 [(.pointer (some ⟨p, 0, none⟩)), (vJ fa), (vJ fb)].toArray w fun e w' => ∃ (z : Int) (L' R' B' : Value) (q' : PSt) (G' : Pin), e = .returned (vJ z) ∧ Pk 57 3 G' w' p L' R' B' mm q' ∧ PoolOk q' ∧ PX q q' ∧ PLo w p L R B mm L' R' B' ∧ Ext (inP p L R B mm) G w G' w' ∧ PlaceOk q' z ∧ pd q' z = addG (pd q fa) (pd q fb) ∧ Bud qz q' S := by
 refine yD (n := 128) Tryz.func48 Tryz.ntmps48 rfl rfl ?_
 have cv : Ext (inP p L R B mm) G w G w := Ext.refl hP
 have hpin : PIn w (inP p L R B mm) p L R B mm := PIn.self
 have la : (q.ns.map Nd.l).length = q.ns.length ∧ (q.ns.map Nd.r).length = q.ns.length := ⟨List.length_map .., List.length_map ..⟩
 have lb : q.bs.length = q.ns.length ∧ q.ns.length ≤ 1048576 := ⟨hok.ar.ok.len, hok.ar.ok.lim⟩
 have lc := hfa.1
 have ld := hfa.2
 have lf := hfb.1
 have lg := hfb.2
 have hola := hok.ar.ok.lens (fa).toNat (by omega)
 have holb := hok.ar.ok.lens (fb).toNat (by omega)
 have holas := len_half hok hfa
 have holbs := len_half hok hfb
 refine zB (zC ?_)
 refine qM (vJ 0) ?_
 refine qe (zA (zB (zC ?_)))
 refine qM (vJ fa) ?_
 refine qM (vJ fb) ?_
 refine qD rfl (r_buildA (m := 1) [(vJ 0), (vJ 0)] [(vJ fa), (vJ fb)] [(0, (vJ fa), [(vJ fa)]), (1, (vJ fb), [(vJ fb)])] Tryz.underlying118 zr118 rfl sz3 rfl (List.forall_mem_cons.2 ⟨rfl, (List.forall_mem_cons.2 ⟨rfl, (fun _ h => by cases h)⟩)⟩) rfl) ?_
 refine qI rfl (yH [(vJ 0), (vJ 0)] zr118 rfl cv.pins (fun b3 w4 g4 g5 ew ex => ?_))
 have ey := cv.step ew ex
 have g6 := hpk.below ex ew
 have ez := hpk.new (x := (some b3)) (fun k hk => by rw [(congrArg some g4)] at hk; cases hk; exact Nat.le_refl _)
 have e0 : w.heap.size ≤ b3 := by have := cv.size; omega
 refine q0 rfl rfl rfl (yM (cs' := [(vJ fa), (vJ fb)]) (us := [(vJ fa), (vJ fb)]) (v := (.agg [(vJ fa), (vJ fb)].toArray)) sz118 rfl rfl rfl (ones2 (by rfl) (by rfl)) ey.pins g5 (Nat.le_of_ble_eq_true rfl) rfl (fun cw g7 e1 e2 li => ?_))
 have g8 := ey.write e1 e2 ((zV e0))
 have g9 := g6.kept e2 e1 ez
 obtain ⟨bg, ha, e3, e4, hb⟩ := g7.shut g8 e0
 have hc := g9.more ha hb ez
 refine qe (zA (zB (zB ?_)))
 refine xG (S := fun wz => BxR wz p [L, R, B, (.map (some mm.f)), (.map (some mm.o)), (.map (some mm.c)), (.map (some mm.s)), (.map (some mm.n))] ∧ Pins bg wz) (last := 11) (by kernel_rfl) rfl ?_
 have cx : Below cw.heap.size cw cw.drew := (Below.refl _ _).drew
 have e5 := e3.pins.below cx
 have ag := e3.step e5 cx
 have ah := hc.below cx e5
 refine dT (i := 0) rfl rfl (by kernel_rfl) (fun _ _ => zU (v := (.pointer (some ⟨p, 0, none⟩))) rfl) ⟨ah.bx.reads, ag.pins⟩ ?_
 refine dT (i := 1) rfl rfl (by kernel_rfl) (fun _ _ => xB rfl) ⟨ah.bx.reads, ag.pins⟩ ?_
 refine dT (i := 2) rfl rfl (by kernel_rfl) (fun _ _ => zO (k := 6) rfl Tryz.underlying117 rfl nz114 rfl) ⟨ah.bx.reads, ag.pins⟩ ?_
 refine dT (i := 3) rfl rfl (by kernel_rfl) (fun _ hS => zP (u := (.map (some mm.s))) ag114 rfl (hS.1 6 _ rfl)) ⟨ah.bx.reads, ag.pins⟩ ?_
 refine dT (i := 4) rfl rfl (by kernel_rfl) (fun _ hS => yF (cs := [(vJ fa), (vJ fb)]) ag118 sz118 rfl (fun j u hj => hS.2 _ _ _ (e4 _ _ (by simpa using hj)))) ⟨ah.bx.reads, ag.pins⟩ ?_
 refine dO (i := 5) (zT (i := 5) rfl rfl rfl (zD rfl _) (EO.run (run_lookv_int (k := ((fa, fb) : Int × Int)) (key_pair Tryz.underlying118 Tryz.underlying3 sz3) Tryz.underlying114 zr3 ah.fs rfl rfl) ?_))
 refine ⟨fun _ => ⟨ah.bx.reads, ag.pins⟩, ?_⟩
 refine dT (i := 6) rfl rfl (by kernel_rfl) (fun _ _ => zU (v := (.tuple #[(vJ ((Go.GL.look q.sm ((fa, fb) : Int × Int)).getD 0)), (.bool ((Go.GL.look q.sm ((fa, fb) : Int × Int)).isSome))])) rfl) ⟨ah.bx.reads, ag.pins⟩ ?_
 refine dT (i := 7) rfl rfl (by kernel_rfl) (fun _ _ => yW (v := (vJ ((Go.GL.look q.sm ((fa, fb) : Int × Int)).getD 0))) rfl rfl) ⟨ah.bx.reads, ag.pins⟩ ?_
 refine dT (i := 8) rfl rfl (by kernel_rfl) (fun _ _ => yW (v := (.bool ((Go.GL.look q.sm ((fa, fb) : Int × Int)).isSome))) rfl rfl) ⟨ah.bx.reads, ag.pins⟩ ?_
 refine dT (i := 9) rfl rfl (by kernel_rfl) (fun _ _ => qG (v := (vJ ((Go.GL.look q.sm ((fa, fb) : Int × Int)).getD 0))) rfl) ⟨ah.bx.reads, ag.pins⟩ ?_
 refine dT (i := 10) rfl rfl (by kernel_rfl) (fun _ _ => qG (v := (.bool ((Go.GL.look q.sm ((fa, fb) : Int × Int)).isSome))) rfl) ⟨ah.bx.reads, ag.pins⟩ ?_
 refine yT (by kernel_rfl) ?_
 refine zA (zB (zC ?_))
 refine qM (.bool ((Go.GL.look q.sm ((fa, fb) : Int × Int)).isSome)) ?_
 refine qe (zA ?_)
 refine c_if rfl rfl (fun e6 => ?_) (fun e6 => ?_)
 ·skip
  refine zB (zC ?_)
  refine qM (vJ ((Go.GL.look q.sm ((fa, fb) : Int × Int)).getD 0)) ?_
  refine qM (vJ ((Go.GL.look q.sm ((fa, fb) : Int × Int)).getD 0)) ?_
  refine qe (zA ?_)
  refine wp_ret ?_
  refine zR ?_
  refine zQ (v := (vJ ((Go.GL.look q.sm ((fa, fb) : Int × Int)).getD 0))) rfl rfl rfl ?_
  obtain ⟨z, hz⟩ := Option.isSome_iff_exists.1 e6
  obtain ⟨_, _, f1, f2⟩ := hok.sum _ _ z hz
  rw [hz]
  exact ⟨z, L, R, B, q, bg, rfl, ah, hok, (PX.refl _), PIn.lo hpin rfl, ag, f1, f2, hbd⟩
 refine wp_skip ?_
 refine zA (zB (zC ?_))
 refine qI rfl (yZ (E := eInt) (e := 3) Tryz.underlying57 sz3 ag.pins (fun bz hf hg e7 e8 hl => ?_))
 have cy := ag.step e7 e8
 have e9 := ah.below e8 e7
 have hn := ah.new (x := bz.ownBlock) (fun k hk => by rw [hl] at hk; cases hk; exact Nat.le_refl _)
 have fc : Own eInt 3 bg hf w.heap.size bz ([]) := hg.weaken ag.size
 refine qI rfl (yZ (E := eInt) (e := 3) Tryz.underlying57 sz3 cy.pins (fun ai ho hp fd cz fe => ?_))
 have ff := cy.step fd cz
 have hq := fc.below cz
 have cf := e9.below cz fd
 have hr : Apart ai.ownBlock bz.ownBlock := zI fe fc.lt
 have hs := e9.new (x := ai.ownBlock) (fun k hk => by rw [fe] at hk; cases hk; exact Nat.le_refl _)
 have ht : Own eInt 3 bg ho w.heap.size ai ([]) := hp.weaken cy.size
 refine qM bz ?_
 refine qM ai ?_
 refine qe (zA (zB (zB (zC ?_))))
 refine qM (.pointer (some ⟨p, 0, none⟩)) ?_
 refine qD rfl (xB rfl) ?_
 refine qD rfl (zO (k := 0) rfl Tryz.underlying117 rfl nz115 rfl) ?_
 refine qD rfl (zP (u := L) ag115 rfl (cf.bx.cell (o := 0) rfl)) ?_
 refine qM (vJ fa) ?_
 refine qD rfl (zJ Tryz.underlying115 sz57 (v := L) rfl rfl cf.ol.read (by omega) (by omega)) ?_
 obtain ⟨c0, b0, hu⟩ := nm_sl (cf.ol.at (z := fa) (by omega) (by omega)) (j := (fa).toNat) rfl
 rw [mapl_getD] at b0
 have lj := b0.max
 refine qD rfl (hu ag57 rfl (Gadd.pins ff.pins L)) ?_
 refine qD rfl (zN Tryz.underlying57 (v := c0) rfl b0) ?_
 refine qM (vJ 0) ?_
 refine qe (zA ?_)
 refine zX ?_
 refine yQ (fun (k : Nat) (en : Nat → Value) (W : World) => ∃ (an : Nat → Value) (j1 : Nat) (a0 : Value) (bc : List Int) (au : Value) (bh : Value) (bi : Value) (t : PSt) (a1 : Pin), en = (upd (upd (upd (upd (upd (upd (upd (upd (upd (upd an 0 (.pointer (some ⟨p, 0, none⟩))) 1 (vJ fa)) 2 (vJ fb)) 6 (vJ 0)) 7 (.pointer (some ⟨b3, 0, none⟩))) 10 a0) 11 ai) 43 c0) 44 (vJ (((q.ns.getD (fa).toNat default).l).length : Int))) 45 (vJ (j1 : Int))) ∧ k = (q.ns.getD (fa).toNat default).l.length - j1 ∧ Ext (inP p L R B mm) G w a1 W ∧ Pin.le bg a1 ∧ (j1 ≤ (q.ns.getD (fa).toNat default).l.length) ∧ (GsOk t bc ([] ++ ((q.ns.getD (fa).toNat default).l.take j1).map (fun o => addG (pd q o) (pd q fb)))) ∧ (Bud qz t S) ∧ (Own eInt 3 a1 W w.heap.size a0 (bc)) ∧ (Own eInt 3 a1 W w.heap.size ai ([])) ∧ (Apart a0.ownBlock ai.ownBlock) ∧ (Pk 57 3 a1 W p au bh bi mm t) ∧ (PIn w ((inP p L R B mm)) p au bh bi mm) ∧ (PoolOk t) ∧ (PX q t) ∧ (NP p au bh bi mm a0.ownBlock) ∧ (NP p au bh bi mm ai.ownBlock)) _ ⟨_, 0, bz, [], L, R, B, q, bg, (pS 45 (pS 44 (pS 43 (pS 11 (pS 10 (pS 7 (pS 6 (pS 2 (pS 1 (pU 0)))))))))), rfl, ff, Pin.le_refl _, Nat.zero_le _, GsOk.nil, hbd, hq, ht, hr.symm, cf, hpin, hok, (PX.refl _), hn, hs⟩ ?_
 rintro lk _ ll ⟨an, j1, a0, bc, au, bh, bi, t, a1, rfl, lm, bj, c1, hv, c2, fg, c3, c4, c5, b1, c6, av, a, c7, c8⟩
 have ln := a.len
 have lp : (t.ns.map Nd.l).length = t.ns.length ∧ (t.ns.map Nd.r).length = t.ns.length := ⟨List.length_map .., List.length_map ..⟩
 have lq : t.bs.length = t.ns.length ∧ t.ns.length ≤ 1048576 := ⟨av.ar.ok.len, av.ar.ok.lim⟩
 have hw := c2.lenj hv
 rw [List.length_nil] at hw
 refine zB (zC ?_)
 refine qD rfl (yV rfl rfl) ?_
 refine qe (zA (zB ?_))
 refine yI (p := ((j1 : Int) : Int) < (((q.ns.getD (fa).toNat default).l).length : Int)) rfl rfl (fun h0 => ?_) (fun h0 => ?_)
 ·skip
  have hmj : (q.ns.getD (fa).toNat default).l.getD j1 0 ∈ (q.ns.getD (fa).toNat default).l := yS (show j1 < (q.ns.getD (fa).toNat default).l.length by omega)
  have hoj := (opts_place hok hfa).1 _ hmj
  have c9 := hoj.1
  have hoz := ((xI hok.ar.opts (show (fa).toNat < q.ns.length by omega)).1 _ hmj).2
  have hsb := sub_l hok hfa hmj
  refine wp_skip ?_
  refine zA (zB ?_)
  refine zX ?_
  refine zB (zC ?_)
  refine qD rfl (zJ Tryz.underlying57 sz3 (v := c0) rfl rfl b0 (by omega) (by omega)) ?_
  refine qD rfl (zK (r := ((q.ns.getD (fa).toNat default).l).getD j1 0) rfl ag3 (z := (j1 : Int)) rfl b0 (Pins.of_le bj.pins c1) (by omega) (by omega)) ?_
  refine qM (vJ (((q.ns.getD (fa).toNat default).l).getD j1 0)) ?_
  refine qe (zA (zC ?_))
  refine qM a0 ?_
  refine qM (.pointer (some ⟨p, 0, none⟩)) ?_
  refine qM (vJ (((q.ns.getD (fa).toNat default).l).getD j1 0)) ?_
  refine qM (vJ fb) ?_
  refine qI rfl (zM (vs := [(.pointer (some ⟨p, 0, none⟩)), (vJ (((q.ns.getD (fa).toNat default).l).getD j1 0)), (vJ fb)]) Tryz.func48 nm48 rfl rfl rfl ?_)
  refine Calls.mono (ih bj.pins b1 av (a.place hoj) (a.place hfb) fg (fun x y hx hy => hS x y (hsb.trans (by rw [a.pd hok av hoj] at hx; exact hx)) (by rw [a.pd hok av hfb] at hy; exact hy)) ⟨by omega, by omega⟩ (by omega)) ?_
  rintro _ lr ⟨b2, h1, h2, h3, a2, fh, rfl, h4, cg, da, db, ch, h5, h6, h7⟩
  refine ⟨_, rfl, ?_⟩
  have dc := bj.trans ch c6
  have h8 := c3.extS ch c7
  have fi := NP.call c7 db (xV c3)
  have h9 := c4.extS ch c8
  have ia := NP.call c8 db (xV c4)
  have ib := PIn.call c6 db bj.size
  have ls := da.len
  have lu : (a2.ns.map Nd.l).length = a2.ns.length ∧ (a2.ns.map Nd.r).length = a2.ns.length := ⟨List.length_map .., List.length_map ..⟩
  have lv : a2.bs.length = a2.ns.length ∧ a2.ns.length ≤ 1048576 := ⟨cg.ar.ok.len, cg.ar.ok.lim⟩
  refine qI rfl (yU (E := eInt) (e := 3) [(vJ b2)] [b2] Tryz.underlying57 sz3 zr3 (by exact xQ (by rfl)) (yC (by rfl)) rfl rfl rfl rfl (by decide) dc.pins (fun fj ic ie fk ci lw => ?_))
  have dd := dc.step fk ci
  have fl := h8.below ci
  have fm := h9.below ci
  have fn := h4.below ci fk
  have ig : Own eInt 3 fh ic w.heap.size fj ([b2]) := ie.weaken dc.size
  refine qI rfl (oA (E := eInt) (v := a0) (u := fj) 8 Tryz.underlying57 ap3 (by decide) rfl rfl dd.pins fl ig.src (dd.size) (fun de lx ii fo df fp => ?_))
  have ij := dd.write fo df ((yB fl))
  have ik := fm.keptA df c5.symm
  have il := fn.kept df fo fi
  have im : Apart ai.ownBlock de.ownBlock := zG c5.symm fp fm.lt
  have io := np_app fi fn fp
  have ly : (bc ++ ([b2])).length = bc.length + 1 := List.length_append
  refine qM de ?_
  refine qe ?_
  refine yJ ?_
  refine zA (zC ?_)
  refine qD rfl (yR rfl rfl (by omega)) ?_
  refine qM (vJ ((j1 : Int) + 1)) ?_
  refine qe ?_
  refine yK ?_
  refine ⟨_, ?_, _, rfl, _, j1 + 1, de, bc ++ ([b2]), h1, h2, h3, a2, fh, (pS 45 (pS 44 (pS 43 (pS 11 (pS 10 (pS 7 (pS 6 (pS 2 (pS 1 (pU 0)))))))))), rfl, ij, (Pin.le_trans c1 ch.le), (by omega), (c2.next da av cg h5 (by omega) (h6.trans (by rw [a.pd hok av hoj, a.pd hok av hfb]))), h7, ii, ik, im.symm, il, ib, cg, (PX.trans a da), io, ia⟩
  omega
 refine wp_exit ?_
 refine yA ?_
 refine yN ?_
 refine yL ?_
 refine zA (zB (zB (zC ?_)))
 refine qM (.pointer (some ⟨p, 0, none⟩)) ?_
 refine qD rfl (xB rfl) ?_
 refine qD rfl (zO (k := 0) rfl Tryz.underlying117 rfl nz115 rfl) ?_
 refine qD rfl (zP (u := au) ag115 rfl (b1.bx.cell (o := 0) rfl)) ?_
 refine qM (vJ fb) ?_
 refine qD rfl (zJ Tryz.underlying115 sz57 (v := au) rfl rfl b1.ol.read (by omega) (by omega)) ?_
 obtain ⟨dg, bk, ip⟩ := nm_sl (b1.ol.at (z := fb) (by omega) (by omega)) (j := (fb).toNat) rfl
 rw [mapl_getD] at bk
 have lz := bk.max
 refine qD rfl (ip ag57 rfl (Gadd.pins bj.pins au)) ?_
 refine qD rfl (zN Tryz.underlying57 (v := dg) rfl bk) ?_
 refine qM (vJ 0) ?_
 refine qe (zA ?_)
 refine zX ?_
 have fq : t.ns.getD (fb).toNat default = q.ns.getD (fb).toNat default := a.old _ (by omega)
 have hold2l : (t.ns.getD (fb).toNat default).l.length = (q.ns.getD (fb).toNat default).l.length := by rw [fq]
 rw [fq] at bk
 have hj1n : j1 = (q.ns.getD (fa).toNat default).l.length := by omega
 have hg1d := c2.done hj1n
 refine yQ (fun (k : Nat) (en : Nat → Value) (W : World) => ∃ (an : Nat → Value) (j2 : Nat) (aa : Value) (ap : List Int) (bl : Value) (aw : Value) (bm : Value) (ab : PSt) (a3 : Pin), en = (upd (upd (upd (upd (upd (upd (upd (upd (upd (upd an 0 (.pointer (some ⟨p, 0, none⟩))) 1 (vJ fa)) 2 (vJ fb)) 6 (vJ 0)) 7 (.pointer (some ⟨b3, 0, none⟩))) 10 aa) 11 ai) 63 dg) 64 (vJ (((t.ns.getD (fb).toNat default).l).length : Int))) 65 (vJ (j2 : Int))) ∧ k = (q.ns.getD (fb).toNat default).l.length - j2 ∧ Ext (inP p L R B mm) G w a3 W ∧ Pin.le a1 a3 ∧ (j2 ≤ (q.ns.getD (fb).toNat default).l.length) ∧ (GsOk ab ap (([] ++ (q.ns.getD (fa).toNat default).l.map (fun o => addG (pd q o) (pd q fb))) ++ ((q.ns.getD (fb).toNat default).l.take j2).map (fun o => addG (pd q fa) (pd q o)))) ∧ (Bud qz ab S) ∧ (Own eInt 3 a3 W w.heap.size aa (ap)) ∧ (Own eInt 3 a3 W w.heap.size ai ([])) ∧ (Apart aa.ownBlock ai.ownBlock) ∧ (Pk 57 3 a3 W p bl aw bm mm ab) ∧ (PIn w ((inP p L R B mm)) p bl aw bm mm) ∧ (PoolOk ab) ∧ (PX t ab) ∧ (NP p bl aw bm mm aa.ownBlock) ∧ (NP p bl aw bm mm ai.ownBlock)) _ ⟨_, 0, a0, bc, au, bh, bi, t, a1, (pS 65 (pS 64 (pS 63 (pS 11 (pS 10 (pS 7 (pS 6 (pS 2 (pS 1 (pU 0)))))))))), rfl, bj, Pin.le_refl _, Nat.zero_le _, (by rw [List.take_zero, List.map_nil, List.append_nil]; exact hg1d), fg, c3, c4, c5, b1, c6, av, (PX.refl _), c7, c8⟩ ?_
 rintro l0 _ l1 ⟨an, j2, aa, ap, bl, aw, bm, ab, a3, rfl, l2, bn, dh, iq, di, fr, dj, dk, dl, b4, dm, ax, b, dn, dp⟩
 have l3 := b.len
 have l4 : (ab.ns.map Nd.l).length = ab.ns.length ∧ (ab.ns.map Nd.r).length = ab.ns.length := ⟨List.length_map .., List.length_map ..⟩
 have l5 : ab.bs.length = ab.ns.length ∧ ab.ns.length ≤ 1048576 := ⟨ax.ar.ok.len, ax.ar.ok.lim⟩
 have ir := di.lenj iq
 rw [List.length_append, List.length_nil, List.length_map] at ir
 refine zB (zC ?_)
 refine qD rfl (yV rfl rfl) ?_
 refine qe (zA (zB ?_))
 refine yI (p := ((j2 : Int) : Int) < (((t.ns.getD (fb).toNat default).l).length : Int)) rfl rfl (fun it => ?_) (fun it => ?_)
 ·skip
  have hmj : (q.ns.getD (fb).toNat default).l.getD j2 0 ∈ (q.ns.getD (fb).toNat default).l := yS (show j2 < (q.ns.getD (fb).toNat default).l.length by omega)
  have hoj := (opts_place hok hfb).1 _ hmj
  have c9 := hoj.1
  have hoz := ((xI hok.ar.opts (show (fb).toNat < q.ns.length by omega)).1 _ hmj).2
  have hsb := sub_l hok hfb hmj
  refine wp_skip ?_
  refine zA (zB ?_)
  refine zX ?_
  refine zB (zC ?_)
  refine qD rfl (zJ Tryz.underlying57 sz3 (v := dg) rfl rfl bk (by omega) (by omega)) ?_
  refine qD rfl (zK (r := ((q.ns.getD (fb).toNat default).l).getD j2 0) rfl ag3 (z := (j2 : Int)) rfl bk (Pins.of_le bn.pins dh) (by omega) (by omega)) ?_
  refine qM (vJ (((q.ns.getD (fb).toNat default).l).getD j2 0)) ?_
  refine qe (zA (zC ?_))
  refine qM aa ?_
  refine qM (.pointer (some ⟨p, 0, none⟩)) ?_
  refine qM (vJ fa) ?_
  refine qM (vJ (((q.ns.getD (fb).toNat default).l).getD j2 0)) ?_
  refine qI rfl (zM (vs := [(.pointer (some ⟨p, 0, none⟩)), (vJ fa), (vJ (((q.ns.getD (fb).toNat default).l).getD j2 0))]) Tryz.func48 nm48 rfl rfl rfl ?_)
  refine Calls.mono (ih bn.pins b4 ax ((PX.trans a b).place hfa) ((PX.trans a b).place hoj) fr (fun x y hx hy => hS x y (by rw [(PX.trans a b).pd hok ax hfa] at hx; exact hx) (hsb.trans (by rw [(PX.trans a b).pd hok ax hoj] at hy; exact hy))) ⟨by omega, by omega⟩ (by omega)) ?_
  rintro _ l6 ⟨b5, iu, iv, iw, a4, ft, rfl, ix, cj, dq, dr, ck, iy, iz, i0⟩
  refine ⟨_, rfl, ?_⟩
  have ds := bn.trans ck dm
  have i1 := dj.extS ck dn
  have fu := NP.call dn dr (xV dj)
  have i2 := dk.extS ck dp
  have i3 := NP.call dp dr (xV dk)
  have i4 := PIn.call dm dr bn.size
  have l7 := dq.len
  have l8 : (a4.ns.map Nd.l).length = a4.ns.length ∧ (a4.ns.map Nd.r).length = a4.ns.length := ⟨List.length_map .., List.length_map ..⟩
  have l9 : a4.bs.length = a4.ns.length ∧ a4.ns.length ≤ 1048576 := ⟨cj.ar.ok.len, cj.ar.ok.lim⟩
  refine qI rfl (yU (E := eInt) (e := 3) [(vJ b5)] [b5] Tryz.underlying57 sz3 zr3 (by exact xQ (by rfl)) (yC (by rfl)) rfl rfl rfl rfl (by decide) ds.pins (fun fv i5 i6 fw cl ma => ?_))
  have dt := ds.step fw cl
  have fx := i1.below cl
  have fy := i2.below cl
  have fz := ix.below cl fw
  have i7 : Own eInt 3 ft i5 w.heap.size fv ([b5]) := i6.weaken ds.size
  refine qI rfl (oA (E := eInt) (v := aa) (u := fv) 8 Tryz.underlying57 ap3 (by decide) rfl rfl dt.pins fx i7.src (dt.size) (fun du mb i8 f0 dv f3 => ?_))
  have i9 := dt.write f0 dv ((yB fx))
  have ja := fy.keptA dv dl.symm
  have jb := fz.kept dv f0 fu
  have jc : Apart ai.ownBlock du.ownBlock := zG dl.symm f3 fy.lt
  have jd := np_app fu fz f3
  have mc : (ap ++ ([b5])).length = ap.length + 1 := List.length_append
  refine qM du ?_
  refine qe ?_
  refine yJ ?_
  refine zA (zC ?_)
  refine qD rfl (yR rfl rfl (by omega)) ?_
  refine qM (vJ ((j2 : Int) + 1)) ?_
  refine qe ?_
  refine yK ?_
  refine ⟨_, ?_, _, rfl, _, j2 + 1, du, ap ++ ([b5]), iu, iv, iw, a4, ft, (pS 65 (pS 64 (pS 63 (pS 11 (pS 10 (pS 7 (pS 6 (pS 2 (pS 1 (pU 0)))))))))), rfl, i9, (Pin.le_trans dh ck.le), (by omega), (di.next dq ax cj iy (by omega) (iz.trans (by rw [(PX.trans a b).pd hok ax hoj, (PX.trans a b).pd hok ax hfa]))), i0, i8, ja, jc.symm, jb, i4, cj, (PX.trans b dq), jd, i3⟩
  omega
 refine wp_exit ?_
 refine yA ?_
 refine yN ?_
 refine yL ?_
 refine zA (zB (zB (zC ?_)))
 refine qM (.pointer (some ⟨p, 0, none⟩)) ?_
 refine qD rfl (xB rfl) ?_
 refine qD rfl (zO (k := 1) rfl Tryz.underlying117 rfl nz115 rfl) ?_
 refine qD rfl (zP (u := aw) ag115 rfl (b4.bx.cell (o := 1) rfl)) ?_
 refine qM (vJ fa) ?_
 refine qD rfl (zJ Tryz.underlying115 sz57 (v := aw) rfl rfl b4.rr.read (by omega) (by omega)) ?_
 obtain ⟨dw, bo, je⟩ := nm_sl (b4.rr.at (z := fa) (by omega) (by omega)) (j := (fa).toNat) rfl
 rw [mapr_getD] at bo
 have md := bo.max
 refine qD rfl (je ag57 rfl (Gadd.pins bn.pins aw)) ?_
 refine qD rfl (zN Tryz.underlying57 (v := dw) rfl bo) ?_
 refine qM (vJ 0) ?_
 refine qe (zA ?_)
 refine zX ?_
 have f4 : ab.ns.getD (fa).toNat default = q.ns.getD (fa).toNat default := (PX.trans a b).old _ (by omega)
 have hold3l : (ab.ns.getD (fa).toNat default).r.length = (q.ns.getD (fa).toNat default).r.length := by rw [f4]
 rw [f4] at bo
 have hj2n : j2 = (q.ns.getD (fb).toNat default).l.length := by omega
 have hg2d := di.done hj2n
 refine yQ (fun (k : Nat) (en : Nat → Value) (W : World) => ∃ (an : Nat → Value) (j3 : Nat) (a5 : Value) (bd : List Int) (bp : Value) (ay : Value) (bq : Value) (d : PSt) (a6 : Pin), en = (upd (upd (upd (upd (upd (upd (upd (upd (upd (upd an 0 (.pointer (some ⟨p, 0, none⟩))) 1 (vJ fa)) 2 (vJ fb)) 6 (vJ 0)) 7 (.pointer (some ⟨b3, 0, none⟩))) 10 aa) 11 a5) 83 dw) 84 (vJ (((ab.ns.getD (fa).toNat default).r).length : Int))) 85 (vJ (j3 : Int))) ∧ k = (q.ns.getD (fa).toNat default).r.length - j3 ∧ Ext (inP p L R B mm) G w a6 W ∧ Pin.le a3 a6 ∧ (j3 ≤ (q.ns.getD (fa).toNat default).r.length) ∧ (GsOk d bd ([] ++ ((q.ns.getD (fa).toNat default).r.take j3).map (fun o => addG (pd q o) (pd q fb)))) ∧ (Bud qz d S) ∧ (GsOk d ap (([] ++ (q.ns.getD (fa).toNat default).l.map (fun o => addG (pd q o) (pd q fb))) ++ (q.ns.getD (fb).toNat default).l.map (fun o => addG (pd q fa) (pd q o)))) ∧ (Own eInt 3 a6 W w.heap.size a5 (bd)) ∧ (Own eInt 3 a6 W w.heap.size aa (ap)) ∧ (Apart a5.ownBlock aa.ownBlock) ∧ (Pk 57 3 a6 W p bp ay bq mm d) ∧ (PIn w ((inP p L R B mm)) p bp ay bq mm) ∧ (PoolOk d) ∧ (PX ab d) ∧ (NP p bp ay bq mm a5.ownBlock) ∧ (NP p bp ay bq mm aa.ownBlock)) _ ⟨_, 0, ai, [], bl, aw, bm, ab, a3, (pS 85 (pS 84 (pS 83 (pS 11 (pS 10 (pS 7 (pS 6 (pS 2 (pS 1 (pU 0)))))))))), rfl, bn, Pin.le_refl _, Nat.zero_le _, GsOk.nil, fr, hg2d, dk, dj, dl.symm, b4, dm, ax, (PX.refl _), dp, dn⟩ ?_
 rintro me _ mf ⟨an, j3, a5, bd, bp, ay, bq, d, a6, rfl, mg, br, dx, jf, dy, f5, hgL, dz, d0, d1, b6, d2, aq, g, d3, d4⟩
 have mh := g.len
 have mi : (d.ns.map Nd.l).length = d.ns.length ∧ (d.ns.map Nd.r).length = d.ns.length := ⟨List.length_map .., List.length_map ..⟩
 have mj : d.bs.length = d.ns.length ∧ d.ns.length ≤ 1048576 := ⟨aq.ar.ok.len, aq.ar.ok.lim⟩
 have jg := dy.lenj jf
 rw [List.length_nil] at jg
 refine zB (zC ?_)
 refine qD rfl (yV rfl rfl) ?_
 refine qe (zA (zB ?_))
 refine yI (p := ((j3 : Int) : Int) < (((ab.ns.getD (fa).toNat default).r).length : Int)) rfl rfl (fun jh => ?_) (fun jh => ?_)
 ·skip
  have hmj : (q.ns.getD (fa).toNat default).r.getD j3 0 ∈ (q.ns.getD (fa).toNat default).r := yS (show j3 < (q.ns.getD (fa).toNat default).r.length by omega)
  have hoj := (opts_place hok hfa).2 _ hmj
  have c9 := hoj.1
  have hoz := ((xI hok.ar.opts (show (fa).toNat < q.ns.length by omega)).2 _ hmj).2
  have hsb := sub_r hok hfa hmj
  refine wp_skip ?_
  refine zA (zB ?_)
  refine zX ?_
  refine zB (zC ?_)
  refine qD rfl (zJ Tryz.underlying57 sz3 (v := dw) rfl rfl bo (by omega) (by omega)) ?_
  refine qD rfl (zK (r := ((q.ns.getD (fa).toNat default).r).getD j3 0) rfl ag3 (z := (j3 : Int)) rfl bo (Pins.of_le br.pins dx) (by omega) (by omega)) ?_
  refine qM (vJ (((q.ns.getD (fa).toNat default).r).getD j3 0)) ?_
  refine qe (zA (zC ?_))
  refine qM a5 ?_
  refine qM (.pointer (some ⟨p, 0, none⟩)) ?_
  refine qM (vJ (((q.ns.getD (fa).toNat default).r).getD j3 0)) ?_
  refine qM (vJ fb) ?_
  refine qI rfl (zM (vs := [(.pointer (some ⟨p, 0, none⟩)), (vJ (((q.ns.getD (fa).toNat default).r).getD j3 0)), (vJ fb)]) Tryz.func48 nm48 rfl rfl rfl ?_)
  refine Calls.mono (ih br.pins b6 aq ((PX.trans (PX.trans a b) g).place hoj) ((PX.trans (PX.trans a b) g).place hfb) f5 (fun x y hx hy => hS x y (hsb.trans (by rw [(PX.trans (PX.trans a b) g).pd hok aq hoj] at hx; exact hx)) (by rw [(PX.trans (PX.trans a b) g).pd hok aq hfb] at hy; exact hy)) ⟨by omega, by omega⟩ (by omega)) ?_
  rintro _ mk ⟨b7, ji, jj, jk, a7, f6, rfl, jl, b8, cm, d5, cn, jm, jn, jo⟩
  refine ⟨_, rfl, ?_⟩
  have d6 := br.trans cn d2
  have jp := dz.extS cn d3
  have f7 := NP.call d3 d5 (xV dz)
  have jq := d0.extS cn d4
  have jr := NP.call d4 d5 (xV d0)
  have js := PIn.call d2 d5 br.size
  have ml := cm.len
  have mn : (a7.ns.map Nd.l).length = a7.ns.length ∧ (a7.ns.map Nd.r).length = a7.ns.length := ⟨List.length_map .., List.length_map ..⟩
  have mo : a7.bs.length = a7.ns.length ∧ a7.ns.length ≤ 1048576 := ⟨b8.ar.ok.len, b8.ar.ok.lim⟩
  refine qI rfl (yU (E := eInt) (e := 3) [(vJ b7)] [b7] Tryz.underlying57 sz3 zr3 (by exact xQ (by rfl)) (yC (by rfl)) rfl rfl rfl rfl (by decide) d6.pins (fun f8 jt ju f9 co mp => ?_))
  have d7 := d6.step f9 co
  have ga := jp.below co
  have gb := jq.below co
  have gc := jl.below co f9
  have jv : Own eInt 3 f6 jt w.heap.size f8 ([b7]) := ju.weaken d6.size
  refine qI rfl (oA (E := eInt) (v := a5) (u := f8) 8 Tryz.underlying57 ap3 (by decide) rfl rfl d7.pins ga jv.src (d7.size) (fun d8 mq jw gd d9 ge => ?_))
  have jx := d7.write gd d9 ((yB ga))
  have jy := gb.keptA d9 d1.symm
  have jz := gc.kept d9 gd f7
  have j0 : Apart aa.ownBlock d8.ownBlock := zG d1.symm ge gb.lt
  have j5 := np_app f7 gc ge
  have mr : (bd ++ ([b7])).length = bd.length + 1 := List.length_append
  refine qM d8 ?_
  refine qe ?_
  refine yJ ?_
  refine zA (zC ?_)
  refine qD rfl (yR rfl rfl (by omega)) ?_
  refine qM (vJ ((j3 : Int) + 1)) ?_
  refine qe ?_
  refine yK ?_
  refine ⟨_, ?_, _, rfl, _, j3 + 1, d8, bd ++ ([b7]), ji, jj, jk, a7, f6, (pS 85 (pS 84 (pS 83 (pS 11 (pS 10 (pS 7 (pS 6 (pS 2 (pS 1 (pU 0)))))))))), rfl, jx, (Pin.le_trans dx cn.le), (by omega), (dy.next cm aq b8 jm (by omega) (jn.trans (by rw [(PX.trans (PX.trans a b) g).pd hok aq hoj, (PX.trans (PX.trans a b) g).pd hok aq hfb]))), jo, (hgL.px cm aq b8), jw, jy, j0.symm, jz, js, b8, (PX.trans g cm), j5, jr⟩
  omega
 refine wp_exit ?_
 refine yA ?_
 refine yN ?_
 refine yL ?_
 refine zA (zB (zB (zC ?_)))
 refine qM (.pointer (some ⟨p, 0, none⟩)) ?_
 refine qD rfl (xB rfl) ?_
 refine qD rfl (zO (k := 1) rfl Tryz.underlying117 rfl nz115 rfl) ?_
 refine qD rfl (zP (u := ay) ag115 rfl (b6.bx.cell (o := 1) rfl)) ?_
 refine qM (vJ fb) ?_
 refine qD rfl (zJ Tryz.underlying115 sz57 (v := ay) rfl rfl b6.rr.read (by omega) (by omega)) ?_
 obtain ⟨ea, bt, j6⟩ := nm_sl (b6.rr.at (z := fb) (by omega) (by omega)) (j := (fb).toNat) rfl
 rw [mapr_getD] at bt
 have ms := bt.max
 refine qD rfl (j6 ag57 rfl (Gadd.pins br.pins ay)) ?_
 refine qD rfl (zN Tryz.underlying57 (v := ea) rfl bt) ?_
 refine qM (vJ 0) ?_
 refine qe (zA ?_)
 refine zX ?_
 have gf : d.ns.getD (fb).toNat default = q.ns.getD (fb).toNat default := (PX.trans (PX.trans a b) g).old _ (by omega)
 have hold4l : (d.ns.getD (fb).toNat default).r.length = (q.ns.getD (fb).toNat default).r.length := by rw [gf]
 rw [gf] at bt
 have hj3n : j3 = (q.ns.getD (fa).toNat default).r.length := by omega
 have hg3d := dy.done hj3n
 refine yQ (fun (k : Nat) (en : Nat → Value) (W : World) => ∃ (an : Nat → Value) (j4 : Nat) (az : Value) (bu : List Int) (b9 : Value) (ca : Value) (cb : Value) (aj : PSt) (bv : Pin), en = (upd (upd (upd (upd (upd (upd (upd (upd (upd an 0 (.pointer (some ⟨p, 0, none⟩))) 1 (vJ fa)) 6 (vJ 0)) 7 (.pointer (some ⟨b3, 0, none⟩))) 10 aa) 11 az) 103 ea) 104 (vJ (((d.ns.getD (fb).toNat default).r).length : Int))) 105 (vJ (j4 : Int))) ∧ k = (q.ns.getD (fb).toNat default).r.length - j4 ∧ Ext (inP p L R B mm) G w bv W ∧ Pin.le a6 bv ∧ (j4 ≤ (q.ns.getD (fb).toNat default).r.length) ∧ (GsOk aj bu (([] ++ (q.ns.getD (fa).toNat default).r.map (fun o => addG (pd q o) (pd q fb))) ++ ((q.ns.getD (fb).toNat default).r.take j4).map (fun o => addG (pd q fa) (pd q o)))) ∧ (Bud qz aj S) ∧ (GsOk aj ap (([] ++ (q.ns.getD (fa).toNat default).l.map (fun o => addG (pd q o) (pd q fb))) ++ (q.ns.getD (fb).toNat default).l.map (fun o => addG (pd q fa) (pd q o)))) ∧ (Own eInt 3 bv W w.heap.size az (bu)) ∧ (Own eInt 3 bv W w.heap.size aa (ap)) ∧ (Apart az.ownBlock aa.ownBlock) ∧ (Pk 57 3 bv W p b9 ca cb mm aj) ∧ (PIn w ((inP p L R B mm)) p b9 ca cb mm) ∧ (PoolOk aj) ∧ (PX d aj) ∧ (NP p b9 ca cb mm az.ownBlock) ∧ (NP p b9 ca cb mm aa.ownBlock)) _ ⟨_, 0, a5, bd, bp, ay, bq, d, a6, (pS 105 (pS 104 (pS 103 (pS 11 (pS 10 (pS 7 (pS 6 (pS 1 (pU 0))))))))), rfl, br, Pin.le_refl _, Nat.zero_le _, (by rw [List.take_zero, List.map_nil, List.append_nil]; exact hg3d), f5, hgL, dz, d0, d1, b6, d2, aq, (PX.refl _), d3, d4⟩ ?_
 rintro mt _ mu ⟨an, j4, az, bu, b9, ca, cb, aj, bv, rfl, mv, cc, eb, j7, ec, ed, hgL, ee, ef, eg, gg, cp, am, ak, eh, ei⟩
 have mw := ak.len
 have mx : (aj.ns.map Nd.l).length = aj.ns.length ∧ (aj.ns.map Nd.r).length = aj.ns.length := ⟨List.length_map .., List.length_map ..⟩
 have my : aj.bs.length = aj.ns.length ∧ aj.ns.length ≤ 1048576 := ⟨am.ar.ok.len, am.ar.ok.lim⟩
 have j8 := ec.lenj j7
 rw [List.length_append, List.length_nil, List.length_map] at j8
 refine zB (zC ?_)
 refine qD rfl (yV rfl rfl) ?_
 refine qe (zA (zB ?_))
 refine yI (p := ((j4 : Int) : Int) < (((d.ns.getD (fb).toNat default).r).length : Int)) rfl rfl (fun j9 => ?_) (fun j9 => ?_)
 ·skip
  have hmj : (q.ns.getD (fb).toNat default).r.getD j4 0 ∈ (q.ns.getD (fb).toNat default).r := yS (show j4 < (q.ns.getD (fb).toNat default).r.length by omega)
  have hoj := (opts_place hok hfb).2 _ hmj
  have c9 := hoj.1
  have hoz := ((xI hok.ar.opts (show (fb).toNat < q.ns.length by omega)).2 _ hmj).2
  have hsb := sub_r hok hfb hmj
  refine wp_skip ?_
  refine zA (zB ?_)
  refine zX ?_
  refine zB (zC ?_)
  refine qD rfl (zJ Tryz.underlying57 sz3 (v := ea) rfl rfl bt (by omega) (by omega)) ?_
  refine qD rfl (zK (r := ((q.ns.getD (fb).toNat default).r).getD j4 0) rfl ag3 (z := (j4 : Int)) rfl bt (Pins.of_le cc.pins eb) (by omega) (by omega)) ?_
  refine qM (vJ (((q.ns.getD (fb).toNat default).r).getD j4 0)) ?_
  refine qe (zA (zC ?_))
  refine qM az ?_
  refine qM (.pointer (some ⟨p, 0, none⟩)) ?_
  refine qM (vJ fa) ?_
  refine qM (vJ (((q.ns.getD (fb).toNat default).r).getD j4 0)) ?_
  refine qI rfl (zM (vs := [(.pointer (some ⟨p, 0, none⟩)), (vJ fa), (vJ (((q.ns.getD (fb).toNat default).r).getD j4 0))]) Tryz.func48 nm48 rfl rfl rfl ?_)
  refine Calls.mono (ih cc.pins gg am ((PX.trans (PX.trans (PX.trans a b) g) ak).place hfa) ((PX.trans (PX.trans (PX.trans a b) g) ak).place hoj) ed (fun x y hx hy => hS x y (by rw [(PX.trans (PX.trans (PX.trans a b) g) ak).pd hok am hfa] at hx; exact hx) (hsb.trans (by rw [(PX.trans (PX.trans (PX.trans a b) g) ak).pd hok am hoj] at hy; exact hy))) ⟨by omega, by omega⟩ (by omega)) ?_
  rintro _ mz ⟨cd, ka, kb, kc, a8, gh, rfl, kd, ce, cq, ej, cr, ke, kf, kg⟩
  refine ⟨_, rfl, ?_⟩
  have ek := cc.trans cr cp
  have kh := ee.extS cr eh
  have gi := NP.call eh ej (xV ee)
  have ki := ef.extS cr ei
  have kj := NP.call ei ej (xV ef)
  have kk := PIn.call cp ej cc.size
  have m0 := cq.len
  have m1 : (a8.ns.map Nd.l).length = a8.ns.length ∧ (a8.ns.map Nd.r).length = a8.ns.length := ⟨List.length_map .., List.length_map ..⟩
  have m2 : a8.bs.length = a8.ns.length ∧ a8.ns.length ≤ 1048576 := ⟨ce.ar.ok.len, ce.ar.ok.lim⟩
  refine qI rfl (yU (E := eInt) (e := 3) [(vJ cd)] [cd] Tryz.underlying57 sz3 zr3 (by exact xQ (by rfl)) (yC (by rfl)) rfl rfl rfl rfl (by decide) ek.pins (fun gj kl km gk ct m3 => ?_))
  have el := ek.step gk ct
  have gl := kh.below ct
  have gm := ki.below ct
  have gn := kd.below ct gk
  have kn : Own eInt 3 gh kl w.heap.size gj ([cd]) := km.weaken ek.size
  refine qI rfl (oA (E := eInt) (v := az) (u := gj) 8 Tryz.underlying57 ap3 (by decide) rfl rfl el.pins gl kn.src (el.size) (fun em m4 ko gp eo gq => ?_))
  have kp := el.write gp eo ((yB gl))
  have kq := gm.keptA eo eg.symm
  have kr := gn.kept eo gp gi
  have ks : Apart aa.ownBlock em.ownBlock := zG eg.symm gq gm.lt
  have kt := np_app gi gn gq
  have m5 : (bu ++ ([cd])).length = bu.length + 1 := List.length_append
  refine qM em ?_
  refine qe ?_
  refine yJ ?_
  refine zA (zC ?_)
  refine qD rfl (yR rfl rfl (by omega)) ?_
  refine qM (vJ ((j4 : Int) + 1)) ?_
  refine qe ?_
  refine yK ?_
  refine ⟨_, ?_, _, rfl, _, j4 + 1, em, bu ++ ([cd]), ka, kb, kc, a8, gh, (pS 105 (pS 104 (pS 103 (pS 11 (pS 10 (pS 7 (pS 6 (pS 1 (pU 0))))))))), rfl, kp, (Pin.le_trans eb cr.le), (by omega), (ec.next cq am ce ke (by omega) (kf.trans (by rw [(PX.trans (PX.trans (PX.trans a b) g) ak).pd hok am hoj, (PX.trans (PX.trans (PX.trans a b) g) ak).pd hok am hfa]))), kg, (hgL.px cq am ce), ko, kq, ks.symm, kr, kk, ce, (PX.trans ak cq), kt, kj⟩
  omega
 refine wp_exit ?_
 refine yA ?_
 refine yN ?_
 refine yL ?_
 refine zA (zB (zC ?_))
 refine qM (.pointer (some ⟨p, 0, none⟩)) ?_
 refine qM aa ?_
 refine qM az ?_
 obtain ⟨m6, ep, ku, kv, gr⟩ := ef.sealed cc
 have kw := ee.moreO ep gr eg
 have kx := gg.moreO ep gr ei
 obtain ⟨m7, er, es, ky, kz⟩ := kw.sealed ku
 have k0 := kx.moreO er kz eh
 have hj4n : j4 = (q.ns.getD (fb).toNat default).r.length := by omega
 have hg4d := ec.done hj4n
 have k1 := hgL.len
 have k2 := hg4d.len
 simp only [List.length_append, List.length_map, List.length_nil] at k1 k2
 refine qI rfl (zM (vs := [(.pointer (some ⟨p, 0, none⟩)), aa, az]) Tryz.func102 nm102 rfl rfl rfl ?_)
 refine Calls.mono (node_spec es.pins k0 am (kv.mono er) ky (ed.room am) ⟨by omega, by omega⟩ (qZ hgL.pl) (qZ hg4d.pl)) ?_
 rintro _ et ⟨a9, gs, gt, gu, al, gv, rfl, k3, bw, be, k4, gw, gx, k5, k6, k7⟩
 refine ⟨_, rfl, ?_⟩
 have gy := es.trans gw cp
 have gz := PIn.call cp k4 es.size
 have m8 := be.len
 have m9 : (al.ns.map Nd.l).length = al.ns.length ∧ (al.ns.map Nd.r).length = al.ns.length := ⟨List.length_map .., List.length_map ..⟩
 have na : al.bs.length = al.ns.length ∧ al.ns.length ≤ 1048576 := ⟨bw.ar.ok.len, bw.ar.ok.lim⟩
 have hng : pd al a9 = addG (pd q fa) (pd q fb) := by rw [k5, hgL.eq, hg4d.eq, List.nil_append, List.nil_append]; exact sum_node hok hfa hfb
 have hbn := ed.node am bw be k6 k7.2 (by rw [hng]; exact hS _ _ .self .self)
 have hf4a := (PX.trans (PX.trans (PX.trans (PX.trans a b) g) ak) be).place hfa
 have hpf4a := (PX.trans (PX.trans (PX.trans (PX.trans a b) g) ak) be).pd hok bw hfa
 have hf4b := (PX.trans (PX.trans (PX.trans (PX.trans a b) g) ak) be).place hfb
 have hpf4b := (PX.trans (PX.trans (PX.trans (PX.trans a b) g) ak) be).pd hok bw hfb
 refine qM (vJ a9) ?_
 refine qe (zA (zB ?_))
 refine xG (S := fun wz => BxR wz p [gs, gt, gu, (.map (some mm.f)), (.map (some mm.o)), (.map (some mm.c)), (.map (some mm.s)), (.map (some mm.n))] ∧ Pins gv wz) (last := 6) (by kernel_rfl) rfl ?_
 have eu : Below et.heap.size et et.drew := (Below.refl _ _).drew
 have g0 := gy.pins.below eu
 have ba := gy.step g0 eu
 have bb := k3.below eu g0
 refine dT (i := 0) rfl rfl (by kernel_rfl) (fun _ _ => zU (v := (.pointer (some ⟨p, 0, none⟩))) rfl) ⟨bb.bx.reads, ba.pins⟩ ?_
 refine dT (i := 1) rfl rfl (by kernel_rfl) (fun _ _ => xB rfl) ⟨bb.bx.reads, ba.pins⟩ ?_
 refine dT (i := 2) rfl rfl (by kernel_rfl) (fun _ _ => zO (k := 6) rfl Tryz.underlying117 rfl nz114 rfl) ⟨bb.bx.reads, ba.pins⟩ ?_
 refine dT (i := 3) rfl rfl (by kernel_rfl) (fun _ hS => zP (u := (.map (some mm.s))) ag114 rfl (hS.1 6 _ rfl)) ⟨bb.bx.reads, ba.pins⟩ ?_
 refine dT (i := 4) rfl rfl (by kernel_rfl) (fun _ hS => yF (cs := [(vJ fa), (vJ fb)]) ag118 sz118 rfl (fun j u hj => (Pins.of_le hS.2 (Pin.le_trans (Pin.le_trans (Pin.le_trans (Pin.le_trans (Pin.le_trans (Pin.le_trans c1 dh) dx) eb) ep) er) gw.le)) _ _ _ (e4 _ _ (by simpa using hj)))) ⟨bb.bx.reads, ba.pins⟩ ?_
 refine dT (i := 5) rfl rfl (by kernel_rfl) (fun _ _ => zU (v := (vJ a9)) rfl) ⟨bb.bx.reads, ba.pins⟩ ?_
 refine dO (i := 6) (xP (i := 6) rfl rfl rfl (zD rfl _) (o_mapUpdate (val := (fun v : Int => Value.int .i64 v)) (k := ((fa, fb) : Int × Int)) (v := a9) (key_pair Tryz.underlying118 Tryz.underlying3 sz3) Tryz.underlying114 rfl rfl rfl ba.pins bb.fs (fun nb k8 g1 g2 nc => ?_)))
 have k9 := ba.trans (Ext.one g1 g2) (fun i hi => (PIn.s gz) i hi)
 have g3 := bb.setS (Ext.one g1 g2) k8
 have cu := PoolOk.setS bw hf4a hf4b gx (by rw [hng, hpf4a, hpf4b])
 obtain ⟨ao, ev⟩ : ∃ q, q = ({ al with sm := putE al.sm ((fa, fb) : Int × Int) a9 } : PSt) := ⟨_, rfl⟩
 rw [← ev] at g3 cu
 have hq435n : ao.ns = al.ns ∧ ao.bs = al.bs := by rw [ev]; exact ⟨rfl, rfl⟩
 have hq435x : PX al ao := by rw [ev]; exact ⟨Nat.le_refl _, fun _ _ => rfl, fun _ h => h⟩
 have nd : (ao.ns.map Nd.l).length = ao.ns.length ∧ (ao.ns.map Nd.r).length = ao.ns.length := ⟨List.length_map .., List.length_map ..⟩
 have ne : ao.bs.length = ao.ns.length ∧ ao.ns.length ≤ 1048576 := ⟨cu.ar.ok.len, cu.ar.ok.lim⟩
 have nf := hq435x.len
 refine ⟨fun h => absurd rfl h, ?_⟩
 refine yT (by kernel_rfl) ?_
 refine zA (zB (zC ?_))
 refine qM (vJ a9) ?_
 refine qM (vJ a9) ?_
 refine qe (zA ?_)
 refine wp_ret ?_
 refine zR ?_
 refine zQ (v := (vJ a9)) rfl rfl rfl ?_
 exact ⟨_, gs, gt, gu, ao, gv, rfl, g3, cu, (PX.trans (PX.trans (PX.trans (PX.trans (PX.trans a b) g) ak) be) hq435x), PIn.lo gz rfl, k9, gx.same hq435n, (by rw [pd_same hq435n]; exact hng), hbn.same hq435x hq435n⟩

theorem sum_all {p : Nat} {mm : PM} : ∀ m, SumP m p mm
 | 0 => fun _ _ _ _ _ _ _ _ h => absurd h (Nat.not_lt_zero _)
 | m + 1 => fun hP hpk hok hf hg hb hS hh hm => sum_step hP hpk hok hf hg hb hS hh (sum_all m) hm
theorem sum_spec {w : World} {G : Pin} {L R B : Value} {q : PSt} {fa fb : Int} {p : Nat} {mm : PM} {qz : PSt} {S : List Nat} (hP : Pins G w) (hpk : Pk 57 3 G w p L R B mm q) (hok : PoolOk q) (hfa : PlaceOk q fa) (hfb : PlaceOk q fb) (hbd : Bud qz q S) (hS : ∀ x y, SubG (pd q fa) x → SubG (pd q fb) y → addG x y ∈ S) (hh : fa < 524288 ∧ fb < 524288) :
  Calls Tryz.prog 48 [(.pointer (some ⟨p, 0, none⟩)), (.int .i64 fa), (.int .i64 fb)].toArray w fun e w' => ∃ (z : Int) (L' R' B' : Value) (q' : PSt) (G' : Pin), e = .returned (.int .i64 z) ∧ Pk 57 3 G' w' p L' R' B' mm q' ∧ PoolOk q' ∧ PX q q' ∧ PLo w p L R B mm L' R' B' ∧ Ext (inP p L R B mm) G w G' w' ∧ PlaceOk q' z ∧ pd q' z = addG (pd q fa) (pd q fb) ∧ Bud qz q' S :=
 sum_all _ hP hpk hok hfa hfb hbd hS hh (Nat.lt_succ_self _)

end NG1
end Go.Proofs.YtkfgdhanaijddaaGreatDoor

set_option maxRecDepth 20000
set_option maxHeartbeats 2000000
namespace Go.Proofs.YtkfgdhanaijddaaGreatDoor
namespace NF1
open Go.RowKit Go.GL Go.Proofs
open Go.Proofs.YtkfgdhanaijddaaGreatDoor.B1
open Go.Proofs.YtkfgdhanaijddaaGreatDoor.C1
open Go.Proofs.YtkfgdhanaijddaaGreatDoor.D1
open Go.Proofs.YtkfgdhanaijddaaGreatDoor.E1
open Go.Proofs.YtkfgdhanaijddaaGreatDoor.K1
open Go.Proofs.YtkfgdhanaijddaaGreatDoor.PO1
open Go.Proofs.YtkfgdhanaijddaaGreatDoor.PL1
open Go.Proofs.YtkfgdhanaijddaaGreatDoor.PA1
open Go.Proofs.YtkfgdhanaijddaaGreatDoor.SO1
open Go.Proofs.YtkfgdhanaijddaaGreatDoor.OD1
open Go.Proofs.YtkfgdhanaijddaaGreatDoor.FO1
open Go.Proofs.YtkfgdhanaijddaaGreatDoor.NG1
end NF1
end Go.Proofs.YtkfgdhanaijddaaGreatDoor

set_option maxRecDepth 20000
set_option maxHeartbeats 2000000
namespace Go.Proofs.YtkfgdhanaijddaaGreatDoor
namespace PF1
open Go.RowKit Go.GL Go.Proofs
open Go.Proofs.YtkfgdhanaijddaaGreatDoor.B1
open Go.Proofs.YtkfgdhanaijddaaGreatDoor.K1
open Go.Proofs.YtkfgdhanaijddaaGreatDoor.PO1
open Go.Proofs.YtkfgdhanaijddaaGreatDoor.PL1
end PF1
end Go.Proofs.YtkfgdhanaijddaaGreatDoor

set_option maxRecDepth 20000
set_option maxHeartbeats 2000000
namespace Go.Proofs.YtkfgdhanaijddaaGreatDoor
namespace OR1
open Go.RowKit Go.GL Go.Proofs
open Go.Proofs.YtkfgdhanaijddaaGreatDoor.B1
open Go.Proofs.YtkfgdhanaijddaaGreatDoor.C1
open Go.Proofs.YtkfgdhanaijddaaGreatDoor.D1
open Go.Proofs.YtkfgdhanaijddaaGreatDoor.E1
end OR1
end Go.Proofs.YtkfgdhanaijddaaGreatDoor

set_option maxRecDepth 20000
set_option maxHeartbeats 2000000
namespace Go.Proofs.YtkfgdhanaijddaaGreatDoor
namespace SF1
open Go.RowKit Go.GL Go.Proofs
open Go.Proofs.YtkfgdhanaijddaaGreatDoor.B1
open Go.Proofs.YtkfgdhanaijddaaGreatDoor.C1
open Go.Proofs.YtkfgdhanaijddaaGreatDoor.D1
open Go.Proofs.YtkfgdhanaijddaaGreatDoor.E1
open Go.Proofs.YtkfgdhanaijddaaGreatDoor.OR1
end SF1
end Go.Proofs.YtkfgdhanaijddaaGreatDoor

set_option maxRecDepth 20000
set_option maxHeartbeats 2000000
namespace Go.Proofs.YtkfgdhanaijddaaGreatDoor
namespace MK1
open Go.RowKit Go.GL Go.Proofs
open Go.Proofs.YtkfgdhanaijddaaGreatDoor.B1
open Go.Proofs.YtkfgdhanaijddaaGreatDoor.C1
open Go.Proofs.YtkfgdhanaijddaaGreatDoor.D1
open Go.Proofs.YtkfgdhanaijddaaGreatDoor.E1





theorem pl133 : (Tryz.prog.underlying 133).bind (placesD Tryz.prog) = some [(0, 1), (1, 1)] := by kernel_rfl





theorem l3Make_own {w : World} {G : Pin} {u v : Value} {fs gs : List (List Nd)} (hP : Pins G w) (hu : RSl (eSl eNode) G u fs) (hv : RSl (eSl eNode) G v gs) (hfa : AllW fs) (hga : AllW gs) :
  Calls Tryz.prog 67 [u, v].toArray w fun e w' => ∃ (u : Value) (G' : Pin), e = .returned (.agg [u].toArray) ∧ RSl eNode G' u (formG (mkGm fs gs)) ∧ Ext noS G w G' w' ∧ ∃ Gi, Own eNode 68 Gi w' w.heap.size u (formG (mkGm fs gs)) ∧ Pin.le Gi G' := by
 refine yD (n := 50) Tryz.func67 Tryz.ntmps67 rfl rfl ?_
 have a8 : Ext noS G w G w := Ext.refl hP
 have hmu := hu.max
 have hmv := hv.max
 have hfle := hfa.len
 have hgle := hga.len
 refine zB (zC ?_)
 refine qI rfl (yH [(.slice none 0 0)] zr28 rfl a8.pins (fun g w2 hp b5 d2 d3 => ?_))
 have a9 := a8.step d2 d3
 have d4 : w.heap.size ≤ g := by have := a8.size; omega
 refine qe (zA (zB (zC ?_)))
 refine qD rfl (xF [(.slice none 0 0), (.slice none 0 0)] [(.slice none 0 0), (.slice none 0 0)] [] Tryz.underlying133 zr133 rfl pl133 rfl (fun _ h => by cases h) rfl) ?_
 refine qI rfl (qA [(.slice none 0 0), (.slice none 0 0)] (v := (.agg [(.slice none 0 0), (.slice none 0 0)].toArray)) rfl rfl a9.pins (fun c hq d5 b6 d6 b7 => ?_))
 have ba := a9.step d6 b7
 have b8 := b5.below b7
 have bb : Apart (some c) (some g) := zH (congrArg some d5) b5.lt
 have bc : w.heap.size ≤ c := by have := a9.size; omega
 refine qM (.pointer (some ⟨c, 0, none⟩)) ?_
 refine qe (zA (zB (zC ?_)))
 refine qI rfl (yZ (E := eInt) (e := 3) Tryz.underlying57 sz3 ba.pins (fun s d7 d8 d9 bd ca => ?_))
 have be := ba.step d9 bd
 have cb := b8.below bd
 have cc := b6.below bd
 have ea : Apart s.ownBlock (some g) := zH ca b8.lt
 have eb : Apart s.ownBlock (some c) := zH ca b6.lt
 have cd : Own eInt 3 G d7 w.heap.size s ([]) := d8.weaken ba.size
 refine qI rfl (yZ (E := eInt) (e := 3) Tryz.underlying57 sz3 be.pins (fun l ec ed ee au bf => ?_))
 have ef := be.step ee au
 have eg := cd.below au
 have eh := cb.below au
 have ei := cc.below au
 have ej : Apart l.ownBlock s.ownBlock := zI bf cd.lt
 have ek : Apart l.ownBlock (some g) := zH bf cb.lt
 have ce : Apart l.ownBlock (some c) := zH bf cc.lt
 have el : Own eInt 3 G ec w.heap.size l ([]) := ed.weaken be.size
 refine qM s ?_
 refine qM l ?_
 refine qe (zA (zB (zB (zC ?_))))
 refine qM (vJ 0) ?_
 refine qe (zA ?_)
 refine zX ?_
 refine yQ (fun (k : Nat) (en : Nat → Value) (W : World) => ∃ (ae : Nat → Value) (d : Nat) (atA : Value) (atsA : List Int) (uA : Value) (vA : Value) (nsA : List Nd) (bsA : List Int) (GLA : Pin), en = (upd (upd (upd (upd (upd (upd (upd ae 0 u) 1 v) 4 (.pointer (some ⟨g, 0, none⟩))) 5 (.pointer (some ⟨c, 0, none⟩))) 6 atA) 7 l) 8 (vJ (d : Int))) ∧ k = fs.length - d ∧ Ext noS G w GLA W ∧ Pin.le G GLA ∧ (d ≤ fs.length) ∧ (PoolOk (bkq nsA bsA)) ∧ (GsOk (bkq nsA bsA) atsA ((fs.take d).map gOf)) ∧ (nsA.length ≤ 1000 * d) ∧ (Own eInt 3 GLA W w.heap.size atA (atsA)) ∧ (Own eNode 68 GLA W 0 uA (nsA)) ∧ (Own eInt 3 GLA W 0 vA (bsA)) ∧ (Own eInt 3 GLA W w.heap.size l ([])) ∧ (Bx GLA W g [(.slice none 0 0)]) ∧ (Bx GLA W c [uA, vA]) ∧ (Apart atA.ownBlock uA.ownBlock) ∧ (Apart atA.ownBlock vA.ownBlock) ∧ (Apart atA.ownBlock l.ownBlock) ∧ (Apart atA.ownBlock (some g)) ∧ (Apart atA.ownBlock (some c)) ∧ (Apart uA.ownBlock vA.ownBlock) ∧ (Apart uA.ownBlock l.ownBlock) ∧ (Apart uA.ownBlock (some g)) ∧ (Apart uA.ownBlock (some c)) ∧ (Apart vA.ownBlock l.ownBlock) ∧ (Apart vA.ownBlock (some g)) ∧ (Apart vA.ownBlock (some c)) ∧ (Lo w noS uA.ownBlock) ∧ (Lo w noS vA.ownBlock)) _ ⟨_, 0, s, [], (.slice none 0 0), (.slice none 0 0), [], [], G, (pS 8 (pS 7 (pS 6 (pS 5 (pS 4 (pS 1 (pU 0))))))), rfl, ef, Pin.le_refl _, Nat.zero_le _, (bkq_ok Ar.empty), GsOk.nil, (by simp), eg, (Own.nil _ _ _ _ _), (Own.nil _ _ _ _ _), el, eh, ei, apart_none.symm, apart_none.symm, ej.symm, ea, eb, apart_none, apart_none, apart_none, apart_none, apart_none, apart_none, apart_none, (lo_none _ _), (lo_none _ _)⟩ ?_
 rintro hr _ hs ⟨ae, d, atA, atsA, uA, vA, nsA, bsA, GLA, rfl, ht, t, af, hw, hokA, hgsA, hblA, av, cf, cg, aw, ax, ch, ci, cj, bg, bh, ag, ck, cl, cm, cn, co, cp, cq, cr, ct⟩
 have hglA := hgsA.len
 rw [List.length_map, List.length_take] at hglA
 refine zB (zB (zC ?_))
 refine qM (vJ (d : Int)) ?_
 refine qM u ?_
 refine qD rfl (zN Tryz.underlying24 (v := u) rfl hu) ?_
 refine qD rfl (yV rfl rfl) ?_
 refine qe (zA ?_)
 refine yI (p := ((d : Int) : Int) < (fs.length : Int)) rfl rfl (fun em => ?_) (fun em => ?_)
 ·skip
  have hgd := hfa.ok d (by omega)
  have hgdl := hgd.2.1
  have hgdh := hgd.2.2
  have hrk := bk_root (fs := fs.getD d []) hokA hgd.1 (by omega) (by omega)
  refine wp_skip ?_
  refine zA (zB ?_)
  refine zX ?_
  refine zC ?_
  refine qM atA ?_
  refine qM (.pointer (some ⟨c, 0, none⟩)) ?_
  refine qM u ?_
  refine qM (vJ (d : Int)) ?_
  refine qD rfl (zJ Tryz.underlying24 sz28 (v := u) rfl rfl hu (by omega) (by omega)) ?_
  obtain ⟨eo, cu, ep⟩ := nm_form (hu.at (z := (d : Int)) (by omega) (by omega)) (j := d) rfl
  have hx := cu.max
  refine qD rfl (ep ag28 sz28 rfl (Pins.of_le t.pins af)) ?_
  refine qI rfl (zM (vs := [(.pointer (some ⟨c, 0, none⟩)), (.agg [eo].toArray)]) Tryz.func116 nm116 rfl rfl rfl ?_)
  refine Calls.mono (root_spec t.pins ⟨ch, cf, cg, cn.symm, cq.symm, ck⟩ hokA.ar.ok (cu.mono af) ⟨hgd.1, hgdl⟩ (by first | omega | (simp; omega))) ?_
  rintro _ hy ⟨ah, ai, cv, rfl, x, aj, ay, az⟩
  refine ⟨_, rfl, ?_⟩
  have bi : ∀ i, inS c uA vA i → w.heap.size ≤ i ∨ noS i := inS_lo (zV bc) cr ct
  have bj := t.trans aj bi
  have bk := notS (u := uA) (v := vA) ag ci cj
  have er := av.extS aj bk
  have cw : Apart atA.ownBlock ah.ownBlock := xZ ay bk (xV av)
  have cx : Apart atA.ownBlock ai.ownBlock := xZ az bk (xV av)
  have bl := notS (u := uA) (v := vA) ce cl.symm co.symm
  have es := aw.extS aj bl
  have et : Apart l.ownBlock ah.ownBlock := xZ ay bl (xV aw)
  have eu : Apart l.ownBlock ai.ownBlock := xZ az bl (xV aw)
  have bm := notS (u := uA) (v := vA) bb.symm cm.symm cp.symm
  have ev := ax.extS aj (notSb bm)
  have ew : Apart (some g) ah.ownBlock := xZ ay bm (box_lt ax)
  have ex : Apart (some g) ai.ownBlock := xZ az bm (box_lt ax)
  have ey := x.bx
  have ez := x.ou
  have e0 := x.ov
  have e1 := x.abu
  have e2 := x.abv
  have e3 := x.auv
  have e4 := qL ay bi t.size
  have e5 := qL az bi t.size
  refine qI rfl (yU (E := eInt) (e := 3) [(vJ (rootM nsA bsA (fs.getD d [])))] [rootM nsA bsA (fs.getD d [])] Tryz.underlying57 sz3 zr3 (by exact xQ (by rfl)) (yC (by rfl)) rfl rfl rfl rfl (by decide) bj.pins (fun cy e6 e7 e8 m hz => ?_))
  have bn := bj.step e8 m
  have cz := er.below m
  have c0 := es.below m
  have c1 := ez.below m
  have c2 := e0.below m
  have c3 := ev.below m
  have c4 := ey.below m
  have e9 : Own eInt 3 cv e6 w.heap.size cy ([rootM nsA bsA (fs.getD d [])]) := e7.weaken bj.size
  refine qI rfl (oA (E := eInt) (v := atA) (u := cy) 8 Tryz.underlying57 ap3 (by decide) rfl rfl bn.pins cz e9.src (bn.size) (fun o h0 fa fb y ak => ?_))
  have fc := bn.write fb y ((yB cz))
  have fd := c0.keptA y bg.symm
  have fe := c1.keptA y cw.symm
  have ff := c2.keptA y cx.symm
  have fg := c3.keptA y bh.symm
  have fh := c4.keptA y ag.symm
  have fi : Apart l.ownBlock o.ownBlock := zG bg.symm ak c0.lt
  have fj : Apart ah.ownBlock o.ownBlock := zG cw.symm ak c1.lt
  have fk : Apart ai.ownBlock o.ownBlock := zG cx.symm ak c2.lt
  have fl : Apart (some g) o.ownBlock := zL bh.symm ak c3.lt
  have fm : Apart (some c) o.ownBlock := zL ag.symm ak c4.lt
  have h1 : (atsA ++ ([rootM nsA bsA (fs.getD d [])])).length = atsA.length + 1 := List.length_append
  refine qM o ?_
  refine qe ?_
  refine yJ ?_
  refine zA (zC ?_)
  refine qM (vJ (d : Int)) ?_
  refine qD rfl (yR rfl rfl (by omega)) ?_
  refine qM (vJ ((d : Int) + 1)) ?_
  refine qe ?_
  refine yK ?_
  refine ⟨_, ?_, _, rfl, _, d + 1, o, atsA ++ ([rootM nsA bsA (fs.getD d [])]), ah, ai, (addM nsA bsA (fs.getD d [])).2.1, (addM nsA bsA (fs.getD d [])).2.2, cv, (pS 8 (pS 7 (pS 6 (pS 5 (pS 4 (pS 1 (pU 0))))))), rfl, fc, (Pin.le_trans af aj.le), (by omega), hrk.ok, (by rw [take_map (by omega)]; exact (hgsA.px hrk.px hokA hrk.ok).snoc hrk.pl hrk.pd), (by have h8 := hrk.len; have h9 := hgd.2.2; omega), fa, fe, ff, fd, fg, fh, fj.symm, fk.symm, fi.symm, fl.symm, fm.symm, e3, et.symm, ew.symm, e1.symm, eu.symm, ex.symm, e2.symm, e4, e5⟩
  omega
 refine wp_exit ?_
 refine yA ?_
 refine yN ?_
 refine yL ?_
 refine zA (zB (zB (zC ?_)))
 refine qM (vJ 0) ?_
 refine qe (zA ?_)
 refine zX ?_
 have hi5n : d = fs.length := by omega
 have hgsF : GsOk (bkq nsA bsA) atsA (fs.map gOf) := by rw [hi5n, List.take_length] at hgsA; exact hgsA
 refine yQ (fun (k : Nat) (en : Nat → Value) (W : World) => ∃ (ae : Nat → Value) (f : Nat) (atB : Value) (atsB : List Int) (uB : Value) (vB : Value) (nsB : List Nd) (bsB : List Int) (GLB : Pin), en = (upd (upd (upd (upd (upd (upd ae 1 v) 4 (.pointer (some ⟨g, 0, none⟩))) 5 (.pointer (some ⟨c, 0, none⟩))) 6 atA) 7 atB) 9 (vJ (f : Int))) ∧ k = gs.length - f ∧ Ext noS G w GLB W ∧ Pin.le GLA GLB ∧ (f ≤ gs.length) ∧ (PoolOk (bkq nsB bsB)) ∧ (GsOk (bkq nsB bsB) atsB ((gs.take f).map gOf)) ∧ (nsB.length ≤ 100000 + 1000 * f) ∧ (GsOk (bkq nsB bsB) atsA (fs.map gOf)) ∧ (Own eInt 3 GLB W w.heap.size atB (atsB)) ∧ (Own eNode 68 GLB W 0 uB (nsB)) ∧ (Own eInt 3 GLB W 0 vB (bsB)) ∧ (Own eInt 3 GLB W w.heap.size atA (atsA)) ∧ (Bx GLB W g [(.slice none 0 0)]) ∧ (Bx GLB W c [uB, vB]) ∧ (Apart atB.ownBlock uB.ownBlock) ∧ (Apart atB.ownBlock vB.ownBlock) ∧ (Apart atB.ownBlock atA.ownBlock) ∧ (Apart atB.ownBlock (some g)) ∧ (Apart atB.ownBlock (some c)) ∧ (Apart uB.ownBlock vB.ownBlock) ∧ (Apart uB.ownBlock atA.ownBlock) ∧ (Apart uB.ownBlock (some g)) ∧ (Apart uB.ownBlock (some c)) ∧ (Apart vB.ownBlock atA.ownBlock) ∧ (Apart vB.ownBlock (some g)) ∧ (Apart vB.ownBlock (some c)) ∧ (Lo w noS uB.ownBlock) ∧ (Lo w noS vB.ownBlock)) _ ⟨_, 0, l, [], uA, vA, nsA, bsA, GLA, (pS 9 (pS 7 (pS 6 (pS 5 (pS 4 (pU 1)))))), rfl, t, Pin.le_refl _, Nat.zero_le _, hokA, GsOk.nil, (by omega), hgsF, aw, cf, cg, av, ax, ch, cl.symm, co.symm, bg.symm, ek, ce, ck, ci.symm, cm, cn, cj.symm, cp, cq, cr, ct⟩ ?_
 rintro h2 _ h3 ⟨ae, f, atB, atsB, uB, vB, nsB, bsB, GLB, rfl, h4, aa, bo, h5, hokB, hgsB, hblB, hgsL, a0, c5, c6, a1, a2, c7, c8, c9, bp, bq, a3, da, db, dc, dd, de, df, dg, dh, di⟩
 have hglB := hgsB.len
 rw [List.length_map, List.length_take] at hglB
 refine zB (zB (zC ?_))
 refine qM (vJ (f : Int)) ?_
 refine qM v ?_
 refine qD rfl (zN Tryz.underlying24 (v := v) rfl hv) ?_
 refine qD rfl (yV rfl rfl) ?_
 refine qe (zA ?_)
 refine yI (p := ((f : Int) : Int) < (gs.length : Int)) rfl rfl (fun fp => ?_) (fun fp => ?_)
 ·skip
  have hgd := hga.ok f (by omega)
  have hgdl := hgd.2.1
  have hgdh := hgd.2.2
  have hrk := bk_root (fs := gs.getD f []) hokB hgd.1 (by omega) (by omega)
  refine wp_skip ?_
  refine zA (zB ?_)
  refine zX ?_
  refine zC ?_
  refine qM atB ?_
  refine qM (.pointer (some ⟨c, 0, none⟩)) ?_
  refine qM v ?_
  refine qM (vJ (f : Int)) ?_
  refine qD rfl (zJ Tryz.underlying24 sz28 (v := v) rfl rfl hv (by omega) (by omega)) ?_
  obtain ⟨fq, dj, fr⟩ := nm_form (hv.at (z := (f : Int)) (by omega) (by omega)) (j := f) rfl
  have h6 := dj.max
  refine qD rfl (fr ag28 sz28 rfl (Pins.of_le aa.pins (Pin.le_trans af bo))) ?_
  refine qI rfl (zM (vs := [(.pointer (some ⟨c, 0, none⟩)), (.agg [fq].toArray)]) Tryz.func116 nm116 rfl rfl rfl ?_)
  refine Calls.mono (root_spec aa.pins ⟨c7, c5, c6, dd.symm, dg.symm, da⟩ hokB.ar.ok (dj.mono (Pin.le_trans af bo)) ⟨hgd.1, hgdl⟩ (by first | omega | (simp; omega))) ?_
  rintro _ h7 ⟨al, am, dk, rfl, ab, an, a4, a5⟩
  refine ⟨_, rfl, ?_⟩
  have br : ∀ i, inS c uB vB i → w.heap.size ≤ i ∨ noS i := inS_lo (zV bc) dh di
  have bs := aa.trans an br
  have bt := notS (u := uB) (v := vB) a3 c8 c9
  have ft := a0.extS an bt
  have dl : Apart atB.ownBlock al.ownBlock := xZ a4 bt (xV a0)
  have dm : Apart atB.ownBlock am.ownBlock := xZ a5 bt (xV a0)
  have bu := notS (u := uB) (v := vB) ag db.symm de.symm
  have fu := a1.extS an bu
  have fv : Apart atA.ownBlock al.ownBlock := xZ a4 bu (xV a1)
  have fw : Apart atA.ownBlock am.ownBlock := xZ a5 bu (xV a1)
  have bv := notS (u := uB) (v := vB) bb.symm dc.symm df.symm
  have fx := a2.extS an (notSb bv)
  have fy : Apart (some g) al.ownBlock := xZ a4 bv (box_lt a2)
  have fz : Apart (some g) am.ownBlock := xZ a5 bv (box_lt a2)
  have f0 := ab.bx
  have f1 := ab.ou
  have f2 := ab.ov
  have f3 := ab.abu
  have f4 := ab.abv
  have f5 := ab.auv
  have f6 := qL a4 br aa.size
  have f7 := qL a5 br aa.size
  refine qI rfl (yU (E := eInt) (e := 3) [(vJ (rootM nsB bsB (gs.getD f [])))] [rootM nsB bsB (gs.getD f [])] Tryz.underlying57 sz3 zr3 (by exact xQ (by rfl)) (yC (by rfl)) rfl rfl rfl rfl (by decide) bs.pins (fun dn f8 f9 ga q ia => ?_))
  have bw := bs.step ga q
  have dp := ft.below q
  have dq := fu.below q
  have dr := f1.below q
  have ds := f2.below q
  have dt := fx.below q
  have du := f0.below q
  have gb : Own eInt 3 dk f8 w.heap.size dn ([rootM nsB bsB (gs.getD f [])]) := f9.weaken bs.size
  refine qI rfl (oA (E := eInt) (v := atB) (u := dn) 8 Tryz.underlying57 ap3 (by decide) rfl rfl bw.pins dp gb.src (bw.size) (fun r ib gc gd ac ao => ?_))
  have ge := bw.write gd ac ((yB dp))
  have gf := dq.keptA ac bp.symm
  have gg := dr.keptA ac dl.symm
  have gh := ds.keptA ac dm.symm
  have gi := dt.keptA ac bq.symm
  have gj := du.keptA ac a3.symm
  have gk : Apart atA.ownBlock r.ownBlock := zG bp.symm ao dq.lt
  have gl : Apart al.ownBlock r.ownBlock := zG dl.symm ao dr.lt
  have gm : Apart am.ownBlock r.ownBlock := zG dm.symm ao ds.lt
  have gn : Apart (some g) r.ownBlock := zL bq.symm ao dt.lt
  have gp : Apart (some c) r.ownBlock := zL a3.symm ao du.lt
  have ic : (atsB ++ ([rootM nsB bsB (gs.getD f [])])).length = atsB.length + 1 := List.length_append
  refine qM r ?_
  refine qe ?_
  refine yJ ?_
  refine zA (zC ?_)
  refine qM (vJ (f : Int)) ?_
  refine qD rfl (yR rfl rfl (by omega)) ?_
  refine qM (vJ ((f : Int) + 1)) ?_
  refine qe ?_
  refine yK ?_
  refine ⟨_, ?_, _, rfl, _, f + 1, r, atsB ++ ([rootM nsB bsB (gs.getD f [])]), al, am, (addM nsB bsB (gs.getD f [])).2.1, (addM nsB bsB (gs.getD f [])).2.2, dk, (pS 9 (pS 7 (pS 6 (pS 5 (pS 4 (pU 1)))))), rfl, ge, (Pin.le_trans bo an.le), (by omega), hrk.ok, (by rw [take_map (by omega)]; exact (hgsB.px hrk.px hokB hrk.ok).snoc hrk.pl hrk.pd), (by have h8 := hrk.len; have h9 := hgd.2.2; omega), (hgsL.px hrk.px hokB hrk.ok), gc, gg, gh, gf, gi, gj, gl.symm, gm.symm, gk.symm, gn.symm, gp.symm, f5, fv.symm, fy.symm, f3.symm, fw.symm, fz.symm, f4.symm, f6, f7⟩
  omega
 refine wp_exit ?_
 refine yA ?_
 refine yN ?_
 refine yL ?_
 refine zA (zB (zC ?_))
 have hj5n : f = gs.length := by omega
 have hgsR : GsOk (bkq nsB bsB) atsB (gs.map gOf) := by rw [hj5n, List.take_length] at hgsB; exact hgsB
 have gq := hgsL.len
 have gr := hgsR.len
 rw [List.length_map] at gq gr
 have hpt := bk_put (xs := atsA) (ys := atsB) hokB (by omega) ⟨by omega, by omega⟩ hgsL.pl hgsR.pl
 have hpd := hpt.pd
 rw [hgsL.eq, hgsR.eq] at hpd
 refine qM (.pointer (some ⟨c, 0, none⟩)) ?_
 refine qM (.pointer (some ⟨c, 0, none⟩)) ?_
 refine qM atA ?_
 refine qM atB ?_
 obtain ⟨ie, bz, gt, gu, ap⟩ := a1.sealed aa
 have gv := a0.moreO bz ap bp
 have gw := c5.moreO bz ap db
 have gx := c6.moreO bz ap de
 have gy := a2.moreO ap bh.symm
 have gz := c7.moreO ap ag.symm
 obtain ⟨ig, b0, a6, g0, a7⟩ := gv.sealed gt
 have g1 := gw.moreO b0 a7 c8.symm
 have g2 := gx.moreO b0 a7 c9.symm
 have g3 := gy.moreO a7 bq.symm
 have g4 := gz.moreO a7 a3.symm
 refine qI rfl (zM (vs := [(.pointer (some ⟨c, 0, none⟩)), atA, atB]) Tryz.func124 nm124 rfl rfl rfl ?_)
 refine Calls.mono (put_spec a6.pins ⟨g4, g1, g2, dd.symm, dg.symm, da⟩ hokB.ar.ok (gu.mono b0) g0 ⟨by omega, by omega⟩ (qZ hgsL.pl) (qZ hgsR.pl)) ?_
 rintro _ b2 ⟨ih, ii, ij, rfl, ad, dv, g5, g6⟩
 refine ⟨_, rfl, ?_⟩
 have b3 : ∀ i, inS c uB vB i → w.heap.size ≤ i ∨ noS i := inS_lo (zV bc) dh di
 have b4 := a6.trans dv b3
 have g7 := notS (u := uB) (v := vB) bb.symm dc.symm df.symm
 have dw := g3.extS dv (notSb g7)
 have dx := ad.bx
 have g8 := ad.ou
 have g9 := ad.ov
 have ha := ad.abu
 have hb := ad.abv
 have hc := ad.auv
 have ik := qL g5 b3 a6.size
 have il := qL g6 b3 a6.size
 refine qI rfl (zM (vs := [(.pointer (some ⟨c, 0, none⟩)), (vJ (putK nsB bsB atsA atsB))]) Tryz.func115 nm115 rfl rfl rfl ?_)
 refine Calls.mono (form_own b4.pins ⟨dx, g8, g9, ha, hb, hc⟩ hpt.ok.ar.ok hpt.pl) ?_
 rintro _ im ⟨aq, hd, rfl, dy, dz, he⟩
 refine ⟨_, rfl, ?_⟩
 have io : g < b2.heap.size := dw.lt
 have ip : c < b2.heap.size := dx.lt
 have d0 := b4.tr dz
 have hf := dw.ext dz
 refine q0 rfl rfl rfl (yM (cs' := [aq]) (us := [aq]) (v := (.agg [aq].toArray)) sz28 rfl rfl rfl (yC dy.one) d0.pins hf (Nat.le_of_ble_eq_true rfl) rfl (fun hg hh hi d1 iq => ?_))
 have hk := d0.write hi d1 ((zV d4))
 have hl : ∃ Gi, Own eNode 68 Gi hg b2.heap.size aq (formM (putN nsB bsB atsA atsB) (putB nsB bsB atsA atsB) (putK nsB bsB atsA atsB).toNat) ∧ Pin.le Gi hd := let ⟨Gi, a, b⟩ := he; ⟨Gi, a.keptA d1 (fun k hm hn => by cases hn; have := (a.lt _ hm).1; omega), b⟩
 refine qe (zA ?_)
 refine wp_ret ?_
 refine zR ?_
 refine c_retc (cs := [aq]) rfl rfl rfl ag28 sz28 (fun j u hj => by rw [Nat.zero_add]; exact hh.cell hj) ?_
 have hfe : mkGm fs gs = _ := hpd.symm
 obtain ⟨Gi, hoi, hli⟩ := hl
 exact ⟨_, _, rfl, (by rw [hfe, ← book_form hpt.ok hpt.pl]; exact dy), hk, (by rw [hfe, ← book_form hpt.ok hpt.pl]; exact ⟨Gi, hoi.weaken b4.size, hli⟩)⟩

end MK1
end Go.Proofs.YtkfgdhanaijddaaGreatDoor

set_option maxRecDepth 20000
set_option maxHeartbeats 2000000
namespace Go.Proofs.YtkfgdhanaijddaaGreatDoor
namespace DR1
open Go.RowKit Go.GL Go.Proofs
open Go.Proofs.YtkfgdhanaijddaaGreatDoor.B1












theorem next_spec {w : World} {G : Pin} {c : Nat} {cv : Value} {code : List UInt8} {a s : Int} (hP : Pins G w) (hB : Bx G w c [cv, .int .i64 a, .int .u64 s]) (hc : RSl eByte G cv code) (ha : 0 ≤ a ∧ a + 1 ≤ 1000000) (_ : 0 ≤ s ∧ s < 18446744073709551616) :
  Calls Tryz.prog 96 [(.pointer (some ⟨c, 0, none⟩))].toArray w fun e w' => ∃ (z : Int) (a' s' : Int), e = .returned (vJ z) ∧ (0 ≤ z ∧ z ≤ 255) ∧ Bx G w' c [cv, .int .i64 a', .int .u64 s'] ∧ (a ≤ a' ∧ a' ≤ a + 1) ∧ (0 ≤ s' ∧ s' < 18446744073709551616) ∧ Ext (inO (some c)) G w G w' := by
 refine yD (n := 62) Tryz.func96 Tryz.ntmps96 rfl rfl ?_
 have ab : Ext (inO (some c)) G w G w := Ext.refl hP
 have hm := hc.max
 refine zB (zC ?_)
 refine qM (vJ 0) ?_
 refine qe (zA (zB (zC ?_)))
 refine qM (vJ 0) ?_
 refine qe (zA (zB (zB ?_)))
 refine xG (S := fun wz => BxR wz c [cv, (vJ a), (.int .u64 s)]) (last := 10) (by kernel_rfl) rfl ?_
 have m : Below w.heap.size w w.drew := (Below.refl _ _).drew
 have ak := ab.pins.below m
 have l := ab.step ak m
 have f := hB.below m
 refine dM 0 (.pointer (some ⟨c, 0, none⟩)) f.reads ?_
 refine dT (i := 1) rfl rfl (by kernel_rfl) (fun _ _ => xB rfl) f.reads ?_
 refine dT (i := 2) rfl rfl (by kernel_rfl) (fun _ _ => zO (k := 1) rfl Tryz.underlying63 rfl nz3 rfl) f.reads ?_
 refine dT (i := 3) rfl rfl (by kernel_rfl) (fun _ hS => zP (u := (vJ a)) ag3 rfl (hS 1 _ rfl)) f.reads ?_
 refine dM 4 (.pointer (some ⟨c, 0, none⟩)) f.reads ?_
 refine dT (i := 5) rfl rfl (by kernel_rfl) (fun _ _ => xB rfl) f.reads ?_
 refine dT (i := 6) rfl rfl (by kernel_rfl) (fun _ _ => zO (k := 0) rfl Tryz.underlying63 rfl nz22 rfl) f.reads ?_
 refine dT (i := 7) rfl rfl (by kernel_rfl) (fun _ hS => zP (u := cv) ag22 rfl (hS 0 _ rfl)) f.reads ?_
 refine dT (i := 8) rfl rfl (by kernel_rfl) (fun _ _ => zN Tryz.underlying22 (v := cv) rfl hc) f.reads ?_
 refine dT (i := 9) rfl rfl (by kernel_rfl) (fun _ _ => yV rfl rfl) f.reads ?_
 refine yT (by kernel_rfl) ?_
 refine zA ?_
 refine yI (p := (a : Int) < (code.length : Int)) rfl rfl (fun h5 => ?_) (fun h5 => ?_)
 ·skip
  have a3 := (code.getD a.toNat 0).toNat_lt
  refine xG (S := fun wz => BxR wz c [cv, (vJ a), (.int .u64 s)] ∧ Pins G wz) (last := 12) (by kernel_rfl) rfl ?_
  have q : Below w.drew.heap.size w.drew w.drew.drew := (Below.refl _ _).drew
  have am := l.pins.below q
  have b := l.step am q
  have d := f.below q
  refine dT (i := 0) rfl rfl (by kernel_rfl) (fun _ _ => zU (v := (.pointer (some ⟨c, 0, none⟩))) rfl) ⟨d.reads, b.pins⟩ ?_
  refine dT (i := 1) rfl rfl (by kernel_rfl) (fun _ _ => xB rfl) ⟨d.reads, b.pins⟩ ?_
  refine dT (i := 2) rfl rfl (by kernel_rfl) (fun _ _ => zO (k := 0) rfl Tryz.underlying63 rfl nz22 rfl) ⟨d.reads, b.pins⟩ ?_
  refine dT (i := 3) rfl rfl (by kernel_rfl) (fun _ hS => zP (u := cv) ag22 rfl (hS.1 0 _ rfl)) ⟨d.reads, b.pins⟩ ?_
  refine dT (i := 4) rfl rfl (by kernel_rfl) (fun _ _ => zU (v := (.pointer (some ⟨c, 0, none⟩))) rfl) ⟨d.reads, b.pins⟩ ?_
  refine dT (i := 5) rfl rfl (by kernel_rfl) (fun _ _ => xB rfl) ⟨d.reads, b.pins⟩ ?_
  refine dT (i := 6) rfl rfl (by kernel_rfl) (fun _ _ => zO (k := 1) rfl Tryz.underlying63 rfl nz3 rfl) ⟨d.reads, b.pins⟩ ?_
  refine dT (i := 7) rfl rfl (by kernel_rfl) (fun _ hS => zP (u := (vJ a)) ag3 rfl (hS.1 1 _ rfl)) ⟨d.reads, b.pins⟩ ?_
  refine dT (i := 8) rfl rfl (by kernel_rfl) (fun _ _ => zJ Tryz.underlying22 sz5 (v := cv) rfl rfl hc (by omega) (by omega)) ⟨d.reads, b.pins⟩ ?_
  refine dT (i := 9) rfl rfl (by kernel_rfl) (fun _ hS => run_load_byte (r := code.getD (a).toNat 0) rfl ag5 (z := a) rfl hc hS.2 (by omega) (by omega)) ⟨d.reads, b.pins⟩ ?_
  refine dT (i := 10) rfl rfl (by kernel_rfl) (fun _ _ => r_conv (j := ((code.getD (a).toNat 0).toNat : Int)) Tryz.underlying5 Tryz.underlying3 rfl (wrapI (by omega))) ⟨d.reads, b.pins⟩ ?_
  refine dT (i := 11) rfl rfl (by kernel_rfl) (fun _ _ => qG (v := (vJ ((code.getD (a).toNat 0).toNat : Int))) rfl) ⟨d.reads, b.pins⟩ ?_
  refine yT (by kernel_rfl) ?_
  refine zA (zB (zC ?_))
  refine qM (.pointer (some ⟨c, 0, none⟩)) ?_
  refine qD rfl (xB rfl) ?_
  refine qD rfl (zO (k := 1) rfl Tryz.underlying63 rfl nz3 rfl) ?_
  refine qD rfl (zP (u := (vJ a)) ag3 rfl (d.cell (o := 1) rfl)) ?_
  refine qD rfl (yR rfl rfl (by omega)) ?_
  refine qD rfl (xB rfl) ?_
  refine qD rfl (zO (k := 1) rfl Tryz.underlying63 rfl nz3 rfl) ?_
  refine q0 rfl rfl rfl (yM (cs' := [cv, (vJ (a + 1)), (.int .u64 s)]) (us := [(vJ (a + 1))]) (v := (vJ (a + 1))) sz3 rfl rfl rfl (yC (by rfl)) b.pins d (Nat.le_of_ble_eq_true rfl) rfl (fun a4 ac an ao a5 => ?_))
  have ad := b.write an ao (xM)
  refine qe (zA (zB (zC ?_)))
  refine qM (.pointer (some ⟨c, 0, none⟩)) ?_
  refine qM (.pointer (some ⟨c, 0, none⟩)) ?_
  refine qD rfl (xB rfl) ?_
  refine qD rfl (zO (k := 2) rfl Tryz.underlying63 rfl nz61 rfl) ?_
  refine qD rfl (zP (u := (.int .u64 s)) ag61 rfl (ac.cell (o := 2) rfl)) ?_
  refine qD rfl (r_mulU rfl rfl) ?_
  refine qM (vJ ((code.getD (a).toNat 0).toNat : Int)) ?_
  refine qD rfl (r_conv (j := ((code.getD (a).toNat 0).toNat : Int)) Tryz.underlying3 Tryz.underlying61 rfl (wrapU (by omega))) ?_
  refine qD rfl (r_addU rfl rfl) ?_
  refine qD rfl (r_addU rfl rfl) ?_
  refine qD rfl (xB rfl) ?_
  refine qD rfl (zO (k := 2) rfl Tryz.underlying63 rfl nz61 rfl) ?_
  refine q0 rfl rfl rfl (yM (cs' := [cv, (vJ (a + 1)), (.int .u64 (IntKind.u64.wrap ((IntKind.u64.wrap ((IntKind.u64.wrap (s * 6364136223846793005)) + ((code.getD (a).toNat 0).toNat : Int))) + 868868)))]) (us := [(.int .u64 (IntKind.u64.wrap ((IntKind.u64.wrap ((IntKind.u64.wrap (s * 6364136223846793005)) + ((code.getD (a).toNat 0).toNat : Int))) + 868868)))]) (v := (.int .u64 (IntKind.u64.wrap ((IntKind.u64.wrap ((IntKind.u64.wrap (s * 6364136223846793005)) + ((code.getD (a).toNat 0).toNat : Int))) + 868868)))) sz61 rfl rfl rfl (yC (by rfl)) ad.pins ac (Nat.le_of_ble_eq_true rfl) rfl (fun t ap aq ar a6 => ?_))
  have ae := ad.write aq ar (xM)
  refine qe (zA (zB (zB ?_)))
  refine xG (S := fun wz => BxR wz c [cv, (vJ (a + 1)), (.int .u64 (IntKind.u64.wrap ((IntKind.u64.wrap ((IntKind.u64.wrap (s * 6364136223846793005)) + ((code.getD (a).toNat 0).toNat : Int))) + 868868)))]) (last := 10) (by kernel_rfl) rfl ?_
  have x : Below t.heap.size t t.drew := (Below.refl _ _).drew
  have au := ae.pins.below x
  have af := ae.step au x
  have g := ap.below x
  refine dM 0 (.pointer (some ⟨c, 0, none⟩)) g.reads ?_
  refine dT (i := 1) rfl rfl (by kernel_rfl) (fun _ _ => xB rfl) g.reads ?_
  refine dT (i := 2) rfl rfl (by kernel_rfl) (fun _ _ => zO (k := 1) rfl Tryz.underlying63 rfl nz3 rfl) g.reads ?_
  refine dT (i := 3) rfl rfl (by kernel_rfl) (fun _ hS => zP (u := (vJ (a + 1))) ag3 rfl (hS 1 _ rfl)) g.reads ?_
  refine dM 4 (.pointer (some ⟨c, 0, none⟩)) g.reads ?_
  refine dT (i := 5) rfl rfl (by kernel_rfl) (fun _ _ => xB rfl) g.reads ?_
  refine dT (i := 6) rfl rfl (by kernel_rfl) (fun _ _ => zO (k := 0) rfl Tryz.underlying63 rfl nz22 rfl) g.reads ?_
  refine dT (i := 7) rfl rfl (by kernel_rfl) (fun _ hS => zP (u := cv) ag22 rfl (hS 0 _ rfl)) g.reads ?_
  refine dT (i := 8) rfl rfl (by kernel_rfl) (fun _ _ => zN Tryz.underlying22 (v := cv) rfl hc) g.reads ?_
  refine dT (i := 9) rfl rfl (by kernel_rfl) (fun _ _ => r_leq rfl rfl) g.reads ?_
  refine yT (by kernel_rfl) ?_
  refine zA ?_
  refine yI (p := (a + 1 : Int) ≤ (code.length : Int)) rfl rfl (fun av => ?_) (fun av => ?_)
  ·skip
   refine zB (zC ?_)
   refine qM (vJ ((code.getD (a).toNat 0).toNat : Int)) ?_
   refine qM (vJ ((code.getD (a).toNat 0).toNat : Int)) ?_
   refine qe (zA ?_)
   refine wp_ret ?_
   refine zR ?_
   refine zQ (v := (vJ ((code.getD (a).toNat 0).toNat : Int))) rfl rfl rfl ?_
   have hwr := wrapU_lt (((IntKind.u64.wrap ((IntKind.u64.wrap (s * 6364136223846793005)) + ((code.getD (a).toNat 0).toNat : Int))) + 868868))
   exact ⟨_, _, _, rfl, (by omega), g, (by omega), (by omega), af⟩
  refine wp_skip ?_
  refine zA (zB (zC ?_))
  refine qM (.pointer (some ⟨c, 0, none⟩)) ?_
  refine qD rfl (xB rfl) ?_
  refine qD rfl (zO (k := 2) rfl Tryz.underlying63 rfl nz61 rfl) ?_
  refine qD rfl (zP (u := (.int .u64 (IntKind.u64.wrap ((IntKind.u64.wrap ((IntKind.u64.wrap (s * 6364136223846793005)) + ((code.getD (a).toNat 0).toNat : Int))) + 868868)))) ag61 rfl (g.cell (o := 2) rfl)) ?_
  refine qD rfl (r_shrU rfl rfl (by omega)) ?_
  refine qD rfl (r_and rfl rfl) ?_
  have a7 := low8_lt (Int.fdiv (IntKind.u64.wrap ((IntKind.u64.wrap ((IntKind.u64.wrap (s * 6364136223846793005)) + ((code.getD (a).toNat 0).toNat : Int))) + 868868)) (2 ^ (min (40 : Int).toNat 64)))
  refine qD rfl (r_conv (j := andW .u64 (Int.fdiv (IntKind.u64.wrap ((IntKind.u64.wrap ((IntKind.u64.wrap (s * 6364136223846793005)) + ((code.getD (a).toNat 0).toNat : Int))) + 868868)) (2 ^ (min (40 : Int).toNat 64))) 255) Tryz.underlying61 Tryz.underlying3 rfl (wrapI (by omega))) ?_
  refine qM (vJ (andW .u64 (Int.fdiv (IntKind.u64.wrap ((IntKind.u64.wrap ((IntKind.u64.wrap (s * 6364136223846793005)) + ((code.getD (a).toNat 0).toNat : Int))) + 868868)) (2 ^ (min (40 : Int).toNat 64))) 255)) ?_
  refine qe (zA ?_)
  refine wp_ret ?_
  refine zR ?_
  refine zQ (v := (vJ (andW .u64 (Int.fdiv (IntKind.u64.wrap ((IntKind.u64.wrap ((IntKind.u64.wrap (s * 6364136223846793005)) + ((code.getD (a).toNat 0).toNat : Int))) + 868868)) (2 ^ (min (40 : Int).toNat 64))) 255))) rfl rfl rfl ?_
  have hwr := wrapU_lt (((IntKind.u64.wrap ((IntKind.u64.wrap (s * 6364136223846793005)) + ((code.getD (a).toNat 0).toNat : Int))) + 868868))
  exact ⟨_, _, _, rfl, (by omega), g, (by omega), (by omega), af⟩
 refine wp_skip ?_
 refine zA (zB (zC ?_))
 refine qM (.pointer (some ⟨c, 0, none⟩)) ?_
 refine qD rfl (xB rfl) ?_
 refine qD rfl (zO (k := 1) rfl Tryz.underlying63 rfl nz3 rfl) ?_
 refine qD rfl (zP (u := (vJ a)) ag3 rfl (f.cell (o := 1) rfl)) ?_
 refine qD rfl (yR rfl rfl (by omega)) ?_
 refine qD rfl (xB rfl) ?_
 refine qD rfl (zO (k := 1) rfl Tryz.underlying63 rfl nz3 rfl) ?_
 refine q0 rfl rfl rfl (yM (cs' := [cv, (vJ (a + 1)), (.int .u64 s)]) (us := [(vJ (a + 1))]) (v := (vJ (a + 1))) sz3 rfl rfl rfl (yC (by rfl)) l.pins f (Nat.le_of_ble_eq_true rfl) rfl (fun a8 ag aw ax a9 => ?_))
 have ah := l.write aw ax (xM)
 refine qe (zA (zB (zC ?_)))
 refine qM (.pointer (some ⟨c, 0, none⟩)) ?_
 refine qM (.pointer (some ⟨c, 0, none⟩)) ?_
 refine qD rfl (xB rfl) ?_
 refine qD rfl (zO (k := 2) rfl Tryz.underlying63 rfl nz61 rfl) ?_
 refine qD rfl (zP (u := (.int .u64 s)) ag61 rfl (ag.cell (o := 2) rfl)) ?_
 refine qD rfl (r_mulU rfl rfl) ?_
 refine qM (vJ 0) ?_
 refine qD rfl (r_conv (j := 0) Tryz.underlying3 Tryz.underlying61 rfl (wrapU (by omega))) ?_
 refine qD rfl (r_addU rfl rfl) ?_
 refine qD rfl (r_addU rfl rfl) ?_
 refine qD rfl (xB rfl) ?_
 refine qD rfl (zO (k := 2) rfl Tryz.underlying63 rfl nz61 rfl) ?_
 refine q0 rfl rfl rfl (yM (cs' := [cv, (vJ (a + 1)), (.int .u64 (IntKind.u64.wrap ((IntKind.u64.wrap ((IntKind.u64.wrap (s * 6364136223846793005)) + 0)) + 868868)))]) (us := [(.int .u64 (IntKind.u64.wrap ((IntKind.u64.wrap ((IntKind.u64.wrap (s * 6364136223846793005)) + 0)) + 868868)))]) (v := (.int .u64 (IntKind.u64.wrap ((IntKind.u64.wrap ((IntKind.u64.wrap (s * 6364136223846793005)) + 0)) + 868868)))) sz61 rfl rfl rfl (yC (by rfl)) ah.pins ag (Nat.le_of_ble_eq_true rfl) rfl (fun y ay az a0 ba => ?_))
 have ai := ah.write az a0 (xM)
 refine qe (zA (zB (zB ?_)))
 refine xG (S := fun wz => BxR wz c [cv, (vJ (a + 1)), (.int .u64 (IntKind.u64.wrap ((IntKind.u64.wrap ((IntKind.u64.wrap (s * 6364136223846793005)) + 0)) + 868868)))]) (last := 10) (by kernel_rfl) rfl ?_
 have aa : Below y.heap.size y y.drew := (Below.refl _ _).drew
 have a1 := ai.pins.below aa
 have aj := ai.step a1 aa
 have h := ay.below aa
 refine dM 0 (.pointer (some ⟨c, 0, none⟩)) h.reads ?_
 refine dT (i := 1) rfl rfl (by kernel_rfl) (fun _ _ => xB rfl) h.reads ?_
 refine dT (i := 2) rfl rfl (by kernel_rfl) (fun _ _ => zO (k := 1) rfl Tryz.underlying63 rfl nz3 rfl) h.reads ?_
 refine dT (i := 3) rfl rfl (by kernel_rfl) (fun _ hS => zP (u := (vJ (a + 1))) ag3 rfl (hS 1 _ rfl)) h.reads ?_
 refine dM 4 (.pointer (some ⟨c, 0, none⟩)) h.reads ?_
 refine dT (i := 5) rfl rfl (by kernel_rfl) (fun _ _ => xB rfl) h.reads ?_
 refine dT (i := 6) rfl rfl (by kernel_rfl) (fun _ _ => zO (k := 0) rfl Tryz.underlying63 rfl nz22 rfl) h.reads ?_
 refine dT (i := 7) rfl rfl (by kernel_rfl) (fun _ hS => zP (u := cv) ag22 rfl (hS 0 _ rfl)) h.reads ?_
 refine dT (i := 8) rfl rfl (by kernel_rfl) (fun _ _ => zN Tryz.underlying22 (v := cv) rfl hc) h.reads ?_
 refine dT (i := 9) rfl rfl (by kernel_rfl) (fun _ _ => r_leq rfl rfl) h.reads ?_
 refine yT (by kernel_rfl) ?_
 refine zA ?_
 refine yI (p := (a + 1 : Int) ≤ (code.length : Int)) rfl rfl (fun a2 => ?_) (fun a2 => ?_)
 ·skip
  refine zB (zC ?_)
  refine qM (vJ 0) ?_
  refine qM (vJ 0) ?_
  refine qe (zA ?_)
  refine wp_ret ?_
  refine zR ?_
  refine zQ (v := (vJ 0)) rfl rfl rfl ?_
  have hwr := wrapU_lt (((IntKind.u64.wrap ((IntKind.u64.wrap (s * 6364136223846793005)) + 0)) + 868868))
  exact ⟨_, _, _, rfl, (by omega), h, (by omega), (by omega), aj⟩
 refine wp_skip ?_
 refine zA (zB (zC ?_))
 refine qM (.pointer (some ⟨c, 0, none⟩)) ?_
 refine qD rfl (xB rfl) ?_
 refine qD rfl (zO (k := 2) rfl Tryz.underlying63 rfl nz61 rfl) ?_
 refine qD rfl (zP (u := (.int .u64 (IntKind.u64.wrap ((IntKind.u64.wrap ((IntKind.u64.wrap (s * 6364136223846793005)) + 0)) + 868868)))) ag61 rfl (h.cell (o := 2) rfl)) ?_
 refine qD rfl (r_shrU rfl rfl (by omega)) ?_
 refine qD rfl (r_and rfl rfl) ?_
 have bb := low8_lt (Int.fdiv (IntKind.u64.wrap ((IntKind.u64.wrap ((IntKind.u64.wrap (s * 6364136223846793005)) + 0)) + 868868)) (2 ^ (min (40 : Int).toNat 64)))
 refine qD rfl (r_conv (j := andW .u64 (Int.fdiv (IntKind.u64.wrap ((IntKind.u64.wrap ((IntKind.u64.wrap (s * 6364136223846793005)) + 0)) + 868868)) (2 ^ (min (40 : Int).toNat 64))) 255) Tryz.underlying61 Tryz.underlying3 rfl (wrapI (by omega))) ?_
 refine qM (vJ (andW .u64 (Int.fdiv (IntKind.u64.wrap ((IntKind.u64.wrap ((IntKind.u64.wrap (s * 6364136223846793005)) + 0)) + 868868)) (2 ^ (min (40 : Int).toNat 64))) 255)) ?_
 refine qe (zA ?_)
 refine wp_ret ?_
 refine zR ?_
 refine zQ (v := (vJ (andW .u64 (Int.fdiv (IntKind.u64.wrap ((IntKind.u64.wrap ((IntKind.u64.wrap (s * 6364136223846793005)) + 0)) + 868868)) (2 ^ (min (40 : Int).toNat 64))) 255))) rfl rfl rfl ?_
 have hwr := wrapU_lt (((IntKind.u64.wrap ((IntKind.u64.wrap (s * 6364136223846793005)) + 0)) + 868868))
 exact ⟨_, _, _, rfl, (by omega), h, (by omega), (by omega), aj⟩

theorem qJ {w : World} {G : Pin} {c : Nat} {cv : Value} {code : List UInt8} {a s : Int} {n : Int} (hP : Pins G w) (hB : Bx G w c [cv, .int .i64 a, .int .u64 s]) (hc : RSl eByte G cv code) (ha : 0 ≤ a ∧ a + 2 ≤ 1000000) (hs : 0 ≤ s ∧ s < 18446744073709551616) (hn : n ≤ 1000) :
  Calls Tryz.prog 41 [(.pointer (some ⟨c, 0, none⟩)), (vJ n)].toArray w fun e w' => ∃ (z : Int) (a' s' : Int), e = .returned (vJ z) ∧ (0 ≤ z ∧ (z < n ∨ z = 0)) ∧ Bx G w' c [cv, .int .i64 a', .int .u64 s'] ∧ (a ≤ a' ∧ a' ≤ a + 2) ∧ (0 ≤ s' ∧ s' < 18446744073709551616) ∧ Ext (inO (some c)) G w G w' := by
 refine yD (n := 20) Tryz.func41 Tryz.ntmps41 rfl rfl ?_
 have f : Ext (inO (some c)) G w G w := Ext.refl hP
 have hm := hc.max
 refine zB (zC ?_)
 refine qM (vJ 0) ?_
 refine qe (zA (zB (zB (zC ?_))))
 refine qM (vJ n) ?_
 refine qD rfl (r_leq rfl rfl) ?_
 refine qe (zA ?_)
 refine yI (p := (n : Int) ≤ 1) rfl rfl (fun j => ?_) (fun j => ?_)
 ·skip
  refine zB (zC ?_)
  refine qM (vJ 0) ?_
  refine qe (zA ?_)
  refine wp_ret ?_
  refine zR ?_
  refine zQ (v := (vJ 0)) rfl rfl rfl ?_
  exact ⟨_, _, _, rfl, (by omega), hB, (by omega), (by omega), f⟩
 refine wp_skip ?_
 refine zA (zB (zC ?_))
 refine qM (.pointer (some ⟨c, 0, none⟩)) ?_
 refine qI rfl (zM (vs := [(.pointer (some ⟨c, 0, none⟩))]) Tryz.func96 nm96 rfl rfl rfl ?_)
 refine Calls.mono (next_spec f.pins hB hc (by omega) (by omega)) ?_
 rintro _ u ⟨b, x, y, rfl, aa, h, ab, ac, k⟩
 refine ⟨_, rfl, ?_⟩
 have g := f.trans k (fun i hi => xM i hi)
 refine qM (vJ b) ?_
 refine qe (zA (zB (zB (zC ?_))))
 refine qM (vJ n) ?_
 refine qD rfl (r_gtr rfl rfl) ?_
 refine qe (zA ?_)
 refine yI (p := (200 : Int) < n) rfl rfl (fun l => ?_) (fun l => ?_)
 ·skip
  refine zC ?_
  refine qM (vJ b) ?_
  refine qD rfl (r_mul rfl rfl (by omega)) ?_
  refine qM (.pointer (some ⟨c, 0, none⟩)) ?_
  refine qI rfl (zM (vs := [(.pointer (some ⟨c, 0, none⟩))]) Tryz.func96 nm96 rfl rfl rfl ?_)
  refine Calls.mono (next_spec g.pins h hc (by omega) (by omega)) ?_
  rintro _ ad ⟨d, ae, af, rfl, ag, m, ah, ai, o⟩
  refine ⟨_, rfl, ?_⟩
  have q := g.trans o (fun i hi => xM i hi)
  refine qD rfl (yR rfl rfl (by omega)) ?_
  refine qM (vJ ((b * 256) + d)) ?_
  refine qe (zA (zB (zC ?_)))
  refine qM (vJ ((b * 256) + d)) ?_
  refine qM (vJ n) ?_
  refine qD rfl (r_rem rfl rfl (by omega) (by omega)) ?_
  refine qM (vJ (((b * 256) + d) % n)) ?_
  refine qe (zA ?_)
  refine wp_ret ?_
  refine zR ?_
  refine zQ (v := (vJ (((b * 256) + d) % n))) rfl rfl rfl ?_
  have r := Int.emod_nonneg (((b * 256) + d)) (show n ≠ 0 by omega)
  have t := Int.emod_lt_of_pos (((b * 256) + d)) (show 0 < n by omega)
  exact ⟨_, _, _, rfl, (by omega), m, (by omega), (by omega), q⟩
 refine wp_skip ?_
 refine zA (zB (zC ?_))
 refine qM (vJ b) ?_
 refine qM (vJ n) ?_
 refine qD rfl (r_rem rfl rfl (by omega) (by omega)) ?_
 refine qM (vJ (b % n)) ?_
 refine qe (zA ?_)
 refine wp_ret ?_
 refine zR ?_
 refine zQ (v := (vJ (b % n))) rfl rfl rfl ?_
 have r := Int.emod_nonneg (b) (show n ≠ 0 by omega)
 have t := Int.emod_lt_of_pos (b) (show 0 < n by omega)
 exact ⟨_, _, _, rfl, (by omega), h, (by omega), (by omega), g⟩

theorem one_spec {w : World} {G : Pin} {c : Nat} {cv : Value} {code : List UInt8} {a s : Int} {n : Int} (hP : Pins G w) (hB : Bx G w c [cv, .int .i64 a, .int .u64 s]) (hc : RSl eByte G cv code) (ha : 0 ≤ a ∧ a + 2 ≤ 1000000) (hs : 0 ≤ s ∧ s < 18446744073709551616) (hn : n ≤ 1000) :
  Calls Tryz.prog 43 [(.pointer (some ⟨c, 0, none⟩)), (.int .i64 n)].toArray w fun e w' => ∃ (z : Bool) (a' s' : Int), e = .returned (.bool z) ∧ Bx G w' c [cv, .int .i64 a', .int .u64 s'] ∧ (a ≤ a' ∧ a' ≤ a + 2) ∧ (0 ≤ s' ∧ s' < 18446744073709551616) ∧ Ext (inO (some c)) G w G w' := by
 refine yD (n := 9) Tryz.func43 Tryz.ntmps43 rfl rfl ?_
 have b : Ext (inO (some c)) G w G w := Ext.refl hP
 have hm := hc.max
 refine zB (zC ?_)
 refine qM (.bool false) ?_
 refine qe (zA (zB (zC ?_)))
 refine qM (.pointer (some ⟨c, 0, none⟩)) ?_
 refine qM (.int .i64 n) ?_
 refine qI rfl (zM (vs := [(.pointer (some ⟨c, 0, none⟩)), (.int .i64 n)]) Tryz.func41 nm41 rfl rfl rfl ?_)
 refine Calls.mono (qJ b.pins hB hc (by omega) (by omega) (n := n) (by omega)) ?_
 rintro _ j ⟨d, k, l, rfl, m, f, o, p, g⟩
 refine ⟨_, rfl, ?_⟩
 have h := b.trans g (fun i hi => xM i hi)
 refine qD rfl (r_eql rfl rfl) ?_
 refine qM (.bool (decide ((d : Int) = 0))) ?_
 refine qe (zA ?_)
 refine wp_ret ?_
 refine zR ?_
 refine zQ (v := (.bool (decide ((d : Int) = 0)))) rfl rfl rfl ?_
 exact ⟨_, _, _, rfl, f, (by omega), (by omega), h⟩

theorem among_spec {w : World} {G : Pin} {c : Nat} {cv : Value} {code : List UInt8} {a s : Int} {l : Value} {xs : List Int} (hP : Pins G w) (hB : Bx G w c [cv, .int .i64 a, .int .u64 s]) (hc : RSl eByte G cv code) (ha : 0 ≤ a ∧ a + 2 ≤ 1000000) (hs : 0 ≤ s ∧ s < 18446744073709551616) (hl : RSl eInt G l xs) (hx : 1 ≤ xs.length ∧ xs.length ≤ 1000) :
  Calls Tryz.prog 100 [(.pointer (some ⟨c, 0, none⟩)), l].toArray w fun e w' => ∃ (z : Int) (a' s' : Int), e = .returned (.int .i64 z) ∧ z ∈ xs ∧ Bx G w' c [cv, .int .i64 a', .int .u64 s'] ∧ (a ≤ a' ∧ a' ≤ a + 2) ∧ (0 ≤ s' ∧ s' < 18446744073709551616) ∧ Ext (inO (some c)) G w G w' := by
 refine yD (n := 12) Tryz.func100 Tryz.ntmps100 rfl rfl ?_
 have d : Ext (inO (some c)) G w G w := Ext.refl hP
 have hm := hc.max
 have hml := hl.max
 refine zB (zC ?_)
 refine qM (.int .i64 0) ?_
 refine qe (zA (zB (zC ?_)))
 refine qM l ?_
 refine qM (.pointer (some ⟨c, 0, none⟩)) ?_
 refine qM l ?_
 refine qD rfl (zN Tryz.underlying57 (v := l) rfl hl) ?_
 refine qI rfl (zM (vs := [(.pointer (some ⟨c, 0, none⟩)), (.int .i64 (xs.length : Int))]) Tryz.func41 nm41 rfl rfl rfl ?_)
 refine Calls.mono (qJ d.pins hB hc (by omega) (by omega) (n := (xs.length : Int)) (by omega)) ?_
 rintro _ j ⟨b, k, m, rfl, o, g, p, q, h⟩
 refine ⟨_, rfl, ?_⟩
 have f := d.trans h (fun i hi => xM i hi)
 refine qD rfl (zJ Tryz.underlying57 sz3 (v := l) rfl rfl hl (by omega) (by omega)) ?_
 refine qD rfl (zK (r := xs.getD (b).toNat 0) rfl ag3 (z := b) rfl hl f.pins (by omega) (by omega)) ?_
 refine qM (.int .i64 (xs.getD (b).toNat 0)) ?_
 refine qe (zA ?_)
 refine wp_ret ?_
 refine zR ?_
 refine zQ (v := (.int .i64 (xs.getD (b).toNat 0))) rfl rfl rfl ?_
 exact ⟨_, _, _, rfl, yS (by omega), g, (by omega), (by omega), f⟩

end DR1
end Go.Proofs.YtkfgdhanaijddaaGreatDoor

set_option maxRecDepth 20000
set_option maxHeartbeats 2000000
namespace Go.Proofs.YtkfgdhanaijddaaGreatDoor
namespace DR2
open Go.RowKit Go.GL Go.Proofs
open Go.Proofs.YtkfgdhanaijddaaGreatDoor.B1
open Go.Proofs.YtkfgdhanaijddaaGreatDoor.C1
open Go.Proofs.YtkfgdhanaijddaaGreatDoor.D1
open Go.Proofs.YtkfgdhanaijddaaGreatDoor.E1
open Go.Proofs.YtkfgdhanaijddaaGreatDoor.MK1
open Go.Proofs.YtkfgdhanaijddaaGreatDoor.DR1









theorem xS {w : World} {G : Pin} {base : Nat} {Q : List Nat} {vs us ws : List Value} {u v : Value} (hP : Pins G w) (hF : Fr 68 base G w Q vs) (hq : KQ Q) (hl : Q.length ≤ 60) (hb : base ≤ w.heap.size)
  (hu : RSl eVal G u us) (hv : RSl eVal G v ws) (hmu : ∀ x ∈ us, x ∈ vs) (hmv : ∀ x ∈ ws, x ∈ vs) (hlu : us.length ≤ 100) (hlv : ws.length ≤ 100) :
  Calls Tryz.prog 67 [u, v].toArray w fun e w' => ∃ (x : Value) (g : Nat) (G' : Pin), e = .returned (.agg [x].toArray) ∧ KQ (g :: Q) ∧ Fr 68 base G' w' (g :: Q) (x :: vs) ∧ Ext noS G w G' w' := by
 obtain ⟨gs, g1, g2, g3⟩ := (hF.mem hmu).games
 obtain ⟨hs, h1, h2, h3⟩ := (hF.mem hmv).games
 have ru := vals_read hu (by rw [List.length_map]; exact g1) g3
 have rv := vals_read hv (by rw [List.length_map]; exact h1) h3
 have wu := hq.allW (by omega) g2 (by omega)
 have wv := hq.allW (by omega) h2 (by omega)
 refine (l3Make_own hP ru rv wu wv).mono fun e w' ⟨x, G', e1, hr, hx, Gi, ho, hle⟩ => ?_
 have hk := hq.add (by omega) g2 h2 (by omega) (by omega)
 have hm := hk.is _ List.mem_cons_self
 exact ⟨x, _, G', e1, hk, (hF.ext hx).cons ⟨⟨Gi, ho.weaken hb, hle⟩, hr, hm.1.lo⟩, hx⟩

theorem l3Small_spec {w : World} {G : Pin} (hP : Pins G w) :
  Calls Tryz.prog 97 [].toArray w fun e w' => ∃ (u : Value) (vs : List Value) (Q : List Nat) (G' : Pin), e = .returned u ∧ Own eVal 28 G' w' w.heap.size u vs ∧ Fr 68 w.heap.size G' w' Q vs ∧ KQ Q ∧ vs.length = 9 ∧ Q.length = 9 ∧ Ext noS G w G' w' := by
 refine yD (n := 59) Tryz.func97 Tryz.ntmps97 rfl rfl ?_
 have bi : Ext noS G w G w := Ext.refl hP
 have ey : Fr 68 w.heap.size G w [] [] := Fr.nil
 refine zB (zC ?_)
 refine qM (.slice none 0 0) ?_
 refine qe (zA (zB (zC ?_)))
 refine qI rfl (zM (vs := [(.slice none 0 0), (.slice none 0 0)]) Tryz.func67 nm67 rfl rfl rfl ?_)
 refine Calls.mono (xS bi.pins ey KQ.nil (by first | omega | (simp; done) | (simp; omega)) bi.size (xL _ _) (xL _ _) (by simp) (by simp) (by first | omega | simp) (by first | omega | simp)) ?_
 rintro _ w4 ⟨a, g2, G3, rfl, ez, cq, e0⟩
 refine ⟨_, rfl, ?_⟩
 have bj := bi.tr e0
 have m := cq.one List.mem_cons_self
 refine qI rfl (yH [(.slice none 0 0)] zr28 rfl bj.pins (fun e1 ls lu cr e2 ct => ?_))
 have cu := bj.step e2 ct
 have e3 := cq.below ct
 have cv : w.heap.size ≤ e1 := by have := bj.size; omega
 refine q0 rfl rfl rfl (yM (cs' := [a]) (us := [a]) (v := (.agg [a].toArray)) sz28 rfl rfl rfl (yC m) cu.pins cr (Nat.le_of_ble_eq_true rfl) rfl (fun lv e4 e5 cw lw => ?_))
 have e6 := cu.write e5 cw ((zV cv))
 have e7 := e3.kept cw (fun k hk o u => by cases hk; exact cr.free o u)
 obtain ⟨e8, e9, a5, aj, lx⟩ := e4.shut e6 cv
 have fa := e7.le e9
 refine qe (zA (zB (zC ?_)))
 refine qD rfl (yF (cs := [a]) ag28 sz28 rfl (fun j u hj => a5.pins _ _ _ (aj _ _ (by simpa using hj)))) ?_
 refine qI rfl (xC (E := eVal) (e := 28) [a] a Tryz.underlying24 sz28 zr28 ⟨rfl, m⟩ rfl (by decide) a5.pins (fun cx fb fc fd cy ly => ?_))
 have fe := a5.step fd cy
 have ff := fa.below cy
 have fg : Own eVal 28 e8 fb w.heap.size cx ([a]) := fc.weaken a5.size
 obtain ⟨lz, ak, bk, fh, l0⟩ := fg.sealed fe
 have fi := ff.le ak
 refine qI rfl (zM (vs := [cx, (.slice none 0 0)]) Tryz.func67 nm67 rfl rfl rfl ?_)
 refine Calls.mono (xS bk.pins fi ez (by first | omega | (simp; done) | (simp; omega)) bk.size fh (xL _ _) (by simp) (by simp) (by first | omega | simp) (by first | omega | simp)) ?_
 rintro _ l1 ⟨f, l2, l3, rfl, fj, cz, al⟩
 refine ⟨_, rfl, ?_⟩
 have bl := bk.tr al
 have a1 := cz.one List.mem_cons_self
 refine qI rfl (yH [(.slice none 0 0)] zr28 rfl bl.pins (fun fk l4 l5 c0 fl c1 => ?_))
 have c2 := bl.step fl c1
 have fm := cz.below c1
 have c3 : w.heap.size ≤ fk := by have := bl.size; omega
 refine q0 rfl rfl rfl (yM (cs' := [f]) (us := [f]) (v := (.agg [f].toArray)) sz28 rfl rfl rfl (yC a1) c2.pins c0 (Nat.le_of_ble_eq_true rfl) rfl (fun l6 fn fo c4 l7 => ?_))
 have fp := c2.write fo c4 ((zV c3))
 have fq := fm.kept c4 (fun k hk o u => by cases hk; exact c0.free o u)
 obtain ⟨fr, am, a6, bm, l8⟩ := fn.shut fp c3
 have fs := fq.le am
 refine qe (zA (zB (zC ?_)))
 refine qD rfl (yF (cs := [a]) ag28 sz28 rfl (fun j u hj => (Pins.of_le a6.pins (Pin.le_trans (Pin.le_trans ak al.le) am)) _ _ _ (aj _ _ (by simpa using hj)))) ?_
 refine qI rfl (xC (E := eVal) (e := 28) [a] a Tryz.underlying24 sz28 zr28 ⟨rfl, m⟩ rfl (by decide) a6.pins (fun c5 ft fu fv c6 l9 => ?_))
 have fw := a6.step fv c6
 have fx := fs.below c6
 have fy : Own eVal 28 fr ft w.heap.size c5 ([a]) := fu.weaken a6.size
 obtain ⟨ma, aa, bn, fz, mb⟩ := fy.sealed fw
 have f0 := fx.le aa
 refine qI rfl (zM (vs := [(.slice none 0 0), c5]) Tryz.func67 nm67 rfl rfl rfl ?_)
 refine Calls.mono (xS bn.pins f0 fj (by first | omega | (simp; done) | (simp; omega)) bn.size (xL _ _) fz (by simp) (by simp) (by first | omega | simp) (by first | omega | simp)) ?_
 rintro _ mc ⟨ag, md, me, rfl, f1, c7, ab⟩
 refine ⟨_, rfl, ?_⟩
 have bo := bn.tr ab
 have a7 := c7.one List.mem_cons_self
 refine qI rfl (yH [(.slice none 0 0)] zr28 rfl bo.pins (fun f2 mf mg c8 f3 c9 => ?_))
 have da := bo.step f3 c9
 have f4 := c7.below c9
 have db : w.heap.size ≤ f2 := by have := bo.size; omega
 refine q0 rfl rfl rfl (yM (cs' := [ag]) (us := [ag]) (v := (.agg [ag].toArray)) sz28 rfl rfl rfl (yC a7) da.pins c8 (Nat.le_of_ble_eq_true rfl) rfl (fun mh f5 f6 dc mi => ?_))
 have f7 := da.write f6 dc ((zV db))
 have f8 := f4.kept dc (fun k hk o u => by cases hk; exact c8.free o u)
 obtain ⟨dd, ac, a8, de, mj⟩ := f5.shut f7 db
 have f9 := f8.le ac
 refine qe (zA (zB (zC ?_)))
 refine qD rfl (yF (cs := [a]) ag28 sz28 rfl (fun j u hj => (Pins.of_le a8.pins (Pin.le_trans (Pin.le_trans (Pin.le_trans (Pin.le_trans (Pin.le_trans ak al.le) am) aa) ab.le) ac)) _ _ _ (aj _ _ (by simpa using hj)))) ?_
 refine qI rfl (xC (E := eVal) (e := 28) [a] a Tryz.underlying24 sz28 zr28 ⟨rfl, m⟩ rfl (by decide) a8.pins (fun bp ga gb gc df mk => ?_))
 have a9 := a8.step gc df
 have gd := f9.below df
 have dg : Own eVal 28 dd ga w.heap.size bp ([a]) := gb.weaken a8.size
 refine qD rfl (yF (cs := [a]) ag28 sz28 rfl (fun j u hj => (Pins.of_le a9.pins (Pin.le_trans (Pin.le_trans (Pin.le_trans (Pin.le_trans (Pin.le_trans ak al.le) am) aa) ab.le) ac)) _ _ _ (aj _ _ (by simpa using hj)))) ?_
 refine qI rfl (xC (E := eVal) (e := 28) [a] a Tryz.underlying24 sz28 zr28 ⟨rfl, m⟩ rfl (by decide) a9.pins (fun bq ge gf gg br gh => ?_))
 have gi := a9.step gg br
 have gj := dg.below br
 have gk := gd.below br
 have gl : Apart bq.ownBlock bp.ownBlock := zI gh dg.lt
 have gm : Own eVal 28 dd ge w.heap.size bq ([a]) := gf.weaken a9.size
 obtain ⟨ml, t, gn, gp, gq⟩ := gj.sealed gi
 have gr := gm.moreO t gq gl
 have gs := gk.le t
 obtain ⟨mm, x, bs, gt, mn⟩ := gr.sealed gn
 have gu := gs.le x
 refine qI rfl (zM (vs := [bp, bq]) Tryz.func67 nm67 rfl rfl rfl ?_)
 refine Calls.mono (xS bs.pins gu f1 (by first | omega | (simp; done) | (simp; omega)) bs.size (gp.mono x) gt (by simp) (by simp) (by first | omega | simp) (by first | omega | simp)) ?_
 rintro _ mo ⟨b, mp, mq, rfl, gv, dh, ad⟩
 refine ⟨_, rfl, ?_⟩
 have bt := bs.tr ad
 have ar := dh.one List.mem_cons_self
 refine qI rfl (yH [(.slice none 0 0)] zr28 rfl bt.pins (fun gw mr ms di gx dj => ?_))
 have dk := bt.step gx dj
 have gy := dh.below dj
 have dl : w.heap.size ≤ gw := by have := bt.size; omega
 refine q0 rfl rfl rfl (yM (cs' := [b]) (us := [b]) (v := (.agg [b].toArray)) sz28 rfl rfl rfl (yC ar) dk.pins di (Nat.le_of_ble_eq_true rfl) rfl (fun mt gz g0 dm mu => ?_))
 have g1 := dk.write g0 dm ((zV dl))
 have g3 := gy.kept dm (fun k hk o u => by cases hk; exact di.free o u)
 obtain ⟨dn, ae, ba, a2, mv⟩ := gz.shut g1 dl
 have g4 := g3.le ae
 refine qe (zA (zB (zC ?_)))
 refine qD rfl (yF (cs := [a]) ag28 sz28 rfl (fun j u hj => (Pins.of_le ba.pins (Pin.le_trans (Pin.le_trans (Pin.le_trans (Pin.le_trans (Pin.le_trans (Pin.le_trans (Pin.le_trans (Pin.le_trans (Pin.le_trans ak al.le) am) aa) ab.le) ac) t) x) ad.le) ae)) _ _ _ (aj _ _ (by simpa using hj)))) ?_
 refine qI rfl (xC (E := eVal) (e := 28) [a] a Tryz.underlying24 sz28 zr28 ⟨rfl, m⟩ rfl (by decide) ba.pins (fun bu g5 g6 g7 dp mw => ?_))
 have bb := ba.step g7 dp
 have g8 := g4.below dp
 have dq : Own eVal 28 dn g5 w.heap.size bu ([a]) := g6.weaken ba.size
 refine qD rfl (yF (cs := [b]) ag28 sz28 rfl (fun j u hj => bb.pins _ _ _ (a2 _ _ (by simpa using hj)))) ?_
 refine qI rfl (xC (E := eVal) (e := 28) [b] b Tryz.underlying24 sz28 zr28 ⟨rfl, ar⟩ rfl (by decide) bb.pins (fun bv g9 ha hb bw hc => ?_))
 have hd := bb.step hb bw
 have he := dq.below bw
 have hf := g8.below bw
 have hg : Apart bv.ownBlock bu.ownBlock := zI hc dq.lt
 have hh : Own eVal 28 dn g9 w.heap.size bv ([b]) := ha.weaken bb.size
 obtain ⟨mx, c, hi, hl, hm⟩ := he.sealed hd
 have hn := hh.moreO c hm hg
 have ho := hf.le c
 obtain ⟨my, d, bx, hp, mz⟩ := hn.sealed hi
 have hq := ho.le d
 refine qI rfl (zM (vs := [bu, bv]) Tryz.func67 nm67 rfl rfl rfl ?_)
 refine Calls.mono (xS bx.pins hq gv (by first | omega | (simp; done) | (simp; omega)) bx.size (hl.mono d) hp (by simp) (by simp) (by first | omega | simp) (by first | omega | simp)) ?_
 rintro _ m0 ⟨aw, m1, m2, rfl, hr, dr, g⟩
 refine ⟨_, rfl, ?_⟩
 have bz := bx.tr g
 have b0 := dr.one List.mem_cons_self
 refine qI rfl (yH [(.slice none 0 0)] zr28 rfl bz.pins (fun hs m3 m4 ds ht dt => ?_))
 have du := bz.step ht dt
 have hu := dr.below dt
 have dv : w.heap.size ≤ hs := by have := bz.size; omega
 refine q0 rfl rfl rfl (yM (cs' := [aw]) (us := [aw]) (v := (.agg [aw].toArray)) sz28 rfl rfl rfl (yC b0) du.pins ds (Nat.le_of_ble_eq_true rfl) rfl (fun m5 hv hw dw m6 => ?_))
 have hx := du.write hw dw ((zV dv))
 have hy := hu.kept dw (fun k hk o u => by cases hk; exact ds.free o u)
 obtain ⟨dx, h, bc, hz, m7⟩ := hv.shut hx dv
 have h0 := hy.le h
 refine qe (zA (zB (zC ?_)))
 refine qD rfl (yF (cs := [a]) ag28 sz28 rfl (fun j u hj => (Pins.of_le bc.pins (Pin.le_trans (Pin.le_trans (Pin.le_trans (Pin.le_trans (Pin.le_trans (Pin.le_trans (Pin.le_trans (Pin.le_trans (Pin.le_trans (Pin.le_trans (Pin.le_trans (Pin.le_trans (Pin.le_trans ak al.le) am) aa) ab.le) ac) t) x) ad.le) ae) c) d) g.le) h)) _ _ _ (aj _ _ (by simpa using hj)))) ?_
 refine qI rfl (xC (E := eVal) (e := 28) [a] a Tryz.underlying24 sz28 zr28 ⟨rfl, m⟩ rfl (by decide) bc.pins (fun b1 h1 h2 h3 dy m8 => ?_))
 have bd := bc.step h3 dy
 have h4 := h0.below dy
 have dz : Own eVal 28 dx h1 w.heap.size b1 ([a]) := h2.weaken bc.size
 refine qD rfl (yF (cs := [f]) ag28 sz28 rfl (fun j u hj => (Pins.of_le bd.pins (Pin.le_trans (Pin.le_trans (Pin.le_trans (Pin.le_trans (Pin.le_trans (Pin.le_trans (Pin.le_trans (Pin.le_trans (Pin.le_trans (Pin.le_trans aa ab.le) ac) t) x) ad.le) ae) c) d) g.le) h)) _ _ _ (bm _ _ (by simpa using hj)))) ?_
 refine qI rfl (xC (E := eVal) (e := 28) [f] f Tryz.underlying24 sz28 zr28 ⟨rfl, a1⟩ rfl (by decide) bd.pins (fun b2 h5 h6 h7 b3 h8 => ?_))
 have h9 := bd.step h7 b3
 have ia := dz.below b3
 have ib := h4.below b3
 have ic : Apart b2.ownBlock b1.ownBlock := zI h8 dz.lt
 have ie : Own eVal 28 dx h5 w.heap.size b2 ([f]) := h6.weaken bd.size
 obtain ⟨m9, i, ig, ih, ii⟩ := ia.sealed h9
 have ij := ie.moreO i ii ic
 have ik := ib.le i
 obtain ⟨na, l, b4, il, nb⟩ := ij.sealed ig
 have im := ik.le l
 refine qI rfl (zM (vs := [b1, b2]) Tryz.func67 nm67 rfl rfl rfl ?_)
 refine Calls.mono (xS b4.pins im hr (by first | omega | (simp; done) | (simp; omega)) b4.size (ih.mono l) il (by simp) (by simp) (by first | omega | simp) (by first | omega | simp)) ?_
 rintro _ nc ⟨ax, nd, ne, rfl, io, d0, p⟩
 refine ⟨_, rfl, ?_⟩
 have b5 := b4.tr p
 have b6 := d0.one List.mem_cons_self
 refine qI rfl (yH [(.slice none 0 0)] zr28 rfl b5.pins (fun ip nf ng d1 iq d2 => ?_))
 have d3 := b5.step iq d2
 have ir := d0.below d2
 have d4 : w.heap.size ≤ ip := by have := b5.size; omega
 refine q0 rfl rfl rfl (yM (cs' := [ax]) (us := [ax]) (v := (.agg [ax].toArray)) sz28 rfl rfl rfl (yC b6) d3.pins d1 (Nat.le_of_ble_eq_true rfl) rfl (fun nh it iu d5 ni => ?_))
 have iv := d3.write iu d5 ((zV d4))
 have iw := ir.kept d5 (fun k hk o u => by cases hk; exact d1.free o u)
 obtain ⟨d6, q, be, ix, nj⟩ := it.shut iv d4
 have iy := iw.le q
 refine qe (zA (zB (zC ?_)))
 refine qD rfl (yF (cs := [f]) ag28 sz28 rfl (fun j u hj => (Pins.of_le be.pins (Pin.le_trans (Pin.le_trans (Pin.le_trans (Pin.le_trans (Pin.le_trans (Pin.le_trans (Pin.le_trans (Pin.le_trans (Pin.le_trans (Pin.le_trans (Pin.le_trans (Pin.le_trans (Pin.le_trans (Pin.le_trans aa ab.le) ac) t) x) ad.le) ae) c) d) g.le) h) i) l) p.le) q)) _ _ _ (bm _ _ (by simpa using hj)))) ?_
 refine qI rfl (xC (E := eVal) (e := 28) [f] f Tryz.underlying24 sz28 zr28 ⟨rfl, a1⟩ rfl (by decide) be.pins (fun b7 iz i0 i1 d7 nk => ?_))
 have bf := be.step i1 d7
 have i2 := iy.below d7
 have d8 : Own eVal 28 d6 iz w.heap.size b7 ([f]) := i0.weaken be.size
 refine qD rfl (yF (cs := [ag]) ag28 sz28 rfl (fun j u hj => (Pins.of_le bf.pins (Pin.le_trans (Pin.le_trans (Pin.le_trans (Pin.le_trans (Pin.le_trans (Pin.le_trans (Pin.le_trans (Pin.le_trans (Pin.le_trans (Pin.le_trans (Pin.le_trans t x) ad.le) ae) c) d) g.le) h) i) l) p.le) q)) _ _ _ (de _ _ (by simpa using hj)))) ?_
 refine qI rfl (xC (E := eVal) (e := 28) [ag] ag Tryz.underlying24 sz28 zr28 ⟨rfl, a7⟩ rfl (by decide) bf.pins (fun b8 i3 i4 i5 b9 i6 => ?_))
 have i7 := bf.step i5 b9
 have i8 := d8.below b9
 have i9 := i2.below b9
 have ja : Apart b8.ownBlock b7.ownBlock := zI i6 d8.lt
 have jb : Own eVal 28 d6 i3 w.heap.size b8 ([ag]) := i4.weaken bf.size
 obtain ⟨nl, r, jc, jd, je⟩ := i8.sealed i7
 have jf := jb.moreO r je ja
 have jg := i9.le r
 obtain ⟨nm, s, ca, jh, nn⟩ := jf.sealed jc
 have ji := jg.le s
 refine qI rfl (zM (vs := [b7, b8]) Tryz.func67 nm67 rfl rfl rfl ?_)
 refine Calls.mono (xS ca.pins ji io (by first | omega | (simp; done) | (simp; omega)) ca.size (jd.mono s) jh (by simp) (by simp) (by first | omega | simp) (by first | omega | simp)) ?_
 rintro _ no ⟨ay, np, nq, rfl, jj, d9, y⟩
 refine ⟨_, rfl, ?_⟩
 have cb := ca.tr y
 have cc := d9.one List.mem_cons_self
 refine qI rfl (yH [(.slice none 0 0)] zr28 rfl cb.pins (fun jk nr ns ea jl eb => ?_))
 have ec := cb.step jl eb
 have jm := d9.below eb
 have ed : w.heap.size ≤ jk := by have := cb.size; omega
 refine q0 rfl rfl rfl (yM (cs' := [ay]) (us := [ay]) (v := (.agg [ay].toArray)) sz28 rfl rfl rfl (yC cc) ec.pins ea (Nat.le_of_ble_eq_true rfl) rfl (fun nt jn jo ee nu => ?_))
 have jp := ec.write jo ee ((zV ed))
 have jq := jm.kept ee (fun k hk o u => by cases hk; exact ea.free o u)
 obtain ⟨ef, z, a3, jr, nv⟩ := jn.shut jp ed
 have js := jq.le z
 refine qe (zA (zB (zC ?_)))
 refine qD rfl (yF (cs := [a]) ag28 sz28 rfl (fun j u hj => (Pins.of_le a3.pins (Pin.le_trans (Pin.le_trans (Pin.le_trans (Pin.le_trans (Pin.le_trans (Pin.le_trans (Pin.le_trans (Pin.le_trans (Pin.le_trans (Pin.le_trans (Pin.le_trans (Pin.le_trans (Pin.le_trans (Pin.le_trans (Pin.le_trans (Pin.le_trans (Pin.le_trans (Pin.le_trans (Pin.le_trans (Pin.le_trans (Pin.le_trans ak al.le) am) aa) ab.le) ac) t) x) ad.le) ae) c) d) g.le) h) i) l) p.le) q) r) s) y.le) z)) _ _ _ (aj _ _ (by simpa using hj)))) ?_
 refine qD rfl (yF (cs := [b]) ag28 sz28 rfl (fun j u hj => (Pins.of_le a3.pins (Pin.le_trans (Pin.le_trans (Pin.le_trans (Pin.le_trans (Pin.le_trans (Pin.le_trans (Pin.le_trans (Pin.le_trans (Pin.le_trans (Pin.le_trans (Pin.le_trans c d) g.le) h) i) l) p.le) q) r) s) y.le) z)) _ _ _ (a2 _ _ (by simpa using hj)))) ?_
 refine qI rfl (o_buildA (E := eVal) (e := 28) [a, b] [a, b] Tryz.underlying24 sz28 zr28 (by exact reps2 (⟨rfl, m⟩) (⟨rfl, ar⟩)) (ones2 m ar) rfl rfl rfl rfl (by decide) a3.pins (fun cd jt ju jv eg nw => ?_))
 have a4 := a3.step jv eg
 have jw := js.below eg
 have eh : Own eVal 28 ef jt w.heap.size cd ([a, b]) := ju.weaken a3.size
 refine qD rfl (yF (cs := [a]) ag28 sz28 rfl (fun j u hj => (Pins.of_le a4.pins (Pin.le_trans (Pin.le_trans (Pin.le_trans (Pin.le_trans (Pin.le_trans (Pin.le_trans (Pin.le_trans (Pin.le_trans (Pin.le_trans (Pin.le_trans (Pin.le_trans (Pin.le_trans (Pin.le_trans (Pin.le_trans (Pin.le_trans (Pin.le_trans (Pin.le_trans (Pin.le_trans (Pin.le_trans (Pin.le_trans (Pin.le_trans ak al.le) am) aa) ab.le) ac) t) x) ad.le) ae) c) d) g.le) h) i) l) p.le) q) r) s) y.le) z)) _ _ _ (aj _ _ (by simpa using hj)))) ?_
 refine qD rfl (yF (cs := [b]) ag28 sz28 rfl (fun j u hj => (Pins.of_le a4.pins (Pin.le_trans (Pin.le_trans (Pin.le_trans (Pin.le_trans (Pin.le_trans (Pin.le_trans (Pin.le_trans (Pin.le_trans (Pin.le_trans (Pin.le_trans (Pin.le_trans c d) g.le) h) i) l) p.le) q) r) s) y.le) z)) _ _ _ (a2 _ _ (by simpa using hj)))) ?_
 refine qI rfl (o_buildA (E := eVal) (e := 28) [a, b] [a, b] Tryz.underlying24 sz28 zr28 (by exact reps2 (⟨rfl, m⟩) (⟨rfl, ar⟩)) (ones2 m ar) rfl rfl rfl rfl (by decide) a4.pins (fun ce jx jy jz cf j0 => ?_))
 have j1 := a4.step jz cf
 have j2 := eh.below cf
 have j3 := jw.below cf
 have j4 : Apart ce.ownBlock cd.ownBlock := zI j0 eh.lt
 have j5 : Own eVal 28 ef jx w.heap.size ce ([a, b]) := jy.weaken a4.size
 obtain ⟨nx, ah, j6, j7, j8⟩ := j2.sealed j1
 have j9 := j5.moreO ah j8 j4
 have ka := j3.le ah
 obtain ⟨ny, ai, cg, kb, nz⟩ := j9.sealed j6
 have kc := ka.le ai
 refine qI rfl (zM (vs := [cd, ce]) Tryz.func67 nm67 rfl rfl rfl ?_)
 refine Calls.mono (xS cg.pins kc jj (by first | omega | (simp; done) | (simp; omega)) cg.size (j7.mono ai) kb (by simp) (by simp) (by first | omega | simp) (by first | omega | simp)) ?_
 rintro _ n0 ⟨az, n1, n2, rfl, kd, ei, an⟩
 refine ⟨_, rfl, ?_⟩
 have ch := cg.tr an
 have ci := ei.one List.mem_cons_self
 refine qI rfl (yH [(.slice none 0 0)] zr28 rfl ch.pins (fun ke n3 n4 ej kf ek => ?_))
 have el := ch.step kf ek
 have kg := ei.below ek
 have em : w.heap.size ≤ ke := by have := ch.size; omega
 refine q0 rfl rfl rfl (yM (cs' := [az]) (us := [az]) (v := (.agg [az].toArray)) sz28 rfl rfl rfl (yC ci) el.pins ej (Nat.le_of_ble_eq_true rfl) rfl (fun n5 kh ki en n6 => ?_))
 have kj := el.write ki en ((zV em))
 have kk := kg.kept en (fun k hk o u => by cases hk; exact ej.free o u)
 obtain ⟨eo, ao, bg, kl, n7⟩ := kh.shut kj em
 have km := kk.le ao
 refine qe (zA (zB (zC ?_)))
 refine qD rfl (yF (cs := [b]) ag28 sz28 rfl (fun j u hj => (Pins.of_le bg.pins (Pin.le_trans (Pin.le_trans (Pin.le_trans (Pin.le_trans (Pin.le_trans (Pin.le_trans (Pin.le_trans (Pin.le_trans (Pin.le_trans (Pin.le_trans (Pin.le_trans (Pin.le_trans (Pin.le_trans (Pin.le_trans (Pin.le_trans c d) g.le) h) i) l) p.le) q) r) s) y.le) z) ah) ai) an.le) ao)) _ _ _ (a2 _ _ (by simpa using hj)))) ?_
 refine qI rfl (xC (E := eVal) (e := 28) [b] b Tryz.underlying24 sz28 zr28 ⟨rfl, ar⟩ rfl (by decide) bg.pins (fun cj kn ko kp ep n8 => ?_))
 have bh := bg.step kp ep
 have kq := km.below ep
 have eq : Own eVal 28 eo kn w.heap.size cj ([b]) := ko.weaken bg.size
 refine qD rfl (yF (cs := [a]) ag28 sz28 rfl (fun j u hj => (Pins.of_le bh.pins (Pin.le_trans (Pin.le_trans (Pin.le_trans (Pin.le_trans (Pin.le_trans (Pin.le_trans (Pin.le_trans (Pin.le_trans (Pin.le_trans (Pin.le_trans (Pin.le_trans (Pin.le_trans (Pin.le_trans (Pin.le_trans (Pin.le_trans (Pin.le_trans (Pin.le_trans (Pin.le_trans (Pin.le_trans (Pin.le_trans (Pin.le_trans (Pin.le_trans (Pin.le_trans (Pin.le_trans (Pin.le_trans ak al.le) am) aa) ab.le) ac) t) x) ad.le) ae) c) d) g.le) h) i) l) p.le) q) r) s) y.le) z) ah) ai) an.le) ao)) _ _ _ (aj _ _ (by simpa using hj)))) ?_
 refine qI rfl (xC (E := eVal) (e := 28) [a] a Tryz.underlying24 sz28 zr28 ⟨rfl, m⟩ rfl (by decide) bh.pins (fun ck kr ks kt cl ku => ?_))
 have kv := bh.step kt cl
 have kw := eq.below cl
 have kx := kq.below cl
 have ky : Apart ck.ownBlock cj.ownBlock := zI ku eq.lt
 have kz : Own eVal 28 eo kr w.heap.size ck ([a]) := ks.weaken bh.size
 obtain ⟨n9, ap, k0, k1, k2⟩ := kw.sealed kv
 have k3 := kz.moreO ap k2 ky
 have k4 := kx.le ap
 obtain ⟨oa, aq, cm, k5, ob⟩ := k3.sealed k0
 have k6 := k4.le aq
 refine qI rfl (zM (vs := [cj, ck]) Tryz.func67 nm67 rfl rfl rfl ?_)
 refine Calls.mono (xS cm.pins k6 kd (by first | omega | (simp; done) | (simp; omega)) cm.size (k1.mono aq) k5 (by simp) (by simp) (by first | omega | simp) (by first | omega | simp)) ?_
 rintro _ oc ⟨a0, od, oe, rfl, k7, er, au⟩
 refine ⟨_, rfl, ?_⟩
 have cn := cm.tr au
 have co := er.one List.mem_cons_self
 refine qI rfl (yH [(.slice none 0 0)] zr28 rfl cn.pins (fun k8 og oh es k9 et => ?_))
 have eu := cn.step k9 et
 have la := er.below et
 have ev : w.heap.size ≤ k8 := by have := cn.size; omega
 refine q0 rfl rfl rfl (yM (cs' := [a0]) (us := [a0]) (v := (.agg [a0].toArray)) sz28 rfl rfl rfl (yC co) eu.pins es (Nat.le_of_ble_eq_true rfl) rfl (fun oi lb lc ew oj => ?_))
 have ld := eu.write lc ew ((zV ev))
 have lf := la.kept ew (fun k hk o u => by cases hk; exact es.free o u)
 obtain ⟨lg, av, af, lh, ok⟩ := lb.shut ld ev
 have li := lf.le av
 refine qe (zA (zB (zC ?_)))
 refine qD rfl (yF (cs := [a]) ag28 sz28 rfl (fun j u hj => (Pins.of_le af.pins (Pin.le_trans (Pin.le_trans (Pin.le_trans (Pin.le_trans (Pin.le_trans (Pin.le_trans (Pin.le_trans (Pin.le_trans (Pin.le_trans (Pin.le_trans (Pin.le_trans (Pin.le_trans (Pin.le_trans (Pin.le_trans (Pin.le_trans (Pin.le_trans (Pin.le_trans (Pin.le_trans (Pin.le_trans (Pin.le_trans (Pin.le_trans (Pin.le_trans (Pin.le_trans (Pin.le_trans (Pin.le_trans (Pin.le_trans (Pin.le_trans (Pin.le_trans (Pin.le_trans ak al.le) am) aa) ab.le) ac) t) x) ad.le) ae) c) d) g.le) h) i) l) p.le) q) r) s) y.le) z) ah) ai) an.le) ao) ap) aq) au.le) av)) _ _ _ (aj _ _ (by simpa using hj)))) ?_
 refine qD rfl (yF (cs := [f]) ag28 sz28 rfl (fun j u hj => (Pins.of_le af.pins (Pin.le_trans (Pin.le_trans (Pin.le_trans (Pin.le_trans (Pin.le_trans (Pin.le_trans (Pin.le_trans (Pin.le_trans (Pin.le_trans (Pin.le_trans (Pin.le_trans (Pin.le_trans (Pin.le_trans (Pin.le_trans (Pin.le_trans (Pin.le_trans (Pin.le_trans (Pin.le_trans (Pin.le_trans (Pin.le_trans (Pin.le_trans (Pin.le_trans (Pin.le_trans (Pin.le_trans (Pin.le_trans (Pin.le_trans aa ab.le) ac) t) x) ad.le) ae) c) d) g.le) h) i) l) p.le) q) r) s) y.le) z) ah) ai) an.le) ao) ap) aq) au.le) av)) _ _ _ (bm _ _ (by simpa using hj)))) ?_
 refine qD rfl (yF (cs := [ag]) ag28 sz28 rfl (fun j u hj => (Pins.of_le af.pins (Pin.le_trans (Pin.le_trans (Pin.le_trans (Pin.le_trans (Pin.le_trans (Pin.le_trans (Pin.le_trans (Pin.le_trans (Pin.le_trans (Pin.le_trans (Pin.le_trans (Pin.le_trans (Pin.le_trans (Pin.le_trans (Pin.le_trans (Pin.le_trans (Pin.le_trans (Pin.le_trans (Pin.le_trans (Pin.le_trans (Pin.le_trans (Pin.le_trans (Pin.le_trans t x) ad.le) ae) c) d) g.le) h) i) l) p.le) q) r) s) y.le) z) ah) ai) an.le) ao) ap) aq) au.le) av)) _ _ _ (de _ _ (by simpa using hj)))) ?_
 refine qD rfl (yF (cs := [b]) ag28 sz28 rfl (fun j u hj => (Pins.of_le af.pins (Pin.le_trans (Pin.le_trans (Pin.le_trans (Pin.le_trans (Pin.le_trans (Pin.le_trans (Pin.le_trans (Pin.le_trans (Pin.le_trans (Pin.le_trans (Pin.le_trans (Pin.le_trans (Pin.le_trans (Pin.le_trans (Pin.le_trans (Pin.le_trans (Pin.le_trans (Pin.le_trans (Pin.le_trans c d) g.le) h) i) l) p.le) q) r) s) y.le) z) ah) ai) an.le) ao) ap) aq) au.le) av)) _ _ _ (a2 _ _ (by simpa using hj)))) ?_
 refine qD rfl (yF (cs := [aw]) ag28 sz28 rfl (fun j u hj => (Pins.of_le af.pins (Pin.le_trans (Pin.le_trans (Pin.le_trans (Pin.le_trans (Pin.le_trans (Pin.le_trans (Pin.le_trans (Pin.le_trans (Pin.le_trans (Pin.le_trans (Pin.le_trans (Pin.le_trans (Pin.le_trans (Pin.le_trans (Pin.le_trans i l) p.le) q) r) s) y.le) z) ah) ai) an.le) ao) ap) aq) au.le) av)) _ _ _ (hz _ _ (by simpa using hj)))) ?_
 refine qD rfl (yF (cs := [ax]) ag28 sz28 rfl (fun j u hj => (Pins.of_le af.pins (Pin.le_trans (Pin.le_trans (Pin.le_trans (Pin.le_trans (Pin.le_trans (Pin.le_trans (Pin.le_trans (Pin.le_trans (Pin.le_trans (Pin.le_trans (Pin.le_trans r s) y.le) z) ah) ai) an.le) ao) ap) aq) au.le) av)) _ _ _ (ix _ _ (by simpa using hj)))) ?_
 refine qD rfl (yF (cs := [ay]) ag28 sz28 rfl (fun j u hj => (Pins.of_le af.pins (Pin.le_trans (Pin.le_trans (Pin.le_trans (Pin.le_trans (Pin.le_trans (Pin.le_trans (Pin.le_trans ah ai) an.le) ao) ap) aq) au.le) av)) _ _ _ (jr _ _ (by simpa using hj)))) ?_
 refine qD rfl (yF (cs := [az]) ag28 sz28 rfl (fun j u hj => (Pins.of_le af.pins (Pin.le_trans (Pin.le_trans (Pin.le_trans ap aq) au.le) av)) _ _ _ (kl _ _ (by simpa using hj)))) ?_
 refine qD rfl (yF (cs := [a0]) ag28 sz28 rfl (fun j u hj => af.pins _ _ _ (lh _ _ (by simpa using hj)))) ?_
 refine qI rfl (o_buildA (E := eVal) (e := 28) [a, f, ag, b, aw, ax, ay, az, a0] [a, f, ag, b, aw, ax, ay, az, a0] Tryz.underlying24 sz28 zr28 (repsC (⟨rfl, m⟩) (repsC (⟨rfl, a1⟩) (repsC (⟨rfl, a7⟩) (repsC (⟨rfl, ar⟩) (repsC (⟨rfl, b0⟩) (repsC (⟨rfl, b6⟩) (repsC (⟨rfl, cc⟩) (repsC (⟨rfl, ci⟩) (repsC (⟨rfl, co⟩) repsN))))))))) (onesC m (onesC a1 (onesC a7 (onesC ar (onesC b0 (onesC b6 (onesC cc (onesC ci (onesC co onesN))))))))) rfl rfl rfl rfl (by decide) af.pins (fun cp lj lk ll ex ol => ?_))
 have lm := af.step ll ex
 have ln := li.below ex
 have lo : Own eVal 28 lg lj w.heap.size cp ([a, f, ag, b, aw, ax, ay, az, a0]) := lk.weaken af.size
 refine qM cp ?_
 refine qe (zA ?_)
 refine wp_ret ?_
 refine zR ?_
 refine zQ (v := cp) rfl rfl rfl ?_
 exact ⟨_, _, _, _, rfl, lo, ln.mem (by simp), k7, rfl, rfl, lm⟩

theorem some_spec {w : World} {G : Pin} {c : Nat} {cv : Value} {code : List UInt8} {a s : Int} {l : Value} {vs : List Value} {m : Int} (hP : Pins G w) (hB : Bx G w c [cv, .int .i64 a, .int .u64 s]) (hc : RSl eByte G cv code) (ha : 0 ≤ a ∧ a + 6 ≤ 1000000) (hs : 0 ≤ s ∧ s < 18446744073709551616) (hl : RSl eVal G l vs) (hn : 1 ≤ vs.length ∧ vs.length ≤ 1000) (hm2 : 0 ≤ m ∧ m ≤ 2) :
  Calls Tryz.prog 98 [(.pointer (some ⟨c, 0, none⟩)), l, (vJ m)].toArray w fun e w' => ∃ (u : Value) (ys : List Value) (a' s' : Int) (G' : Pin), e = .returned u ∧ Own eVal 28 G' w' w.heap.size u ys ∧ (∀ y ∈ ys, y ∈ vs) ∧ ys.length ≤ 2 ∧ Bx G' w' c [cv, .int .i64 a', .int .u64 s'] ∧ (a ≤ a' ∧ a' ≤ a + 6) ∧ (0 ≤ s' ∧ s' < 18446744073709551616) ∧ Ext (inO (some c)) G w G' w' := by
 refine yD (n := 31) Tryz.func98 Tryz.ntmps98 rfl rfl ?_
 have r : Ext (inO (some c)) G w G w := Ext.refl hP
 have hm := hc.max
 refine zB (zC ?_)
 refine qM (.slice none 0 0) ?_
 refine qe (zA (zB (zC ?_)))
 refine qI rfl (yZ (E := eVal) (e := 28) Tryz.underlying24 sz28 r.pins (fun f w2 ar au ae av => ?_))
 have af := r.step au ae
 have aw := hB.below ae
 have ag : Apart f.ownBlock (some c) := zH av hB.lt
 have ax : Own eVal 28 G w2 w.heap.size f ([]) := ar.weaken r.size
 refine qM f ?_
 refine qe (zA (zB (zC ?_)))
 refine qM (.pointer (some ⟨c, 0, none⟩)) ?_
 refine qM (vJ m) ?_
 refine qD rfl (yR rfl rfl (by omega)) ?_
 refine qI rfl (zM (vs := [(.pointer (some ⟨c, 0, none⟩)), (vJ (m + 1))]) Tryz.func41 nm41 rfl rfl rfl ?_)
 refine Calls.mono (qJ af.pins aw hc (by omega) (by omega) (n := (m + 1)) (by omega)) ?_
 rintro _ bm ⟨d, ay, az, rfl, bn, a0, bo, bp, ah⟩
 refine ⟨_, rfl, ?_⟩
 have a2 := af.trans ah (fun i hi => xM i hi)
 have a3 := ax.extS ah (notO ag)
 refine qM (vJ d) ?_
 refine qe (zA (zB (zB (zC ?_))))
 refine qM (vJ 0) ?_
 refine qe (zA ?_)
 refine zX ?_
 refine yQ (fun (k : Nat) (en : Nat → Value) (W : World) => ∃ (ai : Nat → Value) (i : Nat) (ov : Value) (ys : List Value) (g : Int) (o : Int) (GL : Pin), en = (upd (upd (upd (upd (upd (upd ai 0 (.pointer (some ⟨c, 0, none⟩))) 1 l) 6 (.slice none 0 0)) 7 ov) 8 (vJ d)) 9 (vJ (i : Int))) ∧ k = (d).toNat - i ∧ Ext (inO (some c)) G w GL W ∧ Pin.le G GL ∧ (i : Int) ≤ d ∧ (∀ y ∈ ys, y ∈ vs) ∧ (ys.length = i) ∧ (a ≤ g ∧ g ≤ a + 2 + 2 * (i : Int)) ∧ (0 ≤ o ∧ o < 18446744073709551616) ∧ (Own eVal 28 GL W w.heap.size ov (ys)) ∧ (Bx GL W c [cv, (vJ g), (.int .u64 o)]) ∧ (Apart ov.ownBlock (some c))) _ ⟨_, 0, f, [], ay, az, G, (pS 9 (pS 8 (pS 7 (pS 6 (pS 1 (pU 0)))))), rfl, a2, Pin.le_refl _, (by omega), (fun y hy => (List.not_mem_nil hy).elim), rfl, (by omega), (by omega), a3, a0, ag⟩ ?_
 rintro bq _ br ⟨ai, i, ov, ys, g, o, GL, rfl, bs, t, x, hi, hys, hyl, hda, hds, aj, ak, aa⟩
 refine zB (zB (zC ?_))
 refine qM (vJ (i : Int)) ?_
 refine qM (vJ d) ?_
 refine qD rfl (yV rfl rfl) ?_
 refine qe (zA ?_)
 refine yI (p := ((i : Int) : Int) < d) rfl rfl (fun a4 => ?_) (fun a4 => ?_)
 ·skip
  refine wp_skip ?_
  refine zA (zB ?_)
  refine zX ?_
  refine zC ?_
  refine qM ov ?_
  refine qM l ?_
  refine qM (.pointer (some ⟨c, 0, none⟩)) ?_
  refine qM l ?_
  refine qD rfl (zN Tryz.underlying24 (v := l) rfl hl) ?_
  refine qI rfl (zM (vs := [(.pointer (some ⟨c, 0, none⟩)), (vJ (vs.length : Int))]) Tryz.func41 nm41 rfl rfl rfl ?_)
  refine Calls.mono (qJ t.pins ak (hc.mono x) (by omega) (by omega) (n := (vs.length : Int)) (by omega)) ?_
  rintro _ bt ⟨b, a5, a6, rfl, bu, a7, bv, bw, al⟩
  refine ⟨_, rfl, ?_⟩
  have q := t.trans al (fun i hi => xM i hi)
  have a8 := aj.extS al (notO aa)
  refine qD rfl (zJ Tryz.underlying24 sz28 (v := l) rfl rfl hl (by omega) (by omega)) ?_
  obtain ⟨bx, a9, ba, bz⟩ := nm_el (j := (b).toNat) default (hl.at (z := b) (by omega) (by omega)) rfl
  obtain ⟨rfl, bb⟩ := a9
  refine qD rfl (ba ag28 sz28 rfl (Pins.of_le q.pins x)) ?_
  refine qI rfl (xC (E := eVal) (e := 28) [(vs.getD (b).toNat default)] (vs.getD (b).toNat default) Tryz.underlying24 sz28 zr28 ⟨rfl, bb⟩ rfl (by decide) q.pins (fun am bc bd be ab b0 => ?_))
  have ac := q.step be ab
  have an := a8.below ab
  have ao := a7.below ab
  have bf : Own eVal 28 GL bc w.heap.size am ([(vs.getD (b).toNat default)]) := bd.weaken q.size
  refine qI rfl (oA (E := eVal) (v := ov) (u := am) 24 Tryz.underlying24 ap28 (by decide) rfl rfl ac.pins an bf.src (ac.size) (fun ad b1 bg bh ap bi => ?_))
  have bj := ac.write bh ap ((yB an))
  have bk := ao.keptA ap aa.symm
  have bl : Apart (some c) ad.ownBlock := zL aa.symm bi ao.lt
  have b2 : (ys ++ ([(vs.getD (b).toNat default)])).length = ys.length + 1 := List.length_append
  refine qM ad ?_
  refine qe ?_
  refine yJ ?_
  refine zA (zC ?_)
  refine qM (vJ (i : Int)) ?_
  refine qD rfl (yR rfl rfl (by omega)) ?_
  refine qM (vJ ((i : Int) + 1)) ?_
  refine qe ?_
  refine yK ?_
  refine ⟨_, ?_, _, rfl, _, i + 1, ad, ys ++ ([(vs.getD (b).toNat default)]), a5, a6, GL, (pS 9 (pS 8 (pS 7 (pS 6 (pS 1 (pU 0)))))), rfl, bj, x, (by omega), (fun y hy => (List.mem_append.1 hy).elim (hys y) (fun h => by rw [List.mem_singleton.1 h]; exact yS (by omega))), (by simp; omega), (by omega), (by omega), bg, bk, bl.symm⟩
  omega
 refine wp_exit ?_
 refine yA ?_
 refine yN ?_
 refine yL ?_
 refine zA (zB (zC ?_))
 refine qM ov ?_
 refine qM ov ?_
 refine qe (zA ?_)
 refine wp_ret ?_
 refine zR ?_
 refine zQ (v := ov) rfl rfl rfl ?_
 exact ⟨_, _, _, _, _, rfl, aj, hys, (by omega), ak, (by omega), (by omega), t⟩

theorem someO_spec {w : World} {G : Pin} {c : Nat} {cv : Value} {code : List UInt8} {a s : Int} {l : Value} {vs : List Value} {m : Int} {e base : Nat} (hP : Pins G w) (hB : Bx G w c [cv, .int .i64 a, .int .u64 s]) (hc : RSl eByte G cv code) (ha : 0 ≤ a ∧ a + 6 ≤ 1000000) (hs : 0 ≤ s ∧ s < 18446744073709551616) (hl : Own eVal e G w base l vs) (hap : Apart (some c) l.ownBlock) (hn : 1 ≤ vs.length ∧ vs.length ≤ 1000) (hm2 : 0 ≤ m ∧ m ≤ 2) :
  Calls Tryz.prog 98 [(.pointer (some ⟨c, 0, none⟩)), l, (.int .i64 m)].toArray w fun e w' => ∃ (u : Value) (ys : List Value) (a' s' : Int), e = .returned u ∧ Own eVal 28 G w' w.heap.size u ys ∧ (∀ y ∈ ys, y ∈ vs) ∧ ys.length ≤ 2 ∧ Bx G w' c [cv, .int .i64 a', .int .u64 s'] ∧ (a ≤ a' ∧ a' ≤ a + 6) ∧ (0 ≤ s' ∧ s' < 18446744073709551616) ∧ Ext (inO (some c)) G w G w' := by
 have hb2 : Bx (Gadd G w l) w c [cv, .int .i64 a, .int .u64 s] := ⟨hB.heap, fun o u hu => hu.elim (hB.free o u) (fun h => hap c rfl h.1)⟩
 refine (some_spec (Gadd.pins hP l) hb2 (hc.mono (Gadd.le _ _ _)) ha hs hl.read hn hm2).mono fun e w' ⟨u, ys, a', s', G', e1, ho, hm, hy, hb, h1, h2, hx⟩ => ?_
 have hle : Pin.le G G' := Pin.le_trans (Gadd.le _ _ _) hx.le
 exact ⟨u, ys, a', s', e1, ownV_anti ho hle, hm, hy, hb.anti hle, h1, h2, ext_back (Gadd.le _ _ _) hx⟩

theorem dform_spec {w : World} {G : Pin} {c : Nat} {cv : Value} {code : List UInt8} {a s : Int} {n : Int} (hP : Pins G w) (hB : Bx G w c [cv, .int .i64 a, .int .u64 s]) (hc : RSl eByte G cv code) (ha : 0 ≤ a ∧ a + (12 * n + 4) ≤ 1000000) (hs : 0 ≤ s ∧ s < 18446744073709551616) (hn : 0 ≤ n ∧ n ≤ 6) :
  Calls Tryz.prog 42 [(.pointer (some ⟨c, 0, none⟩)), (vJ n)].toArray w fun e w' => ∃ (u : Value) (g : Nat) (a' s' : Int) (G' : Pin), e = .returned (.agg [u].toArray) ∧ Own eNode 68 G' w' w.heap.size u (formG g) ∧ IsForm g (formG g) ∧ ((formG g).length : Int) ≤ 9 + n ∧ Bx G' w' c [cv, .int .i64 a', .int .u64 s'] ∧ (a ≤ a' ∧ a' ≤ a + (12 * n + 4)) ∧ (0 ≤ s' ∧ s' < 18446744073709551616) ∧ Ext (inO (some c)) G w G' w' := by
 refine yD (n := 40) Tryz.func42 Tryz.ntmps42 rfl rfl ?_
 have au : Ext (inO (some c)) G w G w := Ext.refl hP
 have hm := hc.max
 refine zB (zC ?_)
 refine qI rfl (yH [(.slice none 0 0)] zr28 rfl au.pins (fun h w2 b3 bh b4 bi => ?_))
 have ae := au.step b4 bi
 have bj := hB.below bi
 have l : Apart (some h) (some c) := zH (congrArg some b3) hB.lt
 have bk : w.heap.size ≤ h := by have := au.size; omega
 refine qe (zA (zB (zC ?_)))
 refine qI rfl (zM (vs := []) Tryz.func97 nm97 rfl rfl rfl ?_)
 refine Calls.mono (l3Small_spec ae.pins) ?_
 rintro _ b5 ⟨av, bl, b6, aw, rfl, ax, b7, b8, el, em, d⟩
 refine ⟨_, rfl, ?_⟩
 have b9 := ae.tr d
 have ca := bj.ext d
 have cb := bh.ext d
 have cc := zZ ax.lt bj.lt
 have cd := zZ ax.lt bh.lt
 have ce : Own eVal 28 aw b5 w.heap.size av bl := ax.weaken ae.size
 have cf := b7.wide ae.size
 refine qM av ?_
 refine qe (zA (zB (zB (zC ?_))))
 refine qM (vJ 0) ?_
 refine qe (zA ?_)
 refine zX ?_
 refine yQ (fun (k : Nat) (en : Nat → Value) (W : World) => ∃ (bm : Nat → Value) (i : Nat) (lv : Value) (ls : List Value) (Q : List Nat) (a1 : Int) (s1 : Int) (GL : Pin), en = (upd (upd (upd (upd (upd bm 0 (.pointer (some ⟨c, 0, none⟩))) 1 (vJ n)) 4 (.pointer (some ⟨h, 0, none⟩))) 5 lv) 6 (vJ (i : Int))) ∧ k = n.toNat - i ∧ Ext (inO (some c)) G w GL W ∧ Pin.le aw GL ∧ (i : Int) ≤ n ∧ (Fr 68 w.heap.size GL W Q ls) ∧ (KQ Q) ∧ (ls.length = 9 + i) ∧ (Q.length = 9 + i) ∧ (a ≤ a1 ∧ a1 ≤ a + 12 * (i : Int)) ∧ (0 ≤ s1 ∧ s1 < 18446744073709551616) ∧ (Own eVal 28 GL W w.heap.size lv (ls)) ∧ (Bx GL W c [cv, (vJ a1), (.int .u64 s1)]) ∧ (Bx GL W h [(.slice none 0 0)]) ∧ (Apart lv.ownBlock (some c)) ∧ (Apart lv.ownBlock (some h))) _ ⟨_, 0, av, bl, b6, a, s, aw, (pS 6 (pS 5 (pS 4 (pS 1 (pU 0))))), rfl, b9, Pin.le_refl _, (by omega), cf, b8, (by omega), (by omega), (by omega), (by omega), ce, ca, cb, cc, cd⟩ ?_
 rintro eo _ ep ⟨bm, i, lv, ls, Q, a1, s1, GL, rfl, eq, m, q, hi, hfl, hkl, hll, hQl, hda, hds, ah, r, ay, b, bn⟩
 refine zB (zB (zC ?_))
 refine qM (vJ (i : Int)) ?_
 refine qM (vJ n) ?_
 refine qD rfl (yV rfl rfl) ?_
 refine qe (zA ?_)
 refine yI (p := ((i : Int) : Int) < n) rfl rfl (fun cg => ?_) (fun cg => ?_)
 ·skip
  refine wp_skip ?_
  refine zA (zB ?_)
  refine zX ?_
  refine zB (zC ?_)
  refine qM (.pointer (some ⟨c, 0, none⟩)) ?_
  refine qM lv ?_
  refine qI rfl (zM (vs := [(.pointer (some ⟨c, 0, none⟩)), lv, (vJ 2)]) Tryz.func98 nm98 rfl rfl rfl ?_)
  refine Calls.mono (someO_spec m.pins r (hc.mono (Pin.le_trans d.le q)) (by omega) (by omega) ah b.symm (by omega) (by omega)) ?_
  rintro _ ch ⟨ai, ci, er, es, rfl, aj, cj, et, az, eu, ev, ak⟩
  refine ⟨_, rfl, ?_⟩
  have a0 := m.trans ak (fun i hi => xM i hi)
  have a2 := ah.extS ak (notO b)
  have bo := ay.extS ak (notOb l)
  have ck := hfl.turned ak (fun k hk o u => by cases hk; exact r.free o u)
  have cl := zS aj.lt ah.lt
  have bp := zZ aj.lt r.lt
  have cm := zZ aj.lt ay.lt
  have bq : Own eVal 28 GL ch w.heap.size ai ci := aj.weaken m.size
  refine qM ai ?_
  refine qe (zA (zC ?_))
  refine qM lv ?_
  refine qM ai ?_
  refine qM (.pointer (some ⟨c, 0, none⟩)) ?_
  refine qM lv ?_
  refine qI rfl (zM (vs := [(.pointer (some ⟨c, 0, none⟩)), lv, (vJ 2)]) Tryz.func98 nm98 rfl rfl rfl ?_)
  refine Calls.mono (someO_spec a0.pins az (hc.mono (Pin.le_trans d.le q)) (by omega) (by omega) a2 b.symm (by omega) (by omega)) ?_
  rintro _ cn ⟨br, co, cp, cq, rfl, t, cr, ew, ct, ex, ey, x⟩
  refine ⟨_, rfl, ?_⟩
  have cu := a0.trans x (fun i hi => xM i hi)
  have cw := a2.extS x (notO b)
  have cx := bq.extS x (notO bp)
  have cy := bo.extS x (notOb l)
  have cz := ck.turned x (fun k hk o u => by cases hk; exact az.free o u)
  have c0 := zS t.lt a2.lt
  have c1 := zS t.lt bq.lt
  have c2 := zZ t.lt az.lt
  have c3 := zZ t.lt bo.lt
  have c4 : Own eVal 28 GL cn w.heap.size br co := t.weaken a0.size
  obtain ⟨ez, al, c5, c6, am⟩ := cx.sealed cu
  have c7 := cw.moreO al am cl.symm
  have c8 := c4.moreO al am c1
  have c9 := ct.moreO am bp.symm
  have da := cy.moreO am cm.symm
  have db := cz.le al
  obtain ⟨e0, an, a3, dc, a4⟩ := c8.sealed c5
  have dd := c7.moreO an a4 c0.symm
  have de := c9.moreO a4 c2.symm
  have df := da.moreO a4 c3.symm
  have dg := db.le an
  refine qI rfl (zM (vs := [ai, br]) Tryz.func67 nm67 rfl rfl rfl ?_)
  refine Calls.mono (xS a3.pins dg hkl (by first | omega | (simp; done) | (simp; omega)) a3.size (c6.mono an) dc cj cr (by first | omega | simp) (by first | omega | simp)) ?_
  rintro _ e1 ⟨y, dh, bs, rfl, di, bt, aa⟩
  refine ⟨_, rfl, ?_⟩
  have a5 := a3.tr aa
  have dj := dd.ext aa
  have dk := de.ext aa
  have dl := df.ext aa
  have dm := bt.one List.mem_cons_self
  refine qI rfl (xC (E := eVal) (e := 28) [y] y Tryz.underlying24 sz28 zr28 ⟨rfl, dm⟩ rfl (by decide) a5.pins (fun bu dn dp dq ab e2 => ?_))
  have a6 := a5.step dq ab
  have a7 := dj.below ab
  have bv := dk.below ab
  have bw := dl.below ab
  have dr := bt.below ab
  have ds : Own eVal 28 bs dn w.heap.size bu ([y]) := dp.weaken a5.size
  refine qI rfl (oA (E := eVal) (v := lv) (u := bu) 24 Tryz.underlying24 ap28 (by decide) rfl rfl a6.pins a7 ds.src (a6.size) (fun ao e3 dt du ap bx => ?_))
  have dv := a6.write du ap ((yB a7))
  have dw := bv.keptA ap b.symm
  have dx := bw.keptA ap bn.symm
  have dy := dr.kept ap a7.free
  have dz : Apart (some c) ao.ownBlock := zL b.symm bx bv.lt
  have d0 : Apart (some h) ao.ownBlock := zL bn.symm bx bw.lt
  have e4 : (ls ++ ([y])).length = ls.length + 1 := List.length_append
  refine qM ao ?_
  refine qe ?_
  refine yJ ?_
  refine zA (zC ?_)
  refine qM (vJ (i : Int)) ?_
  refine qD rfl (yR rfl rfl (by omega)) ?_
  refine qM (vJ ((i : Int) + 1)) ?_
  refine qe ?_
  refine yK ?_
  refine ⟨_, ?_, _, rfl, _, i + 1, ao, ls ++ ([y]), (dh :: Q), cp, cq, bs, (pS 6 (pS 5 (pS 4 (pS 1 (pU 0))))), rfl, dv, (Pin.le_trans (Pin.le_trans (Pin.le_trans q al) an) aa.le), (by omega), (dy.mem snoc_mem), di, (by simp; omega), (by simp; omega), (by omega), (by omega), dt, dw, dx, dz.symm, d0.symm⟩
  omega
 refine wp_exit ?_
 refine yA ?_
 refine yN ?_
 refine yL ?_
 refine zA (zB (zB (zC ?_)))
 refine qM (.pointer (some ⟨c, 0, none⟩)) ?_
 refine qI rfl (zM (vs := [(.pointer (some ⟨c, 0, none⟩)), (vJ 3)]) Tryz.func43 nm43 rfl rfl rfl ?_)
 refine Calls.mono (one_spec m.pins r (hc.mono (Pin.le_trans d.le q)) (by omega) (by omega) (n := 3) (by omega)) ?_
 rintro _ e5 ⟨e6, e7, e8, rfl, a8, e9, fa, aq⟩
 refine ⟨_, rfl, ?_⟩
 have ac := m.trans aq (fun i hi => xM i hi)
 have ad := ah.extS aq (notO b)
 have a9 := ay.extS aq (notOb l)
 have bz := hfl.turned aq (fun k hk o u => by cases hk; exact r.free o u)
 refine qe (zA ?_)
 refine c_if rfl rfl (fun d1 => ?_) (fun d1 => ?_)
 ·skip
  refine zB (zC ?_)
  refine qM lv ?_
  refine qM (.pointer (some ⟨c, 0, none⟩)) ?_
  refine qM lv ?_
  refine qD rfl (zN Tryz.underlying24 (v := lv) rfl ad.read) ?_
  refine qI rfl (zM (vs := [(.pointer (some ⟨c, 0, none⟩)), (vJ (ls.length : Int))]) Tryz.func41 nm41 rfl rfl rfl ?_)
  refine Calls.mono (qJ ac.pins a8 (hc.mono (Pin.le_trans d.le q)) (by omega) (by omega) (n := (ls.length : Int)) (by omega)) ?_
  rintro _ fb ⟨f, fc, fd, rfl, fe, d2, ff, fg, ar⟩
  refine ⟨_, rfl, ?_⟩
  have ba := ac.trans ar (fun i hi => xM i hi)
  have b0 := ad.extS ar (notO b)
  have b2 := a9.extS ar (notOb l)
  have d3 := bz.turned ar (fun k hk o u => by cases hk; exact a8.free o u)
  refine qD rfl (zJ Tryz.underlying24 sz28 (v := lv) rfl rfl b0.read (by omega) (by omega)) ?_
  obtain ⟨fh, d4, d5, fi⟩ := nm_el (j := (f).toNat) default (b0.at (z := f) (by omega) (by omega)) rfl
  obtain ⟨rfl, d6⟩ := d4
  refine qD rfl (d5 ag28 sz28 rfl (Gadd.pins ba.pins lv)) ?_
  refine q0 rfl rfl rfl (yM (cs' := [(ls.getD (f).toNat default)]) (us := [(ls.getD (f).toNat default)]) (v := (.agg [(ls.getD (f).toNat default)].toArray)) sz28 rfl rfl rfl (yC d6) ba.pins b2 (Nat.le_of_ble_eq_true rfl) rfl (fun fj d7 d8 bb fk => ?_))
  have d9 := ba.write d8 bb ((zV bk))
  have ea := d2.keptA bb l.symm
  have eb := d3.kept bb (fun k hk o u => by cases hk; exact b2.free o u)
  refine qe (zA ?_)
  refine wp_ret ?_
  refine zR ?_
  refine c_retc (cs := [(ls.getD (f).toNat default)]) rfl rfl rfl ag28 sz28 (fun j u hj => by rw [Nat.zero_add]; exact d7.cell hj) ?_
  obtain ⟨g, hgq, htk⟩ := eb (ls.getD (f).toNat default) (yS (by omega))
  obtain ⟨G2, bd, be, bf⟩ := htk.give hP d9
  have hw := hkl.w (by omega) hgq
  exact ⟨_, g, _, _, G2, rfl, bd, hkl.is g hgq, (by omega), ea.anti bf, (by omega), (by omega), be⟩
 refine wp_skip ?_
 refine zA (zB (zC ?_))
 refine qM lv ?_
 refine qM lv ?_
 refine qD rfl (zN Tryz.underlying24 (v := lv) rfl ad.read) ?_
 refine qD rfl (qU rfl rfl (by omega)) ?_
 refine qD rfl (zJ Tryz.underlying24 sz28 (v := lv) rfl rfl ad.read (by omega) (by omega)) ?_
 obtain ⟨fl, ec, ed, fm⟩ := nm_el (j := ((ls.length : Int) - 1).toNat) default (ad.at (z := ((ls.length : Int) - 1)) (by omega) (by omega)) rfl
 obtain ⟨rfl, ee⟩ := ec
 refine qD rfl (ed ag28 sz28 rfl (Gadd.pins ac.pins lv)) ?_
 refine q0 rfl rfl rfl (yM (cs' := [(ls.getD ((ls.length : Int) - 1).toNat default)]) (us := [(ls.getD ((ls.length : Int) - 1).toNat default)]) (v := (.agg [(ls.getD ((ls.length : Int) - 1).toNat default)].toArray)) sz28 rfl rfl rfl (yC ee) ac.pins a9 (Nat.le_of_ble_eq_true rfl) rfl (fun fn ef eg bg fo => ?_))
 have eh := ac.write eg bg ((zV bk))
 have ei := a8.keptA bg l.symm
 have ej := bz.kept bg (fun k hk o u => by cases hk; exact a9.free o u)
 refine qe (zA ?_)
 refine wp_ret ?_
 refine zR ?_
 refine c_retc (cs := [(ls.getD ((ls.length : Int) - 1).toNat default)]) rfl rfl rfl ag28 sz28 (fun j u hj => by rw [Nat.zero_add]; exact ef.cell hj) ?_
 obtain ⟨g, hgq, htk⟩ := ej (ls.getD ((ls.length : Int) - 1).toNat default) (yS (by omega))
 obtain ⟨G2, bd, be, bf⟩ := htk.give hP eh
 have hw := hkl.w (by omega) hgq
 exact ⟨_, g, _, _, G2, rfl, bd, hkl.is g hgq, (by omega), ei.anti bf, (by omega), (by omega), be⟩

end DR2
end Go.Proofs.YtkfgdhanaijddaaGreatDoor

set_option maxRecDepth 20000
set_option maxHeartbeats 2000000
namespace Go.Proofs.YtkfgdhanaijddaaGreatDoor
namespace DV1
open Go.RowKit Go.GL Go.Proofs
open Go.Proofs.YtkfgdhanaijddaaGreatDoor.B1
open Go.Proofs.YtkfgdhanaijddaaGreatDoor.C1
open Go.Proofs.YtkfgdhanaijddaaGreatDoor.D1
open Go.Proofs.YtkfgdhanaijddaaGreatDoor.E1
open Go.Proofs.YtkfgdhanaijddaaGreatDoor.MK1
open Go.Proofs.YtkfgdhanaijddaaGreatDoor.DR1
open Go.Proofs.YtkfgdhanaijddaaGreatDoor.DR2












theorem pl68 : (Tryz.prog.underlying 68).bind (placesD Tryz.prog) = some [(0, 1), (1, 1)] := by kernel_rfl








theorem l1Own_spec {w : World} {G : Pin} {v : Value} {xs : List Int} (hP : Pins G w) (hv : RSl eInt G v xs) (hs : xs.length ≤ 1048576) :
  Calls Tryz.prog 99 [v].toArray w fun e w' => ∃ (u : Value) (G' : Pin), e = .returned u ∧ Own eInt 3 G' w' w.heap.size u xs ∧ Ext noS G w G' w' := by
 refine yD (n := 6) Tryz.func99 Tryz.ntmps99 rfl rfl ?_
 have b : Ext noS G w G w := Ext.refl hP
 refine zB (zC ?_)
 refine qM (.slice none 0 0) ?_
 refine qe (zA (zB (zC ?_)))
 refine qI rfl (yZ (E := eInt) (e := 3) Tryz.underlying57 sz3 b.pins (fun c g h i j p => ?_))
 have a := b.step i j
 have d : Own eInt 3 G g w.heap.size c ([]) := h.weaken b.size
 refine qM v ?_
 refine qI rfl (o_append (E := eInt) (v := c) (u := v) 8 Tryz.underlying57 ap3 (by decide) rfl rfl a.pins d ((hv.mono (Pin.le_refl _)).src a.pins (by decide)) (by first | omega | (rw [List.nil_append]; omega) | (rw [List.length_nil]; omega) | (rw [List.length_append]; omega) | (simp; done) | (simp; omega) | (simp only [List.length_cons, List.length_nil]; omega) | (simp only [List.length_append, List.length_cons, List.length_nil]; omega)) (by first | omega | (rw [List.nil_append]; omega) | (rw [List.length_nil]; omega) | (rw [List.length_append]; omega) | (simp; done) | (simp; omega) | (simp only [List.length_cons, List.length_nil]; omega) | (simp only [List.length_append, List.length_cons, List.length_nil]; omega)) (a.size) (fun f q k l m r => ?_))
 have o := a.write l m ((yB d))
 have s : (([]) ++ xs).length = ([]).length + xs.length := List.length_append
 refine qM f ?_
 refine qe (zA ?_)
 refine wp_ret ?_
 refine zR ?_
 refine zQ (v := f) rfl rfl rfl ?_
 exact ⟨_, _, rfl, (by simpa using k), o⟩

theorem anyForm_spec {w : World} {G : Pin} {c : Nat} {cv : Value} {code : List UInt8} {a s : Int} {n : Int} (hP : Pins G w) (hB : Bx G w c [cv, .int .i64 a, .int .u64 s]) (hc : RSl eByte G cv code) (ha : 0 ≤ a ∧ a + (12 * n + 10) ≤ 1000000) (hs : 0 ≤ s ∧ s < 18446744073709551616) (hn : 0 ≤ n ∧ n ≤ 6) :
  Calls Tryz.prog 44 [(.pointer (some ⟨c, 0, none⟩)), (vJ n)].toArray w fun e w' => ∃ (u : Value) (ns : List Nd) (a' s' : Int) (G' : Pin), e = .returned (.agg [u].toArray) ∧ RSl eNode G' u ns ∧ Bx G' w' c [cv, .int .i64 a', .int .u64 s'] ∧ (a ≤ a' ∧ a' ≤ a + (12 * n + 10)) ∧ (0 ≤ s' ∧ s' < 18446744073709551616) ∧ Ext (inO (some c)) G w G' w' := by
 refine yD (n := 77) Tryz.func44 Tryz.ntmps44 rfl rfl ?_
 have cm : Ext (inO (some c)) G w G w := Ext.refl hP
 have hm := hc.max
 refine zB (zC ?_)
 refine qI rfl (yH [(.slice none 0 0)] zr28 rfl cm.pins (fun b1 w2 gd dw ge dx => ?_))
 have cn := cm.step ge dx
 have dy := hB.below dx
 have ab : Apart (some b1) (some c) := zH (congrArg some gd) hB.lt
 have ay : w.heap.size ≤ b1 := by have := cm.size; omega
 refine qe (zA (zB (zC ?_)))
 refine qM (.pointer (some ⟨c, 0, none⟩)) ?_
 refine qM (vJ n) ?_
 refine qI rfl (zM (vs := [(.pointer (some ⟨c, 0, none⟩)), (vJ n)]) Tryz.func42 nm42 rfl rfl rfl ?_)
 refine Calls.mono (dform_spec (n := n) cn.pins dy hc (by omega) (by omega) (by omega)) ?_
 rintro _ gf ⟨b, f, np, nq, bo, rfl, co, dz, nr, d0, nt, nu, az⟩
 refine ⟨_, rfl, ?_⟩
 have cp := cn.trans az (fun i hi => xM i hi)
 have d1 := dw.extS az (notOb ab)
 have g := zZ co.lt dy.lt
 have ac := zZ co.lt dw.lt
 have d2 : Own eNode 68 bo gf w.heap.size b (formG f) := co.weaken cn.size
 have nv := dz.1.lo
 refine qI rfl (yH [(.slice none 0 0)] zr28 rfl cp.pins (fun q nw cq gg gh bp => ?_))
 have d3 := cp.step gh bp
 have d4 := d2.below bp
 have gi := d0.below bp
 have gj := d1.below bp
 have ak : Apart (some q) b.ownBlock := zI (congrArg some cq) d2.lt
 have an : Apart (some q) (some c) := zH (congrArg some cq) d0.lt
 have cr : Apart (some q) (some b1) := zH (congrArg some cq) d1.lt
 have ct : w.heap.size ≤ q := by have := cp.size; omega
 refine q0 rfl rfl rfl (yM (cs' := [b]) (us := [b]) (v := (.agg [b].toArray)) sz28 rfl rfl rfl (yC d4.one) d3.pins gg (Nat.le_of_ble_eq_true rfl) rfl (fun nx d5 gk bq ny => ?_))
 have d6 := d3.write gk bq ((zV ct))
 have d7 := d4.keptA bq ak.symm
 have gl := gi.keptA bq an.symm
 have gm := gj.keptA bq cr.symm
 refine qe (zA (zB (zC ?_)))
 refine qM (.pointer (some ⟨c, 0, none⟩)) ?_
 refine qD rfl (zO (k := 0) rfl Tryz.underlying28 rfl nz26 rfl) ?_
 refine qD rfl (zP (u := b) ag26 rfl (d5.cell (o := 0) rfl)) ?_
 refine qD rfl (zN Tryz.underlying26 (v := b) rfl d7.read) ?_
 refine qI rfl (zM (vs := [(.pointer (some ⟨c, 0, none⟩)), (vJ ((formG f).length : Int))]) Tryz.func41 nm41 rfl rfl rfl ?_)
 refine Calls.mono (qJ d6.pins gl (hc.mono az.le) (by omega) (by omega) (n := ((formG f).length : Int)) (by omega)) ?_
 rintro _ nz ⟨d, n0, n1, rfl, n2, gn, n3, n4, br⟩
 refine ⟨_, rfl, ?_⟩
 have d8 := d6.trans br (fun i hi => xM i hi)
 have gp := d7.extS br (notO g)
 have gq := gm.extS br (notOb ab)
 have gr := d5.extS br (notOb an)
 refine qM (vJ d) ?_
 refine qe (zA (zB (zB (zC ?_))))
 refine qM (.pointer (some ⟨c, 0, none⟩)) ?_
 refine qI rfl (zM (vs := [(.pointer (some ⟨c, 0, none⟩)), (vJ 24)]) Tryz.func41 nm41 rfl rfl rfl ?_)
 refine Calls.mono (qJ d8.pins gn (hc.mono az.le) (by omega) (by omega) (n := 24) (by omega)) ?_
 rintro _ bs ⟨al, n5, n6, rfl, n7, ao, n8, n9, bt⟩
 refine ⟨_, rfl, ?_⟩
 have t := d8.trans bt (fun i hi => xM i hi)
 have x := gp.extS bt (notO g)
 have ap := gq.extS bt (notOb ab)
 have ad := gr.extS bt (notOb an)
 refine qe (zA ?_)
 refine zX ?_
 refine zB (zC ?_)
 refine qD rfl (r_eql rfl rfl) ?_
 refine qM (.bool (decide ((al : Int) = 0))) ?_
 refine qe (zA ?_)
 refine yI (p := (al : Int) = 0) rfl rfl (fun gs => ?_) (fun gs => ?_)
 ·skip
  have hlk := (isform_ok dz (by omega)).lens (d).toNat (by omega)
  have gt := Gadd.pins t.pins b
  have a0 := x.read
  refine xG (S := fun wz => BxR wz q [b] ∧ Pins (Gadd bo bs b) wz) (last := 18) (by kernel_rfl) rfl ?_
  have aq : Below bs.heap.size bs bs.drew := (Below.refl _ _).drew
  have gu := t.pins.below aq
  have a1 := t.step gu aq
  have bu := x.below aq
  have bv := ao.below aq
  have bw := ap.below aq
  have m := ad.below aq
  have y := gt.below aq
  refine dT (i := 0) rfl rfl (by kernel_rfl) (fun _ _ => zO (k := 0) rfl Tryz.underlying28 rfl nz26 rfl) ⟨m.reads, y⟩ ?_
  refine dT (i := 1) rfl rfl (by kernel_rfl) (fun _ hS => zP (u := b) ag26 rfl (hS.1 0 _ rfl)) ⟨m.reads, y⟩ ?_
  refine dT (i := 2) rfl rfl (by kernel_rfl) (fun _ _ => zU (v := (vJ d)) rfl) ⟨m.reads, y⟩ ?_
  refine dT (i := 3) rfl rfl (by kernel_rfl) (fun _ _ => zO (k := 0) rfl Tryz.underlying28 rfl nz26 rfl) ⟨m.reads, y⟩ ?_
  refine dT (i := 4) rfl rfl (by kernel_rfl) (fun _ hS => zP (u := b) ag26 rfl (hS.1 0 _ rfl)) ⟨m.reads, y⟩ ?_
  refine dT (i := 5) rfl rfl (by kernel_rfl) (fun _ _ => zU (v := (vJ d)) rfl) ⟨m.reads, y⟩ ?_
  refine dT (i := 6) rfl rfl (by kernel_rfl) (fun _ _ => zJ Tryz.underlying26 sz68 (v := b) rfl rfl a0 (by omega) (by omega)) ⟨m.reads, y⟩ ?_
  refine dT (i := 7) rfl rfl (by kernel_rfl) (fun _ _ => xD (off := 0) Tryz.underlying68 rfl rfl nz57 (z := d) (k := 0) rfl a0 (by omega) (by omega)) ⟨m.reads, y⟩ ?_
  obtain ⟨d9, cu, gv⟩ := nm_nl (x.at (z := d) (by omega) (by omega)) (j := (d).toNat) rfl
  have oa := cu.max
  refine dT (i := 8) rfl rfl (by kernel_rfl) (fun _ hS => gv ag57 rfl hS.2) ⟨m.reads, y⟩ ?_
  refine dT (i := 10) rfl rfl (by kernel_rfl) (fun _ _ => zU (v := (.pointer (some ⟨c, 0, none⟩))) rfl) ⟨m.reads, y⟩ ?_
  refine dT (i := 11) rfl rfl (by kernel_rfl) (fun _ _ => zU (v := (vJ d)) rfl) ⟨m.reads, y⟩ ?_
  refine qK (i := 9) (j := 12) (by kernel_rfl) ?_ ?_
  ·skip
   refine (zT (i := 9) rfl rfl rfl (zD rfl _) (zM (vs := [d9]) Tryz.func99 nm99 rfl rfl rfl ?_))
   refine Calls.mono (l1Own_spec a1.pins cu (by omega)) ?_
   rintro _ gw ⟨cw, ea, rfl, a9, ah⟩
   refine ⟨_, rfl, ?_⟩
   have cx := a1.tr ah
   have eb := bu.ext ah
   have ec := bv.ext ah
   have ed := bw.ext ah
   have cy := m.ext ah
   have cz := zS a9.lt bu.lt
   have c0 := zZ a9.lt bv.lt
   have ee := zZ a9.lt bw.lt
   have ef := zZ a9.lt m.lt
   have eg : Own eInt 3 ea gw w.heap.size cw (((formG f).getD (d).toNat default).l) := a9.weaken a1.size
   have eh := y.below ah.below
   refine ⟨fun _ => ⟨cy.reads, eh⟩, ?_⟩
   refine dO (i := 12) (zT (i := 12) rfl rfl rfl (zD rfl _) (yU (E := eInt) (e := 3) [(vJ 0), (vJ d), (vJ (-1)), (vJ 1)] [0, d, (-1), 1] Tryz.underlying57 sz3 zr3 (by exact reps4 (by rfl) (by rfl) (by rfl) (by rfl)) (ones4 (by rfl) (by rfl) (by rfl) (by rfl)) rfl rfl rfl rfl (by decide) cx.pins (fun ar gx gy gz au ba => ?_)))
   have g0 := cx.step gz au
   have g1 := eb.below au
   have g2 := eg.below au
   have g3 := ec.below au
   have g4 := ed.below au
   have ei := cy.below au
   have g5 : Apart ar.ownBlock b.ownBlock := zI ba eb.lt
   have g6 : Apart ar.ownBlock cw.ownBlock := zI ba eg.lt
   have g7 : Apart ar.ownBlock (some c) := zH ba ec.lt
   have g8 : Apart ar.ownBlock (some b1) := zH ba ed.lt
   have g9 : Apart ar.ownBlock (some q) := zH ba cy.lt
   have hb : Own eInt 3 ea gx w.heap.size ar ([0, d, (-1), 1]) := gy.weaken cx.size
   have ej := eh.below au
   refine ⟨fun _ => ⟨ei.reads, ej⟩, ?_⟩
   obtain ⟨hd, bb, ek, he, bc⟩ := hb.sealed g0
   have hf := g1.moreO bb bc g5.symm
   have hg := g2.moreO bb bc g6.symm
   have hh := g3.moreO bc g7.symm
   have hk := g4.moreO bc g8.symm
   have hl := ei.moreO bc g9.symm
   refine dO (i := 13) (zT (i := 13) rfl rfl rfl (zD rfl _) (zM (vs := [(.pointer (some ⟨c, 0, none⟩)), ar]) Tryz.func100 nm100 rfl rfl rfl ?_))
   refine Calls.mono (among_spec ek.pins hh (hc.mono (Pin.le_trans (Pin.le_trans az.le ah.le) bb)) (by omega) (by omega) he (by simp)) ?_
   rintro _ ob ⟨bx, oc, od, rfl, oe, ho, og, oh, a2⟩
   refine ⟨_, rfl, ?_⟩
   have bz := ek.trans a2 (fun i hi => xM i hi)
   have hp := hf.extS a2 (notO g)
   have hq := hg.extS a2 (notO c0)
   have hr := hk.extS a2 (notOb ab)
   have el := hl.extS a2 (notOb an)
   have em := Gadd.turn ej (Pins.of_le bz.pins (Pin.le_trans ah.le bb)) a2 (notO g)
   refine ⟨fun _ => ⟨el.reads, em⟩, ?_⟩
   refine dO (i := 14) (zT (i := 14) rfl rfl rfl (zD rfl _) (yU (E := eInt) (e := 3) [(vJ bx)] [bx] Tryz.underlying57 sz3 zr3 (by exact xQ (by rfl)) (yC (by rfl)) rfl rfl rfl rfl (by decide) bz.pins (fun en ht hu hv av oi => ?_)))
   have c1 := bz.step hv av
   have eo := hp.below av
   have ep := hq.below av
   have eq := ho.below av
   have er := hr.below av
   have c2 := el.below av
   have hw : Own eInt 3 hd ht w.heap.size en ([bx]) := hu.weaken bz.size
   have es := em.below av
   refine ⟨fun _ => ⟨c2.reads, es⟩, ?_⟩
   refine dO (i := 15) (zT (i := 15) rfl rfl rfl (zD rfl _) (o_append (E := eInt) (v := cw) (u := en) 8 Tryz.underlying57 ap3 (by decide) rfl rfl c1.pins ep hw.src (by first | omega | (rw [List.nil_append]; omega) | (rw [List.length_nil]; omega) | (rw [List.length_append]; omega) | (simp; done) | (simp; omega) | (simp only [List.length_cons, List.length_nil]; omega) | (simp only [List.length_append, List.length_cons, List.length_nil]; omega)) (by first | omega | (rw [List.nil_append]; omega) | (rw [List.length_nil]; omega) | (rw [List.length_append]; omega) | (simp; done) | (simp; omega) | (simp only [List.length_cons, List.length_nil]; omega) | (simp only [List.length_append, List.length_cons, List.length_nil]; omega)) (c1.size) (fun bd oj hx et a3 b0 => ?_)))
   have eu := c1.write et a3 ((yB ep))
   have hy := eo.keptA a3 cz.symm
   have hz := eq.keptA a3 c0.symm
   have h0 := er.keptA a3 ee.symm
   have b2 := c2.keptA a3 ef.symm
   have h1 : Apart b.ownBlock bd.ownBlock := zG cz.symm b0 eo.lt
   have h2 : Apart (some c) bd.ownBlock := zL c0.symm b0 eq.lt
   have h3 : Apart (some b1) bd.ownBlock := zL ee.symm b0 er.lt
   have h4 : Apart (some q) bd.ownBlock := zL ef.symm b0 c2.lt
   have ok : ((((formG f).getD (d).toNat default).l) ++ ([bx])).length = (((formG f).getD (d).toNat default).l).length + 1 := List.length_append
   have c3 := Gadd.turn es (Pins.of_le eu.pins (Pin.le_trans ah.le bb)) (Ext.one et a3) (notO cz.symm)
   refine ⟨fun _ => ⟨b2.reads, c3⟩, ?_⟩
   refine dO (i := 16) (zT (i := 16) rfl rfl rfl (zD rfl _) (EO.run (zJ Tryz.underlying26 sz68 (v := b) rfl rfl a0 (by omega) (by omega)) ⟨fun _ => ⟨b2.reads, c3⟩, ?_⟩))
   refine dT (i := 17) rfl rfl (by kernel_rfl) (fun _ _ => xD (off := 0) Tryz.underlying68 rfl rfl nz57 (z := d) (k := 0) rfl a0 (by omega) (by omega)) ⟨b2.reads, c3⟩ ?_
   obtain ⟨ol, h5, ev, h6, b3⟩ := hx.sealed eu
   have ew := hy.moreO h5 b3 h1
   have h7 := hz.moreO b3 h2
   have h8 := h0.moreO b3 h3
   have h9 := b2.moreO b3 h4
   refine dO (i := 18) (xP (i := 18) rfl rfl rfl (zD rfl _) (o_setNL (v := b) (z := d) (u := bd) sz57 rfl rfl h6 ev.pins ew (by omega) (by omega) (fun om ex ia b4 oo => ?_)))
   have ey := ev.write ia b4 ((yB ew))
   have ib := h7.keptA b4 g.symm
   have ic := h8.keptA b4 ac.symm
   have ie := h9.keptA b4 ak
   refine ⟨fun h => absurd rfl h, ?_⟩
   refine yT (by kernel_rfl) ?_
   refine yJ ?_
   refine zA (zB (zC ?_))
   refine qD rfl (yF (cs := [b]) ag28 sz28 rfl (fun j u hj => ie.cell (by simpa using hj))) ?_
   refine q0 rfl rfl rfl (yM (cs' := [b]) (us := [b]) (v := (.agg [b].toArray)) sz28 rfl rfl rfl (yC ex.one) ey.pins ic (Nat.le_of_ble_eq_true rfl) rfl (fun op ig ih c4 oq => ?_))
   have ii := ey.write ih c4 ((zV ay))
   have ij := ex.keptA c4 ac
   have ik := ib.keptA c4 ab.symm
   refine qe (zA ?_)
   refine wp_ret ?_
   refine zR ?_
   refine c_retc (cs := [b]) rfl rfl rfl ag28 sz28 (fun j u hj => by rw [Nat.zero_add]; exact ig.cell hj) ?_
   obtain ⟨os, ot, il, im, io⟩ := ij.sealed ii
   have ip := ik.moreO io g.symm
   exact ⟨_, _, _, _, _, rfl, im, ip, (by omega), (by omega), il⟩
  ·skip
   refine (zT (i := 12) rfl rfl rfl (zD rfl _) (yU (E := eInt) (e := 3) [(vJ 0), (vJ d), (vJ (-1)), (vJ 1)] [0, d, (-1), 1] Tryz.underlying57 sz3 zr3 (by exact reps4 (by rfl) (by rfl) (by rfl) (by rfl)) (ones4 (by rfl) (by rfl) (by rfl) (by rfl)) rfl rfl rfl rfl (by decide) a1.pins (fun a4 iq ir it a5 b5 => ?_)))
   have c5 := a1.step it a5
   have ez := bu.below a5
   have e0 := bv.below a5
   have e1 := bw.below a5
   have c6 := m.below a5
   have iu : Apart a4.ownBlock b.ownBlock := zI b5 bu.lt
   have iv : Apart a4.ownBlock (some c) := zH b5 bv.lt
   have iw : Apart a4.ownBlock (some b1) := zH b5 bw.lt
   have ix : Apart a4.ownBlock (some q) := zH b5 m.lt
   have e2 : Own eInt 3 bo iq w.heap.size a4 ([0, d, (-1), 1]) := ir.weaken a1.size
   have e3 := y.below a5
   refine ⟨fun _ => ⟨c6.reads, e3⟩, ?_⟩
   refine dO (i := 9) (zT (i := 9) rfl rfl rfl (zD rfl _) (zM (vs := [d9]) Tryz.func99 nm99 rfl rfl rfl ?_))
   refine Calls.mono (l1Own_spec c5.pins cu (by omega)) ?_
   rintro _ iy ⟨e4, iz, rfl, a6, ag⟩
   refine ⟨_, rfl, ?_⟩
   have i0 := c5.tr ag
   have i1 := ez.ext ag
   have i2 := e2.ext ag
   have i3 := e0.ext ag
   have i4 := e1.ext ag
   have e5 := c6.ext ag
   have c7 := zS a6.lt ez.lt
   have i5 := zS a6.lt e2.lt
   have c8 := zZ a6.lt e0.lt
   have e6 := zZ a6.lt e1.lt
   have e7 := zZ a6.lt c6.lt
   have i6 : Own eInt 3 iz iy w.heap.size e4 (((formG f).getD (d).toNat default).l) := a6.weaken c5.size
   have e8 := e3.below ag.below
   refine ⟨fun _ => ⟨e5.reads, e8⟩, ?_⟩
   obtain ⟨i7, be, e9, i8, bf⟩ := i2.sealed i0
   have i9 := i1.moreO be bf iu.symm
   have ja := i6.moreO be bf i5
   have jb := i3.moreO bf iv.symm
   have jc := i4.moreO bf iw.symm
   have jd := e5.moreO bf ix.symm
   refine dO (i := 13) (zT (i := 13) rfl rfl rfl (zD rfl _) (zM (vs := [(.pointer (some ⟨c, 0, none⟩)), a4]) Tryz.func100 nm100 rfl rfl rfl ?_))
   refine Calls.mono (among_spec e9.pins jb (hc.mono (Pin.le_trans (Pin.le_trans az.le ag.le) be)) (by omega) (by omega) i8 (by simp)) ?_
   rintro _ ou ⟨b6, ov, ow, rfl, ox, je, oy, oz, a7⟩
   refine ⟨_, rfl, ?_⟩
   have b7 := e9.trans a7 (fun i hi => xM i hi)
   have jf := i9.extS a7 (notO g)
   have jg := ja.extS a7 (notO c8)
   have jh := jc.extS a7 (notOb ab)
   have fa := jd.extS a7 (notOb an)
   have fb := Gadd.turn e8 (Pins.of_le b7.pins (Pin.le_trans ag.le be)) a7 (notO g)
   refine ⟨fun _ => ⟨fa.reads, fb⟩, ?_⟩
   refine dO (i := 14) (zT (i := 14) rfl rfl rfl (zD rfl _) (yU (E := eInt) (e := 3) [(vJ b6)] [b6] Tryz.underlying57 sz3 zr3 (by exact xQ (by rfl)) (yC (by rfl)) rfl rfl rfl rfl (by decide) b7.pins (fun fc ji jj jk aw o0 => ?_)))
   have c9 := b7.step jk aw
   have fd := jf.below aw
   have fe := jg.below aw
   have ff := je.below aw
   have fg := jh.below aw
   have da := fa.below aw
   have jl : Own eInt 3 i7 ji w.heap.size fc ([b6]) := jj.weaken b7.size
   have fh := fb.below aw
   refine ⟨fun _ => ⟨da.reads, fh⟩, ?_⟩
   refine dO (i := 15) (zT (i := 15) rfl rfl rfl (zD rfl _) (o_append (E := eInt) (v := e4) (u := fc) 8 Tryz.underlying57 ap3 (by decide) rfl rfl c9.pins fe jl.src (by first | omega | (rw [List.nil_append]; omega) | (rw [List.length_nil]; omega) | (rw [List.length_append]; omega) | (simp; done) | (simp; omega) | (simp only [List.length_cons, List.length_nil]; omega) | (simp only [List.length_append, List.length_cons, List.length_nil]; omega)) (by first | omega | (rw [List.nil_append]; omega) | (rw [List.length_nil]; omega) | (rw [List.length_append]; omega) | (simp; done) | (simp; omega) | (simp only [List.length_cons, List.length_nil]; omega) | (simp only [List.length_append, List.length_cons, List.length_nil]; omega)) (c9.size) (fun bg o1 jm fi a8 b8 => ?_)))
   have fj := c9.write fi a8 ((yB fe))
   have jn := fd.keptA a8 c7.symm
   have jo := ff.keptA a8 c8.symm
   have jp := fg.keptA a8 e6.symm
   have b9 := da.keptA a8 e7.symm
   have jq : Apart b.ownBlock bg.ownBlock := zG c7.symm b8 fd.lt
   have jr : Apart (some c) bg.ownBlock := zL c8.symm b8 ff.lt
   have js : Apart (some b1) bg.ownBlock := zL e6.symm b8 fg.lt
   have jt : Apart (some q) bg.ownBlock := zL e7.symm b8 da.lt
   have o2 : ((((formG f).getD (d).toNat default).l) ++ ([b6])).length = (((formG f).getD (d).toNat default).l).length + 1 := List.length_append
   have db := Gadd.turn fh (Pins.of_le fj.pins (Pin.le_trans ag.le be)) (Ext.one fi a8) (notO c7.symm)
   refine ⟨fun _ => ⟨b9.reads, db⟩, ?_⟩
   refine dO (i := 16) (zT (i := 16) rfl rfl rfl (zD rfl _) (EO.run (zJ Tryz.underlying26 sz68 (v := b) rfl rfl a0 (by omega) (by omega)) ⟨fun _ => ⟨b9.reads, db⟩, ?_⟩))
   refine dT (i := 17) rfl rfl (by kernel_rfl) (fun _ _ => xD (off := 0) Tryz.underlying68 rfl rfl nz57 (z := d) (k := 0) rfl a0 (by omega) (by omega)) ⟨b9.reads, db⟩ ?_
   obtain ⟨o3, ju, fk, jv, ca⟩ := jm.sealed fj
   have fl := jn.moreO ju ca jq
   have jw := jo.moreO ca jr
   have jx := jp.moreO ca js
   have jy := b9.moreO ca jt
   refine dO (i := 18) (xP (i := 18) rfl rfl rfl (zD rfl _) (o_setNL (v := b) (z := d) (u := bg) sz57 rfl rfl jv fk.pins fl (by omega) (by omega) (fun o4 fm jz cb o5 => ?_)))
   have fn := fk.write jz cb ((yB fl))
   have j0 := jw.keptA cb g.symm
   have j1 := jx.keptA cb ac.symm
   have j2 := jy.keptA cb ak
   refine ⟨fun h => absurd rfl h, ?_⟩
   refine yT (by kernel_rfl) ?_
   refine yJ ?_
   refine zA (zB (zC ?_))
   refine qD rfl (yF (cs := [b]) ag28 sz28 rfl (fun j u hj => j2.cell (by simpa using hj))) ?_
   refine q0 rfl rfl rfl (yM (cs' := [b]) (us := [b]) (v := (.agg [b].toArray)) sz28 rfl rfl rfl (yC fm.one) fn.pins j1 (Nat.le_of_ble_eq_true rfl) rfl (fun o6 j3 j4 dc o7 => ?_))
   have j5 := fn.write j4 dc ((zV ay))
   have j6 := fm.keptA dc ac
   have j7 := j0.keptA dc ab.symm
   refine qe (zA ?_)
   refine wp_ret ?_
   refine zR ?_
   refine c_retc (cs := [b]) rfl rfl rfl ag28 sz28 (fun j u hj => by rw [Nat.zero_add]; exact j3.cell hj) ?_
   obtain ⟨o8, o9, j8, j9, ka⟩ := j6.sealed j5
   have kb := j7.moreO ka g.symm
   exact ⟨_, _, _, _, _, rfl, j9, kb, (by omega), (by omega), j8⟩
 refine zB (zC ?_)
 refine qD rfl (r_eql rfl rfl) ?_
 refine qM (.bool (decide ((al : Int) = 1))) ?_
 refine qe (zA ?_)
 refine yI (p := (al : Int) = 1) rfl rfl (fun kc => ?_) (fun kc => ?_)
 ·skip
  refine zC ?_
  refine qD rfl (zO (k := 0) rfl Tryz.underlying28 rfl nz26 rfl) ?_
  refine qD rfl (zP (u := b) ag26 rfl (ad.cell (o := 0) rfl)) ?_
  refine qI rfl (yU (E := eInt) (e := 3) [(vJ 0)] [0] Tryz.underlying57 sz3 zr3 (by exact xQ (by rfl)) (yC (by rfl)) rfl rfl rfl rfl (by decide) t.pins (fun ai kd ke kf bh cc => ?_))
  have kg := t.step kf bh
  have kh := x.below bh
  have ki := ao.below bh
  have kj := ap.below bh
  have kk := ad.below bh
  have kl : Apart ai.ownBlock b.ownBlock := zI cc x.lt
  have km : Apart ai.ownBlock (some c) := zH cc ao.lt
  have kn : Apart ai.ownBlock (some b1) := zH cc ap.lt
  have ko : Apart ai.ownBlock (some q) := zH cc ad.lt
  have fo : Own eInt 3 bo kd w.heap.size ai ([0]) := ke.weaken t.size
  refine qD rfl (xF [(.slice none 0 0), (.slice none 0 0)] [(.slice none 0 0), ai] [(1, ai, [ai])] Tryz.underlying68 zr68 rfl pl68 rfl (List.forall_mem_cons.2 ⟨(yY fo.one), (fun _ h => by cases h)⟩) rfl) ?_
  obtain ⟨kp, kq, dd, kr, cd⟩ := fo.sealed kg
  have ks := kh.moreO kq cd kl.symm
  have kt := ki.moreO cd km.symm
  have ku := kj.moreO cd kn.symm
  have kv := kk.moreO cd ko.symm
  refine qI rfl (xC (E := eNode) (e := 68) [(.slice none 0 0), ai] (⟨[], [0]⟩ : Nd) Tryz.underlying26 sz68 zr68 ⟨_, _, rfl, (xL _ _), kr⟩ rfl (by decide) dd.pins (fun fp kw kx ky bi pa => ?_))
  have de := dd.step ky bi
  have fq := ks.below bi
  have fr := kt.below bi
  have fs := ku.below bi
  have ft := kv.below bi
  have kz : Own eNode 68 kp kw w.heap.size fp ([(⟨[], [0]⟩ : Nd)]) := kx.weaken dd.size
  refine qI rfl (o_append (E := eNode) (v := b) (u := fp) 48 Tryz.underlying26 ap68 (by decide) rfl rfl de.pins fq kz.src (by first | omega | (rw [List.nil_append]; omega) | (rw [List.length_nil]; omega) | (rw [List.length_append]; omega) | (simp; done) | (simp; omega) | (simp only [List.length_cons, List.length_nil]; omega) | (simp only [List.length_append, List.length_cons, List.length_nil]; omega)) (by first | omega | (rw [List.nil_append]; omega) | (rw [List.length_nil]; omega) | (rw [List.length_append]; omega) | (simp; done) | (simp; omega) | (simp only [List.length_cons, List.length_nil]; omega) | (simp only [List.length_append, List.length_cons, List.length_nil]; omega)) (de.size) (fun ae pb df k0 ce dg => ?_))
  have fu := de.write k0 ce ((yB fq))
  have k1 := fr.keptA ce g.symm
  have k2 := fs.keptA ce ac.symm
  have k3 := ft.keptA ce ak
  have k4 : Apart (some c) ae.ownBlock := zL g.symm dg fr.lt
  have k5 : Apart (some b1) ae.ownBlock := zL ac.symm dg fs.lt
  have k6 : Apart (some q) ae.ownBlock := zL ak dg ft.lt
  have pc : ((formG f) ++ ([(⟨[], [0]⟩ : Nd)])).length = (formG f).length + 1 := List.length_append
  refine qD rfl (zO (k := 0) rfl Tryz.underlying28 rfl nz26 rfl) ?_
  refine q0 rfl rfl rfl (yM (cs' := [ae]) (us := [ae]) (v := ae) sz26 rfl rfl (cells1 df.one) (yC df.one) fu.pins k3 (Nat.le_of_ble_eq_true rfl) rfl (fun pd k7 k8 cf pe => ?_))
  have fv := fu.write k8 cf ((zV ct))
  have fw := df.keptA cf k6.symm
  have k9 := k1.keptA cf an.symm
  have la := k2.keptA cf cr.symm
  refine qe ?_
  refine yJ ?_
  refine zA (zB (zC ?_))
  refine qD rfl (yF (cs := [ae]) ag28 sz28 rfl (fun j u hj => k7.cell (by simpa using hj))) ?_
  refine q0 rfl rfl rfl (yM (cs' := [ae]) (us := [ae]) (v := (.agg [ae].toArray)) sz28 rfl rfl rfl (yC fw.one) fv.pins la (Nat.le_of_ble_eq_true rfl) rfl (fun pf lb lc dh pg => ?_))
  have ld := fv.write lc dh ((zV ay))
  have lf := fw.keptA dh k5.symm
  have lg := k9.keptA dh ab.symm
  refine qe (zA ?_)
  refine wp_ret ?_
  refine zR ?_
  refine c_retc (cs := [ae]) rfl rfl rfl ag28 sz28 (fun j u hj => by rw [Nat.zero_add]; exact lb.cell hj) ?_
  obtain ⟨ph, pi, lh, li, lj⟩ := lf.sealed ld
  have lk := lg.moreO lj k4
  exact ⟨_, _, _, _, _, rfl, li, lk, (by omega), (by omega), lh⟩
 refine zB (zC ?_)
 refine qD rfl (r_eql rfl rfl) ?_
 refine qM (.bool (decide ((al : Int) = 2))) ?_
 refine qe (zA ?_)
 refine yI (p := (al : Int) = 2) rfl rfl (fun ll => ?_) (fun ll => ?_)
 ·skip
  refine zC ?_
  refine qD rfl (zO (k := 0) rfl Tryz.underlying28 rfl nz26 rfl) ?_
  refine qD rfl (zP (u := b) ag26 rfl (ad.cell (o := 0) rfl)) ?_
  refine qD rfl (zO (k := 0) rfl Tryz.underlying28 rfl nz26 rfl) ?_
  refine qD rfl (zP (u := b) ag26 rfl (ad.cell (o := 0) rfl)) ?_
  refine qD rfl (zN Tryz.underlying26 (v := b) rfl x.read) ?_
  refine qD rfl (qU rfl rfl (by omega)) ?_
  obtain ⟨af, di, dj, lm⟩ := own_cut x ((((formG f).length : Int) - 1).toNat) (((formG f).length : Int) - 1) (by omega) rfl (by omega) (by omega)
  have ln : Apart af.ownBlock (some c) := by rw [dj]; exact g
  have lp : Apart af.ownBlock (some b1) := by rw [dj]; exact ac
  have lq : Apart (some q) af.ownBlock := by rw [dj]; exact ak
  refine qD rfl (lm Tryz.underlying26 sz68 rfl rfl rfl) ?_
  refine qD rfl (zO (k := 0) rfl Tryz.underlying28 rfl nz26 rfl) ?_
  refine q0 rfl rfl rfl (yM (cs' := [af]) (us := [af]) (v := af) sz26 rfl rfl (cells1 di.one) (yC di.one) t.pins ad (Nat.le_of_ble_eq_true rfl) rfl (fun pj lr ls cg pk => ?_))
  have fx := t.write ls cg ((zV ct))
  have fy := di.keptA cg lq.symm
  have lu := ao.keptA cg an.symm
  have lv := ap.keptA cg cr.symm
  refine qe ?_
  refine yJ ?_
  refine zA (zB (zC ?_))
  refine qD rfl (yF (cs := [af]) ag28 sz28 rfl (fun j u hj => lr.cell (by simpa using hj))) ?_
  refine q0 rfl rfl rfl (yM (cs' := [af]) (us := [af]) (v := (.agg [af].toArray)) sz28 rfl rfl rfl (yC fy.one) fx.pins lv (Nat.le_of_ble_eq_true rfl) rfl (fun pl lw lx dk pm => ?_))
  have ly := fx.write lx dk ((zV ay))
  have lz := fy.keptA dk lp
  have l0 := lu.keptA dk ab.symm
  refine qe (zA ?_)
  refine wp_ret ?_
  refine zR ?_
  refine c_retc (cs := [af]) rfl rfl rfl ag28 sz28 (fun j u hj => by rw [Nat.zero_add]; exact lw.cell hj) ?_
  obtain ⟨pn, po, l1, l2, l3⟩ := lz.sealed ly
  have l4 := l0.moreO l3 ln.symm
  exact ⟨_, _, _, _, _, rfl, l2, l4, (by omega), (by omega), l1⟩
 refine zB (zC ?_)
 refine qD rfl (r_eql rfl rfl) ?_
 refine qM (.bool (decide ((al : Int) = 3))) ?_
 refine qe (zA ?_)
 refine yI (p := (al : Int) = 3) rfl rfl (fun l5 => ?_) (fun l5 => ?_)
 ·skip
  refine zB (zC ?_)
  refine qD rfl (zO (k := 0) rfl Tryz.underlying28 rfl nz26 rfl) ?_
  refine qD rfl (zP (u := b) ag26 rfl (ad.cell (o := 0) rfl)) ?_
  refine qD rfl (zJ Tryz.underlying26 sz68 (v := b) rfl rfl x.read (by omega) (by omega)) ?_
  obtain ⟨bj, bk, dl, dm, l6⟩ := nm_node (x.at (z := 0) (by omega) (by omega)) (j := 0) rfl
  have pp := dl.max
  have pq := dm.max
  refine qD rfl (l6 ag68 sz68 rfl (Gadd.pins t.pins b)) ?_
  refine qI rfl (yH [(.slice none 0 0), (.slice none 0 0)] zr68 rfl t.pins (fun bl pr ch l7 l8 bm => ?_))
  have fz := t.step l8 bm
  have l9 := x.below bm
  have ma := ao.below bm
  have mb := ap.below bm
  have mc := ad.below bm
  have f0 : Apart (some bl) b.ownBlock := zI (congrArg some ch) x.lt
  have f1 : Apart (some bl) (some c) := zH (congrArg some ch) ao.lt
  have f2 : Apart (some bl) (some b1) := zH (congrArg some ch) ap.lt
  have f3 : Apart (some bl) (some q) := zH (congrArg some ch) ad.lt
  have f4 : w.heap.size ≤ bl := by have := t.size; omega
  refine q0 rfl rfl rfl (yM (cs' := [bj, bk]) (us := [bj, bk]) (v := (.agg [bj, bk].toArray)) sz68 rfl rfl rfl (ones2 dl.one dm.one) fz.pins l7 (Nat.le_of_ble_eq_true rfl) rfl (fun ci md me bn ps => ?_))
  have mf := fz.write me bn ((zV f4))
  have mg := l9.keptA bn f0.symm
  have mh := ma.keptA bn f1.symm
  have mi := mb.keptA bn f2.symm
  have mj := mc.keptA bn f3.symm
  obtain ⟨dn, dp, dq, mk, cj⟩ := md.shut mf f4
  have dr := mg.moreA dp cj f0.symm
  have ml := mh.moreA cj f1.symm
  have mm := mi.moreA cj f2.symm
  have mn := mj.moreA cj f3.symm
  refine qe (zA (zB ?_))
  have mo := Gadd.pins dq.pins b
  have f5 := dr.read
  refine xG (S := fun wz => BxR wz q [b] ∧ Pins (Gadd dn ci b) wz) (last := 8) (by kernel_rfl) rfl ?_
  have ax : Below ci.heap.size ci ci.drew := (Below.refl _ _).drew
  have mp := dq.pins.below ax
  have f6 := dq.step mp ax
  have f7 := dr.below ax
  have mq := ml.below ax
  have mr := mm.below ax
  have aj := mn.below ax
  have am := mo.below ax
  refine dT (i := 0) rfl rfl (by kernel_rfl) (fun _ _ => zO (k := 0) rfl Tryz.underlying28 rfl nz26 rfl) ⟨aj.reads, am⟩ ?_
  refine dT (i := 1) rfl rfl (by kernel_rfl) (fun _ hS => zP (u := b) ag26 rfl (hS.1 0 _ rfl)) ⟨aj.reads, am⟩ ?_
  refine dT (i := 2) rfl rfl (by kernel_rfl) (fun _ _ => zO (k := 0) rfl Tryz.underlying28 rfl nz26 rfl) ⟨aj.reads, am⟩ ?_
  refine dT (i := 3) rfl rfl (by kernel_rfl) (fun _ hS => zP (u := b) ag26 rfl (hS.1 0 _ rfl)) ⟨aj.reads, am⟩ ?_
  refine dT (i := 4) rfl rfl (by kernel_rfl) (fun _ _ => zU (v := (vJ d)) rfl) ⟨aj.reads, am⟩ ?_
  refine dT (i := 5) rfl rfl (by kernel_rfl) (fun _ _ => zJ Tryz.underlying26 sz68 (v := b) rfl rfl f5 (by omega) (by omega)) ⟨aj.reads, am⟩ ?_
  obtain ⟨ms, mt, f8, f9, mu⟩ := nm_node (dr.at (z := d) (by omega) (by omega)) (j := (d).toNat) rfl
  have pt := f8.max
  have pu := f9.max
  refine dT (i := 6) rfl rfl (by kernel_rfl) (fun _ hS => mu ag68 sz68 rfl hS.2) ⟨aj.reads, am⟩ ?_
  refine dT (i := 7) rfl rfl (by kernel_rfl) (fun _ _ => zJ Tryz.underlying26 sz68 (v := b) rfl rfl f5 (by omega) (by omega)) ⟨aj.reads, am⟩ ?_
  refine dO (i := 8) (xP (i := 8) rfl rfl rfl (zD rfl _) (o_set (E := eNode) (v := b) (u := (.agg [ms, mt].toArray)) (z := 0) ((⟨((formG f).getD (d).toNat default).l, ((formG f).getD (d).toNat default).r⟩ : Nd)) sz68 rfl rfl rfl ⟨_, _, rfl, f8, f9⟩ f6.pins f7 (by omega) (by omega) (fun mv mw mx ck pv => ?_)))
  have ds := f6.write mx ck ((yB f7))
  have my := mq.keptA ck g.symm
  have mz := mr.keptA ck ac.symm
  have ga := aj.keptA ck ak
  have dt : Own eNode 68 dn mv w.heap.size b ((formG f).set 0 (⟨((formG f).getD (d).toNat default).l, ((formG f).getD (d).toNat default).r⟩ : Nd)) := mw
  have pw : ((formG f).set 0 (⟨((formG f).getD (d).toNat default).l, ((formG f).getD (d).toNat default).r⟩ : Nd)).length = (formG f).length := List.length_set ..
  refine ⟨fun h => absurd rfl h, ?_⟩
  refine yT (by kernel_rfl) ?_
  refine zA (zC ?_)
  refine qD rfl (zO (k := 0) rfl Tryz.underlying28 rfl nz26 rfl) ?_
  refine qD rfl (zP (u := b) ag26 rfl (ga.cell (o := 0) rfl)) ?_
  refine qM (vJ d) ?_
  refine qD rfl (yF (cs := [bj, bk]) ag68 sz68 rfl (fun j u hj => ds.pins _ _ _ (mk _ _ (by simpa using hj)))) ?_
  refine qD rfl (zJ Tryz.underlying26 sz68 (v := b) rfl rfl dt.read (by omega) (by omega)) ?_
  refine q0 rfl rfl rfl (o_set (E := eNode) (v := b) (u := (.agg [bj, bk].toArray)) (z := d) ((⟨((formG f).getD 0 default).l, ((formG f).getD 0 default).r⟩ : Nd)) sz68 rfl rfl rfl ⟨_, _, rfl, (dl.mono dp), (dm.mono dp)⟩ ds.pins dt (by omega) (by omega) (fun m0 m1 m2 cl px => ?_))
  have gb := ds.write m2 cl ((yB dt))
  have m3 := my.keptA cl g.symm
  have m4 := mz.keptA cl ac.symm
  have m5 := ga.keptA cl ak
  have gc : Own eNode 68 dn m0 w.heap.size b (((formG f).set 0 (⟨((formG f).getD (d).toNat default).l, ((formG f).getD (d).toNat default).r⟩ : Nd)).set (d).toNat (⟨((formG f).getD 0 default).l, ((formG f).getD 0 default).r⟩ : Nd)) := m1
  have py : (((formG f).set 0 (⟨((formG f).getD (d).toNat default).l, ((formG f).getD (d).toNat default).r⟩ : Nd)).set (d).toNat (⟨((formG f).getD 0 default).l, ((formG f).getD 0 default).r⟩ : Nd)).length = ((formG f).set 0 (⟨((formG f).getD (d).toNat default).l, ((formG f).getD (d).toNat default).r⟩ : Nd)).length := List.length_set ..
  refine qe ?_
  refine yJ ?_
  refine zA (zB (zC ?_))
  refine qD rfl (yF (cs := [b]) ag28 sz28 rfl (fun j u hj => m5.cell (by simpa using hj))) ?_
  refine q0 rfl rfl rfl (yM (cs' := [b]) (us := [b]) (v := (.agg [b].toArray)) sz28 rfl rfl rfl (yC gc.one) gb.pins m4 (Nat.le_of_ble_eq_true rfl) rfl (fun pz m6 m7 du p0 => ?_))
  have m8 := gb.write m7 du ((zV ay))
  have m9 := gc.keptA du ac
  have na := m3.keptA du ab.symm
  refine qe (zA ?_)
  refine wp_ret ?_
  refine zR ?_
  refine c_retc (cs := [b]) rfl rfl rfl ag28 sz28 (fun j u hj => by rw [Nat.zero_add]; exact m6.cell hj) ?_
  obtain ⟨p1, p2, nb, nc, nd⟩ := m9.sealed m8
  have ne := na.moreO nd g.symm
  exact ⟨_, _, _, _, _, rfl, nc, ne, (by omega), (by omega), nb⟩
 refine wp_skip ?_
 refine yJ ?_
 refine zA (zB (zC ?_))
 refine qD rfl (yF (cs := [b]) ag28 sz28 rfl (fun j u hj => ad.cell (by simpa using hj))) ?_
 refine q0 rfl rfl rfl (yM (cs' := [b]) (us := [b]) (v := (.agg [b].toArray)) sz28 rfl rfl rfl (yC x.one) t.pins ap (Nat.le_of_ble_eq_true rfl) rfl (fun p3 nf ng dv p4 => ?_))
 have nh := t.write ng dv ((zV ay))
 have ni := x.keptA dv ac
 have nj := ao.keptA dv ab.symm
 refine qe (zA ?_)
 refine wp_ret ?_
 refine zR ?_
 refine c_retc (cs := [b]) rfl rfl rfl ag28 sz28 (fun j u hj => by rw [Nat.zero_add]; exact nf.cell hj) ?_
 obtain ⟨p5, p6, nk, nl, nm⟩ := ni.sealed nh
 have nn := nj.moreO nm g.symm
 exact ⟨_, _, _, _, _, rfl, nl, nn, (by omega), (by omega), nk⟩

end DV1
end Go.Proofs.YtkfgdhanaijddaaGreatDoor

set_option maxRecDepth 20000
set_option maxHeartbeats 2000000
namespace Go.Proofs.YtkfgdhanaijddaaGreatDoor
namespace DV2
open Go.RowKit Go.GL Go.Proofs
open Go.Proofs.YtkfgdhanaijddaaGreatDoor.B1
open Go.Proofs.YtkfgdhanaijddaaGreatDoor.C1
open Go.Proofs.YtkfgdhanaijddaaGreatDoor.D1
open Go.Proofs.YtkfgdhanaijddaaGreatDoor.E1
open Go.Proofs.YtkfgdhanaijddaaGreatDoor.MK1
open Go.Proofs.YtkfgdhanaijddaaGreatDoor.DR1
open Go.Proofs.YtkfgdhanaijddaaGreatDoor.DR2
open Go.Proofs.YtkfgdhanaijddaaGreatDoor.DV1
theorem vBig_spec {w : World} {G : Pin} {v : Value} {code : List UInt8} (hP : Pins G w) (hc : RSl eByte G v code) :
  Calls Tryz.prog 10 [v].toArray w fun e w' => e = .returned (.bool (decide ((65536 : Int) < (code.length : Int)))) ∧ Ext noS G w G w' := by
 refine yD (n := 6) Tryz.func10 Tryz.ntmps10 rfl rfl ?_
 have hX0 : Ext noS G w G w := Ext.refl hP
 have hm := hc.max
 refine zB (zC ?_)
 refine qM (.bool false) ?_
 refine qe (zA (zB (zC ?_)))
 refine qM v ?_
 refine qD rfl (zN Tryz.underlying22 (v := v) rfl hc) ?_
 refine qD rfl (r_gtr rfl rfl) ?_
 refine qM (.bool (decide ((65536 : Int) < (code.length : Int)))) ?_
 refine qe (zA ?_)
 refine wp_ret ?_
 refine zR ?_
 refine zQ (v := (.bool (decide ((65536 : Int) < (code.length : Int))))) rfl rfl rfl ?_
 exact ⟨rfl, hX0⟩

end DV2
end Go.Proofs.YtkfgdhanaijddaaGreatDoor
