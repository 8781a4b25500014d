/- Texts of this claim in one file: PL1, PA1, SO1, OD1, FO1, NG1, NF1, SM1, NU1, NU2, NU3, NB4, NB5, NB6, OR1, SF1, N1, FT1, NB1, NB2. -/
import Derived.Test.YtjdchbdfohiaaaaGreatDoorFi5
import Derived.Test.YtjdchbdfohiaaaaGreatDoorChecked
set_option maxRecDepth 20000
set_option maxHeartbeats 2000000
namespace Go.Proofs.YtjdchbdfohiaaaaGreatDoor
namespace PL1
open Go.RowKit Go.GL Go.Proofs
open B1 K1 PO1
theorem mk3 : (Tryz.prog.info? 3).map (fun i => (i.size, i.bytes, i.zero)) = some (1, 8, some (.int .i64 0)) := by kernel_rfl
theorem pl55 : (Tryz.prog.underlying 55).bind (placesD Tryz.prog) = some [(0, 1), (1, 1), (2, 1), (3, 1), (4, 1), (5, 1), (6, 1), (7, 1)] := by kernel_rfl
variable {G : Pin} {p : Nat} {L R B x : Value} {mm : PM} {q : PSt} {fs : List Nd} {a b : Int}
theorem rZ {w : World} (hP : Pins G w) :
  Calls Tryz.prog 16 [].toArray w fun e w' => ∃ (p : Nat) (mm : PM) (G' : Pin), e = .returned (vP p) ∧ Pk 48 3 G' w' p vN vN vN mm ⟨[], [], [], [], [], [], []⟩ ∧ (∀ k, inP p vN vN vN mm k → w.heap.size ≤ k) ∧ Ext noS G w G' w' := by
 refine zU (n := 8) Tryz.func16 Tryz.ntmps16 rfl rfl ?_
 have o := exr noS hP
 refine zB (zC ?_)
 refine qM (.pointer none) ?_
 refine qe (zA (zB (zC ?_)))
 refine qI rfl (jZ (fun k : ByteArray => Value.string k) (fun v : Int => Value.int .i64 v) o.pins (fun a w2 bo z al am => ?_))
 have q := o.step al am
 have an : w.heap.size ≤ a := by have := o.size; omega
 refine qI rfl (jZ encP2 (fun v : Bool => Value.bool v) q.pins (fun b bp ao aa ap ab => ?_))
 have r := q.step ap ab
 have ac := z.below ab
 have aq := zH (congrArg some ao) z.lt
 have ar : w.heap.size ≤ b := by have := q.size; omega
 refine qI rfl (jZ (fun k : Int => Value.int .i64 k) (fun v : Int => Value.int .i64 v) r.pins (fun c bq ad ae au s => ?_))
 have t := r.step au s
 have af := ac.below s
 have ag := aa.below s
 have av := zH (congrArg some ad) ac.lt
 have aw := zH (congrArg some ad) aa.lt
 have ax : w.heap.size ≤ c := by have := r.size; omega
 refine qI rfl (jZ encP2 (fun v : Int => Value.int .i64 v) t.pins (fun d br u ah ay l => ?_))
 have x := t.step ay l
 have ai := af.below l
 have aj := ag.below l
 have ak := ae.below l
 have az := zH (congrArg some u) af.lt
 have a0 := zH (congrArg some u) ag.lt
 have a1 := zH (congrArg some u) ae.lt
 have a2 : w.heap.size ≤ d := by have := t.size; omega
 refine qI rfl (jZ (fun k : Int => Value.int .i64 k) (fun v : Int => Value.int .i64 v) x.pins (fun f bs m a3 a4 i => ?_))
 have y := x.step a4 i
 have a5 := ai.below i
 have a6 := aj.below i
 have a7 := ak.below i
 have a8 := ah.below i
 have a9 := zH (congrArg some m) ai.lt
 have ba := zH (congrArg some m) aj.lt
 have bb := zH (congrArg some m) ak.lt
 have bc := zH (congrArg some m) ah.lt
 have bd : w.heap.size ≤ f := by have := x.size; omega
 refine qD rfl (xB [vN, vN, vN, (.map none), (.map none), (.map none), (.map none), (.map none)] [vN, vN, vN, (.map (some a)), (.map (some b)), (.map (some c)), (.map (some d)), (.map (some f))] [(3, (.map (some a)), [(.map (some a))]), (4, (.map (some b)), [(.map (some b))]), (5, (.map (some c)), [(.map (some c))]), (6, (.map (some d)), [(.map (some d))]), (7, (.map (some f)), [(.map (some f))])] dH zr55 rfl pl55 rfl (List.forall_mem_cons.2 ⟨rfl, (List.forall_mem_cons.2 ⟨rfl, (List.forall_mem_cons.2 ⟨rfl, (List.forall_mem_cons.2 ⟨rfl, (List.forall_mem_cons.2 ⟨rfl, (fun _ h => by cases h)⟩)⟩)⟩)⟩)⟩) rfl) (qI rfl (xH [vN, vN, vN, (.map (some a)), (.map (some b)), (.map (some c)), (.map (some d)), (.map (some f))] (v := (.agg [vN, vN, vN, (.map (some a)), (.map (some b)), (.map (some c)), (.map (some d)), (.map (some f))].toArray)) rfl rfl y.pins (fun j bt bu be bf g => ?_)))
 have bg := y.step bf g
 have bh := a5.below g
 have bi := a6.below g
 have bj := a7.below g
 have bk := a8.below g
 have bl := a3.below g
 have bm : w.heap.size ≤ j := by have := y.size; omega
 refine qM (vP j) ?_
 refine qe (zA ?_)
 refine wp_ret (zO (zQ (v := (vP j)) rfl rfl rfl ?_))
 have hdf : PDiff ⟨a, b, c, d, f⟩ := ⟨fun e => aq.symm _ rfl (congrArg some e.symm), fun e => av.symm _ rfl (congrArg some e.symm), fun e => az.symm _ rfl (congrArg some e.symm), fun e => a9.symm _ rfl (congrArg some e.symm), fun e => aw.symm _ rfl (congrArg some e.symm), fun e => a0.symm _ rfl (congrArg some e.symm), fun e => ba.symm _ rfl (congrArg some e.symm), fun e => a1.symm _ rfl (congrArg some e.symm), fun e => bb.symm _ rfl (congrArg some e.symm), fun e => bc.symm _ rfl (congrArg some e.symm)⟩
 have hfr : ∀ k, inP j vN vN vN ⟨a, b, c, d, f⟩ k → w.heap.size ≤ k := by rintro k (rfl | hk | hk | hk | rfl | rfl | rfl | rfl | rfl) <;> first | (cases hk; done) | exact bm | exact an | exact ar | exact ax | exact a2 | exact bd
 exact ⟨j, ⟨a, b, c, d, f⟩, _, rfl, ⟨be, (Own.nil _ _ _ _ _), (Own.nil _ _ _ _ _), (Own.nil _ _ _ _ _), bh, bi, bj, bk, bl, apart_none.symm, apart_none.symm, apart_none.symm, apart_none, apart_none, apart_none, hdf⟩, hfr, bg⟩
theorem rT {w : World} {u v : Value} {xs ys : List Int} (hP : Pins G w) (hu : RSl eInt G u xs) (hv : RSl eInt G v ys) (hs : xs.length ≤ 1048576) (hb : ∀ i, i < xs.length → 0 ≤ xs.getD i 0 ∧ xs.getD i 0 < ys.length) :
  Calls Tryz.prog 64 [u, v].toArray w fun e w' => ∃ (u : Value) (G' : Pin), e = .returned u ∧ Own eInt 3 G' w' w.heap.size u (atL ys xs) ∧ Ext noS G w G' w' := by
 refine zU (n := 27) Tryz.func64 Tryz.ntmps64 rfl rfl ?_
 have d := exr noS hP
 have hm := hu.max
 have hal : (atL ys xs).length = xs.length := xJ
 have hrl : (List.replicate xs.length (0 : Int)).length = xs.length := List.length_replicate
 refine zB (zC ?_)
 refine qM vN ?_
 refine qe (zA (zB (zC ?_)))
 refine qM u ?_
 refine qD rfl (zP dB (v := u) rfl hu) (qI rfl (nF (E := eInt) 0 8 (vJ 0) dB mk3 (fun _ => rfl) rfl rfl d.pins (by omega) (by omega) (by omega) (fun a g h l m ab => ?_)))
 have o := d.step l m
 have q : Own eInt 3 G g w.heap.size a (List.replicate xs.length 0) := h.weaken d.size
 have ac : (List.replicate xs.length 0).length = xs.length := List.length_replicate ..
 refine qM a ?_
 refine qe (zA (zB (zB (zC ?_))))
 refine qM u ?_
 refine qD rfl (zP dB (v := u) rfl hu) (qM (vJ 0) ?_)
 refine qe (zA ?_)
 refine zW (yS (fun k en W => ∃ (f : Nat → Value) (j : Nat) (os : List Int), en = (upd (upd (upd (upd (upd (upd f 1 v) 4 vN) 5 a) 11 u) 12 (vJ (xs.length : Int))) 13 (vJ (j : Int))) ∧ k = xs.length - j ∧ Ext noS G w G W ∧ (j ≤ xs.length) ∧ (os = (atL ys xs).take j ++ (List.replicate xs.length 0).drop j) ∧ (os.length = xs.length) ∧ (Own eInt 3 G W w.heap.size a (os))) _ ⟨_, 0, List.replicate xs.length 0, (pS 13 (pS 12 (pS 11 (pS 5 (pS 4 (pU 1)))))), rfl, o, Nat.zero_le _, rfl, hrl, q⟩ ?_)
 rintro ad _ ae ⟨f, j, os, rfl, af, b, hj, hr, hol, c⟩
 refine zB (zC ?_)
 refine qD rfl (yX rfl rfl) (qe (zA (zB ?_)))
 refine yC (p := ((j : Int) : Int) < (xs.length : Int)) rfl rfl (fun s => ?_) (fun s => ?_)
 have hbj := hb j (by omega)
 refine wp_skip (zA (zB ?_))
 refine zW (zB (zC ?_))
 refine qM (vJ (j : Int)) ?_
 refine qD rfl (zJ dB sz3 (v := u) rfl rfl hu (by omega) (by omega)) (qD rfl (zI (r := xs.getD j 0) rfl ag3 (z := (j : Int)) rfl hu b.pins (by omega) (by omega)) (qM (vJ (j : Int)) ?_))
 refine qM (vJ (xs.getD j 0)) ?_
 refine qe (zA (zC ?_))
 refine qM a ?_
 refine qM (vJ (j : Int)) ?_
 refine qM v ?_
 refine qM (vJ (xs.getD j 0)) ?_
 refine qD rfl (zJ dB sz3 (v := v) rfl rfl hv (by omega) (by omega)) (qD rfl (zI (r := ys.getD (xs.getD j 0).toNat 0) rfl ag3 (z := (xs.getD j 0)) rfl hv b.pins (by omega) (by omega)) (qD rfl (zJ dB sz3 (v := a) rfl rfl c.read (by omega) (by omega)) (q0 rfl rfl rfl (fD (E := eInt) (v := a) (u := (vJ (ys.getD (xs.getD j 0).toNat 0))) (z := (j : Int)) (ys.getD (xs.getD j 0).toNat 0) sz3 rfl rfl rfl rfl b.pins c (by omega) (by omega) (fun ag t x y ah => ?_)))))
 have aa := b.write x y ((yH c))
 refine qe (yA (zA (zC ?_)))
 refine qD rfl (yJ rfl rfl (by omega)) (qM (vJ ((j : Int) + 1)) ?_)
 refine qe (yD (⟨_, ?_, _, rfl, _, j + 1, os.set j (ys.getD (xs.getD j 0).toNat 0), (pS 13 (pS 12 (pS 11 (pS 5 (pS 4 (pU 1)))))), rfl, aa, (by omega), (by rw [hr]; exact cur_set 0 (by omega) (by omega) (at_getD (by omega))), ((List.length_set ..).trans hol), t⟩))
 omega
 refine wp_exit (zV (yK (yE (zA (zB (zC ?_))))))
 refine qM a ?_
 refine qM a ?_
 refine qe (zA ?_)
 refine wp_ret (zO (zQ (v := a) rfl rfl rfl ?_))
 rw [cur_end (by omega) (by omega)] at hr
 exact ⟨_, _, rfl, (by rw [← hr]; exact c), b⟩
theorem load_spec {w : World} (hP : Pins G w) (hpk : Pk 48 3 G w p L R B mm q) (hok : PoolOk q) (hx : RSl eNode G x fs) (hf : FormOk fs) (hl : q.ns.length + fs.length ≤ 1048576) :
  Calls Tryz.prog 41 [(vP p), (.agg [x].toArray)].toArray w fun e w' => ∃ (u : Value) (ats : List Int) (L' R' B' : Value) (q' : PSt) (G' : Pin), e = .returned u ∧ Pk 48 3 G' w' p L' R' B' mm q' ∧ PoolOk q' ∧ PX q q' ∧ PLo w p L R B mm L' R' B' ∧ Ext (inP p L R B mm) G w G' w' ∧ Own eInt 3 G' w' w.heap.size u ats ∧ NP p L' R' B' mm u.ownBlock ∧ LdOk fs q q' fs.length ats := by
 refine zU (n := 34) Tryz.func41 Tryz.ntmps41 rfl rfl ?_
 have ax := exr (inP p L R B mm) hP
 have hpin : PIn w (inP p L R B mm) p L R B mm := PIn.self
 have ee := pkl q
 have ef := pkb hok
 refine zB (zC ?_)
 refine qI rfl (xH [x] (v := (.agg [x].toArray)) rfl rfl ax.pins (fun b3 w4 cp cq bj bk => ?_))
 have cr := ax.step bj bk
 have cs := hpk.below bk bj
 have ct := hpk.new (x := (some b3)) (fun k hk => by rw [(congrArg some cp)] at hk; cases hk; exact Nat.le_refl _)
 have cu : w.heap.size ≤ b3 := by have := ax.size; omega
 obtain ⟨ay, ak, al, bl, cv⟩ := cq.shut cr cu
 have bm := cs.more ak cv ct
 refine qM vN ?_
 refine qe (zA (zB (zC ?_)))
 refine qD rfl (zK (k := 0) rfl dE rfl nz24 rfl) (qD rfl (zL (u := x) ag24 rfl (al.pins _ _ _ (bl 0 _ rfl))) (qD rfl (zP dC (v := x) rfl hx) (qI rfl (o_make0 (E := eInt) dB mk3 rfl rfl al.pins (by omega) (by omega) (by omega) (fun am cw cx bn bo cy => ?_)))))
 have bp := al.step bn bo
 have cz := bm.below bo bn
 have c0 := bm.new (x := am.ownBlock) (fun k hk => by rw [cy] at hk; cases hk; exact Nat.le_refl _)
 have c1 := cx.weaken al.size
 refine qM am ?_
 refine qe (zA (zB (zB (zC ?_))))
 refine qD rfl (zK (k := 0) rfl dE rfl nz24 rfl) (qD rfl (zL (u := x) ag24 rfl (bp.pins _ _ _ (bl 0 _ rfl))) (qD rfl (zP dC (v := x) rfl hx) (qM (vJ 0) ?_)))
 refine qe (zA ?_)
 refine zW (yS (fun k en W => ∃ (bq : Nat → Value) (a : Nat) (at_ : Value) (ats : List Int) (t : Value) (y : Value) (aa : Value) (b : PSt) (o : Pin), en = (upd (upd (upd (upd (upd (upd bq 0 (vP p)) 4 vN) 5 at_) 13 x) 14 (vJ (fs.length : Int))) 15 (vJ (a : Int))) ∧ k = fs.length - a ∧ Ext (inP p L R B mm) G w o W ∧ Pin.le ay o ∧ (a ≤ fs.length) ∧ (LdOk fs q b a ats) ∧ (Own eInt 3 o W w.heap.size at_ (ats)) ∧ (Pk 48 3 o W p t y aa mm b) ∧ (PIn w ((inP p L R B mm)) p t y aa mm) ∧ (PoolOk b) ∧ (PX q b) ∧ (NP p t y aa mm at_.ownBlock)) _ ⟨_, 0, am, [], L, R, B, q, ay, (pS 15 (pS 14 (pS 13 (pS 5 (pS 4 (pU 0)))))), rfl, bp, Pin.le_refl _, Nat.zero_le _, LdOk.start, c1, cz, hpin, hok, (PX.refl _), c0⟩ ?_)
 rintro eh _ ei ⟨bq, a, at_, ats, t, y, aa, b, o, rfl, ej, ab, an, hk, hld, az, a0, a1, ac, a2, a3⟩
 have ek := a2.len
 have el := pkl b
 have em := pkb ac
 have hal := hld.len
 have hah := hld.hi
 have hfl := hf.len
 refine zB (zC ?_)
 refine qD rfl (yX rfl rfl) (qe (zA (zB ?_)))
 refine yC (p := ((a : Int) : Int) < (fs.length : Int)) rfl rfl (fun c2 => ?_) (fun c2 => ?_)
 have oo := xA hf.opts (show a < fs.length by omega)
 have hfe := hf.lens a (by omega)
 refine wp_skip (zA (zB ?_))
 refine zW (zB (zC ?_))
 refine qD rfl (zJ dC sz69 (v := x) rfl rfl hx (by omega) (by omega)) ?_
 obtain ⟨ad, ae, a4, a5, c3⟩ := vW (hx.at (z := (a : Int)) (by omega) (by omega)) (j := a) rfl
 have eo := a4.max
 have ep := a5.max
 refine qD rfl (c3 ag69 sz69 rfl (dX ab.pins (dW ak an))) (qI rfl (yM [vN, vN] zr69 rfl ab.pins (fun br eq bt c4 bu a6 => ?_)))
 have bv := ab.step bu a6
 have c5 := az.below a6
 have c6 := a0.below a6 bu
 have bw := zG (congrArg some bt) az.lt
 have bx := a0.new (x := (some br)) (fun k hk => by rw [(congrArg some bt)] at hk; cases hk; exact Nat.le_refl _)
 have bz : w.heap.size ≤ br := by have := ab.size; omega
 refine q0 rfl rfl rfl (o_stp (cs' := [ad, ae]) (us := [ad, ae]) (v := (.agg [ad, ae].toArray)) sz69 rfl rfl rfl (xG a4.one a5.one) bv.pins c4 (dZ rfl) rfl (fun ao c7 b0 a7 er => ?_))
 have c8 := bv.write b0 a7 ((zY bz))
 have c9 := c5.keptA a7 bw.symm
 have da := c6.kept a7 b0 bx
 obtain ⟨af, ag, b1, b2, b4⟩ := c7.shut c8 bz
 have db := c9.moreA ag b4 bw.symm
 have dc := da.more ag b4 bx
 refine qe (zA ?_)
 refine yZ (S := fun wz => Pins af wz) (last := 14) (by kernel_rfl) rfl ?_
 have ap := bdr ao
 have b5 := b1.pins.below ap
 have c := b1.step b5 ap
 have a8 := db.below ap
 have b6 := dc.below ap b5
 refine dM 0 at_ c.pins ?_
 refine dM 1 (vP p) c.pins ?_
 refine dT (i := 2) rfl rfl (by kernel_rfl) (fun _ _ => zK (k := 0) rfl dF rfl nz48 rfl) c.pins ?_
 refine dT (i := 3) rfl rfl (by kernel_rfl) (fun _ hS => zL (u := ad) ag48 rfl (hS _ _ _ (b2 0 _ rfl))) c.pins ?_
 refine dM 4 at_ c.pins ?_
 refine dT (i := 6) rfl rfl (by kernel_rfl) (fun _ _ => zK (k := 1) rfl dF rfl nz48 rfl) c.pins ?_
 refine dT (i := 7) rfl rfl (by kernel_rfl) (fun _ hS => zL (u := ae) ag48 rfl (hS _ _ _ (b2 1 _ rfl))) c.pins ?_
 refine dM 8 at_ c.pins ?_
 refine dO (i := 5) (zS (i := 5) rfl rfl rfl (zD rfl _) (zF (vs := [ad, at_]) Tryz.func64 nm64 rfl rfl rfl ?_))
 refine dY (rT (Gadd.pins c.pins at_) ((a4.mono (dW (dW ak an) ag)).mono (Gadd.le _ _ _)) a8.read (by omega) (fun i hi => by have h7 := oo.1 _ (zZ (d := (0 : Int)) hi); omega)) ?_
 rintro _ b7 ⟨a9, es, rfl, de, b8⟩
 refine ⟨_, rfl, ?_⟩
 have ah := deep_back c.pins b8
 have ba := de.anti flat_int (dW (Gadd.le af ao.drew at_) b8.le)
 have ai := c.step ah.pins ah.below
 have bb := a8.below ah.below
 have b9 := b6.below ah.below ah.pins
 have df := yB ba.lt a8.lt
 have dg := b6.new (x := a9.ownBlock) (fun k hk => (ba.lt k hk).1)
 have ca := ba.weaken c.size
 have et : (atL ats ((fs.getD a default).l)).length = ((fs.getD a default).l).length := xJ
 refine ⟨fun _ => ai.pins, ?_⟩
 refine dO (i := 9) (zS (i := 9) rfl rfl rfl (zD rfl _) (zF (vs := [ae, at_]) Tryz.func64 nm64 rfl rfl rfl ?_))
 refine dY (rT (Gadd.pins ai.pins at_) ((a5.mono (dW (dW ak an) ag)).mono (Gadd.le _ _ _)) bb.read (by omega) (fun i hi => by have h7 := oo.2 _ (zZ (d := (0 : Int)) hi); omega)) ?_
 rintro _ dh ⟨bc, eu, rfl, di, cb⟩
 refine ⟨_, rfl, ?_⟩
 have s := deep_back ai.pins cb
 have aq := di.anti flat_int (dW (Gadd.le af b7 at_) cb.le)
 have cc := ai.step s.pins s.below
 have dj := bb.below s.below
 have dk := ca.below s.below
 have dl := b9.below s.below s.pins
 have dm := yB aq.lt bb.lt
 have dn := yB aq.lt ca.lt
 have dp := b9.new (x := bc.ownBlock) (fun k hk => (aq.lt k hk).1)
 have dq := aq.weaken ai.size
 have ev : (atL ats ((fs.getD a default).r)).length = ((fs.getD a default).r).length := xJ
 refine ⟨fun _ => cc.pins, ?_⟩
 obtain ⟨ew, f, dr, ds, bd⟩ := dk.sealed cc
 have dt := dj.moreO f bd df.symm
 have du := dq.moreO f bd dn
 have dv := dl.moreO f bd dg
 obtain ⟨ex, g, be, dw, cd⟩ := du.sealed dr
 have ce := dt.moreO g cd dm.symm
 have dx := dv.moreO g cd dp
 refine dO (i := 10) (zS (i := 10) rfl rfl rfl (zD rfl _) (zF (vs := [(vP p), a9, bc]) Tryz.func63 nm63 rfl rfl rfl ?_))
 refine dY (jG be.pins dx ac (ds.mono g) dw (by omega) ⟨by rw [xJ]; omega, by rw [xJ]; omega⟩ (hld.opt oo.1) (hld.opt oo.2)) ?_
 rintro _ ey ⟨aj, dy, dz, d0, h, cf, rfl, d1, au, bf, cg, m, d2, d3, d4, ez⟩
 refine ⟨_, rfl, ?_⟩
 have av := be.trans m a1
 have d5 := ce.extS m a3
 have ch := NP.call a3 cg (qK ce)
 have d6 := PIn.call a1 cg be.size
 have e0 := bf.len
 have e1 := pkl h
 have e2 := pkb au
 refine ⟨fun _ => (dX av.pins (dW (dW f g) m.le)), ?_⟩
 refine dO (i := 11) (zS (i := 11) rfl rfl rfl (zD rfl _) (yG (E := eInt) (e := 3) [(vJ aj)] [aj] dB sz3 zr3 (by exact xK (by rfl)) (yO (by rfl)) rfl rfl rfl rfl (by decide) av.pins (fun ci d7 d8 cj bg e3 => ?_)))
 have aw := av.step cj bg
 have ck := d5.below bg
 have cl := d1.below bg cj
 have d9 := d8.weaken av.size
 refine ⟨fun _ => (dX aw.pins (dW (dW f g) m.le)), ?_⟩
 refine dO (i := 12) (zS (i := 12) rfl rfl rfl (zD rfl _) (oA (E := eInt) (v := at_) (u := ci) 8 dB ap3 (by decide) rfl rfl aw.pins ck d9.src (aw.size) (fun cm e4 ea cn co eb => ?_)))
 have bh := aw.write cn co ((yH ck))
 have ec := cl.kept co cn ch
 have ed := jP ch cl eb
 have e5 := la1 ats aj
 refine ⟨fun _ => (dX bh.pins (dW (dW f g) m.le)), ?_⟩
 refine dM 13 cm (dX bh.pins (dW (dW f g) m.le)) ?_
 refine yP (by kernel_rfl) (yA (zA (zC ?_)))
 refine qD rfl (yJ rfl rfl (by omega)) (qM (vJ ((a : Int) + 1)) ?_)
 refine qe (yD (⟨_, ?_, _, rfl, _, a + 1, cm, ats ++ ([aj]), dy, dz, d0, h, cf, (pS 15 (pS 14 (pS 13 (pS 5 (pS 4 (pU 0)))))), rfl, bh, (dW (dW (dW (dW an ag) f) g) m.le), (by omega), (hld.step hf (by omega) ac au bf d2 d3 d4), ea, ec, d6, au, (PX.trans a2 bf), ed⟩))
 omega
 refine wp_exit (zV (yK (yE (zA (zB (zC ?_))))))
 refine qM at_ ?_
 refine qM at_ ?_
 refine qe (zA ?_)
 refine wp_ret (zO (zQ (v := at_) rfl rfl rfl ?_))
 have hkf : a = fs.length := by omega
 rw [hkf] at hld
 exact ⟨at_, ats, t, y, aa, b, o, rfl, a0, ac, a2, PIn.lo a1 rfl, ab, az, a3, hld⟩
theorem jX {w : World} (hP : Pins G w) (hpk : Pk 48 3 G w p L R B mm q) (hok : PoolOk q) (hx : RSl eNode G x fs) (hf : FormOk fs) (hl : q.ns.length + fs.length ≤ 1048576) (hf1 : 1 ≤ fs.length) :
  Calls Tryz.prog 18 [(vP p), (.agg [x].toArray)].toArray w fun e w' => ∃ (z : Int) (L' R' B' : Value) (q' : PSt) (G' : Pin), e = .returned (vJ z) ∧ Pk 48 3 G' w' p L' R' B' mm q' ∧ PoolOk q' ∧ PX q q' ∧ PLo w p L R B mm L' R' B' ∧ Ext (inP p L R B mm) G w G' w' ∧ PlaceOk q' z ∧ pd q' z = gOf fs ∧ q'.ns.length ≤ q.ns.length + fs.length := by
 refine zU (n := 15) Tryz.func18 Tryz.ntmps18 rfl rfl ?_
 have d := exr (inP p L R B mm) hP
 have hpin : PIn w (inP p L R B mm) p L R B mm := PIn.self
 have av := pkl q
 have aw := pkb hok
 have hfl := hf.len
 refine zB (zC ?_)
 refine qI rfl (xH [x] (v := (.agg [x].toArray)) rfl rfl d.pins (fun i w4 aa ab m o => ?_))
 have ac := d.step m o
 have ad := hpk.below o m
 have ae := hpk.new (x := (some i)) (fun k hk => by rw [(congrArg some aa)] at hk; cases hk; exact Nat.le_refl _)
 have af : w.heap.size ≤ i := by have := d.size; omega
 obtain ⟨ay, s, c, ag, ah⟩ := ab.shut ac af
 have ai := ad.more s ah ae
 refine qM (vJ 0) ?_
 refine qe (zA (zB (zC ?_)))
 refine qM (vP p) ?_
 refine qD rfl (zT (cs := [x]) ag26 sz26 rfl (fun j u hj => c.pins _ _ _ (ag _ _ (by simpa using hj)))) (qI rfl (zF (vs := [(vP p), (.agg [x].toArray)]) Tryz.func41 nm41 rfl rfl rfl ?_))
 refine dY (load_spec c.pins ai hok (hx.mono s) hf hl) ?_
 rintro _ az ⟨b, ats, aj, ak, al, a, am, rfl, an, f, t, ao, ap, aq, a0, g⟩
 refine ⟨_, rfl, ?_⟩
 have y := c.trans ap hpin
 have au := PIn.call hpin ao c.size
 have a1 := t.len
 have a2 := pkl a
 have a3 := pkb f
 have h := aq.weaken c.size
 have a4 := g.len
 refine qM b ?_
 refine qe (zA (zB (zC ?_)))
 refine qM b ?_
 refine qM b ?_
 refine qD rfl (zP dB (v := b) rfl h.read) (qD rfl (qC rfl rfl (by omega)) (qD rfl (zJ dB sz3 (v := b) rfl rfl h.read (by omega) (by omega)) (qD rfl (zI (r := ats.getD ((ats.length : Int) - 1).toNat 0) rfl ag3 (z := ((ats.length : Int) - 1)) rfl h.read (Gadd.pins y.pins b) (by omega) (by omega)) (qM (vJ (ats.getD ((ats.length : Int) - 1).toNat 0)) ?_))))
 refine qe (zA ?_)
 refine wp_ret (zO (zQ (v := (vJ (ats.getD ((ats.length : Int) - 1).toNat 0))) rfl rfl rfl ?_))
 have hrt := g.root hf1
 rw [show fs.length - 1 = ((ats.length : Int) - 1).toNat by omega] at hrt
 exact ⟨_, aj, ak, al, a, am, rfl, an, f, t, PIn.lo au rfl, y, hrt.1, hrt.2, g.hi⟩
def GeP (m : Nat) (p : Nat) (L R B : Value) (mm : PM) : Prop := ∀ {w : World} {G : Pin} {q : PSt} {a b : Int} (_ : Pins G w) (_ : Pk 48 3 G w p L R B mm q) (_ : PoolOk q) (_ : PlaceOk q a) (_ : PlaceOk q b), a.toNat + b.toNat < m →
  Calls Tryz.prog 19 [(.pointer (some ⟨p, 0, none⟩)), (.int .i64 a), (.int .i64 b)].toArray w fun e w' => ∃ (q' : PSt) (G' : Pin), e = .returned (.bool (geB q.ns a b)) ∧ Pk 48 3 G' w' p L R B mm q' ∧ PoolOk q' ∧ PX q q' ∧ (q'.ns = q.ns ∧ q'.bs = q.bs) ∧ Ext (inO (some mm.o)) G w G' w'
theorem ge_step {m : Nat} {w : World} (hP : Pins G w) (hpk : Pk 48 3 G w p L R B mm q) (hok : PoolOk q) (ha : PlaceOk q a) (hb : PlaceOk q b) (ih : GeP m p L R B mm) (hm : a.toNat + b.toNat < m + 1) :
  Calls Tryz.prog 19 [(vP p), (vJ a), (vJ b)].toArray w fun e w' => ∃ (q' : PSt) (G' : Pin), e = .returned (.bool (geB q.ns a b)) ∧ Pk 48 3 G' w' p L R B mm q' ∧ PoolOk q' ∧ PX q q' ∧ (q'.ns = q.ns ∧ q'.bs = q.bs) ∧ Ext (inO (some mm.o)) G w G' w' := by
 refine zU (n := 74) Tryz.func19 Tryz.ntmps19 rfl rfl ?_
 have a3 := exr (inO (some mm.o)) hP
 have hpin : PIn w (inP p L R B mm) p L R B mm := PIn.self
 have dj := pkl q
 have dk := pkb hok
 have dl := ha.1
 have dm := ha.2
 have dn := hb.1
 have dp := hb.2
 refine zB (zC ?_)
 refine qM (.bool false) ?_
 refine qe (zA (zB (zB (zC ?_))))
 refine qM (vJ a) ?_
 refine qM (vJ b) ?_
 refine qD rfl (xU rfl rfl) (qe (zA ?_))
 refine yC (p := (a : Int) = b) rfl rfl (fun h3 => ?_) (fun h3 => ?_)
 refine zB (zC ?_)
 refine qM (.bool true) ?_
 refine qe (zA ?_)
 exact wp_ret (zO (zQ (v := (.bool true)) rfl rfl rfl (⟨q, _, congrArg (fun z => Ending.returned (Value.bool z)) (by rw [h3]; exact geB_refl.symm), hpk, hok, (PX.refl _), ⟨rfl, rfl⟩, a3⟩)))
 refine wp_skip (zA (zB (zC ?_)))
 refine qM (vJ a) ?_
 refine qM (vJ b) ?_
 refine qD rfl (r_buildA (m := 1) [(vJ 0), (vJ 0)] [(vJ a), (vJ b)] [(0, (vJ a), [(vJ a)]), (1, (vJ b), [(vJ b)])] Tryz.underlying81 zr81 rfl sz3 rfl (List.forall_mem_cons.2 ⟨rfl, (List.forall_mem_cons.2 ⟨rfl, (fun _ h => by cases h)⟩)⟩) rfl) (qI rfl (yM [(vJ 0), (vJ 0)] zr81 rfl a3.pins (fun b4 w5 cz c0 b7 b8 => ?_)))
 have b9 := a3.step b7 b8
 have c1 := hpk.below b8 b7
 have ca := hpk.new (x := (some b4)) (fun k hk => by rw [(congrArg some cz)] at hk; cases hk; exact Nat.le_refl _)
 have cb : w.heap.size ≤ b4 := by have := a3.size; omega
 refine q0 rfl rfl rfl (o_stp (cs' := [(vJ a), (vJ b)]) (us := [(vJ a), (vJ b)]) (v := (.agg [(vJ a), (vJ b)].toArray)) sz81 rfl rfl rfl (xG (by rfl) (by rfl)) b9.pins c0 (dZ rfl) rfl (fun bh c2 cc cd dr => ?_))
 have c3 := b9.write cc cd ((zY cb))
 have c4 := c1.kept cd cc ca
 obtain ⟨bi, c5, ce, a5, c6⟩ := c2.shut c3 cb
 have c7 := c4.more c5 c6 ca
 refine qe (zA (zB (zB ?_)))
 refine yZ (S := fun wz => BxR wz p [L, R, B, (.map (some mm.f)), (.map (some mm.o)), (.map (some mm.c)), (.map (some mm.s)), (.map (some mm.n))] ∧ Pins bi wz) (last := 11) (by kernel_rfl) rfl ?_
 have bj := bdr bh
 have cf := ce.pins.below bj
 have ac := ce.step cf bj
 have aa := c7.below bj cf
 refine dT (i := 0) rfl rfl (by kernel_rfl) (fun _ _ => zR (v := (vP p)) rfl) ⟨aa.bx.reads, ac.pins⟩ ?_
 refine dT (i := 1) rfl rfl (by kernel_rfl) (fun _ _ => yU rfl) ⟨aa.bx.reads, ac.pins⟩ ?_
 refine dT (i := 2) rfl rfl (by kernel_rfl) (fun _ _ => zK (k := 4) rfl dH rfl nz51 rfl) ⟨aa.bx.reads, ac.pins⟩ ?_
 refine dT (i := 3) rfl rfl (by kernel_rfl) (fun _ hS => zL (u := (.map (some mm.o))) ag51 rfl (hS.1 4 _ rfl)) ⟨aa.bx.reads, ac.pins⟩ ?_
 refine dT (i := 4) rfl rfl (by kernel_rfl) (fun _ hS => zT (cs := [(vJ a), (vJ b)]) ag81 sz81 rfl (fun j u hj => hS.2 _ _ _ (a5 _ _ (by simpa using hj)))) ⟨aa.bx.reads, ac.pins⟩ ?_
 refine dO (i := 5) (zS (i := 5) rfl rfl rfl (zD rfl _) (EO.run (sI (k := ((a, b) : Int × Int)) (mD Tryz.underlying81 dJ sz3) Tryz.underlying51 zr4 aa.fo rfl rfl) ?_))
 refine ⟨fun _ => ⟨aa.bx.reads, ac.pins⟩, ?_⟩
 refine dT (i := 6) rfl rfl (by kernel_rfl) (fun _ _ => zR (v := (.tuple #[(.bool ((Go.GL.look q.om ((a, b) : Int × Int)).getD false)), (.bool ((Go.GL.look q.om ((a, b) : Int × Int)).isSome))])) rfl) ⟨aa.bx.reads, ac.pins⟩ ?_
 refine dT (i := 7) rfl rfl (by kernel_rfl) (fun _ _ => zX (v := (.bool ((Go.GL.look q.om ((a, b) : Int × Int)).getD false))) rfl rfl) ⟨aa.bx.reads, ac.pins⟩ ?_
 refine dT (i := 8) rfl rfl (by kernel_rfl) (fun _ _ => zX (v := (.bool ((Go.GL.look q.om ((a, b) : Int × Int)).isSome))) rfl rfl) ⟨aa.bx.reads, ac.pins⟩ ?_
 refine dT (i := 9) rfl rfl (by kernel_rfl) (fun _ _ => qU (v := (.bool ((Go.GL.look q.om ((a, b) : Int × Int)).getD false))) rfl) ⟨aa.bx.reads, ac.pins⟩ ?_
 refine dT (i := 10) rfl rfl (by kernel_rfl) (fun _ _ => qU (v := (.bool ((Go.GL.look q.om ((a, b) : Int × Int)).isSome))) rfl) ⟨aa.bx.reads, ac.pins⟩ ?_
 refine yP (by kernel_rfl) (zA (zB (zC ?_)))
 refine qM (.bool ((Go.GL.look q.om ((a, b) : Int × Int)).isSome)) ?_
 refine qe (zA ?_)
 refine c_if rfl rfl (fun cg => ?_) (fun cg => ?_)
 refine zB (zC ?_)
 refine qM (.bool ((Go.GL.look q.om ((a, b) : Int × Int)).getD false)) ?_
 refine qM (.bool ((Go.GL.look q.om ((a, b) : Int × Int)).getD false)) ?_
 refine qe (zA ?_)
 refine wp_ret (zO (zQ (v := (.bool ((Go.GL.look q.om ((a, b) : Int × Int)).getD false))) rfl rfl rfl ?_))
 obtain ⟨z, hz⟩ := Option.isSome_iff_exists.1 cg
 exact ⟨q, _, congrArg (fun z => Ending.returned (Value.bool z)) (by rw [hz]; exact (hok.ord _ _ _ hz).2.2), aa, hok, (PX.refl _), ⟨rfl, rfl⟩, ac⟩
 refine wp_skip (zA (zB (zC ?_)))
 refine qM (.bool true) ?_
 refine qe (zA (zB (zB (zC ?_))))
 refine qM (vP p) ?_
 refine qD rfl (yU rfl) (qD rfl (zK (k := 1) rfl dH rfl nz49 rfl) (qD rfl (zL (u := R) ag49 rfl (aa.bx.cell (o := 1) rfl)) (qM (vJ a) ?_)))
 refine qD rfl (zJ dK sz48 (v := R) rfl rfl aa.rr.read (by omega) (by omega)) ?_
 obtain ⟨bk, av, c8⟩ := vM (aa.rr.at (z := a) (by omega) (by omega)) (j := (a).toNat) rfl
 rw [jL] at av
 have ds := av.max
 refine qD rfl (c8 ag48 rfl (Gadd.pins ac.pins R)) (qD rfl (zP dB (v := bk) rfl av) (qM (vJ 0) ?_))
 refine qe (zA ?_)
 refine zW ?_
 have a6 : (q.ns.getD (a).toNat default).r = (q.ns.getD (a).toNat default).r := rfl
 refine yS (fun k en W => ∃ (aw : Nat → Value) (i : Nat) (g : PSt) (GLr : Pin), en = (upd (upd (upd (upd (upd (upd (upd (upd (upd aw 0 (vP p)) 1 (vJ a)) 2 (vJ b)) 6 (.bool false)) 7 (vP b4)) 10 (.bool true)) 38 bk) 39 (vJ (((q.ns.getD (a).toNat default).r).length : Int))) 40 (vJ (i : Int))) ∧ k = (q.ns.getD (a).toNat default).r.length - i ∧ Ext (inO (some mm.o)) G w GLr W ∧ Pin.le bi GLr ∧ (i ≤ (q.ns.getD (a).toNat default).r.length) ∧ (∀ x, x < i → geB q.ns b ((q.ns.getD (a).toNat default).r.getD x 0) = false) ∧ (Pk 48 3 GLr W p L R B mm g) ∧ (PoolOk g) ∧ (PX q g) ∧ (g.ns = q.ns ∧ g.bs = q.bs)) _ ⟨_, 0, q, bi, (pS 40 (pS 39 (pS 38 (pS 10 (pS 7 (pS 6 (pS 2 (pS 1 (pU 0))))))))), rfl, ac, Pin.le_refl _, Nat.zero_le _, (fun q hq => absurd hq (Nat.not_lt_zero q)), aa, hok, (PX.refl _), ⟨rfl, rfl⟩⟩ ?_
 rintro dt _ du ⟨aw, i, g, GLr, rfl, dv, ax, ay, hji, hpr, az, a7, a0, t⟩
 have dw := a0.len
 have dx := pkl g
 have dy := pkb a7
 have hlnr := congrArg List.length a6
 refine zB (zC ?_)
 refine qD rfl (yX rfl rfl) (qe (zA (zB ?_)))
 refine yC (p := ((i : Int) : Int) < (((q.ns.getD (a).toNat default).r).length : Int)) rfl rfl (fun c9 => ?_) (fun c9 => ?_)
 have hki := (xA hok.ar.opts (show (a).toNat < q.ns.length by omega)).2 _ (zZ (d := (0 : Int)) (show i < (q.ns.getD (a).toNat default).r.length by omega))
 rw [← a6] at hki
 refine wp_skip (zA (zB ?_))
 refine zW (zB (zC ?_))
 refine qD rfl (zJ dB sz3 (v := bk) rfl rfl av (by omega) (by omega)) (qD rfl (zI (r := ((q.ns.getD (a).toNat default).r).getD i 0) rfl ag3 (z := (i : Int)) rfl av (dX ax.pins ay) (by omega) (by omega)) (qM (vJ (((q.ns.getD (a).toNat default).r).getD i 0)) ?_))
 refine qe (zA (zB (zC ?_)))
 refine qM (vP p) ?_
 refine qM (vJ b) ?_
 refine qM (vJ (((q.ns.getD (a).toNat default).r).getD i 0)) ?_
 refine qI rfl (zF (vs := [(vP p), (vJ b), (vJ (((q.ns.getD (a).toNat default).r).getD i 0))]) Tryz.func19 nm19 rfl rfl rfl ?_)
 refine dY (ih ax.pins az a7 ⟨by omega, by omega⟩ ⟨by omega, by omega⟩ (by omega)) ?_
 rintro _ bl ⟨ad, ch, rfl, ci, a8, bm, aq, bn⟩
 refine ⟨_, rfl, ?_⟩
 have bo := ax.trans bn (fun i hi => yV i hi)
 have dz := bm.len
 have d0 := pkl ad
 have d1 := pkb a8
 have d2 := congrArg List.length aq.1
 refine qe (zA ?_)
 refine c_if rfl rfl (fun bp => ?_) (fun bp => ?_)
 refine zB (zC ?_)
 refine qM (.bool false) ?_
 refine qe (zA ?_)
 refine wp_exit (mY rfl (zV (yK (yE (zA (zB (zB (zC ?_))))))))
 refine qM (.bool false) ?_
 refine qe (zA ?_)
 refine qP rfl rfl (wp_skip (zA (zB ?_)))
 refine yZ (S := fun wz => BxR wz p [L, R, B, (.map (some mm.f)), (.map (some mm.o)), (.map (some mm.c)), (.map (some mm.s)), (.map (some mm.n))] ∧ Pins ch wz) (last := 6) (by kernel_rfl) rfl ?_
 have bq := bdr bl
 have cj := bo.pins.below bq
 have aj := bo.step cj bq
 have ak := ci.below bq cj
 refine dT (i := 0) rfl rfl (by kernel_rfl) (fun _ _ => zR (v := (vP p)) rfl) ⟨ak.bx.reads, aj.pins⟩ ?_
 refine dT (i := 1) rfl rfl (by kernel_rfl) (fun _ _ => yU rfl) ⟨ak.bx.reads, aj.pins⟩ ?_
 refine dT (i := 2) rfl rfl (by kernel_rfl) (fun _ _ => zK (k := 4) rfl dH rfl nz51 rfl) ⟨ak.bx.reads, aj.pins⟩ ?_
 refine dT (i := 3) rfl rfl (by kernel_rfl) (fun _ hS => zL (u := (.map (some mm.o))) ag51 rfl (hS.1 4 _ rfl)) ⟨ak.bx.reads, aj.pins⟩ ?_
 refine dT (i := 4) rfl rfl (by kernel_rfl) (fun _ hS => zT (cs := [(vJ a), (vJ b)]) ag81 sz81 rfl (fun j u hj => (dX hS.2 (dW ay bn.le)) _ _ _ (a5 _ _ (by simpa using hj)))) ⟨ak.bx.reads, aj.pins⟩ ?_
 refine dT (i := 5) rfl rfl (by kernel_rfl) (fun _ _ => zR (v := (.bool false)) rfl) ⟨ak.bx.reads, aj.pins⟩ ?_
 refine dO (i := 6) (jB (i := 6) rfl rfl rfl (zD rfl _) (qG (val := (fun v : Bool => Value.bool v)) (k := ((a, b) : Int × Int)) (v := false) (mD Tryz.underlying81 dJ sz3) Tryz.underlying51 rfl rfl rfl aj.pins ak.fo (fun d3 da ck cl d4 => ?_)))
 have db := aj.trans (Ext.one ck cl) (fun i hi => yV i hi)
 have cm := ak.setO (Ext.one ck cl) da
 have hgv : geB q.ns a b = false := mL hok.ar.opts ha (i := i) (by omega) (by rw [← a6, ← xQ t]; exact bp)
 have a9 := PoolOk.setO a8 (ha.same (zM t aq)) (hb.same (zM t aq)) (setO_ok (zM t aq) hgv)
 obtain ⟨af, br⟩ : ∃ q, q = ({ ad with om := putE ad.om ((a, b) : Int × Int) false } : PSt) := ⟨_, rfl⟩
 rw [← br] at cm a9
 have hq83n : af.ns = ad.ns ∧ af.bs = ad.bs := by rw [br]; exact ⟨rfl, rfl⟩
 have hq83x : PX ad af := by rw [br]; exact ⟨Nat.le_refl _, fun _ _ => rfl, fun _ h => h⟩
 have d5 := pkl af
 have d6 := pkb a9
 have d7 := hq83x.len
 refine ⟨fun h => absurd rfl h, ?_⟩
 refine yP (by kernel_rfl) (zA (zB (zC ?_)))
 refine qM (.bool false) ?_
 refine qM (.bool false) ?_
 refine qe (zA ?_)
 exact wp_ret (zO (zQ (v := (.bool false)) rfl rfl rfl (⟨af, _, congrArg (fun z => Ending.returned (Value.bool z)) (hgv.symm), cm, a9, (PX.trans (PX.trans a0 bm) hq83x), (zM (zM t aq) hq83n), db⟩)))
 refine wp_skip (yA (zA (zC ?_)))
 refine qD rfl (yJ rfl rfl (by omega)) (qM (vJ ((i : Int) + 1)) ?_)
 refine qe (yD (⟨_, ?_, _, rfl, _, i + 1, ad, ch, (pS 40 (pS 39 (pS 38 (pS 10 (pS 7 (pS 6 (pS 2 (pS 1 (pU 0))))))))), rfl, bo, (dW ay bn.le), (by omega), (fun x h2 => if h3 : x = i then h3 ▸ (by rw [← a6, ← xQ t]; exact bp) else hpr x (by omega)), ci, a8, (PX.trans a0 bm), (zM t aq)⟩))
 omega
 refine wp_exit (zV (yK (yE (zA (zB (zB (zC ?_)))))))
 refine qM (.bool true) ?_
 refine qe (zA ?_)
 refine jS rfl rfl (zB (zC ?_))
 refine qM (vP p) ?_
 refine qD rfl (yU rfl) (qD rfl (zK (k := 0) rfl dH rfl nz49 rfl) (qD rfl (zL (u := L) ag49 rfl (az.bx.cell (o := 0) rfl)) (qM (vJ b) ?_)))
 refine qD rfl (zJ dK sz48 (v := L) rfl rfl az.ol.read (by omega) (by omega)) ?_
 obtain ⟨bt, a1, dd⟩ := vM (az.ol.at (z := b) (by omega) (by omega)) (j := (b).toNat) rfl
 rw [jM] at a1
 have d8 := a1.max
 refine qD rfl (dd ag48 rfl (Gadd.pins ax.pins L)) (qD rfl (zP dB (v := bt) rfl a1) (qM (vJ 0) ?_))
 refine qe (zA ?_)
 refine zW ?_
 have ba : (g.ns.getD (b).toNat default).l = (q.ns.getD (b).toNat default).l := by rw [t.1]
 refine yS (fun k en W => ∃ (aw : Nat → Value) (i2 : Nat) (y : PSt) (GLl : Pin), en = (upd (upd (upd (upd (upd (upd (upd (upd aw 0 (vP p)) 1 (vJ a)) 6 (.bool false)) 7 (vP b4)) 10 (.bool true)) 56 bt) 57 (vJ (((g.ns.getD (b).toNat default).l).length : Int))) 58 (vJ (i2 : Int))) ∧ k = (q.ns.getD (b).toNat default).l.length - i2 ∧ Ext (inO (some mm.o)) G w GLl W ∧ Pin.le GLr GLl ∧ (i2 ≤ (q.ns.getD (b).toNat default).l.length) ∧ (∀ x, x < i2 → geB q.ns ((q.ns.getD (b).toNat default).l.getD x 0) a = false) ∧ (Pk 48 3 GLl W p L R B mm y) ∧ (PoolOk y) ∧ (PX g y) ∧ (y.ns = g.ns ∧ y.bs = g.bs)) _ ⟨_, 0, g, GLr, (pS 58 (pS 57 (pS 56 (pS 10 (pS 7 (pS 6 (pS 1 (pU 0)))))))), rfl, ax, Pin.le_refl _, Nat.zero_le _, (fun q hq => absurd hq (Nat.not_lt_zero q)), az, a7, (PX.refl _), ⟨rfl, rfl⟩⟩ ?_
 rintro d9 _ bu ⟨aw, i2, y, GLl, rfl, ea, a2, bb, eb, hpl, cn, bc, bd, ag⟩
 have ec := bd.len
 have ed := pkl y
 have ee := pkb bc
 have hlnl := congrArg List.length ba
 refine zB (zC ?_)
 refine qD rfl (yX rfl rfl) (qe (zA (zB ?_)))
 refine yC (p := ((i2 : Int) : Int) < (((g.ns.getD (b).toNat default).l).length : Int)) rfl rfl (fun de => ?_) (fun de => ?_)
 have hki := (xA hok.ar.opts (show (b).toNat < q.ns.length by omega)).1 _ (zZ (d := (0 : Int)) (show i2 < (q.ns.getD (b).toNat default).l.length by omega))
 rw [← ba] at hki
 refine wp_skip (zA (zB ?_))
 refine zW (zB (zC ?_))
 refine qD rfl (zJ dB sz3 (v := bt) rfl rfl a1 (by omega) (by omega)) (qD rfl (zI (r := ((g.ns.getD (b).toNat default).l).getD i2 0) rfl ag3 (z := (i2 : Int)) rfl a1 (dX a2.pins bb) (by omega) (by omega)) (qM (vJ (((g.ns.getD (b).toNat default).l).getD i2 0)) ?_))
 refine qe (zA (zB (zC ?_)))
 refine qM (vP p) ?_
 refine qM (vJ (((g.ns.getD (b).toNat default).l).getD i2 0)) ?_
 refine qM (vJ a) ?_
 refine qI rfl (zF (vs := [(vP p), (vJ (((g.ns.getD (b).toNat default).l).getD i2 0)), (vJ a)]) Tryz.func19 nm19 rfl rfl rfl ?_)
 refine dY (ih a2.pins cn bc ⟨by omega, by omega⟩ ⟨by omega, by omega⟩ (by omega)) ?_
 rintro _ bv ⟨ae, co, rfl, cp, be, bw, au, bz⟩
 refine ⟨_, rfl, ?_⟩
 have b0 := a2.trans bz (fun i hi => yV i hi)
 have ef := bw.len
 have eg := pkl ae
 have eh := pkb be
 have ei := congrArg List.length au.1
 refine qe (zA ?_)
 refine c_if rfl rfl (fun b1 => ?_) (fun b1 => ?_)
 refine zB (zC ?_)
 refine qM (.bool false) ?_
 refine qe (zA ?_)
 refine wp_exit (mY rfl (zV (yK (yE (zA (zB ?_))))))
 refine yZ (S := fun wz => BxR wz p [L, R, B, (.map (some mm.f)), (.map (some mm.o)), (.map (some mm.c)), (.map (some mm.s)), (.map (some mm.n))] ∧ Pins co wz) (last := 6) (by kernel_rfl) rfl ?_
 have b2 := bdr bv
 have cq := b0.pins.below b2
 have al := b0.step cq b2
 have am := cp.below b2 cq
 refine dT (i := 0) rfl rfl (by kernel_rfl) (fun _ _ => zR (v := (vP p)) rfl) ⟨am.bx.reads, al.pins⟩ ?_
 refine dT (i := 1) rfl rfl (by kernel_rfl) (fun _ _ => yU rfl) ⟨am.bx.reads, al.pins⟩ ?_
 refine dT (i := 2) rfl rfl (by kernel_rfl) (fun _ _ => zK (k := 4) rfl dH rfl nz51 rfl) ⟨am.bx.reads, al.pins⟩ ?_
 refine dT (i := 3) rfl rfl (by kernel_rfl) (fun _ hS => zL (u := (.map (some mm.o))) ag51 rfl (hS.1 4 _ rfl)) ⟨am.bx.reads, al.pins⟩ ?_
 refine dT (i := 4) rfl rfl (by kernel_rfl) (fun _ hS => zT (cs := [(vJ a), (vJ b)]) ag81 sz81 rfl (fun j u hj => (dX hS.2 (dW (dW ay bb) bz.le)) _ _ _ (a5 _ _ (by simpa using hj)))) ⟨am.bx.reads, al.pins⟩ ?_
 refine dT (i := 5) rfl rfl (by kernel_rfl) (fun _ _ => zR (v := (.bool false)) rfl) ⟨am.bx.reads, al.pins⟩ ?_
 refine dO (i := 6) (jB (i := 6) rfl rfl rfl (zD rfl _) (qG (val := (fun v : Bool => Value.bool v)) (k := ((a, b) : Int × Int)) (v := false) (mD Tryz.underlying81 dJ sz3) Tryz.underlying51 rfl rfl rfl al.pins am.fo (fun ej df cr ct ek => ?_)))
 have dg := al.trans (Ext.one cr ct) (fun i hi => yV i hi)
 have cu := am.setO (Ext.one cr ct) df
 have hgv : geB q.ns a b = false := pD hok.ar.opts hb (i := i2) (by omega) (by rw [← ba, ← xQ (zM t ag)]; exact b1)
 have bf := PoolOk.setO be (ha.same (zM (zM t ag) au)) (hb.same (zM (zM t ag) au)) (setO_ok (zM (zM t ag) au) hgv)
 obtain ⟨ah, b3⟩ : ∃ q, q = ({ ae with om := putE ae.om ((a, b) : Int × Int) false } : PSt) := ⟨_, rfl⟩
 rw [← b3] at cu bf
 have hq135n : ah.ns = ae.ns ∧ ah.bs = ae.bs := by rw [b3]; exact ⟨rfl, rfl⟩
 have hq135x : PX ae ah := by rw [b3]; exact ⟨Nat.le_refl _, fun _ _ => rfl, fun _ h => h⟩
 have el := pkl ah
 have em := pkb bf
 have eo := hq135x.len
 refine ⟨fun h => absurd rfl h, ?_⟩
 refine yP (by kernel_rfl) (zA (zB (zC ?_)))
 refine qM (.bool false) ?_
 refine qM (.bool false) ?_
 refine qe (zA ?_)
 exact wp_ret (zO (zQ (v := (.bool false)) rfl rfl rfl (⟨ah, _, congrArg (fun z => Ending.returned (Value.bool z)) (hgv.symm), cu, bf, (PX.trans (PX.trans (PX.trans a0 bd) bw) hq135x), (zM (zM (zM t ag) au) hq135n), dg⟩)))
 refine wp_skip (yA (zA (zC ?_)))
 refine qD rfl (yJ rfl rfl (by omega)) (qM (vJ ((i2 : Int) + 1)) ?_)
 refine qe (yD (⟨_, ?_, _, rfl, _, i2 + 1, ae, co, (pS 58 (pS 57 (pS 56 (pS 10 (pS 7 (pS 6 (pS 1 (pU 0)))))))), rfl, b0, (dW bb bz.le), (by omega), (fun x h2 => if h3 : x = i2 then h3 ▸ (by rw [← ba, ← xQ (zM t ag)]; exact b1) else hpl x (by omega)), cp, be, (PX.trans bd bw), (zM ag au)⟩))
 omega
 refine wp_exit (zV (yK (yE (zA (zB ?_)))))
 refine yZ (S := fun wz => BxR wz p [L, R, B, (.map (some mm.f)), (.map (some mm.o)), (.map (some mm.c)), (.map (some mm.s)), (.map (some mm.n))] ∧ Pins GLl wz) (last := 6) (by kernel_rfl) rfl ?_
 have b5 := bdr bu
 have cv := a2.pins.below b5
 have an := a2.step cv b5
 have ao := cn.below b5 cv
 refine dT (i := 0) rfl rfl (by kernel_rfl) (fun _ _ => zR (v := (vP p)) rfl) ⟨ao.bx.reads, an.pins⟩ ?_
 refine dT (i := 1) rfl rfl (by kernel_rfl) (fun _ _ => yU rfl) ⟨ao.bx.reads, an.pins⟩ ?_
 refine dT (i := 2) rfl rfl (by kernel_rfl) (fun _ _ => zK (k := 4) rfl dH rfl nz51 rfl) ⟨ao.bx.reads, an.pins⟩ ?_
 refine dT (i := 3) rfl rfl (by kernel_rfl) (fun _ hS => zL (u := (.map (some mm.o))) ag51 rfl (hS.1 4 _ rfl)) ⟨ao.bx.reads, an.pins⟩ ?_
 refine dT (i := 4) rfl rfl (by kernel_rfl) (fun _ hS => zT (cs := [(vJ a), (vJ b)]) ag81 sz81 rfl (fun j u hj => (dX hS.2 (dW ay bb)) _ _ _ (a5 _ _ (by simpa using hj)))) ⟨ao.bx.reads, an.pins⟩ ?_
 refine dT (i := 5) rfl rfl (by kernel_rfl) (fun _ _ => zR (v := (.bool true)) rfl) ⟨ao.bx.reads, an.pins⟩ ?_
 refine dO (i := 6) (jB (i := 6) rfl rfl rfl (zD rfl _) (qG (val := (fun v : Bool => Value.bool v)) (k := ((a, b) : Int × Int)) (v := true) (mD Tryz.underlying81 dJ sz3) Tryz.underlying51 rfl rfl rfl an.pins ao.fo (fun ep dh cw cx eq => ?_)))
 have di := an.trans (Ext.one cw cx) (fun i hi => yV i hi)
 have cy := ao.setO (Ext.one cw cx) dh
 have hgv : geB q.ns a b = true := geB_yes hok.ar.opts ha hb (fun i hi => hpr i (by omega)) (fun i hi => hpl i (by omega))
 have bg := PoolOk.setO bc (ha.same (zM t ag)) (hb.same (zM t ag)) (setO_ok (zM t ag) hgv)
 obtain ⟨ai, b6⟩ : ∃ q, q = ({ y with om := putE y.om ((a, b) : Int × Int) true } : PSt) := ⟨_, rfl⟩
 rw [← b6] at cy bg
 have hq152n : ai.ns = y.ns ∧ ai.bs = y.bs := by rw [b6]; exact ⟨rfl, rfl⟩
 have hq152x : PX y ai := by rw [b6]; exact ⟨Nat.le_refl _, fun _ _ => rfl, fun _ h => h⟩
 have er := pkl ai
 have es := pkb bg
 have et := hq152x.len
 refine ⟨fun h => absurd rfl h, ?_⟩
 refine yP (by kernel_rfl) (zA (zB (zC ?_)))
 refine qM (.bool true) ?_
 refine qM (.bool true) ?_
 refine qe (zA ?_)
 exact wp_ret (zO (zQ (v := (.bool true)) rfl rfl rfl (⟨ai, _, congrArg (fun z => Ending.returned (Value.bool z)) (hgv.symm), cy, bg, (PX.trans (PX.trans a0 bd) hq152x), (zM (zM t ag) hq152n), di⟩)))
theorem geP_all {p : Nat} {L R B : Value} {mm : PM} : ∀ m, GeP m p L R B mm
 | 0 => fun _ _ _ _ _ h => absurd h (Nat.not_lt_zero _)
 | m + 1 => fun hP hpk hok ha hb hm => ge_step hP hpk hok ha hb (geP_all m) hm
theorem fH {w : World} (hP : Pins G w) (hpk : Pk 48 3 G w p L R B mm q) (hok : PoolOk q) (ha : PlaceOk q a) (hb : PlaceOk q b) :
  Calls Tryz.prog 19 [(.pointer (some ⟨p, 0, none⟩)), (.int .i64 a), (.int .i64 b)].toArray w fun e w' => ∃ (q' : PSt) (G' : Pin), e = .returned (.bool (geB q.ns a b)) ∧ Pk 48 3 G' w' p L R B mm q' ∧ PoolOk q' ∧ PX q q' ∧ (q'.ns = q.ns ∧ q'.bs = q.bs) ∧ Ext (inO (some mm.o)) G w G' w' :=
 geP_all _ hP hpk hok ha hb (Nat.lt_succ_self _)
end PL1
end Go.Proofs.YtjdchbdfohiaaaaGreatDoor
namespace Go.Proofs.YtjdchbdfohiaaaaGreatDoor
namespace PA1
open Go.RowKit Go.GL Go.Proofs
theorem parts_spec {w : World} {G : Pin} {p : Nat} {L R B : Value} {mm : PM} {q : PSt} (hP : Pins G w) (hpk : Pk 48 3 G w p L R B mm q) (hok : PoolOk q) {x : Value} {xs : List Int} (hx : RSl eInt G x xs) (hr : ∀ i, i < xs.length → PlaceOk q (xs.getD i 0)) (hxl : xs.length ≤ 1048576) :
  Calls Tryz.prog 40 [(vP p), x].toArray w fun e w' => ∃ (u : Value) (zs : List Int) (G' : Pin), e = .returned u ∧ Own eInt 3 G' w' w.heap.size u zs ∧ PtOk q xs zs zs.length ∧ Ext noS G w G' w' := by
 refine zU (n := 82) Tryz.func40 Tryz.ntmps40 rfl rfl ?_
 have bl := exr noS hP
 have hpin : PIn w (inP p L R B mm) p L R B mm := PIn.self
 have eg := pkl q
 have eh := pkb hok
 have hm := hx.max
 refine zB (zC ?_)
 refine qM vN ?_
 refine qe (zA (zB (zC ?_)))
 refine qI rfl (jZ (fun k : Int => Value.int .i64 k) (fun v : Bool => Value.bool v) bl.pins (fun m3 w4 ej cx b6 b7 => ?_))
 have bm := bl.step b6 b7
 have b8 := hpk.below b7 b6
 have b9 := hpk.new (x := some m3) (fun k hk => by cases hk; omega)
 have ca : w.heap.size ≤ m3 := by have := bl.size; omega
 refine qM (.map (some m3)) ?_
 refine qe (zA (zB (zC ?_)))
 refine qI rfl (xC (E := eInt) (e := 3) dB sz3 bm.pins (fun a5 cy cz cb bn c0 => ?_))
 have c1 := bm.step cb bn
 have c2 := cx.below bn
 have c3 := b8.below bn cb
 have c4 := b8.new (x := a5.ownBlock) (fun k hk => by rw [c0] at hk; cases hk; exact Nat.le_refl _)
 have c5 := cz.weaken bm.size
 refine qM a5 ?_
 refine qe (zA (zB (zB (zC ?_))))
 refine qM x ?_
 refine qD rfl (zP dB (v := x) rfl hx) (qM (vJ 0) ?_)
 refine qe (zA ?_)
 refine zW (yS (fun k en W => ∃ (ad : Nat → Value) (i : Nat) (lv : Value) (ls : List Int) (sn : List (Int × Bool)) (ae : Pin), en = (upd (upd (upd (upd (upd (upd (upd ad 0 (vP p)) 4 vN) 5 (.map (some m3))) 6 lv) 16 x) 17 (vJ (xs.length : Int))) 18 (vJ (i : Int))) ∧ k = xs.length - i ∧ Ext noS G w ae W ∧ Pin.le G ae ∧ (i ≤ xs.length) ∧ (PtOk q (xs.take i) ls 0) ∧ (SnOk sn ls) ∧ (Own eInt 3 ae W w.heap.size lv (ls)) ∧ (Mp (fun k : Int => Value.int .i64 k) (fun v : Bool => Value.bool v) W m3 (sn)) ∧ (Pk 48 3 ae W p L R B mm q) ∧ (NP p L R B mm lv.ownBlock)) _ ⟨_, 0, a5, [], [], G, (pS 18 (pS 17 (pS 16 (pS 6 (pS 5 (pS 4 (pU 0))))))), rfl, c1, Pin.le_refl _, Nat.zero_le _, PtOk.start, SnOk.start, c5, c2, c3, c4⟩ ?_)
 rintro ek _ el ⟨ad, i, lv, ls, sn, ae, rfl, em, au, bo, hi, hpt, hsn, a6, av, bp, a7⟩
 have eo := hpt.len
 refine zB (zC ?_)
 refine qD rfl (yX rfl rfl) (qe (zA (zB ?_)))
 refine yC (p := ((i : Int) : Int) < (xs.length : Int)) rfl rfl (fun c6 => ?_) (fun c6 => ?_)
 refine wp_skip (zA (zB ?_))
 refine zW (zB (zC ?_))
 refine qD rfl (zJ dB sz3 (v := x) rfl rfl hx (by omega) (by omega)) (qD rfl (zI (r := xs.getD i 0) rfl ag3 (z := (i : Int)) rfl hx (dX au.pins bo) (by omega) (by omega)) (qM (vJ (xs.getD i 0)) ?_))
 refine qe (zA (zB (zC ?_)))
 refine qM (.map (some m3)) ?_
 refine qM (vJ (xs.getD i 0)) ?_
 refine qD rfl (vH (k := (xs.getD i 0)) (vL dJ) dQ zr4 av rfl rfl) (qD rfl (xR rfl) (qe (zA ?_)))
 refine qY rfl rfl (fun bq => ?_) (fun bq => ?_)
 refine wp_skip (yA (zA (zC ?_)))
 refine qD rfl (yJ rfl rfl (by omega)) (qM (vJ ((i : Int) + 1)) ?_)
 refine qe (yD (⟨_, ?_, _, rfl, _, i + 1, lv, ls, sn, ae, (pS 18 (pS 17 (pS 16 (pS 6 (pS 5 (pS 4 (pU 0))))))), rfl, au, bo, (by omega), (hpt.rseen (by omega) (hsn.yes bq)), hsn, a6, av, bp, a7⟩))
 omega
 refine zB (zC ?_)
 refine qM (.map (some m3)) ?_
 refine qM (vJ (xs.getD i 0)) ?_
 refine q0 rfl rfl rfl (qG (val := (fun v : Bool => Value.bool v)) (k := (xs.getD i 0)) (v := true) (vL dJ) dQ rfl rfl rfl au.pins av (fun ep c7 cc br eq => ?_))
 have bt := au.write cc br ((zY ca))
 have c8 := a6.keptA br (yN av a6).symm
 have c9 := bp.kept br cc b9
 refine qe (zA (zC ?_))
 refine qM lv ?_
 refine qM (vJ (xs.getD i 0)) ?_
 refine qI rfl (yG (E := eInt) (e := 3) [(vJ (xs.getD i 0))] [xs.getD i 0] dB sz3 zr3 (by exact xK (by rfl)) (yO (by rfl)) rfl rfl rfl rfl (by decide) bt.pins (fun cd da db ce a8 er => ?_))
 have bu := bt.step ce a8
 have bv := c8.below a8
 have cf := c7.below a8
 have cg := c9.below a8 ce
 have dc := db.weaken bt.size
 refine qI rfl (oA (E := eInt) (v := lv) (u := cd) 8 dB ap3 (by decide) rfl rfl bu.pins bv dc.src (bu.size) (fun ch es dd ci bw de => ?_))
 have df := bu.write ci bw ((yH bv))
 have dg := cf.kept bw (yN cf bv)
 have dh := cg.kept bw ci a7
 have di := jP a7 cg de
 have et := la1 ls (xs.getD i 0)
 refine qM ch ?_
 refine qe (yA (zA (zC ?_)))
 refine qD rfl (yJ rfl rfl (by omega)) (qM (vJ ((i : Int) + 1)) ?_)
 refine qe (yD (⟨_, ?_, _, rfl, _, i + 1, ch, ls ++ ([xs.getD i 0]), putE sn (xs.getD i 0) true, ae, (pS 18 (pS 17 (pS 16 (pS 6 (pS 5 (pS 4 (pU 0))))))), rfl, df, bo, (by omega), (hpt.rnew (by omega) (hsn.no bq) (hr i (by omega))), hsn.put, dd, dg, dh, di⟩))
 omega
 refine wp_exit (zV (yK (yE (zA (zB (zB (zC ?_)))))))
 refine qM (vJ 0) ?_
 refine qe (zA ?_)
 refine zW ?_
 have hin : i = xs.length := by omega
 rw [hin, qS (Nat.le_refl _)] at hpt
 refine yS (fun k en W => ∃ (ad : Nat → Value) (a : Nat) (ab : Value) (b : List Int) (a9 : List (Int × Bool)) (af : Pin), en = (upd (upd (upd (upd (upd ad 0 (vP p)) 4 vN) 5 (.map (some m3))) 6 ab) 9 (vJ (a : Int))) ∧ k = q.ns.length - a ∧ Ext noS G w af W ∧ Pin.le ae af ∧ (PtOk q xs b a) ∧ (SnOk a9 b) ∧ (Own eInt 3 af W w.heap.size ab (b)) ∧ (Mp (fun k : Int => Value.int .i64 k) (fun v : Bool => Value.bool v) W m3 (a9)) ∧ (Pk 48 3 af W p L R B mm q) ∧ (NP p L R B mm ab.ownBlock)) _ ⟨_, 0, lv, ls, sn, ae, (pS 9 (pS 6 (pS 5 (pS 4 (pU 0))))), rfl, au, Pin.le_refl _, hpt, hsn, a6, av, bp, a7⟩ ?_
 rintro eu _ al ⟨ad, a, ab, b, a9, af, rfl, ev, am, dj, an, dk, ba, dl, aw, dm⟩
 have ew := an.len
 have ex := an.kl
 refine zB (zB (zC ?_))
 refine qM (vJ (a : Int)) ?_
 refine qM ab ?_
 refine qD rfl (zP dB (v := ab) rfl ba.read) (qD rfl (yX rfl rfl) (qe (zA ?_)))
 refine yC (p := ((a : Int) : Int) < (b.length : Int)) rfl rfl (fun dn => ?_) (fun dn => ?_)
 have hzp := an.pl _ (zZ (d := (0 : Int)) (show a < b.length by omega))
 have ey := hzp.1
 have ez := hzp.2
 have holl := hok.ar.ok.lens (b.getD a 0).toNat (by omega)
 refine wp_skip (zA (zB ?_))
 refine zW (zB ?_)
 have dp := Gadd.pins am.pins ab
 have dq := Gadd.pins am.pins L
 have dr := Gadd.pins am.pins R
 have bb := ba.read
 have ds := aw.ol.read
 have dt := aw.rr.read
 refine yZ (S := fun wz => BxR wz p [L, R, B, (.map (some mm.f)), (.map (some mm.o)), (.map (some mm.c)), (.map (some mm.s)), (.map (some mm.n))] ∧ Pins (Gadd af al ab) wz ∧ Pins (Gadd af al L) wz ∧ Pins (Gadd af al R) wz) (last := 22) (by kernel_rfl) rfl ?_
 have ai := bdr al
 have cj := am.pins.below ai
 have du := am.step cj ai
 have dv := ba.below ai
 have dw := dl.below ai
 have g := aw.below ai cj
 have t := dp.below ai
 have y := dq.below ai
 have aa := dr.below ai
 refine dT (i := 0) rfl rfl (by kernel_rfl) (fun _ _ => zR (v := (vP p)) rfl) ⟨g.bx.reads, t, y, aa⟩ ?_
 refine dT (i := 1) rfl rfl (by kernel_rfl) (fun _ _ => yU rfl) ⟨g.bx.reads, t, y, aa⟩ ?_
 refine dT (i := 2) rfl rfl (by kernel_rfl) (fun _ _ => zK (k := 0) rfl dH rfl nz49 rfl) ⟨g.bx.reads, t, y, aa⟩ ?_
 refine dT (i := 3) rfl rfl (by kernel_rfl) (fun _ hS => zL (u := L) ag49 rfl (hS.1 0 _ rfl)) ⟨g.bx.reads, t, y, aa⟩ ?_
 refine dT (i := 4) rfl rfl (by kernel_rfl) (fun _ _ => zR (v := ab) rfl) ⟨g.bx.reads, t, y, aa⟩ ?_
 refine dT (i := 5) rfl rfl (by kernel_rfl) (fun _ _ => zR (v := (vJ (a : Int))) rfl) ⟨g.bx.reads, t, y, aa⟩ ?_
 refine dT (i := 6) rfl rfl (by kernel_rfl) (fun _ _ => zJ dB sz3 (v := ab) rfl rfl bb (by omega) (by omega)) ⟨g.bx.reads, t, y, aa⟩ ?_
 refine dT (i := 7) rfl rfl (by kernel_rfl) (fun _ hS => zI (r := b.getD a 0) rfl ag3 (z := (a : Int)) rfl bb hS.2.1 (by omega) (by omega)) ⟨g.bx.reads, t, y, aa⟩ ?_
 refine dT (i := 8) rfl rfl (by kernel_rfl) (fun _ _ => zJ dK sz48 (v := L) rfl rfl ds (by omega) (by omega)) ⟨g.bx.reads, t, y, aa⟩ ?_
 obtain ⟨ax, bc, dx⟩ := vM (aw.ol.at (z := (b.getD a 0)) (by omega) (by omega)) (j := (b.getD a 0).toNat) rfl
 rw [jM] at bc
 have e0 := bc.max
 refine dT (i := 9) rfl rfl (by kernel_rfl) (fun _ hS => dx ag48 rfl hS.2.2.1) ⟨g.bx.reads, t, y, aa⟩ ?_
 refine dT (i := 10) rfl rfl (by kernel_rfl) (fun _ _ => zR (v := (vP p)) rfl) ⟨g.bx.reads, t, y, aa⟩ ?_
 refine dT (i := 11) rfl rfl (by kernel_rfl) (fun _ _ => yU rfl) ⟨g.bx.reads, t, y, aa⟩ ?_
 refine dT (i := 12) rfl rfl (by kernel_rfl) (fun _ _ => zK (k := 1) rfl dH rfl nz49 rfl) ⟨g.bx.reads, t, y, aa⟩ ?_
 refine dT (i := 13) rfl rfl (by kernel_rfl) (fun _ hS => zL (u := R) ag49 rfl (hS.1 1 _ rfl)) ⟨g.bx.reads, t, y, aa⟩ ?_
 refine dT (i := 14) rfl rfl (by kernel_rfl) (fun _ _ => zR (v := ab) rfl) ⟨g.bx.reads, t, y, aa⟩ ?_
 refine dT (i := 15) rfl rfl (by kernel_rfl) (fun _ _ => zR (v := (vJ (a : Int))) rfl) ⟨g.bx.reads, t, y, aa⟩ ?_
 refine dT (i := 16) rfl rfl (by kernel_rfl) (fun _ _ => zJ dB sz3 (v := ab) rfl rfl bb (by omega) (by omega)) ⟨g.bx.reads, t, y, aa⟩ ?_
 refine dT (i := 17) rfl rfl (by kernel_rfl) (fun _ hS => zI (r := b.getD a 0) rfl ag3 (z := (a : Int)) rfl bb hS.2.1 (by omega) (by omega)) ⟨g.bx.reads, t, y, aa⟩ ?_
 refine dT (i := 18) rfl rfl (by kernel_rfl) (fun _ _ => zJ dK sz48 (v := R) rfl rfl dt (by omega) (by omega)) ⟨g.bx.reads, t, y, aa⟩ ?_
 obtain ⟨ay, bd, dy⟩ := vM (aw.rr.at (z := (b.getD a 0)) (by omega) (by omega)) (j := (b.getD a 0).toNat) rfl
 rw [jL] at bd
 have e1 := bd.max
 refine dT (i := 19) rfl rfl (by kernel_rfl) (fun _ hS => dy ag48 rfl hS.2.2.2) ⟨g.bx.reads, t, y, aa⟩ ?_
 refine dT (i := 20) rfl rfl (by kernel_rfl) (fun _ _ => r_buildA (m := 1) [vN, vN] [ax, ay] [(0, ax, [ax]), (1, ay, [ay])] Tryz.underlying97 zr97 rfl sz48 rfl (List.forall_mem_cons.2 ⟨(xM bc.one), (List.forall_mem_cons.2 ⟨(xM bd.one), (fun _ h => by cases h)⟩)⟩) rfl) ⟨g.bx.reads, t, y, aa⟩ ?_
 refine dT (i := 21) rfl rfl (by kernel_rfl) (fun _ _ => zR (v := (vJ 0)) rfl) ⟨g.bx.reads, t, y, aa⟩ ?_
 refine yP (by kernel_rfl) (zA (zW (yS (fun k en W => ∃ (ad : Nat → Value) (s : Nat) (ao : Value) (ap : List Int) (az : List (Int × Bool)) (aj : Pin), en = (upd (upd (upd (upd (upd (upd (upd ad 0 (vP p)) 4 vN) 5 (.map (some m3))) 6 ao) 9 (vJ (a : Int))) 59 (.agg [ax, ay].toArray)) 60 (vJ (s : Int))) ∧ k = 2 - s ∧ Ext noS G w aj W ∧ Pin.le af aj ∧ (s ≤ 2) ∧ (PtIn q xs ap a (b.getD a 0) (dzL (q.ns.getD (b.getD a 0).toNat default).l (q.ns.getD (b.getD a 0).toNat default).r s)) ∧ (SnOk az ap) ∧ (Own eInt 3 aj W w.heap.size ao (ap)) ∧ (Mp (fun k : Int => Value.int .i64 k) (fun v : Bool => Value.bool v) W m3 (az)) ∧ (Pk 48 3 aj W p L R B mm q) ∧ (NP p L R B mm ao.ownBlock)) _ ⟨_, 0, ab, b, a9, af, (pS 60 (pS 59 (pS 9 (pS 6 (pS 5 (pS 4 (pU 0))))))), rfl, du, Pin.le_refl _, Nat.zero_le _, (PtIn.start an (by omega)), dk, dv, dw, g, dm⟩ ?_)))
 rintro e2 _ e3 ⟨ad, s, ao, ap, az, aj, rfl, e4, ck, be, hs, bf, cl, cm, cn, co, cp⟩
 have e5 := bf.ok.len
 refine zB (zC ?_)
 refine qD rfl (yX rfl rfl) (qe (zA (zB ?_)))
 refine yC (p := ((s : Int) : Int) < 2) rfl rfl (fun dz => ?_) (fun dz => ?_)
 refine wp_skip (zA (zB ?_))
 refine zW (zB (zC ?_))
 obtain ⟨a0, bg, d0⟩ := name_index2 (bc.mono be) (bd.mono be) (z := (s : Int)) s (by omega) (by omega) rfl
 have e6 := bg.max
 refine qD rfl (d0 Tryz.underlying97 rfl sz48 ag48 rfl rfl) (qM a0 ?_)
 refine qe (zA (zB (zC ?_)))
 refine qM a0 ?_
 refine qD rfl (zP dB (v := a0) rfl bg) (qM (vJ 0) ?_)
 refine qe (zA ?_)
 refine zW (yS (fun k en W => ∃ (ad : Nat → Value) (j : Nat) (ak : Value) (ag : List Int) (aq : List (Int × Bool)) (ah : Pin), en = (upd (upd (upd (upd (upd (upd (upd (upd (upd (upd ad 0 (vP p)) 4 vN) 5 (.map (some m3))) 6 ak) 9 (vJ (a : Int))) 59 (.agg [ax, ay].toArray)) 60 (vJ (s : Int))) 63 a0) 64 (vJ ((pick2 s ((q.ns.getD (b.getD a 0).toNat default).l) ((q.ns.getD (b.getD a 0).toNat default).r)).length : Int))) 65 (vJ (j : Int))) ∧ k = (pick2 s (q.ns.getD (b.getD a 0).toNat default).l (q.ns.getD (b.getD a 0).toNat default).r).length - j ∧ Ext noS G w ah W ∧ Pin.le aj ah ∧ (j ≤ (pick2 s (q.ns.getD (b.getD a 0).toNat default).l (q.ns.getD (b.getD a 0).toNat default).r).length) ∧ (PtIn q xs ag a (b.getD a 0) (dzL (q.ns.getD (b.getD a 0).toNat default).l (q.ns.getD (b.getD a 0).toNat default).r s ++ (pick2 s (q.ns.getD (b.getD a 0).toNat default).l (q.ns.getD (b.getD a 0).toNat default).r).take j)) ∧ (SnOk aq ag) ∧ (Own eInt 3 ah W w.heap.size ak (ag)) ∧ (Mp (fun k : Int => Value.int .i64 k) (fun v : Bool => Value.bool v) W m3 (aq)) ∧ (Pk 48 3 ah W p L R B mm q) ∧ (NP p L R B mm ak.ownBlock)) _ ⟨_, 0, ao, ap, az, aj, (pS 65 (pS 64 (pS 63 (pS 60 (pS 59 (pS 9 (pS 6 (pS 5 (pS 4 (pU 0)))))))))), rfl, ck, Pin.le_refl _, Nat.zero_le _, (by rw [List.take_zero, List.append_nil]; exact bf), cl, cm, cn, co, cp⟩ ?_)
 rintro e7 _ e8 ⟨ad, j, ak, ag, aq, ah, rfl, e9, a1, bh, hj, a2, a3, bi, a4, bz, bj⟩
 have fa := a2.ok.len
 refine zB (zC ?_)
 refine qD rfl (yX rfl rfl) (qe (zA (zB ?_)))
 refine yC (p := ((j : Int) : Int) < ((pick2 s ((q.ns.getD (b.getD a 0).toNat default).l) ((q.ns.getD (b.getD a 0).toNat default).r)).length : Int)) rfl rfl (fun d1 => ?_) (fun d1 => ?_)
 refine wp_skip (zA (zB ?_))
 refine zW (zB (zC ?_))
 refine qD rfl (zJ dB sz3 (v := a0) rfl rfl bg (by omega) (by omega)) (qD rfl (zI (r := (pick2 s ((q.ns.getD (b.getD a 0).toNat default).l) ((q.ns.getD (b.getD a 0).toNat default).r)).getD j 0) rfl ag3 (z := (j : Int)) rfl bg (dX a1.pins bh) (by omega) (by omega)) (qM (vJ ((pick2 s ((q.ns.getD (b.getD a 0).toNat default).l) ((q.ns.getD (b.getD a 0).toNat default).r)).getD j 0)) ?_))
 refine qe (zA (zB (zC ?_)))
 refine qM (.map (some m3)) ?_
 refine qM (vJ ((pick2 s ((q.ns.getD (b.getD a 0).toNat default).l) ((q.ns.getD (b.getD a 0).toNat default).r)).getD j 0)) ?_
 refine qD rfl (vH (k := ((pick2 s ((q.ns.getD (b.getD a 0).toNat default).l) ((q.ns.getD (b.getD a 0).toNat default).r)).getD j 0)) (vL dJ) dQ zr4 a4 rfl rfl) (qD rfl (xR rfl) (qe (zA ?_)))
 refine qY rfl rfl (fun b0 => ?_) (fun b0 => ?_)
 refine wp_skip (yA (zA (zC ?_)))
 refine qD rfl (yJ rfl rfl (by omega)) (qM (vJ ((j : Int) + 1)) ?_)
 refine qe (yD (⟨_, ?_, _, rfl, _, j + 1, ak, ag, aq, ah, (pS 65 (pS 64 (pS 63 (pS 60 (pS 59 (pS 9 (pS 6 (pS 5 (pS 4 (pU 0)))))))))), rfl, a1, bh, (by omega), (by rw [qZ _ 0 (show j < (pick2 s (q.ns.getD (b.getD a 0).toNat default).l (q.ns.getD (b.getD a 0).toNat default).r).length by omega), ← List.append_assoc]; exact a2.seen (a3.yes b0)), a3, bi, a4, bz, bj⟩))
 omega
 refine zB (zC ?_)
 refine qM (.map (some m3)) ?_
 refine qM (vJ ((pick2 s ((q.ns.getD (b.getD a 0).toNat default).l) ((q.ns.getD (b.getD a 0).toNat default).r)).getD j 0)) ?_
 refine q0 rfl rfl rfl (qG (val := (fun v : Bool => Value.bool v)) (k := ((pick2 s ((q.ns.getD (b.getD a 0).toNat default).l) ((q.ns.getD (b.getD a 0).toNat default).r)).getD j 0)) (v := true) (vL dJ) dQ rfl rfl rfl a1.pins a4 (fun fb d2 cq b1 fc => ?_))
 have b2 := a1.write cq b1 ((zY ca))
 have d3 := bi.keptA b1 (yN a4 bi).symm
 have d4 := bz.kept b1 cq b9
 refine qe (zA (zC ?_))
 refine qM ak ?_
 refine qM (vJ ((pick2 s ((q.ns.getD (b.getD a 0).toNat default).l) ((q.ns.getD (b.getD a 0).toNat default).r)).getD j 0)) ?_
 refine qI rfl (yG (E := eInt) (e := 3) [(vJ ((pick2 s ((q.ns.getD (b.getD a 0).toNat default).l) ((q.ns.getD (b.getD a 0).toNat default).r)).getD j 0))] [(pick2 s ((q.ns.getD (b.getD a 0).toNat default).l) ((q.ns.getD (b.getD a 0).toNat default).r)).getD j 0] dB sz3 zr3 (by exact xK (by rfl)) (yO (by rfl)) rfl rfl rfl rfl (by decide) b2.pins (fun cr d5 d6 cs bk fd => ?_))
 have b3 := b2.step cs bk
 have b4 := d3.below bk
 have ct := d2.below bk
 have cu := d4.below bk cs
 have d7 := d6.weaken b2.size
 refine qI rfl (oA (E := eInt) (v := ak) (u := cr) 8 dB ap3 (by decide) rfl rfl b3.pins b4 d7.src (b3.size) (fun cv fe d8 cw b5 d9 => ?_))
 have ea := b3.write cw b5 ((yH b4))
 have eb := ct.kept b5 (yN ct b4)
 have ec := cu.kept b5 cw bj
 have ed := jP bj cu d9
 have ff := la1 ag ((pick2 s ((q.ns.getD (b.getD a 0).toNat default).l) ((q.ns.getD (b.getD a 0).toNat default).r)).getD j 0)
 refine qM cv ?_
 refine qe (yA (zA (zC ?_)))
 refine qD rfl (yJ rfl rfl (by omega)) (qM (vJ ((j : Int) + 1)) ?_)
 refine qe (yD (⟨_, ?_, _, rfl, _, j + 1, cv, ag ++ ([(pick2 s ((q.ns.getD (b.getD a 0).toNat default).l) ((q.ns.getD (b.getD a 0).toNat default).r)).getD j 0]), putE aq ((pick2 s ((q.ns.getD (b.getD a 0).toNat default).l) ((q.ns.getD (b.getD a 0).toNat default).r)).getD j 0) true, ah, (pS 65 (pS 64 (pS 63 (pS 60 (pS 59 (pS 9 (pS 6 (pS 5 (pS 4 (pU 0)))))))))), rfl, ea, bh, (by omega), (by rw [qZ _ 0 (show j < (pick2 s (q.ns.getD (b.getD a 0).toNat default).l (q.ns.getD (b.getD a 0).toNat default).r).length by omega), ← List.append_assoc]; exact a2.new hok (a3.no b0) (dz_in (by omega) (by omega))), a3.put, d8, eb, ec, ed⟩))
 omega
 have hjn : j = (pick2 s (q.ns.getD (b.getD a 0).toNat default).l (q.ns.getD (b.getD a 0).toNat default).r).length := by omega
 rw [hjn, qS (Nat.le_refl _)] at a2
 have ee : PtIn q xs ag a (b.getD a 0) (dzL (q.ns.getD (b.getD a 0).toNat default).l (q.ns.getD (b.getD a 0).toNat default).r (s + 1)) := by rw [dz_next (by omega)]; exact a2
 refine wp_exit (zV (yK (yE (yA (zA (zC ?_))))))
 refine qD rfl (yJ rfl rfl (by omega)) (qM (vJ ((s : Int) + 1)) ?_)
 refine qe (yD (⟨_, ?_, _, rfl, _, s + 1, ak, ag, aq, ah, (pS 60 (pS 59 (pS 9 (pS 6 (pS 5 (pS 4 (pU 0))))))), rfl, a1, (dW be bh), (by omega), ee, a3, bi, a4, bz, bj⟩))
 omega
 have ef : s = 2 := by omega
 rw [ef] at bf
 have hdone := bf.done (fun o ho => ho)
 have fg := hdone.kl
 refine wp_exit (zV (yK (yE (yA (zA (zC ?_))))))
 refine qM (vJ (a : Int)) ?_
 refine qD rfl (yJ rfl rfl (by omega)) (qM (vJ ((a : Int) + 1)) ?_)
 refine qe (yD (⟨_, ?_, _, rfl, _, a + 1, ao, ap, az, aj, (pS 9 (pS 6 (pS 5 (pS 4 (pU 0))))), rfl, ck, (dW dj be), hdone, cl, cm, cn, co, cp⟩))
 omega
 refine wp_exit (zV (yK (yE (zA (zB (zC ?_))))))
 refine qM ab ?_
 refine qM ab ?_
 refine qe (zA ?_)
 refine wp_ret (zO (zQ (v := ab) rfl rfl rfl ?_))
 have hkk : a = b.length := by omega
 rw [hkk] at an
 exact ⟨_, _, _, rfl, ba, an, am⟩
end PA1
end Go.Proofs.YtjdchbdfohiaaaaGreatDoor
namespace Go.Proofs.YtjdchbdfohiaaaaGreatDoor
namespace SO1
open Go.RowKit Go.GL Go.Proofs
open B1
end SO1
end Go.Proofs.YtjdchbdfohiaaaaGreatDoor
namespace Go.Proofs.YtjdchbdfohiaaaaGreatDoor
namespace OD1
open Go.RowKit Go.GL Go.Proofs
open B1 PO1 PA1 SO1
end OD1
end Go.Proofs.YtjdchbdfohiaaaaGreatDoor
namespace Go.Proofs.YtjdchbdfohiaaaaGreatDoor
namespace FO1
open Go.RowKit Go.GL Go.Proofs
open B1 PO1 PA1 SO1 OD1
end FO1
end Go.Proofs.YtjdchbdfohiaaaaGreatDoor
namespace Go.Proofs.YtjdchbdfohiaaaaGreatDoor
namespace NG1
open Go.RowKit Go.GL Go.Proofs
open B1 K1 PO1 PL1
end NG1
end Go.Proofs.YtjdchbdfohiaaaaGreatDoor
namespace Go.Proofs.YtjdchbdfohiaaaaGreatDoor
namespace NF1
open Go.RowKit Go.GL Go.Proofs
open B1 C1 D1 E1 K1 PO1 PL1 PA1 SO1 OD1 FO1 NG1
end NF1
end Go.Proofs.YtjdchbdfohiaaaaGreatDoor
namespace Go.Proofs.YtjdchbdfohiaaaaGreatDoor
namespace SM1
open Go.RowKit Go.GL Go.Proofs
open B1 C1 D1 E1 K1 PO1 PL1 PA1 SO1 OD1 FO1 NG1 NF1
theorem pl26 : (Tryz.prog.underlying 26).bind (placesD Tryz.prog) = some [(0, 1)] := by kernel_rfl
theorem pl87 : (Tryz.prog.underlying 87).bind (placesD Tryz.prog) = some [(0, 1), (1, 1)] := by kernel_rfl
variable {G : Pin} {v : Value} {fs : List Nd}
theorem sW {w : World} {u : Value} {gs : List Nd} (hP : Pins G w) (hu : RSl eNode G u fs) (hv : RSl eNode G v gs) (hf : FormOk fs) (hg : FormOk gs) (h1 : 1 ≤ fs.length ∧ 1 ≤ gs.length) (hs : fs.length * gs.length ≤ 524288) (hfl : ∀ k, k < fs.length → (fs.getD k default).l.length ≤ 1000 ∧ (fs.getD k default).r.length ≤ 1000) (hgl : ∀ k, k < gs.length → (gs.getD k default).l.length ≤ 1000 ∧ (gs.getD k default).r.length ≤ 1000) :
  Calls Tryz.prog 57 [(.agg [u].toArray), (.agg [v].toArray)].toArray w fun e w' => ∃ (u : Value) (G' : Pin), e = .returned (.agg [u].toArray) ∧ RSl eNode G' u (formG (addG (gOf fs) (gOf gs))) ∧ Ext noS G w G' w' := by
 refine zU (n := 171) Tryz.func57 Tryz.ntmps57 rfl rfl ?_
 have ca := exr noS hP
 have hmu := hu.max
 have hmv := hv.max
 have hfle := hf.len
 have hgle := hg.len
 refine zB (zC ?_)
 refine qI rfl (xH [u] (v := (.agg [u].toArray)) rfl rfl ca.pins (fun b1 w2 g6 g7 g8 g9 => ?_))
 have ha := ca.step g8 g9
 have hb : w.heap.size ≤ b1 := by have := ca.size; omega
 obtain ⟨G9, am, cb, bm, nk⟩ := g7.shut ha hb
 refine qI rfl (xH [v] (v := (.agg [v].toArray)) rfl rfl cb.pins (fun a6 nl nm hc hd he => ?_))
 have hh := cb.step hd he
 have hi : w.heap.size ≤ a6 := by have := cb.size; omega
 obtain ⟨cc, ae, cd, bn, nn⟩ := hc.shut hh hi
 refine qI rfl (yM [vN] zr26 rfl cd.pins (fun g no np dw hk hl => ?_))
 have ce := cd.step hk hl
 have hm : w.heap.size ≤ g := by have := cd.size; omega
 refine qe (zA (zB (zC ?_)))
 refine qD rfl (xB [vN, vN] [vN, vN] [] dI zr87 rfl pl87 rfl (fun _ h => by cases h) rfl) (qI rfl (xH [vN, vN] (v := (.agg [vN, vN].toArray)) rfl rfl ce.pins (fun c nq hn dx ho dy => ?_)))
 have bu := ce.step ho dy
 have dz := dw.below dy
 have hp := zH (congrArg some hn) dw.lt
 have hq : w.heap.size ≤ c := by have := ce.size; omega
 refine qM (vP c) ?_
 refine qe (zA (zB (zC ?_)))
 refine qD rfl (zK (k := 0) rfl dE rfl nz24 rfl) (qD rfl (zL (u := v) ag24 rfl (bu.pins _ _ _ (bn 0 _ rfl))) (qD rfl (zP dC (v := v) rfl hv) (qM (vJ (gs.length : Int)) ?_)))
 refine qe (zA (zB (zC ?_)))
 refine qI rfl (xC (E := eInt) (e := 3) dB sz3 bu.pins (fun cf hr ht hw cg d0 => ?_))
 have hx := bu.step hw cg
 have hy := dz.below cg
 have hz := dx.below cg
 have h0 := zH d0 dz.lt
 have h2 := zH d0 dx.lt
 have h3 := ht.weaken bu.size
 refine qM cf ?_
 refine qe (zA (zB (zB (zC ?_))))
 refine qM (vJ 0) ?_
 refine qe (zA ?_)
 refine zW (yS (fun k en W => ∃ (af : Nat → Value) (a : Nat) (atA : Value) (atsA : List Int) (uA : Value) (vA : Value) (nsA : List Nd) (bsA : List Int) (GA : Pin), en = (upd (upd (upd (upd (upd (upd (upd af 2 (vP b1)) 3 (vP a6)) 4 (vP g)) 5 (vP c)) 6 (vJ (gs.length : Int))) 7 atA) 8 (vJ (a : Int))) ∧ k = fs.length - a ∧ Ext noS G w GA W ∧ Pin.le cc GA ∧ (a ≤ fs.length) ∧ (PoolOk (bkq nsA bsA)) ∧ (NkOk (bkq nsA bsA) atsA (a * gs.length) (sumPhi fs gs)) ∧ (nsA.length ≤ a * gs.length) ∧ (Own eInt 3 GA W w.heap.size atA (atsA)) ∧ (Own eNode 69 GA W 0 uA (nsA)) ∧ (Own eInt 3 GA W 0 vA (bsA)) ∧ (Bx GA W g [vN]) ∧ (Bx GA W c [uA, vA]) ∧ (Apart atA.ownBlock uA.ownBlock) ∧ (Apart atA.ownBlock vA.ownBlock) ∧ (Apart atA.ownBlock (some g)) ∧ (Apart atA.ownBlock (some c)) ∧ (Apart uA.ownBlock vA.ownBlock) ∧ (Apart uA.ownBlock (some g)) ∧ (Apart uA.ownBlock (some c)) ∧ (Apart vA.ownBlock (some g)) ∧ (Apart vA.ownBlock (some c)) ∧ (Lo w noS uA.ownBlock) ∧ (Lo w noS vA.ownBlock)) _ ⟨_, 0, cf, [], vN, vN, [], [], cc, (pS 8 (pS 7 (pS 6 (pS 5 (pS 4 (pS 3 (pU 2))))))), rfl, hx, Pin.le_refl _, Nat.zero_le _, (rJ Ar.empty), (by rw [Nat.zero_mul]; exact NkOk.start), (by simp), h3, (Own.nil _ _ _ _ _), (Own.nil _ _ _ _ _), hy, hz, apart_none.symm, apart_none.symm, h0, h2, apart_none, apart_none, apart_none, apart_none, apart_none, (jU _ _), (jU _ _)⟩ ?_)
 rintro nr _ ns ⟨af, a, atA, atsA, uA, vA, nsA, bsA, GA, rfl, nt, bo, q, nu, hokA, hnkA, hblA, bv, d1, d2, d3, d4, h4, h5, h6, h7, d5, h8, d6, ia, d7, ib, ic⟩
 have hnlA := hnkA.len
 refine zB (zB (zC ?_))
 refine qM (vJ (a : Int)) ?_
 refine qD rfl (zK (k := 0) rfl dE rfl nz24 rfl) (qD rfl (zL (u := u) ag24 rfl ((dX bo.pins (dW ae q)) _ _ _ (bm 0 _ rfl))) (qD rfl (zP dC (v := u) rfl hu) (qD rfl (yX rfl rfl) (qe (zA ?_)))))
 refine yC (p := ((a : Int) : Int) < (fs.length : Int)) rfl rfl (fun ie => ?_) (fun ie => ?_)
 have hmi : a * gs.length + gs.length ≤ 524288 := by have h9 := Nat.mul_le_mul_right gs.length (show a + 1 ≤ fs.length by omega); rw [Nat.add_mul, Nat.one_mul] at h9; omega
 have hci : ((a * gs.length : Nat) : Int) = (a : Int) * (gs.length : Int) := Int.natCast_mul ..
 have oo := xA hf.opts (show a < fs.length by omega)
 have hfe := hf.lens a (by omega)
 have nv := hfl a (by omega)
 refine wp_skip (zA (zB ?_))
 refine zW (zB (zC ?_))
 refine qM (vJ 0) ?_
 refine qe (zA ?_)
 refine zW (yS (fun k en W => ∃ (af : Nat → Value) (b : Nat) (atB : Value) (atsB : List Int) (uB : Value) (vB : Value) (nsB : List Nd) (bsB : List Int) (GB : Pin), en = (upd (upd (upd (upd (upd (upd (upd (upd af 2 (vP b1)) 3 (vP a6)) 4 (vP g)) 5 (vP c)) 6 (vJ (gs.length : Int))) 7 atB) 8 (vJ (a : Int))) 9 (vJ (b : Int))) ∧ k = gs.length - b ∧ Ext noS G w GB W ∧ Pin.le GA GB ∧ (b ≤ gs.length) ∧ (PoolOk (bkq nsB bsB)) ∧ (NkOk (bkq nsB bsB) atsB (a * gs.length + b) (sumPhi fs gs)) ∧ (nsB.length ≤ a * gs.length + b) ∧ (Own eInt 3 GB W w.heap.size atB (atsB)) ∧ (Own eNode 69 GB W 0 uB (nsB)) ∧ (Own eInt 3 GB W 0 vB (bsB)) ∧ (Bx GB W g [vN]) ∧ (Bx GB W c [uB, vB]) ∧ (Apart atB.ownBlock uB.ownBlock) ∧ (Apart atB.ownBlock vB.ownBlock) ∧ (Apart atB.ownBlock (some g)) ∧ (Apart atB.ownBlock (some c)) ∧ (Apart uB.ownBlock vB.ownBlock) ∧ (Apart uB.ownBlock (some g)) ∧ (Apart uB.ownBlock (some c)) ∧ (Apart vB.ownBlock (some g)) ∧ (Apart vB.ownBlock (some c)) ∧ (Lo w noS uB.ownBlock) ∧ (Lo w noS vB.ownBlock)) _ ⟨_, 0, atA, atsA, uA, vA, nsA, bsA, GA, (pS 9 (pS 8 (pS 7 (pS 6 (pS 5 (pS 4 (pS 3 (pU 2)))))))), rfl, bo, Pin.le_refl _, Nat.zero_le _, hokA, hnkA, hblA, bv, d1, d2, d3, d4, h4, h5, h6, h7, d5, h8, d6, ia, d7, ib, ic⟩ ?_)
 rintro nw _ nx ⟨af, b, atB, atsB, uB, vB, nsB, bsB, GB, rfl, ny, bz, s, nz, hokB, hnkB, hblB, ch, ci, cj, ck, cl, d8, d9, cm, b0, ea, eb, ec, ed, ee, ef, eg⟩
 have hnlB := hnkB.len
 refine zB (zB (zC ?_))
 refine qM (vJ (b : Int)) ?_
 refine qM (vJ (gs.length : Int)) ?_
 refine qD rfl (yX rfl rfl) (qe (zA ?_))
 refine yC (p := ((b : Int) : Int) < (gs.length : Int)) rfl rfl (fun ig => ?_) (fun ig => ?_)
 have og := xA hg.opts (show b < gs.length by omega)
 have hge := hg.lens b (by omega)
 have n0 := hgl b (by omega)
 refine wp_skip (zA (zB ?_))
 refine zW (zB (zC ?_))
 refine qI rfl (xC (E := eInt) (e := 3) dB sz3 bz.pins (fun cn ih ii ij bd bp => ?_))
 have co := bz.step ij bd
 have eh := ch.below bd
 have ei := ci.below bd
 have ej := cj.below bd
 have ek := ck.below bd
 have el := cl.below bd
 have ik := zG bp ch.lt
 have il := zG bp ci.lt
 have im := zG bp cj.lt
 have io := zH bp ck.lt
 have ip := zH bp cl.lt
 have em := ii.weaken bz.size
 refine qI rfl (xC (E := eInt) (e := 3) dB sz3 co.pins (fun ay iq ir it a7 be => ?_))
 have iu := co.step it a7
 have iv := eh.below a7
 have iw := ei.below a7
 have ix := ej.below a7
 have iy := em.below a7
 have iz := ek.below a7
 have i0 := el.below a7
 have i1 := zG be eh.lt
 have i2 := zG be ei.lt
 have i3 := zG be ej.lt
 have i4 := zG be em.lt
 have i6 := zH be ek.lt
 have i7 := zH be el.lt
 have i8 := ir.weaken co.size
 refine qM cn ?_
 refine qM ay ?_
 refine qe (zA (zB (zB (zC ?_))))
 refine qM (vJ 0) ?_
 refine qe (zA ?_)
 refine zW (yS (fun k en W => ∃ (af : Nat → Value) (t : Nat) (an : Value) (l3 : List Int) (ai : Pin), en = (upd (upd (upd (upd (upd (upd (upd (upd (upd (upd (upd af 2 (vP b1)) 3 (vP a6)) 4 (vP g)) 5 (vP c)) 6 (vJ (gs.length : Int))) 7 atB) 8 (vJ (a : Int))) 9 (vJ (b : Int))) 10 an) 11 ay) 12 (vJ (t : Int))) ∧ k = (fs.getD a default).l.length - t ∧ Ext noS G w ai W ∧ Pin.le GB ai ∧ (t ≤ (fs.getD a default).l.length) ∧ (l3 = atL atsB (((fs.getD a default).l.take t).map (fun o => o * (gs.length : Int) + (b : Int)))) ∧ (l3.length = t) ∧ (Own eInt 3 ai W w.heap.size an (l3)) ∧ (Own eInt 3 ai W w.heap.size atB (atsB)) ∧ (Own eNode 69 ai W 0 uB (nsB)) ∧ (Own eInt 3 ai W 0 vB (bsB)) ∧ (Own eInt 3 ai W w.heap.size ay ([])) ∧ (Bx ai W g [vN]) ∧ (Bx ai W c [uB, vB]) ∧ (Apart an.ownBlock atB.ownBlock) ∧ (Apart an.ownBlock uB.ownBlock) ∧ (Apart an.ownBlock vB.ownBlock) ∧ (Apart an.ownBlock ay.ownBlock) ∧ (Apart an.ownBlock (some g)) ∧ (Apart an.ownBlock (some c))) _ ⟨_, 0, cn, [], GB, (pS 12 (pS 11 (pS 10 (pS 9 (pS 8 (pS 7 (pS 6 (pS 5 (pS 4 (pS 3 (pU 2))))))))))), rfl, iu, Pin.le_refl _, Nat.zero_le _, (by simp [atL]), rfl, iy, iv, iw, ix, i8, iz, i0, ik, il, im, i4.symm, io, ip⟩ ?_)
 rintro n1 _ n2 ⟨af, t, an, l3, ai, rfl, n3, au, x, g6, eo, ep, eq, b2, er, es, et, eu, ev, cp, cq, cr, ct, cu, cv⟩
 refine zB (zB (zC ?_))
 refine qM (vJ (t : Int)) ?_
 refine qD rfl (zK (k := 0) rfl dE rfl nz24 rfl) (qD rfl (zL (u := u) ag24 rfl ((dX au.pins (dW (dW (dW ae q) s) x)) _ _ _ (bm 0 _ rfl))) (qM (vJ (a : Int)) ?_))
 refine qD rfl (zJ dC sz69 (v := u) rfl rfl hu (by omega) (by omega)) (qD rfl (xF (off := 0) dF rfl rfl nz48 (z := (a : Int)) (k := 0) rfl hu (by omega) (by omega)) ?_)
 obtain ⟨i9, ew, ja⟩ := kA (hu.at (z := (a : Int)) (by omega) (by omega)) (j := a) rfl
 have n4 := ew.max
 refine qD rfl (ja ag48 rfl (dX au.pins (dW (dW (dW (dW am ae) q) s) x))) (qD rfl (zP dB (v := i9) rfl ew) (qD rfl (yX rfl rfl) (qe (zA ?_))))
 refine yC (p := ((t : Int) : Int) < (((fs.getD a default).l).length : Int)) rfl rfl (fun jb => ?_) (fun jb => ?_)
 have ex := oo.1 _ (zZ (d := (0 : Int)) (show t < (fs.getD a default).l.length by omega))
 have n5 := mul_at (n := (gs.length : Int)) ex.1 ex.2 (by omega)
 refine wp_skip (zA (zB ?_))
 refine zW (zC (qM an ?_))
 refine qM atB ?_
 refine qD rfl (zK (k := 0) rfl dE rfl nz24 rfl) (qD rfl (zL (u := u) ag24 rfl ((dX au.pins (dW (dW (dW ae q) s) x)) _ _ _ (bm 0 _ rfl))) (qM (vJ (a : Int)) ?_))
 refine qD rfl (zJ dC sz69 (v := u) rfl rfl hu (by omega) (by omega)) (qD rfl (xF (off := 0) dF rfl rfl nz48 (z := (a : Int)) (k := 0) rfl hu (by omega) (by omega)) ?_)
 obtain ⟨jc, cw, jd⟩ := kA (hu.at (z := (a : Int)) (by omega) (by omega)) (j := a) rfl
 have n6 := cw.max
 refine qD rfl (jd ag48 rfl (dX au.pins (dW (dW (dW (dW am ae) q) s) x))) (qM (vJ (t : Int)) ?_)
 refine qD rfl (zJ dB sz3 (v := jc) rfl rfl cw (by omega) (by omega)) (qD rfl (zI (r := ((fs.getD a default).l).getD t 0) rfl ag3 (z := (t : Int)) rfl cw (dX au.pins (dW (dW (dW (dW am ae) q) s) x)) (by omega) (by omega)) (qM (vJ (gs.length : Int)) ?_))
 refine qD rfl (nW rfl rfl (by omega)) (qM (vJ (b : Int)) ?_)
 refine qD rfl (yJ rfl rfl (by omega)) (qD rfl (zJ dB sz3 (v := atB) rfl rfl b2.read (by omega) (by omega)) (qD rfl (zI (r := atsB.getD (((((fs.getD a default).l).getD t 0) * (gs.length : Int)) + (b : Int)).toNat 0) rfl ag3 (z := (((((fs.getD a default).l).getD t 0) * (gs.length : Int)) + (b : Int))) rfl b2.read (Gadd.pins au.pins atB) (by omega) (by omega)) (qI rfl (yG (E := eInt) (e := 3) [(vJ (atsB.getD (((((fs.getD a default).l).getD t 0) * (gs.length : Int)) + (b : Int)).toNat 0))] [atsB.getD (((((fs.getD a default).l).getD t 0) * (gs.length : Int)) + (b : Int)).toNat 0] dB sz3 zr3 (by exact xK (by rfl)) (yO (by rfl)) rfl rfl rfl rfl (by decide) au.pins (fun ey je jf jg a0 n7 => ?_)))))
 have cx := au.step jg a0
 have ez := eq.below a0
 have e0 := b2.below a0
 have e1 := er.below a0
 have e2 := es.below a0
 have e3 := et.below a0
 have e5 := eu.below a0
 have e7 := ev.below a0
 have jh := jf.weaken au.size
 refine qI rfl (oA (E := eInt) (v := an) (u := ey) 8 dB ap3 (by decide) rfl rfl cx.pins ez jh.src (cx.size) (fun e8 n8 ji jj a8 bf => ?_))
 have jk := cx.write jj a8 ((yH ez))
 have jl := e0.keptA a8 cp.symm
 have jm := e1.keptA a8 cq.symm
 have jn := e2.keptA a8 cr.symm
 have jo := e3.keptA a8 ct.symm
 have jp := e5.keptA a8 cu.symm
 have jq := e7.keptA a8 cv.symm
 have jr := zE cp.symm bf e0.lt
 have js := zE cq.symm bf e1.lt
 have jt := zE cr.symm bf e2.lt
 have ju := zE ct.symm bf e3.lt
 have jv := zN cu.symm bf e5.lt
 have jw := zN cv.symm bf e7.lt
 have n9 := la1 l3 (atsB.getD (((((fs.getD a default).l).getD t 0) * (gs.length : Int)) + (b : Int)).toNat 0)
 refine qM e8 ?_
 refine qe (yA (zA (zC ?_)))
 refine qM (vJ (t : Int)) ?_
 refine qD rfl (yJ rfl rfl (by omega)) (qM (vJ ((t : Int) + 1)) ?_)
 refine qe (yD (⟨_, ?_, _, rfl, _, t + 1, e8, l3 ++ ([atsB.getD (((((fs.getD a default).l).getD t 0) * (gs.length : Int)) + (b : Int)).toNat 0]), ai, (pS 12 (pS 11 (pS 10 (pS 9 (pS 8 (pS 7 (pS 6 (pS 5 (pS 4 (pS 3 (pU 2))))))))))), rfl, jk, x, (by omega), (by rw [eo]; exact (pQ (f := (fun o => o * (gs.length : Int) + (b : Int))) ([]) (by omega)).symm), (by rw [List.length_append, ep]; rfl), ji, jl, jm, jn, jo, jp, jq, jr.symm, js.symm, jt.symm, ju.symm, jv.symm, jw.symm⟩))
 omega
 refine wp_exit (zV (yK (yE (zA (zB (zB (zC ?_)))))))
 refine qM (vJ 0) ?_
 refine qe (zA ?_)
 refine zW (yS (fun k en W => ∃ (af : Nat → Value) (y : Nat) (ac : Value) (l4 : List Int) (aj : Pin), en = (upd (upd (upd (upd (upd (upd (upd (upd (upd (upd (upd af 2 (vP b1)) 3 (vP a6)) 4 (vP g)) 5 (vP c)) 6 (vJ (gs.length : Int))) 7 atB) 8 (vJ (a : Int))) 9 (vJ (b : Int))) 10 ac) 11 ay) 13 (vJ (y : Int))) ∧ k = (gs.getD b default).l.length - y ∧ Ext noS G w aj W ∧ Pin.le ai aj ∧ (y ≤ (gs.getD b default).l.length) ∧ (l4 = atL atsB ((fs.getD a default).l.map (fun o => o * (gs.length : Int) + (b : Int))) ++ atL atsB (((gs.getD b default).l.take y).map (fun o => (a : Int) * (gs.length : Int) + o))) ∧ (l4.length = (fs.getD a default).l.length + y) ∧ (Own eInt 3 aj W w.heap.size ac (l4)) ∧ (Own eInt 3 aj W w.heap.size atB (atsB)) ∧ (Own eNode 69 aj W 0 uB (nsB)) ∧ (Own eInt 3 aj W 0 vB (bsB)) ∧ (Own eInt 3 aj W w.heap.size ay ([])) ∧ (Bx aj W g [vN]) ∧ (Bx aj W c [uB, vB]) ∧ (Apart ac.ownBlock atB.ownBlock) ∧ (Apart ac.ownBlock uB.ownBlock) ∧ (Apart ac.ownBlock vB.ownBlock) ∧ (Apart ac.ownBlock ay.ownBlock) ∧ (Apart ac.ownBlock (some g)) ∧ (Apart ac.ownBlock (some c))) _ ⟨_, 0, an, l3, ai, (pS 13 (pS 11 (pS 10 (pS 9 (pS 8 (pS 7 (pS 6 (pS 5 (pS 4 (pS 3 (pU 2))))))))))), rfl, au, Pin.le_refl _, Nat.zero_le _, (by rw [eo, qS (by omega)]; simp [atL]), (by rw [ep]; omega), eq, b2, er, es, et, eu, ev, cp, cq, cr, ct, cu, cv⟩ ?_)
 rintro oa _ ob ⟨af, y, ac, l4, aj, rfl, oc, av, ag, od, e9, jx, fa, b3, fb, fc, fd, fe, ff, cy, cz, c0, c1, c2, c3⟩
 refine zB (zB (zC ?_))
 refine qM (vJ (y : Int)) ?_
 refine qD rfl (zK (k := 0) rfl dE rfl nz24 rfl) (qD rfl (zL (u := v) ag24 rfl ((dX av.pins (dW (dW (dW q s) x) ag)) _ _ _ (bn 0 _ rfl))) (qM (vJ (b : Int)) ?_))
 refine qD rfl (zJ dC sz69 (v := v) rfl rfl hv (by omega) (by omega)) (qD rfl (xF (off := 0) dF rfl rfl nz48 (z := (b : Int)) (k := 0) rfl hv (by omega) (by omega)) ?_)
 obtain ⟨jy, fg, jz⟩ := kA (hv.at (z := (b : Int)) (by omega) (by omega)) (j := b) rfl
 have oe := fg.max
 refine qD rfl (jz ag48 rfl (dX av.pins (dW (dW (dW (dW (dW am ae) q) s) x) ag))) (qD rfl (zP dB (v := jy) rfl fg) (qD rfl (yX rfl rfl) (qe (zA ?_))))
 refine yC (p := ((y : Int) : Int) < (((gs.getD b default).l).length : Int)) rfl rfl (fun j0 => ?_) (fun j0 => ?_)
 have oh := og.1 _ (zZ (d := (0 : Int)) (show y < (gs.getD b default).l.length by omega))
 have oi := Int.mul_nonneg (show (0 : Int) ≤ (a : Int) by omega) (show (0 : Int) ≤ (gs.length : Int) by omega)
 refine wp_skip (zA (zB ?_))
 refine zW (zC (qM ac ?_))
 refine qM atB ?_
 refine qM (vJ (a : Int)) ?_
 refine qM (vJ (gs.length : Int)) ?_
 refine qD rfl (nW rfl rfl (by omega)) (qD rfl (zK (k := 0) rfl dE rfl nz24 rfl) (qD rfl (zL (u := v) ag24 rfl ((dX av.pins (dW (dW (dW q s) x) ag)) _ _ _ (bn 0 _ rfl))) (qM (vJ (b : Int)) ?_)))
 refine qD rfl (zJ dC sz69 (v := v) rfl rfl hv (by omega) (by omega)) (qD rfl (xF (off := 0) dF rfl rfl nz48 (z := (b : Int)) (k := 0) rfl hv (by omega) (by omega)) ?_)
 obtain ⟨j1, c4, j2⟩ := kA (hv.at (z := (b : Int)) (by omega) (by omega)) (j := b) rfl
 have oj := c4.max
 refine qD rfl (j2 ag48 rfl (dX av.pins (dW (dW (dW (dW (dW am ae) q) s) x) ag))) (qM (vJ (y : Int)) ?_)
 refine qD rfl (zJ dB sz3 (v := j1) rfl rfl c4 (by omega) (by omega)) (qD rfl (zI (r := ((gs.getD b default).l).getD y 0) rfl ag3 (z := (y : Int)) rfl c4 (dX av.pins (dW (dW (dW (dW (dW am ae) q) s) x) ag)) (by omega) (by omega)) (qD rfl (yJ rfl rfl (by omega)) (qD rfl (zJ dB sz3 (v := atB) rfl rfl b3.read (by omega) (by omega)) (qD rfl (zI (r := atsB.getD (((a : Int) * (gs.length : Int)) + (((gs.getD b default).l).getD y 0)).toNat 0) rfl ag3 (z := (((a : Int) * (gs.length : Int)) + (((gs.getD b default).l).getD y 0))) rfl b3.read (Gadd.pins av.pins atB) (by omega) (by omega)) (qI rfl (yG (E := eInt) (e := 3) [(vJ (atsB.getD (((a : Int) * (gs.length : Int)) + (((gs.getD b default).l).getD y 0)).toNat 0))] [atsB.getD (((a : Int) * (gs.length : Int)) + (((gs.getD b default).l).getD y 0)).toNat 0] dB sz3 zr3 (by exact xK (by rfl)) (yO (by rfl)) rfl rfl rfl rfl (by decide) av.pins (fun fh j3 j4 j6 a1 ol => ?_)))))))
 have c5 := av.step j6 a1
 have fi := fa.below a1
 have fj := b3.below a1
 have fk := fb.below a1
 have fl := fc.below a1
 have fm := fd.below a1
 have fn := fe.below a1
 have fo := ff.below a1
 have j7 := j4.weaken av.size
 refine qI rfl (oA (E := eInt) (v := ac) (u := fh) 8 dB ap3 (by decide) rfl rfl c5.pins fi j7.src (c5.size) (fun fp om j8 j9 a9 bg => ?_))
 have ka := c5.write j9 a9 ((yH fi))
 have kb := fj.keptA a9 cy.symm
 have kc := fk.keptA a9 cz.symm
 have kd := fl.keptA a9 c0.symm
 have ke := fm.keptA a9 c1.symm
 have kf := fn.keptA a9 c2.symm
 have kg := fo.keptA a9 c3.symm
 have kh := zE cy.symm bg fj.lt
 have ki := zE cz.symm bg fk.lt
 have kj := zE c0.symm bg fl.lt
 have kk := zE c1.symm bg fm.lt
 have kl := zN c2.symm bg fn.lt
 have km := zN c3.symm bg fo.lt
 have op := la1 l4 (atsB.getD (((a : Int) * (gs.length : Int)) + (((gs.getD b default).l).getD y 0)).toNat 0)
 refine qM fp ?_
 refine qe (yA (zA (zC ?_)))
 refine qM (vJ (y : Int)) ?_
 refine qD rfl (yJ rfl rfl (by omega)) (qM (vJ ((y : Int) + 1)) ?_)
 refine qe (yD (⟨_, ?_, _, rfl, _, y + 1, fp, l4 ++ ([atsB.getD (((a : Int) * (gs.length : Int)) + (((gs.getD b default).l).getD y 0)).toNat 0]), aj, (pS 13 (pS 11 (pS 10 (pS 9 (pS 8 (pS 7 (pS 6 (pS 5 (pS 4 (pS 3 (pU 2))))))))))), rfl, ka, ag, (by omega), (by rw [e9]; exact (pQ (f := (fun o => (a : Int) * (gs.length : Int) + o)) (atL atsB ((fs.getD a default).l.map (fun o => o * (gs.length : Int) + (b : Int)))) (by omega)).symm), (by rw [List.length_append, jx]; simp; omega), j8, kb, kc, kd, ke, kf, kg, kh.symm, ki.symm, kj.symm, kk.symm, kl.symm, km.symm⟩))
 omega
 refine wp_exit (zV (yK (yE (zA (zB (zB (zC ?_)))))))
 refine qM (vJ 0) ?_
 refine qe (zA ?_)
 refine zW (yS (fun k en W => ∃ (af : Nat → Value) (q5 : Nat) (ao : Value) (l5 : List Int) (ak : Pin), en = (upd (upd (upd (upd (upd (upd (upd (upd (upd (upd (upd af 2 (vP b1)) 3 (vP a6)) 4 (vP g)) 5 (vP c)) 6 (vJ (gs.length : Int))) 7 atB) 8 (vJ (a : Int))) 9 (vJ (b : Int))) 10 ac) 11 ao) 14 (vJ (q5 : Int))) ∧ k = (fs.getD a default).r.length - q5 ∧ Ext noS G w ak W ∧ Pin.le aj ak ∧ (q5 ≤ (fs.getD a default).r.length) ∧ (l5 = atL atsB (((fs.getD a default).r.take q5).map (fun o => o * (gs.length : Int) + (b : Int)))) ∧ (l5.length = q5) ∧ (Own eInt 3 ak W w.heap.size ao (l5)) ∧ (Own eInt 3 ak W w.heap.size ac (l4)) ∧ (Own eInt 3 ak W w.heap.size atB (atsB)) ∧ (Own eNode 69 ak W 0 uB (nsB)) ∧ (Own eInt 3 ak W 0 vB (bsB)) ∧ (Bx ak W g [vN]) ∧ (Bx ak W c [uB, vB]) ∧ (Apart ao.ownBlock ac.ownBlock) ∧ (Apart ao.ownBlock atB.ownBlock) ∧ (Apart ao.ownBlock uB.ownBlock) ∧ (Apart ao.ownBlock vB.ownBlock) ∧ (Apart ao.ownBlock (some g)) ∧ (Apart ao.ownBlock (some c))) _ ⟨_, 0, ay, [], aj, (pS 14 (pS 11 (pS 10 (pS 9 (pS 8 (pS 7 (pS 6 (pS 5 (pS 4 (pS 3 (pU 2))))))))))), rfl, av, Pin.le_refl _, Nat.zero_le _, (by simp [atL]), rfl, fd, fa, b3, fb, fc, fe, ff, c1.symm, i1, i2, i3, i6, i7⟩ ?_)
 rintro oq _ os ⟨af, q5, ao, l5, ak, rfl, ot, aw, ap, ow, fq, fr, ft, fu, b4, fv, fw, fx, fy, c6, c7, c8, c9, da, db⟩
 refine zB (zB (zC ?_))
 refine qM (vJ (q5 : Int)) ?_
 refine qD rfl (zK (k := 0) rfl dE rfl nz24 rfl) (qD rfl (zL (u := u) ag24 rfl ((dX aw.pins (dW (dW (dW (dW (dW ae q) s) x) ag) ap)) _ _ _ (bm 0 _ rfl))) (qM (vJ (a : Int)) ?_))
 refine qD rfl (zJ dC sz69 (v := u) rfl rfl hu (by omega) (by omega)) (qD rfl (xF (off := 1) dF rfl rfl nz48 (z := (a : Int)) (k := 0) rfl hu (by omega) (by omega)) ?_)
 obtain ⟨kn, fz, ko⟩ := kE (hu.at (z := (a : Int)) (by omega) (by omega)) (j := a) rfl
 have ox := fz.max
 refine qD rfl (ko ag48 rfl (dX aw.pins (dW (dW (dW (dW (dW (dW am ae) q) s) x) ag) ap))) (qD rfl (zP dB (v := kn) rfl fz) (qD rfl (yX rfl rfl) (qe (zA ?_))))
 refine yC (p := ((q5 : Int) : Int) < (((fs.getD a default).r).length : Int)) rfl rfl (fun kp => ?_) (fun kp => ?_)
 have f0 := oo.2 _ (zZ (d := (0 : Int)) (show q5 < (fs.getD a default).r.length by omega))
 have oy := mul_at (n := (gs.length : Int)) f0.1 f0.2 (by omega)
 refine wp_skip (zA (zB ?_))
 refine zW (zC (qM ao ?_))
 refine qM atB ?_
 refine qD rfl (zK (k := 0) rfl dE rfl nz24 rfl) (qD rfl (zL (u := u) ag24 rfl ((dX aw.pins (dW (dW (dW (dW (dW ae q) s) x) ag) ap)) _ _ _ (bm 0 _ rfl))) (qM (vJ (a : Int)) ?_))
 refine qD rfl (zJ dC sz69 (v := u) rfl rfl hu (by omega) (by omega)) (qD rfl (xF (off := 1) dF rfl rfl nz48 (z := (a : Int)) (k := 0) rfl hu (by omega) (by omega)) ?_)
 obtain ⟨kq, dc, kr⟩ := kE (hu.at (z := (a : Int)) (by omega) (by omega)) (j := a) rfl
 have oz := dc.max
 refine qD rfl (kr ag48 rfl (dX aw.pins (dW (dW (dW (dW (dW (dW am ae) q) s) x) ag) ap))) (qM (vJ (q5 : Int)) ?_)
 refine qD rfl (zJ dB sz3 (v := kq) rfl rfl dc (by omega) (by omega)) (qD rfl (zI (r := ((fs.getD a default).r).getD q5 0) rfl ag3 (z := (q5 : Int)) rfl dc (dX aw.pins (dW (dW (dW (dW (dW (dW am ae) q) s) x) ag) ap)) (by omega) (by omega)) (qM (vJ (gs.length : Int)) ?_))
 refine qD rfl (nW rfl rfl (by omega)) (qM (vJ (b : Int)) ?_)
 refine qD rfl (yJ rfl rfl (by omega)) (qD rfl (zJ dB sz3 (v := atB) rfl rfl b4.read (by omega) (by omega)) (qD rfl (zI (r := atsB.getD (((((fs.getD a default).r).getD q5 0) * (gs.length : Int)) + (b : Int)).toNat 0) rfl ag3 (z := (((((fs.getD a default).r).getD q5 0) * (gs.length : Int)) + (b : Int))) rfl b4.read (Gadd.pins aw.pins atB) (by omega) (by omega)) (qI rfl (yG (E := eInt) (e := 3) [(vJ (atsB.getD (((((fs.getD a default).r).getD q5 0) * (gs.length : Int)) + (b : Int)).toNat 0))] [atsB.getD (((((fs.getD a default).r).getD q5 0) * (gs.length : Int)) + (b : Int)).toNat 0] dB sz3 zr3 (by exact xK (by rfl)) (yO (by rfl)) rfl rfl rfl rfl (by decide) aw.pins (fun f1 ks kt ku a3 o0 => ?_)))))
 have dd := aw.step ku a3
 have f2 := ft.below a3
 have f3 := fu.below a3
 have f4 := b4.below a3
 have f5 := fv.below a3
 have f6 := fw.below a3
 have f7 := fx.below a3
 have f8 := fy.below a3
 have kv := kt.weaken aw.size
 refine qI rfl (oA (E := eInt) (v := ao) (u := f1) 8 dB ap3 (by decide) rfl rfl dd.pins f2 kv.src (dd.size) (fun f9 o1 kw kx ba bh => ?_))
 have ky := dd.write kx ba ((yH f2))
 have kz := f3.keptA ba c6.symm
 have k0 := f4.keptA ba c7.symm
 have k1 := f5.keptA ba c8.symm
 have k2 := f6.keptA ba c9.symm
 have k3 := f7.keptA ba da.symm
 have k4 := f8.keptA ba db.symm
 have k5 := zE c6.symm bh f3.lt
 have k6 := zE c7.symm bh f4.lt
 have k7 := zE c8.symm bh f5.lt
 have k8 := zE c9.symm bh f6.lt
 have k9 := zN da.symm bh f7.lt
 have la := zN db.symm bh f8.lt
 have o2 := la1 l5 (atsB.getD (((((fs.getD a default).r).getD q5 0) * (gs.length : Int)) + (b : Int)).toNat 0)
 refine qM f9 ?_
 refine qe (yA (zA (zC ?_)))
 refine qM (vJ (q5 : Int)) ?_
 refine qD rfl (yJ rfl rfl (by omega)) (qM (vJ ((q5 : Int) + 1)) ?_)
 refine qe (yD (⟨_, ?_, _, rfl, _, q5 + 1, f9, l5 ++ ([atsB.getD (((((fs.getD a default).r).getD q5 0) * (gs.length : Int)) + (b : Int)).toNat 0]), ak, (pS 14 (pS 11 (pS 10 (pS 9 (pS 8 (pS 7 (pS 6 (pS 5 (pS 4 (pS 3 (pU 2))))))))))), rfl, ky, ap, (by omega), (by rw [fq]; exact (pQ (f := (fun o => o * (gs.length : Int) + (b : Int))) ([]) (by omega)).symm), (by rw [List.length_append, fr]; rfl), kw, kz, k0, k1, k2, k3, k4, k5.symm, k6.symm, k7.symm, k8.symm, k9.symm, la.symm⟩))
 omega
 refine wp_exit (zV (yK (yE (zA (zB (zB (zC ?_)))))))
 refine qM (vJ 0) ?_
 refine qe (zA ?_)
 refine zW (yS (fun k en W => ∃ (af : Nat → Value) (q6 : Nat) (al : Value) (l6 : List Int) (aq : Pin), en = (upd (upd (upd (upd (upd (upd (upd (upd (upd (upd (upd af 2 (vP b1)) 3 (vP a6)) 4 (vP g)) 5 (vP c)) 6 (vJ (gs.length : Int))) 7 atB) 8 (vJ (a : Int))) 9 (vJ (b : Int))) 10 ac) 11 al) 15 (vJ (q6 : Int))) ∧ k = (gs.getD b default).r.length - q6 ∧ Ext noS G w aq W ∧ Pin.le ak aq ∧ (q6 ≤ (gs.getD b default).r.length) ∧ (l6 = atL atsB ((fs.getD a default).r.map (fun o => o * (gs.length : Int) + (b : Int))) ++ atL atsB (((gs.getD b default).r.take q6).map (fun o => (a : Int) * (gs.length : Int) + o))) ∧ (l6.length = (fs.getD a default).r.length + q6) ∧ (Own eInt 3 aq W w.heap.size al (l6)) ∧ (Own eInt 3 aq W w.heap.size ac (l4)) ∧ (Own eInt 3 aq W w.heap.size atB (atsB)) ∧ (Own eNode 69 aq W 0 uB (nsB)) ∧ (Own eInt 3 aq W 0 vB (bsB)) ∧ (Bx aq W g [vN]) ∧ (Bx aq W c [uB, vB]) ∧ (Apart al.ownBlock ac.ownBlock) ∧ (Apart al.ownBlock atB.ownBlock) ∧ (Apart al.ownBlock uB.ownBlock) ∧ (Apart al.ownBlock vB.ownBlock) ∧ (Apart al.ownBlock (some g)) ∧ (Apart al.ownBlock (some c))) _ ⟨_, 0, ao, l5, ak, (pS 15 (pS 11 (pS 10 (pS 9 (pS 8 (pS 7 (pS 6 (pS 5 (pS 4 (pS 3 (pU 2))))))))))), rfl, aw, Pin.le_refl _, Nat.zero_le _, (by rw [fq, qS (by omega)]; simp [atL]), (by rw [fr]; omega), ft, fu, b4, fv, fw, fx, fy, c6, c7, c8, c9, da, db⟩ ?_)
 rintro o3 _ o4 ⟨af, q6, al, l6, aq, rfl, o5, ax, bb, o6, ga, lb, gb, gc, b5, gd, ge, gf, gg, de, df, dg, dh, di, dj⟩
 refine zB (zB (zC ?_))
 refine qM (vJ (q6 : Int)) ?_
 refine qD rfl (zK (k := 0) rfl dE rfl nz24 rfl) (qD rfl (zL (u := v) ag24 rfl ((dX ax.pins (dW (dW (dW (dW (dW q s) x) ag) ap) bb)) _ _ _ (bn 0 _ rfl))) (qM (vJ (b : Int)) ?_))
 refine qD rfl (zJ dC sz69 (v := v) rfl rfl hv (by omega) (by omega)) (qD rfl (xF (off := 1) dF rfl rfl nz48 (z := (b : Int)) (k := 0) rfl hv (by omega) (by omega)) ?_)
 obtain ⟨lc, gh, ld⟩ := kE (hv.at (z := (b : Int)) (by omega) (by omega)) (j := b) rfl
 have o7 := gh.max
 refine qD rfl (ld ag48 rfl (dX ax.pins (dW (dW (dW (dW (dW (dW (dW am ae) q) s) x) ag) ap) bb))) (qD rfl (zP dB (v := lc) rfl gh) (qD rfl (yX rfl rfl) (qe (zA ?_))))
 refine yC (p := ((q6 : Int) : Int) < (((gs.getD b default).r).length : Int)) rfl rfl (fun lf => ?_) (fun lf => ?_)
 have o8 := og.2 _ (zZ (d := (0 : Int)) (show q6 < (gs.getD b default).r.length by omega))
 have o9 := Int.mul_nonneg (show (0 : Int) ≤ (a : Int) by omega) (show (0 : Int) ≤ (gs.length : Int) by omega)
 refine wp_skip (zA (zB ?_))
 refine zW (zC (qM al ?_))
 refine qM atB ?_
 refine qM (vJ (a : Int)) ?_
 refine qM (vJ (gs.length : Int)) ?_
 refine qD rfl (nW rfl rfl (by omega)) (qD rfl (zK (k := 0) rfl dE rfl nz24 rfl) (qD rfl (zL (u := v) ag24 rfl ((dX ax.pins (dW (dW (dW (dW (dW q s) x) ag) ap) bb)) _ _ _ (bn 0 _ rfl))) (qM (vJ (b : Int)) ?_)))
 refine qD rfl (zJ dC sz69 (v := v) rfl rfl hv (by omega) (by omega)) (qD rfl (xF (off := 1) dF rfl rfl nz48 (z := (b : Int)) (k := 0) rfl hv (by omega) (by omega)) ?_)
 obtain ⟨lg, dk, lh⟩ := kE (hv.at (z := (b : Int)) (by omega) (by omega)) (j := b) rfl
 have pa := dk.max
 refine qD rfl (lh ag48 rfl (dX ax.pins (dW (dW (dW (dW (dW (dW (dW am ae) q) s) x) ag) ap) bb))) (qM (vJ (q6 : Int)) ?_)
 refine qD rfl (zJ dB sz3 (v := lg) rfl rfl dk (by omega) (by omega)) (qD rfl (zI (r := ((gs.getD b default).r).getD q6 0) rfl ag3 (z := (q6 : Int)) rfl dk (dX ax.pins (dW (dW (dW (dW (dW (dW (dW am ae) q) s) x) ag) ap) bb)) (by omega) (by omega)) (qD rfl (yJ rfl rfl (by omega)) (qD rfl (zJ dB sz3 (v := atB) rfl rfl b5.read (by omega) (by omega)) (qD rfl (zI (r := atsB.getD (((a : Int) * (gs.length : Int)) + (((gs.getD b default).r).getD q6 0)).toNat 0) rfl ag3 (z := (((a : Int) * (gs.length : Int)) + (((gs.getD b default).r).getD q6 0))) rfl b5.read (Gadd.pins ax.pins atB) (by omega) (by omega)) (qI rfl (yG (E := eInt) (e := 3) [(vJ (atsB.getD (((a : Int) * (gs.length : Int)) + (((gs.getD b default).r).getD q6 0)).toNat 0))] [atsB.getD (((a : Int) * (gs.length : Int)) + (((gs.getD b default).r).getD q6 0)).toNat 0] dB sz3 zr3 (by exact xK (by rfl)) (yO (by rfl)) rfl rfl rfl rfl (by decide) ax.pins (fun gi li lj lk a4 pb => ?_)))))))
 have dl := ax.step lk a4
 have gj := gb.below a4
 have gk := gc.below a4
 have gl := b5.below a4
 have gm := gd.below a4
 have gn := ge.below a4
 have gp := gf.below a4
 have gq := gg.below a4
 have ll := lj.weaken ax.size
 refine qI rfl (oA (E := eInt) (v := al) (u := gi) 8 dB ap3 (by decide) rfl rfl dl.pins gj ll.src (dl.size) (fun gr pc lm ln bc bi => ?_))
 have lo := dl.write ln bc ((yH gj))
 have lp := gk.keptA bc de.symm
 have lq := gl.keptA bc df.symm
 have lr := gm.keptA bc dg.symm
 have ls := gn.keptA bc dh.symm
 have lu := gp.keptA bc di.symm
 have lv := gq.keptA bc dj.symm
 have lw := zE de.symm bi gk.lt
 have lx := zE df.symm bi gl.lt
 have ly := zE dg.symm bi gm.lt
 have lz := zE dh.symm bi gn.lt
 have l0 := zN di.symm bi gp.lt
 have l1 := zN dj.symm bi gq.lt
 have pe := la1 l6 (atsB.getD (((a : Int) * (gs.length : Int)) + (((gs.getD b default).r).getD q6 0)).toNat 0)
 refine qM gr ?_
 refine qe (yA (zA (zC ?_)))
 refine qM (vJ (q6 : Int)) ?_
 refine qD rfl (yJ rfl rfl (by omega)) (qM (vJ ((q6 : Int) + 1)) ?_)
 refine qe (yD (⟨_, ?_, _, rfl, _, q6 + 1, gr, l6 ++ ([atsB.getD (((a : Int) * (gs.length : Int)) + (((gs.getD b default).r).getD q6 0)).toNat 0]), aq, (pS 15 (pS 11 (pS 10 (pS 9 (pS 8 (pS 7 (pS 6 (pS 5 (pS 4 (pS 3 (pU 2))))))))))), rfl, lo, bb, (by omega), (by rw [ga]; exact (pQ (f := (fun o => (a : Int) * (gs.length : Int) + o)) (atL atsB ((fs.getD a default).r.map (fun o => o * (gs.length : Int) + (b : Int)))) (by omega)).symm), (by rw [List.length_append, lb]; simp; omega), lm, lp, lq, lr, ls, lu, lv, lw.symm, lx.symm, ly.symm, lz.symm, l0.symm, l1.symm⟩))
 omega
 refine wp_exit (zV (yK (yE (zA (zC ?_)))))
 have e4 : l4 = atL atsB (ixS (gs.length : Int) (fs.getD a default).l (gs.getD b default).l (a : Int) (b : Int)) := by rw [e9, qS (by omega), ← atL_app]; rfl
 have e6 : l6 = atL atsB (ixS (gs.length : Int) (fs.getD a default).r (gs.getD b default).r (a : Int) (b : Int)) := by rw [ga, qS (by omega), ← atL_app]; rfl
 have hol := sum_opts hnkB (by omega) oo.1 og.1
 rw [← e4] at hol
 have hor := sum_opts hnkB (by omega) oo.2 og.2
 rw [← e6] at hor
 have hpt := rK (xs := l4) (ys := l6) hokB (by omega) ⟨by omega, by omega⟩ hol.1 hor.1
 refine qM atB ?_
 refine qM (vP c) ?_
 refine qM ac ?_
 refine qM al ?_
 obtain ⟨pf, bq, l8, l9, bj⟩ := gc.sealed ax
 have ma := gb.moreO bq bj de
 have mb := b5.moreO bq bj cy.symm
 have mc := gd.moreO bq bj cz.symm
 have md := ge.moreO bq bj c0.symm
 have me := gf.moreO bj c2.symm
 have mf := gg.moreO bj c3.symm
 obtain ⟨pg, br, b6, mg, bs⟩ := ma.sealed l8
 have dm := mb.moreO br bs df.symm
 have mh := mc.moreO br bs dg.symm
 have mi := md.moreO br bs dh.symm
 have dn := me.moreO bs di.symm
 have mj := mf.moreO bs dj.symm
 refine qI rfl (zF (vs := [(vP c), ac, al]) Tryz.func78 nm78 rfl rfl rfl ?_)
 refine dY (kP b6.pins ⟨mj, mh, mi, ec.symm, ee.symm, ea⟩ hokB.ar.ok (l9.mono br) mg ⟨by omega, by omega⟩ (jY hol.1) (jY hor.1)) ?_
 rintro _ ph ⟨mk, ml, gt, rfl, bk, b7, dp, dq⟩
 refine ⟨_, rfl, ?_⟩
 have dr : ∀ i, inS c uB vB i → w.heap.size ≤ i ∨ noS i := jD (zY hq) ef eg
 have ds := b6.trans b7 dr
 have dt := notS (u := uB) (v := vB) b0 d8 d9
 have mm := dm.extS b7 dt
 have gu := qO dp dt (qK dm)
 have gv := qO dq dt (qK dm)
 have du := notS (u := uB) (v := vB) hp.symm eb.symm ed.symm
 have mn := dn.extS b7 (notSb du)
 have mo := qO dp du (tE dn)
 have mp := qO dq du (tE dn)
 have mq := bk.bx
 have mr := bk.ou
 have ms := bk.ov
 have mt := bk.abu
 have mu := bk.abv
 have mv := bk.auv
 have mw := xD dp dr b6.size
 have mx := xD dq dr b6.size
 refine qI rfl (yG (E := eInt) (e := 3) [(vJ (putK nsB bsB l4 l6))] [putK nsB bsB l4 l6] dB sz3 zr3 (by exact xK (by rfl)) (yO (by rfl)) rfl rfl rfl rfl (by decide) ds.pins (fun gw my mz m0 bl pi => ?_))
 have dv := ds.step m0 bl
 have gx := mm.below bl
 have gy := mr.below bl
 have gz := ms.below bl
 have g0 := mn.below bl
 have g1 := mq.below bl
 have m1 := mz.weaken ds.size
 refine qI rfl (oA (E := eInt) (v := atB) (u := gw) 8 dB ap3 (by decide) rfl rfl dv.pins gx m1.src (dv.size) (fun g2 pj m2 m3 bt b8 => ?_))
 have m4 := dv.write m3 bt ((yH gx))
 have m5 := gy.keptA bt gu.symm
 have m6 := gz.keptA bt gv.symm
 have m7 := g0.keptA bt cm.symm
 have m8 := g1.keptA bt b0.symm
 have m9 := zE gu.symm b8 gy.lt
 have na := zE gv.symm b8 gz.lt
 have nb := zN cm.symm b8 g0.lt
 have nc := zN b0.symm b8 g1.lt
 have pk := la1 atsB (putK nsB bsB l4 l6)
 refine qM g2 ?_
 refine qe (yA (zA (zC ?_)))
 refine qM (vJ (b : Int)) ?_
 refine qD rfl (yJ rfl rfl (by omega)) (qM (vJ ((b : Int) + 1)) ?_)
 refine qe (yD (⟨_, ?_, _, rfl, _, b + 1, g2, atsB ++ ([putK nsB bsB l4 l6]), mk, ml, putN nsB bsB l4 l6, putB nsB bsB l4 l6, gt, (pS 9 (pS 8 (pS 7 (pS 6 (pS 5 (pS 4 (pS 3 (pU 2)))))))), rfl, m4, (dW (dW (dW (dW (dW (dW (dW s x) ag) ap) bb) bq) br) b7.le), (by omega), hpt.ok, (hnkB.snoc hpt.px hokB hpt.ok hpt.pl (hpt.pd.trans (by rw [hol.2, hor.2, mV (by omega)]; exact sum_den hf.opts hg.opts (by omega) (by omega)))), (by have := hpt.len; omega), m2, m5, m6, m7, m8, m9.symm, na.symm, nb.symm, nc.symm, mv, mo.symm, mt.symm, mp.symm, mu.symm, mw, mx⟩))
 omega
 refine wp_exit (zV (yK (yE (yA (zA (zC ?_))))))
 refine qM (vJ (a : Int)) ?_
 refine qD rfl (yJ rfl rfl (by omega)) (qM (vJ ((a : Int) + 1)) ?_)
 refine qe (yD (⟨_, ?_, _, rfl, _, a + 1, atB, atsB, uB, vB, nsB, bsB, GB, (pS 8 (pS 7 (pS 6 (pS 5 (pS 4 (pS 3 (pU 2))))))), rfl, bz, (dW q s), (by omega), hokB, (by have e : b = gs.length := (by omega); have h9 := hnkB; rw [e] at h9; rw [Nat.add_mul, Nat.one_mul]; exact h9), (by rw [Nat.add_mul, Nat.one_mul]; omega), ch, ci, cj, ck, cl, d8, d9, cm, b0, ea, eb, ec, ed, ee, ef, eg⟩))
 omega
 refine wp_exit (zV (yK (yE (zA (zB (zC ?_))))))
 have hin : a = fs.length := by omega
 have hile : a * gs.length ≤ 524288 := by rw [hin]; exact hs
 have hlx := last_ix (m := a) (n := gs.length) (by omega) (by omega)
 have hrt := hnkA.at_ (i := a * gs.length - 1) (by omega)
 rw [show a * gs.length - 1 = ((atsA.length : Int) - 1).toNat by omega] at hrt
 have hgo : sumPhi fs gs ((atsA.length : Int) - 1).toNat = addG (gOf fs) (gOf gs) := by rw [show ((atsA.length : Int) - 1).toNat = a * gs.length - 1 by omega, hlx.1, mV (by omega), hin]; rfl
 rw [hgo] at hrt
 refine qM (vP c) ?_
 refine qM atA ?_
 refine qM atA ?_
 refine qD rfl (zP dB (v := atA) rfl bv.read) (qD rfl (qC rfl rfl (by omega)) (qD rfl (zJ dB sz3 (v := atA) rfl rfl bv.read (by omega) (by omega)) (qD rfl (zI (r := atsA.getD ((atsA.length : Int) - 1).toNat 0) rfl ag3 (z := ((atsA.length : Int) - 1)) rfl bv.read (Gadd.pins bo.pins atA) (by omega) (by omega)) (qI rfl (zF (vs := [(vP c), (vJ (atsA.getD ((atsA.length : Int) - 1).toNat 0))]) Tryz.func48 nm48 rfl rfl rfl ?_)))))
 refine dY (tP bo.pins ⟨d4, d1, d2, d6.symm, d7.symm, d5⟩ hokA.ar.ok hrt.1) ?_
 rintro _ pm ⟨b9, pn, rfl, g3, g4⟩
 refine ⟨_, rfl, ?_⟩
 have g5 := bo.tr g4
 have nd := d3.ext g4
 refine q0 rfl rfl rfl (o_stp (cs' := [b9]) (us := [b9]) (v := (.agg [b9].toArray)) sz26 rfl rfl rfl (yO g3.one) g5.pins nd (dZ rfl) rfl (fun po ne nf ng pp => ?_))
 have nh := g5.write nf ng ((zY hm))
 refine qe (zA ?_)
 exact wp_ret (zO (qE (cs := [b9]) rfl rfl rfl ag26 sz26 (fun j u hj => by rw [Nat.zero_add]; exact ne.cell hj) (⟨_, _, rfl, (by rw [← hrt.2, ← kK hokA hrt.1]; exact g3), nh⟩)))
theorem l3If_spec {w : World} (hP : Pins G w) (hv : RSl eNode G v fs) :
  Calls Tryz.prog 43 [(.agg [v].toArray)].toArray w fun e w' => ∃ (u : Value) (G' : Pin), e = .returned (.tuple #[(.agg [u].toArray), .bool (decP (FitsP fs))]) ∧ RSl eNode G' u (ifF fs) ∧ Ext noS G w G' w' := by
 refine zU (n := 9) Tryz.func43 Tryz.ntmps43 rfl rfl ?_
 have d := exr noS hP
 refine zB (zC ?_)
 refine qI rfl (xH [v] (v := (.agg [v].toArray)) rfl rfl d.pins (fun o w2 al p q r => ?_))
 have s := d.step q r
 have t : w.heap.size ≤ o := by have := d.size; omega
 obtain ⟨G9, i, f, k, an⟩ := p.shut s t
 refine qI rfl (yM [vN] zr26 rfl f.pins (fun x ao ap y aa ab => ?_))
 have g := f.step aa ab
 have l : w.heap.size ≤ x := by have := f.size; omega
 refine qM (.bool false) ?_
 refine qe (zA (zB (zB (zC ?_))))
 refine qD rfl (zT (cs := [v]) ag26 sz26 rfl (fun j u hj => g.pins _ _ _ (k _ _ (by simpa using hj)))) (qI rfl (zF (vs := [(.agg [v].toArray)]) Tryz.func45 nm45 rfl rfl rfl ?_))
 refine dY (pB g.pins (hv.mono i)) ?_
 rintro _ aq ⟨ar, rfl, c⟩
 refine ⟨_, rfl, ?_⟩
 have a := g.tr c
 have m := y.ext c
 refine qD rfl (xR rfl) (qe (zA ?_))
 refine qY rfl rfl (fun b => ?_) (fun b => ?_)
 refine wp_skip (zA (zB (zC ?_)))
 refine qD rfl (zT (cs := [v]) ag26 sz26 rfl (fun j u hj => (dX a.pins c.le) _ _ _ (k _ _ (by simpa using hj)))) (q0 rfl rfl rfl (o_stp (cs' := [v]) (us := [v]) (v := (.agg [v].toArray)) sz26 rfl rfl rfl (yO hv.one) a.pins m (dZ rfl) rfl (fun au ac ad ae av => ?_)))
 have af := a.write ad ae ((zY l))
 refine qM (.bool true) ?_
 refine qe (zA ?_)
 exact wp_ret (zO (xY (cs := [v]) (v := (.bool true)) rfl rfl rfl rfl rfl ag26 sz26 (fun j u hj => by rw [Nat.zero_add]; exact ac.cell hj) (⟨_, _, congrArg (fun z => Ending.returned (Value.tuple #[(.agg [v].toArray), Value.bool z])) (b).symm, (by unfold ifF; rw [b]; exact (hv.mono (dW i c.le))), af⟩)))
 refine zB (zC ?_)
 refine qD rfl (xB [vN] [vN] [] dE zr26 rfl pl26 rfl (fun _ h => by cases h) rfl) (q0 rfl rfl rfl (o_stp (cs' := [vN]) (us := [vN]) (v := (.agg [vN].toArray)) sz26 rfl rfl rfl (yO (by rfl)) a.pins m (dZ rfl) rfl (fun aw ag ah ai ax => ?_)))
 have aj := a.write ah ai ((zY l))
 refine qM (.bool false) ?_
 refine qe (zA ?_)
 exact wp_ret (zO (xY (cs := [vN]) (v := (.bool false)) rfl rfl rfl rfl rfl ag26 sz26 (fun j u hj => by rw [Nat.zero_add]; exact ag.cell hj) (⟨_, _, congrArg (fun z => Ending.returned (Value.tuple #[(.agg [vN].toArray), Value.bool z])) (b).symm, (by unfold ifF; rw [b]; exact xP _ _), aj⟩)))
end SM1
end Go.Proofs.YtjdchbdfohiaaaaGreatDoor
namespace Go.Proofs.YtjdchbdfohiaaaaGreatDoor
namespace NU1
open Go.RowKit Go.GL Go.Proofs
open B1 C1 D1 E1 K1 PO1 PL1
theorem qQ {w : World} {G : Pin} {t z : Int} (hP : Pins G w) :
  Calls Tryz.prog 25 [(.agg [(vJ t), (vJ z)].toArray)].toArray w fun e w' => ∃ G', e = .returned (.bool (decP (GoodD t z))) ∧ Ext noS G w G' w' := by
 refine zU (n := 32) Tryz.func25 Tryz.ntmps25 rfl rfl ?_
 have d := exr noS hP
 refine zB (zC ?_)
 refine qI rfl (xH [(vJ t), (vJ z)] (v := (.agg [(vJ t), (vJ z)].toArray)) rfl rfl d.pins (fun j w2 ad l m o => ?_))
 have q := d.step m o
 have r : w.heap.size ≤ j := by have := d.size; omega
 obtain ⟨G9, af, a, b, ag⟩ := l.shut q r
 refine qM (.bool false) ?_
 refine qe (zA (zB (zC ?_)))
 refine qD rfl (zK (k := 0) rfl dD rfl nz3 rfl) (qD rfl (zL (u := (vJ t)) ag3 rfl (a.pins _ _ _ (b 0 _ rfl))) (qD rfl (fN rfl rfl) (qM (.bool (decide (((-1000000) : Int) ≤ t))) ?_)))
 refine qbd (p := ((-1000000) : Int) ≤ t) (t := 6) rfl (fun s => ?_) (fun s => ?_)
 refine qN (zK (k := 0) rfl dD rfl nz3 rfl) ?_
 refine qN (zL (u := (vJ t)) ag3 rfl (a.pins _ _ _ (b 0 _ rfl))) ?_
 refine qN (gR rfl rfl) ?_
 refine qD rfl (yR (v := (.bool (decide ((t : Int) ≤ 1000000)))) rfl rfl) (qM (.bool (decide ((t : Int) ≤ 1000000))) ?_)
 refine qbd (p := (t : Int) ≤ 1000000) (t := 11) rfl (fun x => ?_) (fun x => ?_)
 refine qN (zK (k := 1) rfl dD rfl nz3 rfl) ?_
 refine qN (zL (u := (vJ z)) ag3 rfl (a.pins _ _ _ (b 1 _ rfl))) ?_
 refine qN (fN rfl rfl) ?_
 refine qD rfl (yR (v := (.bool (decide ((0 : Int) ≤ z)))) rfl rfl) (qM (.bool (decide ((0 : Int) ≤ z))) ?_)
 refine qbd (p := (0 : Int) ≤ z) (t := 16) rfl (fun y => ?_) (fun y => ?_)
 refine qN (zK (k := 1) rfl dD rfl nz3 rfl) ?_
 refine qN (zL (u := (vJ z)) ag3 rfl (a.pins _ _ _ (b 1 _ rfl))) ?_
 refine qN (gR rfl rfl) ?_
 refine qD rfl (yR (v := (.bool (decide ((z : Int) ≤ 16)))) rfl rfl) (qM (.bool (decide ((z : Int) ≤ 16))) ?_)
 refine qbd (p := (z : Int) ≤ 16) (t := 21) rfl (fun aa => ?_) (fun aa => ?_)
 refine qN (zK (k := 1) rfl dD rfl nz3 rfl) ?_
 refine qN (zL (u := (vJ z)) ag3 rfl (a.pins _ _ _ (b 1 _ rfl))) ?_
 refine qN (xU rfl rfl) ?_
 refine qN (zR (v := (.bool (decide ((z : Int) = 0)))) rfl) ?_
 refine qbd (p := (z : Int) = 0) (t := 25) rfl (fun ab => ?_) (fun ab => ?_)
 refine qW ?_
 refine qW ?_
 refine qW ?_
 refine qW ?_
 refine qN (yR (v := (.bool true)) rfl rfl) ?_
 refine qD rfl (yR (v := (.bool true)) rfl rfl) (qM (.bool true) ?_)
 refine qe (zA ?_)
 exact wp_ret (zO (zQ (v := (.bool true)) rfl rfl rfl (⟨_, congrArg (fun z => Ending.returned (Value.bool z)) (decP_true.2 ⟨by omega, by omega, by omega⟩).symm, a⟩)))
 refine qN (zK (k := 0) rfl dD rfl nz3 rfl) ?_
 refine qN (zL (u := (vJ t)) ag3 rfl (a.pins _ _ _ (b 0 _ rfl))) ?_
 refine qN (r_rem2 rfl rfl) ?_
 refine qN (gQ rfl rfl) ?_
 refine qN (yI (v := (.bool (decide ((t.tmod 2 : Int) ≠ 0)))) rfl rfl) ?_
 refine qD rfl (yR (v := (.bool (decide ((t.tmod 2 : Int) ≠ 0)))) rfl rfl) (qM (.bool (decide ((t.tmod 2 : Int) ≠ 0))) ?_)
 refine qe (zA ?_)
 exact wp_ret (zO (zQ (v := (.bool (decide ((t.tmod 2 : Int) ≠ 0)))) rfl rfl rfl (⟨_, congrArg (fun z => Ending.returned (Value.bool z)) (decP_dec.symm.trans (tC ⟨fun h => ⟨by omega, by omega, by omega⟩, fun g => by have c := g.odd; omega⟩)), a⟩)))
 refine qW ?_
 refine qW ?_
 refine qW ?_
 refine qW ?_
 refine qX ?_
 refine qX ?_
 refine qX ?_
 refine qX ?_
 refine qW ?_
 refine qD rfl (yI (v := (.bool false)) rfl rfl) (qM (.bool false) ?_)
 refine qe (zA ?_)
 exact wp_ret (zO (zQ (v := (.bool false)) rfl rfl rfl (⟨_, congrArg (fun z => Ending.returned (Value.bool z)) (decP_false.2 (fun g => by have f := g.top; have i := g.pow; have c := g.odd; omega)).symm, a⟩)))
 refine qW ?_
 refine qW ?_
 refine qW ?_
 refine qD rfl (yI (v := (.bool false)) rfl rfl) (qM (.bool false) ?_)
 refine qW ?_
 refine qW ?_
 refine qW ?_
 refine qW ?_
 refine qX ?_
 refine qX ?_
 refine qX ?_
 refine qX ?_
 refine qW ?_
 refine qD rfl (yI (v := (.bool false)) rfl rfl) (qM (.bool false) ?_)
 refine qe (zA ?_)
 exact wp_ret (zO (zQ (v := (.bool false)) rfl rfl rfl (⟨_, congrArg (fun z => Ending.returned (Value.bool z)) (decP_false.2 (fun g => by have f := g.top; have i := g.pow; have c := g.odd; omega)).symm, a⟩)))
 refine qW ?_
 refine qW ?_
 refine qW ?_
 refine qD rfl (yI (v := (.bool false)) rfl rfl) (qM (.bool false) ?_)
 refine qW ?_
 refine qW ?_
 refine qW ?_
 refine qD rfl (yI (v := (.bool false)) rfl rfl) (qM (.bool false) ?_)
 refine qW ?_
 refine qW ?_
 refine qW ?_
 refine qW ?_
 refine qX ?_
 refine qX ?_
 refine qX ?_
 refine qX ?_
 refine qW ?_
 refine qD rfl (yI (v := (.bool false)) rfl rfl) (qM (.bool false) ?_)
 refine qe (zA ?_)
 exact wp_ret (zO (zQ (v := (.bool false)) rfl rfl rfl (⟨_, congrArg (fun z => Ending.returned (Value.bool z)) (decP_false.2 (fun g => by have f := g.top; have i := g.pow; have c := g.odd; omega)).symm, a⟩)))
 refine qW ?_
 refine qW ?_
 refine qW ?_
 refine qD rfl (yI (v := (.bool false)) rfl rfl) (qM (.bool false) ?_)
 refine qW ?_
 refine qW ?_
 refine qW ?_
 refine qD rfl (yI (v := (.bool false)) rfl rfl) (qM (.bool false) ?_)
 refine qW ?_
 refine qW ?_
 refine qW ?_
 refine qD rfl (yI (v := (.bool false)) rfl rfl) (qM (.bool false) ?_)
 refine qW ?_
 refine qW ?_
 refine qW ?_
 refine qW ?_
 refine qX ?_
 refine qX ?_
 refine qX ?_
 refine qX ?_
 refine qW ?_
 refine qD rfl (yI (v := (.bool false)) rfl rfl) (qM (.bool false) ?_)
 refine qe (zA ?_)
 exact wp_ret (zO (zQ (v := (.bool false)) rfl rfl rfl (⟨_, congrArg (fun z => Ending.returned (Value.bool z)) (decP_false.2 (fun g => by have f := g.top; have i := g.pow; have c := g.odd; omega)).symm, a⟩)))
end NU1
end Go.Proofs.YtjdchbdfohiaaaaGreatDoor
namespace Go.Proofs.YtjdchbdfohiaaaaGreatDoor
namespace NU2
open Go.RowKit Go.GL Go.Proofs
open B1 C1 D1 E1 K1 PO1 PL1 NU1
theorem pl28 : (Tryz.prog.underlying 28).bind (placesD Tryz.prog) = some [(0, 1), (1, 1)] := by kernel_rfl
theorem gZ {w : World} {G : Pin} {t : Int} {p : Nat} (hP : Pins G w) (hb : -1000000000000000 ≤ t ∧ t ≤ 1000000000000000) (hp : p ≤ 64) :
  Calls Tryz.prog 54 [(vJ t), (vJ (p : Int))].toArray w fun e w' => ∃ G', e = .returned (.tuple #[(.agg [.int .i64 (lowR (decP (GoodD (lowD p t).1 (((lowD p t).2 : Nat) : Int))) (lowD p t).1), .int .i64 (lowR (decP (GoodD (lowD p t).1 (((lowD p t).2 : Nat) : Int))) (((lowD p t).2 : Nat) : Int))].toArray), .bool (decP (GoodD (lowD p t).1 (((lowD p t).2 : Nat) : Int)))]) ∧ Ext noS G w G' w' := by
 refine zU (n := 26) Tryz.func54 Tryz.ntmps54 rfl rfl ?_
 have q := exr noS hP
 refine zB (zC ?_)
 refine qI rfl (yM [(vJ 0), (vJ 0)] zr28 rfl q.pins (fun r w2 b4 au av aw => ?_))
 have ax := q.step av aw
 have o : w.heap.size ≤ r := by have := q.size; omega
 refine qM (.bool false) ?_
 refine qe (zA (zB ?_))
 refine zW (yS (fun k en W => ∃ (ad : Nat → Value) (a : Int) (zp : Int) (f : Pin), en = (upd (upd (upd (upd ad 0 (vJ a)) 1 (vJ zp)) 4 (vP r)) 5 (.bool false)) ∧ k = zp.toNat ∧ Ext noS G w f W ∧ Pin.le G f ∧ (lowD p t = lowD zp.toNat a) ∧ (0 ≤ zp ∧ zp ≤ 64) ∧ (-1000000000000000 ≤ a ∧ a ≤ 1000000000000000) ∧ (Bx f W r [(vJ 0), (vJ 0)])) _ ⟨_, t, (p : Int), G, (pS 5 (pS 4 (pS 1 (pU 0)))), rfl, ax, Pin.le_refl _, (by rw [Int.toNat_natCast]), (by omega), hb, au⟩ ?_)
 rintro k9 _ b6 ⟨ad, a, zp, f, rfl, b7, b, ay, hr, hz, hab, g⟩
 refine zB (zB (zC ?_))
 refine qM (vJ zp) ?_
 refine qD rfl (jO rfl rfl) (qM (.bool (decide ((0 : Int) < zp))) ?_)
 refine qbd (p := (0 : Int) < zp) (t := 9) rfl (fun i => ?_) (fun i => ?_)
 refine qN (zR (v := (vJ a)) rfl) ?_
 refine qN (r_rem2 rfl rfl) ?_
 refine qN (xU rfl rfl) ?_
 refine qD rfl (yR (v := (.bool (decide ((a.tmod 2 : Int) = 0)))) rfl rfl) (qe (zA ?_))
 refine yC (p := (a.tmod 2 : Int) = 0) rfl rfl (fun c => ?_) (fun c => ?_)
 refine wp_skip (zA (zW (zB (zC ?_))))
 refine qM (vJ a) ?_
 refine qD rfl (r_quo2 rfl rfl ((gN _).1 c) (by omega)) (qM (vJ (a / 2)) ?_)
 refine qe (zA (zC ?_))
 refine qM (vJ zp) ?_
 refine qD rfl (qC rfl rfl (by omega)) (qM (vJ (zp - 1)) ?_)
 refine qe (yA (yD (⟨_, ?_, _, rfl, _, a / 2, zp - 1, f, (pS 5 (pS 4 (pS 1 (pU 0)))), rfl, b, ay, (hr.trans (low_even (by omega) c)), (by omega), (by omega), g⟩)))
 omega
 refine wp_exit (zV (yK (yE (zA (zB (zC ?_))))))
 refine qM (vJ a) ?_
 refine qM (vJ zp) ?_
 refine qD rfl (xB [(vJ 0), (vJ 0)] [(vJ a), (vJ zp)] [(0, (vJ a), [(vJ a)]), (1, (vJ zp), [(vJ zp)])] dD zr28 rfl pl28 rfl (List.forall_mem_cons.2 ⟨rfl, (List.forall_mem_cons.2 ⟨rfl, (fun _ h => by cases h)⟩)⟩) rfl) (qI rfl (yM [(vJ 0), (vJ 0)] zr28 rfl b.pins (fun az b8 a0 a1 a2 ae => ?_)))
 have af := b.step a2 ae
 have a3 := g.below ae
 have ag := zH (congrArg some a0) g.lt
 have ah : w.heap.size ≤ az := by have := b.size; omega
 refine q0 rfl rfl rfl (o_stp (cs' := [(vJ a), (vJ zp)]) (us := [(vJ a), (vJ zp)]) (v := (.agg [(vJ a), (vJ zp)].toArray)) sz28 rfl rfl rfl (xG (by rfl) (by rfl)) af.pins a1 (dZ rfl) rfl (fun b9 a4 a5 ai ca => ?_))
 have a6 := af.write a5 ai ((zY ah))
 have a7 := a3.keptA ai ag.symm
 obtain ⟨cb, cc, s, aj, a8⟩ := a4.shut a6 ah
 have a9 := a7.moreA a8 ag.symm
 refine qe (zA (zB (zB (zC ?_))))
 refine qD rfl (zT (cs := [(vJ a), (vJ zp)]) ag28 sz28 rfl (fun j u hj => s.pins _ _ _ (aj _ _ (by simpa using hj)))) (qI rfl (zF (vs := [(.agg [(vJ a), (vJ zp)].toArray)]) Tryz.func25 nm25 rfl rfl rfl ?_))
 refine dY (qQ (t := a) (z := zp) s.pins) ?_
 rintro _ cd ⟨ce, rfl, x⟩
 refine ⟨_, rfl, ?_⟩
 have l := s.tr x
 have ak := a9.ext x
 refine qD rfl (xR rfl) (qe (zA ?_))
 refine qY rfl rfl (fun y => ?_) (fun y => ?_)
 refine wp_skip (zA (zB (zC ?_)))
 refine qD rfl (zT (cs := [(vJ a), (vJ zp)]) ag28 sz28 rfl (fun j u hj => (dX l.pins x.le) _ _ _ (aj _ _ (by simpa using hj)))) (q0 rfl rfl rfl (o_stp (cs' := [(vJ a), (vJ zp)]) (us := [(vJ a), (vJ zp)]) (v := (.agg [(vJ a), (vJ zp)].toArray)) sz28 rfl rfl rfl (xG (by rfl) (by rfl)) l.pins ak (dZ rfl) rfl (fun cf ba bb bc cg => ?_)))
 have bd := l.write bb bc ((zY o))
 refine qM (.bool true) ?_
 refine qe (zA ?_)
 refine wp_ret (zO (xY (cs := [(vJ a), (vJ zp)]) (v := (.bool true)) rfl rfl rfl rfl rfl ag28 sz28 (fun j u hj => by rw [Nat.zero_add]; exact ba.cell hj) ?_))
 have hst := hr.trans (fP hz.1 (by first | exact Or.inl c | exact Or.inr c))
 have d : ((zp.toNat : Nat) : Int) = zp := Int.toNat_of_nonneg hz.1
 rw [hst]
 simp only [d]
 exact ⟨_, by rw [y]; rfl, bd⟩
 refine zB (zC ?_)
 refine qD rfl (xB [(vJ 0), (vJ 0)] [(vJ 0), (vJ 0)] [] dD zr28 rfl pl28 rfl (fun _ h => by cases h) rfl) (q0 rfl rfl rfl (o_stp (cs' := [(vJ 0), (vJ 0)]) (us := [(vJ 0), (vJ 0)]) (v := (.agg [(vJ 0), (vJ 0)].toArray)) sz28 rfl rfl rfl (xG (by rfl) (by rfl)) l.pins ak (dZ rfl) rfl (fun ch be bf bg ci => ?_)))
 have bh := l.write bf bg ((zY o))
 refine qM (.bool false) ?_
 refine qe (zA ?_)
 refine wp_ret (zO (xY (cs := [(vJ 0), (vJ 0)]) (v := (.bool false)) rfl rfl rfl rfl rfl ag28 sz28 (fun j u hj => by rw [Nat.zero_add]; exact be.cell hj) ?_))
 have hst := hr.trans (fP hz.1 (by first | exact Or.inl c | exact Or.inr c))
 have d : ((zp.toNat : Nat) : Int) = zp := Int.toNat_of_nonneg hz.1
 rw [hst]
 simp only [d]
 exact ⟨_, by rw [y]; rfl, bh⟩
 refine qW ?_
 refine qW ?_
 refine qW ?_
 refine qD rfl (yI (v := (.bool false)) rfl rfl) (qe (zA ?_))
 refine qP rfl rfl (wp_exit (zV (yK (yE (zA (zB (zC ?_)))))))
 refine qM (vJ a) ?_
 refine qM (vJ zp) ?_
 refine qD rfl (xB [(vJ 0), (vJ 0)] [(vJ a), (vJ zp)] [(0, (vJ a), [(vJ a)]), (1, (vJ zp), [(vJ zp)])] dD zr28 rfl pl28 rfl (List.forall_mem_cons.2 ⟨rfl, (List.forall_mem_cons.2 ⟨rfl, (fun _ h => by cases h)⟩)⟩) rfl) (qI rfl (yM [(vJ 0), (vJ 0)] zr28 rfl b.pins (fun bi cj bj bk bl al => ?_)))
 have am := b.step bl al
 have bm := g.below al
 have an := zH (congrArg some bj) g.lt
 have ao : w.heap.size ≤ bi := by have := b.size; omega
 refine q0 rfl rfl rfl (o_stp (cs' := [(vJ a), (vJ zp)]) (us := [(vJ a), (vJ zp)]) (v := (.agg [(vJ a), (vJ zp)].toArray)) sz28 rfl rfl rfl (xG (by rfl) (by rfl)) am.pins bk (dZ rfl) rfl (fun ck bn bo ap cl => ?_))
 have bp := am.write bo ap ((zY ao))
 have bq := bm.keptA ap an.symm
 obtain ⟨cm, cn, aa, aq, br⟩ := bn.shut bp ao
 have bs := bq.moreA br an.symm
 refine qe (zA (zB (zB (zC ?_))))
 refine qD rfl (zT (cs := [(vJ a), (vJ zp)]) ag28 sz28 rfl (fun j u hj => aa.pins _ _ _ (aq _ _ (by simpa using hj)))) (qI rfl (zF (vs := [(.agg [(vJ a), (vJ zp)].toArray)]) Tryz.func25 nm25 rfl rfl rfl ?_))
 refine dY (qQ (t := a) (z := zp) aa.pins) ?_
 rintro _ co ⟨cp, rfl, ab⟩
 refine ⟨_, rfl, ?_⟩
 have m := aa.tr ab
 have ar := bs.ext ab
 refine qD rfl (xR rfl) (qe (zA ?_))
 refine qY rfl rfl (fun ac => ?_) (fun ac => ?_)
 refine wp_skip (zA (zB (zC ?_)))
 refine qD rfl (zT (cs := [(vJ a), (vJ zp)]) ag28 sz28 rfl (fun j u hj => (dX m.pins ab.le) _ _ _ (aq _ _ (by simpa using hj)))) (q0 rfl rfl rfl (o_stp (cs' := [(vJ a), (vJ zp)]) (us := [(vJ a), (vJ zp)]) (v := (.agg [(vJ a), (vJ zp)].toArray)) sz28 rfl rfl rfl (xG (by rfl) (by rfl)) m.pins ar (dZ rfl) rfl (fun cq bt bu bv cr => ?_)))
 have bw := m.write bu bv ((zY o))
 refine qM (.bool true) ?_
 refine qe (zA ?_)
 refine wp_ret (zO (xY (cs := [(vJ a), (vJ zp)]) (v := (.bool true)) rfl rfl rfl rfl rfl ag28 sz28 (fun j u hj => by rw [Nat.zero_add]; exact bt.cell hj) ?_))
 have hst := hr.trans (fP hz.1 (by first | exact Or.inl i | exact Or.inr i))
 have d : ((zp.toNat : Nat) : Int) = zp := Int.toNat_of_nonneg hz.1
 rw [hst]
 simp only [d]
 exact ⟨_, by rw [ac]; rfl, bw⟩
 refine zB (zC ?_)
 refine qD rfl (xB [(vJ 0), (vJ 0)] [(vJ 0), (vJ 0)] [] dD zr28 rfl pl28 rfl (fun _ h => by cases h) rfl) (q0 rfl rfl rfl (o_stp (cs' := [(vJ 0), (vJ 0)]) (us := [(vJ 0), (vJ 0)]) (v := (.agg [(vJ 0), (vJ 0)].toArray)) sz28 rfl rfl rfl (xG (by rfl) (by rfl)) m.pins ar (dZ rfl) rfl (fun ct bx bz b0 cu => ?_)))
 have b2 := m.write bz b0 ((zY o))
 refine qM (.bool false) ?_
 refine qe (zA ?_)
 refine wp_ret (zO (xY (cs := [(vJ 0), (vJ 0)]) (v := (.bool false)) rfl rfl rfl rfl rfl ag28 sz28 (fun j u hj => by rw [Nat.zero_add]; exact bx.cell hj) ?_))
 have hst := hr.trans (fP hz.1 (by first | exact Or.inl i | exact Or.inr i))
 have d : ((zp.toNat : Nat) : Int) = zp := Int.toNat_of_nonneg hz.1
 rw [hst]
 simp only [d]
 exact ⟨_, by rw [ac]; rfl, b2⟩
end NU2
end Go.Proofs.YtjdchbdfohiaaaaGreatDoor
namespace Go.Proofs.YtjdchbdfohiaaaaGreatDoor
namespace NU3
open Go.RowKit Go.GL Go.Proofs
open B1 C1 D1 E1 K1 PO1 PL1 NU1
theorem pl28 : (Tryz.prog.underlying 28).bind (placesD Tryz.prog) = some [(0, 1), (1, 1)] := by kernel_rfl
theorem kB {w : World} {G : Pin} {t : Int} {p : Nat} (hP : Pins G w) (hb : -1000000000000000 ≤ t ∧ t ≤ 1000000000000000) (hp : p ≤ 64) :
  Calls Tryz.prog 30 [(vJ t), (vJ (p : Int))].toArray w fun e w' => ∃ G', e = .returned (.agg [.int .i64 (lowD p t).1, .int .i64 (((lowD p t).2 : Nat) : Int)].toArray) ∧ Ext noS G w G' w' := by
 refine zU (n := 19) Tryz.func30 Tryz.ntmps30 rfl rfl ?_
 have f := exr noS hP
 refine zB (zC ?_)
 refine qI rfl (yM [(vJ 0), (vJ 0)] zr28 rfl f.pins (fun g w2 aj r s x => ?_))
 have y := f.step s x
 have o : w.heap.size ≤ g := by have := f.size; omega
 refine qe (zA (zB ?_))
 refine zW (yS (fun k en W => ∃ (q : Nat → Value) (a : Int) (zp : Int) (b : Pin), en = (upd (upd (upd q 0 (vJ a)) 1 (vJ zp)) 4 (vP g)) ∧ k = zp.toNat ∧ Ext noS G w b W ∧ Pin.le G b ∧ (lowD p t = lowD zp.toNat a) ∧ (0 ≤ zp ∧ zp ≤ 64) ∧ (-1000000000000000 ≤ a ∧ a ≤ 1000000000000000) ∧ (Bx b W g [(vJ 0), (vJ 0)])) _ ⟨_, t, (p : Int), G, (pS 4 (pS 1 (pU 0))), rfl, y, Pin.le_refl _, (by rw [Int.toNat_natCast]), (by omega), hb, r⟩ ?_)
 rintro k9 _ al ⟨q, a, zp, b, rfl, am, c, z, hr, hz, hab, i⟩
 refine zB (zB (zC ?_))
 refine qM (vJ zp) ?_
 refine qD rfl (jO rfl rfl) (qM (.bool (decide ((0 : Int) < zp))) ?_)
 refine qbd (p := (0 : Int) < zp) (t := 7) rfl (fun l => ?_) (fun l => ?_)
 refine qN (zR (v := (vJ a)) rfl) ?_
 refine qN (r_rem2 rfl rfl) ?_
 refine qN (xU rfl rfl) ?_
 refine qD rfl (yR (v := (.bool (decide ((a.tmod 2 : Int) = 0)))) rfl rfl) (qe (zA ?_))
 refine yC (p := (a.tmod 2 : Int) = 0) rfl rfl (fun d => ?_) (fun d => ?_)
 refine wp_skip (zA (zW (zB (zC ?_))))
 refine qM (vJ a) ?_
 refine qD rfl (r_quo2 rfl rfl ((gN _).1 d) (by omega)) (qM (vJ (a / 2)) ?_)
 refine qe (zA (zC ?_))
 refine qM (vJ zp) ?_
 refine qD rfl (qC rfl rfl (by omega)) (qM (vJ (zp - 1)) ?_)
 refine qe (yA (yD (⟨_, ?_, _, rfl, _, a / 2, zp - 1, b, (pS 4 (pS 1 (pU 0))), rfl, c, z, (hr.trans (low_even (by omega) d)), (by omega), (by omega), i⟩)))
 omega
 refine wp_exit (zV (yK (yE (zA (zB (zC ?_))))))
 refine qM (vJ a) ?_
 refine qM (vJ zp) ?_
 refine qD rfl (xB [(vJ 0), (vJ 0)] [(vJ a), (vJ zp)] [(0, (vJ a), [(vJ a)]), (1, (vJ zp), [(vJ zp)])] dD zr28 rfl pl28 rfl (List.forall_mem_cons.2 ⟨rfl, (List.forall_mem_cons.2 ⟨rfl, (fun _ h => by cases h)⟩)⟩) rfl) (q0 rfl rfl rfl (o_stp (cs' := [(vJ a), (vJ zp)]) (us := [(vJ a), (vJ zp)]) (v := (.agg [(vJ a), (vJ zp)].toArray)) sz28 rfl rfl rfl (xG (by rfl) (by rfl)) c.pins i (dZ rfl) rfl (fun an aa ab ac ao => ?_)))
 have ad := c.write ab ac ((zY o))
 refine qe (zA ?_)
 refine wp_ret (zO (qE (cs := [(vJ a), (vJ zp)]) rfl rfl rfl ag28 sz28 (fun j u hj => by rw [Nat.zero_add]; exact aa.cell hj) ?_))
 have hst := hr.trans (fP hz.1 (by first | exact Or.inl d | exact Or.inr d))
 have m : ((zp.toNat : Nat) : Int) = zp := Int.toNat_of_nonneg hz.1
 exact ⟨_, by rw [hst]; simp only [m], ad⟩
 refine qW ?_
 refine qW ?_
 refine qW ?_
 refine qD rfl (yI (v := (.bool false)) rfl rfl) (qe (zA ?_))
 refine qP rfl rfl (wp_exit (zV (yK (yE (zA (zB (zC ?_)))))))
 refine qM (vJ a) ?_
 refine qM (vJ zp) ?_
 refine qD rfl (xB [(vJ 0), (vJ 0)] [(vJ a), (vJ zp)] [(0, (vJ a), [(vJ a)]), (1, (vJ zp), [(vJ zp)])] dD zr28 rfl pl28 rfl (List.forall_mem_cons.2 ⟨rfl, (List.forall_mem_cons.2 ⟨rfl, (fun _ h => by cases h)⟩)⟩) rfl) (q0 rfl rfl rfl (o_stp (cs' := [(vJ a), (vJ zp)]) (us := [(vJ a), (vJ zp)]) (v := (.agg [(vJ a), (vJ zp)].toArray)) sz28 rfl rfl rfl (xG (by rfl) (by rfl)) c.pins i (dZ rfl) rfl (fun ap ae af ag aq => ?_)))
 have ah := c.write af ag ((zY o))
 refine qe (zA ?_)
 refine wp_ret (zO (qE (cs := [(vJ a), (vJ zp)]) rfl rfl rfl ag28 sz28 (fun j u hj => by rw [Nat.zero_add]; exact ae.cell hj) ?_))
 have hst := hr.trans (fP hz.1 (by first | exact Or.inl l | exact Or.inr l))
 have m : ((zp.toNat : Nat) : Int) = zp := Int.toNat_of_nonneg hz.1
 exact ⟨_, by rw [hst]; simp only [m], ah⟩
end NU3
end Go.Proofs.YtjdchbdfohiaaaaGreatDoor
namespace Go.Proofs.YtjdchbdfohiaaaaGreatDoor
namespace NB4
open Go.RowKit Go.GL Go.Proofs
open B1 C1 D1 E1 K1 PO1 PL1 PA1 SO1 OD1 FO1 NG1 NF1 NU1 NU2 NU3
theorem pl28 : (Tryz.prog.underlying 28).bind (placesD Tryz.prog) = some [(0, 1), (1, 1)] := by kernel_rfl
variable {G : Pin} {t z : Int} {p : Nat}
theorem fJ {w : World} (hP : Pins G w) (ht : -10000000 ≤ t ∧ t ≤ 10000000) (hz : 0 ≤ z ∧ z ≤ 24) :
  Calls Tryz.prog 98 [(.agg [(.int .i64 t), (.int .i64 z)].toArray)].toArray w fun e w' => ∃ G', e = .returned (.int .i64 (scI 24 t z)) ∧ Ext noS G w G' w' := by
 refine zU (n := 10) Tryz.func98 Tryz.ntmps98 rfl rfl ?_
 have a := exr noS hP
 have hsl := shl_lim (t := t) (k := (24 - z).toNat) ht (by omega)
 refine zB (zC ?_)
 refine qI rfl (xH [(.int .i64 t), (.int .i64 z)] (v := (.agg [(.int .i64 t), (.int .i64 z)].toArray)) rfl rfl a.pins (fun d m o f g h => ?_))
 have i := a.step g h
 have l : w.heap.size ≤ d := by have := a.size; omega
 obtain ⟨p, q, b, c, r⟩ := f.shut i l
 refine qM (.int .i64 0) ?_
 refine qe (zA (zB (zC ?_)))
 refine qD rfl (zK (k := 0) rfl dD rfl nz3 rfl) (qD rfl (zL (u := (.int .i64 t)) ag3 rfl (b.pins _ _ _ (c 0 _ rfl))) (qD rfl (zK (k := 1) rfl dD rfl nz3 rfl) (qD rfl (zL (u := (.int .i64 z)) ag3 rfl (b.pins _ _ _ (c 1 _ rfl))) (qD rfl (qC rfl rfl (by omega)) (qD rfl (gS (j := 24 - z) dJ Tryz.underlying111 rfl (rM (by omega))) (qD rfl (r_shlI rfl rfl (by omega) (by omega)) (qM (.int .i64 (t * 2 ^ (24 - z : Int).toNat)) ?_)))))))
 refine qe (zA ?_)
 exact wp_ret (zO (zQ (v := (.int .i64 (t * 2 ^ (24 - z : Int).toNat))) rfl rfl rfl (⟨_, rfl, b⟩)))
theorem sY {w : World} (hP : Pins G w) (ht : -1000000000000 ≤ t ∧ t ≤ 1000000000000) :
  Calls Tryz.prog 86 [(.agg [(.int .i64 t), (.int .i64 z)].toArray)].toArray w fun e w' => ∃ G', e = .returned (.agg [.int .i64 (-t), .int .i64 z].toArray) ∧ Ext noS G w G' w' := by
 refine zU (n := 9) Tryz.func86 Tryz.ntmps86 rfl rfl ?_
 have b := exr noS hP
 refine zB (zC ?_)
 refine qI rfl (xH [(.int .i64 t), (.int .i64 z)] (v := (.agg [(.int .i64 t), (.int .i64 z)].toArray)) rfl rfl b.pins (fun f w2 ae g i l => ?_))
 have m := b.step i l
 have o : w.heap.size ≤ f := by have := b.size; omega
 obtain ⟨G9, ag, c, d, ah⟩ := g.shut m o
 refine qI rfl (yM [(.int .i64 0), (.int .i64 0)] zr28 rfl c.pins (fun p ai aj q r s => ?_))
 have a := c.step r s
 have x : w.heap.size ≤ p := by have := c.size; omega
 refine qe (zA (zB (zC ?_)))
 refine qD rfl (zK (k := 0) rfl dD rfl nz3 rfl) (qD rfl (zL (u := (.int .i64 t)) ag3 rfl (a.pins _ _ _ (d 0 _ rfl))) (qD rfl (r_neg rfl (by omega)) (qD rfl (zK (k := 1) rfl dD rfl nz3 rfl) (qD rfl (zL (u := (.int .i64 z)) ag3 rfl (a.pins _ _ _ (d 1 _ rfl))) (qD rfl (xB [(.int .i64 0), (.int .i64 0)] [(.int .i64 (-t)), (.int .i64 z)] [(0, (.int .i64 (-t)), [(.int .i64 (-t))]), (1, (.int .i64 z), [(.int .i64 z)])] dD zr28 rfl pl28 rfl (List.forall_mem_cons.2 ⟨rfl, (List.forall_mem_cons.2 ⟨rfl, (fun _ h => by cases h)⟩)⟩) rfl) (q0 rfl rfl rfl (o_stp (cs' := [(.int .i64 (-t)), (.int .i64 z)]) (us := [(.int .i64 (-t)), (.int .i64 z)]) (v := (.agg [(.int .i64 (-t)), (.int .i64 z)].toArray)) sz28 rfl rfl rfl (xG (by rfl) (by rfl)) a.pins q (dZ rfl) rfl (fun ak y aa ab al => ?_))))))))
 have ac := a.write aa ab ((zY x))
 refine qe (zA ?_)
 exact wp_ret (zO (qE (cs := [(.int .i64 (-t)), (.int .i64 z)]) rfl rfl rfl ag28 sz28 (fun j u hj => by rw [Nat.zero_add]; exact y.cell hj) (⟨_, rfl, ac⟩)))
theorem l2Add_spec {w : World} {s y : Int} (hP : Pins G w) (ht : -10000000 ≤ t ∧ t ≤ 10000000) (hz : 0 ≤ z ∧ z ≤ 24) (hs : -10000000 ≤ s ∧ s ≤ 10000000) (hy : 0 ≤ y ∧ y ≤ 24) :
  Calls Tryz.prog 85 [(.agg [(vJ t), (vJ z)].toArray), (.agg [(vJ s), (vJ y)].toArray)].toArray w fun e w' => ∃ G', e = .returned (.agg [.int .i64 (lowD 24 (scI 24 t z + scI 24 s y)).1, .int .i64 (((lowD 24 (scI 24 t z + scI 24 s y)).2 : Nat) : Int)].toArray) ∧ Ext noS G w G' w' := by
 refine zU (n := 11) Tryz.func85 Tryz.ntmps85 rfl rfl ?_
 have f := exr noS hP
 have a6 := tI (D := 24) (t := t) (z := z) ht (by omega)
 have a7 := tI (D := 24) (t := s) (z := y) hs (by omega)
 refine zB (zC ?_)
 refine qI rfl (xH [(vJ t), (vJ z)] (v := (.agg [(vJ t), (vJ z)].toArray)) rfl rfl f.pins (fun b1 w2 a9 ab ac ad => ?_))
 have ae := f.step ac ad
 have af : w.heap.size ≤ b1 := by have := f.size; omega
 obtain ⟨G9, bb, g, ag, bc⟩ := ab.shut ae af
 refine qI rfl (xH [(vJ s), (vJ y)] (v := (.agg [(vJ s), (vJ y)].toArray)) rfl rfl g.pins (fun ah bd be ai aj ak => ?_))
 have al := g.step aj ak
 have am : w.heap.size ≤ ah := by have := g.size; omega
 obtain ⟨an, ao, k, ap, bf⟩ := ai.shut al am
 refine qI rfl (yM [(vJ 0), (vJ 0)] zr28 rfl k.pins (fun aq l bg ar au av => ?_))
 have x := k.step au av
 have aw : w.heap.size ≤ aq := by have := k.size; omega
 refine qe (zA (zB ?_))
 refine yZ (S := fun wz => Pins an wz) (last := 6) (by kernel_rfl) rfl ?_
 have m := bdr l
 have ax := x.pins.below m
 have c := x.step ax m
 have ay := ar.below m
 refine dT (i := 0) rfl rfl (by kernel_rfl) (fun _ hS => zT (cs := [(vJ t), (vJ z)]) ag28 sz28 rfl (fun j u hj => (dX hS ao) _ _ _ (ag _ _ (by simpa using hj)))) c.pins ?_
 refine dT (i := 2) rfl rfl (by kernel_rfl) (fun _ hS => zT (cs := [(vJ s), (vJ y)]) ag28 sz28 rfl (fun j u hj => hS _ _ _ (ap _ _ (by simpa using hj)))) c.pins ?_
 refine dO (i := 1) (zS (i := 1) rfl rfl rfl (zD rfl _) (zF (vs := [(.agg [(vJ t), (vJ z)].toArray)]) Tryz.func98 nm98 rfl rfl rfl ?_))
 refine dY (fJ (t := t) (z := z) c.pins (by omega) (by omega)) ?_
 rintro _ bh ⟨bi, rfl, a⟩
 refine ⟨_, rfl, ?_⟩
 have o := c.tr a
 have az := ay.ext a
 refine ⟨fun _ => (dX o.pins a.le), ?_⟩
 refine dO (i := 3) (zS (i := 3) rfl rfl rfl (zD rfl _) (zF (vs := [(.agg [(vJ s), (vJ y)].toArray)]) Tryz.func98 nm98 rfl rfl rfl ?_))
 refine dY (fJ (t := s) (z := y) o.pins (by omega) (by omega)) ?_
 rintro _ bj ⟨bk, rfl, b⟩
 refine ⟨_, rfl, ?_⟩
 have d := o.tr b
 have a0 := az.ext b
 refine ⟨fun _ => (dX d.pins (dW a.le b.le)), ?_⟩
 refine dT (i := 4) rfl rfl (by kernel_rfl) (fun _ _ => yJ rfl rfl (by omega)) (dX d.pins (dW a.le b.le)) ?_
 refine dO (i := 5) (zS (i := 5) rfl rfl rfl (zD rfl _) (zF (vs := [(vJ ((scI 24 t z) + (scI 24 s y))), (vJ 24)]) Tryz.func30 nm30 rfl rfl rfl ?_))
 refine dY (kB (p := 24) d.pins (by omega) (by omega)) ?_
 rintro _ bl ⟨bm, rfl, q⟩
 refine ⟨_, rfl, ?_⟩
 have r := d.tr q
 have a1 := a0.ext q
 refine ⟨fun _ => (dX r.pins (dW (dW a.le b.le) q.le)), ?_⟩
 refine dO (i := 6) (jB (i := 6) rfl rfl rfl (zD rfl _) (o_stp (cs' := [(vJ ((lowD 24 ((scI 24 t z) + (scI 24 s y))).1)), (vJ (((lowD 24 ((scI 24 t z) + (scI 24 s y))).2 : Nat) : Int))]) (us := [(vJ ((lowD 24 ((scI 24 t z) + (scI 24 s y))).1)), (vJ (((lowD 24 ((scI 24 t z) + (scI 24 s y))).2 : Nat) : Int))]) (v := (.agg [(vJ ((lowD 24 ((scI 24 t z) + (scI 24 s y))).1)), (vJ (((lowD 24 ((scI 24 t z) + (scI 24 s y))).2 : Nat) : Int))].toArray)) sz28 rfl rfl rfl (xG (by rfl) (by rfl)) r.pins a1 (dZ rfl) rfl (fun bn a2 a3 a4 bo => ?_)))
 have a5 := r.write a3 a4 ((zY aw))
 refine ⟨fun h => absurd rfl h, ?_⟩
 exact yP (by kernel_rfl) (zA (wp_ret (zO (qE (cs := [(vJ ((lowD 24 ((scI 24 t z) + (scI 24 s y))).1)), (vJ (((lowD 24 ((scI 24 t z) + (scI 24 s y))).2 : Nat) : Int))]) rfl rfl rfl ag28 sz28 (fun j u hj => by rw [Nat.zero_add]; exact a2.cell hj) (⟨_, rfl, a5⟩)))))
theorem fF {w : World} {u s : Int} (hP : Pins G w) (hs : t + u = s) (ht : -10000000 ≤ t ∧ t ≤ 10000000) (hu : -10000000 ≤ u ∧ u ≤ 10000000) (hp : p ≤ 24) :
  Calls Tryz.prog 85 [(.agg [.int .i64 t, .int .i64 (p : Int)].toArray), (.agg [.int .i64 u, .int .i64 (p : Int)].toArray)].toArray w fun e w' => ∃ G', e = .returned (.agg [.int .i64 (lowD p s).1, .int .i64 (((lowD p s).2 : Nat) : Int)].toArray) ∧ Ext noS G w G' w' := by
 refine (l2Add_spec (t := t) (s := u) (z := (p : Int)) (y := (p : Int)) hP ht (by omega) hu (by omega)).mono ?_
 rintro e w' ⟨G', rfl, hx⟩
 exact ⟨G', by rw [low_add24 hp, hs], hx⟩
theorem l2Floor_spec {w : World} (hP : Pins G w) (ht : -10000000 ≤ t ∧ t ≤ 10000000) (hz : 0 ≤ z ∧ z ≤ 24) :
  Calls Tryz.prog 84 [(.agg [(.int .i64 t), (.int .i64 z)].toArray)].toArray w fun e w' => ∃ G', e = .returned (.int .i64 (Int.fdiv (scI 24 t z) (2 ^ (min (24 : Int).toNat 64)))) ∧ Ext noS G w G' w' := by
 refine zU (n := 6) Tryz.func84 Tryz.ntmps84 rfl rfl ?_
 have a := exr noS hP
 refine zB (zC ?_)
 refine qI rfl (xH [(.int .i64 t), (.int .i64 z)] (v := (.agg [(.int .i64 t), (.int .i64 z)].toArray)) rfl rfl a.pins (fun c o p d f g => ?_))
 have h := a.step f g
 have i : w.heap.size ≤ c := by have := a.size; omega
 obtain ⟨q, r, b, k, s⟩ := d.shut h i
 refine qM (.int .i64 0) ?_
 refine qe (zA (zB (zC ?_)))
 refine qD rfl (zT (cs := [(.int .i64 t), (.int .i64 z)]) ag28 sz28 rfl (fun j u hj => b.pins _ _ _ (k _ _ (by simpa using hj)))) (qI rfl (zF (vs := [(.agg [(.int .i64 t), (.int .i64 z)].toArray)]) Tryz.func98 nm98 rfl rfl rfl ?_))
 refine dY (fJ (t := t) (z := z) b.pins (by omega) (by omega)) ?_
 rintro _ x ⟨y, rfl, l⟩
 refine ⟨_, rfl, ?_⟩
 have m := b.tr l
 refine qD rfl (r_shrI rfl rfl (by omega)) (qM (.int .i64 (Int.fdiv (scI 24 t z) (2 ^ (min (24 : Int).toNat 64)))) ?_)
 refine qe (zA ?_)
 exact wp_ret (zO (zQ (v := (.int .i64 (Int.fdiv (scI 24 t z) (2 ^ (min (24 : Int).toNat 64))))) rfl rfl rfl (⟨_, rfl, m⟩)))
theorem tV {w : World} (hP : Pins G w) (ht : 0 ≤ t ∧ t ≤ 10000000) (hp : p ≤ 24) :
  Calls Tryz.prog 84 [(.agg [.int .i64 t, .int .i64 (p : Int)].toArray)].toArray w fun e w' => ∃ G', e = .returned (.int .i64 ((t.natAbs / 2 ^ p : Nat) : Int)) ∧ Ext noS G w G' w' := by
 refine (l2Floor_spec (t := t) (z := (p : Int)) hP (by omega) (by omega)).mono ?_
 rintro e w' ⟨G', rfl, hx⟩
 exact ⟨G', by rw [floor_nat ht.1 hp], hx⟩
theorem l2Born_spec {w : World} {dp : Nat} (hP : Pins G w) (ht : -10000000 ≤ t ∧ t ≤ 10000000) (hd : dp ≤ 16) :
  Calls Tryz.prog 66 [(.agg [(vJ t), (vJ (dp : Int))].toArray)].toArray w fun e w' => ∃ G', e = .returned (vJ ((bornD dp t : Nat) : Int)) ∧ Ext noS G w G' w' := by
 refine zU (n := 21) Tryz.func66 Tryz.ntmps66 rfl rfl ?_
 have h := exr noS hP
 refine zB (zC ?_)
 refine qI rfl (xH [(vJ t), (vJ (dp : Int))] (v := (.agg [(vJ t), (vJ (dp : Int))].toArray)) rfl rfl h.pins (fun l m aq a ae af => ?_))
 have b := h.step ae af
 have ag : w.heap.size ≤ l := by have := h.size; omega
 refine qM (vJ 0) ?_
 refine qe (zA (zB (zB (zC ?_))))
 refine qD rfl (zK (k := 0) rfl dD rfl nz3 rfl) (qD rfl (zL (u := (vJ t)) ag3 rfl (a.cell (o := 0) rfl)) (qD rfl (yX rfl rfl) (qe (zA ?_))))
 refine yC (p := (t : Int) < 0) rfl rfl (fun h9 => ?_) (fun h9 => ?_)
 refine zC (qD rfl (zK (k := 0) rfl dD rfl nz3 rfl) (qD rfl (zL (u := (vJ t)) ag3 rfl (a.cell (o := 0) rfl)) (qD rfl (r_neg rfl (by omega)) (qD rfl (zK (k := 0) rfl dD rfl nz3 rfl) (q0 rfl rfl rfl (o_stp (cs' := [(vJ (-t)), (vJ (dp : Int))]) (us := [(vJ (-t))]) (v := (vJ (-t))) sz3 rfl rfl rfl (yO (by rfl)) b.pins a (dZ rfl) rfl (fun q r ai aj ar => ?_)))))))
 have s := b.write ai aj ((zY ag))
 refine qe (zA (zB (zB (zC ?_))))
 refine qD rfl (zK (k := 1) rfl dD rfl nz3 rfl) (qD rfl (zL (u := (vJ (dp : Int))) ag3 rfl (r.cell (o := 1) rfl)) (qD rfl (xU rfl rfl) (qe (zA ?_))))
 refine yC (p := ((dp : Int) : Int) = 0) rfl rfl (fun ak => ?_) (fun ak => ?_)
 refine zB (zC ?_)
 refine qD rfl (zK (k := 0) rfl dD rfl nz3 rfl) (qD rfl (zL (u := (vJ (-t))) ag3 rfl (r.cell (o := 0) rfl)) (qM (vJ (-t)) ?_))
 refine qe (zA ?_)
 exact wp_ret (zO (zQ (v := (vJ (-t))) rfl rfl rfl (⟨_, congrArg (fun z => Ending.returned (Value.int .i64 z)) (by first | (rw [show dp = 0 by omega]; show _ = ((t.natAbs : Nat) : Int); omega) | (rw [show bornD dp t = t.natAbs / 2 ^ dp + dp + 1 from if_neg (by omega)]; (try rw [Int.natAbs_neg]); omega)), s⟩)))
 refine wp_skip (zA (zB ?_))
 refine yZ (S := fun wz => BxR wz l [(vJ (-t)), (vJ (dp : Int))]) (last := 7) (by kernel_rfl) rfl ?_
 have x := bdr q
 have al := s.pins.below x
 have aa := s.step al x
 have c := r.below x
 refine dT (i := 0) rfl rfl (by kernel_rfl) (fun _ hS => zT (cs := [(vJ (-t)), (vJ (dp : Int))]) ag28 sz28 rfl (fun j u hj => hS _ _ (by simpa using hj))) c.reads ?_
 refine dT (i := 2) rfl rfl (by kernel_rfl) (fun _ _ => zK (k := 1) rfl dD rfl nz3 rfl) c.reads ?_
 refine dT (i := 3) rfl rfl (by kernel_rfl) (fun _ hS => zL (u := (vJ (dp : Int))) ag3 rfl (hS 1 _ rfl)) c.reads ?_
 have au : 0 ≤ (((-t).natAbs / 2 ^ dp : Nat) : Int) := Int.natCast_nonneg _
 have av := Nat.div_le_self (-t).natAbs (2 ^ dp)
 refine dO (i := 1) (zS (i := 1) rfl rfl rfl (zD rfl _) (zF (vs := [(.agg [(vJ (-t)), (vJ (dp : Int))].toArray)]) Tryz.func84 nm84 rfl rfl rfl ?_))
 refine dY (tV (t := -t) (p := dp) aa.pins (by omega) (by omega)) ?_
 rintro _ aw ⟨ax, rfl, ab⟩
 refine ⟨_, rfl, ?_⟩
 have am := aa.tr ab
 have d := c.ext ab
 refine ⟨fun _ => d.reads, ?_⟩
 refine dT (i := 4) rfl rfl (by kernel_rfl) (fun _ _ => yJ rfl rfl (by omega)) d.reads ?_
 refine dT (i := 5) rfl rfl (by kernel_rfl) (fun _ _ => yJ rfl rfl (by omega)) d.reads ?_
 refine dM 6 (vJ (((((-t).natAbs / 2 ^ dp : Nat) : Int) + (dp : Int)) + 1)) d.reads ?_
 exact yP (by kernel_rfl) (zA (wp_ret (zO (zQ (v := (vJ (((((-t).natAbs / 2 ^ dp : Nat) : Int) + (dp : Int)) + 1))) rfl rfl rfl (⟨_, congrArg (fun z => Ending.returned (Value.int .i64 z)) (by first | (rw [show dp = 0 by omega]; show _ = ((t.natAbs : Nat) : Int); omega) | (rw [show bornD dp t = t.natAbs / 2 ^ dp + dp + 1 from if_neg (by omega)]; (try rw [Int.natAbs_neg]); omega)), am⟩)))))
 refine wp_skip (zA (zB (zB (zC ?_))))
 refine qD rfl (zK (k := 1) rfl dD rfl nz3 rfl) (qD rfl (zL (u := (vJ (dp : Int))) ag3 rfl (a.cell (o := 1) rfl)) (qD rfl (xU rfl rfl) (qe (zA ?_))))
 refine yC (p := ((dp : Int) : Int) = 0) rfl rfl (fun an => ?_) (fun an => ?_)
 refine zB (zC ?_)
 refine qD rfl (zK (k := 0) rfl dD rfl nz3 rfl) (qD rfl (zL (u := (vJ t)) ag3 rfl (a.cell (o := 0) rfl)) (qM (vJ t) ?_))
 refine qe (zA ?_)
 exact wp_ret (zO (zQ (v := (vJ t)) rfl rfl rfl (⟨_, congrArg (fun z => Ending.returned (Value.int .i64 z)) (by first | (rw [show dp = 0 by omega]; show _ = ((t.natAbs : Nat) : Int); omega) | (rw [show bornD dp t = t.natAbs / 2 ^ dp + dp + 1 from if_neg (by omega)]; (try rw [Int.natAbs_neg]); omega)), b⟩)))
 refine wp_skip (zA (zB ?_))
 refine yZ (S := fun wz => BxR wz l [(vJ t), (vJ (dp : Int))]) (last := 7) (by kernel_rfl) rfl ?_
 have y := bdr m
 have ao := b.pins.below y
 have ac := b.step ao y
 have f := a.below y
 refine dT (i := 0) rfl rfl (by kernel_rfl) (fun _ hS => zT (cs := [(vJ t), (vJ (dp : Int))]) ag28 sz28 rfl (fun j u hj => hS _ _ (by simpa using hj))) f.reads ?_
 refine dT (i := 2) rfl rfl (by kernel_rfl) (fun _ _ => zK (k := 1) rfl dD rfl nz3 rfl) f.reads ?_
 refine dT (i := 3) rfl rfl (by kernel_rfl) (fun _ hS => zL (u := (vJ (dp : Int))) ag3 rfl (hS 1 _ rfl)) f.reads ?_
 have ay : 0 ≤ ((t.natAbs / 2 ^ dp : Nat) : Int) := Int.natCast_nonneg _
 have az := Nat.div_le_self t.natAbs (2 ^ dp)
 refine dO (i := 1) (zS (i := 1) rfl rfl rfl (zD rfl _) (zF (vs := [(.agg [(vJ t), (vJ (dp : Int))].toArray)]) Tryz.func84 nm84 rfl rfl rfl ?_))
 refine dY (tV (t := t) (p := dp) ac.pins (by omega) (by omega)) ?_
 rintro _ a0 ⟨a1, rfl, ad⟩
 refine ⟨_, rfl, ?_⟩
 have ap := ac.tr ad
 have g := f.ext ad
 refine ⟨fun _ => g.reads, ?_⟩
 refine dT (i := 4) rfl rfl (by kernel_rfl) (fun _ _ => yJ rfl rfl (by omega)) g.reads ?_
 refine dT (i := 5) rfl rfl (by kernel_rfl) (fun _ _ => yJ rfl rfl (by omega)) g.reads ?_
 refine dM 6 (vJ ((((t.natAbs / 2 ^ dp : Nat) : Int) + (dp : Int)) + 1)) g.reads ?_
 exact yP (by kernel_rfl) (zA (wp_ret (zO (zQ (v := (vJ ((((t.natAbs / 2 ^ dp : Nat) : Int) + (dp : Int)) + 1))) rfl rfl rfl (⟨_, congrArg (fun z => Ending.returned (Value.int .i64 z)) (by first | (rw [show dp = 0 by omega]; show _ = ((t.natAbs : Nat) : Int); omega) | (rw [show bornD dp t = t.natAbs / 2 ^ dp + dp + 1 from if_neg (by omega)]; (try rw [Int.natAbs_neg]); omega)), ap⟩)))))
theorem l2Good_spec {w : World} (hP : Pins G w) :
  Calls Tryz.prog 42 [(.agg [(vJ t), (vJ z)].toArray)].toArray w fun e w' => ∃ G', e = .returned (.bool (decP (GoodD t z))) ∧ Ext noS G w G' w' := by
 refine zU (n := 22) Tryz.func42 Tryz.ntmps42 rfl rfl ?_
 have c := exr noS hP
 refine zB (zC ?_)
 refine qI rfl (xH [(vJ t), (vJ z)] (v := (.agg [(vJ t), (vJ z)].toArray)) rfl rfl c.pins (fun j w2 ab l m o => ?_))
 have q := c.step m o
 have r : w.heap.size ≤ j := by have := c.size; omega
 obtain ⟨G9, ad, a, b, ae⟩ := l.shut q r
 refine qM (.bool false) ?_
 refine qe (zA (zB (zC ?_)))
 refine qD rfl (zK (k := 0) rfl dD rfl nz3 rfl) (qD rfl (zL (u := (vJ t)) ag3 rfl (a.pins _ _ _ (b 0 _ rfl))) (qI rfl (zF (vs := [(vJ t), (vJ (-1000000)), (vJ 1000000)]) Tryz.func65 nm65 rfl rfl rfl ?_)))
 refine dY (fR a.pins) ?_
 rintro _ _ ⟨rfl, rfl⟩
 refine ⟨_, rfl, ?_⟩
 refine qM (.bool (decide (((-1000000) : Int) ≤ t ∧ (t : Int) ≤ 1000000))) ?_
 refine qbd (p := (((-1000000) : Int) ≤ t ∧ (t : Int) ≤ 1000000)) (t := 6) rfl (fun s => ?_) (fun s => ?_)
 refine qN (zK (k := 1) rfl dD rfl nz3 rfl) ?_
 refine qN (zL (u := (vJ z)) ag3 rfl (a.pins _ _ _ (b 1 _ rfl))) ?_
 refine q1g rfl rfl rfl rfl rfl rfl (zF (vs := [(vJ z), (vJ 0), (vJ 16)]) Tryz.func65 nm65 rfl rfl rfl ?_)
 refine dY (fR a.pins) ?_
 rintro _ _ ⟨rfl, rfl⟩
 refine ⟨_, rfl, ?_⟩
 refine qD rfl (yR (v := (.bool (decide ((0 : Int) ≤ z ∧ (z : Int) ≤ 16)))) rfl rfl) (qM (.bool (decide ((0 : Int) ≤ z ∧ (z : Int) ≤ 16))) ?_)
 refine qbd (p := ((0 : Int) ≤ z ∧ (z : Int) ≤ 16)) (t := 11) rfl (fun x => ?_) (fun x => ?_)
 refine qN (zK (k := 1) rfl dD rfl nz3 rfl) ?_
 refine qN (zL (u := (vJ z)) ag3 rfl (a.pins _ _ _ (b 1 _ rfl))) ?_
 refine qN (xU rfl rfl) ?_
 refine qN (zR (v := (.bool (decide ((z : Int) = 0)))) rfl) ?_
 refine qbd (p := (z : Int) = 0) (t := 15) rfl (fun y => ?_) (fun y => ?_)
 refine qW ?_
 refine qW ?_
 refine qW ?_
 refine qW ?_
 refine qN (yR (v := (.bool true)) rfl rfl) ?_
 refine qD rfl (yR (v := (.bool true)) rfl rfl) (qM (.bool true) ?_)
 refine qe (zA ?_)
 exact wp_ret (zO (zQ (v := (.bool true)) rfl rfl rfl (⟨_, congrArg (fun z => Ending.returned (Value.bool z)) (decP_true.2 ⟨by omega, by omega, by omega⟩).symm, a⟩)))
 refine qN (zK (k := 0) rfl dD rfl nz3 rfl) ?_
 refine qN (zL (u := (vJ t)) ag3 rfl (a.pins _ _ _ (b 0 _ rfl))) ?_
 refine qN (r_rem2 rfl rfl) ?_
 refine qN (gQ rfl rfl) ?_
 refine qN (yI (v := (.bool (decide ((t.tmod 2 : Int) ≠ 0)))) rfl rfl) ?_
 refine qD rfl (yR (v := (.bool (decide ((t.tmod 2 : Int) ≠ 0)))) rfl rfl) (qM (.bool (decide ((t.tmod 2 : Int) ≠ 0))) ?_)
 refine qe (zA ?_)
 exact wp_ret (zO (zQ (v := (.bool (decide ((t.tmod 2 : Int) ≠ 0)))) rfl rfl rfl (⟨_, congrArg (fun z => Ending.returned (Value.bool z)) (decP_dec.symm.trans (tC ⟨fun h => ⟨by omega, by omega, by omega⟩, fun g => by have d := g.top; have f := g.pow; have i := g.odd; omega⟩)), a⟩)))
 refine qW ?_
 refine qW ?_
 refine qW ?_
 refine qW ?_
 refine qX ?_
 refine qX ?_
 refine qX ?_
 refine qX ?_
 refine qW ?_
 refine qD rfl (yI (v := (.bool false)) rfl rfl) (qM (.bool false) ?_)
 refine qe (zA ?_)
 exact wp_ret (zO (zQ (v := (.bool false)) rfl rfl rfl (⟨_, congrArg (fun z => Ending.returned (Value.bool z)) (decP_false.2 (fun g => by have d := g.top; have f := g.pow; have i := g.odd; omega)).symm, a⟩)))
 refine qW ?_
 refine qW ?_
 refine qW ?_
 refine qD rfl (yI (v := (.bool false)) rfl rfl) (qM (.bool false) ?_)
 refine qW ?_
 refine qW ?_
 refine qW ?_
 refine qW ?_
 refine qX ?_
 refine qX ?_
 refine qX ?_
 refine qX ?_
 refine qW ?_
 refine qD rfl (yI (v := (.bool false)) rfl rfl) (qM (.bool false) ?_)
 refine qe (zA ?_)
 exact wp_ret (zO (zQ (v := (.bool false)) rfl rfl rfl (⟨_, congrArg (fun z => Ending.returned (Value.bool z)) (decP_false.2 (fun g => by have d := g.top; have f := g.pow; have i := g.odd; omega)).symm, a⟩)))
end NB4
end Go.Proofs.YtjdchbdfohiaaaaGreatDoor
namespace Go.Proofs.YtjdchbdfohiaaaaGreatDoor
namespace NB5
open Go.RowKit Go.GL Go.Proofs
open B1 C1 D1 E1 K1 PO1 PL1 PA1 SO1 OD1 FO1 NG1 NF1 NU1 NU2 NU3 NB4
theorem pl28 : (Tryz.prog.underlying 28).bind (placesD Tryz.prog) = some [(0, 1), (1, 1)] := by kernel_rfl
def PutP (m : Nat) : Prop := ∀ {w : World} {G : Pin} {b : Nat} {bu bv : Value} {ns : List Nd} {bs : List Int} {t : Int} {dp : Nat} (_ : Pins G w) (_ : Bk 69 3 G w b bu bv ns bs) (_ : PoolOk (bkq ns bs)) (_ : NumOk dp t) (_ : ns.length + cntD dp t ≤ 1048575), muD dp t < m → Calls Tryz.prog 67 [(.pointer (some ⟨b, 0, none⟩)), (.agg [.int .i64 t, .int .i64 (dp : Int)].toArray)].toArray w fun e w' => ∃ (z : Int) (u' v' : Value) (ns' : List Nd) (bs' : List Int) (G' : Pin), e = .returned (.int .i64 z) ∧ Bk 69 3 G' w' b u' v' ns' bs' ∧ Ext (inS b bu bv) G w G' w' ∧ Lo w (inS b bu bv) u'.ownBlock ∧ Lo w (inS b bu bv) v'.ownBlock ∧ PoolOk (bkq ns' bs') ∧ PX (bkq ns bs) (bkq ns' bs') ∧ PlaceOk (bkq ns' bs') z ∧ pd (bkq ns' bs') z = dyG dp t ∧ ns'.length ≤ ns.length + cntD dp t
variable {G : Pin} {b dp : Nat} {bu bv : Value} {ns : List Nd} {bs : List Int} {t : Int}
theorem l7Put_step {w : World} (hP : Pins G w) (hB : Bk 69 3 G w b bu bv ns bs) (hokp : PoolOk (bkq ns bs)) (hn : NumOk dp t) (hl : ns.length + cntD dp t ≤ 1048575) {m : Nat} (ih : PutP m) (hm : muD dp t < m + 1) :
  Calls Tryz.prog 67 [(vP b), (.agg [(vJ t), (vJ (dp : Int))].toArray)].toArray w fun e w' => ∃ (z : Int) (u' v' : Value) (ns' : List Nd) (bs' : List Int) (G' : Pin), e = .returned (vJ z) ∧ Bk 69 3 G' w' b u' v' ns' bs' ∧ Ext (inS b bu bv) G w G' w' ∧ Lo w (inS b bu bv) u'.ownBlock ∧ Lo w (inS b bu bv) v'.ownBlock ∧ PoolOk (bkq ns' bs') ∧ PX (bkq ns bs) (bkq ns' bs') ∧ PlaceOk (bkq ns' bs') z ∧ pd (bkq ns' bs') z = dyG dp t ∧ ns'.length ≤ ns.length + cntD dp t := by
 refine zU (n := 59) Tryz.func67 Tryz.ntmps67 rfl rfl ?_
 have bp := exr (inS b bu bv) hP
 have hok := hokp.ar.ok
 have htp := hn.top
 have hpw := hn.pow
 have hod := hn.odd
 have hbx := hB.bx
 have hou := hB.ou
 have hov := hB.ov
 have habu := hB.abu
 have habv := hB.abv
 have hauv := hB.auv
 have hlob : Lo w (inS b bu bv) (some b) := lo_b
 have hlou : Lo w (inS b bu bv) bu.ownBlock := lo_u
 have hlov : Lo w (inS b bu bv) bv.ownBlock := lo_v
 have hlen := hok.len
 have hlim := hok.lim
 refine zB (zC ?_)
 refine qI rfl (xH [(vJ t), (vJ (dp : Int))] (v := (.agg [(vJ t), (vJ (dp : Int))].toArray)) rfl rfl bp.pins (fun b1 w2 bq d2 d3 a0 => ?_))
 have d4 := bp.step d3 a0
 have d5 := hou.below a0
 have d6 := hov.below a0
 have d7 := hbx.below a0
 have d8 := zG (congrArg some bq) hou.lt
 have d9 := zG (congrArg some bq) hov.lt
 have ea := zH (congrArg some bq) hbx.lt
 have eb : w.heap.size ≤ b1 := by have := bp.size; omega
 obtain ⟨kh, cv, a1, r, br⟩ := d2.shut d4 eb
 have cw := d5.moreA cv br d8.symm
 have cx := d6.moreA cv br d9.symm
 have cy := d7.moreA br ea.symm
 refine qM (vJ 0) ?_
 refine qe (zA (zB (zC ?_)))
 refine qD rfl (zK (k := 1) rfl dD rfl nz3 rfl) (qD rfl (zL (u := (vJ (dp : Int))) ag3 rfl (a1.pins _ _ _ (r 1 _ rfl))) (qD rfl (xB [(vJ 0), (vJ 0)] [(vJ 1), (vJ (dp : Int))] [(0, (vJ 1), [(vJ 1)]), (1, (vJ (dp : Int)), [(vJ (dp : Int))])] dD zr28 rfl pl28 rfl (List.forall_mem_cons.2 ⟨rfl, (List.forall_mem_cons.2 ⟨rfl, (fun _ h => by cases h)⟩)⟩) rfl) (qI rfl (yM [(vJ 0), (vJ 0)] zr28 rfl a1.pins (fun ec ki bt ed ee a2 => ?_)))))
 have cz := a1.step ee a2
 have ef := cw.below a2
 have eg := cx.below a2
 have eh := cy.below a2
 have c0 := zG (congrArg some bt) cw.lt
 have c1 := zG (congrArg some bt) cx.lt
 have c2 := zH (congrArg some bt) cy.lt
 have c3 : w.heap.size ≤ ec := by have := a1.size; omega
 refine q0 rfl rfl rfl (o_stp (cs' := [(vJ 1), (vJ (dp : Int))]) (us := [(vJ 1), (vJ (dp : Int))]) (v := (.agg [(vJ 1), (vJ (dp : Int))].toArray)) sz28 rfl rfl rfl (xG (by rfl) (by rfl)) cz.pins ed (dZ rfl) rfl (fun ad ei ej a3 kj => ?_))
 have ek := cz.write ej a3 ((zY c3))
 have el := ef.keptA a3 c0.symm
 have em := eg.keptA a3 c1.symm
 have en := eh.keptA a3 c2.symm
 obtain ⟨c4, f, a, a4, bw⟩ := ei.shut ek c3
 have a5 := el.moreA f bw c0.symm
 have a6 := em.moreA f bw c1.symm
 have a7 := en.moreA bw c2.symm
 refine qe (zA (zB ?_))
 refine zW (zB (zC ?_))
 refine qD rfl (zK (k := 0) rfl dD rfl nz3 rfl) (qD rfl (zL (u := (vJ t)) ag3 rfl ((dX a.pins f) _ _ _ (r 0 _ rfl))) (qD rfl (xU rfl rfl) (qM (.bool (decide ((t : Int) = 0))) ?_)))
 refine qe (zA ?_)
 refine yC (p := (t : Int) = 0) rfl rfl (fun eo => ?_) (fun eo => ?_)
 refine zB (zC ?_)
 refine qM (vP b) ?_
 have hpt := rK (xs := []) (ys := []) hokp (by omega) ⟨by simp, by simp⟩ (fun z hz => absurd hz (by simp)) (fun z hz => absurd hz (by simp))
 have ep := hpt.pd.trans (show _ = mkG [] [] from rfl)
 refine qI rfl (zF (vs := [(vP b), vN, vN]) Tryz.func78 nm78 rfl rfl rfl ?_)
 refine dY (kP a.pins ⟨a7, a5, a6, habu, habv, hauv⟩ hokp.ar.ok (xP _ _) (xP _ _) ⟨by simp, by simp⟩ (fun i hi => absurd hi (Nat.not_lt_zero i)) (fun i hi => absurd hi (Nat.not_lt_zero i))) ?_
 rintro _ kk ⟨eq, er, kl, rfl, ae, es, et, eu⟩
 refine ⟨_, rfl, ?_⟩
 have bz : ∀ i, inS b bu bv i → w.heap.size ≤ i ∨ (inS b bu bv) i := jD hlob hlou hlov
 have ev := a.trans es bz
 have ew := ae.bx
 have ex := ae.ou
 have ey := ae.ov
 have ez := ae.abu
 have e0 := ae.abv
 have e1 := ae.auv
 have e2 := xD et bz a.size
 have e3 := xD eu bz a.size
 refine qM (vJ (putK ns bs ([]) ([]))) ?_
 refine qe (zA ?_)
 refine wp_ret (zO (zQ (v := (vJ (putK ns bs ([]) ([])))) rfl rfl rfl ?_))
 have hcp := pW dp t
 exact ⟨_, eq, er, _, _, _, rfl, ⟨ew, ex, ey, ez, e0, e1⟩, ev, e2, e3, hpt.ok, hpt.px, hpt.pl, (ep.trans (dy_zero (by have := hn.odd; omega) (by omega)).symm), (by have := hpt.len; omega)⟩
 refine zB (zC ?_)
 refine qD rfl (zK (k := 1) rfl dD rfl nz3 rfl) (qD rfl (zL (u := (vJ (dp : Int))) ag3 rfl ((dX a.pins f) _ _ _ (r 1 _ rfl))) (qD rfl (jO rfl rfl) (qM (.bool (decide ((0 : Int) < (dp : Int)))) ?_)))
 refine qe (zA ?_)
 refine yC (p := (0 : Int) < (dp : Int)) rfl rfl (fun e4 => ?_) (fun e4 => ?_)
 refine zB ?_
 have af : 1 ≤ dp := by omega
 have x := (hn.kid af (s := t - 1) (Or.inl rfl))
 have y := (hn.kid af (s := t + 1) (Or.inr rfl))
 have c5 := mu_kid hn af (s := t - 1) (Or.inl rfl)
 have c6 := mu_kid hn af (s := t + 1) (Or.inr rfl)
 have hct := cnt_two hn af
 have hdk := dy_kids af (hn.odd.resolve_left (by omega))
 refine yZ (S := fun wz => Pins c4 wz) (last := 7) (by kernel_rfl) rfl ?_
 have ap := bdr ad
 have e5 := a.pins.below ap
 have aq := a.step e5 ap
 have e6 := a5.below ap
 have e7 := a6.below ap
 have e8 := a7.below ap
 refine dM 0 (vP b) aq.pins ?_
 refine dT (i := 1) rfl rfl (by kernel_rfl) (fun _ hS => zT (cs := [(vJ t), (vJ (dp : Int))]) ag28 sz28 rfl (fun j u hj => (dX hS f) _ _ _ (r _ _ (by simpa using hj)))) aq.pins ?_
 refine dT (i := 2) rfl rfl (by kernel_rfl) (fun _ hS => zT (cs := [(vJ 1), (vJ (dp : Int))]) ag28 sz28 rfl (fun j u hj => hS _ _ _ (a4 _ _ (by simpa using hj)))) aq.pins ?_
 refine dO (i := 3) (zS (i := 3) rfl rfl rfl (zD rfl _) (zF (vs := [(.agg [(vJ 1), (vJ (dp : Int))].toArray)]) Tryz.func86 nm86 rfl rfl rfl ?_))
 refine dY (sY (t := 1) (z := (dp : Int)) aq.pins (by omega)) ?_
 rintro _ km ⟨kn, rfl, c⟩
 refine ⟨_, rfl, ?_⟩
 have b0 := aq.tr c
 have e9 := e6.ext c
 have fa := e7.ext c
 have fb := e8.ext c
 refine ⟨fun _ => (dX b0.pins c.le), ?_⟩
 refine dO (i := 4) (zS (i := 4) rfl rfl rfl (zD rfl _) (zF (vs := [(.agg [(vJ t), (vJ (dp : Int))].toArray), (.agg [(vJ (-1)), (vJ (dp : Int))].toArray)]) Tryz.func85 nm85 rfl rfl rfl ?_))
 refine dY (fF (t := t) (u := -1) (s := t - 1) (p := dp) b0.pins (by omega) (by omega) (by omega) (by omega)) ?_
 rintro _ ko ⟨kp, rfl, g⟩
 refine ⟨_, rfl, ?_⟩
 have au := b0.tr g
 have fc := e9.ext g
 have fd := fa.ext g
 have fe := fb.ext g
 refine ⟨fun _ => (dX au.pins (dW c.le g.le)), ?_⟩
 refine dO (i := 5) (zS (i := 5) rfl rfl rfl (zD rfl _) (zF (vs := [(vP b), (.agg [(vJ ((lowD dp (t - 1)).1)), (vJ (((lowD dp (t - 1)).2 : Nat) : Int))].toArray)]) Tryz.func67 nm67 rfl rfl rfl ?_))
 refine dY (ih au.pins ⟨fe, fc, fd, habu, habv, hauv⟩ hokp x.1 (by omega) (by omega)) ?_
 rintro _ kq ⟨l, ff, fg, kr, ks, kt, rfl, ag, av, fh, fi, c7, fj, b2, fk, ku⟩
 refine ⟨_, rfl, ?_⟩
 have b3 : ∀ i, inS b bu bv i → w.heap.size ≤ i ∨ (inS b bu bv) i := jD hlob hlou hlov
 have ah := au.trans av b3
 have fl := ag.bx
 have fm := ag.ou
 have fn := ag.ov
 have fo := ag.abu
 have fp := ag.abv
 have fq := ag.auv
 have fr := xD fh b3 au.size
 have fs := xD fi b3 au.size
 have ft := fj
 refine ⟨fun _ => (dX ah.pins (dW (dW c.le g.le) av.le)), ?_⟩
 refine dM 6 (vJ l) (dX ah.pins (dW (dW c.le g.le) av.le)) ?_
 refine yP (by kernel_rfl) (zA (zB (zC ?_)))
 refine qM (vP b) ?_
 refine qD rfl (zT (cs := [(vJ t), (vJ (dp : Int))]) ag28 sz28 rfl (fun j u hj => (dX ah.pins (dW (dW (dW f c.le) g.le) av.le)) _ _ _ (r _ _ (by simpa using hj)))) (qD rfl (zT (cs := [(vJ 1), (vJ (dp : Int))]) ag28 sz28 rfl (fun j u hj => (dX ah.pins (dW (dW c.le g.le) av.le)) _ _ _ (a4 _ _ (by simpa using hj)))) (qI rfl (zF (vs := [(.agg [(vJ t), (vJ (dp : Int))].toArray), (.agg [(vJ 1), (vJ (dp : Int))].toArray)]) Tryz.func85 nm85 rfl rfl rfl ?_)))
 refine dY (fF (t := t) (u := 1) (s := t + 1) (p := dp) ah.pins (by omega) (by omega) (by omega) (by omega)) ?_
 rintro _ kv ⟨kw, rfl, a8⟩
 refine ⟨_, rfl, ?_⟩
 have a9 := ah.tr a8
 have fu := fm.ext a8
 have fv := fn.ext a8
 have fw := fl.ext a8
 refine qI rfl (zF (vs := [(vP b), (.agg [(vJ ((lowD dp (t + 1)).1)), (vJ (((lowD dp (t + 1)).2 : Nat) : Int))].toArray)]) Tryz.func67 nm67 rfl rfl rfl ?_)
 refine dY (ih a9.pins ⟨fw, fu, fv, fo, fp, fq⟩ c7 y.1 (by omega) (by omega)) ?_
 rintro _ kx ⟨o, fx, fy, ba, bb, c8, rfl, ai, fz, f0, f1, b4, bc, c9, f2, ky⟩
 refine ⟨_, rfl, ?_⟩
 have b5 : ∀ i, inS b ff fg i → w.heap.size ≤ i ∨ (inS b bu bv) i := jD hlob fr fs
 have b6 := a9.trans fz b5
 have da := ai.bx
 have db := ai.ou
 have dc := ai.ov
 have f3 := ai.abu
 have f4 := ai.abv
 have f5 := ai.auv
 have f6 := xD f0 b5 a9.size
 have f7 := xD f1 b5 a9.size
 have f8 := PX.trans ft bc
 refine qM (vJ o) ?_
 refine qe (zA (zB (zC ?_)))
 refine qM (vP b) ?_
 refine qM (vJ l) ?_
 refine qI rfl (yG (E := eInt) (e := 3) [(vJ l)] [l] dB sz3 zr3 (by exact xK (by rfl)) (yO (by rfl)) rfl rfl rfl rfl (by decide) b6.pins (fun dd f9 ga gb bd b7 => ?_))
 have b8 := b6.step gb bd
 have de := db.below bd
 have df := dc.below bd
 have dg := da.below bd
 have gc := zG b7 db.lt
 have gd := zG b7 dc.lt
 have ge := zH b7 da.lt
 have dh := ga.weaken b6.size
 refine qM (vJ o) ?_
 refine qI rfl (yG (E := eInt) (e := 3) [(vJ o)] [o] dB sz3 zr3 (by exact xK (by rfl)) (yO (by rfl)) rfl rfl rfl rfl (by decide) b8.pins (fun di gf gg gh aw be => ?_))
 have gi := b8.step gh aw
 have gj := de.below aw
 have gk := df.below aw
 have gl := dh.below aw
 have gm := dg.below aw
 have gn := zG be de.lt
 have gp := zG be df.lt
 have gq := zG be dh.lt
 have gr := zH be dg.lt
 have gs := gg.weaken b8.size
 obtain ⟨kz, b9, gt, gu, bf⟩ := gl.sealed gi
 have gv := gj.moreO b9 bf gc.symm
 have gw := gk.moreO b9 bf gd.symm
 have gx := gs.moreO b9 bf gq
 have gy := gm.moreO bf ge.symm
 obtain ⟨k0, ca, bg, gz, cb⟩ := gx.sealed gt
 have g0 := gv.moreO ca cb gn.symm
 have g1 := gw.moreO ca cb gp.symm
 have g2 := gy.moreO cb gr.symm
 have hpt := rK (xs := [l]) (ys := [o]) b4 (by omega) ⟨by simp, by simp⟩ (fun z hz => by rw [List.mem_singleton.1 hz]; exact (bc.place b2)) (fun z hz => by rw [List.mem_singleton.1 hz]; exact c9)
 have cc := hpt.pd.trans (show _ = mkG [pd (bkq ba bb) l] [pd (bkq ba bb) o] from rfl)
 rw [((bc.pd c7 b4 b2).trans fk)] at cc
 rw [f2] at cc
 refine qI rfl (zF (vs := [(vP b), dd, di]) Tryz.func78 nm78 rfl rfl rfl ?_)
 refine dY (kP bg.pins ⟨g2, g0, g1, f3, f4, f5⟩ b4.ar.ok (gu.mono ca) gz ⟨by simp, by simp⟩ (kD (bc.place b2)) (kD c9)) ?_
 rintro _ k1 ⟨g3, g4, k2, rfl, aj, g5, g6, g7⟩
 refine ⟨_, rfl, ?_⟩
 have cd : ∀ i, inS b fx fy i → w.heap.size ≤ i ∨ (inS b bu bv) i := jD hlob f6 f7
 have g8 := bg.trans g5 cd
 have g9 := aj.bx
 have ha := aj.ou
 have hb := aj.ov
 have hc := aj.abu
 have hd := aj.abv
 have he := aj.auv
 have hf := xD g6 cd bg.size
 have hg := xD g7 cd bg.size
 refine qM (vJ (putK ba bb ([l]) ([o]))) ?_
 refine qe (zA ?_)
 refine wp_ret (zO (zQ (v := (vJ (putK ba bb ([l]) ([o])))) rfl rfl rfl ?_))
 have hcp := pW dp t
 exact ⟨_, g3, g4, _, _, _, rfl, ⟨g9, ha, hb, hc, hd, he⟩, g8, hf, hg, hpt.ok, (PX.trans f8 hpt.px), hpt.pl, (cc.trans hdk.symm), (by have := hpt.len; omega)⟩
 refine zB (zC ?_)
 refine qD rfl (zK (k := 0) rfl dD rfl nz3 rfl) (qD rfl (zL (u := (vJ t)) ag3 rfl ((dX a.pins f) _ _ _ (r 0 _ rfl))) (qD rfl (jO rfl rfl) (qM (.bool (decide ((0 : Int) < t))) ?_)))
 refine qe (zA ?_)
 refine yC (p := (0 : Int) < t) rfl rfl (fun hh => ?_) (fun hh => ?_)
 refine zB ?_
 have aa : dp = 0 := by omega
 have x := hn.kid0 aa (s := t - 1) (by omega)
 have c5 := x.2.1
 have c6 := x.2.2.1
 refine yZ (S := fun wz => Pins c4 wz) (last := 10) (by kernel_rfl) rfl ?_
 have ax := bdr ad
 have hk := a.pins.below ax
 have ak := a.step hk ax
 have ho := a5.below ax
 have hp := a6.below ax
 have hq := a7.below ax
 refine dM 0 (vP b) ak.pins ?_
 refine dM 1 (vP b) ak.pins ?_
 refine dT (i := 2) rfl rfl (by kernel_rfl) (fun _ hS => zT (cs := [(vJ t), (vJ (dp : Int))]) ag28 sz28 rfl (fun j u hj => (dX hS f) _ _ _ (r _ _ (by simpa using hj)))) ak.pins ?_
 refine dT (i := 3) rfl rfl (by kernel_rfl) (fun _ hS => zT (cs := [(vJ 1), (vJ (dp : Int))]) ag28 sz28 rfl (fun j u hj => hS _ _ _ (a4 _ _ (by simpa using hj)))) ak.pins ?_
 refine dO (i := 4) (zS (i := 4) rfl rfl rfl (zD rfl _) (zF (vs := [(.agg [(vJ 1), (vJ (dp : Int))].toArray)]) Tryz.func86 nm86 rfl rfl rfl ?_))
 refine dY (sY (t := 1) (z := (dp : Int)) ak.pins (by omega)) ?_
 rintro _ k3 ⟨k4, rfl, d⟩
 refine ⟨_, rfl, ?_⟩
 have ce := ak.tr d
 have hr := ho.ext d
 have hs := hp.ext d
 have ht := hq.ext d
 refine ⟨fun _ => (dX ce.pins d.le), ?_⟩
 refine dO (i := 5) (zS (i := 5) rfl rfl rfl (zD rfl _) (zF (vs := [(.agg [(vJ t), (vJ (dp : Int))].toArray), (.agg [(vJ (-1)), (vJ (dp : Int))].toArray)]) Tryz.func85 nm85 rfl rfl rfl ?_))
 refine dY (fF (t := t) (u := -1) (s := t - 1) (p := dp) ce.pins (by omega) (by omega) (by omega) (by omega)) ?_
 rintro _ k5 ⟨k6, rfl, q⟩
 refine ⟨_, rfl, ?_⟩
 have ay := ce.tr q
 have hu := hr.ext q
 have hv := hs.ext q
 have hw := ht.ext q
 refine ⟨fun _ => (dX ay.pins (dW d.le q.le)), ?_⟩
 refine dO (i := 6) (zS (i := 6) rfl rfl rfl (zD rfl _) (zF (vs := [(vP b), (.agg [(vJ ((lowD dp (t - 1)).1)), (vJ (((lowD dp (t - 1)).2 : Nat) : Int))].toArray)]) Tryz.func67 nm67 rfl rfl rfl ?_))
 refine dY (ih ay.pins ⟨hw, hu, hv, habu, habv, hauv⟩ hokp x.1 (by omega) (by omega)) ?_
 rintro _ k7 ⟨ab, hx, hy, cf, cg, h0, rfl, al, az, h1, h2, dj, h3, dk, h4, k8⟩
 refine ⟨_, rfl, ?_⟩
 have ch : ∀ i, inS b bu bv i → w.heap.size ≤ i ∨ (inS b bu bv) i := jD hlob hlou hlov
 have bh := ay.trans az ch
 have dl := al.bx
 have dm := al.ou
 have dn := al.ov
 have h5 := al.abu
 have h6 := al.abv
 have h7 := al.auv
 have h8 := xD h1 ch ay.size
 have h9 := xD h2 ch ay.size
 have ia := h3
 refine ⟨fun _ => (dX bh.pins (dW (dW d.le q.le) az.le)), ?_⟩
 refine dO (i := 7) (zS (i := 7) rfl rfl rfl (zD rfl _) (yG (E := eInt) (e := 3) [(vJ ab)] [ab] dB sz3 zr3 (by exact xK (by rfl)) (yO (by rfl)) rfl rfl rfl rfl (by decide) bh.pins (fun dq ib ic ie bi ci => ?_)))
 have dr := bh.step ie bi
 have ig := dm.below bi
 have ii := dn.below bi
 have ij := dl.below bi
 have ik := zG ci dm.lt
 have il := zG ci dn.lt
 have im := zH ci dl.lt
 have io := ic.weaken bh.size
 refine ⟨fun _ => (dX dr.pins (dW (dW d.le q.le) az.le)), ?_⟩
 obtain ⟨k9, bj, bk, ip, cj⟩ := io.sealed dr
 have iq := ig.moreO bj cj ik.symm
 have ir := ii.moreO bj cj il.symm
 have it := ij.moreO cj im.symm
 have hpt := rK (xs := [ab]) (ys := []) dj (by omega) ⟨by simp, by simp⟩ (fun z hz => by rw [List.mem_singleton.1 hz]; exact dk) (fun z hz => absurd hz (by simp))
 have ds := hpt.pd.trans (show _ = mkG [pd (bkq cf cg) ab] [] from rfl)
 rw [h4] at ds
 refine dO (i := 8) (zS (i := 8) rfl rfl rfl (zD rfl _) (zF (vs := [(vP b), dq, vN]) Tryz.func78 nm78 rfl rfl rfl ?_))
 refine dY (kP bk.pins ⟨it, iq, ir, h5, h6, h7⟩ dj.ar.ok ip (xP _ _) ⟨by simp, by simp⟩ (kD dk) (fun i hi => absurd hi (Nat.not_lt_zero i))) ?_
 rintro _ la ⟨iu, iv, lb, rfl, am, ck, iw, ix⟩
 refine ⟨_, rfl, ?_⟩
 have cl : ∀ i, inS b hx hy i → w.heap.size ≤ i ∨ (inS b bu bv) i := jD hlob h8 h9
 have cm := bk.trans ck cl
 have iy := am.bx
 have iz := am.ou
 have i0 := am.ov
 have i1 := am.abu
 have i2 := am.abv
 have i3 := am.auv
 have i4 := xD iw cl bk.size
 have i5 := xD ix cl bk.size
 refine ⟨fun _ => (dX cm.pins (dW (dW (dW (dW d.le q.le) az.le) bj) ck.le)), ?_⟩
 refine dM 9 (vJ (putK cf cg ([ab]) ([]))) (dX cm.pins (dW (dW (dW (dW d.le q.le) az.le) bj) ck.le)) ?_
 refine yP (by kernel_rfl) (zA (wp_ret (zO (zQ (v := (vJ (putK cf cg ([ab]) ([])))) rfl rfl rfl ?_))))
 have hcp := pW dp t
 exact ⟨_, iu, iv, _, _, _, rfl, ⟨iy, iz, i0, i1, i2, i3⟩, cm, i4, i5, hpt.ok, (PX.trans ia hpt.px), hpt.pl, (ds.trans (by first | rw [x.2.2.2]; exact (dy_pos aa (by omega)).symm | rw [y.2.2.2]; exact (dy_neg aa (by omega)).symm)), (by have := hpt.len; omega)⟩
 refine wp_skip (yA (zA (zB (zC ?_))))
 have aa : dp = 0 := by omega
 have y := hn.kid0 aa (s := t + 1) (by omega)
 have c5 := y.2.1
 have c6 := y.2.2.1
 refine qM (vP b) ?_
 refine qM (vP b) ?_
 refine qD rfl (zT (cs := [(vJ t), (vJ (dp : Int))]) ag28 sz28 rfl (fun j u hj => (dX a.pins f) _ _ _ (r _ _ (by simpa using hj)))) (qD rfl (zT (cs := [(vJ 1), (vJ (dp : Int))]) ag28 sz28 rfl (fun j u hj => a.pins _ _ _ (a4 _ _ (by simpa using hj)))) (qI rfl (zF (vs := [(.agg [(vJ t), (vJ (dp : Int))].toArray), (.agg [(vJ 1), (vJ (dp : Int))].toArray)]) Tryz.func85 nm85 rfl rfl rfl ?_)))
 refine dY (fF (t := t) (u := 1) (s := t + 1) (p := dp) a.pins (by omega) (by omega) (by omega) (by omega)) ?_
 rintro _ lc ⟨ld, rfl, bl⟩
 refine ⟨_, rfl, ?_⟩
 have bm := a.tr bl
 have i6 := a5.ext bl
 have i7 := a6.ext bl
 have i8 := a7.ext bl
 refine qI rfl (zF (vs := [(vP b), (.agg [(vJ ((lowD dp (t + 1)).1)), (vJ (((lowD dp (t + 1)).2 : Nat) : Int))].toArray)]) Tryz.func67 nm67 rfl rfl rfl ?_)
 refine dY (ih bm.pins ⟨i8, i6, i7, habu, habv, hauv⟩ hokp y.1 (by omega) (by omega)) ?_
 rintro _ lf ⟨ac, i9, ja, cn, co, jb, rfl, an, jc, jd, je, dt, jf, du, jg, lg⟩
 refine ⟨_, rfl, ?_⟩
 have cp : ∀ i, inS b bu bv i → w.heap.size ≤ i ∨ (inS b bu bv) i := jD hlob hlou hlov
 have cq := bm.trans jc cp
 have dv := an.bx
 have dw := an.ou
 have dx := an.ov
 have jh := an.abu
 have ji := an.abv
 have jj := an.auv
 have jk := xD jd cp bm.size
 have jl := xD je cp bm.size
 have jm := jf
 refine qI rfl (yG (E := eInt) (e := 3) [(vJ ac)] [ac] dB sz3 zr3 (by exact xK (by rfl)) (yO (by rfl)) rfl rfl rfl rfl (by decide) cq.pins (fun dy jn jo jp bn cr => ?_))
 have jq := cq.step jp bn
 have jr := dw.below bn
 have js := dx.below bn
 have jt := dv.below bn
 have ju := zG cr dw.lt
 have jv := zG cr dx.lt
 have jw := zH cr dv.lt
 have jx := jo.weaken cq.size
 obtain ⟨lh, dz, bo, jy, ct⟩ := jx.sealed jq
 have jz := jr.moreO dz ct ju.symm
 have j0 := js.moreO dz ct jv.symm
 have j1 := jt.moreO ct jw.symm
 have hpt := rK (xs := []) (ys := [ac]) dt (by omega) ⟨by simp, by simp⟩ (fun z hz => absurd hz (by simp)) (fun z hz => by rw [List.mem_singleton.1 hz]; exact du)
 have d0 := hpt.pd.trans (show _ = mkG [] [pd (bkq cn co) ac] from rfl)
 rw [jg] at d0
 refine qI rfl (zF (vs := [(vP b), vN, dy]) Tryz.func78 nm78 rfl rfl rfl ?_)
 refine dY (kP bo.pins ⟨j1, jz, j0, jh, ji, jj⟩ dt.ar.ok (xP _ _) jy ⟨by simp, by simp⟩ (fun i hi => absurd hi (Nat.not_lt_zero i)) (kD du)) ?_
 rintro _ li ⟨j2, j3, lj, rfl, ao, j4, j5, j6⟩
 refine ⟨_, rfl, ?_⟩
 have cu : ∀ i, inS b i9 ja i → w.heap.size ≤ i ∨ (inS b bu bv) i := jD hlob jk jl
 have j7 := bo.trans j4 cu
 have j8 := ao.bx
 have j9 := ao.ou
 have ka := ao.ov
 have kb := ao.abu
 have kc := ao.abv
 have kd := ao.auv
 have ke := xD j5 cu bo.size
 have kf := xD j6 cu bo.size
 refine qM (vJ (putK cn co ([]) ([ac]))) ?_
 refine qe (zA ?_)
 refine wp_ret (zO (zQ (v := (vJ (putK cn co ([]) ([ac])))) rfl rfl rfl ?_))
 have hcp := pW dp t
 exact ⟨_, j2, j3, _, _, _, rfl, ⟨j8, j9, ka, kb, kc, kd⟩, j7, ke, kf, hpt.ok, (PX.trans jm hpt.px), hpt.pl, (d0.trans (by first | rw [x.2.2.2]; exact (dy_pos aa (by omega)).symm | rw [y.2.2.2]; exact (dy_neg aa (by omega)).symm)), (by have := hpt.len; omega)⟩
theorem put_all : ∀ m, PutP m
 | 0 => fun _ _ _ _ _ h => absurd h (Nat.not_lt_zero _)
 | m + 1 => fun hP hB hok hn hl hm => l7Put_step hP hB hok hn hl (put_all m) hm
theorem l7Put_spec {w : World} (hP : Pins G w) (hB : Bk 69 3 G w b bu bv ns bs) (hokp : PoolOk (bkq ns bs)) (hn : NumOk dp t) (hl : ns.length + cntD dp t ≤ 1048575) :
  Calls Tryz.prog 67 [(.pointer (some ⟨b, 0, none⟩)), (.agg [.int .i64 t, .int .i64 (dp : Int)].toArray)].toArray w fun e w' => ∃ (z : Int) (u' v' : Value) (ns' : List Nd) (bs' : List Int) (G' : Pin), e = .returned (.int .i64 z) ∧ Bk 69 3 G' w' b u' v' ns' bs' ∧ Ext (inS b bu bv) G w G' w' ∧ Lo w (inS b bu bv) u'.ownBlock ∧ Lo w (inS b bu bv) v'.ownBlock ∧ PoolOk (bkq ns' bs') ∧ PX (bkq ns bs) (bkq ns' bs') ∧ PlaceOk (bkq ns' bs') z ∧ pd (bkq ns' bs') z = dyG dp t ∧ ns'.length ≤ ns.length + cntD dp t :=
 put_all _ hP hB hokp hn hl (Nat.lt_succ_self _)
end NB5
end Go.Proofs.YtjdchbdfohiaaaaGreatDoor
namespace Go.Proofs.YtjdchbdfohiaaaaGreatDoor
namespace NB6
open Go.RowKit Go.GL Go.Proofs
open B1 C1 D1 E1 K1 PO1 PL1 PA1 SO1 OD1 FO1 NG1 NF1 SM1 NU1 NU2 NU3 NB4 NB5
theorem pl26 : (Tryz.prog.underlying 26).bind (placesD Tryz.prog) = some [(0, 1)] := by kernel_rfl
theorem pl87 : (Tryz.prog.underlying 87).bind (placesD Tryz.prog) = some [(0, 1), (1, 1)] := by kernel_rfl
variable {G : Pin} {t z : Int}
theorem l7FormN_spec {w : World} {dp : Nat} (hP : Pins G w) (hg : GoodD t (dp : Int)) :
  Calls Tryz.prog 44 [(.agg [(vJ t), (vJ (dp : Int))].toArray)].toArray w fun e w' => ∃ (u : Value) (G' : Pin), e = .returned (.agg [u].toArray) ∧ RSl eNode G' u (l7F dp t) ∧ Ext noS G w G' w' := by
 refine zU (n := 15) Tryz.func44 Tryz.ntmps44 rfl rfl ?_
 have g := exr noS hP
 have htp := hg.top
 have hpw := hg.pow
 refine zB (zC ?_)
 refine qI rfl (xH [(vJ t), (vJ (dp : Int))] (v := (.agg [(vJ t), (vJ (dp : Int))].toArray)) rfl rfl g.pins (fun b1 w2 bm ag ah ai => ?_))
 have aj := g.step ah ai
 have ak : w.heap.size ≤ b1 := by have := g.size; omega
 obtain ⟨G9, bo, k, r, bp⟩ := ag.shut aj ak
 refine qI rfl (yM [vN] zr26 rfl k.pins (fun al bq br am an ao => ?_))
 have l := k.step an ao
 have s : w.heap.size ≤ al := by have := k.size; omega
 refine qe (zA (zB (zB (zC ?_))))
 refine qD rfl (zT (cs := [(vJ t), (vJ (dp : Int))]) ag28 sz28 rfl (fun j u hj => l.pins _ _ _ (r _ _ (by simpa using hj)))) (qI rfl (zF (vs := [(.agg [(vJ t), (vJ (dp : Int))].toArray)]) Tryz.func66 nm66 rfl rfl rfl ?_))
 refine dY (l2Born_spec (t := t) (dp := dp) l.pins (by omega) (by omega)) ?_
 rintro _ bs ⟨bt, rfl, m⟩
 refine ⟨_, rfl, ?_⟩
 have c := l.tr m
 have o := am.ext m
 refine qD rfl (fN rfl rfl) (qe (zA ?_))
 refine yC (p := (120 : Int) ≤ ((bornD dp t : Nat) : Int)) rfl rfl (fun ap => ?_) (fun ap => ?_)
 refine zB (zC ?_)
 refine qD rfl (xB [vN] [vN] [] dE zr26 rfl pl26 rfl (fun _ h => by cases h) rfl) (q0 rfl rfl rfl (o_stp (cs' := [vN]) (us := [vN]) (v := (.agg [vN].toArray)) sz26 rfl rfl rfl (yO (by rfl)) c.pins o (dZ rfl) rfl (fun bu aq au av bv => ?_)))
 have aw := c.write au av ((zY s))
 refine qe (zA ?_)
 exact wp_ret (zO (qE (cs := [vN]) rfl rfl rfl ag26 sz26 (fun j u hj => by rw [Nat.zero_add]; exact aq.cell hj) (⟨_, _, rfl, (by rw [l7_late (by omega)]; exact (xP _ _)), aw⟩)))
 refine wp_skip (zA (zB (zC ?_)))
 refine qD rfl (xB [vN, vN] [vN, vN] [] dI zr87 rfl pl87 rfl (fun _ h => by cases h) rfl) (qI rfl (xH [vN, vN] (v := (.agg [vN, vN].toArray)) rfl rfl c.pins (fun a bw ax ay az x => ?_)))
 have d := c.step az x
 have a0 := o.below x
 have a1 := zH (congrArg some ax) o.lt
 have a2 : w.heap.size ≤ a := by have := c.size; omega
 refine qM (vP a) ?_
 refine qe (zA (zB (zC ?_)))
 have hbn : bornD dp t < 120 := by omega
 have hno := born_num hg hbn
 have hcn := cnt_num hno
 have hcm := numT_max hno.pow
 have hbe : PoolOk (bkq [] []) := rJ Ar.empty
 refine qM (vP a) ?_
 refine qM (vP a) ?_
 refine qD rfl (zT (cs := [(vJ t), (vJ (dp : Int))]) ag28 sz28 rfl (fun j u hj => (dX d.pins m.le) _ _ _ (r _ _ (by simpa using hj)))) (qI rfl (zF (vs := [(vP a), (.agg [(vJ t), (vJ (dp : Int))].toArray)]) Tryz.func67 nm67 rfl rfl rfl ?_))
 refine dY (l7Put_spec d.pins ⟨ay, (Own.nil _ _ _ _ _), (Own.nil _ _ _ _ _), apart_none.symm, apart_none.symm, apart_none⟩ hbe hno (by simp; omega)) ?_
 rintro _ bz ⟨a3, b0, b2, b3, b4, b5, rfl, b, y, a4, a5, z, a6, aa, a7, b6⟩
 refine ⟨_, rfl, ?_⟩
 have q : ∀ i, inS a vN vN i → w.heap.size ≤ i ∨ noS i := jD (zY a2) (jU _ _) (jU _ _)
 have ab := d.trans y q
 have a8 := notS (u := vN) (v := vN) a1.symm apart_none.symm apart_none.symm
 have a9 := a0.extS y (notSb a8)
 have ba := b.bx
 have bb := b.ou
 have bc := b.ov
 have bd := b.abu
 have be := b.abv
 have bf := b.auv
 have b7 := xD a4 q d.size
 have b8 := xD a5 q d.size
 have b9 := a6
 refine qI rfl (zF (vs := [(vP a), (vJ a3)]) Tryz.func48 nm48 rfl rfl rfl ?_)
 refine dY (tP ab.pins ⟨ba, bb, bc, bd, be, bf⟩ z.ar.ok aa) ?_
 rintro _ ca ⟨f, cb, rfl, ac, ad⟩
 refine ⟨_, rfl, ?_⟩
 have ae := ab.tr ad
 have bg := a9.ext ad
 refine q0 rfl rfl rfl (o_stp (cs' := [f]) (us := [f]) (v := (.agg [f].toArray)) sz26 rfl rfl rfl (yO ac.one) ae.pins bg (dZ rfl) rfl (fun cc bh bi bj cd => ?_))
 have bk := ae.write bi bj ((zY s))
 refine qe (zA ?_)
 exact wp_ret (zO (qE (cs := [f]) rfl rfl rfl ag26 sz26 (fun j u hj => by rw [Nat.zero_add]; exact bh.cell hj) (⟨_, _, rfl, (by rw [sV hbn, ← a7, ← kK z aa]; exact ac), bk⟩)))
theorem fE {w : World} (hP : Pins G w) (hg : GoodD t z) :
  Calls Tryz.prog 44 [(.agg [.int .i64 t, .int .i64 z].toArray)].toArray w fun e w' => ∃ (u : Value) (G' : Pin), e = .returned (.agg [u].toArray) ∧ RSl eNode G' u (l7F z.toNat t) ∧ Ext noS G w G' w' := by
 obtain ⟨dp, rfl⟩ : ∃ dp : Nat, z = (dp : Int) := ⟨z.toNat, by have := hg.pow; omega⟩
 simp only [Int.toNat_natCast]
 exact l7FormN_spec hP hg
theorem mZ {w : World} (hP : Pins G w) :
  Calls Tryz.prog 20 [(.agg [(vJ t), (vJ z)].toArray)].toArray w fun e w' => ∃ (u : Value) (G' : Pin), e = .returned (.tuple #[(.agg [u].toArray), .bool (nmB t z)]) ∧ RSl eNode G' u (nmF t z) ∧ Ext noS G w G' w' := by
 refine zU (n := 13) Tryz.func20 Tryz.ntmps20 rfl rfl ?_
 have c := exr noS hP
 refine zB (zC ?_)
 refine qI rfl (xH [(vJ t), (vJ z)] (v := (.agg [(vJ t), (vJ z)].toArray)) rfl rfl c.pins (fun b1 w2 az ab ac ad => ?_))
 have ae := c.step ac ad
 have af : w.heap.size ≤ b1 := by have := c.size; omega
 obtain ⟨G9, a1, d, m, a2⟩ := ab.shut ae af
 refine qI rfl (yM [vN] zr26 rfl d.pins (fun ag a3 a4 ah ai aj => ?_))
 have f := d.step ai aj
 have o : w.heap.size ≤ ag := by have := d.size; omega
 refine qM (.bool false) ?_
 refine qe (zA (zB (zB (zC ?_))))
 refine qD rfl (zT (cs := [(vJ t), (vJ z)]) ag28 sz28 rfl (fun j u hj => f.pins _ _ _ (m _ _ (by simpa using hj)))) (qI rfl (zF (vs := [(.agg [(vJ t), (vJ z)].toArray)]) Tryz.func42 nm42 rfl rfl rfl ?_))
 refine dY (l2Good_spec (t := t) (z := z) f.pins) ?_
 rintro _ a5 ⟨a6, rfl, g⟩
 refine ⟨_, rfl, ?_⟩
 have a := f.tr g
 have p := ah.ext g
 refine qD rfl (xR rfl) (qe (zA ?_))
 refine qY rfl rfl (fun i => ?_) (fun i => ?_)
 refine wp_skip (zA (zB (zC ?_)))
 have hgd := decP_true.1 i
 refine qD rfl (zT (cs := [(vJ t), (vJ z)]) ag28 sz28 rfl (fun j u hj => (dX a.pins g.le) _ _ _ (m _ _ (by simpa using hj)))) (qI rfl (zF (vs := [(.agg [(vJ t), (vJ z)].toArray)]) Tryz.func44 nm44 rfl rfl rfl ?_))
 refine dY (fE (t := t) (z := z) a.pins hgd) ?_
 rintro _ a7 ⟨ak, a8, rfl, al, q⟩
 refine ⟨_, rfl, ?_⟩
 have r := a.tr q
 have am := p.ext q
 refine qI rfl (zF (vs := [(.agg [ak].toArray)]) Tryz.func43 nm43 rfl rfl rfl ?_)
 refine dY (l3If_spec r.pins al) ?_
 rintro _ a9 ⟨b, ba, rfl, s, x⟩
 refine ⟨_, rfl, ?_⟩
 have y := r.tr x
 have an := am.ext x
 refine qD rfl (zX (v := (.agg [b].toArray)) rfl rfl) (qD rfl (zX (v := (.bool (decP (FitsP (l7F (z).toNat t))))) rfl rfl) (q0 rfl rfl rfl (o_stp (cs' := [b]) (us := [b]) (v := (.agg [b].toArray)) sz26 rfl rfl rfl (yO s.one) y.pins an (dZ rfl) rfl (fun bb ao ap aq bc => ?_))))
 have ar := y.write ap aq ((zY o))
 refine qM (.bool (decP (FitsP (l7F (z).toNat t)))) ?_
 refine qe (zA ?_)
 refine wp_ret (zO (xY (cs := [b]) (v := (.bool (decP (FitsP (l7F (z).toNat t))))) rfl rfl rfl rfl rfl ag26 sz26 (fun j u hj => by rw [Nat.zero_add]; exact ao.cell hj) ?_))
 obtain ⟨k, l⟩ := nm_l7 hgd
 rw [k, l]
 exact ⟨_, _, rfl, s, ar⟩
 refine zB (zC ?_)
 refine qD rfl (xB [vN] [vN] [] dE zr26 rfl pl26 rfl (fun _ h => by cases h) rfl) (q0 rfl rfl rfl (o_stp (cs' := [vN]) (us := [vN]) (v := (.agg [vN].toArray)) sz26 rfl rfl rfl (yO (by rfl)) a.pins p (dZ rfl) rfl (fun bd au av aw be => ?_)))
 have ax := a.write av aw ((zY o))
 refine qM (.bool false) ?_
 refine qe (zA ?_)
 refine wp_ret (zO (xY (cs := [vN]) (v := (.bool false)) rfl rfl rfl rfl rfl ag26 sz26 (fun j u hj => by rw [Nat.zero_add]; exact au.cell hj) ?_))
 obtain ⟨k, l⟩ := nm_bad (decP_false.1 i)
 rw [k, l]
 exact ⟨_, _, rfl, (xP _ _), ax⟩
end NB6
end Go.Proofs.YtjdchbdfohiaaaaGreatDoor
namespace Go.Proofs.YtjdchbdfohiaaaaGreatDoor
namespace OR1
open Go.RowKit Go.GL Go.Proofs
open B1 C1 D1 E1
def GeqC (m : Nat) (o b : Nat) (bu bv kv : Value) (ns : List Nd) (bs : List Int) : Prop := ∀ {w : World} {G : Pin} {ks : List Int} {x y : Int} (_ : Pins G w) (_ : Od 69 3 G w o b bu bv kv ns bs ks) (_ : 0 ≤ x ∧ x < ns.length) (_ : 0 ≤ y ∧ y < ns.length) (_ : ks.length = ns.length * ns.length), x.toNat + y.toNat < m → KOk ns ks (x.toNat + y.toNat + 1) →
  Calls Tryz.prog 76 [(.pointer (some ⟨o, 0, none⟩)), (.int .i64 x), (.int .i64 y)].toArray w fun e w' => ∃ (ks' : List Int) (G' : Pin), e = .returned (.bool (geB ns x y)) ∧ Od 69 3 G' w' o b bu bv kv ns bs ks' ∧ KRes ns ks ks' (x.toNat + y.toNat + 1) ∧ Ext (inO kv.ownBlock) G w G' w'
variable {G : Pin} {m b : Nat} {bu bv kv : Value} {ns : List Nd} {bs ks : List Int} {x y : Int}
theorem look_spec {w : World} {o : Nat} (hP : Pins G w) (hO : Od 69 3 G w o b bu bv kv ns bs ks) (hx : 0 ≤ x ∧ x < ns.length) (hy : 0 ≤ y ∧ y < ns.length) (hkl : ks.length = ns.length * ns.length) (hok : BookOk ns bs) (ih : GeqC m o b bu bv kv ns bs) (hm : x.toNat + y.toNat ≤ m) (hkok : KOk ns ks (x.toNat + y.toNat)) :
  Calls Tryz.prog 89 [(vP o), (vJ x), (vJ y)].toArray w fun e w' => ∃ (ks' : List Int) (G' : Pin), e = .returned (.bool (geB ns x y)) ∧ Od 69 3 G' w' o b bu bv kv ns bs ks' ∧ KRes ns ks ks' (x.toNat + y.toNat) ∧ Ext (inO kv.ownBlock) G w G' w' := by
 refine zU (n := 75) Tryz.func89 Tryz.ntmps89 rfl rfl ?_
 have a4 := exr (inO kv.ownBlock) hP
 have hB := hO.bk
 have hbx := hB.bx
 have hou := hB.ou
 have hov := hB.ov
 have habu := hB.abu
 have habv := hB.abv
 have hauv := hB.auv
 have hlen := hok.len
 have hlim := hok.lim
 have hox := hO.ox
 have a5 := hO.ok
 have haok := hO.aok
 have habk := hO.abk
 have hauk := hO.auk
 have havk := hO.avk
 have hlok : Lo w (inO kv.ownBlock) kv.ownBlock := yV
 have hoo : OptsOk ns := hok.optsOk
 have hlens := hok.lens
 refine zB (zC ?_)
 refine qM (.bool false) ?_
 refine qe (zA (zB (zB (zC ?_))))
 refine qM (vJ 0) ?_
 refine qe (zA ?_)
 refine zW (yS (fun k en W => ∃ (t : Nat → Value) (i : Nat) (kqr : List Int) (GLr : Pin), en = (upd (upd (upd (upd t 0 (vP o)) 1 (vJ x)) 2 (vJ y)) 7 (vJ (i : Int))) ∧ k = (ns.getD (x).toNat default).r.length - i ∧ Ext (inO kv.ownBlock) G w GLr W ∧ Pin.le G GLr ∧ (i ≤ (ns.getD (x).toNat default).r.length) ∧ (KRes ns ks kqr (x.toNat + y.toNat)) ∧ (∀ q, q < i → geB ns y ((ns.getD (x).toNat default).r.getD q 0) = false) ∧ (Own eInt 3 GLr W 0 kv (kqr)) ∧ (Own eNode 69 GLr W 0 bu (ns)) ∧ (Own eInt 3 GLr W 0 bv (bs)) ∧ (Bx GLr W b [bu, bv]) ∧ (Bx GLr W o [(vP b), kv])) _ ⟨_, 0, ks, G, (pS 7 (pS 2 (pS 1 (pU 0)))), rfl, a4, Pin.le_refl _, Nat.zero_le _, (KRes.refl hkok), (fun q hq => absurd hq (Nat.not_lt_zero q)), a5, hou, hov, hbx, hox⟩ ?_)
 rintro k1 _ w2 ⟨t, i, kqr, GLr, rfl, bp, f, a6, hji, hkrr, hpr, am, c, ae, aa, ab⟩
 have hklr := hkrr.len
 refine zB (zB (zC ?_))
 refine qM (vJ (i : Int)) ?_
 refine qM (vP o) ?_
 refine qD rfl (yU rfl) (qD rfl (zK (k := 0) rfl dP rfl nz85 rfl) (qD rfl (zL (u := (vP b)) ag85 rfl (ab.cell (o := 0) rfl)) (qD rfl (yU rfl) (qD rfl (zK (k := 0) rfl dI rfl nz24 rfl) (qD rfl (zL (u := bu) ag24 rfl (aa.cell (o := 0) rfl)) (qM (vJ x) ?_))))))
 refine qD rfl (zJ dC sz69 (v := bu) rfl rfl c.read (by omega) (by omega)) (qD rfl (xF (off := 1) dF rfl rfl nz48 (z := x) (k := 0) rfl c.read (by omega) (by omega)) ?_)
 obtain ⟨a7, an, a8⟩ := kE (c.at (z := x) (by omega) (by omega)) (j := (x).toNat) rfl
 have bq := an.max
 refine qD rfl (a8 ag48 rfl (Gadd.pins f.pins bu)) (qD rfl (zP dB (v := a7) rfl an) (qD rfl (yX rfl rfl) (qe (zA ?_))))
 refine yC (p := ((i : Int) : Int) < (((ns.getD (x).toNat default).r).length : Int)) rfl rfl (fun a9 => ?_) (fun a9 => ?_)
 have hki := hoo.right (j := (x).toNat) (i := i) (by omega) (by omega)
 refine wp_skip (zA (zB ?_))
 refine zW (zB (zC ?_))
 refine qM (vP o) ?_
 refine qM (vJ y) ?_
 refine qM (vP o) ?_
 refine qD rfl (yU rfl) (qD rfl (zK (k := 0) rfl dP rfl nz85 rfl) (qD rfl (zL (u := (vP b)) ag85 rfl (ab.cell (o := 0) rfl)) (qD rfl (yU rfl) (qD rfl (zK (k := 0) rfl dI rfl nz24 rfl) (qD rfl (zL (u := bu) ag24 rfl (aa.cell (o := 0) rfl)) (qM (vJ x) ?_))))))
 refine qD rfl (zJ dC sz69 (v := bu) rfl rfl c.read (by omega) (by omega)) (qD rfl (xF (off := 1) dF rfl rfl nz48 (z := x) (k := 0) rfl c.read (by omega) (by omega)) ?_)
 obtain ⟨ba, af, bb⟩ := kE (c.at (z := x) (by omega) (by omega)) (j := (x).toNat) rfl
 have br := af.max
 refine qD rfl (bb ag48 rfl (Gadd.pins f.pins bu)) (qM (vJ (i : Int)) ?_)
 refine qD rfl (zJ dB sz3 (v := ba) rfl rfl af (by omega) (by omega)) (qD rfl (zI (r := ((ns.getD (x).toNat default).r).getD i 0) rfl ag3 (z := (i : Int)) rfl af f.pins (by omega) (by omega)) (qI rfl (zF (vs := [(vP o), (vJ y), (vJ (((ns.getD (x).toNat default).r).getD i 0))]) Tryz.func76 nm76 rfl rfl rfl ?_)))
 refine dY (ih f.pins ⟨⟨aa, c, ae, habu, habv, hauv⟩, ab, am, haok, habk, hauk, havk⟩ (by omega) (by omega) (by omega) (by omega) (hkrr.ok.mono (by omega))) ?_
 rintro _ bt ⟨bc, bd, rfl, ao, ag, g⟩
 refine ⟨_, rfl, ?_⟩
 have ap := f.trans g (fun i hi => hlok i hi)
 have aq := c.extS g (notO hauk)
 have ar := ae.extS g (notO havk)
 have au := aa.extS g (xO habk)
 have av := ab.extS g (xO haok)
 have bw := ag.len
 refine qe (zA ?_)
 refine c_if rfl rfl (fun ah => ?_) (fun ah => ?_)
 refine zB (zC ?_)
 refine qM (.bool false) ?_
 refine qe (zA ?_)
 exact wp_ret (zO (zQ (v := (.bool false)) rfl rfl rfl (⟨_, _, congrArg (fun z => Ending.returned (Value.bool z)) (mL hoo hx (by omega) ah).symm, ⟨⟨au, aq, ar, habu, habv, hauv⟩, av, ao.ok, haok, habk, hauk, havk⟩, (hkrr.wide ag (by omega)), ap⟩)))
 refine wp_skip (yA (zA (zC ?_)))
 refine qM (vJ (i : Int)) ?_
 refine qD rfl (yJ rfl rfl (by omega)) (qM (vJ ((i : Int) + 1)) ?_)
 refine qe (yD (⟨_, ?_, _, rfl, _, i + 1, bc, bd, (pS 7 (pS 2 (pS 1 (pU 0)))), rfl, ap, (dW a6 g.le), (by omega), (hkrr.wide ag (by omega)), (fun q hq => if h3 : q = i then h3 ▸ ah else hpr q (by omega)), ao.ok, aq, ar, au, av⟩))
 omega
 refine wp_exit (zV (yK (yE (zA (zB (zB (zC ?_)))))))
 refine qM (vJ 0) ?_
 refine qe (zA ?_)
 refine zW (yS (fun k en W => ∃ (t : Nat → Value) (a : Nat) (kql : List Int) (GLl : Pin), en = (upd (upd (upd (upd t 0 (vP o)) 1 (vJ x)) 2 (vJ y)) 8 (vJ (a : Int))) ∧ k = (ns.getD (y).toNat default).l.length - a ∧ Ext (inO kv.ownBlock) G w GLl W ∧ Pin.le GLr GLl ∧ (a ≤ (ns.getD (y).toNat default).l.length) ∧ (KRes ns ks kql (x.toNat + y.toNat)) ∧ (∀ q, q < a → geB ns ((ns.getD (y).toNat default).l.getD q 0) x = false) ∧ (Own eInt 3 GLl W 0 kv (kql)) ∧ (Own eNode 69 GLl W 0 bu (ns)) ∧ (Own eInt 3 GLl W 0 bv (bs)) ∧ (Bx GLl W b [bu, bv]) ∧ (Bx GLl W o [(vP b), kv])) _ ⟨_, 0, kqr, GLr, (pS 8 (pS 2 (pS 1 (pU 0)))), rfl, f, Pin.le_refl _, Nat.zero_le _, hkrr, (fun q hq => absurd hq (Nat.not_lt_zero q)), am, c, ae, aa, ab⟩ ?_)
 rintro bz _ b0 ⟨t, a, kql, GLl, rfl, b1, h, be, b2, hkrl, hpl, aw, d, ai, ac, ad⟩
 have hkll := hkrl.len
 refine zB (zB (zC ?_))
 refine qM (vJ (a : Int)) ?_
 refine qM (vP o) ?_
 refine qD rfl (yU rfl) (qD rfl (zK (k := 0) rfl dP rfl nz85 rfl) (qD rfl (zL (u := (vP b)) ag85 rfl (ad.cell (o := 0) rfl)) (qD rfl (yU rfl) (qD rfl (zK (k := 0) rfl dI rfl nz24 rfl) (qD rfl (zL (u := bu) ag24 rfl (ac.cell (o := 0) rfl)) (qM (vJ y) ?_))))))
 refine qD rfl (zJ dC sz69 (v := bu) rfl rfl d.read (by omega) (by omega)) (qD rfl (xF (off := 0) dF rfl rfl nz48 (z := y) (k := 0) rfl d.read (by omega) (by omega)) ?_)
 obtain ⟨bf, ax, bg⟩ := kA (d.at (z := y) (by omega) (by omega)) (j := (y).toNat) rfl
 have b3 := ax.max
 refine qD rfl (bg ag48 rfl (Gadd.pins h.pins bu)) (qD rfl (zP dB (v := bf) rfl ax) (qD rfl (yX rfl rfl) (qe (zA ?_))))
 refine yC (p := ((a : Int) : Int) < (((ns.getD (y).toNat default).l).length : Int)) rfl rfl (fun bh => ?_) (fun bh => ?_)
 have hki := hoo.left (j := (y).toNat) (i := a) (by omega) (by omega)
 refine wp_skip (zA (zB ?_))
 refine zW (zB (zC ?_))
 refine qM (vP o) ?_
 refine qM (vP o) ?_
 refine qD rfl (yU rfl) (qD rfl (zK (k := 0) rfl dP rfl nz85 rfl) (qD rfl (zL (u := (vP b)) ag85 rfl (ad.cell (o := 0) rfl)) (qD rfl (yU rfl) (qD rfl (zK (k := 0) rfl dI rfl nz24 rfl) (qD rfl (zL (u := bu) ag24 rfl (ac.cell (o := 0) rfl)) (qM (vJ y) ?_))))))
 refine qD rfl (zJ dC sz69 (v := bu) rfl rfl d.read (by omega) (by omega)) (qD rfl (xF (off := 0) dF rfl rfl nz48 (z := y) (k := 0) rfl d.read (by omega) (by omega)) ?_)
 obtain ⟨bi, aj, bj⟩ := kA (d.at (z := y) (by omega) (by omega)) (j := (y).toNat) rfl
 have b4 := aj.max
 refine qD rfl (bj ag48 rfl (Gadd.pins h.pins bu)) (qM (vJ (a : Int)) ?_)
 refine qD rfl (zJ dB sz3 (v := bi) rfl rfl aj (by omega) (by omega)) (qD rfl (zI (r := ((ns.getD (y).toNat default).l).getD a 0) rfl ag3 (z := (a : Int)) rfl aj h.pins (by omega) (by omega)) (qM (vJ x) ?_))
 refine qI rfl (zF (vs := [(vP o), (vJ (((ns.getD (y).toNat default).l).getD a 0)), (vJ x)]) Tryz.func76 nm76 rfl rfl rfl ?_)
 refine dY (ih h.pins ⟨⟨ac, d, ai, habu, habv, hauv⟩, ad, aw, haok, habk, hauk, havk⟩ (by omega) (by omega) (by omega) (by omega) (hkrl.ok.mono (by omega))) ?_
 rintro _ b5 ⟨bl, bm, rfl, ay, ak, s⟩
 refine ⟨_, rfl, ?_⟩
 have az := h.trans s (fun i hi => hlok i hi)
 have a0 := d.extS s (notO hauk)
 have a1 := ai.extS s (notO havk)
 have a2 := ac.extS s (xO habk)
 have a3 := ad.extS s (xO haok)
 have b6 := ak.len
 refine qe (zA ?_)
 refine c_if rfl rfl (fun al => ?_) (fun al => ?_)
 refine zB (zC ?_)
 refine qM (.bool false) ?_
 refine qe (zA ?_)
 exact wp_ret (zO (zQ (v := (.bool false)) rfl rfl rfl (⟨_, _, congrArg (fun z => Ending.returned (Value.bool z)) (pD hoo hy (by omega) al).symm, ⟨⟨a2, a0, a1, habu, habv, hauv⟩, a3, ay.ok, haok, habk, hauk, havk⟩, (hkrl.wide ak (by omega)), az⟩)))
 refine wp_skip (yA (zA (zC ?_)))
 refine qM (vJ (a : Int)) ?_
 refine qD rfl (yJ rfl rfl (by omega)) (qM (vJ ((a : Int) + 1)) ?_)
 refine qe (yD (⟨_, ?_, _, rfl, _, a + 1, bl, bm, (pS 8 (pS 2 (pS 1 (pU 0)))), rfl, az, (dW be s.le), (by omega), (hkrl.wide ak (by omega)), (fun q hq => if h3 : q = a then h3 ▸ al else hpl q (by omega)), ay.ok, a0, a1, a2, a3⟩))
 omega
 refine wp_exit (zV (yK (yE (zA (zB (zC ?_))))))
 refine qM (.bool true) ?_
 refine qe (zA ?_)
 exact wp_ret (zO (zQ (v := (.bool true)) rfl rfl rfl (⟨_, _, congrArg (fun z => Ending.returned (Value.bool z)) (geB_yes hoo hx hy (fun q hq => hpr q (by omega)) (fun q hq => hpl q (by omega))).symm, ⟨⟨ac, d, ai, habu, habv, hauv⟩, ad, aw, haok, habk, hauk, havk⟩, hkrl, h⟩)))
theorem geq_step {w : World} {o : Nat} (hP : Pins G w) (hO : Od 69 3 G w o b bu bv kv ns bs ks) (hx : 0 ≤ x ∧ x < ns.length) (hy : 0 ≤ y ∧ y < ns.length) (hkl : ks.length = ns.length * ns.length) (hok : BookOk ns bs) (ih : GeqC m o b bu bv kv ns bs) (hm : x.toNat + y.toNat < m + 1) (hkok : KOk ns ks (x.toNat + y.toNat + 1)) :
  Calls Tryz.prog 76 [(vP o), (vJ x), (vJ y)].toArray w fun e w' => ∃ (ks' : List Int) (G' : Pin), e = .returned (.bool (geB ns x y)) ∧ Od 69 3 G' w' o b bu bv kv ns bs ks' ∧ KRes ns ks ks' (x.toNat + y.toNat + 1) ∧ Ext (inO kv.ownBlock) G w G' w' := by
 refine zU (n := 52) Tryz.func76 Tryz.ntmps76 rfl rfl ?_
 have d := exr (inO kv.ownBlock) hP
 have hB := hO.bk
 have hbx := hB.bx
 have hou := hB.ou
 have hov := hB.ov
 have habu := hB.abu
 have habv := hB.abv
 have hauv := hB.auv
 have hlen := hok.len
 have hlim := hok.lim
 have hox := hO.ox
 have c := hO.ok
 have haok := hO.aok
 have habk := hO.abk
 have hauk := hO.auk
 have havk := hO.avk
 have hlok : Lo w (inO kv.ownBlock) kv.ownBlock := yV
 have hoo : OptsOk ns := hok.optsOk
 have hlens := hok.lens
 have hib := idx_bd hx hy hok.lim
 refine zB (zC ?_)
 refine qM (.bool false) ?_
 refine qe (zA (zB (zC ?_)))
 refine qM (vJ x) ?_
 refine qM (vP o) ?_
 refine qD rfl (yU rfl) (qD rfl (zK (k := 0) rfl dP rfl nz85 rfl) (qD rfl (zL (u := (vP b)) ag85 rfl (hox.cell (o := 0) rfl)) (qD rfl (yU rfl) (qD rfl (zK (k := 0) rfl dI rfl nz24 rfl) (qD rfl (zL (u := bu) ag24 rfl (hbx.cell (o := 0) rfl)) (qD rfl (zP dC (v := bu) rfl hou.read) (qD rfl (nW rfl rfl (by omega)) (qM (vJ y) ?_))))))))
 refine qD rfl (yJ rfl rfl (by omega)) (qM (vJ ((x * (ns.length : Int)) + y)) ?_)
 refine qe (zA (zB (zB (zC ?_))))
 refine qM (vP o) ?_
 refine qD rfl (yU rfl) (qD rfl (zK (k := 1) rfl dP rfl nz48 rfl) (qD rfl (zL (u := kv) ag48 rfl (hox.cell (o := 1) rfl)) (qM (vJ ((x * (ns.length : Int)) + y)) ?_)))
 refine qD rfl (zJ dB sz3 (v := kv) rfl rfl c.read (by omega) (by omega)) (qD rfl (zI (r := ks.getD ((x * (ns.length : Int)) + y).toNat 0) rfl ag3 (z := ((x * (ns.length : Int)) + y)) rfl c.read (Gadd.pins d.pins kv) (by omega) (by omega)) (qD rfl (xU rfl rfl) (qe (zA ?_))))
 refine yC (p := (ks.getD ((x * (ns.length : Int)) + y).toNat 0 : Int) = 0) rfl rfl (fun h1 => ?_) (fun h1 => ?_)
 refine zB (zC ?_)
 refine qM (vP o) ?_
 refine qD rfl (yU rfl) (qD rfl (zK (k := 1) rfl dP rfl nz48 rfl) (qD rfl (zL (u := kv) ag48 rfl (hox.cell (o := 1) rfl)) (qM (vJ ((x * (ns.length : Int)) + y)) ?_)))
 refine qD rfl (zJ dB sz3 (v := kv) rfl rfl c.read (by omega) (by omega)) (q0 rfl rfl rfl (fD (E := eInt) (v := kv) (u := (vJ 2)) (z := ((x * (ns.length : Int)) + y)) (2) sz3 rfl rfl rfl rfl d.pins c (by omega) (by omega) (fun w2 an ao f az => ?_)))
 have ac := d.write ao f (hlok)
 have ad := hou.keptA f hauk
 have ae := hov.keptA f havk
 have af := hbx.keptA f habk
 have ag := hox.keptA f haok
 have ap : Own eInt 3 G w2 0 kv ((ks).set ((x * (ns.length : Int)) + y).toNat 2) := an
 have a0 : ((ks).set ((x * (ns.length : Int)) + y).toNat 2).length = ks.length := List.length_set ..
 refine qe (zA (zB (zC ?_)))
 refine qM (vP o) ?_
 refine qM (vJ x) ?_
 refine qM (vJ y) ?_
 refine qI rfl (zF (vs := [(vP o), (vJ x), (vJ y)]) Tryz.func89 nm89 rfl rfl rfl ?_)
 refine dY (look_spec ac.pins ⟨⟨af, ad, ae, habu, habv, hauv⟩, ag, ap, haok, habk, hauk, havk⟩ hx hy (by rw [List.length_set]; exact hkl) hok ih (by omega) (KRes.prov hx hy hkok).1) ?_
 rintro _ a1 ⟨a, aq, rfl, g, s, h⟩
 refine ⟨_, rfl, ?_⟩
 have l := ac.trans h (fun i hi => hlok i hi)
 have ah := ad.extS h (notO hauk)
 have ai := ae.extS h (notO havk)
 have aj := af.extS h (xO habk)
 have q := ag.extS h (xO haok)
 have a2 := s.len
 refine qe (zA ?_)
 refine c_if rfl rfl (fun t => ?_) (fun t => ?_)
 refine zC (qM (vP o) ?_)
 refine qD rfl (yU rfl) (qD rfl (zK (k := 1) rfl dP rfl nz48 rfl) (qD rfl (zL (u := kv) ag48 rfl (q.cell (o := 1) rfl)) (qM (vJ ((x * (ns.length : Int)) + y)) ?_)))
 refine qD rfl (zJ dB sz3 (v := kv) rfl rfl g.ok.read (by omega) (by omega)) (q0 rfl rfl rfl (fD (E := eInt) (v := kv) (u := (vJ 1)) (z := ((x * (ns.length : Int)) + y)) (1) sz3 rfl rfl rfl rfl l.pins g.ok (by omega) (by omega) (fun ar au av j a3 => ?_)))
 have ak := l.write av j (hlok)
 have aw := ah.keptA j hauk
 have ax := ai.keptA j havk
 have ay := aj.keptA j habk
 have al := q.keptA j haok
 have aa : Own eInt 3 aq ar 0 kv ((a).set ((x * (ns.length : Int)) + y).toNat 1) := au
 have a4 : ((a).set ((x * (ns.length : Int)) + y).toNat 1).length = a.length := List.length_set ..
 refine qe (zA (zB (zC ?_)))
 refine qM (vP o) ?_
 refine qD rfl (yU rfl) (qD rfl (zK (k := 1) rfl dP rfl nz48 rfl) (qD rfl (zL (u := kv) ag48 rfl (al.cell (o := 1) rfl)) (qM (vJ ((x * (ns.length : Int)) + y)) ?_)))
 refine qD rfl (zJ dB sz3 (v := kv) rfl rfl aa.read (by omega) (by omega)) (qD rfl (zI (r := ((a).set ((x * (ns.length : Int)) + y).toNat 1).getD ((x * (ns.length : Int)) + y).toNat 0) rfl ag3 (z := ((x * (ns.length : Int)) + y)) rfl aa.read (Gadd.pins ak.pins kv) (by omega) (by omega)) (qD rfl (xU rfl rfl) (qM (.bool (decide ((((a).set ((x * (ns.length : Int)) + y).toNat 1).getD ((x * (ns.length : Int)) + y).toNat 0 : Int) = 1))) ?_)))
 refine qe (zA ?_)
 refine wp_ret (zO (zQ (v := (.bool (decide ((((a).set ((x * (ns.length : Int)) + y).toNat 1).getD ((x * (ns.length : Int)) + y).toNat 0 : Int) = 1)))) rfl rfl rfl ?_))
 have htold := KRes.told hx hy hkl hkok s (if_pos t).symm
 exact ⟨_, _, congrArg (fun z => Ending.returned (Value.bool z)) htold.2, ⟨⟨ay, aw, ax, habu, habv, hauv⟩, al, aa, haok, habk, hauk, havk⟩, htold.1, ak⟩
 refine wp_skip (zA (zB (zC ?_)))
 refine qM (vP o) ?_
 refine qD rfl (yU rfl) (qD rfl (zK (k := 1) rfl dP rfl nz48 rfl) (qD rfl (zL (u := kv) ag48 rfl (q.cell (o := 1) rfl)) (qM (vJ ((x * (ns.length : Int)) + y)) ?_)))
 refine qD rfl (zJ dB sz3 (v := kv) rfl rfl g.ok.read (by omega) (by omega)) (qD rfl (zI (r := a.getD ((x * (ns.length : Int)) + y).toNat 0) rfl ag3 (z := ((x * (ns.length : Int)) + y)) rfl g.ok.read (Gadd.pins l.pins kv) (by omega) (by omega)) (qD rfl (xU rfl rfl) (qM (.bool (decide ((a.getD ((x * (ns.length : Int)) + y).toNat 0 : Int) = 1))) ?_)))
 refine qe (zA ?_)
 refine wp_ret (zO (zQ (v := (.bool (decide ((a.getD ((x * (ns.length : Int)) + y).toNat 0 : Int) = 1)))) rfl rfl rfl ?_))
 have htold := KRes.told hx hy hkl hkok s (if_neg (by rw [t]; decide)).symm
 exact ⟨_, _, congrArg (fun z => Ending.returned (Value.bool z)) htold.2, ⟨⟨aj, ah, ai, habu, habv, hauv⟩, q, g.ok, haok, habk, hauk, havk⟩, htold.1, l⟩
 refine wp_skip (zA (zB (zC ?_)))
 refine qM (vP o) ?_
 refine qD rfl (yU rfl) (qD rfl (zK (k := 1) rfl dP rfl nz48 rfl) (qD rfl (zL (u := kv) ag48 rfl (hox.cell (o := 1) rfl)) (qM (vJ ((x * (ns.length : Int)) + y)) ?_)))
 refine qD rfl (zJ dB sz3 (v := kv) rfl rfl c.read (by omega) (by omega)) (qD rfl (zI (r := ks.getD ((x * (ns.length : Int)) + y).toNat 0) rfl ag3 (z := ((x * (ns.length : Int)) + y)) rfl c.read (Gadd.pins d.pins kv) (by omega) (by omega)) (qD rfl (xU rfl rfl) (qM (.bool (decide ((ks.getD ((x * (ns.length : Int)) + y).toNat 0 : Int) = 1))) ?_)))
 refine qe (zA ?_)
 exact wp_ret (zO (zQ (v := (.bool (decide ((ks.getD ((x * (ns.length : Int)) + y).toNat 0 : Int) = 1)))) rfl rfl rfl (⟨_, _, congrArg (fun z => Ending.returned (Value.bool z)) (KOk.known hx hy hkok h1), ⟨⟨hbx, hou, hov, habu, habv, hauv⟩, hox, c, haok, habk, hauk, havk⟩, KRes.refl hkok, d⟩)))
theorem geq_all {o b : Nat} {bu bv kv : Value} {ns : List Nd} {bs : List Int} (hok : BookOk ns bs) : ∀ m, GeqC m o b bu bv kv ns bs
 | 0 => fun _ _ _ _ _ h _ => absurd h (Nat.not_lt_zero _)
 | m + 1 => fun hP hO hx hy hkl hm hk => geq_step hP hO hx hy hkl hok (geq_all hok m) hm hk
theorem geq_spec {w : World} {o : Nat} (hP : Pins G w) (hO : Od 69 3 G w o b bu bv kv ns bs ks) (hx : 0 ≤ x ∧ x < ns.length) (hy : 0 ≤ y ∧ y < ns.length) (hkl : ks.length = ns.length * ns.length) (hok : BookOk ns bs) (hkok : KOk ns ks (x.toNat + y.toNat + 1)) :
  Calls Tryz.prog 76 [(.pointer (some ⟨o, 0, none⟩)), (.int .i64 x), (.int .i64 y)].toArray w fun e w' => ∃ (ks' : List Int) (G' : Pin), e = .returned (.bool (geB ns x y)) ∧ Od 69 3 G' w' o b bu bv kv ns bs ks' ∧ KRes ns ks ks' (x.toNat + y.toNat + 1) ∧ Ext (inO kv.ownBlock) G w G' w' :=
 geq_all hok _ hP hO hx hy hkl (Nat.lt_succ_self _) hkok
end OR1
end Go.Proofs.YtjdchbdfohiaaaaGreatDoor
namespace Go.Proofs.YtjdchbdfohiaaaaGreatDoor
namespace SF1
open Go.RowKit Go.GL Go.Proofs
open B1 C1 D1 E1 OR1
theorem mk3 : (Tryz.prog.info? 3).map (fun i => (i.size, i.bytes, i.zero)) = some (1, 8, some (.int .i64 0)) := by kernel_rfl
theorem pl117 : (Tryz.prog.underlying 117).bind (placesD Tryz.prog) = some [(0, 1), (1, 1)] := by kernel_rfl
theorem pl87 : (Tryz.prog.underlying 87).bind (placesD Tryz.prog) = some [(0, 1), (1, 1)] := by kernel_rfl
variable {G : Pin}
theorem l4Of_spec {w : World} {b : Nat} {bu bv : Value} {ns : List Nd} {bs : List Int} (hP : Pins G w) (hB : Bk 69 3 G w b bu bv ns bs) (hok : BookOk ns bs) :
  Calls Tryz.prog 75 [(vP b)].toArray w fun e w' => ∃ (o : Nat) (kv : Value) (G' : Pin), e = .returned (vP o) ∧ Bx G' w' o [.pointer (some ⟨b, 0, none⟩), kv] ∧ Own eInt 3 G' w' w.heap.size kv (List.replicate (ns.length * ns.length) 0) ∧ w.heap.size ≤ o ∧ Apart (some o) kv.ownBlock ∧ Ext noS G w G' w' := by
 refine zU (n := 18) Tryz.func75 Tryz.ntmps75 rfl rfl ?_
 have j := exr noS hP
 have hbx := hB.bx
 have hou := hB.ou
 have hov := hB.ov
 have habu := hB.abu
 have habv := hB.abv
 have hauv := hB.auv
 have hlen := hok.len
 have hlim := hok.lim
 have hsq := sq_bd hok.lim
 refine zB (zC ?_)
 refine qM (.pointer none) ?_
 refine qe (zA (zB ?_))
 have aa := Gadd.pins j.pins bu
 have x := hou.read
 refine yZ (S := fun wz => BxR wz b [bu, bv] ∧ Pins (Gadd G w bu) wz) (last := 16) (by kernel_rfl) rfl ?_
 have f := bdr w
 have ab := j.pins.below f
 have l := j.step ab f
 have a := hbx.below f
 have c := aa.below f
 refine dT (i := 0) rfl rfl (by kernel_rfl) (fun _ _ => zR (v := (vP b)) rfl) ⟨a.reads, c⟩ ?_
 refine dT (i := 1) rfl rfl (by kernel_rfl) (fun _ _ => zR (v := (vP b)) rfl) ⟨a.reads, c⟩ ?_
 refine dT (i := 2) rfl rfl (by kernel_rfl) (fun _ _ => yU rfl) ⟨a.reads, c⟩ ?_
 refine dT (i := 3) rfl rfl (by kernel_rfl) (fun _ _ => zK (k := 0) rfl dI rfl nz24 rfl) ⟨a.reads, c⟩ ?_
 refine dT (i := 4) rfl rfl (by kernel_rfl) (fun _ hS => zL (u := bu) ag24 rfl (hS.1 0 _ rfl)) ⟨a.reads, c⟩ ?_
 refine dT (i := 5) rfl rfl (by kernel_rfl) (fun _ _ => zP dC (v := bu) rfl x) ⟨a.reads, c⟩ ?_
 refine dT (i := 6) rfl rfl (by kernel_rfl) (fun _ _ => zR (v := (vP b)) rfl) ⟨a.reads, c⟩ ?_
 refine dT (i := 7) rfl rfl (by kernel_rfl) (fun _ _ => yU rfl) ⟨a.reads, c⟩ ?_
 refine dT (i := 8) rfl rfl (by kernel_rfl) (fun _ _ => zK (k := 0) rfl dI rfl nz24 rfl) ⟨a.reads, c⟩ ?_
 refine dT (i := 9) rfl rfl (by kernel_rfl) (fun _ hS => zL (u := bu) ag24 rfl (hS.1 0 _ rfl)) ⟨a.reads, c⟩ ?_
 refine dT (i := 10) rfl rfl (by kernel_rfl) (fun _ _ => zP dC (v := bu) rfl x) ⟨a.reads, c⟩ ?_
 refine dT (i := 11) rfl rfl (by kernel_rfl) (fun _ _ => nW rfl rfl (by omega)) ⟨a.reads, c⟩ ?_
 refine dO (i := 12) (zS (i := 12) rfl rfl rfl (zD rfl _) (nF (E := eInt) 0 8 (vJ 0) dB mk3 (fun _ => rfl) rfl rfl l.pins (by omega) (by omega) (by omega) (fun d ac ad ae m am => ?_)))
 have p := l.step ae m
 have q := a.below m
 have r : Own eInt 3 G ac w.heap.size d (List.replicate ((ns.length : Int) * (ns.length : Int)).toNat 0) := ad.weaken l.size
 have an : (List.replicate ((ns.length : Int) * (ns.length : Int)).toNat 0).length = ((ns.length : Int) * (ns.length : Int)).toNat := List.length_replicate ..
 have s := c.below m
 refine ⟨fun _ => ⟨q.reads, s⟩, ?_⟩
 refine dT (i := 13) rfl rfl (by kernel_rfl) (fun _ _ => xB [(.pointer none), vN] [(vP b), d] [(0, (vP b), [(vP b)]), (1, d, [d])] dP zr117 rfl pl117 rfl (List.forall_mem_cons.2 ⟨rfl, (List.forall_mem_cons.2 ⟨(xM r.one), (fun _ h => by cases h)⟩)⟩) rfl) ⟨q.reads, s⟩ ?_
 refine dO (i := 14) (zS (i := 14) rfl rfl rfl (zD rfl _) (xH [(vP b), d] (v := (.agg [(vP b), d].toArray)) rfl rfl p.pins (fun t ao af ag ah g => ?_)))
 have ai := p.step ah g
 have aj := r.below g
 have y := q.below g
 have ak := zG (congrArg some af) r.lt
 have al : w.heap.size ≤ t := by have := p.size; omega
 have z := s.below g
 refine ⟨fun _ => ⟨y.reads, z⟩, ?_⟩
 refine dT (i := 15) rfl rfl (by kernel_rfl) (fun _ _ => qU (v := (vP t)) rfl) ⟨y.reads, z⟩ ?_
 refine yP (by kernel_rfl) (zA (wp_ret (zO (zQ (v := (vP t)) rfl rfl rfl ?_))))
 have hrow := aj
 rw [sq_nat] at hrow
 exact ⟨_, _, _, rfl, ag, hrow, al, ak, ai⟩
theorem sX {w : World} {u v : Value} {ax bs : List Nd} (hP : Pins G w) (hu : RSl eNode G u ax) (hv : RSl eNode G v bs) (ha : FormOk ax ∧ 1 ≤ ax.length) (hb : FormOk bs ∧ 1 ≤ bs.length) (hl : ax.length + bs.length ≤ 1048576) :
  Calls Tryz.prog 51 [(.agg [u].toArray), (.agg [v].toArray)].toArray w fun e w' => ∃ G', e = .returned (.bool (decP (geG (gOf ax) (gOf bs)))) ∧ Ext noS G w G' w' := by
 refine zU (n := 21) Tryz.func51 Tryz.ntmps51 rfl rfl ?_
 have p := exr noS hP
 have g := jK qL ha.1 (by simp; omega)
 have hlen := g.hi
 simp only [List.length_nil, Nat.zero_add] at hlen
 have k := jK g.book hb.1 (by omega)
 have ak := tJ g ha.2
 have al := tJ k hb.2
 have b2 := k.lo
 have hge := ge_roots ha hb hl _ _ rfl rfl
 refine zB (zC ?_)
 refine qI rfl (xH [u] (v := (.agg [u].toArray)) rfl rfl p.pins (fun b1 w2 b4 an ao ap => ?_))
 have aq := p.step ao ap
 have ar : w.heap.size ≤ b1 := by have := p.size; omega
 obtain ⟨G9, ad, q, au, b6⟩ := an.shut aq ar
 refine qI rfl (xH [v] (v := (.agg [v].toArray)) rfl rfl q.pins (fun av b7 b8 aw ay az => ?_))
 have a0 := q.step ay az
 have a1 : w.heap.size ≤ av := by have := q.size; omega
 obtain ⟨b9, r, s, a2, ca⟩ := aw.shut a0 a1
 refine qM (.bool false) ?_
 refine qe (zA (zB (zC ?_)))
 refine qD rfl (xB [vN, vN] [vN, vN] [] dI zr87 rfl pl87 rfl (fun _ h => by cases h) rfl) (qI rfl (xH [vN, vN] (v := (.agg [vN, vN].toArray)) rfl rfl s.pins (fun a cb cc a3 a4 a5 => ?_)))
 have d := s.step a4 a5
 have ae : w.heap.size ≤ a := by have := s.size; omega
 refine qM (vP a) ?_
 refine qe (zA (zB (zC ?_)))
 refine qM (vP a) ?_
 refine qD rfl (zT (cs := [u]) ag26 sz26 rfl (fun j u hj => (dX d.pins r) _ _ _ (au _ _ (by simpa using hj)))) (qI rfl (zF (vs := [(vP a), (.agg [u].toArray)]) Tryz.func49 nm49 rfl rfl rfl ?_))
 refine dY (jX d.pins ⟨a3, (Own.nil _ _ _ _ _), (Own.nil _ _ _ _ _), apart_none.symm, apart_none.symm, apart_none⟩ qL (hu.mono (dW ad r)) ha (by first | omega | (simp; omega))) ?_
 rintro _ cd ⟨a6, a7, ce, rfl, b, t, a8, a9⟩
 refine ⟨_, rfl, ?_⟩
 have x : ∀ i, inS a vN vN i → w.heap.size ≤ i ∨ noS i := jD (zY ae) (jU _ _) (jU _ _)
 have f := d.trans t x
 have ba := b.bx
 have bb := b.ou
 have bc := b.ov
 have bd := b.abu
 have be := b.abv
 have bf := b.auv
 have bg := xD a8 x d.size
 have bh := xD a9 x d.size
 refine qM (vJ (rootM ([]) ([]) ax)) ?_
 refine qe (zA (zB (zC ?_)))
 refine qM (vP a) ?_
 refine qD rfl (zT (cs := [v]) ag26 sz26 rfl (fun j u hj => (dX f.pins t.le) _ _ _ (a2 _ _ (by simpa using hj)))) (qI rfl (zF (vs := [(vP a), (.agg [v].toArray)]) Tryz.func49 nm49 rfl rfl rfl ?_))
 refine dY (jX f.pins ⟨ba, bb, bc, bd, be, bf⟩ g.book (hv.mono (dW (dW ad r) t.le)) hb (by first | omega | (simp; omega))) ?_
 rintro _ cf ⟨cg, ch, ci, rfl, c, bi, bj, bk⟩
 refine ⟨_, rfl, ?_⟩
 have y : ∀ i, inS a a6 a7 i → w.heap.size ≤ i ∨ noS i := jD (zY ae) bg bh
 have l := f.trans bi y
 have aa := c.bx
 have ab := c.ou
 have ac := c.ov
 have af := c.abu
 have ag := c.abv
 have ah := c.auv
 have cj := xD bj y f.size
 have ck := xD bk y f.size
 refine qM (vJ (rootM ((addM ([]) ([]) ax).2.1) ((addM ([]) ([]) ax).2.2) bs)) ?_
 refine qe (zA (zB (zC ?_)))
 refine qM (vP a) ?_
 refine qI rfl (zF (vs := [(vP a)]) Tryz.func75 nm75 rfl rfl rfl ?_)
 refine dY (l4Of_spec l.pins ⟨aa, ab, ac, af, ag, ah⟩ k.book) ?_
 rintro _ cl ⟨bl, cm, cn, rfl, bm, m, bn, bo, o⟩
 refine ⟨_, rfl, ?_⟩
 have ai := l.tr o
 have bp := ab.ext o
 have bq := ac.ext o
 have br := aa.ext o
 have bt := yB m.lt ab.lt
 have bu := yB m.lt ac.lt
 have bv := yF m.lt aa.lt
 have co := Nat.le_trans l.size bn
 have aj := m.weaken l.size
 refine qM (vJ (rootM ([]) ([]) ax)) ?_
 refine qM (vJ (rootM ((addM ([]) ([]) ax).2.1) ((addM ([]) ([]) ax).2.2) bs)) ?_
 refine qI rfl (zF (vs := [(vP bl), (vJ (rootM ([]) ([]) ax)), (vJ (rootM ((addM ([]) ([]) ax).2.1) ((addM ([]) ([]) ax).2.2) bs))]) Tryz.func76 nm76 rfl rfl rfl ?_)
 refine dY (geq_spec ai.pins ⟨⟨br, bp, bq, af, ag, ah⟩, bm, (aj.weaken (Nat.zero_le _)), bo, bv.symm, bt.symm, bu.symm⟩ ⟨ak.1, by omega⟩ al (by simp) k.book KOk.zero) ?_
 rintro _ cp ⟨cq, cr, rfl, ct, bw, bz⟩
 refine ⟨_, rfl, ?_⟩
 have b0 := ai.trans bz (fun i hi => (yH aj) i hi)
 have cu := bw.len
 refine qM (.bool (geB ((addM ((addM ([]) ([]) ax).2.1) ((addM ([]) ([]) ax).2.2) bs).2.1) (rootM ([]) ([]) ax) (rootM ((addM ([]) ([]) ax).2.1) ((addM ([]) ([]) ax).2.2) bs))) ?_
 refine qe (zA ?_)
 exact wp_ret (zO (zQ (v := (.bool (geB ((addM ((addM ([]) ([]) ax).2.1) ((addM ([]) ([]) ax).2.2) bs).2.1) (rootM ([]) ([]) ax) (rootM ((addM ([]) ([]) ax).2.1) ((addM ([]) ([]) ax).2.2) bs)))) rfl rfl rfl (⟨_, congrArg (fun z => Ending.returned (Value.bool z)) hge.1, b0⟩)))
end SF1
end Go.Proofs.YtjdchbdfohiaaaaGreatDoor
namespace Go.Proofs.YtjdchbdfohiaaaaGreatDoor
namespace N1
open Go.RowKit Go.GL Go.Proofs
open B1 C1 D1 E1
theorem pl87 : (Tryz.prog.underlying 87).bind (placesD Tryz.prog) = some [(0, 1), (1, 1)] := by kernel_rfl
variable {G : Pin} {v : Value} {ns : List Nd}
theorem nY {w : World} {z : Int} (hP : Pins G w) (hv : RSl eNode G v ns) (hf : FormOk ns) (hz : 0 ≤ z ∧ z < ns.length) :
  Calls Tryz.prog 74 [(.agg [v].toArray), (vJ z)].toArray w fun e w' => ∃ (u : Value) (G' : Pin), e = .returned (.agg [u].toArray) ∧ RSl eNode G' u (partS ns z) ∧ Ext noS G w G' w' := by
 refine zU (n := 18) Tryz.func74 Tryz.ntmps74 rfl rfl ?_
 have f := exr noS hP
 have hfl := hf.len
 have hao := jK qL hf (by simp; omega)
 have hal := hao.len
 refine zB (zC ?_)
 refine qI rfl (xH [v] (v := (.agg [v].toArray)) rfl rfl f.pins (fun b1 w2 bb ac ad ae => ?_))
 have af := f.step ad ae
 have ag : w.heap.size ≤ b1 := by have := f.size; omega
 obtain ⟨G9, ah, g, ai, bd⟩ := ac.shut af ag
 refine qI rfl (yM [vN] zr26 rfl g.pins (fun aj be bf p ak al => ?_))
 have k := g.step ak al
 have am : w.heap.size ≤ aj := by have := g.size; omega
 refine qe (zA (zB (zC ?_)))
 refine qD rfl (xB [vN, vN] [vN, vN] [] dI zr87 rfl pl87 rfl (fun _ h => by cases h) rfl) (qI rfl (xH [vN, vN] (v := (.agg [vN, vN].toArray)) rfl rfl k.pins (fun a bg an ao ap q => ?_)))
 have c := k.step ap q
 have aq := p.below q
 have ar := zH (congrArg some an) p.lt
 have au : w.heap.size ≤ a := by have := k.size; omega
 refine qM (vP a) ?_
 refine qe (zA (zB (zC ?_)))
 refine qM (vP a) ?_
 refine qD rfl (zT (cs := [v]) ag26 sz26 rfl (fun j u hj => c.pins _ _ _ (ai _ _ (by simpa using hj)))) (qI rfl (zF (vs := [(vP a), (.agg [v].toArray)]) Tryz.func73 nm73 rfl rfl rfl ?_))
 refine dY (add_spec c.pins ⟨ao, (Own.nil _ _ _ _ _), (Own.nil _ _ _ _ _), apart_none.symm, apart_none.symm, apart_none⟩ qL (hv.mono ah) hf (by first | omega | (simp; omega))) ?_
 rintro _ bh ⟨l, bi, bj, bk, rfl, s, b, t, av, aw⟩
 refine ⟨_, rfl, ?_⟩
 have m : ∀ i, inS a vN vN i → w.heap.size ≤ i ∨ noS i := jD (zY au) (jU _ _) (jU _ _)
 have o := c.trans t m
 have ax := notS (u := vN) (v := vN) ar.symm apart_none.symm apart_none.symm
 have ay := aq.extS t (notSb ax)
 have az := b.bx
 have a0 := b.ou
 have a1 := b.ov
 have a2 := b.abu
 have a3 := b.abv
 have a4 := b.auv
 have bl := xD av m c.size
 have bm := xD aw m c.size
 refine qM l ?_
 refine qe (zA (zB (zC ?_)))
 refine qM (vP a) ?_
 refine qM l ?_
 refine qM (vJ z) ?_
 refine qD rfl (zJ dB sz3 (v := l) rfl rfl s (by omega) (by omega)) (qD rfl (zI (r := ((addM ([]) ([]) ns).1).getD (z).toNat 0) rfl ag3 (z := z) rfl s o.pins (by omega) (by omega)) (qI rfl (zF (vs := [(vP a), (vJ (((addM ([]) ([]) ns).1).getD (z).toNat 0))]) Tryz.func48 nm48 rfl rfl rfl ?_)))
 refine dY (tP o.pins ⟨az, a0, a1, a2, a3, a4⟩ hao.book (hao.places _ (by omega))) ?_
 rintro _ bn ⟨d, bo, rfl, x, y⟩
 refine ⟨_, rfl, ?_⟩
 have aa := o.tr y
 have a5 := ay.ext y
 refine q0 rfl rfl rfl (o_stp (cs' := [d]) (us := [d]) (v := (.agg [d].toArray)) sz26 rfl rfl rfl (yO x.one) aa.pins a5 (dZ rfl) rfl (fun bp a6 a7 a8 bq => ?_))
 have a9 := aa.write a7 a8 ((zY am))
 refine qe (zA ?_)
 exact wp_ret (zO (qE (cs := [d]) rfl rfl rfl ag26 sz26 (fun j u hj => by rw [Nat.zero_add]; exact a6.cell hj) (⟨_, _, rfl, x, a9⟩)))
theorem l3OptsF_spec {w : World} (hP : Pins G w) (hv : RSl eNode G v ns) (hf : FormOk ns) (hlo : 1 ≤ ns.length) :
  Calls Tryz.prog 50 [(.agg [v].toArray)].toArray w fun e w' => ∃ (u v : Value) (G' : Pin), e = .returned (.tuple #[u, v]) ∧ RSl (eSl eNode) G' u (optsS ns (lastN ns).l) ∧ RSl (eSl eNode) G' v (optsS ns (lastN ns).r) ∧ Ext noS G w G' w' := by
 refine zU (n := 55) Tryz.func50 Tryz.ntmps50 rfl rfl ?_
 have an := exr noS hP
 have hhi := hf.len
 have hlast : ((ns.length : Int) - 1).toNat = ns.length - 1 := by omega
 have hoo := xA hf.opts (show ns.length - 1 < ns.length by omega)
 have hll := hf.lens (ns.length - 1) (by omega)
 have hL : ∀ i, i < (lastN ns).l.length → 0 ≤ (lastN ns).l.getD i 0 ∧ (lastN ns).l.getD i 0 < ns.length := fun i hi => by have h := hoo.1 _ (zZ (d := (0 : Int)) hi); show 0 ≤ (lastN ns).l.getD i 0 ∧ (lastN ns).l.getD i 0 < ns.length; unfold lastN; omega
 have hR : ∀ i, i < (lastN ns).r.length → 0 ≤ (lastN ns).r.getD i 0 ∧ (lastN ns).r.getD i 0 < ns.length := fun i hi => by have h := hoo.2 _ (zZ (d := (0 : Int)) hi); show 0 ≤ (lastN ns).r.getD i 0 ∧ (lastN ns).r.getD i 0 < ns.length; unfold lastN; omega
 have hLl : (lastN ns).l.length ≤ 1048576 := hll.1
 have hRl : (lastN ns).r.length ≤ 1048576 := hll.2
 have elast : lastN ns = ns.getD ((ns.length : Int) - 1).toNat default := by unfold lastN; rw [hlast]
 rw [elast] at hL hR hLl hRl
 refine zB (zC ?_)
 refine qI rfl (xH [v] (v := (.agg [v].toArray)) rfl rfl an.pins (fun b1 w2 dz bx bz b0 => ?_))
 have b2 := an.step bz b0
 have b3 : w.heap.size ≤ b1 := by have := an.size; omega
 obtain ⟨G9, y, ap, ad, d0⟩ := bx.shut b2 b3
 refine qM vN ?_
 refine qM vN ?_
 refine qe (zA (zB (zC ?_)))
 refine qI rfl (xC (E := (eSl eNode)) (e := 26) dG sz26 ap.pins (fun aq b4 b5 b6 b7 d1 => ?_))
 have ar := ap.step b6 b7
 have a6 := b5.weaken ap.size
 refine qI rfl (xC (E := (eSl eNode)) (e := 26) dG sz26 ar.pins (fun s b8 b9 ca a7 cb => ?_))
 have t := ar.step ca a7
 have a8 := a6.below a7
 have cc := zG cb a6.lt
 have a9 := b9.weaken ar.size
 refine qM aq ?_
 refine qM s ?_
 refine qe (zA (zB (zC ?_)))
 refine qD rfl (zK (k := 0) rfl dE rfl nz24 rfl) (qD rfl (zL (u := v) ag24 rfl (t.pins _ _ _ (ad 0 _ rfl))) (qD rfl (zK (k := 0) rfl dE rfl nz24 rfl) (qD rfl (zL (u := v) ag24 rfl (t.pins _ _ _ (ad 0 _ rfl))) (qD rfl (zP dC (v := v) rfl hv) (qD rfl (qC rfl rfl (by omega)) (qD rfl (zJ dC sz69 (v := v) rfl rfl hv (by omega) (by omega)) ?_))))))
 obtain ⟨o, q, aa, ab, cd⟩ := vW (hv.at (z := ((ns.length : Int) - 1)) (by omega) (by omega)) (j := ((ns.length : Int) - 1).toNat) rfl
 have d2 := aa.max
 have d3 := ab.max
 refine qD rfl (cd ag69 sz69 rfl (dX t.pins y)) (qI rfl (yM [vN, vN] zr69 rfl t.pins (fun au d4 ba ce cf av => ?_)))
 have bb := t.step cf av
 have cg := a8.below av
 have ch := a9.below av
 have bc := zG (congrArg some ba) a8.lt
 have bd := zG (congrArg some ba) a9.lt
 have be : w.heap.size ≤ au := by have := t.size; omega
 refine q0 rfl rfl rfl (o_stp (cs' := [o, q]) (us := [o, q]) (v := (.agg [o, q].toArray)) sz69 rfl rfl rfl (xG aa.one ab.one) bb.pins ce (dZ rfl) rfl (fun d5 ci cj aw d6 => ?_))
 have ck := bb.write cj aw ((zY be))
 have cl := cg.keptA aw bc.symm
 have cm := ch.keptA aw bd.symm
 obtain ⟨bf, f, cn, ae, bg⟩ := ci.shut ck be
 have co := cl.moreA f bg bc.symm
 have cp := cm.moreA f bg bd.symm
 refine qe (zA (zB (zB (zC ?_))))
 refine qM (vJ 0) ?_
 refine qe (zA ?_)
 refine zW (yS (fun k en W => ∃ (ac : Nat → Value) (j : Nat) (ovA : Value) (osA : List (List Nd)) (GA : Pin), en = (upd (upd (upd (upd (upd (upd (upd ac 1 (vP b1)) 2 vN) 3 vN) 4 ovA) 5 s) 6 (vP au)) 7 (vJ (j : Int))) ∧ k = (ns.getD ((ns.length : Int) - 1).toNat default).l.length - j ∧ Ext noS G w GA W ∧ Pin.le bf GA ∧ (j ≤ (ns.getD ((ns.length : Int) - 1).toNat default).l.length) ∧ (osA = optsS ns ((ns.getD ((ns.length : Int) - 1).toNat default).l.take j)) ∧ (osA.length = j) ∧ (Own (eSl eNode) 26 GA W w.heap.size ovA (osA)) ∧ (Own (eSl eNode) 26 GA W w.heap.size s ([])) ∧ (Apart ovA.ownBlock s.ownBlock)) _ ⟨_, 0, aq, [], bf, (pS 7 (pS 6 (pS 5 (pS 4 (pS 3 (pS 2 (pU 1))))))), rfl, cn, Pin.le_refl _, Nat.zero_le _, rfl, rfl, co, cp, cc.symm⟩ ?_)
 rintro d7 _ ax ⟨ac, j, ovA, osA, GA, rfl, d8, af, a, hjA, hosA, holA, bh, bi, ay⟩
 refine zB (zB (zC ?_))
 refine qM (vJ (j : Int)) ?_
 refine qD rfl (zK (k := 0) rfl dF rfl nz48 rfl) (qD rfl (zL (u := o) ag48 rfl ((dX af.pins a) _ _ _ (ae 0 _ rfl))) (qD rfl (zP dB (v := o) rfl aa) (qD rfl (yX rfl rfl) (qe (zA ?_)))))
 refine yC (p := ((j : Int) : Int) < (((ns.getD ((ns.length : Int) - 1).toNat default).l).length : Int)) rfl rfl (fun cq => ?_) (fun cq => ?_)
 refine wp_skip (zA (zB ?_))
 refine zW (yZ (S := fun wz => Pins GA wz) (last := 11) (by kernel_rfl) rfl ?_)
 have ag := bdr ax
 have cr := af.pins.below ag
 have b := af.step cr ag
 have ct := bh.below ag
 have cu := bi.below ag
 refine dM 0 ovA b.pins ?_
 refine dT (i := 1) rfl rfl (by kernel_rfl) (fun _ hS => zT (cs := [v]) ag26 sz26 rfl (fun j u hj => (dX hS (dW f a)) _ _ _ (ad _ _ (by simpa using hj)))) b.pins ?_
 refine dT (i := 2) rfl rfl (by kernel_rfl) (fun _ _ => zK (k := 0) rfl dF rfl nz48 rfl) b.pins ?_
 refine dT (i := 3) rfl rfl (by kernel_rfl) (fun _ hS => zL (u := o) ag48 rfl ((dX hS a) _ _ _ (ae 0 _ rfl))) b.pins ?_
 refine dM 4 (vJ (j : Int)) b.pins ?_
 refine dT (i := 5) rfl rfl (by kernel_rfl) (fun _ _ => zJ dB sz3 (v := o) rfl rfl aa (by omega) (by omega)) b.pins ?_
 refine dT (i := 6) rfl rfl (by kernel_rfl) (fun _ hS => zI (r := ((ns.getD ((ns.length : Int) - 1).toNat default).l).getD j 0) rfl ag3 (z := (j : Int)) rfl aa (dX hS (dW (dW y f) a)) (by omega) (by omega)) b.pins ?_
 refine dO (i := 7) (zS (i := 7) rfl rfl rfl (zD rfl _) (zF (vs := [(.agg [v].toArray), (vJ (((ns.getD ((ns.length : Int) - 1).toNat default).l).getD j 0))]) Tryz.func74 nm74 rfl rfl rfl ?_))
 refine dY (nY b.pins (hv.mono (dW (dW y f) a)) hf (hL _ (by omega))) ?_
 rintro _ d9 ⟨cv, bj, rfl, cw, g⟩
 refine ⟨_, rfl, ?_⟩
 have ah := b.tr g
 have cx := ct.ext g
 have cy := cu.ext g
 refine ⟨fun _ => (dX ah.pins g.le), ?_⟩
 refine dO (i := 8) (zS (i := 8) rfl rfl rfl (zD rfl _) (xT (E := (eSl eNode)) (e := 26) [cv] (partS ns (((ns.getD ((ns.length : Int) - 1).toNat default).l).getD j 0)) dG sz26 zr26 ⟨_, rfl, cw⟩ rfl (by decide) ah.pins (fun bk cz c0 c1 az ea => ?_)))
 have ai := ah.step c1 az
 have bl := cx.below az
 have bm := cy.below az
 have c2 := c0.weaken ah.size
 refine ⟨fun _ => (dX ai.pins g.le), ?_⟩
 refine dO (i := 9) (zS (i := 9) rfl rfl rfl (zD rfl _) (oA (E := (eSl eNode)) (v := ovA) (u := bk) 24 dG ap26 (by decide) rfl rfl ai.pins bl c2.src (ai.size) (fun bn eb c3 c4 bo c5 => ?_)))
 have a0 := ai.write c4 bo ((yH bl))
 have c6 := bm.keptA bo ay.symm
 have c7 := zE ay.symm c5 bm.lt
 have ec := la1 osA (partS ns (((ns.getD ((ns.length : Int) - 1).toNat default).l).getD j 0))
 refine ⟨fun _ => (dX a0.pins g.le), ?_⟩
 refine dM 10 bn (dX a0.pins g.le) ?_
 refine yP (by kernel_rfl) (yA (zA (zC ?_)))
 refine qM (vJ (j : Int)) ?_
 refine qD rfl (yJ rfl rfl (by omega)) (qM (vJ ((j : Int) + 1)) ?_)
 refine qe (yD (⟨_, ?_, _, rfl, _, j + 1, bn, osA ++ [partS ns ((ns.getD ((ns.length : Int) - 1).toNat default).l.getD j 0)], bj, (pS 7 (pS 6 (pS 5 (pS 4 (pS 3 (pS 2 (pU 1))))))), rfl, a0, (dW a g.le), (by omega), (by rw [hosA]; exact sL (by omega)), (by simp; omega), c3, c6, c7.symm⟩))
 omega
 refine wp_exit (zV (yK (yE (zA (zB (zB (zC ?_)))))))
 refine qM (vJ 0) ?_
 refine qe (zA ?_)
 refine zW (yS (fun k en W => ∃ (ac : Nat → Value) (i : Nat) (ovB : Value) (osB : List (List Nd)) (GB : Pin), en = (upd (upd (upd (upd (upd (upd (upd ac 1 (vP b1)) 2 vN) 3 vN) 4 ovA) 5 ovB) 6 (vP au)) 8 (vJ (i : Int))) ∧ k = (ns.getD ((ns.length : Int) - 1).toNat default).r.length - i ∧ Ext noS G w GB W ∧ Pin.le GA GB ∧ (i ≤ (ns.getD ((ns.length : Int) - 1).toNat default).r.length) ∧ (osB = optsS ns ((ns.getD ((ns.length : Int) - 1).toNat default).r.take i)) ∧ (osB.length = i) ∧ (Own (eSl eNode) 26 GB W w.heap.size ovB (osB)) ∧ (Own (eSl eNode) 26 GB W w.heap.size ovA (osA)) ∧ (Apart ovB.ownBlock ovA.ownBlock)) _ ⟨_, 0, s, [], GA, (pS 8 (pS 6 (pS 5 (pS 4 (pS 3 (pS 2 (pU 1))))))), rfl, af, Pin.le_refl _, Nat.zero_le _, rfl, rfl, bi, bh, ay.symm⟩ ?_)
 rintro ed _ a1 ⟨ac, i, ovB, osB, GB, rfl, ee, aj, x, hjB, hosB, holB, bp, bq, a2⟩
 refine zB (zB (zC ?_))
 refine qM (vJ (i : Int)) ?_
 refine qD rfl (zK (k := 1) rfl dF rfl nz48 rfl) (qD rfl (zL (u := q) ag48 rfl ((dX aj.pins (dW a x)) _ _ _ (ae 1 _ rfl))) (qD rfl (zP dB (v := q) rfl ab) (qD rfl (yX rfl rfl) (qe (zA ?_)))))
 refine yC (p := ((i : Int) : Int) < (((ns.getD ((ns.length : Int) - 1).toNat default).r).length : Int)) rfl rfl (fun c8 => ?_) (fun c8 => ?_)
 refine wp_skip (zA (zB ?_))
 refine zW (yZ (S := fun wz => Pins GB wz) (last := 11) (by kernel_rfl) rfl ?_)
 have ak := bdr a1
 have c9 := aj.pins.below ak
 have c := aj.step c9 ak
 have da := bp.below ak
 have db := bq.below ak
 refine dM 0 ovB c.pins ?_
 refine dT (i := 1) rfl rfl (by kernel_rfl) (fun _ hS => zT (cs := [v]) ag26 sz26 rfl (fun j u hj => (dX hS (dW (dW f a) x)) _ _ _ (ad _ _ (by simpa using hj)))) c.pins ?_
 refine dT (i := 2) rfl rfl (by kernel_rfl) (fun _ _ => zK (k := 1) rfl dF rfl nz48 rfl) c.pins ?_
 refine dT (i := 3) rfl rfl (by kernel_rfl) (fun _ hS => zL (u := q) ag48 rfl ((dX hS (dW a x)) _ _ _ (ae 1 _ rfl))) c.pins ?_
 refine dM 4 (vJ (i : Int)) c.pins ?_
 refine dT (i := 5) rfl rfl (by kernel_rfl) (fun _ _ => zJ dB sz3 (v := q) rfl rfl ab (by omega) (by omega)) c.pins ?_
 refine dT (i := 6) rfl rfl (by kernel_rfl) (fun _ hS => zI (r := ((ns.getD ((ns.length : Int) - 1).toNat default).r).getD i 0) rfl ag3 (z := (i : Int)) rfl ab (dX hS (dW (dW (dW y f) a) x)) (by omega) (by omega)) c.pins ?_
 refine dO (i := 7) (zS (i := 7) rfl rfl rfl (zD rfl _) (zF (vs := [(.agg [v].toArray), (vJ (((ns.getD ((ns.length : Int) - 1).toNat default).r).getD i 0))]) Tryz.func74 nm74 rfl rfl rfl ?_))
 refine dY (nY c.pins (hv.mono (dW (dW (dW y f) a) x)) hf (hR _ (by omega))) ?_
 rintro _ ef ⟨dc, br, rfl, dd, m⟩
 refine ⟨_, rfl, ?_⟩
 have al := c.tr m
 have de := da.ext m
 have df := db.ext m
 refine ⟨fun _ => (dX al.pins m.le), ?_⟩
 refine dO (i := 8) (zS (i := 8) rfl rfl rfl (zD rfl _) (xT (E := (eSl eNode)) (e := 26) [dc] (partS ns (((ns.getD ((ns.length : Int) - 1).toNat default).r).getD i 0)) dG sz26 zr26 ⟨_, rfl, dd⟩ rfl (by decide) al.pins (fun bs dg dh di a3 eg => ?_)))
 have am := al.step di a3
 have bt := de.below a3
 have bu := df.below a3
 have dj := dh.weaken al.size
 refine ⟨fun _ => (dX am.pins m.le), ?_⟩
 refine dO (i := 9) (zS (i := 9) rfl rfl rfl (zD rfl _) (oA (E := (eSl eNode)) (v := ovB) (u := bs) 24 dG ap26 (by decide) rfl rfl am.pins bt dj.src (am.size) (fun bv eh dk dl bw dm => ?_)))
 have a4 := am.write dl bw ((yH bt))
 have dn := bu.keptA bw a2.symm
 have dp := zE a2.symm dm bu.lt
 have ei := la1 osB (partS ns (((ns.getD ((ns.length : Int) - 1).toNat default).r).getD i 0))
 refine ⟨fun _ => (dX a4.pins m.le), ?_⟩
 refine dM 10 bv (dX a4.pins m.le) ?_
 refine yP (by kernel_rfl) (yA (zA (zC ?_)))
 refine qM (vJ (i : Int)) ?_
 refine qD rfl (yJ rfl rfl (by omega)) (qM (vJ ((i : Int) + 1)) ?_)
 refine qe (yD (⟨_, ?_, _, rfl, _, i + 1, bv, osB ++ [partS ns ((ns.getD ((ns.length : Int) - 1).toNat default).r.getD i 0)], br, (pS 8 (pS 6 (pS 5 (pS 4 (pS 3 (pS 2 (pU 1))))))), rfl, a4, (dW x m.le), (by omega), (by rw [hosB]; exact sL (by omega)), (by simp; omega), dk, dn, dp.symm⟩))
 omega
 refine wp_exit (zV (yK (yE (zA (zB (zC ?_))))))
 refine qM ovA ?_
 refine qM ovB ?_
 refine qM ovA ?_
 refine qM ovB ?_
 refine qe (zA ?_)
 refine wp_ret (zO (jH (v := ovA) (u := ovB) rfl rfl rfl rfl rfl ?_))
 obtain ⟨ej, dq, dr, ds, dt⟩ := bq.sealed aj
 have du := bp.moreO dq dt a2
 obtain ⟨ek, dv, dw, dx, el⟩ := du.sealed dr
 rw [qS (by omega)] at hosA hosB
 rw [elast, ← hosA, ← hosB]
 exact ⟨_, _, _, rfl, (ds.mono dv), dx, dw⟩
theorem l3Opts_spec {w : World} (hP : Pins G w) (hv : RSl eNode G v ns) (hg : GoodP ns) :
  Calls Tryz.prog 50 [(.agg [v].toArray)].toArray w fun e w' => ∃ (u v : Value) (G' : Pin), e = .returned (.tuple #[u, v]) ∧ RSl (eSl eNode) G' u (optsS ns (lastN ns).l) ∧ RSl (eSl eNode) G' v (optsS ns (lastN ns).r) ∧ Ext noS G w G' w' :=
 l3OptsF_spec hP hv (vF hg) hg.lo
end N1
end Go.Proofs.YtjdchbdfohiaaaaGreatDoor
namespace Go.Proofs.YtjdchbdfohiaaaaGreatDoor
namespace FT1
open Go.RowKit Go.GL Go.Proofs
open B1 C1 D1 E1 K1 PO1 PL1 PA1 SO1 OD1 FO1 NG1 NF1 SM1 NU1 NU2 NU3 NB4 NB5 NB6 OR1 SF1 N1
variable {G : Pin} {v : Value} {fs : List Nd}
theorem l7Fits_spec {w : World} {u : Value} {ms : List Nd} (hP : Pins G w) (hu : RSl eNode G u fs) (hv : RSl eNode G v ms) (hg : GoodP fs) (hm : (FormOk ms ∧ 1 ≤ ms.length) ∧ ms.length ≤ 120) :
  Calls Tryz.prog 22 [(.agg [u].toArray), (.agg [v].toArray)].toArray w fun e w' => ∃ G', e = .returned (.bool (decP (FitG (gOf fs) (gOf ms)))) ∧ Ext noS G w G' w' := by
 refine zU (n := 38) Tryz.func22 Tryz.ntmps22 rfl rfl ?_
 have ab := exr noS hP
 have hga := hg
 have hlast := last_opts hga
 have hml := hm.2
 have hll : (lastN fs).l.length ≤ 1048576 ∧ (lastN fs).r.length ≤ 1048576 := (vF hg).lens (fs.length - 1) (by have := hg.lo; omega)
 have bp := rW fs (lastN fs).l
 have bq := rW fs (lastN fs).r
 refine zB (zC ?_)
 refine qI rfl (xH [u] (v := (.agg [u].toArray)) rfl rfl ab.pins (fun b1 w2 bs a1 a2 a3 => ?_))
 have a4 := ab.step a2 a3
 have a5 : w.heap.size ≤ b1 := by have := ab.size; omega
 obtain ⟨G9, ac, ad, a6, bu⟩ := a1.shut a4 a5
 refine qI rfl (xH [v] (v := (.agg [v].toArray)) rfl rfl ad.pins (fun ae bv bw a7 a8 a9 => ?_))
 have ba := ad.step a8 a9
 have bb : w.heap.size ≤ ae := by have := ad.size; omega
 obtain ⟨bx, y, af, au, bz⟩ := a7.shut ba bb
 refine qM (.bool false) ?_
 refine qe (zA (zB (zC ?_)))
 refine qD rfl (zT (cs := [u]) ag26 sz26 rfl (fun j u hj => (dX af.pins y) _ _ _ (a6 _ _ (by simpa using hj)))) (qI rfl (zF (vs := [(.agg [u].toArray)]) Tryz.func50 nm50 rfl rfl rfl ?_))
 refine dY (l3Opts_spec af.pins (hu.mono (dW ac y)) hg) ?_
 rintro _ b0 ⟨c, a, av, rfl, ag, ah, m⟩
 refine ⟨_, rfl, ?_⟩
 have bc := af.tr m
 refine qM (.tuple #[c, a]) ?_
 refine qD rfl (zX (v := c) rfl rfl) (qD rfl (zX (v := a) rfl rfl) (qM c ?_))
 refine qM a ?_
 refine qe (zA (zB (zB (zC ?_))))
 refine qM (vJ 0) ?_
 refine qe (zA ?_)
 refine zW (yS (fun k en W => ∃ (o : Nat → Value) (j : Nat) (h : Pin), en = (upd (upd (upd (upd o 3 (vP ae)) 5 c) 6 a) 7 (vJ (j : Int))) ∧ k = (lastN fs).l.length - j ∧ Ext noS G w h W ∧ Pin.le av h ∧ (j ≤ (lastN fs).l.length) ∧ (∀ x, x < j → decP (geG (gOf ((optsS fs (lastN fs).l).getD x [])) (gOf ms)) = false)) _ ⟨_, 0, av, (pS 7 (pS 6 (pS 5 (pU 3)))), rfl, bc, Pin.le_refl _, Nat.zero_le _, (fun q hq => absurd hq (Nat.not_lt_zero q))⟩ ?_)
 rintro b2 _ ai ⟨o, j, h, rfl, b3, aj, b, hjj, hpj⟩
 have holj := rW fs (lastN fs).l
 refine zB (zB (zC ?_))
 refine qM (vJ (j : Int)) ?_
 refine qM c ?_
 refine qD rfl (zP dG (v := c) rfl ag) (qD rfl (yX rfl rfl) (qe (zA ?_)))
 refine yC (p := ((j : Int) : Int) < ((optsS fs (lastN fs).l).length : Int)) rfl rfl (fun bd => ?_) (fun bd => ?_)
 have hoo := nE hga hlast.1 (i := j) (by omega)
 have be := hoo.2.1
 refine wp_skip (zA (zB ?_))
 refine zW (zB (yZ (S := fun wz => Pins h wz) (last := 6) (by kernel_rfl) rfl ?_))
 have aw := bdr ai
 have bf := aj.pins.below aw
 have d := aj.step bf aw
 refine dM 0 c d.pins ?_
 refine dM 1 (vJ (j : Int)) d.pins ?_
 refine dT (i := 2) rfl rfl (by kernel_rfl) (fun _ _ => zJ dG sz26 (v := c) rfl rfl ag (by omega) (by omega)) d.pins ?_
 obtain ⟨bg, ax, bh⟩ := pP (ag.at (z := (j : Int)) (by omega) (by omega)) (j := j) rfl
 have b4 := ax.max
 refine dT (i := 3) rfl rfl (by kernel_rfl) (fun _ hS => bh ag26 sz26 rfl (dX hS b)) d.pins ?_
 refine dT (i := 4) rfl rfl (by kernel_rfl) (fun _ hS => zT (cs := [v]) ag26 sz26 rfl (fun j u hj => (dX hS (dW m.le b)) _ _ _ (au _ _ (by simpa using hj)))) d.pins ?_
 refine dO (i := 5) (zS (i := 5) rfl rfl rfl (zD rfl _) (zF (vs := [(.agg [bg].toArray), (.agg [v].toArray)]) Tryz.func51 nm51 rfl rfl rfl ?_))
 refine dY (sX d.pins (ax.mono b) (hv.mono (dW (dW (dW ac y) m.le) b)) hoo.1 hm.1 (by omega)) ?_
 rintro _ b5 ⟨bi, rfl, ak⟩
 refine ⟨_, rfl, ?_⟩
 have al := d.tr ak
 refine ⟨fun _ => (dX al.pins ak.le), ?_⟩
 refine yP (by kernel_rfl) (zA (c_if rfl rfl (fun am => ?_) (fun am => ?_)))
 refine zB (zC ?_)
 refine qM (.bool false) ?_
 refine qe (zA ?_)
 exact wp_ret (zO (zQ (v := (.bool false)) rfl rfl rfl (⟨_, congrArg (fun z => Ending.returned (Value.bool z)) (decP_false.2 (fun g => by have s := ((eL hga).1 g).1 j (by omega); rw [am] at s; cases s)).symm, al⟩)))
 refine wp_skip (yA (zA (zC ?_)))
 refine qM (vJ (j : Int)) ?_
 refine qD rfl (yJ rfl rfl (by omega)) (qM (vJ ((j : Int) + 1)) ?_)
 refine qe (yD (⟨_, ?_, _, rfl, _, j + 1, bi, (pS 7 (pS 6 (pS 5 (pU 3)))), rfl, al, (dW b ak.le), (by omega), (fun x h2 => if h3 : x = j then h3 ▸ am else hpj x (by omega))⟩))
 omega
 refine wp_exit (zV (yK (yE (zA (zB (zB (zC ?_)))))))
 refine qM (vJ 0) ?_
 refine qe (zA ?_)
 refine zW (yS (fun k en W => ∃ (o : Nat → Value) (i : Nat) (aa : Pin), en = (upd (upd (upd o 3 (vP ae)) 6 a) 8 (vJ (i : Int))) ∧ k = (lastN fs).r.length - i ∧ Ext noS G w aa W ∧ Pin.le h aa ∧ (i ≤ (lastN fs).r.length) ∧ (∀ x, x < i → decP (geG (gOf ms) (gOf ((optsS fs (lastN fs).r).getD x []))) = false)) _ ⟨_, 0, h, (pS 8 (pS 6 (pU 3))), rfl, aj, Pin.le_refl _, Nat.zero_le _, (fun q hq => absurd hq (Nat.not_lt_zero q))⟩ ?_)
 rintro b6 _ an ⟨o, i, aa, rfl, b7, ao, t, hji, hpi⟩
 have holi := rW fs (lastN fs).r
 refine zB (zB (zC ?_))
 refine qM (vJ (i : Int)) ?_
 refine qM a ?_
 refine qD rfl (zP dG (v := a) rfl ah) (qD rfl (yX rfl rfl) (qe (zA ?_)))
 refine yC (p := ((i : Int) : Int) < ((optsS fs (lastN fs).r).length : Int)) rfl rfl (fun bk => ?_) (fun bk => ?_)
 have hoo := nE hga hlast.2 (i := i) (by omega)
 have be := hoo.2.1
 refine wp_skip (zA (zB ?_))
 refine zW (zB (yZ (S := fun wz => Pins aa wz) (last := 6) (by kernel_rfl) rfl ?_))
 have ay := bdr an
 have bl := ao.pins.below ay
 have f := ao.step bl ay
 refine dT (i := 0) rfl rfl (by kernel_rfl) (fun _ hS => zT (cs := [v]) ag26 sz26 rfl (fun j u hj => (dX hS (dW (dW m.le b) t)) _ _ _ (au _ _ (by simpa using hj)))) f.pins ?_
 refine dM 1 a f.pins ?_
 refine dM 2 (vJ (i : Int)) f.pins ?_
 refine dT (i := 3) rfl rfl (by kernel_rfl) (fun _ _ => zJ dG sz26 (v := a) rfl rfl ah (by omega) (by omega)) f.pins ?_
 obtain ⟨bm, az, bn⟩ := pP (ah.at (z := (i : Int)) (by omega) (by omega)) (j := i) rfl
 have b8 := az.max
 refine dT (i := 4) rfl rfl (by kernel_rfl) (fun _ hS => bn ag26 sz26 rfl (dX hS (dW b t))) f.pins ?_
 refine dO (i := 5) (zS (i := 5) rfl rfl rfl (zD rfl _) (zF (vs := [(.agg [v].toArray), (.agg [bm].toArray)]) Tryz.func51 nm51 rfl rfl rfl ?_))
 refine dY (sX f.pins (hv.mono (dW (dW (dW (dW ac y) m.le) b) t)) (az.mono (dW b t)) hm.1 hoo.1 (by omega)) ?_
 rintro _ b9 ⟨bo, rfl, ap⟩
 refine ⟨_, rfl, ?_⟩
 have aq := f.tr ap
 refine ⟨fun _ => (dX aq.pins ap.le), ?_⟩
 refine yP (by kernel_rfl) (zA (c_if rfl rfl (fun ar => ?_) (fun ar => ?_)))
 refine zB (zC ?_)
 refine qM (.bool false) ?_
 refine qe (zA ?_)
 exact wp_ret (zO (zQ (v := (.bool false)) rfl rfl rfl (⟨_, congrArg (fun z => Ending.returned (Value.bool z)) (decP_false.2 (fun g => by have s := ((eL hga).1 g).2 i (by omega); rw [ar] at s; cases s)).symm, aq⟩)))
 refine wp_skip (yA (zA (zC ?_)))
 refine qM (vJ (i : Int)) ?_
 refine qD rfl (yJ rfl rfl (by omega)) (qM (vJ ((i : Int) + 1)) ?_)
 refine qe (yD (⟨_, ?_, _, rfl, _, i + 1, bo, (pS 8 (pS 6 (pU 3))), rfl, aq, (dW t ap.le), (by omega), (fun x h2 => if h3 : x = i then h3 ▸ ar else hpi x (by omega))⟩))
 omega
 refine wp_exit (zV (yK (yE (zA (zB (zC ?_))))))
 refine qM (.bool true) ?_
 refine qe (zA ?_)
 exact wp_ret (zO (zQ (v := (.bool true)) rfl rfl rfl (⟨_, congrArg (fun z => Ending.returned (Value.bool z)) (decP_true.2 ((eL hga).2 ⟨fun x hx => hpj x (by omega), fun x hx => hpi x (by omega)⟩)).symm, ao⟩)))
theorem nA {w : World} {t z : Int} (hP : Pins G w) (hv : RSl eNode G v fs) :
  Calls Tryz.prog 7 [(.agg [v].toArray), (.agg [(vJ t), (vJ z)].toArray)].toArray w fun e w' => ∃ G', e = .returned (.tuple #[.bool (ftV fs t z), .bool (ftB fs t z)]) ∧ Ext noS G w G' w' := by
 refine zU (n := 23) Tryz.func7 Tryz.ntmps7 rfl rfl ?_
 have k := exr noS hP
 refine zB (zC ?_)
 refine qI rfl (xH [v] (v := (.agg [v].toArray)) rfl rfl k.pins (fun b1 w2 a3 ad ae af => ?_))
 have ag := k.step ae af
 have ah : w.heap.size ≤ b1 := by have := k.size; omega
 obtain ⟨G9, s, l, x, a5⟩ := ad.shut ag ah
 refine qI rfl (xH [(vJ t), (vJ z)] (v := (.agg [(vJ t), (vJ z)].toArray)) rfl rfl l.pins (fun ai a6 a7 aj ak al => ?_))
 have am := l.step ak al
 have an : w.heap.size ≤ ai := by have := l.size; omega
 obtain ⟨a8, i, m, ao, a9⟩ := aj.shut am an
 refine qM (.bool false) ?_
 refine qM (.bool false) ?_
 refine qe (zA (zB (zC ?_)))
 refine qD rfl (zT (cs := [(vJ t), (vJ z)]) ag28 sz28 rfl (fun j u hj => m.pins _ _ _ (ao _ _ (by simpa using hj)))) (qI rfl (zF (vs := [(.agg [(vJ t), (vJ z)].toArray)]) Tryz.func20 nm20 rfl rfl rfl ?_))
 refine dY (mZ (t := t) (z := z) m.pins) ?_
 rintro _ ba ⟨a, bb, rfl, y, c⟩
 refine ⟨_, rfl, ?_⟩
 have o := m.tr c
 refine qM (.tuple #[(.agg [a].toArray), (.bool (nmB t z))]) ?_
 refine qD rfl (zX (v := (.agg [a].toArray)) rfl rfl) (qD rfl (zX (v := (.bool (nmB t z))) rfl rfl) (qI rfl (yM [vN] zr26 rfl o.pins (fun ap bc bd aq ar au => ?_))))
 have aa := o.step ar au
 have ab : w.heap.size ≤ ap := by have := o.size; omega
 refine q0 rfl rfl rfl (o_stp (cs' := [a]) (us := [a]) (v := (.agg [a].toArray)) sz26 rfl rfl rfl (yO y.one) aa.pins aq (dZ rfl) rfl (fun be av aw ax bf => ?_))
 have ay := aa.write aw ax ((zY ab))
 obtain ⟨bg, d, p, az, bh⟩ := av.shut ay ab
 refine qM (.bool (nmB t z)) ?_
 refine qe (zA (zB (zB (zC ?_))))
 refine qD rfl (zT (cs := [v]) ag26 sz26 rfl (fun j u hj => (dX p.pins (dW (dW i c.le) d)) _ _ _ (x _ _ (by simpa using hj)))) (qI rfl (zF (vs := [(.agg [v].toArray)]) Tryz.func21 nm21 rfl rfl rfl ?_))
 refine dY (pA p.pins (hv.mono (dW (dW (dW s i) c.le) d))) ?_
 rintro _ bi ⟨bj, rfl, f⟩
 refine ⟨_, rfl, ?_⟩
 have b := p.tr f
 refine qD rfl (xR rfl) (qM (.bool (!(decP (GoodS fs)))) ?_)
 refine qbn (t := 16) rfl (fun q => ?_) (fun q => ?_)
 refine qN (zR (v := (.bool (nmB t z))) rfl) ?_
 refine qN (xR rfl) ?_
 refine qD rfl (yI (v := (.bool (!(nmB t z)))) rfl rfl) (qe (zA ?_))
 refine qY rfl rfl (fun r => ?_) (fun r => ?_)
 refine wp_skip (zA (zB (zC ?_)))
 have hgb : goodB fs = true := (good_eq fs).symm.trans q
 have hga := goodB_true.1 hgb
 have hnb := r
 have hnm := sP hnb
 have hms := nmF_form hnb
 refine qD rfl (zT (cs := [v]) ag26 sz26 rfl (fun j u hj => (dX b.pins (dW (dW (dW i c.le) d) f.le)) _ _ _ (x _ _ (by simpa using hj)))) (qD rfl (zT (cs := [a]) ag26 sz26 rfl (fun j u hj => (dX b.pins f.le) _ _ _ (az _ _ (by simpa using hj)))) (qI rfl (zF (vs := [(.agg [v].toArray), (.agg [a].toArray)]) Tryz.func22 nm22 rfl rfl rfl ?_)))
 refine dY (l7Fits_spec b.pins (hv.mono (dW (dW (dW (dW s i) c.le) d) f.le)) (y.mono (dW d f.le)) hga hms.1) ?_
 rintro _ bk ⟨bl, rfl, a0⟩
 refine ⟨_, rfl, ?_⟩
 have a1 := b.tr a0
 refine qM (.bool (decP (FitG (gOf fs) (gOf (nmF t z))))) ?_
 refine qM (.bool true) ?_
 refine qe (zA ?_)
 refine wp_ret (zO (jH (v := (.bool (decP (FitG (gOf fs) (gOf (nmF t z)))))) (u := (.bool true)) rfl rfl rfl rfl rfl ?_))
 obtain ⟨g, h⟩ := mM hgb hnb
 rw [g, h, ← hms.2]
 exact ⟨_, rfl, a1⟩
 refine zB (zC ?_)
 refine qM (.bool false) ?_
 refine qM (.bool false) ?_
 refine qe (zA ?_)
 refine wp_ret (zO (jH (v := (.bool false)) (u := (.bool false)) rfl rfl rfl rfl rfl ?_))
 obtain ⟨g, h⟩ := ftn_no (fs := fs) (t := t) (z := z) r
 rw [g, h]
 exact ⟨_, rfl, b⟩
 refine qW ?_
 refine qW ?_
 refine qD rfl (yR (v := (.bool true)) rfl rfl) (qe (zA ?_))
 refine jS rfl rfl (zB (zC ?_))
 refine qM (.bool false) ?_
 refine qM (.bool false) ?_
 refine qe (zA ?_)
 refine wp_ret (zO (jH (v := (.bool false)) (u := (.bool false)) rfl rfl rfl rfl rfl ?_))
 obtain ⟨g, h⟩ := ftn_bad (fs := fs) (t := t) (z := z) ((good_eq fs).symm.trans q)
 rw [g, h]
 exact ⟨_, rfl, b⟩
end FT1
end Go.Proofs.YtjdchbdfohiaaaaGreatDoor
namespace Go.Proofs.YtjdchbdfohiaaaaGreatDoor
namespace NB1
open Go.RowKit Go.GL Go.Proofs
open B1 C1 D1 E1 K1 PO1 PL1 PA1 SO1 OD1 FO1 NG1 NF1 NU1 NU2
variable {G : Pin} {t : Int} {p dp : Nat} {L R B : Value} {q : PSt} {mm : PM}
theorem lowest_ok {w : World} (hP : Pins G w) (hb : -1000000000 ≤ t ∧ t ≤ 1000000000) (hp : p ≤ 64) (hg : GoodD (lowD p t).1 (((lowD p t).2 : Nat) : Int)) :
  Calls Tryz.prog 54 [(.int .i64 t), (.int .i64 (p : Int))].toArray w fun e w' => ∃ G', e = .returned (.tuple #[(.agg [.int .i64 (lowD p t).1, .int .i64 (((lowD p t).2 : Nat) : Int)].toArray), .bool true]) ∧ Ext noS G w G' w' := by
 refine (gZ hP (by omega) hp).mono ?_
 rintro e w' ⟨G', rfl, hx⟩
 exact ⟨G', by rw [decP_true.2 hg]; rfl, hx⟩
def NumP (m p : Nat) (mm : PM) : Prop := ∀ {w : World} {G : Pin} {L R B : Value} {q : PSt} {t : Int} {dp : Nat} (_ : Pins G w) (_ : Pk 48 3 G w p L R B mm q) (_ : PoolOk q) (_ : NumOk dp t) (_ : q.ns.length + numT dp ≤ 1048575), dp < m →
  Calls Tryz.prog 39 [(.pointer (some ⟨p, 0, none⟩)), (.agg [.int .i64 t, .int .i64 (dp : Int)].toArray)].toArray w fun e w' => ∃ (z : Int) (L' R' B' : Value) (q' : PSt) (G' : Pin), e = .returned (.int .i64 z) ∧ Pk 48 3 G' w' p L' R' B' mm q' ∧ PoolOk q' ∧ PX q q' ∧ PLo w p L R B mm L' R' B' ∧ Ext (inP p L R B mm) G w G' w' ∧ PlaceOk q' z ∧ pd q' z = dyG dp t ∧ q'.ns.length ≤ q.ns.length + numT dp
theorem number_step {w : World} {m : Nat} (hP : Pins G w) (hpk : Pk 48 3 G w p L R B mm q) (hok : PoolOk q) (hn : NumOk dp t) (hl : q.ns.length + numT dp ≤ 1048575) (ih : NumP m p mm) (hm : dp < m + 1) :
  Calls Tryz.prog 39 [(vP p), (.agg [(vJ t), (vJ (dp : Int))].toArray)].toArray w fun e w' => ∃ (z : Int) (L' R' B' : Value) (q' : PSt) (G' : Pin), e = .returned (vJ z) ∧ Pk 48 3 G' w' p L' R' B' mm q' ∧ PoolOk q' ∧ PX q q' ∧ PLo w p L R B mm L' R' B' ∧ Ext (inP p L R B mm) G w G' w' ∧ PlaceOk q' z ∧ pd q' z = dyG dp t ∧ q'.ns.length ≤ q.ns.length + numT dp := by
 refine zU (n := 88) Tryz.func39 Tryz.ntmps39 rfl rfl ?_
 have b0 := exr (inP p L R B mm) hP
 have hpin : PIn w (inP p L R B mm) p L R B mm := PIn.self
 have ma := pkl q
 have mb := pkb hok
 have dg := jQ dp
 have mc := hn.top
 refine zB (zC ?_)
 refine qI rfl (xH [(vJ t), (vJ (dp : Int))] (v := (.agg [(vJ t), (vJ (dp : Int))].toArray)) rfl rfl b0.pins (fun b3 w4 fy fz dh di => ?_))
 have f0 := b0.step dh di
 have f1 := hpk.below di dh
 have f2 := hpk.new (x := (some b3)) (fun k hk => by rw [(congrArg some fy)] at hk; cases hk; exact Nat.le_refl _)
 have f3 : w.heap.size ≤ b3 := by have := b0.size; omega
 obtain ⟨me, f4, a, f, f5⟩ := fz.shut f0 f3
 have a2 := f1.more f4 f5 f2
 refine qM (vJ 0) ?_
 refine qe (zA (zB ?_))
 refine zW (zB (zC ?_))
 refine qD rfl (zK (k := 1) rfl dD rfl nz3 rfl) (qD rfl (zL (u := (vJ (dp : Int))) ag3 rfl (a.pins _ _ _ (f 1 _ rfl))) (qD rfl (xU rfl rfl) (qM (.bool (decide (((dp : Int) : Int) = 0))) ?_)))
 refine qbd (p := ((dp : Int) : Int) = 0) (t := 15) rfl (fun ay => ?_) (fun ay => ?_)
 refine qN (zK (k := 0) rfl dD rfl nz3 rfl) ?_
 refine qN (zL (u := (vJ t)) ag3 rfl (a.pins _ _ _ (f 0 _ rfl))) ?_
 refine qN (xU rfl rfl) ?_
 refine qD rfl (yR (v := (.bool (decide ((t : Int) = 0)))) rfl rfl) (qM (.bool (decide ((t : Int) = 0))) ?_)
 refine qe (zA ?_)
 refine yC (p := (t : Int) = 0) rfl rfl (fun f6 => ?_) (fun f6 => ?_)
 refine zB (zC ?_)
 refine qM (vP p) ?_
 refine qI rfl (zF (vs := [(vP p), vN, vN]) Tryz.func63 nm63 rfl rfl rfl ?_)
 refine dY (jG a.pins a2 hok (xP _ _) (xP _ _) (by omega) ⟨by simp, by simp⟩ gW gW) ?_
 rintro _ mf ⟨dj, f7, f8, f9, ad, ga, rfl, gb, b1, dk, gc, gd, ge, gf, gg, mg⟩
 refine ⟨_, rfl, ?_⟩
 have gh := a.trans gd hpin
 have gi := PIn.call hpin gc a.size
 have mh := dk.len
 have mi := pkl ad
 have mj := pkb b1
 have gj := gf.trans (show _ = mkG [] [] from rfl)
 have mk := gg
 refine qM (vJ dj) ?_
 refine qe (zA ?_)
 refine wp_ret (zO (zQ (v := (vJ dj)) rfl rfl rfl ?_))
 have hzz := gj
 have hntm := jQ dp
 exact ⟨_, f7, f8, f9, ad, ga, rfl, gb, b1, dk, PIn.lo gi rfl, gh, ge, (hzz.trans (by rw [show dp = 0 by omega, show t = 0 by omega]; rfl)), (by omega)⟩
 refine zB (zC ?_)
 refine qD rfl (zK (k := 1) rfl dD rfl nz3 rfl) (qD rfl (zL (u := (vJ (dp : Int))) ag3 rfl (a.pins _ _ _ (f 1 _ rfl))) (qD rfl (xU rfl rfl) (qM (.bool (decide (((dp : Int) : Int) = 0))) ?_)))
 refine qbd (p := ((dp : Int) : Int) = 0) (t := 26) rfl (fun _ => ?_) (fun h => absurd ay h)
 refine qN (zK (k := 0) rfl dD rfl nz3 rfl) ?_
 refine qN (zL (u := (vJ t)) ag3 rfl (a.pins _ _ _ (f 0 _ rfl))) ?_
 refine qN (jO rfl rfl) ?_
 refine qD rfl (yR (v := (.bool (decide ((0 : Int) < t)))) rfl rfl) (qM (.bool (decide ((0 : Int) < t))) ?_)
 refine qe (zA ?_)
 refine yC (p := (0 : Int) < t) rfl rfl (fun gk => ?_) (fun gk => ?_)
 refine zB (zC ?_)
 refine qM (vP p) ?_
 refine qI rfl (zF (vs := [(vP p), vN, vN]) Tryz.func63 nm63 rfl rfl rfl ?_)
 refine dY (jG a.pins a2 hok (xP _ _) (xP _ _) (by omega) ⟨by simp, by simp⟩ gW gW) ?_
 rintro _ ml ⟨dl, gl, gm, gn, y, dm, rfl, gp, b2, dn, gq, dq, gr, gs, gt, mn⟩
 refine ⟨_, rfl, ?_⟩
 have dr := a.trans dq hpin
 have gu := PIn.call hpin gq a.size
 have mo := dn.len
 have mp := pkl y
 have mq := pkb b2
 have gv := gs.trans (show _ = mkG [] [] from rfl)
 have mr := gt
 refine qM (vJ dl) ?_
 refine qe (zA (zB (zB (zC ?_))))
 refine qD rfl (zK (k := 0) rfl dD rfl nz3 rfl) (qD rfl (zL (u := (vJ t)) ag3 rfl ((dX dr.pins dq.le) _ _ _ (f 0 _ rfl))) (qM (vJ 0) ?_))
 refine qe (zA ?_)
 refine zW ?_
 have gw := gv
 have hz077p := gr
 have az : dp = 0 := by omega
 have hq0l : y.ns.length ≤ q.ns.length + 1 := by omega
 have b4 := hn.lim
 rw [az] at b4
 have dg := jQ dp
 refine yS (fun k en W => ∃ (a0 : Nat → Value) (ka : Nat) (za : Int) (a3 : Value) (a4 : Value) (a5 : Value) (b : PSt) (aq : Pin), en = (upd (upd (upd (upd (upd (upd a0 0 (vP p)) 3 (vP b3)) 4 (vJ 0)) 5 (vJ za)) 34 (vJ t)) 35 (vJ (ka : Int))) ∧ k = t.toNat - ka ∧ Ext (inP p L R B mm) G w aq W ∧ Pin.le dm aq ∧ (ka ≤ t.toNat) ∧ (PlaceOk b za) ∧ (pd b za = intG (ka : Int)) ∧ (b.ns.length ≤ q.ns.length + 1 + ka) ∧ (Pk 48 3 aq W p a3 a4 a5 mm b) ∧ (PIn w ((inP p L R B mm)) p a3 a4 a5 mm) ∧ (PoolOk b) ∧ (PX y b)) _ ⟨_, 0, dl, gl, gm, gn, y, dm, (pS 35 (pS 34 (pS 5 (pS 4 (pS 3 (pU 0)))))), rfl, dr, Pin.le_refl _, Nat.zero_le _, hz077p, (gw.trans rfl), (by omega), gp, gu, b2, (PX.refl _)⟩ ?_
 rintro ms _ mt ⟨a0, ka, za, a3, a4, a5, b, aq, rfl, mu, a6, gx, hkv, hzpl, hzpd, hnq, b5, b6, a7, b7⟩
 have mv := b7.len
 have mw := pkl b
 have mx := pkb a7
 refine zB (zC ?_)
 refine qD rfl (yX rfl rfl) (qe (zA (zB ?_)))
 refine yC (p := ((ka : Int) : Int) < t) rfl rfl (fun gy => ?_) (fun gy => ?_)
 refine wp_skip (zA (zB ?_))
 refine zW (zC (qM (vP p) ?_))
 refine qM (vJ za) ?_
 refine qI rfl (yG (E := eInt) (e := 3) [(vJ za)] [za] dB sz3 zr3 (by exact xK (by rfl)) (yO (by rfl)) rfl rfl rfl rfl (by decide) a6.pins (fun b8 gz g0 ds dt g1 => ?_))
 have g2 := a6.step ds dt
 have g3 := b5.below dt ds
 have g4 := b5.new (x := b8.ownBlock) (fun k hk => by rw [g1] at hk; cases hk; exact Nat.le_refl _)
 have g5 := g0.weaken a6.size
 obtain ⟨my, du, b9, g6, g7⟩ := g5.sealed g2
 have g8 := g3.moreO du g7 g4
 have g9 := hzpd
 refine qI rfl (zF (vs := [(vP p), b8, vN]) Tryz.func63 nm63 rfl rfl rfl ?_)
 refine dY (jG b9.pins g8 a7 g6 (xP _ _) (by omega) ⟨by simp, by simp⟩ (kD hzpl) gW) ?_
 rintro _ mz ⟨dv, ha, hb, hc, ae, hd, rfl, he, ca, dw, hf, dx, hg, hh, hi, m0⟩
 refine ⟨_, rfl, ?_⟩
 have ho := b9.trans dx b6
 have hp := PIn.call b6 hf b9.size
 have m1 := dw.len
 have m2 := pkl ae
 have m3 := pkb ca
 have dy := hh.trans (show _ = mkG [pd b za] [] from rfl)
 rw [g9] at dy
 have m4 := hi
 refine qM (vJ dv) ?_
 refine qe (yA (zA (zC ?_)))
 refine qD rfl (yJ rfl rfl (by omega)) (qM (vJ ((ka : Int) + 1)) ?_)
 refine qe (yD (⟨_, ?_, _, rfl, _, ka + 1, dv, ha, hb, hc, ae, hd, (pS 35 (pS 34 (pS 5 (pS 4 (pS 3 (pU 0)))))), rfl, ho, (dW (dW gx du) dx.le), (by omega), hg, (dy.trans (int_next ka).symm), (by omega), he, hp, ca, (PX.trans b7 dw)⟩))
 omega
 refine wp_exit (zV (yK (yE (zA (zB (zC ?_))))))
 refine qM (vJ za) ?_
 refine qM (vJ za) ?_
 refine qe (zA ?_)
 refine wp_ret (zO (zQ (v := (vJ za)) rfl rfl rfl ?_))
 have hzz := hzpd
 have hntm := jQ dp
 exact ⟨_, a3, a4, a5, b, aq, rfl, b5, a7, (PX.trans dn b7), PIn.lo b6 rfl, a6, hzpl, (hzz.trans (by rw [az, show (ka : Int) = t by omega]; rfl)), (by omega)⟩
 refine zB (zC ?_)
 refine qD rfl (zK (k := 1) rfl dD rfl nz3 rfl) (qD rfl (zL (u := (vJ (dp : Int))) ag3 rfl (a.pins _ _ _ (f 1 _ rfl))) (qD rfl (xU rfl rfl) (qM (.bool (decide (((dp : Int) : Int) = 0))) ?_)))
 refine qe (zA ?_)
 refine yC (p := ((dp : Int) : Int) = 0) rfl rfl (fun _ => ?_) (fun h => absurd ay h)
 refine zB (zC ?_)
 refine qM (vP p) ?_
 refine qI rfl (zF (vs := [(vP p), vN, vN]) Tryz.func63 nm63 rfl rfl rfl ?_)
 refine dY (jG a.pins a2 hok (xP _ _) (xP _ _) (by omega) ⟨by simp, by simp⟩ gW gW) ?_
 rintro _ m5 ⟨dz, hq, hr, hs, aa, d0, rfl, ht, cb, d1, hu, d2, hv, hw, hx, m6⟩
 refine ⟨_, rfl, ?_⟩
 have d3 := a.trans d2 hpin
 have hy := PIn.call hpin hu a.size
 have m7 := d1.len
 have m8 := pkl aa
 have m9 := pkb cb
 have hz := hw.trans (show _ = mkG [] [] from rfl)
 have na := hx
 refine qM (vJ dz) ?_
 refine qe (zA (zB (zB (zC ?_))))
 refine qD rfl (zK (k := 0) rfl dD rfl nz3 rfl) (qD rfl (zL (u := (vJ t)) ag3 rfl ((dX d3.pins d2.le) _ _ _ (f 0 _ rfl))) (qD rfl (r_neg rfl (by omega)) (qM (vJ 0) ?_)))
 refine qe (zA ?_)
 refine zW ?_
 have h0 := hz
 have hz0162p := hv
 have az : dp = 0 := by omega
 have hq0l : aa.ns.length ≤ q.ns.length + 1 := by omega
 have b4 := hn.lim
 rw [az] at b4
 have dg := jQ dp
 refine yS (fun k en W => ∃ (a0 : Nat → Value) (kb : Nat) (zb : Int) (a8 : Value) (a9 : Value) (ba : Value) (c : PSt) (au : Pin), en = (upd (upd (upd (upd (upd (upd a0 0 (vP p)) 3 (vP b3)) 4 (vJ 0)) 6 (vJ zb)) 51 (vJ (-t))) 52 (vJ (kb : Int))) ∧ k = (-t).toNat - kb ∧ Ext (inP p L R B mm) G w au W ∧ Pin.le d0 au ∧ (kb ≤ (-t).toNat) ∧ (PlaceOk c zb) ∧ (pd c zb = intG (-(kb : Int))) ∧ (c.ns.length ≤ q.ns.length + 1 + kb) ∧ (Pk 48 3 au W p a8 a9 ba mm c) ∧ (PIn w ((inP p L R B mm)) p a8 a9 ba mm) ∧ (PoolOk c) ∧ (PX aa c)) _ ⟨_, 0, dz, hq, hr, hs, aa, d0, (pS 52 (pS 51 (pS 6 (pS 4 (pS 3 (pU 0)))))), rfl, d3, Pin.le_refl _, Nat.zero_le _, hz0162p, (h0.trans rfl), (by omega), ht, hy, cb, (PX.refl _)⟩ ?_
 rintro nb _ nc ⟨a0, kb, zb, a8, a9, ba, c, au, rfl, nd, bb, h1, hkv, hzpl, hzpd, hnq, cc, cd, bc, ce⟩
 have ne := ce.len
 have nf := pkl c
 have ng := pkb bc
 refine zB (zC ?_)
 refine qD rfl (yX rfl rfl) (qe (zA (zB ?_)))
 refine yC (p := ((kb : Int) : Int) < (-t)) rfl rfl (fun h2 => ?_) (fun h2 => ?_)
 refine wp_skip (zA (zB ?_))
 refine zW (zC (qM (vP p) ?_))
 refine qM (vJ zb) ?_
 refine qI rfl (yG (E := eInt) (e := 3) [(vJ zb)] [zb] dB sz3 zr3 (by exact xK (by rfl)) (yO (by rfl)) rfl rfl rfl rfl (by decide) bb.pins (fun cf h3 h4 d4 d5 h5 => ?_))
 have h6 := bb.step d4 d5
 have h7 := cc.below d5 d4
 have h8 := cc.new (x := cf.ownBlock) (fun k hk => by rw [h5] at hk; cases hk; exact Nat.le_refl _)
 have h9 := h4.weaken bb.size
 obtain ⟨nh, d6, cg, ia, ib⟩ := h9.sealed h6
 have ic := h7.moreO d6 ib h8
 have ie := hzpd
 refine qI rfl (zF (vs := [(vP p), vN, cf]) Tryz.func63 nm63 rfl rfl rfl ?_)
 refine dY (jG cg.pins ic bc (xP _ _) ia (by omega) ⟨by simp, by simp⟩ gW (kD hzpl)) ?_
 rintro _ ni ⟨d7, ig, ii, ij, af, ik, rfl, il, ch, d8, im, d9, io, ip, iq, nj⟩
 refine ⟨_, rfl, ?_⟩
 have ir := cg.trans d9 cd
 have it := PIn.call cd im cg.size
 have nk := d8.len
 have nl := pkl af
 have nm := pkb ch
 have ea := ip.trans (show _ = mkG [] [pd c zb] from rfl)
 rw [ie] at ea
 have nn := iq
 refine qM (vJ d7) ?_
 refine qe (yA (zA (zC ?_)))
 refine qD rfl (yJ rfl rfl (by omega)) (qM (vJ ((kb : Int) + 1)) ?_)
 refine qe (yD (⟨_, ?_, _, rfl, _, kb + 1, d7, ig, ii, ij, af, ik, (pS 52 (pS 51 (pS 6 (pS 4 (pS 3 (pU 0)))))), rfl, ir, (dW (dW h1 d6) d9.le), (by omega), io, (ea.trans (int_prev kb).symm), (by omega), il, it, ch, (PX.trans ce d8)⟩))
 omega
 refine wp_exit (zV (yK (yE (zA (zB (zC ?_))))))
 refine qM (vJ zb) ?_
 refine qM (vJ zb) ?_
 refine qe (zA ?_)
 refine wp_ret (zO (zQ (v := (vJ zb)) rfl rfl rfl ?_))
 have hzz := hzpd
 have hntm := jQ dp
 exact ⟨_, a8, a9, ba, c, au, rfl, cc, bc, (PX.trans d1 ce), PIn.lo cd rfl, bb, hzpl, (hzz.trans (by rw [az, show (-(kb : Int)) = t by omega]; rfl)), (by omega)⟩
 refine qW ?_
 refine qW ?_
 refine qW ?_
 refine qD rfl (yI (v := (.bool false)) rfl rfl) (qM (.bool false) ?_)
 refine qe (zA ?_)
 refine qP rfl rfl (zB (zC ?_))
 refine qD rfl (zK (k := 1) rfl dD rfl nz3 rfl) (qD rfl (zL (u := (vJ (dp : Int))) ag3 rfl (a.pins _ _ _ (f 1 _ rfl))) (qD rfl (xU rfl rfl) (qM (.bool (decide (((dp : Int) : Int) = 0))) ?_)))
 refine qbd (p := ((dp : Int) : Int) = 0) (t := 26) rfl (fun h => absurd h ay) (fun _ => ?_)
 refine qW ?_
 refine qW ?_
 refine qW ?_
 refine qD rfl (yI (v := (.bool false)) rfl rfl) (qM (.bool false) ?_)
 refine qe (zA ?_)
 refine qP rfl rfl (zB (zC ?_))
 refine qD rfl (zK (k := 1) rfl dD rfl nz3 rfl) (qD rfl (zL (u := (vJ (dp : Int))) ag3 rfl (a.pins _ _ _ (f 1 _ rfl))) (qD rfl (xU rfl rfl) (qM (.bool (decide (((dp : Int) : Int) = 0))) ?_)))
 refine qe (zA ?_)
 refine yC (p := ((dp : Int) : Int) = 0) rfl rfl (fun h => absurd h ay) (fun _ => ?_)
 refine wp_skip (yA (zA (zB (zC ?_))))
 have bd : 1 ≤ dp := by omega
 have hpw := hn.pow
 have htp := hn.top
 have eb := hn.kid bd (s := t - 1) (Or.inl rfl)
 have ci := hn.kid bd (s := t + 1) (Or.inr rfl)
 have iu := eb.1.good
 have iv := ci.1.good
 have hnt := numT_two bd (hn.odd.resolve_left (by omega))
 have hdk := dy_kids bd (hn.odd.resolve_left (by omega))
 refine qD rfl (zK (k := 0) rfl dD rfl nz3 rfl) (qD rfl (zL (u := (vJ t)) ag3 rfl (a.pins _ _ _ (f 0 _ rfl))) (qD rfl (qC rfl rfl (by omega)) (qD rfl (zK (k := 1) rfl dD rfl nz3 rfl) (qD rfl (zL (u := (vJ (dp : Int))) ag3 rfl (a.pins _ _ _ (f 1 _ rfl))) (qI rfl (zF (vs := [(vJ (t - 1)), (vJ (dp : Int))]) Tryz.func54 nm54 rfl rfl rfl ?_))))))
 refine dY (lowest_ok a.pins (by omega) (by omega) iu) ?_
 rintro _ no ⟨np, rfl, be⟩
 refine ⟨_, rfl, ?_⟩
 have cj := a.tr be
 have ec := a2.ext be
 refine qM (.tuple #[(.agg [(vJ ((lowD dp (t - 1)).1)), (vJ (((lowD dp (t - 1)).2 : Nat) : Int))].toArray), (.bool true)]) ?_
 refine qD rfl (zX (v := (.agg [(vJ ((lowD dp (t - 1)).1)), (vJ (((lowD dp (t - 1)).2 : Nat) : Int))].toArray)) rfl rfl) (qD rfl (zX (v := (.bool true)) rfl rfl) (qI rfl (yM [(vJ 0), (vJ 0)] zr28 rfl cj.pins (fun ed nq iw ix ee ef => ?_))))
 have eg := cj.step ee ef
 have iy := ec.below ef ee
 have eh := ec.new (x := (some ed)) (fun k hk => by rw [(congrArg some iw)] at hk; cases hk; exact Nat.le_refl _)
 have ei : w.heap.size ≤ ed := by have := cj.size; omega
 refine q0 rfl rfl rfl (o_stp (cs' := [(vJ ((lowD dp (t - 1)).1)), (vJ (((lowD dp (t - 1)).2 : Nat) : Int))]) (us := [(vJ ((lowD dp (t - 1)).1)), (vJ (((lowD dp (t - 1)).2 : Nat) : Int))]) (v := (.agg [(vJ ((lowD dp (t - 1)).1)), (vJ (((lowD dp (t - 1)).2 : Nat) : Int))].toArray)) sz28 rfl rfl rfl (xG (by rfl) (by rfl)) eg.pins ix (dZ rfl) rfl (fun nr iz ej ek nt => ?_))
 have i0 := eg.write ej ek ((zY ei))
 have i1 := iy.kept ek ej eh
 obtain ⟨nu, ck, bf, i2, i3⟩ := iz.shut i0 ei
 have i4 := i1.more ck i3 eh
 refine qM (.bool true) ?_
 refine qe (zA (zB (zC ?_)))
 refine qD rfl (zK (k := 0) rfl dD rfl nz3 rfl) (qD rfl (zL (u := (vJ t)) ag3 rfl ((dX bf.pins (dW be.le ck)) _ _ _ (f 0 _ rfl))) (qD rfl (yJ rfl rfl (by omega)) (qD rfl (zK (k := 1) rfl dD rfl nz3 rfl) (qD rfl (zL (u := (vJ (dp : Int))) ag3 rfl ((dX bf.pins (dW be.le ck)) _ _ _ (f 1 _ rfl))) (qI rfl (zF (vs := [(vJ (t + 1)), (vJ (dp : Int))]) Tryz.func54 nm54 rfl rfl rfl ?_))))))
 refine dY (lowest_ok bf.pins (by omega) (by omega) iv) ?_
 rintro _ nv ⟨nw, rfl, cl⟩
 refine ⟨_, rfl, ?_⟩
 have cm := bf.tr cl
 have el := i4.ext cl
 refine qM (.tuple #[(.agg [(vJ ((lowD dp (t + 1)).1)), (vJ (((lowD dp (t + 1)).2 : Nat) : Int))].toArray), (.bool true)]) ?_
 refine qD rfl (zX (v := (.agg [(vJ ((lowD dp (t + 1)).1)), (vJ (((lowD dp (t + 1)).2 : Nat) : Int))].toArray)) rfl rfl) (qD rfl (zX (v := (.bool true)) rfl rfl) (qI rfl (yM [(vJ 0), (vJ 0)] zr28 rfl cm.pins (fun em nx i5 i6 eo ep => ?_))))
 have eq := cm.step eo ep
 have i7 := el.below ep eo
 have er := el.new (x := (some em)) (fun k hk => by rw [(congrArg some i5)] at hk; cases hk; exact Nat.le_refl _)
 have es : w.heap.size ≤ em := by have := cm.size; omega
 refine q0 rfl rfl rfl (o_stp (cs' := [(vJ ((lowD dp (t + 1)).1)), (vJ (((lowD dp (t + 1)).2 : Nat) : Int))]) (us := [(vJ ((lowD dp (t + 1)).1)), (vJ (((lowD dp (t + 1)).2 : Nat) : Int))]) (v := (.agg [(vJ ((lowD dp (t + 1)).1)), (vJ (((lowD dp (t + 1)).2 : Nat) : Int))].toArray)) sz28 rfl rfl rfl (xG (by rfl) (by rfl)) eq.pins i6 (dZ rfl) rfl (fun cn i8 et eu ny => ?_))
 have i9 := eq.write et eu ((zY es))
 have ja := i7.kept eu et er
 obtain ⟨jb, ev, ew, jc, jd⟩ := i8.shut i9 es
 have je := ja.more ev jd er
 refine qM (.bool true) ?_
 refine qe (zA (zB ?_))
 refine yZ (S := fun wz => Pins jb wz) (last := 11) (by kernel_rfl) rfl ?_
 have co := bdr cn
 have ex := ew.pins.below co
 have ag := ew.step ex co
 have jf := je.below co ex
 refine dM 0 (vP p) ag.pins ?_
 refine dM 1 (vP p) ag.pins ?_
 refine dT (i := 2) rfl rfl (by kernel_rfl) (fun _ hS => zT (cs := [(vJ ((lowD dp (t - 1)).1)), (vJ (((lowD dp (t - 1)).2 : Nat) : Int))]) ag28 sz28 rfl (fun j u hj => (dX hS (dW cl.le ev)) _ _ _ (i2 _ _ (by simpa using hj)))) ag.pins ?_
 refine dM 5 (vP p) ag.pins ?_
 refine dT (i := 6) rfl rfl (by kernel_rfl) (fun _ hS => zT (cs := [(vJ ((lowD dp (t + 1)).1)), (vJ (((lowD dp (t + 1)).2 : Nat) : Int))]) ag28 sz28 rfl (fun j u hj => hS _ _ _ (jc _ _ (by simpa using hj)))) ag.pins ?_
 refine dO (i := 3) (zS (i := 3) rfl rfl rfl (zD rfl _) (zF (vs := [(vP p), (.agg [(vJ ((lowD dp (t - 1)).1)), (vJ (((lowD dp (t - 1)).2 : Nat) : Int))].toArray)]) Tryz.func39 nm39 rfl rfl rfl ?_))
 refine dY (ih ag.pins jf hok eb.1 (by omega) (by omega)) ?_
 rintro _ nz ⟨g, n0, n1, n2, al, jg, rfl, cp, am, bg, jh, d, av, cq, n3⟩
 refine ⟨_, rfl, ?_⟩
 have an := ag.trans d hpin
 have bh := PIn.call hpin jh ag.size
 have n4 := bg.len
 have n5 := pkl al
 have n6 := pkb am
 refine ⟨fun _ => (dX an.pins d.le), ?_⟩
 refine jJ (i := 4) (j := 7) (by kernel_rfl) ?_ ?_
 refine (zS (i := 4) rfl rfl rfl (zD rfl _) (yG (E := eInt) (e := 3) [(vJ g)] [g] dB sz3 zr3 (by exact xK (by rfl)) (yO (by rfl)) rfl rfl rfl rfl (by decide) an.pins (fun cr ji jj ey ez jk => ?_)))
 have bi := an.step ey ez
 have jl := cp.below ez ey
 have e0 := cp.new (x := cr.ownBlock) (fun k hk => by rw [jk] at hk; cases hk; exact Nat.le_refl _)
 have e1 := jj.weaken an.size
 refine ⟨fun _ => (dX bi.pins d.le), ?_⟩
 refine dO (i := 7) (zS (i := 7) rfl rfl rfl (zD rfl _) (zF (vs := [(vP p), (.agg [(vJ ((lowD dp (t + 1)).1)), (vJ (((lowD dp (t + 1)).2 : Nat) : Int))].toArray)]) Tryz.func39 nm39 rfl rfl rfl ?_))
 refine dY (ih bi.pins jl am ci.1 (by omega) (by omega)) ?_
 rintro _ n7 ⟨bj, n8, n9, oa, ac, jm, rfl, e2, bk, bl, e3, aw, jn, jo, ob⟩
 refine ⟨_, rfl, ?_⟩
 have bm := bi.trans aw bh
 have e4 := e1.extS aw e0
 have jp := NP.call e0 e3 (qK e1)
 have e5 := PIn.call bh e3 bi.size
 have oc := bl.len
 have od := pkl ac
 have oe := pkb bk
 refine ⟨fun _ => (dX bm.pins (dW d.le aw.le)), ?_⟩
 refine dO (i := 8) (zS (i := 8) rfl rfl rfl (zD rfl _) (yG (E := eInt) (e := 3) [(vJ bj)] [bj] dB sz3 zr3 (by exact xK (by rfl)) (yO (by rfl)) rfl rfl rfl rfl (by decide) bm.pins (fun ct jq jr e6 cu e7 => ?_)))
 have e8 := bm.step e6 cu
 have js := e4.below cu
 have jt := e2.below cu e6
 have ju := zG e7 e4.lt
 have jv := e2.new (x := ct.ownBlock) (fun k hk => by rw [e7] at hk; cases hk; exact Nat.le_refl _)
 have jw := jr.weaken bm.size
 refine ⟨fun _ => (dX e8.pins (dW d.le aw.le)), ?_⟩
 obtain ⟨og, bn, jx, jy, e9⟩ := js.sealed e8
 have jz := jw.moreO bn e9 ju
 have j0 := jt.moreO bn e9 jp
 obtain ⟨oh, bo, cv, j1, j2⟩ := jz.sealed jx
 have j3 := j0.moreO bo j2 jv
 have j4 := ((bl.pd am bk av).trans cq)
 have j5 := jo
 refine dO (i := 9) (zS (i := 9) rfl rfl rfl (zD rfl _) (zF (vs := [(vP p), cr, ct]) Tryz.func63 nm63 rfl rfl rfl ?_))
 refine dY (jG cv.pins j3 bk (jy.mono bo) j1 (by omega) ⟨by simp, by simp⟩ (kD (bl.place av)) (kD jn)) ?_
 rintro _ oi ⟨fa, j6, j7, j8, ah, j9, rfl, kc, cw, fb, kd, cx, ke, kf, kg, oj⟩
 refine ⟨_, rfl, ?_⟩
 have cy := cv.trans cx e5
 have kh := PIn.call e5 kd cv.size
 have ol := fb.len
 have om := pkl ah
 have oo := pkb cw
 have cz := kf.trans (show _ = mkG [pd ac g] [pd ac bj] from rfl)
 rw [j4] at cz
 rw [j5] at cz
 have op := kg
 refine ⟨fun _ => (dX cy.pins (dW (dW (dW (dW d.le aw.le) bn) bo) cx.le)), ?_⟩
 refine dM 10 (vJ fa) (dX cy.pins (dW (dW (dW (dW d.le aw.le) bn) bo) cx.le)) ?_
 refine yP (by kernel_rfl) (zA (wp_ret (zO (zQ (v := (vJ fa)) rfl rfl rfl ?_))))
 have hzz := cz
 have hntm := jQ dp
 exact ⟨_, j6, j7, j8, ah, j9, rfl, kc, cw, (PX.trans (PX.trans bg bl) fb), PIn.lo kh rfl, cy, ke, (hzz.trans hdk.symm), (by omega)⟩
 refine (zS (i := 7) rfl rfl rfl (zD rfl _) (zF (vs := [(vP p), (.agg [(vJ ((lowD dp (t + 1)).1)), (vJ (((lowD dp (t + 1)).2 : Nat) : Int))].toArray)]) Tryz.func39 nm39 rfl rfl rfl ?_))
 refine dY (ih an.pins cp am ci.1 (by omega) (by omega)) ?_
 rintro _ oq ⟨ai, os, ot, ou, o, bp, rfl, bq, ax, ao, ki, ab, fc, fd, ov⟩
 refine ⟨_, rfl, ?_⟩
 have ap := an.trans ab bh
 have br := PIn.call bh ki an.size
 have ow := ao.len
 have ox := pkl o
 have oy := pkb ax
 refine ⟨fun _ => (dX ap.pins (dW d.le ab.le)), ?_⟩
 refine jJ (i := 4) (j := 8) (by kernel_rfl) ?_ ?_
 refine (zS (i := 4) rfl rfl rfl (zD rfl _) (yG (E := eInt) (e := 3) [(vJ g)] [g] dB sz3 zr3 (by exact xK (by rfl)) (yO (by rfl)) rfl rfl rfl rfl (by decide) ap.pins (fun c0 kj kk fe ff kl => ?_)))
 have bt := ap.step fe ff
 have fg := bq.below ff fe
 have km := bq.new (x := c0.ownBlock) (fun k hk => by rw [kl] at hk; cases hk; exact Nat.le_refl _)
 have fh := kk.weaken ap.size
 refine ⟨fun _ => (dX bt.pins (dW d.le ab.le)), ?_⟩
 refine dO (i := 8) (zS (i := 8) rfl rfl rfl (zD rfl _) (yG (E := eInt) (e := 3) [(vJ ai)] [ai] dB sz3 zr3 (by exact xK (by rfl)) (yO (by rfl)) rfl rfl rfl rfl (by decide) bt.pins (fun c1 kn ko fi c2 fj => ?_)))
 have fk := bt.step fi c2
 have kp := fh.below c2
 have kq := fg.below c2 fi
 have kr := zG fj fh.lt
 have ks := fg.new (x := c1.ownBlock) (fun k hk => by rw [fj] at hk; cases hk; exact Nat.le_refl _)
 have kt := ko.weaken bt.size
 refine ⟨fun _ => (dX fk.pins (dW d.le ab.le)), ?_⟩
 obtain ⟨oz, bu, ku, kv, fl⟩ := kp.sealed fk
 have kw := kt.moreO bu fl kr
 have kx := kq.moreO bu fl km
 obtain ⟨o0, bv, c3, ky, kz⟩ := kw.sealed ku
 have k0 := kx.moreO bv kz ks
 have k1 := ((ao.pd am ax av).trans cq)
 have k2 := fd
 refine dO (i := 9) (zS (i := 9) rfl rfl rfl (zD rfl _) (zF (vs := [(vP p), c0, c1]) Tryz.func63 nm63 rfl rfl rfl ?_))
 refine dY (jG c3.pins k0 ax (kv.mono bv) ky (by omega) ⟨by simp, by simp⟩ (kD (ao.place av)) (kD fc)) ?_
 rintro _ o1 ⟨fm, k3, k4, k5, aj, k6, rfl, k7, c4, fn, k8, c5, k9, la, lb, o2⟩
 refine ⟨_, rfl, ?_⟩
 have c6 := c3.trans c5 br
 have lc := PIn.call br k8 c3.size
 have o3 := fn.len
 have o4 := pkl aj
 have o5 := pkb c4
 have c7 := la.trans (show _ = mkG [pd o g] [pd o ai] from rfl)
 rw [k1] at c7
 rw [k2] at c7
 have o6 := lb
 refine ⟨fun _ => (dX c6.pins (dW (dW (dW (dW d.le ab.le) bu) bv) c5.le)), ?_⟩
 refine dM 10 (vJ fm) (dX c6.pins (dW (dW (dW (dW d.le ab.le) bu) bv) c5.le)) ?_
 refine yP (by kernel_rfl) (zA (wp_ret (zO (zQ (v := (vJ fm)) rfl rfl rfl ?_))))
 have hzz := c7
 have hntm := jQ dp
 exact ⟨_, k3, k4, k5, aj, k6, rfl, k7, c4, (PX.trans (PX.trans bg ao) fn), PIn.lo lc rfl, c6, k9, (hzz.trans hdk.symm), (by omega)⟩
 refine (zS (i := 8) rfl rfl rfl (zD rfl _) (yG (E := eInt) (e := 3) [(vJ ai)] [ai] dB sz3 zr3 (by exact xK (by rfl)) (yO (by rfl)) rfl rfl rfl rfl (by decide) ap.pins (fun c8 ld lf fo fp lg => ?_)))
 have bw := ap.step fo fp
 have fq := bq.below fp fo
 have lh := bq.new (x := c8.ownBlock) (fun k hk => by rw [lg] at hk; cases hk; exact Nat.le_refl _)
 have fr := lf.weaken ap.size
 refine ⟨fun _ => (dX bw.pins (dW d.le ab.le)), ?_⟩
 refine dO (i := 4) (zS (i := 4) rfl rfl rfl (zD rfl _) (yG (E := eInt) (e := 3) [(vJ g)] [g] dB sz3 zr3 (by exact xK (by rfl)) (yO (by rfl)) rfl rfl rfl rfl (by decide) bw.pins (fun c9 li lj fs da ft => ?_)))
 have fu := bw.step fs da
 have lk := fr.below da
 have ll := fq.below da fs
 have lm := zG ft fr.lt
 have ln := fq.new (x := c9.ownBlock) (fun k hk => by rw [ft] at hk; cases hk; exact Nat.le_refl _)
 have lp := lj.weaken bw.size
 refine ⟨fun _ => (dX fu.pins (dW d.le ab.le)), ?_⟩
 obtain ⟨o7, bx, lq, lr, fv⟩ := lp.sealed fu
 have ls := lk.moreO bx fv lm.symm
 have lu := ll.moreO bx fv ln
 obtain ⟨o8, bz, db, lv, lw⟩ := ls.sealed lq
 have lx := lu.moreO bz lw lh
 have ly := ((ao.pd am ax av).trans cq)
 have lz := fd
 refine dO (i := 9) (zS (i := 9) rfl rfl rfl (zD rfl _) (zF (vs := [(vP p), c9, c8]) Tryz.func63 nm63 rfl rfl rfl ?_))
 refine dY (jG db.pins lx ax (lr.mono bz) lv (by omega) ⟨by simp, by simp⟩ (kD (ao.place av)) (kD fc)) ?_
 rintro _ o9 ⟨fw, l0, l1, l2, ak, l3, rfl, l4, dc, fx, l5, dd, l6, l7, l8, pa⟩
 refine ⟨_, rfl, ?_⟩
 have de := db.trans dd br
 have l9 := PIn.call br l5 db.size
 have pb := fx.len
 have pc := pkl ak
 have pe := pkb dc
 have df := l7.trans (show _ = mkG [pd o g] [pd o ai] from rfl)
 rw [ly] at df
 rw [lz] at df
 have pf := l8
 refine ⟨fun _ => (dX de.pins (dW (dW (dW (dW d.le ab.le) bx) bz) dd.le)), ?_⟩
 refine dM 10 (vJ fw) (dX de.pins (dW (dW (dW (dW d.le ab.le) bx) bz) dd.le)) ?_
 refine yP (by kernel_rfl) (zA (wp_ret (zO (zQ (v := (vJ fw)) rfl rfl rfl ?_))))
 have hzz := df
 have hntm := jQ dp
 exact ⟨_, l0, l1, l2, ak, l3, rfl, l4, dc, (PX.trans (PX.trans bg ao) fx), PIn.lo l9 rfl, de, l6, (hzz.trans hdk.symm), (by omega)⟩
theorem num_all {p : Nat} {mm : PM} : ∀ m, NumP m p mm
 | 0 => fun _ _ _ _ _ h => absurd h (Nat.not_lt_zero _)
 | m + 1 => fun hP hpk hok hn hl hm => number_step hP hpk hok hn hl (num_all m) hm
theorem gU {w : World} (hP : Pins G w) (hpk : Pk 48 3 G w p L R B mm q) (hok : PoolOk q) (hn : NumOk dp t) (hl : q.ns.length + numT dp ≤ 1048575) :
  Calls Tryz.prog 39 [(.pointer (some ⟨p, 0, none⟩)), (.agg [.int .i64 t, .int .i64 (dp : Int)].toArray)].toArray w fun e w' => ∃ (z : Int) (L' R' B' : Value) (q' : PSt) (G' : Pin), e = .returned (.int .i64 z) ∧ Pk 48 3 G' w' p L' R' B' mm q' ∧ PoolOk q' ∧ PX q q' ∧ PLo w p L R B mm L' R' B' ∧ Ext (inP p L R B mm) G w G' w' ∧ PlaceOk q' z ∧ pd q' z = dyG dp t ∧ q'.ns.length ≤ q.ns.length + numT dp :=
 num_all _ hP hpk hok hn hl (Nat.lt_succ_self _)
end NB1
end Go.Proofs.YtjdchbdfohiaaaaGreatDoor
namespace Go.Proofs.YtjdchbdfohiaaaaGreatDoor
namespace NB2
open Go.RowKit Go.GL Go.Proofs
open B1 C1 D1 E1 K1 PO1 PL1 PA1 SO1 OD1 FO1 NG1 NF1 NU1 NU2 NB1
variable {G : Pin} {L R B : Value} {q : PSt} {t z : Int} {p : Nat} {mm : PM}
theorem number_zspec {w : World} (hP : Pins G w) (hpk : Pk 48 3 G w p L R B mm q) (hok : PoolOk q) (hz : 0 ≤ z) (hn : NumOk z.toNat t) (hl : q.ns.length + numT z.toNat ≤ 1048575) :
  Calls Tryz.prog 39 [(.pointer (some ⟨p, 0, none⟩)), (.agg [.int .i64 t, .int .i64 z].toArray)].toArray w fun e w' => ∃ (y : Int) (L' R' B' : Value) (q' : PSt) (G' : Pin), e = .returned (.int .i64 y) ∧ Pk 48 3 G' w' p L' R' B' mm q' ∧ PoolOk q' ∧ PX q q' ∧ PLo w p L R B mm L' R' B' ∧ Ext (inP p L R B mm) G w G' w' ∧ PlaceOk q' y ∧ pd q' y = dyG z.toNat t ∧ q'.ns.length ≤ q.ns.length + numT z.toNat := by
 obtain ⟨dp, rfl⟩ : ∃ dp : Nat, z = (dp : Int) := ⟨z.toNat, by omega⟩
 simp only [Int.toNat_natCast] at hn hl ⊢
 exact gU hP hpk hok hn hl
theorem eW {w : World} (hP : Pins G w) (hpk : Pk 48 3 G w p L R B mm q) (hok : PoolOk q) (hl : q.ns.length ≤ 700000) :
  Calls Tryz.prog 17 [(vP p), (.agg [(vJ t), (vJ z)].toArray)].toArray w fun e w' => ∃ (y : Int) (L' R' B' : Value) (q' : PSt) (G' : Pin), e = .returned (.tuple #[.int .i64 y, .bool (nmB t z)]) ∧ Pk 48 3 G' w' p L' R' B' mm q' ∧ PoolOk q' ∧ PX q q' ∧ PLo w p L R B mm L' R' B' ∧ Ext (inP p L R B mm) G w G' w' ∧ (nmB t z = true → PlaceOk q' y ∧ pd q' y = dyG z.toNat t) ∧ q'.ns.length ≤ q.ns.length + 315247 := by
 refine zU (n := 32) Tryz.func17 Tryz.ntmps17 rfl rfl ?_
 have m := exr (inP p L R B mm) hP
 have hpin : PIn w (inP p L R B mm) p L R B mm := PIn.self
 have bw := pkl q
 have bx := pkb hok
 refine zB (zC ?_)
 refine qI rfl (xH [(vJ t), (vJ z)] (v := (.agg [(vJ t), (vJ z)].toArray)) rfl rfl m.pins (fun b3 w4 az a0 aj ak => ?_))
 have a1 := m.step aj ak
 have a2 := hpk.below ak aj
 have a3 := hpk.new (x := (some b3)) (fun k hk => by rw [(congrArg some az)] at hk; cases hk; exact Nat.le_refl _)
 have a4 : w.heap.size ≤ b3 := by have := m.size; omega
 obtain ⟨b0, a5, o, f, a6⟩ := a0.shut a1 a4
 have a7 := a2.more a5 a6 a3
 refine qM (vJ 0) ?_
 refine qM (.bool false) ?_
 refine qe (zA (zB (zB (zC ?_))))
 refine qD rfl (zT (cs := [(vJ t), (vJ z)]) ag28 sz28 rfl (fun j u hj => o.pins _ _ _ (f _ _ (by simpa using hj)))) (qI rfl (zF (vs := [(.agg [(vJ t), (vJ z)].toArray)]) Tryz.func25 nm25 rfl rfl rfl ?_))
 refine dY (qQ (t := t) (z := z) o.pins) ?_
 rintro _ b1 ⟨al, rfl, d⟩
 refine ⟨_, rfl, ?_⟩
 have a := o.tr d
 have s := a7.ext d
 refine qD rfl (xR rfl) (qM (.bool (!(decP (GoodD t z)))) ?_)
 refine qbn (t := 10) rfl (fun aa => ?_) (fun aa => ?_)
 have hgd : GoodD t z := decP_true.1 aa
 have hgt := hgd.top
 have hgp := hgd.pow
 have hms := max_shrz (t := t) hgp
 refine qN (zK (k := 0) rfl dD rfl nz3 rfl) ?_
 refine qN (zL (u := (vJ t)) ag3 rfl ((dX a.pins d.le) _ _ _ (f 0 _ rfl))) ?_
 refine qN (zK (k := 0) rfl dD rfl nz3 rfl) ?_
 refine qN (zL (u := (vJ t)) ag3 rfl ((dX a.pins d.le) _ _ _ (f 0 _ rfl))) ?_
 refine qN (r_neg rfl (by omega)) ?_
 refine qN (r_max rfl rfl) ?_
 refine qN (zK (k := 1) rfl dD rfl nz3 rfl) ?_
 refine qN (zL (u := (vJ z)) ag3 rfl ((dX a.pins d.le) _ _ _ (f 1 _ rfl))) ?_
 refine qN (r_shrI rfl rfl (by omega)) ?_
 refine qN (fN rfl rfl) ?_
 refine qD rfl (yI (v := (.bool (decide ((120 : Int) ≤ (Int.fdiv (max t (-t)) (2 ^ (min (z : Int).toNat 64))))))) rfl rfl) (qe (zA ?_))
 refine yC (p := (120 : Int) ≤ (Int.fdiv (max t (-t)) (2 ^ (min (z : Int).toNat 64)))) rfl rfl (fun ab => ?_) (fun ab => ?_)
 refine zB (zC ?_)
 refine qM (vJ 0) ?_
 refine qM (.bool false) ?_
 refine qe (zA ?_)
 refine wp_ret (zO (jH (v := (vJ 0)) (u := (.bool false)) rfl rfl rfl rfl rfl ?_))
 have hbl : ¬ t.natAbs / 2 ^ z.toNat < 120 := by have h9 := ab; rw [hms] at h9; omega
 obtain ⟨g, e2⟩ := nmz_no (t := t) (z := z) (num_late (born_late hbl)).2
 exact ⟨_, L, R, B, q, al, by rw [g], s, hok, (PX.refl _), PIn.lo hpin rfl, a, (fun h => by rw [g] at h; cases h), (by omega)⟩
 refine wp_skip (zA (zB (zC ?_)))
 have hbl : t.natAbs / 2 ^ z.toNat < 120 := by have h9 := ab; rw [hms] at h9; omega
 have hno := good_num hgd.nat hbl
 have hnmx := numT_max hno.pow
 refine qM (vP p) ?_
 refine qD rfl (zT (cs := [(vJ t), (vJ z)]) ag28 sz28 rfl (fun j u hj => (dX a.pins d.le) _ _ _ (f _ _ (by simpa using hj)))) (qI rfl (zF (vs := [(vP p), (.agg [(vJ t), (vJ z)].toArray)]) Tryz.func39 nm39 rfl rfl rfl ?_))
 refine dY (number_zspec a.pins s hok hgp.1 hno (by omega)) ?_
 rintro _ b2 ⟨b, a9, ba, bb, c, bc, rfl, am, i, an, bd, be, ad, ao, b4⟩
 refine ⟨_, rfl, ?_⟩
 have ae := a.trans be hpin
 have bf := PIn.call hpin bd a.size
 have b5 := an.len
 have b6 := pkl c
 have b7 := pkb i
 refine qM (vJ b) ?_
 refine qe (zA (zB (zC ?_)))
 refine qM (vJ b) ?_
 refine qM (vP p) ?_
 refine qM (vJ b) ?_
 refine qI rfl (yG (E := eInt) (e := 3) [(vJ b)] [b] dB sz3 zr3 (by exact xK (by rfl)) (yO (by rfl)) rfl rfl rfl rfl (by decide) ae.pins (fun af bg bh ap aq bi => ?_))
 have bj := ae.step ap aq
 have bk := am.below aq ap
 have bl := am.new (x := af.ownBlock) (fun k hk => by rw [bi] at hk; cases hk; exact Nat.le_refl _)
 have bm := bh.weaken ae.size
 obtain ⟨b8, bn, ag, bo, bp⟩ := bm.sealed bj
 have au := bk.moreO bn bp bl
 refine qI rfl (zF (vs := [(vP p), af]) Tryz.func40 nm40 rfl rfl rfl ?_)
 refine dY (parts_spec ag.pins au i bo (place_one ad) (by simp)) ?_
 rintro _ bq ⟨av, ah, aw, rfl, br, ax, ay⟩
 refine ⟨_, rfl, ?_⟩
 have bt := ag.tr ay
 have bu := au.ext ay
 have bv := br.weaken ag.size
 have b9 := ax.len
 refine qD rfl (zP dB (v := av) rfl bv.read) (qD rfl (gR rfl rfl) (qM (vJ b) ?_))
 refine qM (.bool (decide (((ah.length : Int) : Int) ≤ 120))) ?_
 refine qe (zA ?_)
 refine wp_ret (zO (jH (v := (vJ b)) (u := (.bool (decide (((ah.length : Int) : Int) ≤ 120)))) rfl rfl rfl rfl rfl ?_))
 have hnm := nm_parts i ad ax ao hgd
 exact ⟨_, a9, ba, bb, c, aw, by rw [hnm], bu, i, an, PIn.lo bf rfl, bt, (fun _ => ⟨ad, ao⟩), (by omega)⟩
 refine qW ?_
 refine qW ?_
 refine qW ?_
 refine qW ?_
 refine qW ?_
 refine qW ?_
 refine qW ?_
 refine qW ?_
 refine qW ?_
 refine qW ?_
 refine qD rfl (yR (v := (.bool true)) rfl rfl) (qe (zA ?_))
 refine jS rfl rfl (zB (zC ?_))
 refine qM (vJ 0) ?_
 refine qM (.bool false) ?_
 refine qe (zA ?_)
 refine wp_ret (zO (jH (v := (vJ 0)) (u := (.bool false)) rfl rfl rfl rfl rfl ?_))
 obtain ⟨g, e2⟩ := nm_bad (t := t) (z := z) (decP_false.1 aa)
 exact ⟨_, L, R, B, q, al, by rw [g], s, hok, (PX.refl _), PIn.lo hpin rfl, a, (fun h => by rw [g] at h; cases h), (by omega)⟩
end NB2
end Go.Proofs.YtjdchbdfohiaaaaGreatDoor
