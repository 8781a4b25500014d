/- Texts of this claim in one file: PL1, PA1, SO1, OD1, LI1, Dyad, Val, Star, Tiny, Ups, FO1, NG1, NF1, SM1, MK1, G1, M1, N1, LO1, LI2, LSL. -/
import Derived.Test.YtfnginkcmcfdfaaGreatDoorLf5
import Derived.Test.YtfnginkcmcfdfaaGreatDoorChecked
set_option maxRecDepth 20000
set_option maxHeartbeats 2000000
namespace Go.Proofs.YtfnginkcmcfdfaaGreatDoor
namespace PL1
open Go.RowKit Go.GL Go.Proofs
open Go.Proofs.YtfnginkcmcfdfaaGreatDoor.B1
open Go.Proofs.YtfnginkcmcfdfaaGreatDoor.K1
open Go.Proofs.YtfnginkcmcfdfaaGreatDoor.PO1






theorem mk3 : (Tryz.prog.info? 3).map (fun i => (i.size, i.bytes, i.zero)) = some (1, 8, some (.int .i64 0)) := by kernel_rfl





theorem pl72 : (Tryz.prog.underlying 72).bind (placesD Tryz.prog) = some [(0, 1), (1, 1), (2, 1), (3, 1), (4, 1), (5, 1), (6, 1), (7, 1)] := by kernel_rfl






theorem newPool_spec {w : World} {G : Pin} (hP : Pins G w) :
  Calls Tryz.prog 51 [].toArray w fun e w' => ∃ (p : Nat) (mm : PM) (G' : Pin), e = .returned (.pointer (some ⟨p, 0, none⟩)) ∧ Pk 65 3 G' w' p (.slice none 0 0) (.slice none 0 0) (.slice none 0 0) mm ⟨[], [], [], [], [], [], []⟩ ∧ (∀ k, inP p (.slice none 0 0) (.slice none 0 0) (.slice none 0 0) mm k → w.heap.size ≤ k) ∧ Ext noS G w G' w' := by
 refine zZ (n := 8) Tryz.func51 Tryz.ntmps51 rfl rfl ?_
 have o : Ext noS G w G w := Ext.refl hP
 refine zB (zC ?_)
 refine qM (.pointer none) ?_
 refine qe (zA (zB (zC ?_)))
 refine qI rfl (o_makeMap (fun k : ByteArray => Value.string k) (fun v : Int => Value.int .i64 v) o.pins (fun a w2 bo z al am => ?_))
 have q := o.step al am
 have an : w.heap.size ≤ a := by have := o.size; omega
 refine qI rfl (o_makeMap encP2 (fun v : Bool => Value.bool v) q.pins (fun b bp ao aa ap ab => ?_))
 have r := q.step ap ab
 have ac := z.below ab
 have aq : Apart (some b) (some a) := zK (congrArg some ao) z.lt
 have ar : w.heap.size ≤ b := by have := q.size; omega
 refine qI rfl (o_makeMap (fun k : Int => Value.int .i64 k) (fun v : Int => Value.int .i64 v) r.pins (fun c bq ad ae au s => ?_))
 have t := r.step au s
 have af := ac.below s
 have ag := aa.below s
 have av : Apart (some c) (some a) := zK (congrArg some ad) ac.lt
 have aw : Apart (some c) (some b) := zK (congrArg some ad) aa.lt
 have ax : w.heap.size ≤ c := by have := r.size; omega
 refine qI rfl (o_makeMap encP2 (fun v : Int => Value.int .i64 v) t.pins (fun d br u ah ay l => ?_))
 have x := t.step ay l
 have ai := af.below l
 have aj := ag.below l
 have ak := ae.below l
 have az : Apart (some d) (some a) := zK (congrArg some u) af.lt
 have a0 : Apart (some d) (some b) := zK (congrArg some u) ag.lt
 have a1 : Apart (some d) (some c) := zK (congrArg some u) ae.lt
 have a2 : w.heap.size ≤ d := by have := t.size; omega
 refine qI rfl (o_makeMap (fun k : Int => Value.int .i64 k) (fun v : Int => Value.int .i64 v) x.pins (fun f bs m a3 a4 i => ?_))
 have y := x.step a4 i
 have a5 := ai.below i
 have a6 := aj.below i
 have a7 := ak.below i
 have a8 := ah.below i
 have a9 : Apart (some f) (some a) := zK (congrArg some m) ai.lt
 have ba : Apart (some f) (some b) := zK (congrArg some m) aj.lt
 have bb : Apart (some f) (some c) := zK (congrArg some m) ak.lt
 have bc : Apart (some f) (some d) := zK (congrArg some m) ah.lt
 have bd : w.heap.size ≤ f := by have := x.size; omega
 refine qD rfl (xX [(.slice none 0 0), (.slice none 0 0), (.slice none 0 0), (.map none), (.map none), (.map none), (.map none), (.map none)] [(.slice none 0 0), (.slice none 0 0), (.slice none 0 0), (.map (some a)), (.map (some b)), (.map (some c)), (.map (some d)), (.map (some f))] [(3, (.map (some a)), [(.map (some a))]), (4, (.map (some b)), [(.map (some b))]), (5, (.map (some c)), [(.map (some c))]), (6, (.map (some d)), [(.map (some d))]), (7, (.map (some f)), [(.map (some f))])] Tryz.underlying72 zr72 rfl pl72 rfl (List.forall_mem_cons.2 ⟨rfl, (List.forall_mem_cons.2 ⟨rfl, (List.forall_mem_cons.2 ⟨rfl, (List.forall_mem_cons.2 ⟨rfl, (List.forall_mem_cons.2 ⟨rfl, (fun _ h => by cases h)⟩)⟩)⟩)⟩)⟩) rfl) ?_
 refine qI rfl (xM [(.slice none 0 0), (.slice none 0 0), (.slice none 0 0), (.map (some a)), (.map (some b)), (.map (some c)), (.map (some d)), (.map (some f))] (v := (.agg [(.slice none 0 0), (.slice none 0 0), (.slice none 0 0), (.map (some a)), (.map (some b)), (.map (some c)), (.map (some d)), (.map (some f))].toArray)) rfl rfl y.pins (fun j bt bu be bf g => ?_))
 have bg := y.step bf g
 have bh := a5.below g
 have bi := a6.below g
 have bj := a7.below g
 have bk := a8.below g
 have bl := a3.below g
 have bm : w.heap.size ≤ j := by have := y.size; omega
 refine qM (.pointer (some ⟨j, 0, none⟩)) ?_
 refine qe (zA ?_)
 refine wp_ret ?_
 refine zT ?_
 refine zP (v := (.pointer (some ⟨j, 0, none⟩))) rfl rfl rfl ?_
 have hdf : PDiff ⟨a, b, c, d, f⟩ := ⟨fun e => aq.symm _ rfl (congrArg some e.symm), fun e => av.symm _ rfl (congrArg some e.symm), fun e => az.symm _ rfl (congrArg some e.symm), fun e => a9.symm _ rfl (congrArg some e.symm), fun e => aw.symm _ rfl (congrArg some e.symm), fun e => a0.symm _ rfl (congrArg some e.symm), fun e => ba.symm _ rfl (congrArg some e.symm), fun e => a1.symm _ rfl (congrArg some e.symm), fun e => bb.symm _ rfl (congrArg some e.symm), fun e => bc.symm _ rfl (congrArg some e.symm)⟩
 have hfr : ∀ k, inP j (.slice none 0 0) (.slice none 0 0) (.slice none 0 0) ⟨a, b, c, d, f⟩ k → w.heap.size ≤ k := by rintro k (rfl | hk | hk | hk | rfl | rfl | rfl | rfl | rfl) <;> first | (cases hk; done) | exact bm | exact an | exact ar | exact ax | exact a2 | exact bd
 exact ⟨j, ⟨a, b, c, d, f⟩, _, rfl, ⟨be, (Own.nil _ _ _ _ _), (Own.nil _ _ _ _ _), (Own.nil _ _ _ _ _), bh, bi, bj, bk, bl, apart_none.symm, apart_none.symm, apart_none.symm, apart_none, apart_none, apart_none, hdf⟩, hfr, bg⟩

theorem renamed_spec {w : World} {G : Pin} {u v : Value} {xs ys : List Int} (hP : Pins G w) (hu : RSl eInt G u xs) (hv : RSl eInt G v ys) (hs : xs.length ≤ 1048576) (hb : ∀ i, i < xs.length → 0 ≤ xs.getD i 0 ∧ xs.getD i 0 < ys.length) :
  Calls Tryz.prog 143 [u, v].toArray w fun e w' => ∃ (u : Value) (G' : Pin), e = .returned u ∧ Own eInt 3 G' w' w.heap.size u (atL ys xs) ∧ Ext noS G w G' w' := by
 refine zZ (n := 27) Tryz.func143 Tryz.ntmps143 rfl rfl ?_
 have d : Ext noS G w G w := Ext.refl hP
 have hm := hu.max
 have hal : (atL ys xs).length = xs.length := yR
 have hrl : (List.replicate xs.length (0 : Int)).length = xs.length := List.length_replicate
 refine zB (zC ?_)
 refine qM (.slice none 0 0) ?_
 refine qe (zA (zB (zC ?_)))
 refine qM u ?_
 refine qD rfl (zM Tryz.underlying65 (v := u) rfl hu) ?_
 refine qI rfl (o_make (E := eInt) 0 8 (vJ 0) Tryz.underlying65 mk3 (fun _ => rfl) rfl rfl d.pins (by omega) (by omega) (by omega) (fun a g h l m ab => ?_))
 have o := d.step l m
 have q : Own eInt 3 G g w.heap.size a (List.replicate xs.length 0) := h.weaken d.size
 have ac : (List.replicate xs.length 0).length = xs.length := List.length_replicate ..
 refine qM a ?_
 refine qe (zA (zB (zB (zC ?_))))
 refine qM u ?_
 refine qD rfl (zM Tryz.underlying65 (v := u) rfl hu) ?_
 refine qM (vJ 0) ?_
 refine qe (zA ?_)
 refine zW ?_
 refine yL (fun (k : Nat) (en : Nat → Value) (W : World) => ∃ (f : Nat → Value) (j : Nat) (os : List Int), en = (upd (upd (upd (upd (upd (upd f 1 v) 4 (.slice none 0 0)) 5 a) 11 u) 12 (vJ (xs.length : Int))) 13 (vJ (j : Int))) ∧ k = xs.length - j ∧ Ext noS G w G W ∧ (j ≤ xs.length) ∧ (os = (atL ys xs).take j ++ (List.replicate xs.length 0).drop j) ∧ (os.length = xs.length) ∧ (Own eInt 3 G W w.heap.size a (os))) _ ⟨_, 0, List.replicate xs.length 0, (pS 13 (pS 12 (pS 11 (pS 5 (pS 4 (pU 1)))))), rfl, o, Nat.zero_le _, rfl, hrl, q⟩ ?_
 rintro ad _ ae ⟨f, j, os, rfl, af, b, hj, hr, hol, c⟩
 refine zB (zC ?_)
 refine qD rfl (yM rfl rfl) ?_
 refine qe (zA (zB ?_))
 refine yD (p := ((j : Int) : Int) < (xs.length : Int)) rfl rfl (fun s => ?_) (fun s => ?_)
 ·skip
  have hbj := hb j (by omega)
  refine wp_skip ?_
  refine zA (zB ?_)
  refine zW ?_
  refine zB (zC ?_)
  refine qM (vJ (j : Int)) ?_
  refine qD rfl (zI Tryz.underlying65 sz3 (v := u) rfl rfl hu (by omega) (by omega)) ?_
  refine qD rfl (zH (r := xs.getD j 0) rfl ag3 (z := (j : Int)) rfl hu b.pins (by omega) (by omega)) ?_
  refine qM (vJ (j : Int)) ?_
  refine qM (vJ (xs.getD j 0)) ?_
  refine qe (zA (zC ?_))
  refine qM a ?_
  refine qM (vJ (j : Int)) ?_
  refine qM v ?_
  refine qM (vJ (xs.getD j 0)) ?_
  refine qD rfl (zI Tryz.underlying65 sz3 (v := v) rfl rfl hv (by omega) (by omega)) ?_
  refine qD rfl (zH (r := ys.getD (xs.getD j 0).toNat 0) rfl ag3 (z := (xs.getD j 0)) rfl hv b.pins (by omega) (by omega)) ?_
  refine qD rfl (zI Tryz.underlying65 sz3 (v := a) rfl rfl c.read (by omega) (by omega)) ?_
  refine q0 rfl rfl rfl (o_set (E := eInt) (v := a) (u := (vJ (ys.getD (xs.getD j 0).toNat 0))) (z := (j : Int)) (ys.getD (xs.getD j 0).toNat 0) sz3 rfl rfl rfl rfl b.pins c (by omega) (by omega) (fun ag t x y ah => ?_))
  have aa := b.write x y ((yC c))
  refine qe ?_
  refine yH ?_
  refine zA (zC ?_)
  refine qD rfl (yP rfl rfl (by omega)) ?_
  refine qM (vJ ((j : Int) + 1)) ?_
  refine qe ?_
  refine yG ?_
  refine ⟨_, ?_, _, rfl, _, j + 1, os.set j (ys.getD (xs.getD j 0).toNat 0), (pS 13 (pS 12 (pS 11 (pS 5 (pS 4 (pU 1)))))), rfl, aa, (by omega), (by rw [hr]; exact cur_set 0 (by omega) (by omega) (at_getD (by omega))), ((List.length_set ..).trans hol), t⟩
  omega
 refine wp_exit ?_
 refine zX ?_
 refine yJ ?_
 refine yI ?_
 refine zA (zB (zC ?_))
 refine qM a ?_
 refine qM a ?_
 refine qe (zA ?_)
 refine wp_ret ?_
 refine zT ?_
 refine zP (v := a) rfl rfl rfl ?_
 rw [cur_end (by omega) (by omega)] at hr
 exact ⟨_, _, rfl, (by rw [← hr]; exact c), b⟩

theorem load_spec {w : World} {G : Pin} {p : Nat} {L R B : Value} {mm : PM} {q : PSt} (hP : Pins G w) (hpk : Pk 65 3 G w p L R B mm q) (hok : PoolOk q) {x : Value} {fs : List Nd} (hx : RSl eNode G x fs) (hf : FormOk fs) (hl : q.ns.length + fs.length ≤ 1048576) :
  Calls Tryz.prog 104 [(.pointer (some ⟨p, 0, none⟩)), (.agg [x].toArray)].toArray w fun e w' => ∃ (u : Value) (ats : List Int) (L' R' B' : Value) (q' : PSt) (G' : Pin), e = .returned u ∧ Pk 65 3 G' w' p L' R' B' mm q' ∧ PoolOk q' ∧ PX q q' ∧ PLo w p L R B mm L' R' B' ∧ Ext (inP p L R B mm) G w G' w' ∧ Own eInt 3 G' w' w.heap.size u ats ∧ NP p L' R' B' mm u.ownBlock ∧ LdOk fs q q' fs.length ats := by
 refine zZ (n := 34) Tryz.func104 Tryz.ntmps104 rfl rfl ?_
 have ax : Ext (inP p L R B mm) G w G w := Ext.refl hP
 have hpin : PIn w (inP p L R B mm) p L R B mm := PIn.self
 have ee : (q.ns.map Nd.l).length = q.ns.length ∧ (q.ns.map Nd.r).length = q.ns.length := ⟨List.length_map .., List.length_map ..⟩
 have ef : q.bs.length = q.ns.length ∧ q.ns.length ≤ 1048576 := ⟨hok.ar.ok.len, hok.ar.ok.lim⟩
 refine zB (zC ?_)
 refine qI rfl (xM [x] (v := (.agg [x].toArray)) rfl rfl ax.pins (fun b3 w4 cp cq bk bl => ?_))
 have cr := ax.step bk bl
 have cs := hpk.below bl bk
 have ct := hpk.new (x := (some b3)) (fun k hk => by rw [(congrArg some cp)] at hk; cases hk; exact Nat.le_refl _)
 have cu : w.heap.size ≤ b3 := by have := ax.size; omega
 obtain ⟨ay, ak, al, bm, cv⟩ := cq.shut cr cu
 have bn := cs.more ak cv ct
 refine qM (.slice none 0 0) ?_
 refine qe (zA (zB (zC ?_)))
 refine qD rfl (zN (k := 0) rfl Tryz.underlying32 rfl nz30 rfl) ?_
 refine qD rfl (zO (u := x) ag30 rfl (al.pins _ _ _ (bm 0 _ rfl))) ?_
 refine qD rfl (zM Tryz.underlying30 (v := x) rfl hx) ?_
 refine qI rfl (o_make0 (E := eInt) Tryz.underlying65 mk3 rfl rfl al.pins (by omega) (by omega) (by omega) (fun am cw cx bo bp cy => ?_))
 have bq := al.step bo bp
 have cz := bn.below bp bo
 have c0 := bn.new (x := am.ownBlock) (fun k hk => by rw [cy] at hk; cases hk; exact Nat.le_refl _)
 have c1 : Own eInt 3 ay cw w.heap.size am ([]) := cx.weaken al.size
 refine qM am ?_
 refine qe (zA (zB (zB (zC ?_))))
 refine qD rfl (zN (k := 0) rfl Tryz.underlying32 rfl nz30 rfl) ?_
 refine qD rfl (zO (u := x) ag30 rfl (bq.pins _ _ _ (bm 0 _ rfl))) ?_
 refine qD rfl (zM Tryz.underlying30 (v := x) rfl hx) ?_
 refine qM (vJ 0) ?_
 refine qe (zA ?_)
 refine zW ?_
 refine yL (fun (k : Nat) (en : Nat → Value) (W : World) => ∃ (br : Nat → Value) (a : Nat) (at_ : Value) (ats : List Int) (t : Value) (y : Value) (aa : Value) (b : PSt) (o : Pin), en = (upd (upd (upd (upd (upd (upd br 0 (.pointer (some ⟨p, 0, none⟩))) 4 (.slice none 0 0)) 5 at_) 13 x) 14 (vJ (fs.length : Int))) 15 (vJ (a : Int))) ∧ k = fs.length - a ∧ Ext (inP p L R B mm) G w o W ∧ Pin.le ay o ∧ (a ≤ fs.length) ∧ (LdOk fs q b a ats) ∧ (Own eInt 3 o W w.heap.size at_ (ats)) ∧ (Pk 65 3 o W p t y aa mm b) ∧ (PIn w ((inP p L R B mm)) p t y aa mm) ∧ (PoolOk b) ∧ (PX q b) ∧ (NP p t y aa mm at_.ownBlock)) _ ⟨_, 0, am, [], L, R, B, q, ay, (pS 15 (pS 14 (pS 13 (pS 5 (pS 4 (pU 0)))))), rfl, bq, Pin.le_refl _, Nat.zero_le _, LdOk.start, c1, cz, hpin, hok, (PX.refl _), c0⟩ ?_
 rintro eh _ ei ⟨br, a, at_, ats, t, y, aa, b, o, rfl, ej, ab, an, hk, hld, az, a0, a1, ac, a2, a3⟩
 have ek := a2.len
 have el : (b.ns.map Nd.l).length = b.ns.length ∧ (b.ns.map Nd.r).length = b.ns.length := ⟨List.length_map .., List.length_map ..⟩
 have em : b.bs.length = b.ns.length ∧ b.ns.length ≤ 1048576 := ⟨ac.ar.ok.len, ac.ar.ok.lim⟩
 have hal := hld.len
 have hah := hld.hi
 have hfl := hf.len
 refine zB (zC ?_)
 refine qD rfl (yM rfl rfl) ?_
 refine qe (zA (zB ?_))
 refine yD (p := ((a : Int) : Int) < (fs.length : Int)) rfl rfl (fun c2 => ?_) (fun c2 => ?_)
 ·skip
  have oo := yW hf.opts (show a < fs.length by omega)
  have hfe := hf.lens a (by omega)
  refine wp_skip ?_
  refine zA (zB ?_)
  refine zW ?_
  refine zB (zC ?_)
  refine qD rfl (zI Tryz.underlying30 sz99 (v := x) rfl rfl hx (by omega) (by omega)) ?_
  obtain ⟨ad, ae, a4, a5, c3⟩ := qC (hx.at (z := (a : Int)) (by omega) (by omega)) (j := a) rfl
  have eo := a4.max
  have ep := a5.max
  refine qD rfl (c3 ag99 sz99 rfl (Pins.of_le ab.pins (Pin.le_trans ak an))) ?_
  refine qI rfl (xA [(.slice none 0 0), (.slice none 0 0)] zr99 rfl ab.pins (fun a6 eq bt c4 bu a7 => ?_))
  have bv := ab.step bu a7
  have c5 := az.below a7
  have c6 := a0.below a7 bu
  have bw : Apart (some a6) at_.ownBlock := zG (congrArg some bt) az.lt
  have bx := a0.new (x := (some a6)) (fun k hk => by rw [(congrArg some bt)] at hk; cases hk; exact Nat.le_refl _)
  have bz : w.heap.size ≤ a6 := by have := ab.size; omega
  refine q0 rfl rfl rfl (xK (cs' := [ad, ae]) (us := [ad, ae]) (v := (.agg [ad, ae].toArray)) sz99 rfl rfl rfl (ones2 a4.one a5.one) bv.pins c4 (Nat.le_of_ble_eq_true rfl) rfl (fun ao c7 b0 a8 er => ?_))
  have c8 := bv.write b0 a8 ((yT bz))
  have c9 := c5.keptA a8 bw.symm
  have da := c6.kept a8 b0 bx
  obtain ⟨af, ag, b1, b2, b4⟩ := c7.shut c8 bz
  have db := c9.moreA ag b4 bw.symm
  have dc := da.more ag b4 bx
  refine qe (zA ?_)
  refine yU (S := fun wz => Pins af wz) (last := 14) (by kernel_rfl) rfl ?_
  have ap : Below ao.heap.size ao ao.drew := (Below.refl _ _).drew
  have b5 := b1.pins.below ap
  have c := b1.step b5 ap
  have a9 := db.below ap
  have b6 := dc.below ap b5
  refine dM 0 at_ c.pins ?_
  refine dM 1 (.pointer (some ⟨p, 0, none⟩)) c.pins ?_
  refine dT (i := 2) rfl rfl (by kernel_rfl) (fun _ _ => zN (k := 0) rfl Tryz.underlying99 rfl nz65 rfl) c.pins ?_
  refine dT (i := 3) rfl rfl (by kernel_rfl) (fun _ hS => zO (u := ad) ag65 rfl (hS _ _ _ (b2 0 _ rfl))) c.pins ?_
  refine dM 4 at_ c.pins ?_
  refine dT (i := 6) rfl rfl (by kernel_rfl) (fun _ _ => zN (k := 1) rfl Tryz.underlying99 rfl nz65 rfl) c.pins ?_
  refine dT (i := 7) rfl rfl (by kernel_rfl) (fun _ hS => zO (u := ae) ag65 rfl (hS _ _ _ (b2 1 _ rfl))) c.pins ?_
  refine dM 8 at_ c.pins ?_
  refine dO (i := 5) (zR (i := 5) rfl rfl rfl (zD rfl _) (zL (vs := [ad, at_]) Tryz.func143 nm143 rfl rfl rfl ?_))
  refine Calls.mono (renamed_spec (Gadd.pins c.pins at_) ((a4.mono (Pin.le_trans (Pin.le_trans ak an) ag)).mono (Gadd.le _ _ _)) a9.read (by omega) (fun i hi => by have h7 := oo.1 _ (yN (d := (0 : Int)) hi); omega)) ?_
  rintro _ b7 ⟨ba, es, rfl, de, b8⟩
  refine ⟨_, rfl, ?_⟩
  have ah := deep_back c.pins b8
  have bb := de.anti flat_int (Pin.le_trans (Gadd.le af ao.drew at_) b8.le)
  have ai := c.step ah.pins ah.below
  have bc := a9.below ah.below
  have b9 := b6.below ah.below ah.pins
  have df := zQ bb.lt a9.lt
  have dg := b6.new (x := ba.ownBlock) (fun k hk => (bb.lt k hk).1)
  have ca : Own eInt 3 af b7 w.heap.size ba (atL ats ((fs.getD a default).l)) := bb.weaken c.size
  have et : (atL ats ((fs.getD a default).l)).length = ((fs.getD a default).l).length := yR
  refine ⟨fun _ => ai.pins, ?_⟩
  refine dO (i := 9) (zR (i := 9) rfl rfl rfl (zD rfl _) (zL (vs := [ae, at_]) Tryz.func143 nm143 rfl rfl rfl ?_))
  refine Calls.mono (renamed_spec (Gadd.pins ai.pins at_) ((a5.mono (Pin.le_trans (Pin.le_trans ak an) ag)).mono (Gadd.le _ _ _)) bc.read (by omega) (fun i hi => by have h7 := oo.2 _ (yN (d := (0 : Int)) hi); omega)) ?_
  rintro _ dh ⟨bd, eu, rfl, di, cb⟩
  refine ⟨_, rfl, ?_⟩
  have s := deep_back ai.pins cb
  have aq := di.anti flat_int (Pin.le_trans (Gadd.le af b7 at_) cb.le)
  have cc := ai.step s.pins s.below
  have dj := bc.below s.below
  have dk := ca.below s.below
  have dl := b9.below s.below s.pins
  have dm := zQ aq.lt bc.lt
  have dn := zQ aq.lt ca.lt
  have dp := b9.new (x := bd.ownBlock) (fun k hk => (aq.lt k hk).1)
  have dq : Own eInt 3 af dh w.heap.size bd (atL ats ((fs.getD a default).r)) := aq.weaken ai.size
  have ev : (atL ats ((fs.getD a default).r)).length = ((fs.getD a default).r).length := yR
  refine ⟨fun _ => cc.pins, ?_⟩
  obtain ⟨ew, f, dr, ds, be⟩ := dk.sealed cc
  have dt := dj.moreO f be df.symm
  have du := dq.moreO f be dn
  have dv := dl.moreO f be dg
  obtain ⟨ex, g, bf, dw, cd⟩ := du.sealed dr
  have ce := dt.moreO g cd dm.symm
  have dx := dv.moreO g cd dp
  refine dO (i := 10) (zR (i := 10) rfl rfl rfl (zD rfl _) (zL (vs := [(.pointer (some ⟨p, 0, none⟩)), ba, bd]) Tryz.func79 nm79 rfl rfl rfl ?_))
  refine Calls.mono (node_spec bf.pins dx ac (ds.mono g) dw (by omega) ⟨by rw [yR]; omega, by rw [yR]; omega⟩ (hld.opt oo.1) (hld.opt oo.2)) ?_
  rintro _ ey ⟨aj, dy, dz, d0, h, cf, rfl, d1, au, bg, cg, m, d2, d3, d4, ez⟩
  refine ⟨_, rfl, ?_⟩
  have av := bf.trans m a1
  have d5 := ce.extS m a3
  have ch := NP.call a3 cg (qE ce)
  have d6 := PIn.call a1 cg bf.size
  have e0 := bg.len
  have e1 : (h.ns.map Nd.l).length = h.ns.length ∧ (h.ns.map Nd.r).length = h.ns.length := ⟨List.length_map .., List.length_map ..⟩
  have e2 : h.bs.length = h.ns.length ∧ h.ns.length ≤ 1048576 := ⟨au.ar.ok.len, au.ar.ok.lim⟩
  refine ⟨fun _ => (Pins.of_le av.pins (Pin.le_trans (Pin.le_trans f g) m.le)), ?_⟩
  refine dO (i := 11) (zR (i := 11) rfl rfl rfl (zD rfl _) (yS (E := eInt) (e := 3) [(vJ aj)] [aj] Tryz.underlying65 sz3 zr3 (by exact xV (by rfl)) (xC (by rfl)) rfl rfl rfl rfl (by decide) av.pins (fun ci d7 d8 cj bh e3 => ?_)))
  have aw := av.step cj bh
  have ck := d5.below bh
  have cl := d1.below bh cj
  have d9 : Own eInt 3 cf d7 w.heap.size ci ([aj]) := d8.weaken av.size
  refine ⟨fun _ => (Pins.of_le aw.pins (Pin.le_trans (Pin.le_trans f g) m.le)), ?_⟩
  refine dO (i := 12) (zR (i := 12) rfl rfl rfl (zD rfl _) (oA (E := eInt) (v := at_) (u := ci) 8 Tryz.underlying65 ap3 (by decide) rfl rfl aw.pins ck d9.src (aw.size) (fun cm e4 ea cn co eb => ?_)))
  have bi := aw.write cn co ((yC ck))
  have ec := cl.kept co cn ch
  have ed := np_app ch cl eb
  have e5 : (ats ++ ([aj])).length = ats.length + 1 := List.length_append
  refine ⟨fun _ => (Pins.of_le bi.pins (Pin.le_trans (Pin.le_trans f g) m.le)), ?_⟩
  refine dM 13 cm (Pins.of_le bi.pins (Pin.le_trans (Pin.le_trans f g) m.le)) ?_
  refine yK (by kernel_rfl) ?_
  refine yH ?_
  refine zA (zC ?_)
  refine qD rfl (yP rfl rfl (by omega)) ?_
  refine qM (vJ ((a : Int) + 1)) ?_
  refine qe ?_
  refine yG ?_
  refine ⟨_, ?_, _, rfl, _, a + 1, cm, ats ++ ([aj]), dy, dz, d0, h, cf, (pS 15 (pS 14 (pS 13 (pS 5 (pS 4 (pU 0)))))), rfl, bi, (Pin.le_trans (Pin.le_trans (Pin.le_trans (Pin.le_trans an ag) f) g) m.le), (by omega), (hld.step hf (by omega) ac au bg d2 d3 d4), ea, ec, d6, au, (PX.trans a2 bg), ed⟩
  omega
 refine wp_exit ?_
 refine zX ?_
 refine yJ ?_
 refine yI ?_
 refine zA (zB (zC ?_))
 refine qM at_ ?_
 refine qM at_ ?_
 refine qe (zA ?_)
 refine wp_ret ?_
 refine zT ?_
 refine zP (v := at_) rfl rfl rfl ?_
 have hkf : a = fs.length := by omega
 rw [hkf] at hld
 exact ⟨at_, ats, t, y, aa, b, o, rfl, a0, ac, a2, PIn.lo a1 rfl, ab, az, a3, hld⟩

theorem root_spec {w : World} {G : Pin} {p : Nat} {L R B : Value} {mm : PM} {q : PSt} (hP : Pins G w) (hpk : Pk 65 3 G w p L R B mm q) (hok : PoolOk q) {x : Value} {fs : List Nd} (hx : RSl eNode G x fs) (hf : FormOk fs) (hl : q.ns.length + fs.length ≤ 1048576) (hf1 : 1 ≤ fs.length) :
  Calls Tryz.prog 53 [(.pointer (some ⟨p, 0, none⟩)), (.agg [x].toArray)].toArray w fun e w' => ∃ (z : Int) (L' R' B' : Value) (q' : PSt) (G' : Pin), e = .returned (vJ z) ∧ Pk 65 3 G' w' p L' R' B' mm q' ∧ PoolOk q' ∧ PX q q' ∧ PLo w p L R B mm L' R' B' ∧ Ext (inP p L R B mm) G w G' w' ∧ PlaceOk q' z ∧ pd q' z = gOf fs ∧ q'.ns.length ≤ q.ns.length + fs.length := by
 refine zZ (n := 15) Tryz.func53 Tryz.ntmps53 rfl rfl ?_
 have d : Ext (inP p L R B mm) G w G w := Ext.refl hP
 have hpin : PIn w (inP p L R B mm) p L R B mm := PIn.self
 have av : (q.ns.map Nd.l).length = q.ns.length ∧ (q.ns.map Nd.r).length = q.ns.length := ⟨List.length_map .., List.length_map ..⟩
 have aw : q.bs.length = q.ns.length ∧ q.ns.length ≤ 1048576 := ⟨hok.ar.ok.len, hok.ar.ok.lim⟩
 have hfl := hf.len
 refine zB (zC ?_)
 refine qI rfl (xM [x] (v := (.agg [x].toArray)) rfl rfl d.pins (fun i w4 aa ab m o => ?_))
 have ac := d.step m o
 have ad := hpk.below o m
 have ae := hpk.new (x := (some i)) (fun k hk => by rw [(congrArg some aa)] at hk; cases hk; exact Nat.le_refl _)
 have af : w.heap.size ≤ i := by have := d.size; omega
 obtain ⟨ay, s, c, ag, ah⟩ := ab.shut ac af
 have ai := ad.more s ah ae
 refine qM (vJ 0) ?_
 refine qe (zA (zB (zC ?_)))
 refine qM (.pointer (some ⟨p, 0, none⟩)) ?_
 refine qD rfl (yQ (cs := [x]) ag32 sz32 rfl (fun j u hj => c.pins _ _ _ (ag _ _ (by simpa using hj)))) ?_
 refine qI rfl (zL (vs := [(.pointer (some ⟨p, 0, none⟩)), (.agg [x].toArray)]) Tryz.func104 nm104 rfl rfl rfl ?_)
 refine Calls.mono (load_spec c.pins ai hok (hx.mono s) hf hl) ?_
 rintro _ az ⟨b, ats, aj, ak, al, a, am, rfl, an, f, t, ao, ap, aq, a0, g⟩
 refine ⟨_, rfl, ?_⟩
 have y := c.trans ap hpin
 have au := PIn.call hpin ao c.size
 have a1 := t.len
 have a2 : (a.ns.map Nd.l).length = a.ns.length ∧ (a.ns.map Nd.r).length = a.ns.length := ⟨List.length_map .., List.length_map ..⟩
 have a3 : a.bs.length = a.ns.length ∧ a.ns.length ≤ 1048576 := ⟨f.ar.ok.len, f.ar.ok.lim⟩
 have h := aq.weaken c.size
 have a4 := g.len
 refine qM b ?_
 refine qe (zA (zB (zC ?_)))
 refine qM b ?_
 refine qM b ?_
 refine qD rfl (zM Tryz.underlying65 (v := b) rfl h.read) ?_
 refine qD rfl (r_sub rfl rfl (by omega)) ?_
 refine qD rfl (zI Tryz.underlying65 sz3 (v := b) rfl rfl h.read (by omega) (by omega)) ?_
 refine qD rfl (zH (r := ats.getD ((ats.length : Int) - 1).toNat 0) rfl ag3 (z := ((ats.length : Int) - 1)) rfl h.read (Gadd.pins y.pins b) (by omega) (by omega)) ?_
 refine qM (vJ (ats.getD ((ats.length : Int) - 1).toNat 0)) ?_
 refine qe (zA ?_)
 refine wp_ret ?_
 refine zT ?_
 refine zP (v := (vJ (ats.getD ((ats.length : Int) - 1).toNat 0))) rfl rfl rfl ?_
 have hrt := g.root hf1
 rw [show fs.length - 1 = ((ats.length : Int) - 1).toNat by omega] at hrt
 exact ⟨_, aj, ak, al, a, am, rfl, an, f, t, PIn.lo au rfl, y, hrt.1, hrt.2, g.hi⟩

end PL1
end Go.Proofs.YtfnginkcmcfdfaaGreatDoor

set_option maxRecDepth 20000
set_option maxHeartbeats 2000000
namespace Go.Proofs.YtfnginkcmcfdfaaGreatDoor
namespace PA1
open Go.RowKit Go.GL Go.Proofs










theorem parts_spec {w : World} {G : Pin} {p : Nat} {L R B : Value} {mm : PM} {q : PSt} (hP : Pins G w) (hpk : Pk 65 3 G w p L R B mm q) (hok : PoolOk q) {x : Value} {xs : List Int} (hx : RSl eInt G x xs) (hr : ∀ i, i < xs.length → PlaceOk q (xs.getD i 0)) (hxl : xs.length ≤ 1048576) :
  Calls Tryz.prog 103 [(.pointer (some ⟨p, 0, none⟩)), x].toArray w fun e w' => ∃ (u : Value) (zs : List Int) (G' : Pin), e = .returned u ∧ Own eInt 3 G' w' w.heap.size u zs ∧ PtOk q xs zs zs.length ∧ Ext noS G w G' w' := by
 refine zZ (n := 82) Tryz.func103 Tryz.ntmps103 rfl rfl ?_
 have bl : Ext noS G w G w := Ext.refl hP
 have hpin : PIn w (inP p L R B mm) p L R B mm := PIn.self
 have eg : (q.ns.map Nd.l).length = q.ns.length ∧ (q.ns.map Nd.r).length = q.ns.length := ⟨List.length_map .., List.length_map ..⟩
 have eh : q.bs.length = q.ns.length ∧ q.ns.length ≤ 1048576 := ⟨hok.ar.ok.len, hok.ar.ok.lim⟩
 have hm := hx.max
 refine zB (zC ?_)
 refine qM (.slice none 0 0) ?_
 refine qe (zA (zB (zC ?_)))
 refine qI rfl (o_makeMap (fun k : Int => Value.int .i64 k) (fun v : Bool => Value.bool v) bl.pins (fun m3 w4 ej cx b6 b7 => ?_))
 have bm := bl.step b6 b7
 have b8 := hpk.below b7 b6
 have b9 := hpk.new (x := some m3) (fun k hk => by cases hk; omega)
 have ca : w.heap.size ≤ m3 := by have := bl.size; omega
 refine qM (.map (some m3)) ?_
 refine qe (zA (zB (zC ?_)))
 refine qI rfl (yY (E := eInt) (e := 3) Tryz.underlying65 sz3 bm.pins (fun a5 cy cz cb bn c0 => ?_))
 have c1 := bm.step cb bn
 have c2 := cx.below bn
 have c3 := b8.below bn cb
 have c4 := b8.new (x := a5.ownBlock) (fun k hk => by rw [c0] at hk; cases hk; exact Nat.le_refl _)
 have c5 : Own eInt 3 G cy w.heap.size a5 ([]) := cz.weaken bm.size
 refine qM a5 ?_
 refine qe (zA (zB (zB (zC ?_))))
 refine qM x ?_
 refine qD rfl (zM Tryz.underlying65 (v := x) rfl hx) ?_
 refine qM (vJ 0) ?_
 refine qe (zA ?_)
 refine zW ?_
 refine yL (fun (k : Nat) (en : Nat → Value) (W : World) => ∃ (ad : Nat → Value) (i : Nat) (lv : Value) (ls : List Int) (sn : List (Int × Bool)) (ae : Pin), en = (upd (upd (upd (upd (upd (upd (upd ad 0 (.pointer (some ⟨p, 0, none⟩))) 4 (.slice none 0 0)) 5 (.map (some m3))) 6 lv) 16 x) 17 (vJ (xs.length : Int))) 18 (vJ (i : Int))) ∧ k = xs.length - i ∧ Ext noS G w ae W ∧ Pin.le G ae ∧ (i ≤ xs.length) ∧ (PtOk q (xs.take i) ls 0) ∧ (SnOk sn ls) ∧ (Own eInt 3 ae W w.heap.size lv (ls)) ∧ (Mp (fun k : Int => Value.int .i64 k) (fun v : Bool => Value.bool v) W m3 (sn)) ∧ (Pk 65 3 ae W p L R B mm q) ∧ (NP p L R B mm lv.ownBlock)) _ ⟨_, 0, a5, [], [], G, (pS 18 (pS 17 (pS 16 (pS 6 (pS 5 (pS 4 (pU 0))))))), rfl, c1, Pin.le_refl _, Nat.zero_le _, PtOk.start, SnOk.start, c5, c2, c3, c4⟩ ?_
 rintro ek _ el ⟨ad, i, lv, ls, sn, ae, rfl, em, au, bo, hi, hpt, hsn, a6, av, bp, a7⟩
 have eo := hpt.len
 refine zB (zC ?_)
 refine qD rfl (yM rfl rfl) ?_
 refine qe (zA (zB ?_))
 refine yD (p := ((i : Int) : Int) < (xs.length : Int)) rfl rfl (fun c6 => ?_) (fun c6 => ?_)
 ·skip
  refine wp_skip ?_
  refine zA (zB ?_)
  refine zW ?_
  refine zB (zC ?_)
  refine qD rfl (zI Tryz.underlying65 sz3 (v := x) rfl rfl hx (by omega) (by omega)) ?_
  refine qD rfl (zH (r := xs.getD i 0) rfl ag3 (z := (i : Int)) rfl hx (Pins.of_le au.pins bo) (by omega) (by omega)) ?_
  refine qM (vJ (xs.getD i 0)) ?_
  refine qe (zA (zB (zC ?_)))
  refine qM (.map (some m3)) ?_
  refine qM (vJ (xs.getD i 0)) ?_
  refine qD rfl (run_look1_bool (k := (xs.getD i 0)) (key_int Tryz.underlying3) Tryz.underlying147 zr4 av rfl rfl) ?_
  refine qD rfl (xR rfl) ?_
  refine qe (zA ?_)
  refine c_ifn rfl rfl (fun bq => ?_) (fun bq => ?_)
  ·skip
   refine wp_skip ?_
   refine yH ?_
   refine zA (zC ?_)
   refine qD rfl (yP rfl rfl (by omega)) ?_
   refine qM (vJ ((i : Int) + 1)) ?_
   refine qe ?_
   refine yG ?_
   refine ⟨_, ?_, _, rfl, _, i + 1, lv, ls, sn, ae, (pS 18 (pS 17 (pS 16 (pS 6 (pS 5 (pS 4 (pU 0))))))), rfl, au, bo, (by omega), (hpt.rseen (by omega) (hsn.yes bq)), hsn, a6, av, bp, a7⟩
   omega
  refine zB (zC ?_)
  refine qM (.map (some m3)) ?_
  refine qM (vJ (xs.getD i 0)) ?_
  refine q0 rfl rfl rfl (o_mapUpdate (val := (fun v : Bool => Value.bool v)) (k := (xs.getD i 0)) (v := true) (key_int Tryz.underlying3) Tryz.underlying147 rfl rfl rfl au.pins av (fun ep c7 cc br eq => ?_))
  have bt := au.write cc br ((yT ca))
  have c8 := a6.keptA br (yF av a6).symm
  have c9 := bp.kept br cc b9
  refine qe (zA (zC ?_))
  refine qM lv ?_
  refine qM (vJ (xs.getD i 0)) ?_
  refine qI rfl (yS (E := eInt) (e := 3) [(vJ (xs.getD i 0))] [xs.getD i 0] Tryz.underlying65 sz3 zr3 (by exact xV (by rfl)) (xC (by rfl)) rfl rfl rfl rfl (by decide) bt.pins (fun cd da db ce a8 er => ?_))
  have bu := bt.step ce a8
  have bv := c8.below a8
  have cf := c7.below a8
  have cg := c9.below a8 ce
  have dc : Own eInt 3 ae da w.heap.size cd ([xs.getD i 0]) := db.weaken bt.size
  refine qI rfl (oA (E := eInt) (v := lv) (u := cd) 8 Tryz.underlying65 ap3 (by decide) rfl rfl bu.pins bv dc.src (bu.size) (fun ch es dd ci bw de => ?_))
  have df := bu.write ci bw ((yC bv))
  have dg := cf.kept bw (yF cf bv)
  have dh := cg.kept bw ci a7
  have di := np_app a7 cg de
  have et : (ls ++ ([xs.getD i 0])).length = ls.length + 1 := List.length_append
  refine qM ch ?_
  refine qe ?_
  refine yH ?_
  refine zA (zC ?_)
  refine qD rfl (yP rfl rfl (by omega)) ?_
  refine qM (vJ ((i : Int) + 1)) ?_
  refine qe ?_
  refine yG ?_
  refine ⟨_, ?_, _, rfl, _, i + 1, ch, ls ++ ([xs.getD i 0]), putE sn (xs.getD i 0) true, ae, (pS 18 (pS 17 (pS 16 (pS 6 (pS 5 (pS 4 (pU 0))))))), rfl, df, bo, (by omega), (hpt.rnew (by omega) (hsn.no bq) (hr i (by omega))), hsn.put, dd, dg, dh, di⟩
  omega
 refine wp_exit ?_
 refine zX ?_
 refine yJ ?_
 refine yI ?_
 refine zA (zB (zB (zC ?_)))
 refine qM (vJ 0) ?_
 refine qe (zA ?_)
 refine zW ?_
 have hin : i = xs.length := by omega
 rw [hin, xZ (Nat.le_refl _)] at hpt
 refine yL (fun (k : Nat) (en : Nat → Value) (W : World) => ∃ (ad : Nat → Value) (a : Nat) (ab : Value) (b : List Int) (a9 : List (Int × Bool)) (af : Pin), en = (upd (upd (upd (upd (upd ad 0 (.pointer (some ⟨p, 0, none⟩))) 4 (.slice none 0 0)) 5 (.map (some m3))) 6 ab) 9 (vJ (a : Int))) ∧ k = q.ns.length - a ∧ Ext noS G w af W ∧ Pin.le ae af ∧ (PtOk q xs b a) ∧ (SnOk a9 b) ∧ (Own eInt 3 af W w.heap.size ab (b)) ∧ (Mp (fun k : Int => Value.int .i64 k) (fun v : Bool => Value.bool v) W m3 (a9)) ∧ (Pk 65 3 af W p L R B mm q) ∧ (NP p L R B mm ab.ownBlock)) _ ⟨_, 0, lv, ls, sn, ae, (pS 9 (pS 6 (pS 5 (pS 4 (pU 0))))), rfl, au, Pin.le_refl _, hpt, hsn, a6, av, bp, a7⟩ ?_
 rintro eu _ al ⟨ad, a, ab, b, a9, af, rfl, ev, am, dj, an, dk, ba, dl, aw, dm⟩
 have ew := an.len
 have ex := an.kl
 refine zB (zB (zC ?_))
 refine qM (vJ (a : Int)) ?_
 refine qM ab ?_
 refine qD rfl (zM Tryz.underlying65 (v := ab) rfl ba.read) ?_
 refine qD rfl (yM rfl rfl) ?_
 refine qe (zA ?_)
 refine yD (p := ((a : Int) : Int) < (b.length : Int)) rfl rfl (fun dn => ?_) (fun dn => ?_)
 ·skip
  have hzp := an.pl _ (yN (d := (0 : Int)) (show a < b.length by omega))
  have ey := hzp.1
  have ez := hzp.2
  have holl := hok.ar.ok.lens (b.getD a 0).toNat (by omega)
  refine wp_skip ?_
  refine zA (zB ?_)
  refine zW ?_
  refine zB ?_
  have dp := Gadd.pins am.pins ab
  have dq := Gadd.pins am.pins L
  have dr := Gadd.pins am.pins R
  have bb := ba.read
  have ds := aw.ol.read
  have dt := aw.rr.read
  refine yU (S := fun wz => BxR wz p [L, R, B, (.map (some mm.f)), (.map (some mm.o)), (.map (some mm.c)), (.map (some mm.s)), (.map (some mm.n))] ∧ Pins (Gadd af al ab) wz ∧ Pins (Gadd af al L) wz ∧ Pins (Gadd af al R) wz) (last := 22) (by kernel_rfl) rfl ?_
  have ai : Below al.heap.size al al.drew := (Below.refl _ _).drew
  have cj := am.pins.below ai
  have du := am.step cj ai
  have dv := ba.below ai
  have dw := dl.below ai
  have g := aw.below ai cj
  have t := dp.below ai
  have y := dq.below ai
  have aa := dr.below ai
  refine dT (i := 0) rfl rfl (by kernel_rfl) (fun _ _ => zU (v := (.pointer (some ⟨p, 0, none⟩))) rfl) ⟨g.bx.reads, t, y, aa⟩ ?_
  refine dT (i := 1) rfl rfl (by kernel_rfl) (fun _ _ => xF rfl) ⟨g.bx.reads, t, y, aa⟩ ?_
  refine dT (i := 2) rfl rfl (by kernel_rfl) (fun _ _ => zN (k := 0) rfl Tryz.underlying72 rfl nz66 rfl) ⟨g.bx.reads, t, y, aa⟩ ?_
  refine dT (i := 3) rfl rfl (by kernel_rfl) (fun _ hS => zO (u := L) ag66 rfl (hS.1 0 _ rfl)) ⟨g.bx.reads, t, y, aa⟩ ?_
  refine dT (i := 4) rfl rfl (by kernel_rfl) (fun _ _ => zU (v := ab) rfl) ⟨g.bx.reads, t, y, aa⟩ ?_
  refine dT (i := 5) rfl rfl (by kernel_rfl) (fun _ _ => zU (v := (vJ (a : Int))) rfl) ⟨g.bx.reads, t, y, aa⟩ ?_
  refine dT (i := 6) rfl rfl (by kernel_rfl) (fun _ _ => zI Tryz.underlying65 sz3 (v := ab) rfl rfl bb (by omega) (by omega)) ⟨g.bx.reads, t, y, aa⟩ ?_
  refine dT (i := 7) rfl rfl (by kernel_rfl) (fun _ hS => zH (r := b.getD a 0) rfl ag3 (z := (a : Int)) rfl bb hS.2.1 (by omega) (by omega)) ⟨g.bx.reads, t, y, aa⟩ ?_
  refine dT (i := 8) rfl rfl (by kernel_rfl) (fun _ _ => zI Tryz.underlying66 sz65 (v := L) rfl rfl ds (by omega) (by omega)) ⟨g.bx.reads, t, y, aa⟩ ?_
  obtain ⟨ax, bc, dx⟩ := nm_sl (aw.ol.at (z := (b.getD a 0)) (by omega) (by omega)) (j := (b.getD a 0).toNat) rfl
  rw [mapl_getD] at bc
  have e0 := bc.max
  refine dT (i := 9) rfl rfl (by kernel_rfl) (fun _ hS => dx ag65 rfl hS.2.2.1) ⟨g.bx.reads, t, y, aa⟩ ?_
  refine dT (i := 10) rfl rfl (by kernel_rfl) (fun _ _ => zU (v := (.pointer (some ⟨p, 0, none⟩))) rfl) ⟨g.bx.reads, t, y, aa⟩ ?_
  refine dT (i := 11) rfl rfl (by kernel_rfl) (fun _ _ => xF rfl) ⟨g.bx.reads, t, y, aa⟩ ?_
  refine dT (i := 12) rfl rfl (by kernel_rfl) (fun _ _ => zN (k := 1) rfl Tryz.underlying72 rfl nz66 rfl) ⟨g.bx.reads, t, y, aa⟩ ?_
  refine dT (i := 13) rfl rfl (by kernel_rfl) (fun _ hS => zO (u := R) ag66 rfl (hS.1 1 _ rfl)) ⟨g.bx.reads, t, y, aa⟩ ?_
  refine dT (i := 14) rfl rfl (by kernel_rfl) (fun _ _ => zU (v := ab) rfl) ⟨g.bx.reads, t, y, aa⟩ ?_
  refine dT (i := 15) rfl rfl (by kernel_rfl) (fun _ _ => zU (v := (vJ (a : Int))) rfl) ⟨g.bx.reads, t, y, aa⟩ ?_
  refine dT (i := 16) rfl rfl (by kernel_rfl) (fun _ _ => zI Tryz.underlying65 sz3 (v := ab) rfl rfl bb (by omega) (by omega)) ⟨g.bx.reads, t, y, aa⟩ ?_
  refine dT (i := 17) rfl rfl (by kernel_rfl) (fun _ hS => zH (r := b.getD a 0) rfl ag3 (z := (a : Int)) rfl bb hS.2.1 (by omega) (by omega)) ⟨g.bx.reads, t, y, aa⟩ ?_
  refine dT (i := 18) rfl rfl (by kernel_rfl) (fun _ _ => zI Tryz.underlying66 sz65 (v := R) rfl rfl dt (by omega) (by omega)) ⟨g.bx.reads, t, y, aa⟩ ?_
  obtain ⟨ay, bd, dy⟩ := nm_sl (aw.rr.at (z := (b.getD a 0)) (by omega) (by omega)) (j := (b.getD a 0).toNat) rfl
  rw [mapr_getD] at bd
  have e1 := bd.max
  refine dT (i := 19) rfl rfl (by kernel_rfl) (fun _ hS => dy ag65 rfl hS.2.2.2) ⟨g.bx.reads, t, y, aa⟩ ?_
  refine dT (i := 20) rfl rfl (by kernel_rfl) (fun _ _ => r_buildA (m := 1) [(.slice none 0 0), (.slice none 0 0)] [ax, ay] [(0, ax, [ax]), (1, ay, [ay])] Tryz.underlying148 zr148 rfl sz65 rfl (List.forall_mem_cons.2 ⟨(yX bc.one), (List.forall_mem_cons.2 ⟨(yX bd.one), (fun _ h => by cases h)⟩)⟩) rfl) ⟨g.bx.reads, t, y, aa⟩ ?_
  refine dT (i := 21) rfl rfl (by kernel_rfl) (fun _ _ => zU (v := (vJ 0)) rfl) ⟨g.bx.reads, t, y, aa⟩ ?_
  refine yK (by kernel_rfl) ?_
  refine zA ?_
  refine zW ?_
  refine yL (fun (k : Nat) (en : Nat → Value) (W : World) => ∃ (ad : Nat → Value) (s : Nat) (ao : Value) (ap : List Int) (az : List (Int × Bool)) (aj : Pin), en = (upd (upd (upd (upd (upd (upd (upd ad 0 (.pointer (some ⟨p, 0, none⟩))) 4 (.slice none 0 0)) 5 (.map (some m3))) 6 ao) 9 (vJ (a : Int))) 59 (.agg [ax, ay].toArray)) 60 (vJ (s : Int))) ∧ k = 2 - s ∧ Ext noS G w aj W ∧ Pin.le af aj ∧ (s ≤ 2) ∧ (PtIn q xs ap a (b.getD a 0) (dzL (q.ns.getD (b.getD a 0).toNat default).l (q.ns.getD (b.getD a 0).toNat default).r s)) ∧ (SnOk az ap) ∧ (Own eInt 3 aj W w.heap.size ao (ap)) ∧ (Mp (fun k : Int => Value.int .i64 k) (fun v : Bool => Value.bool v) W m3 (az)) ∧ (Pk 65 3 aj W p L R B mm q) ∧ (NP p L R B mm ao.ownBlock)) _ ⟨_, 0, ab, b, a9, af, (pS 60 (pS 59 (pS 9 (pS 6 (pS 5 (pS 4 (pU 0))))))), rfl, du, Pin.le_refl _, Nat.zero_le _, (PtIn.start an (by omega)), dk, dv, dw, g, dm⟩ ?_
  rintro e2 _ e3 ⟨ad, s, ao, ap, az, aj, rfl, e4, ck, be, hs, bf, cl, cm, cn, co, cp⟩
  have e5 := bf.ok.len
  refine zB (zC ?_)
  refine qD rfl (yM rfl rfl) ?_
  refine qe (zA (zB ?_))
  refine yD (p := ((s : Int) : Int) < 2) rfl rfl (fun dz => ?_) (fun dz => ?_)
  ·skip
   refine wp_skip ?_
   refine zA (zB ?_)
   refine zW ?_
   refine zB (zC ?_)
   obtain ⟨a0, bg, d0⟩ := name_index2 (bc.mono be) (bd.mono be) (z := (s : Int)) s (by omega) (by omega) rfl
   have e6 := bg.max
   refine qD rfl (d0 Tryz.underlying148 rfl sz65 ag65 rfl rfl) ?_
   refine qM a0 ?_
   refine qe (zA (zB (zC ?_)))
   refine qM a0 ?_
   refine qD rfl (zM Tryz.underlying65 (v := a0) rfl bg) ?_
   refine qM (vJ 0) ?_
   refine qe (zA ?_)
   refine zW ?_
   refine yL (fun (k : Nat) (en : Nat → Value) (W : World) => ∃ (ad : Nat → Value) (j : Nat) (ak : Value) (ag : List Int) (aq : List (Int × Bool)) (ah : Pin), en = (upd (upd (upd (upd (upd (upd (upd (upd (upd (upd ad 0 (.pointer (some ⟨p, 0, none⟩))) 4 (.slice none 0 0)) 5 (.map (some m3))) 6 ak) 9 (vJ (a : Int))) 59 (.agg [ax, ay].toArray)) 60 (vJ (s : Int))) 63 a0) 64 (vJ ((pick2 s ((q.ns.getD (b.getD a 0).toNat default).l) ((q.ns.getD (b.getD a 0).toNat default).r)).length : Int))) 65 (vJ (j : Int))) ∧ k = (pick2 s (q.ns.getD (b.getD a 0).toNat default).l (q.ns.getD (b.getD a 0).toNat default).r).length - j ∧ Ext noS G w ah W ∧ Pin.le aj ah ∧ (j ≤ (pick2 s (q.ns.getD (b.getD a 0).toNat default).l (q.ns.getD (b.getD a 0).toNat default).r).length) ∧ (PtIn q xs ag a (b.getD a 0) (dzL (q.ns.getD (b.getD a 0).toNat default).l (q.ns.getD (b.getD a 0).toNat default).r s ++ (pick2 s (q.ns.getD (b.getD a 0).toNat default).l (q.ns.getD (b.getD a 0).toNat default).r).take j)) ∧ (SnOk aq ag) ∧ (Own eInt 3 ah W w.heap.size ak (ag)) ∧ (Mp (fun k : Int => Value.int .i64 k) (fun v : Bool => Value.bool v) W m3 (aq)) ∧ (Pk 65 3 ah W p L R B mm q) ∧ (NP p L R B mm ak.ownBlock)) _ ⟨_, 0, ao, ap, az, aj, (pS 65 (pS 64 (pS 63 (pS 60 (pS 59 (pS 9 (pS 6 (pS 5 (pS 4 (pU 0)))))))))), rfl, ck, Pin.le_refl _, Nat.zero_le _, (by rw [List.take_zero, List.append_nil]; exact bf), cl, cm, cn, co, cp⟩ ?_
   rintro e7 _ e8 ⟨ad, j, ak, ag, aq, ah, rfl, e9, a1, bh, hj, a2, a3, bi, a4, bz, bj⟩
   have fa := a2.ok.len
   refine zB (zC ?_)
   refine qD rfl (yM rfl rfl) ?_
   refine qe (zA (zB ?_))
   refine yD (p := ((j : Int) : Int) < ((pick2 s ((q.ns.getD (b.getD a 0).toNat default).l) ((q.ns.getD (b.getD a 0).toNat default).r)).length : Int)) rfl rfl (fun d1 => ?_) (fun d1 => ?_)
   ·skip
    refine wp_skip ?_
    refine zA (zB ?_)
    refine zW ?_
    refine zB (zC ?_)
    refine qD rfl (zI Tryz.underlying65 sz3 (v := a0) rfl rfl bg (by omega) (by omega)) ?_
    refine qD rfl (zH (r := (pick2 s ((q.ns.getD (b.getD a 0).toNat default).l) ((q.ns.getD (b.getD a 0).toNat default).r)).getD j 0) rfl ag3 (z := (j : Int)) rfl bg (Pins.of_le a1.pins bh) (by omega) (by omega)) ?_
    refine qM (vJ ((pick2 s ((q.ns.getD (b.getD a 0).toNat default).l) ((q.ns.getD (b.getD a 0).toNat default).r)).getD j 0)) ?_
    refine qe (zA (zB (zC ?_)))
    refine qM (.map (some m3)) ?_
    refine qM (vJ ((pick2 s ((q.ns.getD (b.getD a 0).toNat default).l) ((q.ns.getD (b.getD a 0).toNat default).r)).getD j 0)) ?_
    refine qD rfl (run_look1_bool (k := ((pick2 s ((q.ns.getD (b.getD a 0).toNat default).l) ((q.ns.getD (b.getD a 0).toNat default).r)).getD j 0)) (key_int Tryz.underlying3) Tryz.underlying147 zr4 a4 rfl rfl) ?_
    refine qD rfl (xR rfl) ?_
    refine qe (zA ?_)
    refine c_ifn rfl rfl (fun b0 => ?_) (fun b0 => ?_)
    ·skip
     refine wp_skip ?_
     refine yH ?_
     refine zA (zC ?_)
     refine qD rfl (yP rfl rfl (by omega)) ?_
     refine qM (vJ ((j : Int) + 1)) ?_
     refine qe ?_
     refine yG ?_
     refine ⟨_, ?_, _, rfl, _, j + 1, ak, ag, aq, ah, (pS 65 (pS 64 (pS 63 (pS 60 (pS 59 (pS 9 (pS 6 (pS 5 (pS 4 (pU 0)))))))))), rfl, a1, bh, (by omega), (by rw [xH _ 0 (show j < (pick2 s (q.ns.getD (b.getD a 0).toNat default).l (q.ns.getD (b.getD a 0).toNat default).r).length by omega), ← List.append_assoc]; exact a2.seen (a3.yes b0)), a3, bi, a4, bz, bj⟩
     omega
    refine zB (zC ?_)
    refine qM (.map (some m3)) ?_
    refine qM (vJ ((pick2 s ((q.ns.getD (b.getD a 0).toNat default).l) ((q.ns.getD (b.getD a 0).toNat default).r)).getD j 0)) ?_
    refine q0 rfl rfl rfl (o_mapUpdate (val := (fun v : Bool => Value.bool v)) (k := ((pick2 s ((q.ns.getD (b.getD a 0).toNat default).l) ((q.ns.getD (b.getD a 0).toNat default).r)).getD j 0)) (v := true) (key_int Tryz.underlying3) Tryz.underlying147 rfl rfl rfl a1.pins a4 (fun fb d2 cq b1 fc => ?_))
    have b2 := a1.write cq b1 ((yT ca))
    have d3 := bi.keptA b1 (yF a4 bi).symm
    have d4 := bz.kept b1 cq b9
    refine qe (zA (zC ?_))
    refine qM ak ?_
    refine qM (vJ ((pick2 s ((q.ns.getD (b.getD a 0).toNat default).l) ((q.ns.getD (b.getD a 0).toNat default).r)).getD j 0)) ?_
    refine qI rfl (yS (E := eInt) (e := 3) [(vJ ((pick2 s ((q.ns.getD (b.getD a 0).toNat default).l) ((q.ns.getD (b.getD a 0).toNat default).r)).getD j 0))] [(pick2 s ((q.ns.getD (b.getD a 0).toNat default).l) ((q.ns.getD (b.getD a 0).toNat default).r)).getD j 0] Tryz.underlying65 sz3 zr3 (by exact xV (by rfl)) (xC (by rfl)) rfl rfl rfl rfl (by decide) b2.pins (fun cr d5 d6 cs bk fd => ?_))
    have b3 := b2.step cs bk
    have b4 := d3.below bk
    have ct := d2.below bk
    have cu := d4.below bk cs
    have d7 : Own eInt 3 ah d5 w.heap.size cr ([(pick2 s ((q.ns.getD (b.getD a 0).toNat default).l) ((q.ns.getD (b.getD a 0).toNat default).r)).getD j 0]) := d6.weaken b2.size
    refine qI rfl (oA (E := eInt) (v := ak) (u := cr) 8 Tryz.underlying65 ap3 (by decide) rfl rfl b3.pins b4 d7.src (b3.size) (fun cv fe d8 cw b5 d9 => ?_))
    have ea := b3.write cw b5 ((yC b4))
    have eb := ct.kept b5 (yF ct b4)
    have ec := cu.kept b5 cw bj
    have ed := np_app bj cu d9
    have ff : (ag ++ ([(pick2 s ((q.ns.getD (b.getD a 0).toNat default).l) ((q.ns.getD (b.getD a 0).toNat default).r)).getD j 0])).length = ag.length + 1 := List.length_append
    refine qM cv ?_
    refine qe ?_
    refine yH ?_
    refine zA (zC ?_)
    refine qD rfl (yP rfl rfl (by omega)) ?_
    refine qM (vJ ((j : Int) + 1)) ?_
    refine qe ?_
    refine yG ?_
    refine ⟨_, ?_, _, rfl, _, j + 1, cv, ag ++ ([(pick2 s ((q.ns.getD (b.getD a 0).toNat default).l) ((q.ns.getD (b.getD a 0).toNat default).r)).getD j 0]), putE aq ((pick2 s ((q.ns.getD (b.getD a 0).toNat default).l) ((q.ns.getD (b.getD a 0).toNat default).r)).getD j 0) true, ah, (pS 65 (pS 64 (pS 63 (pS 60 (pS 59 (pS 9 (pS 6 (pS 5 (pS 4 (pU 0)))))))))), rfl, ea, bh, (by omega), (by rw [xH _ 0 (show j < (pick2 s (q.ns.getD (b.getD a 0).toNat default).l (q.ns.getD (b.getD a 0).toNat default).r).length by omega), ← List.append_assoc]; exact a2.new hok (a3.no b0) (dz_in (by omega) (by omega))), a3.put, d8, eb, ec, ed⟩
    omega
   have hjn : j = (pick2 s (q.ns.getD (b.getD a 0).toNat default).l (q.ns.getD (b.getD a 0).toNat default).r).length := by omega
   rw [hjn, xZ (Nat.le_refl _)] at a2
   have ee : PtIn q xs ag a (b.getD a 0) (dzL (q.ns.getD (b.getD a 0).toNat default).l (q.ns.getD (b.getD a 0).toNat default).r (s + 1)) := by rw [dz_next (by omega)]; exact a2
   refine wp_exit ?_
   refine zX ?_
   refine yJ ?_
   refine yI ?_
   refine yH ?_
   refine zA (zC ?_)
   refine qD rfl (yP rfl rfl (by omega)) ?_
   refine qM (vJ ((s : Int) + 1)) ?_
   refine qe ?_
   refine yG ?_
   refine ⟨_, ?_, _, rfl, _, s + 1, ak, ag, aq, ah, (pS 60 (pS 59 (pS 9 (pS 6 (pS 5 (pS 4 (pU 0))))))), rfl, a1, (Pin.le_trans be bh), (by omega), ee, a3, bi, a4, bz, bj⟩
   omega
  have ef : s = 2 := by omega
  rw [ef] at bf
  have hdone := bf.done (fun o ho => ho)
  have fg := hdone.kl
  refine wp_exit ?_
  refine zX ?_
  refine yJ ?_
  refine yI ?_
  refine yH ?_
  refine zA (zC ?_)
  refine qM (vJ (a : Int)) ?_
  refine qD rfl (yP rfl rfl (by omega)) ?_
  refine qM (vJ ((a : Int) + 1)) ?_
  refine qe ?_
  refine yG ?_
  refine ⟨_, ?_, _, rfl, _, a + 1, ao, ap, az, aj, (pS 9 (pS 6 (pS 5 (pS 4 (pU 0))))), rfl, ck, (Pin.le_trans dj be), hdone, cl, cm, cn, co, cp⟩
  omega
 refine wp_exit ?_
 refine zX ?_
 refine yJ ?_
 refine yI ?_
 refine zA (zB (zC ?_))
 refine qM ab ?_
 refine qM ab ?_
 refine qe (zA ?_)
 refine wp_ret ?_
 refine zT ?_
 refine zP (v := ab) rfl rfl rfl ?_
 have hkk : a = b.length := by omega
 rw [hkk] at an
 exact ⟨_, _, _, rfl, ba, an, am⟩

end PA1
end Go.Proofs.YtfnginkcmcfdfaaGreatDoor

set_option maxRecDepth 20000
set_option maxHeartbeats 2000000
namespace Go.Proofs.YtfnginkcmcfdfaaGreatDoor
namespace SO1
open Go.RowKit Go.GL Go.Proofs
open Go.Proofs.YtfnginkcmcfdfaaGreatDoor.B1










theorem cmpB_spec {w : World} {G : Pin} {p : Nat} {L R B : Value} {mm : PM} {q : PSt} (hP : Pins G w) (hpk : Pk 65 3 G w p L R B mm q) (hok : PoolOk q) {bx : Nat} (hbx : BxP G bx [.pointer (some ⟨p, 0, none⟩)]) {a b : Int} (ha : PlaceOk q a) (hb : PlaceOk q b) :
  Calls Tryz.prog 116 [(vJ a), (vJ b), (.pointer (some ⟨bx, 0, none⟩))].toArray w fun e w' => e = .returned (vJ (cmpI (bn q a) (bn q b))) ∧ ∃ n os, w' = Go.Sort.grow (w.drewN n) os := by
 refine zZ (n := 21) Tryz.func116 Tryz.ntmps116 rfl rfl ?_
 have t : Ext noS G w G w := Ext.refl hP
 have hpin : PIn w (inP p L R B mm) p L R B mm := PIn.self
 have aa : (q.ns.map Nd.l).length = q.ns.length ∧ (q.ns.map Nd.r).length = q.ns.length := ⟨List.length_map .., List.length_map ..⟩
 have ab : q.bs.length = q.ns.length ∧ q.ns.length ≤ 1048576 := ⟨hok.ar.ok.len, hok.ar.ok.lim⟩
 have ac := ha.1
 have ad := ha.2
 have ae := hb.1
 have af := hb.2
 refine zB (zC ?_)
 refine qM (vJ 0) ?_
 refine qe (zA (zB ?_))
 have y := Gadd.pins t.pins B
 have j := hpk.ob.read
 refine yU (S := fun wz => Pins G wz ∧ BxR wz p [L, R, B, (.map (some mm.f)), (.map (some mm.o)), (.map (some mm.c)), (.map (some mm.s)), (.map (some mm.n))] ∧ Pins (Gadd G w B) wz) (last := 16) (by kernel_rfl) rfl ?_
 have m : Below w.heap.size w w.drew := (Below.refl _ _).drew
 have x := t.pins.below m
 have ag : w.drew.drawn = w.drawn + 1 := rfl
 have d := t.step x m
 have g := hpk.below m x
 have h := y.below m
 refine dT (i := 0) rfl rfl (by kernel_rfl) (fun _ hS => zO (u := (.pointer (some ⟨p, 0, none⟩))) ag61 rfl (hS.1 _ _ _ (hbx 0 _ rfl))) ⟨d.pins, g.bx.reads, h⟩ ?_
 refine dT (i := 1) rfl rfl (by kernel_rfl) (fun _ _ => xF rfl) ⟨d.pins, g.bx.reads, h⟩ ?_
 refine dT (i := 2) rfl rfl (by kernel_rfl) (fun _ _ => zN (k := 2) rfl Tryz.underlying72 rfl nz65 rfl) ⟨d.pins, g.bx.reads, h⟩ ?_
 refine dT (i := 3) rfl rfl (by kernel_rfl) (fun _ hS => zO (u := B) ag65 rfl (hS.2.1 2 _ rfl)) ⟨d.pins, g.bx.reads, h⟩ ?_
 refine dT (i := 4) rfl rfl (by kernel_rfl) (fun _ _ => zU (v := (vJ a)) rfl) ⟨d.pins, g.bx.reads, h⟩ ?_
 refine dT (i := 5) rfl rfl (by kernel_rfl) (fun _ _ => zI Tryz.underlying65 sz3 (v := B) rfl rfl j (by omega) (by omega)) ⟨d.pins, g.bx.reads, h⟩ ?_
 refine dT (i := 6) rfl rfl (by kernel_rfl) (fun _ hS => zH (r := q.bs.getD (a).toNat 0) rfl ag3 (z := a) rfl j hS.2.2 (by omega) (by omega)) ⟨d.pins, g.bx.reads, h⟩ ?_
 refine dT (i := 7) rfl rfl (by kernel_rfl) (fun _ hS => zO (u := (.pointer (some ⟨p, 0, none⟩))) ag61 rfl (hS.1 _ _ _ (hbx 0 _ rfl))) ⟨d.pins, g.bx.reads, h⟩ ?_
 refine dT (i := 8) rfl rfl (by kernel_rfl) (fun _ _ => xF rfl) ⟨d.pins, g.bx.reads, h⟩ ?_
 refine dT (i := 9) rfl rfl (by kernel_rfl) (fun _ _ => zN (k := 2) rfl Tryz.underlying72 rfl nz65 rfl) ⟨d.pins, g.bx.reads, h⟩ ?_
 refine dT (i := 10) rfl rfl (by kernel_rfl) (fun _ hS => zO (u := B) ag65 rfl (hS.2.1 2 _ rfl)) ⟨d.pins, g.bx.reads, h⟩ ?_
 refine dT (i := 11) rfl rfl (by kernel_rfl) (fun _ _ => zU (v := (vJ b)) rfl) ⟨d.pins, g.bx.reads, h⟩ ?_
 refine dT (i := 12) rfl rfl (by kernel_rfl) (fun _ _ => zI Tryz.underlying65 sz3 (v := B) rfl rfl j (by omega) (by omega)) ⟨d.pins, g.bx.reads, h⟩ ?_
 refine dT (i := 13) rfl rfl (by kernel_rfl) (fun _ hS => zH (r := q.bs.getD (b).toNat 0) rfl ag3 (z := b) rfl j hS.2.2 (by omega) (by omega)) ⟨d.pins, g.bx.reads, h⟩ ?_
 refine dO (i := 14) (zR (i := 14) rfl rfl rfl (zD rfl _) (zL (vs := [(vJ (q.bs.getD (a).toNat 0)), (vJ (q.bs.getD (b).toNat 0))]) Tryz.func97 nm97 rfl rfl rfl ?_))
 refine Calls.mono (cmpCompare_spec d.pins) ?_
 rintro _ _ ⟨rfl, rfl⟩
 refine ⟨_, rfl, ?_⟩
 refine ⟨fun _ => ⟨d.pins, g.bx.reads, h⟩, ?_⟩
 refine dT (i := 15) rfl rfl (by kernel_rfl) (fun _ _ => r_assign (v := (vJ (cmpI (q.bs.getD (a).toNat 0) (q.bs.getD (b).toNat 0)))) rfl) ⟨d.pins, g.bx.reads, h⟩ ?_
 refine yK (by kernel_rfl) ?_
 refine zA ?_
 refine wp_ret ?_
 refine zT ?_
 refine zP (v := (vJ (cmpI (q.bs.getD (a).toNat 0) (q.bs.getD (b).toNat 0)))) rfl rfl rfl ?_
 exact ⟨rfl, grow_of d.below (by omega)⟩

theorem cmpE_spec {w : World} {G : Pin} {x y : Ent} (hP : Pins G w) (hx : EntOk G x) (hy : EntOk G y) :
  Calls Tryz.prog 119 [(.agg [(vJ x.id), x.l, x.r].toArray), (.agg [(vJ y.id), y.l, y.r].toArray)].toArray w fun e w' => e = .returned (vJ (orL [cmpL x.nd.l y.nd.l, cmpL x.nd.r y.nd.r])) ∧ ∃ n os, w' = Go.Sort.grow (w.drewN n) os := by
 refine zZ (n := 21) Tryz.func119 Tryz.ntmps119 rfl rfl ?_
 have g : Ext noS G w G w := Ext.refl hP
 refine zB (zC ?_)
 refine qI rfl (o_boxd [(vJ x.id), x.l, x.r] (v := (.agg [(vJ x.id), x.l, x.r].toArray)) rfl rfl g.pins (fun b1 w2 aw ax ab ac ad => ?_))
 have ae := g.step ac ad
 have af : w.heap.size ≤ b1 := by have := g.size; omega
 obtain ⟨ay, d, h, j, az⟩ := ab.shut ae af
 refine qI rfl (o_boxd [(vJ y.id), y.l, y.r] (v := (.agg [(vJ y.id), y.l, y.r].toArray)) rfl rfl h.pins (fun ag c a0 a1 ah ai aj => ?_))
 have ak := h.step ai aj
 have al : w.heap.size ≤ ag := by have := h.size; omega
 obtain ⟨m, b, o, p, a2⟩ := ah.shut ak al
 refine qM (vJ 0) ?_
 refine qe (zA (zB ?_))
 refine yU (S := fun wz => Pins m wz) (last := 17) (by kernel_rfl) rfl ?_
 have q : Below c.heap.size c c.drew := (Below.refl _ _).drew
 have am := o.pins.below q
 have a3 : c.drew.drawn = c.drawn + 1 := rfl
 have a := o.step am q
 refine dT (i := 0) rfl rfl (by kernel_rfl) (fun _ _ => zN (k := 1) rfl Tryz.underlying124 rfl nz99 rfl) a.pins ?_
 refine dT (i := 1) rfl rfl (by kernel_rfl) (fun _ _ => zN (k := 1) rfl Tryz.underlying99 rfl nz65 rfl) a.pins ?_
 refine dT (i := 2) rfl rfl (by kernel_rfl) (fun _ hS => zO (u := x.l) ag65 rfl ((Pins.of_le hS b) _ _ _ (j 1 _ rfl))) a.pins ?_
 refine dT (i := 3) rfl rfl (by kernel_rfl) (fun _ _ => zN (k := 1) rfl Tryz.underlying124 rfl nz99 rfl) a.pins ?_
 refine dT (i := 4) rfl rfl (by kernel_rfl) (fun _ _ => zN (k := 1) rfl Tryz.underlying99 rfl nz65 rfl) a.pins ?_
 refine dT (i := 5) rfl rfl (by kernel_rfl) (fun _ hS => zO (u := y.l) ag65 rfl (hS _ _ _ (p 1 _ rfl))) a.pins ?_
 refine dT (i := 7) rfl rfl (by kernel_rfl) (fun _ _ => zN (k := 1) rfl Tryz.underlying124 rfl nz99 rfl) a.pins ?_
 refine dT (i := 8) rfl rfl (by kernel_rfl) (fun _ _ => zN (k := 2) rfl Tryz.underlying99 rfl nz65 rfl) a.pins ?_
 refine dT (i := 9) rfl rfl (by kernel_rfl) (fun _ hS => zO (u := x.r) ag65 rfl ((Pins.of_le hS b) _ _ _ (j 2 _ rfl))) a.pins ?_
 refine dT (i := 10) rfl rfl (by kernel_rfl) (fun _ _ => zN (k := 1) rfl Tryz.underlying124 rfl nz99 rfl) a.pins ?_
 refine dT (i := 11) rfl rfl (by kernel_rfl) (fun _ _ => zN (k := 2) rfl Tryz.underlying99 rfl nz65 rfl) a.pins ?_
 refine dT (i := 12) rfl rfl (by kernel_rfl) (fun _ hS => zO (u := y.r) ag65 rfl (hS _ _ _ (p 2 _ rfl))) a.pins ?_
 refine dO (i := 6) (zR (i := 6) rfl rfl rfl (zD rfl _) (zL (vs := [x.l, y.l]) Tryz.func98 nm98 rfl rfl rfl ?_))
 refine Calls.mono (slCompare_spec a.pins (hx.1.mono (Pin.le_trans d b)) (hy.1.mono (Pin.le_trans d b))) ?_
 rintro _ _ ⟨rfl, rfl⟩
 refine ⟨_, rfl, ?_⟩
 refine ⟨fun _ => a.pins, ?_⟩
 refine dO (i := 13) (zR (i := 13) rfl rfl rfl (zD rfl _) (zL (vs := [x.r, y.r]) Tryz.func98 nm98 rfl rfl rfl ?_))
 refine Calls.mono (slCompare_spec a.pins (hx.2.1.mono (Pin.le_trans d b)) (hy.2.1.mono (Pin.le_trans d b))) ?_
 rintro _ _ ⟨rfl, rfl⟩
 refine ⟨_, rfl, ?_⟩
 refine ⟨fun _ => a.pins, ?_⟩
 refine dO (i := 14) (zR (i := 14) rfl rfl rfl (zD rfl _) (o_buildFd (E := eInt) (e := 3) [(vJ (cmpL x.nd.l y.nd.l)), (vJ (cmpL x.nd.r y.nd.r))] [cmpL x.nd.l y.nd.l, cmpL x.nd.r y.nd.r] Tryz.underlying65 sz3 zr3 (by exact reps2 (by rfl) (by rfl)) (ones2 (by rfl) (by rfl)) rfl rfl rfl rfl (by decide) a.pins (fun s an a4 ao ap aq a5 => ?_)))
 have t := a.step ap aq
 have ar : Own eInt 3 m an w.heap.size s ([cmpL x.nd.l y.nd.l, cmpL x.nd.r y.nd.r]) := ao.weaken a.size
 refine ⟨fun _ => t.pins, ?_⟩
 obtain ⟨a6, z, f, au, a7⟩ := ar.sealed t
 refine dO (i := 15) (zR (i := 15) rfl rfl rfl (zD rfl _) (zL (vs := [s]) Tryz.func96 nm96 rfl rfl rfl ?_))
 refine Calls.mono (cmpOr_spec f.pins au) ?_
 rintro _ _ ⟨rfl, rfl⟩
 refine ⟨_, rfl, ?_⟩
 refine ⟨fun _ => (Pins.of_le f.pins z), ?_⟩
 refine dM 16 (vJ (orL ([cmpL x.nd.l y.nd.l, cmpL x.nd.r y.nd.r]))) (Pins.of_le f.pins z) ?_
 refine yK (by kernel_rfl) ?_
 refine zA ?_
 refine wp_ret ?_
 refine zT ?_
 refine zP (v := (vJ (orL ([cmpL x.nd.l y.nd.l, cmpL x.nd.r y.nd.r])))) rfl rfl rfl ?_
 exact ⟨rfl, grow_of f.below (by omega)⟩

theorem sortB_spec {w : World} {G : Pin} {p : Nat} {L R B : Value} {mm : PM} {q : PSt} (hP : Pins G w) (hpk : Pk 65 3 G w p L R B mm q) (hok : PoolOk q) {bx base : Nat} (hbx : BxP G bx [.pointer (some ⟨p, 0, none⟩)]) {v : Value} {zs : List Int} (hv : Own eInt 3 G w base v zs) (hz : ∀ z ∈ zs, PlaceOk q z) (hnp : NP p L R B mm v.ownBlock) (hl : zs.length ≤ 1048576) :
  Calls Tryz.prog 115 [v, (.func (.func 116) #[] #[(.pointer (some ⟨bx, 0, none⟩))])].toArray w fun en w' => ∃ ys : List Int, en = .returned (.tuple #[]) ∧ Own eInt 3 G w' base v ys ∧ ys.Perm zs ∧ (∀ i j, i < j → j < ys.length → bn q (ys.getD i 0) ≤ bn q (ys.getD j 0)) ∧ Ext (inO v.ownBlock) G w G w' := by
 have hnone : ∀ a cap, v = .slice a 0 cap → zs = [] → Calls Tryz.prog 115 [v, (.func (.func 116) #[] #[(.pointer (some ⟨bx, 0, none⟩))])].toArray w fun en w' => ∃ ys : List Int, en = .returned (.tuple #[]) ∧ Own eInt 3 G w' base v ys ∧ ys.Perm zs ∧ (∀ i j, i < j → j < ys.length → bn q (ys.getD i 0) ≤ bn q (ys.getD j 0)) ∧ Ext (inO v.ownBlock) G w G w' := by
  rintro a cap rfl rfl
  refine (Tryz.slices_SortFunc_none (α := Int) a cap _ w).mono ?_
  rintro en w' ⟨rfl, rfl⟩
  exact ⟨[], rfl, hv, List.Perm.refl _, fun i j _ hj => absurd hj (Nat.not_lt_zero j), Ext.refl hP⟩
 rcases own_cases hv with ⟨l, o⟩ | ⟨g, cap, hvg⟩
 ·exact hnone _ _ l o
 by_cases h0 : zs.length = 0
 ·exact hnone _ _ (by rw [hvg, h0]) (List.eq_nil_of_length_eq_zero h0)
 subst hvg
 letI : Inhabited (Plc q) := ⟨⟨zs.getD 0 0, hz _ (yN (by omega))⟩⟩
 obtain ⟨_, r, u, s⟩ := own_holds hv
 obtain ⟨d, hd⟩ : ∃ d, d = (plcs q zs hz).toArray := ⟨_, rfl⟩
 have hdm : d.map (·.1) = zs.toArray := by rw [hd]; simp only [List.map_toArray]; rw [plcs_val hz]
 have hds : d.size = zs.length := by have := congrArg Array.size hdm; simpa using this
 have hH : Go.Sort.Holds (fun x : Plc q => Value.int .i64 x.1) w g 0 d := holds_map (enc' := Value.int .i64) (f := fun x : Plc q => x.1) (fun _ => rfl) (by rw [hdm]; exact s)
 have hcmp : Go.Proofs.CmpLays1 Tryz.prog 116 #[(.pointer (some ⟨bx, 0, none⟩))] (fun x : Plc q => Value.int .i64 x.1) (cfB q) g 0 d.size w := fun m os dk hs x y => by
  have hgr : w.grownBy (Go.Proofs.sortWorld (fun x : Plc q => Value.int .i64 x.1) w g 0 m dk os) (some g) := by
   unfold Go.Proofs.sortWorld
   rw [putRow_map (enc := fun x : Plc q => Value.int .i64 x.1) (enc' := id) (f := fun x : Plc q => Value.int .i64 x.1) (fun _ => rfl)]
   exact grownBy_put
  have hx := Ext.one (hP.grown hgr (fun k hk => by cases hk; exact hv.free g rfl)) hgr
  exact cmpB_spec hx.pins (hpk.extS hx fun k hk hs => hnp k hs hk) hok hbx x.2 y.2
 have hcon := Tryz.slices_SortFunc (fun x : Plc q => Value.int .i64 x.1) (fun _ => rfl) (cfB q) (swoB q) 116 #[(.pointer (some ⟨bx, 0, none⟩))] g 0 cap d w (Go.Proofs.enters_of Tryz.func116 (by kernel_rfl) rfl) hcmp hH r (by omega)
 rw [hds] at hcon
 refine hcon.mono ?_
 rintro en w' ⟨rfl, d', n, os, hp, hs, hw⟩
 rw [← hds] at hp hs
 obtain ⟨hsz, hpl⟩ := perm_list hp
 have hyl : (d'.map (·.1)).toList.length = zs.length := by simp [hsz, hds]
 obtain ⟨a, b, c⟩ := own_put (w' := w') (ys := (d'.map (·.1)).toList) (d := d'.map (·.1)) (os := os) (m := n) hv hP (by rw [hw]; unfold Go.Proofs.sortWorld; rw [putRow_map (enc := fun x : Plc q => Value.int .i64 x.1) (enc' := Value.int .i64) (f := fun x : Plc q => x.1) (fun _ => rfl)]) (by simp [hsz, hds]) (List.take_length ..)
 rw [hyl] at a
 refine ⟨_, rfl, a, ?_, fun i j hij hj => ?_, Ext.one b c⟩
 ·have e := hpl.map (·.1)
  have t : d.toList.map (·.1) = zs := by rw [hd]; exact plcs_val hz
  rw [t] at e; simpa using e
 ·rw [hyl] at hj
  have e := hs i j (Nat.zero_le _) hij (by omega)
  rw [ltB] at e
  have h : ∀ i, i < zs.length → (d'.map (·.1)).toList.getD i 0 = (d'[i]!).1 := fun i hi => by
   rw [getElem!_pos d' i (by omega)]
   simp [List.getD, show i < d'.size by omega]
  rw [h i (by omega), h j hj]
  have := of_decide_eq_false e
  omega

theorem sortE_spec {w : World} {G : Pin} {base lo hi : Nat} {v : Value} {es : List Ent} {LV : List Leaf} (hP : Pins G w) (hv : Own eEnt 124 G w base v es) (hL : Lvs 3 G w lo hi LV) (hm : ∀ x ∈ es, (x.l, x.nd.l) ∈ LV ∧ (x.r, x.nd.r) ∈ LV) (hap : ApL LV v.ownBlock) (hl : es.length ≤ 1048576) :
  Calls Tryz.prog 118 [v, (.func (.func 119) #[] #[])].toArray w fun en w' => ∃ ys : List Ent, en = .returned (.tuple #[]) ∧ Own eEnt 124 G w' base v ys ∧ ys.Perm es ∧ (∀ i j, i < j → j < ys.length → ¬ aheadI (ys.getD j default).nd (ys.getD i default).nd < 0) ∧ Ext (inO v.ownBlock) G w G w' := by
 have hnone : ∀ a cap, v = .slice a 0 cap → es = [] → Calls Tryz.prog 118 [v, (.func (.func 119) #[] #[])].toArray w fun en w' => ∃ ys : List Ent, en = .returned (.tuple #[]) ∧ Own eEnt 124 G w' base v ys ∧ ys.Perm es ∧ (∀ i j, i < j → j < ys.length → ¬ aheadI (ys.getD j default).nd (ys.getD i default).nd < 0) ∧ Ext (inO v.ownBlock) G w G w' := by
  rintro a cap rfl rfl
  refine (Tryz.slices_SortFunc_ent_none (α := Int) a cap _ w).mono ?_
  rintro en w' ⟨rfl, rfl⟩
  exact ⟨[], rfl, hv, List.Perm.refl _, fun i j _ hj => absurd hj (Nat.not_lt_zero j), Ext.refl hP⟩
 rcases own_casesF hv with ⟨q, s⟩ | ⟨g, cap, hvg⟩
 ·exact hnone _ _ q s
 by_cases h0 : es.length = 0
 ·exact hnone _ _ (by rw [hvg, h0]) (List.eq_nil_of_length_eq_zero h0)
 subst hvg
 have hz : ∀ x ∈ es, EntOk (GLv G w LV) x := fun x hx => ⟨hL.read (hm x hx).1, hL.read (hm x hx).2, (hL.own _ (hm x hx).1).one, (hL.own _ (hm x hx).2).one⟩
 letI : Inhabited (EntS (GLv G w LV)) := ⟨⟨es.getD 0 default, hz _ (yN (by omega))⟩⟩
 obtain ⟨_, t, cells, hcl, hr, z⟩ := own_cellsF hv
 obtain ⟨d, hd⟩ : ∃ d, d = (ents (GLv G w LV) es hz).toArray := ⟨_, rfl⟩
 have hdm : d.toList.map (·.1) = es := by rw [hd]; exact ents_val hz
 have hds : d.size = es.length := by have := congrArg List.length hdm; simpa using this
 have hdi : ∀ i, i < d.size → (d[i]!).1 = es.getD i default := fun i hi => by
  rw [getElem!_pos d i hi]
  have := congrArg (fun l : List Ent => l[i]?) hdm
  simp only [List.getElem?_map, Array.getElem?_toList, Array.getElem?_eq_getElem hi, Option.map_some] at this
  simp [List.getD, ← this]
 have hflat : Go.Sort.flatK (encE (G := GLv G w LV)) 3 d = cells.toArray := flatK_cells (by rw [hds]; exact hcl) fun i hi => by
  have h4 := hr i (es.getD i default) (by simp [List.getD, show i < es.length by omega])
  have e : (cells.drop (i * 3)).take 3 = [.int .i64 (es.getD i default).id, (es.getD i default).l, (es.getD i default).r] := h4.1
  rw [e, ← hdi i hi]; rfl
 have hH : Go.Sort.HoldsK (encE (G := GLv G w LV)) 3 w g 0 d := by unfold Go.Sort.HoldsK; rw [hflat]; exact z
 have hcmp : Go.Proofs.CmpLays Tryz.prog 119 #[] (encE (G := GLv G w LV)) 3 cfE g 0 d.size w := fun m os dk hs x y => by
  have hgr : w.grownBy (Go.Proofs.sortWorldK (encE (G := GLv G w LV)) 3 w g 0 m dk os) (some g) := by
   unfold Go.Proofs.sortWorldK Go.Sort.putRowK
   exact grownBy_put
  have hpp : Pins (GLv G w LV) (Go.Proofs.sortWorldK (encE (G := GLv G w LV)) 3 w g 0 m dk os) := (GLv.pins hP).grown hgr fun k hk o u hG => by
   cases hk
   rcases hG with hG | ⟨⟨p, hp, hpo⟩, _⟩
   ·exact hv.free g rfl o u hG
   ·exact hap p hp g hpo rfl
  exact cmpE_spec hpp x.2 y.2
 have hcon := Tryz.slices_SortFunc_ent 3 (Go.GL.run_isAgg (by kernel_rfl)) (Go.GL.run_sizeOf (by kernel_rfl)) (encE (G := GLv G w LV)) (fun _ => rfl) (fun x u hu => by
  simp only [encE, List.mem_cons, List.not_mem_nil, or_false] at hu
  rcases hu with rfl | rfl | rfl
  ·rfl
  ·exact x.2.2.2.1
  ·exact x.2.2.2.2) cfE (swoE _) 119 #[] g 0 cap d w (Go.Proofs.enters_of Tryz.func119 (by kernel_rfl) rfl) hcmp hH t (by omega)
 rw [hds] at hcon
 refine hcon.mono ?_
 rintro en w' ⟨rfl, d', n, os, hp, hs, hw⟩
 rw [← hds] at hp hs
 obtain ⟨hsz, hpl⟩ := perm_list hp
 have hyl : (d'.toList.map (·.1)).length = es.length := by simp [hsz, hds]
 have f : ∀ i, i < es.length → (d'.toList.map (·.1)).getD i default = (d'[i]!).1 := fun i hi => by
  rw [getElem!_pos d' i (by omega)]
  simp [List.getD, show i < d'.size by omega]
 obtain ⟨a, b, c⟩ := own_putF (ys := d'.toList.map (·.1)) (F := Go.Sort.flatK (encE (G := GLv G w LV)) 3 d') (os := os) (m := n) hv hP hw (by rw [Go.Sort.size_flatK, hsz, hds]; rfl) hyl (fun i y hy => by
  have hi : i < es.length := by have := (List.getElem?_eq_some_iff.1 hy).1; omega
  have e1 := f i hi
  have e0 : (d'.toList.map (·.1)).getD i default = y := by rw [List.getD_eq_getElem?_getD, hy]; rfl
  have h : y = (d'[i]!).1 := e0.symm.trans e1
  have e := chunkK (enc := encE (G := GLv G w LV)) (k := 3) (fun _ => rfl) (d := d') (i := i) (by omega)
  refine ⟨e.trans ?_, ?_, ?_⟩
  ·rw [h]; rfl
  ·rw [h]; exact (d'[i]!).2.2.2.1
  ·rw [h]; exact (d'[i]!).2.2.2.2)
 refine ⟨_, rfl, a, ?_, fun i j hij hj => ?_, Ext.one b c⟩
 ·have e := hpl.map (·.1)
  rw [hdm] at e; exact e
 ·rw [hyl] at hj
  have e := hs i j (Nat.zero_le _) hij (by omega)
  rw [ltE] at e
  rw [f i (by omega), f j hj]
  exact of_decide_eq_false e

end SO1
end Go.Proofs.YtfnginkcmcfdfaaGreatDoor

set_option maxRecDepth 20000
set_option maxHeartbeats 2000000
namespace Go.Proofs.YtfnginkcmcfdfaaGreatDoor
namespace OD1
open Go.RowKit Go.GL Go.Proofs
open Go.Proofs.YtfnginkcmcfdfaaGreatDoor.B1
open Go.Proofs.YtfnginkcmcfdfaaGreatDoor.PO1
open Go.Proofs.YtfnginkcmcfdfaaGreatDoor.PA1
open Go.Proofs.YtfnginkcmcfdfaaGreatDoor.SO1








theorem mk3 : (Tryz.prog.info? 3).map (fun i => (i.size, i.bytes, i.zero)) = some (1, 8, some (.int .i64 0)) := by kernel_rfl
theorem mk99 : (Tryz.prog.info? 99).map (fun i => (i.size, i.bytes, i.zero)) = some (2, 48, some (.agg #[(.slice none 0 0), (.slice none 0 0)])) := by kernel_rfl









theorem pl124 : (Tryz.prog.underlying 124).bind (placesD Tryz.prog) = some [(0, 1), (1, 2)] := by kernel_rfl
theorem pl99 : (Tryz.prog.underlying 99).bind (placesD Tryz.prog) = some [(0, 1), (1, 1)] := by kernel_rfl







theorem ranked_spec {w : World} {G : Pin} {v : Value} {xs : List Int} {m : Nat} {rk : List (Int × Int)} (hP : Pins G w) (hv : RSl eInt G v xs) (hmp : Mp (fun k : Int => Value.int .i64 k) (fun v : Int => Value.int .i64 v) w m rk) (hs : xs.length ≤ 1048576) :
  Calls Tryz.prog 117 [v, (.map (some m))].toArray w fun e w' => ∃ (u : Value) (G' : Pin), e = .returned u ∧ Own eInt 3 G' w' w.heap.size u (sortM (xs.map (rkI rk))) ∧ Ext noS G w G' w' := by
 refine zZ (n := 28) Tryz.func117 Tryz.ntmps117 rfl rfl ?_
 have d : Ext noS G w G w := Ext.refl hP
 have hm := hv.max
 have hal : (xs.map (rkI rk)).length = xs.length := List.length_map ..
 have hrl : (List.replicate xs.length (0 : Int)).length = xs.length := List.length_replicate
 refine zB (zC ?_)
 refine qM (.slice none 0 0) ?_
 refine qe (zA (zB (zC ?_)))
 refine qM v ?_
 refine qD rfl (zM Tryz.underlying65 (v := v) rfl hv) ?_
 refine qI rfl (o_make (E := eInt) 0 8 (vJ 0) Tryz.underlying65 mk3 (fun _ => rfl) rfl rfl d.pins (by omega) (by omega) (by omega) (fun a o q s g ai => ?_))
 have t := d.step s g
 have x := hmp.below g
 have y : Own eInt 3 G o w.heap.size a (List.replicate xs.length 0) := q.weaken d.size
 have aj : (List.replicate xs.length 0).length = xs.length := List.length_replicate ..
 refine qM a ?_
 refine qe (zA (zB (zB (zC ?_))))
 refine qM v ?_
 refine qD rfl (zM Tryz.underlying65 (v := v) rfl hv) ?_
 refine qM (vJ 0) ?_
 refine qe (zA ?_)
 refine zW ?_
 refine yL (fun (k : Nat) (en : Nat → Value) (W : World) => ∃ (h : Nat → Value) (j : Nat) (os : List Int), en = (upd (upd (upd (upd (upd (upd h 1 (.map (some m))) 4 (.slice none 0 0)) 5 a) 11 v) 12 (vJ (xs.length : Int))) 13 (vJ (j : Int))) ∧ k = xs.length - j ∧ Ext noS G w G W ∧ (j ≤ xs.length) ∧ (os = (xs.map (rkI rk)).take j ++ (List.replicate xs.length 0).drop j) ∧ (os.length = xs.length) ∧ (Own eInt 3 G W w.heap.size a (os)) ∧ (Mp (fun k : Int => Value.int .i64 k) (fun v : Int => Value.int .i64 v) W m (rk))) _ ⟨_, 0, List.replicate xs.length 0, (pS 13 (pS 12 (pS 11 (pS 5 (pS 4 (pU 1)))))), rfl, t, Nat.zero_le _, rfl, hrl, y, x⟩ ?_
 rintro ak _ al ⟨h, j, os, rfl, am, c, hj, hr, hol, b, f⟩
 refine zB (zC ?_)
 refine qD rfl (yM rfl rfl) ?_
 refine qe (zA (zB ?_))
 refine yD (p := ((j : Int) : Int) < (xs.length : Int)) rfl rfl (fun aa => ?_) (fun aa => ?_)
 ·skip
  refine wp_skip ?_
  refine zA (zB ?_)
  refine zW ?_
  refine zB (zC ?_)
  refine qM (vJ (j : Int)) ?_
  refine qD rfl (zI Tryz.underlying65 sz3 (v := v) rfl rfl hv (by omega) (by omega)) ?_
  refine qD rfl (zH (r := xs.getD j 0) rfl ag3 (z := (j : Int)) rfl hv c.pins (by omega) (by omega)) ?_
  refine qM (vJ (j : Int)) ?_
  refine qM (vJ (xs.getD j 0)) ?_
  refine qe (zA (zC ?_))
  refine qM a ?_
  refine qM (vJ (j : Int)) ?_
  refine qM (.map (some m)) ?_
  refine qM (vJ (xs.getD j 0)) ?_
  refine qD rfl (run_look1_int (k := (xs.getD j 0)) (key_int Tryz.underlying3) Tryz.underlying69 zr3 f rfl rfl) ?_
  refine qD rfl (zI Tryz.underlying65 sz3 (v := a) rfl rfl b.read (by omega) (by omega)) ?_
  refine q0 rfl rfl rfl (o_set (E := eInt) (v := a) (u := (vJ ((Go.GL.look rk (xs.getD j 0)).getD 0))) (z := (j : Int)) ((Go.GL.look rk (xs.getD j 0)).getD 0) sz3 rfl rfl rfl rfl c.pins b (by omega) (by omega) (fun an ab ac l ao => ?_))
  have ad := c.write ac l ((yC b))
  have ae := f.kept l (yF f b)
  refine qe ?_
  refine yH ?_
  refine zA (zC ?_)
  refine qD rfl (yP rfl rfl (by omega)) ?_
  refine qM (vJ ((j : Int) + 1)) ?_
  refine qe ?_
  refine yG ?_
  refine ⟨_, ?_, _, rfl, _, j + 1, (os).set j ((Go.GL.look rk (xs.getD j 0)).getD 0), (pS 13 (pS 12 (pS 11 (pS 5 (pS 4 (pU 1)))))), rfl, ad, (by omega), (by rw [hr]; exact cur_set 0 (by omega) (by omega) (rk_getD (by omega))), ((List.length_set ..).trans hol), ab, ae⟩
  omega
 refine wp_exit ?_
 refine zX ?_
 refine yJ ?_
 refine yI ?_
 refine zA (zB (zC ?_))
 refine qM a ?_
 refine qI rfl (zL (vs := [a]) Tryz.func152 nm152 rfl rfl rfl ?_)
 refine Calls.mono (sortI_spec c.pins b (by omega)) ?_
 rintro _ ap ⟨aq, rfl, af, ag⟩
 refine ⟨_, rfl, ?_⟩
 have ah := c.trans ag (fun i hi => (yC b) i hi)
 have ar := sortM_length os
 refine qe (zA (zB (zC ?_)))
 refine qM a ?_
 refine qM a ?_
 refine qe (zA ?_)
 refine wp_ret ?_
 refine zT ?_
 refine zP (v := a) rfl rfl rfl ?_
 rw [cur_end (by omega) (by omega)] at hr
 exact ⟨_, _, rfl, (by rw [← hr]; exact af), ah⟩

theorem order_spec {w : World} {G : Pin} {p : Nat} {L R B : Value} {mm : PM} {q : PSt} (hP : Pins G w) (hpk : Pk 65 3 G w p L R B mm q) (hok : PoolOk q) {x : Value} {xs : List Int} (hx : RSl eInt G x xs) (hr : ∀ i, i < xs.length → PlaceOk q (xs.getD i 0)) (hxl : xs.length ≤ 1048576) :
  Calls Tryz.prog 66 [(.pointer (some ⟨p, 0, none⟩)), x].toArray w fun e w' => ∃ (u v : Value) (ls : List Int) (ns : List Nd) (zs : List Int) (G' : Pin), e = .returned (.tuple #[u, v]) ∧ Own eInt 3 G' w' w.heap.size u ls ∧ DForm 99 3 G' w' w.heap.size w'.heap.size v ns ∧ OrI q zs ls ls.length ns ∧ PtOk q xs zs zs.length ∧ Ext noS G w G' w' := by
 refine zZ (n := 122) Tryz.func66 Tryz.ntmps66 rfl rfl ?_
 have c0 : Ext noS G w G w := Ext.refl hP
 have hpin : PIn w (inP p L R B mm) p L R B mm := PIn.self
 have ky : (q.ns.map Nd.l).length = q.ns.length ∧ (q.ns.map Nd.r).length = q.ns.length := ⟨List.length_map .., List.length_map ..⟩
 have kz : q.bs.length = q.ns.length ∧ q.ns.length ≤ 1048576 := ⟨hok.ar.ok.len, hok.ar.ok.lim⟩
 have d6 : Lvs 3 G w w.heap.size w.heap.size [] := Lvs.nil
 have hm := hx.max
 refine zB (zC ?_)
 refine qI rfl (xM [(.pointer (some ⟨p, 0, none⟩))] (v := (.pointer (some ⟨p, 0, none⟩))) rfl rfl c0.pins (fun b3 w4 d7 gh d8 c1 => ?_))
 have gi := c0.step d8 c1
 have gj := (d6.below c1).top
 have gk := hpk.below c1 d8
 have gl : ApL [] (some b3) := ApL.fresh d6 (fun k hk => by rw [(congrArg some d7)] at hk; cases hk; exact Nat.le_refl _)
 have gm := hpk.new (x := (some b3)) (fun k hk => by rw [(congrArg some d7)] at hk; cases hk; exact Nat.le_refl _)
 have gp : w.heap.size ≤ b3 := by have := c0.size; omega
 obtain ⟨k1, c2, cd, be, d9⟩ := gh.shut gi gp
 have ea := gj.more c2 d9 gl
 have c3 := gk.more c2 d9 gm
 refine qM (.slice none 0 0) ?_
 refine qM (.slice none 0 0) ?_
 refine qe (zA (zB (zC ?_)))
 refine qD rfl (zO (u := (.pointer (some ⟨p, 0, none⟩))) ag61 rfl (cd.pins _ _ _ (be 0 _ rfl))) ?_
 refine qM x ?_
 refine qI rfl (zL (vs := [(.pointer (some ⟨p, 0, none⟩)), x]) Tryz.func103 nm103 rfl rfl rfl ?_)
 refine Calls.mono (parts_spec cd.pins c3 hok (hx.mono c2) hr hxl) ?_
 rintro _ gq ⟨d, c4, ce, rfl, c5, a4, a0⟩
 refine ⟨_, rfl, ?_⟩
 have eb := cd.tr a0
 have gr := (ea.ext a0).top
 have ec := c3.ext a0
 have ed : ApL [] d.ownBlock := ApL.fresh ea (fun k hk => (c5.lt k hk).1)
 have c6 := c3.new (x := d.ownBlock) (fun k hk => (c5.lt k hk).1)
 have ee : Own eInt 3 ce gq w.heap.size d c4 := c5.weaken cd.size
 have k2 := a4.len
 refine qM d ?_
 refine qe (zA (zB (zC ?_)))
 refine qM d ?_
 refine qD rfl (r_makeFunc [(.pointer (some ⟨b3, 0, none⟩))] rfl) ?_
 refine qI rfl (zL (vs := [d, (.func (.func 116) #[] #[(.pointer (some ⟨b3, 0, none⟩))])]) Tryz.func115 nm115 rfl rfl rfl ?_)
 refine Calls.mono (sortB_spec eb.pins ec hok (be.mono a0.le) ee a4.pl c6 (by omega)) ?_
 rintro _ k3 ⟨gt, rfl, gu, ef, gw, c7⟩
 refine ⟨_, rfl, ?_⟩
 have c8 := eb.trans c7 (fun i hi => (yC ee) i hi)
 have gx := Lvs.turned gr c7 ed
 have eg := ec.extS c7 (fun k hk hx => c6 k hx hk)
 have k4 := ef.length_eq
 refine qe (zA (zB (zC ?_)))
 refine qI rfl (o_makeMap (fun k : Int => Value.int .i64 k) (fun v : Int => Value.int .i64 v) c8.pins (fun ak k5 k6 gy eh cf => ?_))
 have c9 := c8.step eh cf
 have da := gu.below cf
 have ei := (gx.below cf).top
 have ej := eg.below cf eh
 have gz := eg.new (x := some ak) (fun k hk => by cases hk; omega)
 have g0 : w.heap.size ≤ ak := by have := c8.size; omega
 refine qM (.map (some ak)) ?_
 refine qe (zA (zB (zC ?_)))
 refine qM d ?_
 refine qD rfl (zM Tryz.underlying65 (v := d) rfl da.read) ?_
 refine qI rfl (o_make0 (E := eVal2) Tryz.underlying30 mk99 rfl rfl c9.pins (by omega) (by omega) (by omega) (fun bf g1 g2 ek bt db => ?_))
 have g3 := c9.step ek bt
 have g4 := da.below bt
 have g5 := (ei.below bt).top
 have g6 := gy.below bt
 have g7 := ej.below bt ek
 have g8 : Apart bf.ownBlock d.ownBlock := zG db da.lt
 have g9 : ApL [] bf.ownBlock := ApL.fresh ei (fun k hk => by rw [db] at hk; cases hk; exact Nat.le_refl _)
 have ha := ej.new (x := bf.ownBlock) (fun k hk => by rw [db] at hk; cases hk; exact Nat.le_refl _)
 have hb : Own eVal2 99 ce g1 w.heap.size bf ([]) := g2.weaken c9.size
 refine qM bf ?_
 refine qe (zA (zB (zB (zC ?_))))
 refine qM (vJ 0) ?_
 refine qe (zA ?_)
 refine zW ?_
 refine yL (fun (k : Nat) (en : Nat → Value) (W : World) => ∃ (al : Nat → Value) (n : Nat) (nv : Value) (done : List Ent) (ps : List (Value × Value)) (rk : List (Int × Int)) (LV : List Leaf) (ls : List Int) (am : Pin), en = (upd (upd (upd (upd (upd (upd (upd al 2 (.pointer (some ⟨b3, 0, none⟩))) 4 (.slice none 0 0)) 5 (.slice none 0 0)) 6 d) 7 (.map (some ak))) 8 nv) 9 (vJ (n : Int))) ∧ k = ls.length - n ∧ Ext noS G w am W ∧ Pin.le ce am ∧ (OrI q c4 ls n (done.map Ent.nd)) ∧ (RkOk ls n rk) ∧ (LV.Perm (lvE done)) ∧ (ps = done.map Ent.pr) ∧ (Own eInt 3 am W w.heap.size d (ls)) ∧ (Own eVal2 99 am W w.heap.size nv (ps)) ∧ (Apart d.ownBlock nv.ownBlock) ∧ (Lvs 3 am W w.heap.size W.heap.size LV) ∧ (ApL LV d.ownBlock) ∧ (ApL LV nv.ownBlock) ∧ (Mp (fun k : Int => Value.int .i64 k) (fun v : Int => Value.int .i64 v) W ak (rk)) ∧ (Pk 65 3 am W p L R B mm q) ∧ (NP p L R B mm nv.ownBlock)) _ ⟨_, 0, bf, [], [], [], [], gt, ce, (pS 9 (pS 8 (pS 7 (pS 6 (pS 5 (pS 4 (pU 2))))))), rfl, g3, Pin.le_refl _, (OrI.start ef gw), (fun i hi => absurd hi (Nat.not_lt_zero i)), (List.Perm.refl _), rfl, g4, hb, g8.symm, g5, ed, g9, g6, g7, ha⟩ ?_
 rintro k7 _ k8 ⟨al, n, nv, done, ps, rk, LV, ls, am, rfl, k9, cg, bu, hor, hrk, hLV, hps, ch, dc, hc, dd, hd, el, he, em, hf⟩
 have hll := hor.perm.length_eq
 have hnl := hor.nl
 have hdl : done.length = n := by have := hor.len; simpa using this
 have hpsl : ps.length = n := by rw [hps, List.length_map]; exact hdl
 have hplk : ∀ i, i < ls.length → 0 ≤ ls.getD i 0 ∧ ls.getD i 0 < q.ns.length := fun i hi => a4.pl _ (hor.mem.1 (yN hi))
 refine zB (zB (zC ?_))
 refine qM (vJ (n : Int)) ?_
 refine qM d ?_
 refine qD rfl (zM Tryz.underlying65 (v := d) rfl ch.read) ?_
 refine qD rfl (yM rfl rfl) ?_
 refine qe (zA ?_)
 refine yD (p := ((n : Int) : Int) < (ls.length : Int)) rfl rfl (fun hg => ?_) (fun hg => ?_)
 ·skip
  have hzn := hplk n (by omega)
  refine wp_skip ?_
  refine zA ?_
  refine zW ?_
  refine zB (zC ?_)
  refine qI rfl (yY (E := eEnt) (e := 124) Tryz.underlying121 sz124 cg.pins (fun a5 hh hn eo bg ci => ?_))
  have ho := cg.step eo bg
  have hq := ch.below bg
  have hs := dc.below bg
  have ht := (dd.below bg).top
  have hu := he.below bg
  have hv := em.below bg eo
  have hw : Apart a5.ownBlock d.ownBlock := zG ci ch.lt
  have hy : Apart a5.ownBlock nv.ownBlock := zG ci dc.lt
  have hz : ApL LV a5.ownBlock := ApL.fresh dd (fun k hk => by rw [ci] at hk; cases hk; exact Nat.le_refl _)
  have h0 := em.new (x := a5.ownBlock) (fun k hk => by rw [ci] at hk; cases hk; exact Nat.le_refl _)
  have h1 : Own eEnt 124 am hh w.heap.size a5 ([]) := hn.weaken cg.size
  refine qM a5 ?_
  refine qe (zA (zB (zB (zC ?_))))
  refine qM (vJ (n : Int)) ?_
  refine qM (vJ (n : Int)) ?_
  refine qe (zA ?_)
  refine zW ?_
  refine c_cutE (fun (en : Nat → Value) (W : World) => ∃ (al : Nat → Value) (kk : Nat) (gv : Value) (gs : List Ent) (aa : List Leaf) (ab : Pin), en = (upd (upd (upd (upd (upd (upd (upd (upd (upd al 2 (.pointer (some ⟨b3, 0, none⟩))) 4 (.slice none 0 0)) 5 (.slice none 0 0)) 6 d) 7 (.map (some ak))) 8 nv) 9 (vJ (n : Int))) 10 gv) 11 (vJ (kk : Int))) ∧ Ext noS G w ab W ∧ Pin.le am ab ∧ (kk = n + gs.length) ∧ (GrI q ls n (gs.map Ent.gn)) ∧ (aa.Perm (lvE done ++ lvE gs)) ∧ (n + gs.length = ls.length ∨ bn q (ls.getD (n + gs.length) 0) ≠ bn q (ls.getD n 0)) ∧ (Own eEnt 124 ab W w.heap.size gv (gs)) ∧ (Own eInt 3 ab W w.heap.size d (ls)) ∧ (Own eVal2 99 ab W w.heap.size nv (ps)) ∧ (Apart gv.ownBlock d.ownBlock) ∧ (Apart gv.ownBlock nv.ownBlock) ∧ (Lvs 3 ab W w.heap.size W.heap.size aa) ∧ (ApL aa gv.ownBlock) ∧ (ApL aa d.ownBlock) ∧ (ApL aa nv.ownBlock) ∧ (Mp (fun k : Int => Value.int .i64 k) (fun v : Int => Value.int .i64 v) W ak (rk)) ∧ (Pk 65 3 ab W p L R B mm q) ∧ (NP p L R B mm gv.ownBlock)) 2 ?_ ?_
  ·rintro _ an ⟨al, kk, gv, gs, aa, ab, rfl, a6, ax, hkk, hgr, a7, hend, bv, cj, de, a8, a9, ck, a1, bw, bz, cl, cm, a2⟩
   have hgl := hgr.le
   rw [List.length_map] at hgl
   have la : 0 < gs.length := Nat.pos_of_ne_zero fun h => hend.elim (fun e => by omega) (fun e => by rw [h] at e; exact e rfl)
   refine yI ?_
   refine zA (zB (zC ?_))
   refine qM gv ?_
   refine qI rfl (zL (vs := [gv, (.func (.func 119) #[] #[])]) Tryz.func118 nm118 rfl rfl rfl ?_)
   refine Calls.mono (sortE_spec a6.pins bv ck (fun x hx => ⟨a7.mem_iff.2 (List.mem_append_right _ (lvE_mem hx).1), a7.mem_iff.2 (List.mem_append_right _ (lvE_mem hx).2)⟩) a1 (by omega)) ?_
   rintro _ lb ⟨y, rfl, ep, cn, h2, bh⟩
   refine ⟨_, rfl, ?_⟩
   have h3 := a6.trans bh (fun i hi => (yC bv) i hi)
   have h4 := cj.extS bh (notO a8.symm)
   have h5 := de.extS bh (notO a9.symm)
   have h6 := Lvs.turned ck bh a1
   have h7 := cl.extS bh (notOb (yF cl bv))
   have h8 := cm.extS bh (fun k hk hx => a2 k hx hk)
   have lc := cn.length_eq
   refine qe (zA (zB (zB (zC ?_))))
   refine qM gv ?_
   refine qD rfl (zM Tryz.underlying121 (v := gv) rfl ep.read) ?_
   refine qM (vJ 0) ?_
   refine qe (zA ?_)
   refine zW ?_
   have hgp : (y.map Ent.gn).Perm (gs.map Ent.gn) := cn.map _
   have eq : n + y.length ≤ ls.length := by omega
   have hRl : (regroup ls n (y.map Ent.gn)).length = ls.length := regroup_length (by rw [List.length_map]; omega)
   have hRn : (regroup ls n (y.map Ent.gn)).Nodup := (regroup_perm hgr hgp).nodup_iff.2 (hor.perm.nodup_iff.2 a4.nd)
   refine yL (fun (k : Nat) (en : Nat → Value) (W : World) => ∃ (al : Nat → Value) (j : Nat) (ao : Value) (ba : List Int) (a3 : List (Value × Value)) (b0 : List (Int × Int)) (ay : Pin), en = (upd (upd (upd (upd (upd (upd (upd (upd (upd (upd (upd al 2 (.pointer (some ⟨b3, 0, none⟩))) 4 (.slice none 0 0)) 5 (.slice none 0 0)) 6 d) 7 (.map (some ak))) 8 ao) 9 (vJ (n : Int))) 10 gv) 90 gv) 91 (vJ (y.length : Int))) 92 (vJ (j : Int))) ∧ k = y.length - j ∧ Ext noS G w ay W ∧ Pin.le ab ay ∧ (j ≤ y.length) ∧ (ba = ls.take n ++ (y.take j).map Ent.id ++ ls.drop (n + j)) ∧ (RkOk (regroup ls n (y.map Ent.gn)) (n + j) b0) ∧ (a3 = (done ++ y.take j).map Ent.pr) ∧ (Own eInt 3 ay W w.heap.size d (ba)) ∧ (Own eVal2 99 ay W w.heap.size ao (a3)) ∧ (Own eEnt 124 ay W w.heap.size gv (y)) ∧ (Apart d.ownBlock ao.ownBlock) ∧ (Apart ao.ownBlock gv.ownBlock) ∧ (Lvs 3 ay W w.heap.size W.heap.size aa) ∧ (ApL aa d.ownBlock) ∧ (ApL aa ao.ownBlock) ∧ (ApL aa gv.ownBlock) ∧ (Mp (fun k : Int => Value.int .i64 k) (fun v : Int => Value.int .i64 v) W ak (b0)) ∧ (Pk 65 3 ay W p L R B mm q) ∧ (NP p L R B mm ao.ownBlock)) _ ⟨_, 0, nv, ls, ps, rk, ab, (pS 92 (pS 91 (pS 90 (pS 10 (pS 9 (pS 8 (pS 7 (pS 6 (pS 5 (pS 4 (pU 2))))))))))), rfl, h3, Pin.le_refl _, Nat.zero_le _, (by simp), (hrk.reg eq), (by rw [List.take_zero, List.append_nil]; exact hps), h4, h5, ep, hc, a9.symm, h6, bw, bz, a1, h7, h8, hf⟩ ?_
   rintro ld _ lf ⟨al, j, ao, ba, a3, b0, ay, rfl, lg, b1, er, hj, bi, df, b2, dg, dh, b4, co, es, di, dj, dk, h9, et, dl, dm⟩
   have lh : ba.length = ls.length := by rw [bi]; simp; omega
   have hps3l : a3.length = n + j := by rw [b2]; simp; omega
   refine zB (zC ?_)
   refine qD rfl (yM rfl rfl) ?_
   refine qe (zA (zB ?_))
   refine yD (p := ((j : Int) : Int) < (y.length : Int)) rfl rfl (fun ia => ?_) (fun ia => ?_)
   ·skip
    refine wp_skip ?_
    refine zA (zB ?_)
    refine zW ?_
    refine zB (zC ?_)
    refine qM (vJ (j : Int)) ?_
    refine qD rfl (zI Tryz.underlying121 sz124 (v := gv) rfl rfl b4.read (by omega) (by omega)) ?_
    obtain ⟨li, ib, ic, lj⟩ := nm_el (j := j) default (b4.at (z := (j : Int)) (by omega) (by omega)) rfl
    obtain ⟨rfl, eu, ev⟩ := ib
    refine qD rfl (ic ag124 sz124 rfl (Gadd.pins b1.pins gv)) ?_
    refine qI rfl (xA [(vJ 0), (.slice none 0 0), (.slice none 0 0)] zr124 rfl b1.pins (fun bj lk b5 ew ex bb => ?_))
    have ey := b1.step ex bb
    have ie := dg.below bb
    have ig := dh.below bb
    have ih := b4.below bb
    have ii := (di.below bb).top
    have ez := et.below bb
    have ij := dl.below bb ex
    have e0 : Apart (some bj) d.ownBlock := zG (congrArg some b5) dg.lt
    have e1 : Apart (some bj) ao.ownBlock := zG (congrArg some b5) dh.lt
    have e2 : Apart (some bj) gv.ownBlock := zG (congrArg some b5) b4.lt
    have e3 : ApL aa (some bj) := ApL.fresh di (fun k hk => by rw [(congrArg some b5)] at hk; cases hk; exact Nat.le_refl _)
    have e4 := dl.new (x := (some bj)) (fun k hk => by rw [(congrArg some b5)] at hk; cases hk; exact Nat.le_refl _)
    have e5 : w.heap.size ≤ bj := by have := b1.size; omega
    refine qM (vJ (j : Int)) ?_
    refine q0 rfl rfl rfl (xK (cs' := [(vJ ((y.getD j default).id)), (y.getD j default).l, (y.getD j default).r]) (us := [(vJ ((y.getD j default).id)), (y.getD j default).l, (y.getD j default).r]) (v := (.agg [(vJ ((y.getD j default).id)), (y.getD j default).l, (y.getD j default).r].toArray)) sz124 rfl rfl rfl (ones3 (by rfl) eu ev) ey.pins ew (Nat.le_of_ble_eq_true rfl) rfl (fun ll ik e6 bc lm => ?_))
    have il := ey.write e6 bc ((yT e5))
    have im := ie.keptA bc e0.symm
    have io := ig.keptA bc e1.symm
    have ip := ih.keptA bc e2.symm
    have iq := (ii.kept bc e3).top
    have e7 := ez.kept bc (yZ ez ew)
    have ir := ij.kept bc e6 e4
    obtain ⟨e8, bk, dn, dp, b6⟩ := ik.shut il e5
    have cp := im.moreA bk b6 e0.symm
    have it := io.moreA bk b6 e1.symm
    have iu := ip.moreA bk b6 e2.symm
    have iv := iq.more bk b6 e3
    have iw := ir.more bk b6 e4
    refine qe (zA (zB (zC ?_)))
    refine qM d ?_
    refine qM (vJ (n : Int)) ?_
    refine qM (vJ (j : Int)) ?_
    refine qD rfl (yP rfl rfl (by omega)) ?_
    refine qD rfl (zN (k := 0) rfl Tryz.underlying124 rfl nz3 rfl) ?_
    refine qD rfl (zO (u := (vJ ((y.getD j default).id))) ag3 rfl (dn.pins _ _ _ (dp 0 _ rfl))) ?_
    refine qD rfl (zI Tryz.underlying65 sz3 (v := d) rfl rfl cp.read (by omega) (by omega)) ?_
    refine q0 rfl rfl rfl (o_set (E := eInt) (v := d) (u := (vJ ((y.getD j default).id))) (z := ((n : Int) + (j : Int))) ((y.getD j default).id) sz3 rfl rfl rfl rfl dn.pins cp (by omega) (by omega) (fun ln e9 fa bl lo => ?_))
    have dq := dn.write fa bl ((yC cp))
    have fb := it.keptA bl co.symm
    have fc := iu.keptA bl a8
    have fd := (iv.kept bl dj).top
    have b7 := e7.kept bl (yF e7 cp)
    have ix := iw.kept bl fa c6
    refine qe (zA (zB (zC ?_)))
    refine qM (.map (some ak)) ?_
    refine qD rfl (zN (k := 0) rfl Tryz.underlying124 rfl nz3 rfl) ?_
    refine qD rfl (zO (u := (vJ ((y.getD j default).id))) ag3 rfl (dq.pins _ _ _ (dp 0 _ rfl))) ?_
    refine qM (vJ (n : Int)) ?_
    refine qM (vJ (j : Int)) ?_
    refine qD rfl (yP rfl rfl (by omega)) ?_
    refine q0 rfl rfl rfl (o_mapUpdate (val := (fun v : Int => Value.int .i64 v)) (k := ((y.getD j default).id)) (v := ((n : Int) + (j : Int))) (key_int Tryz.underlying3) Tryz.underlying69 rfl rfl rfl dq.pins b7 (fun lp iy fe bm lq => ?_))
    have cq := dq.write fe bm ((yT g0))
    have iz := e9.keptA bm (yF b7 e9).symm
    have i0 := fb.keptA bm (yF b7 fb).symm
    have i1 := fc.keptA bm (yF b7 fc).symm
    have i2 := (fd.kept bm (fun p hp => (yF b7 (fd.own p hp)).symm)).top
    have i3 := ix.kept bm fe gz
    refine qe (zA (zC ?_))
    refine qM ao ?_
    refine qD rfl (zN (k := 1) rfl Tryz.underlying124 rfl nz99 rfl) ?_
    refine qD rfl (yQ (cs := [(y.getD j default).l, (y.getD j default).r]) ag99 sz99 rfl (fun j u hj => cq.pins _ _ _ (dp _ _ (by rw [Nat.add_comm]; simpa using hj)))) ?_
    refine qI rfl (qB (E := eVal2) (e := 99) [(y.getD j default).l, (y.getD j default).r] (((y.getD j default).l, (y.getD j default).r) : Value × Value) Tryz.underlying30 sz99 zr99 ⟨rfl, eu, ev⟩ rfl (by decide) cq.pins (fun ff i4 i5 fg bd lr => ?_))
    have dr := cq.step fg bd
    have fh := iz.below bd
    have ds := i0.below bd
    have fi := i1.below bd
    have fj := (i2.below bd).top
    have fk := iy.below bd
    have fl := i3.below bd fg
    have i6 : Own eVal2 99 e8 i4 w.heap.size ff ([(((y.getD j default).l, (y.getD j default).r) : Value × Value)]) := i5.weaken cq.size
    refine qI rfl (oA (E := eVal2) (v := ao) (u := ff) 48 Tryz.underlying30 ap99 (by decide) rfl rfl dr.pins ds i6.src (dr.size) (fun b8 lu i7 fm bo cr => ?_))
    have i8 := dr.write fm bo ((yC ds))
    have i9 := fh.keptA bo co
    have ja := fi.keptA bo es.symm
    have jb := (fj.kept bo dk).top
    have jc := fk.kept bo (yF fk ds)
    have jd := fl.kept bo fm dm
    have je : Apart d.ownBlock b8.ownBlock := zF co cr fh.lt
    have jf : Apart gv.ownBlock b8.ownBlock := zF es.symm cr fi.lt
    have jg : ApL aa b8.ownBlock := ApL.app fj dk cr
    have jh := np_app dm fl cr
    have lv : (a3 ++ ([(((y.getD j default).l, (y.getD j default).r) : Value × Value)])).length = a3.length + 1 := List.length_append
    refine qM b8 ?_
    refine qe ?_
    refine yH ?_
    refine zA (zC ?_)
    refine qD rfl (yP rfl rfl (by omega)) ?_
    refine qM (vJ ((j : Int) + 1)) ?_
    refine qe ?_
    refine yG ?_
    refine ⟨_, ?_, _, rfl, _, j + 1, b8, (ba).set ((n : Int) + (j : Int)).toNat ((y.getD j default).id), a3 ++ ([(((y.getD j default).l, (y.getD j default).r) : Value × Value)]), putE b0 ((y.getD j default).id) ((n : Int) + (j : Int)), e8, (pS 92 (pS 91 (pS 90 (pS 10 (pS 9 (pS 8 (pS 7 (pS 6 (pS 5 (pS 4 (pU 2))))))))))), rfl, i8, (Pin.le_trans er bk), (by omega), (by rw [bi, show ((n : Int) + (j : Int)).toNat = n + j by omega]; exact reg_step (by omega) (by omega)), (df.ent hRn eq (by omega)), (by rw [b2, xH _ default (by omega), ← List.append_assoc, List.map_append (l₁ := done ++ _)]; rfl), i9, i7, ja, je, jf.symm, jb, dj, jg, h9, jc, jd, jh⟩
    omega
   refine wp_exit ?_
   refine zX ?_
   refine yJ ?_
   refine yI ?_
   refine zA (zC ?_)
   refine qM (vJ (n : Int)) ?_
   refine qM gv ?_
   refine qD rfl (zM Tryz.underlying121 (v := gv) rfl b4.read) ?_
   refine qD rfl (yP rfl rfl (by omega)) ?_
   refine qM (vJ ((n : Int) + (y.length : Int))) ?_
   refine qe ?_
   refine yH ?_
   refine yG ?_
   have hjn : j = y.length := by omega
   rw [hjn, reg_end] at bi
   rw [hjn] at df b2
   rw [List.take_length] at b2
   have hls3l : ba.length = ls.length := by rw [bi]; exact hRl
   refine ⟨_, ?_, _, rfl, _, n + y.length, ao, done ++ y, a3, b0, aa, ba, ay, (pS 9 (pS 8 (pS 7 (pS 6 (pS 5 (pS 4 (pU 2))))))), rfl, b1, (Pin.le_trans (Pin.le_trans bu ax) er), (by rw [bi]; exact hor.ents hok a4 hgr (by omega) hend cn h2), (by rw [bi]; exact df), (a7.trans (by rw [lvE_app]; exact List.Perm.append_left _ (lvE_perm cn.symm))), b2, dg, dh, co, di, dj, dk, et, dl, dm⟩
   omega
  ·skip
   refine yL (fun (k : Nat) (en : Nat → Value) (W : World) => ∃ (al : Nat → Value) (kk : Nat) (gv : Value) (gs : List Ent) (aa : List Leaf) (ab : Pin), en = (upd (upd (upd (upd (upd (upd (upd (upd (upd al 2 (.pointer (some ⟨b3, 0, none⟩))) 4 (.slice none 0 0)) 5 (.slice none 0 0)) 6 d) 7 (.map (some ak))) 8 nv) 9 (vJ (n : Int))) 10 gv) 11 (vJ (kk : Int))) ∧ k = ls.length - kk ∧ Ext noS G w ab W ∧ Pin.le am ab ∧ (kk = n + gs.length) ∧ (GrI q ls n (gs.map Ent.gn)) ∧ (aa.Perm (lvE done ++ lvE gs)) ∧ (Own eEnt 124 ab W w.heap.size gv (gs)) ∧ (Own eInt 3 ab W w.heap.size d (ls)) ∧ (Own eVal2 99 ab W w.heap.size nv (ps)) ∧ (Apart gv.ownBlock d.ownBlock) ∧ (Apart gv.ownBlock nv.ownBlock) ∧ (Lvs 3 ab W w.heap.size W.heap.size aa) ∧ (ApL aa gv.ownBlock) ∧ (ApL aa d.ownBlock) ∧ (ApL aa nv.ownBlock) ∧ (Mp (fun k : Int => Value.int .i64 k) (fun v : Int => Value.int .i64 v) W ak (rk)) ∧ (Pk 65 3 ab W p L R B mm q) ∧ (NP p L R B mm gv.ownBlock)) _ ⟨_, n, a5, [], LV, am, (pS 11 (pS 10 (pS 9 (pS 8 (pS 7 (pS 6 (pS 5 (pS 4 (pU 2))))))))), rfl, ho, Pin.le_refl _, rfl, (GrI.start hor), (by simpa [lvE] using hLV), h1, hq, hs, hw, hy, ht, hz, hd, el, hu, hv, h0⟩ ?_
   rintro lw _ an ⟨al, kk, gv, gs, aa, ab, rfl, lx, a6, ax, hkk, hgr, a7, bv, cj, de, a8, a9, ck, a1, bw, bz, cl, cm, a2⟩
   have hgl := hgr.le
   rw [List.length_map] at hgl
   refine zB (zB ?_)
   have ji := Gadd.pins a6.pins d
   have jj := Gadd.pins a6.pins B
   have b9 := cj.read
   have ct := cm.ob.read
   refine yU (S := fun wz => Pins (Gadd ab an d) wz ∧ Pins ab wz ∧ BxR wz p [L, R, B, (.map (some mm.f)), (.map (some mm.o)), (.map (some mm.c)), (.map (some mm.s)), (.map (some mm.n))] ∧ Pins (Gadd ab an B) wz) (last := 27) (by kernel_rfl) rfl ?_
   have aq : Below an.heap.size an an.drew := (Below.refl _ _).drew
   have fn := a6.pins.below aq
   have a := a6.step fn aq
   have dt := bv.below aq
   have ca := cj.below aq
   have du := de.below aq
   have dv := (ck.below aq).top
   have dw := cl.below aq
   have b := cm.below aq fn
   have g := ji.below aq
   have m := jj.below aq
   refine dT (i := 0) rfl rfl (by kernel_rfl) (fun _ _ => zU (v := (vJ (kk : Int))) rfl) ⟨g, a.pins, b.bx.reads, m⟩ ?_
   refine dT (i := 1) rfl rfl (by kernel_rfl) (fun _ _ => zU (v := d) rfl) ⟨g, a.pins, b.bx.reads, m⟩ ?_
   refine dT (i := 2) rfl rfl (by kernel_rfl) (fun _ _ => zM Tryz.underlying65 (v := d) rfl b9) ⟨g, a.pins, b.bx.reads, m⟩ ?_
   refine dT (i := 3) rfl rfl (by kernel_rfl) (fun _ _ => yM rfl rfl) ⟨g, a.pins, b.bx.reads, m⟩ ?_
   refine dT (i := 4) rfl rfl (by kernel_rfl) (fun _ _ => zU (v := (.bool (decide (((kk : Int) : Int) < (ls.length : Int))))) rfl) ⟨g, a.pins, b.bx.reads, m⟩ ?_
   refine drbd (p := ((kk : Int) : Int) < (ls.length : Int)) (t := 35) rfl (fun jk => ?_) (fun jk => ?_)
   ·skip
    have hzk := hplk kk (by omega)
    have hollk := hok.ar.ok.lens (ls.getD kk 0).toNat (by omega)
    refine yA (i := 5) rfl rfl rfl (zS rfl rfl rfl rfl) (by kernel_rfl) (fun _ hS => zO (u := (.pointer (some ⟨p, 0, none⟩))) ag61 rfl ((Pins.of_le hS.2.1 (Pin.le_trans (Pin.le_trans a0.le bu) ax)) _ _ _ (be 0 _ rfl))) ⟨g, a.pins, b.bx.reads, m⟩ ?_
    refine yA (i := 6) rfl rfl rfl (zS rfl rfl rfl rfl) (by kernel_rfl) (fun _ _ => xF rfl) ⟨g, a.pins, b.bx.reads, m⟩ ?_
    refine yA (i := 7) rfl rfl rfl (zS rfl rfl rfl rfl) (by kernel_rfl) (fun _ _ => zN (k := 2) rfl Tryz.underlying72 rfl nz65 rfl) ⟨g, a.pins, b.bx.reads, m⟩ ?_
    refine yA (i := 8) rfl rfl rfl (zS rfl rfl rfl rfl) (by kernel_rfl) (fun _ hS => zO (u := B) ag65 rfl (hS.2.2.1 2 _ rfl)) ⟨g, a.pins, b.bx.reads, m⟩ ?_
    refine yA (i := 9) rfl rfl rfl (zS rfl rfl rfl rfl) (by kernel_rfl) (fun _ _ => zU (v := d) rfl) ⟨g, a.pins, b.bx.reads, m⟩ ?_
    refine yA (i := 10) rfl rfl rfl (zS rfl rfl rfl rfl) (by kernel_rfl) (fun _ _ => zU (v := (vJ (kk : Int))) rfl) ⟨g, a.pins, b.bx.reads, m⟩ ?_
    refine yA (i := 11) rfl rfl rfl (zS rfl rfl rfl rfl) (by kernel_rfl) (fun _ _ => zI Tryz.underlying65 sz3 (v := d) rfl rfl b9 (by omega) (by omega)) ⟨g, a.pins, b.bx.reads, m⟩ ?_
    refine yA (i := 12) rfl rfl rfl (zS rfl rfl rfl rfl) (by kernel_rfl) (fun _ hS => zH (r := ls.getD kk 0) rfl ag3 (z := (kk : Int)) rfl b9 hS.1 (by omega) (by omega)) ⟨g, a.pins, b.bx.reads, m⟩ ?_
    refine yA (i := 13) rfl rfl rfl (zS rfl rfl rfl rfl) (by kernel_rfl) (fun _ _ => zI Tryz.underlying65 sz3 (v := B) rfl rfl ct (by omega) (by omega)) ⟨g, a.pins, b.bx.reads, m⟩ ?_
    refine yA (i := 14) rfl rfl rfl (zS rfl rfl rfl rfl) (by kernel_rfl) (fun _ hS => zH (r := q.bs.getD (ls.getD kk 0).toNat 0) rfl ag3 (z := (ls.getD kk 0)) rfl ct hS.2.2.2 (by omega) (by omega)) ⟨g, a.pins, b.bx.reads, m⟩ ?_
    refine yA (i := 15) rfl rfl rfl (zS rfl rfl rfl rfl) (by kernel_rfl) (fun _ hS => zO (u := (.pointer (some ⟨p, 0, none⟩))) ag61 rfl ((Pins.of_le hS.2.1 (Pin.le_trans (Pin.le_trans a0.le bu) ax)) _ _ _ (be 0 _ rfl))) ⟨g, a.pins, b.bx.reads, m⟩ ?_
    refine yA (i := 16) rfl rfl rfl (zS rfl rfl rfl rfl) (by kernel_rfl) (fun _ _ => xF rfl) ⟨g, a.pins, b.bx.reads, m⟩ ?_
    refine yA (i := 17) rfl rfl rfl (zS rfl rfl rfl rfl) (by kernel_rfl) (fun _ _ => zN (k := 2) rfl Tryz.underlying72 rfl nz65 rfl) ⟨g, a.pins, b.bx.reads, m⟩ ?_
    refine yA (i := 18) rfl rfl rfl (zS rfl rfl rfl rfl) (by kernel_rfl) (fun _ hS => zO (u := B) ag65 rfl (hS.2.2.1 2 _ rfl)) ⟨g, a.pins, b.bx.reads, m⟩ ?_
    refine yA (i := 19) rfl rfl rfl (zS rfl rfl rfl rfl) (by kernel_rfl) (fun _ _ => zU (v := d) rfl) ⟨g, a.pins, b.bx.reads, m⟩ ?_
    refine yA (i := 20) rfl rfl rfl (zS rfl rfl rfl rfl) (by kernel_rfl) (fun _ _ => zU (v := (vJ (n : Int))) rfl) ⟨g, a.pins, b.bx.reads, m⟩ ?_
    refine yA (i := 21) rfl rfl rfl (zS rfl rfl rfl rfl) (by kernel_rfl) (fun _ _ => zI Tryz.underlying65 sz3 (v := d) rfl rfl b9 (by omega) (by omega)) ⟨g, a.pins, b.bx.reads, m⟩ ?_
    refine yA (i := 22) rfl rfl rfl (zS rfl rfl rfl rfl) (by kernel_rfl) (fun _ hS => zH (r := ls.getD n 0) rfl ag3 (z := (n : Int)) rfl b9 hS.1 (by omega) (by omega)) ⟨g, a.pins, b.bx.reads, m⟩ ?_
    refine yA (i := 23) rfl rfl rfl (zS rfl rfl rfl rfl) (by kernel_rfl) (fun _ _ => zI Tryz.underlying65 sz3 (v := B) rfl rfl ct (by omega) (by omega)) ⟨g, a.pins, b.bx.reads, m⟩ ?_
    refine yA (i := 24) rfl rfl rfl (zS rfl rfl rfl rfl) (by kernel_rfl) (fun _ hS => zH (r := q.bs.getD (ls.getD n 0).toNat 0) rfl ag3 (z := (ls.getD n 0)) rfl ct hS.2.2.2 (by omega) (by omega)) ⟨g, a.pins, b.bx.reads, m⟩ ?_
    refine yA (i := 25) rfl rfl rfl (zS rfl rfl rfl rfl) (by kernel_rfl) (fun _ _ => r_eql rfl rfl) ⟨g, a.pins, b.bx.reads, m⟩ ?_
    refine dT (i := 26) rfl rfl (by kernel_rfl) (fun _ _ => xG (v := (.bool (decide ((q.bs.getD (ls.getD kk 0).toNat 0 : Int) = (q.bs.getD (ls.getD n 0).toNat 0))))) rfl rfl) ⟨g, a.pins, b.bx.reads, m⟩ ?_
    refine yK (by kernel_rfl) ?_
    refine zA ?_
    refine yD (p := (q.bs.getD (ls.getD kk 0).toNat 0 : Int) = (q.bs.getD (ls.getD n 0).toNat 0)) rfl rfl (fun dx => ?_) (fun dx => ?_)
    ·skip
     refine wp_skip ?_
     refine zA (zB ?_)
     refine zW ?_
     refine zB (zC ?_)
     refine qM d ?_
     refine qM (vJ (kk : Int)) ?_
     refine qD rfl (zI Tryz.underlying65 sz3 (v := d) rfl rfl ca.read (by omega) (by omega)) ?_
     refine qD rfl (zH (r := ls.getD kk 0) rfl ag3 (z := (kk : Int)) rfl ca.read (Gadd.pins a.pins d) (by omega) (by omega)) ?_
     refine qM (vJ (ls.getD kk 0)) ?_
     refine qe (zA ?_)
     have jl := Gadd.pins a.pins L
     have jm := Gadd.pins a.pins R
     have jn := b.ol.read
     have jo := b.rr.read
     refine yU (S := fun wz => Pins ab wz ∧ BxR wz p [L, R, B, (.map (some mm.f)), (.map (some mm.o)), (.map (some mm.c)), (.map (some mm.s)), (.map (some mm.n))] ∧ Pins (Gadd ab an.drew L) wz ∧ Pins (Gadd ab an.drew R) wz) (last := 25) (by kernel_rfl) rfl ?_
     have au : Below an.drew.heap.size an.drew an.drew.drew := (Below.refl _ _).drew
     have fo := a.pins.below au
     have ad := a.step fo au
     have fp := dt.below au
     have fq := ca.below au
     have fr := du.below au
     have fs := (dv.below au).top
     have ft := dw.below au
     have af := b.below au fo
     have ag := jl.below au
     have ah := jm.below au
     refine dT (i := 0) rfl rfl (by kernel_rfl) (fun _ _ => zU (v := gv) rfl) ⟨ad.pins, af.bx.reads, ag, ah⟩ ?_
     refine dT (i := 1) rfl rfl (by kernel_rfl) (fun _ _ => zU (v := (vJ (ls.getD kk 0))) rfl) ⟨ad.pins, af.bx.reads, ag, ah⟩ ?_
     refine dT (i := 2) rfl rfl (by kernel_rfl) (fun _ hS => zO (u := (.pointer (some ⟨p, 0, none⟩))) ag61 rfl ((Pins.of_le hS.1 (Pin.le_trans (Pin.le_trans a0.le bu) ax)) _ _ _ (be 0 _ rfl))) ⟨ad.pins, af.bx.reads, ag, ah⟩ ?_
     refine dT (i := 3) rfl rfl (by kernel_rfl) (fun _ _ => xF rfl) ⟨ad.pins, af.bx.reads, ag, ah⟩ ?_
     refine dT (i := 4) rfl rfl (by kernel_rfl) (fun _ _ => zN (k := 0) rfl Tryz.underlying72 rfl nz66 rfl) ⟨ad.pins, af.bx.reads, ag, ah⟩ ?_
     refine dT (i := 5) rfl rfl (by kernel_rfl) (fun _ hS => zO (u := L) ag66 rfl (hS.2.1 0 _ rfl)) ⟨ad.pins, af.bx.reads, ag, ah⟩ ?_
     refine dT (i := 6) rfl rfl (by kernel_rfl) (fun _ _ => zU (v := (vJ (ls.getD kk 0))) rfl) ⟨ad.pins, af.bx.reads, ag, ah⟩ ?_
     refine dT (i := 7) rfl rfl (by kernel_rfl) (fun _ _ => zI Tryz.underlying66 sz65 (v := L) rfl rfl jn (by omega) (by omega)) ⟨ad.pins, af.bx.reads, ag, ah⟩ ?_
     obtain ⟨jp, dy, jq⟩ := nm_sl (b.ol.at (z := (ls.getD kk 0)) (by omega) (by omega)) (j := (ls.getD kk 0).toNat) rfl
     rw [mapl_getD] at dy
     have ly := dy.max
     refine dT (i := 8) rfl rfl (by kernel_rfl) (fun _ hS => jq ag65 rfl hS.2.2.1) ⟨ad.pins, af.bx.reads, ag, ah⟩ ?_
     refine dT (i := 9) rfl rfl (by kernel_rfl) (fun _ _ => zU (v := (.map (some ak))) rfl) ⟨ad.pins, af.bx.reads, ag, ah⟩ ?_
     refine dT (i := 11) rfl rfl (by kernel_rfl) (fun _ hS => zO (u := (.pointer (some ⟨p, 0, none⟩))) ag61 rfl ((Pins.of_le hS.1 (Pin.le_trans (Pin.le_trans a0.le bu) ax)) _ _ _ (be 0 _ rfl))) ⟨ad.pins, af.bx.reads, ag, ah⟩ ?_
     refine dT (i := 12) rfl rfl (by kernel_rfl) (fun _ _ => xF rfl) ⟨ad.pins, af.bx.reads, ag, ah⟩ ?_
     refine dT (i := 13) rfl rfl (by kernel_rfl) (fun _ _ => zN (k := 1) rfl Tryz.underlying72 rfl nz66 rfl) ⟨ad.pins, af.bx.reads, ag, ah⟩ ?_
     refine dT (i := 14) rfl rfl (by kernel_rfl) (fun _ hS => zO (u := R) ag66 rfl (hS.2.1 1 _ rfl)) ⟨ad.pins, af.bx.reads, ag, ah⟩ ?_
     refine dT (i := 15) rfl rfl (by kernel_rfl) (fun _ _ => zU (v := (vJ (ls.getD kk 0))) rfl) ⟨ad.pins, af.bx.reads, ag, ah⟩ ?_
     refine dT (i := 16) rfl rfl (by kernel_rfl) (fun _ _ => zI Tryz.underlying66 sz65 (v := R) rfl rfl jo (by omega) (by omega)) ⟨ad.pins, af.bx.reads, ag, ah⟩ ?_
     obtain ⟨jr, dz, js⟩ := nm_sl (b.rr.at (z := (ls.getD kk 0)) (by omega) (by omega)) (j := (ls.getD kk 0).toNat) rfl
     rw [mapr_getD] at dz
     have lz := dz.max
     refine dT (i := 17) rfl rfl (by kernel_rfl) (fun _ hS => js ag65 rfl hS.2.2.2) ⟨ad.pins, af.bx.reads, ag, ah⟩ ?_
     refine dT (i := 18) rfl rfl (by kernel_rfl) (fun _ _ => zU (v := (.map (some ak))) rfl) ⟨ad.pins, af.bx.reads, ag, ah⟩ ?_
     refine dO (i := 10) (zR (i := 10) rfl rfl rfl (zD rfl _) (zL (vs := [jp, (.map (some ak))]) Tryz.func117 nm117 rfl rfl rfl ?_))
     refine Calls.mono (ranked_spec ad.pins dy ft (by omega)) ?_
     rintro _ jt ⟨ac, ju, rfl, cb, ae⟩
     refine ⟨_, rfl, ?_⟩
     have cu := ad.tr ae
     have fu := fp.ext ae
     have fv := fq.ext ae
     have fw := fr.ext ae
     have fx := (fs.ext ae).top
     have fy := ft.below ae.below
     have fz := af.ext ae
     have f0 := zQ cb.lt fp.lt
     have jv := zQ cb.lt fq.lt
     have jw := zQ cb.lt fr.lt
     have jx : ApL aa ac.ownBlock := ApL.fresh fs (fun k hk => (cb.lt k hk).1)
     have f1 : Own eInt 3 ju jt w.heap.size ac (sortM (((q.ns.getD (ls.getD kk 0).toNat default).l).map (rkI rk))) := cb.weaken ad.size
     have f2 := ag.below ae.below
     have f3 := ah.below ae.below
     refine ⟨fun _ => ⟨(Pins.of_le cu.pins ae.le), fz.bx.reads, f2, f3⟩, ?_⟩
     refine dO (i := 19) (zR (i := 19) rfl rfl rfl (zD rfl _) (zL (vs := [jr, (.map (some ak))]) Tryz.func117 nm117 rfl rfl rfl ?_))
     refine Calls.mono (ranked_spec cu.pins (dz.mono ae.le) fy (by omega)) ?_
     rintro _ jy ⟨ai, d0, rfl, bp, aj⟩
     refine ⟨_, rfl, ?_⟩
     have bq := cu.tr aj
     have jz := fu.ext aj
     have j0 := fv.ext aj
     have j1 := fw.ext aj
     have d1 := f1.ext aj
     have j2 := (fx.ext aj).top
     have j3 := fy.below aj.below
     have cv := fz.ext aj
     have f4 := zQ bp.lt fu.lt
     have j4 := zQ bp.lt fv.lt
     have j5 := zQ bp.lt fw.lt
     have j6 := zQ bp.lt f1.lt
     have j7 : ApL aa ai.ownBlock := ApL.fresh fx (fun k hk => (bp.lt k hk).1)
     have d2 : Own eInt 3 d0 jy w.heap.size ai (sortM (((q.ns.getD (ls.getD kk 0).toNat default).r).map (rkI rk))) := bp.weaken cu.size
     have cw := f2.below aj.below
     have cx := f3.below aj.below
     refine ⟨fun _ => ⟨(Pins.of_le bq.pins (Pin.le_trans ae.le aj.le)), cv.bx.reads, cw, cx⟩, ?_⟩
     refine dT (i := 20) rfl rfl (by kernel_rfl) (fun _ _ => xX [(.slice none 0 0), (.slice none 0 0)] [ac, ai] [(0, ac, [ac]), (1, ai, [ai])] Tryz.underlying99 zr99 rfl pl99 rfl (List.forall_mem_cons.2 ⟨(yX d1.one), (List.forall_mem_cons.2 ⟨(yX d2.one), (fun _ h => by cases h)⟩)⟩) rfl) ⟨(Pins.of_le bq.pins (Pin.le_trans ae.le aj.le)), cv.bx.reads, cw, cx⟩ ?_
     refine dT (i := 21) rfl rfl (by kernel_rfl) (fun _ _ => xX [(vJ 0), (.slice none 0 0), (.slice none 0 0)] [(vJ (ls.getD kk 0)), ac, ai] [(0, (vJ (ls.getD kk 0)), [(vJ (ls.getD kk 0))]), (1, (.agg [ac, ai].toArray), [ac, ai])] Tryz.underlying124 zr124 rfl pl124 rfl (List.forall_mem_cons.2 ⟨rfl, (List.forall_mem_cons.2 ⟨rfl, (fun _ h => by cases h)⟩)⟩) rfl) ⟨(Pins.of_le bq.pins (Pin.le_trans ae.le aj.le)), cv.bx.reads, cw, cx⟩ ?_
     refine dO (i := 22) (zR (i := 22) rfl rfl rfl (zD rfl _) (qB (E := eEnt) (e := 124) [(vJ (ls.getD kk 0)), ac, ai] (⟨ls.getD kk 0, ac, ai, ⟨sortM (((q.ns.getD (ls.getD kk 0).toNat default).l).map (rkI rk)), sortM (((q.ns.getD (ls.getD kk 0).toNat default).r).map (rkI rk))⟩⟩ : Ent) Tryz.underlying121 sz124 zr124 ⟨rfl, d1.one, d2.one⟩ rfl (by decide) bq.pins (fun f5 j8 j9 f6 ap l0 => ?_)))
     have cy := bq.step f6 ap
     have d3 := jz.below ap
     have f7 := j0.below ap
     have f8 := j1.below ap
     have f9 := d1.below ap
     have ga := d2.below ap
     have gb := (j2.below ap).top
     have gc := j3.below ap
     have d4 := cv.below ap f6
     have ka : Own eEnt 124 d0 j8 w.heap.size f5 ([(⟨ls.getD kk 0, ac, ai, ⟨sortM (((q.ns.getD (ls.getD kk 0).toNat default).l).map (rkI rk)), sortM (((q.ns.getD (ls.getD kk 0).toNat default).r).map (rkI rk))⟩⟩ : Ent)]) := j9.weaken bq.size
     have gd := cw.below ap
     have ge := cx.below ap
     refine ⟨fun _ => ⟨(Pins.of_le cy.pins (Pin.le_trans ae.le aj.le)), d4.bx.reads, gd, ge⟩, ?_⟩
     refine dO (i := 23) (zR (i := 23) rfl rfl rfl (zD rfl _) (oA (E := eEnt) (v := gv) (u := f5) 56 Tryz.underlying121 ap124 (by decide) rfl rfl cy.pins d3 ka.src (cy.size) (fun az l1 kb cz av br => ?_)))
     have cc := cy.write cz av ((yC d3))
     have kc := f7.keptA av a8.symm
     have kd := f8.keptA av a9.symm
     have ke := f9.keptA av f0
     have kf := ga.keptA av f4
     have kg := (gb.kept av a1).top
     have kh := gc.kept av (yF gc d3)
     have d5 := d4.kept av cz a2
     have ki : Apart d.ownBlock az.ownBlock := zF a8.symm br f7.lt
     have kj : Apart nv.ownBlock az.ownBlock := zF a9.symm br f8.lt
     have kl : Apart ac.ownBlock az.ownBlock := zF f0 br f9.lt
     have km : Apart ai.ownBlock az.ownBlock := zF f4 br ga.lt
     have kn : ApL aa az.ownBlock := ApL.app gb a1 br
     have ko := np_app a2 d4 br
     have l2 : (gs ++ ([(⟨ls.getD kk 0, ac, ai, ⟨sortM (((q.ns.getD (ls.getD kk 0).toNat default).l).map (rkI rk)), sortM (((q.ns.getD (ls.getD kk 0).toNat default).r).map (rkI rk))⟩⟩ : Ent)])).length = gs.length + 1 := List.length_append
     have gf := Gadd.turn gd (Pins.of_le cc.pins (Pin.le_trans ae.le aj.le)) (Ext.one cz av) (notO (NP.hl a2).symm)
     have gg := Gadd.turn ge (Pins.of_le cc.pins (Pin.le_trans ae.le aj.le)) (Ext.one cz av) (notO (NP.hr a2).symm)
     refine ⟨fun _ => ⟨(Pins.of_le cc.pins (Pin.le_trans ae.le aj.le)), d5.bx.reads, gf, gg⟩, ?_⟩
     refine dT (i := 24) rfl rfl (by kernel_rfl) (fun _ _ => r_assign (v := az) rfl) ⟨(Pins.of_le cc.pins (Pin.le_trans ae.le aj.le)), d5.bx.reads, gf, gg⟩ ?_
     refine yK (by kernel_rfl) ?_
     refine yH ?_
     refine zA (zC ?_)
     refine qM (vJ (kk : Int)) ?_
     refine qD rfl (yP rfl rfl (by omega)) ?_
     refine qM (vJ ((kk : Int) + 1)) ?_
     refine qe ?_
     refine yG ?_
     have kp := kg.add ke jx
     have kq : ApL (aa ++ [(ac, sortM (((q.ns.getD (ls.getD kk 0).toNat default).l).map (rkI rk)))]) d.ownBlock := bw.add jv
     have kr : ApL (aa ++ [(ac, sortM (((q.ns.getD (ls.getD kk 0).toNat default).l).map (rkI rk)))]) nv.ownBlock := bz.add jw
     have ks : ApL (aa ++ [(ac, sortM (((q.ns.getD (ls.getD kk 0).toNat default).l).map (rkI rk)))]) ai.ownBlock := j7.add j6.symm
     have kt : ApL (aa ++ [(ac, sortM (((q.ns.getD (ls.getD kk 0).toNat default).l).map (rkI rk)))]) az.ownBlock := kn.add kl
     have ku := kp.add kf ks
     have kv : ApL ((aa ++ [(ac, sortM (((q.ns.getD (ls.getD kk 0).toNat default).l).map (rkI rk)))]) ++ [(ai, sortM (((q.ns.getD (ls.getD kk 0).toNat default).r).map (rkI rk)))]) d.ownBlock := kq.add j4
     have kw : ApL ((aa ++ [(ac, sortM (((q.ns.getD (ls.getD kk 0).toNat default).l).map (rkI rk)))]) ++ [(ai, sortM (((q.ns.getD (ls.getD kk 0).toNat default).r).map (rkI rk)))]) nv.ownBlock := kr.add j5
     have kx : ApL ((aa ++ [(ac, sortM (((q.ns.getD (ls.getD kk 0).toNat default).l).map (rkI rk)))]) ++ [(ai, sortM (((q.ns.getD (ls.getD kk 0).toNat default).r).map (rkI rk)))]) az.ownBlock := kt.add km
     refine ⟨_, ?_, _, rfl, _, kk + 1, az, gs ++ ([(⟨ls.getD kk 0, ac, ai, ⟨sortM (((q.ns.getD (ls.getD kk 0).toNat default).l).map (rkI rk)), sortM (((q.ns.getD (ls.getD kk 0).toNat default).r).map (rkI rk))⟩⟩ : Ent)]), (aa ++ [(ac, sortM (((q.ns.getD (ls.getD kk 0).toNat default).l).map (rkI rk)))]) ++ [(ai, sortM (((q.ns.getD (ls.getD kk 0).toNat default).r).map (rkI rk)))], d0, (pS 11 (pS 10 (pS 9 (pS 8 (pS 7 (pS 6 (pS 5 (pS 4 (pU 2))))))))), rfl, cc, (Pin.le_trans (Pin.le_trans ax ae.le) aj.le), (by rw [List.length_append]; simp; omega), (hgr.ent hor hok a4 hrk hkk (by omega) dx), (by rw [lvE_app, ← List.append_assoc, List.append_assoc aa]; exact a7.append_right _), kb, kc, kd, ki.symm, kj.symm, ku, kx, kv, kw, kh, d5, ko⟩
     omega
    refine wp_exit ?_
    refine zX ?_
    refine yJ ?_
    exact cutE_in ⟨_, kk, gv, gs, aa, ab, (pS 11 (pS 10 (pS 9 (pS 8 (pS 7 (pS 6 (pS 5 (pS 4 (pU 2))))))))), a, ax, hkk, hgr, a7, (Or.inr (by rw [← hkk]; exact dx)), dt, ca, du, a8, a9, dv, a1, bw, bz, dw, b, a2⟩
   refine zV (i := 5) rfl rfl (zY rfl rfl rfl rfl rfl) (by kernel_rfl) ⟨g, a.pins, b.bx.reads, m⟩ ?_
   refine zV (i := 6) rfl rfl (zY rfl rfl rfl rfl rfl) (by kernel_rfl) ⟨g, a.pins, b.bx.reads, m⟩ ?_
   refine zV (i := 7) rfl rfl (zY rfl rfl rfl rfl rfl) (by kernel_rfl) ⟨g, a.pins, b.bx.reads, m⟩ ?_
   refine zV (i := 8) rfl rfl (zY rfl rfl rfl rfl rfl) (by kernel_rfl) ⟨g, a.pins, b.bx.reads, m⟩ ?_
   refine zV (i := 9) rfl rfl (zY rfl rfl rfl rfl rfl) (by kernel_rfl) ⟨g, a.pins, b.bx.reads, m⟩ ?_
   refine zV (i := 10) rfl rfl (zY rfl rfl rfl rfl rfl) (by kernel_rfl) ⟨g, a.pins, b.bx.reads, m⟩ ?_
   refine zV (i := 11) rfl rfl (zY rfl rfl rfl rfl rfl) (by kernel_rfl) ⟨g, a.pins, b.bx.reads, m⟩ ?_
   refine zV (i := 12) rfl rfl (zY rfl rfl rfl rfl rfl) (by kernel_rfl) ⟨g, a.pins, b.bx.reads, m⟩ ?_
   refine zV (i := 13) rfl rfl (zY rfl rfl rfl rfl rfl) (by kernel_rfl) ⟨g, a.pins, b.bx.reads, m⟩ ?_
   refine zV (i := 14) rfl rfl (zY rfl rfl rfl rfl rfl) (by kernel_rfl) ⟨g, a.pins, b.bx.reads, m⟩ ?_
   refine zV (i := 15) rfl rfl (zY rfl rfl rfl rfl rfl) (by kernel_rfl) ⟨g, a.pins, b.bx.reads, m⟩ ?_
   refine zV (i := 16) rfl rfl (zY rfl rfl rfl rfl rfl) (by kernel_rfl) ⟨g, a.pins, b.bx.reads, m⟩ ?_
   refine zV (i := 17) rfl rfl (zY rfl rfl rfl rfl rfl) (by kernel_rfl) ⟨g, a.pins, b.bx.reads, m⟩ ?_
   refine zV (i := 18) rfl rfl (zY rfl rfl rfl rfl rfl) (by kernel_rfl) ⟨g, a.pins, b.bx.reads, m⟩ ?_
   refine zV (i := 19) rfl rfl (zY rfl rfl rfl rfl rfl) (by kernel_rfl) ⟨g, a.pins, b.bx.reads, m⟩ ?_
   refine zV (i := 20) rfl rfl (zY rfl rfl rfl rfl rfl) (by kernel_rfl) ⟨g, a.pins, b.bx.reads, m⟩ ?_
   refine zV (i := 21) rfl rfl (zY rfl rfl rfl rfl rfl) (by kernel_rfl) ⟨g, a.pins, b.bx.reads, m⟩ ?_
   refine zV (i := 22) rfl rfl (zY rfl rfl rfl rfl rfl) (by kernel_rfl) ⟨g, a.pins, b.bx.reads, m⟩ ?_
   refine zV (i := 23) rfl rfl (zY rfl rfl rfl rfl rfl) (by kernel_rfl) ⟨g, a.pins, b.bx.reads, m⟩ ?_
   refine zV (i := 24) rfl rfl (zY rfl rfl rfl rfl rfl) (by kernel_rfl) ⟨g, a.pins, b.bx.reads, m⟩ ?_
   refine zV (i := 25) rfl rfl (zY rfl rfl rfl rfl rfl) (by kernel_rfl) ⟨g, a.pins, b.bx.reads, m⟩ ?_
   refine dT (i := 26) rfl rfl (by kernel_rfl) (fun _ _ => xB (v := (.bool false)) rfl rfl) ⟨g, a.pins, b.bx.reads, m⟩ ?_
   refine yK (by kernel_rfl) ?_
   refine zA ?_
   refine c_ifF rfl rfl ?_
   refine wp_exit ?_
   refine zX ?_
   refine yJ ?_
   exact cutE_in ⟨_, kk, gv, gs, aa, ab, (pS 11 (pS 10 (pS 9 (pS 8 (pS 7 (pS 6 (pS 5 (pS 4 (pU 2))))))))), a, ax, hkk, hgr, a7, (Or.inl (by omega)), dt, ca, du, a8, a9, dv, a1, bw, bz, dw, b, a2⟩
 refine wp_exit ?_
 refine zX ?_
 refine yJ ?_
 refine yI ?_
 refine zA (zB (zC ?_))
 refine qM d ?_
 refine qM nv ?_
 refine qM d ?_
 refine qM nv ?_
 refine qe (zA ?_)
 refine wp_ret ?_
 refine zT ?_
 refine c_ret2 (v := d) (u := nv) rfl rfl rfl rfl rfl ?_
 have hnn : n = ls.length := by omega
 rw [hnn] at hor
 have hon := dc
 rw [hps] at hon
 have hlv := dd.perm hLV
 have hap := el.perm hLV
 rw [lvE_lvN] at hlv hap
 exact ⟨_, _, ls, done.map Ent.nd, c4, _, rfl, ch, ⟨done.map Ent.pr, by rw [List.length_map, List.length_map], hon, fun k hk => (hon.lt k hk).2, hlv, hap⟩, hor, a4, cg⟩

end OD1
end Go.Proofs.YtfnginkcmcfdfaaGreatDoor

set_option maxRecDepth 20000
set_option maxHeartbeats 2000000
namespace Go.Proofs.YtfnginkcmcfdfaaGreatDoor
namespace LI1
open Go.RowKit Go.GL Go.Proofs
open Go.Proofs.YtfnginkcmcfdfaaGreatDoor.B1
open Go.Proofs.YtfnginkcmcfdfaaGreatDoor.K1
open Go.Proofs.YtfnginkcmcfdfaaGreatDoor.PO1
open Go.Proofs.YtfnginkcmcfdfaaGreatDoor.PL1
open Go.Proofs.YtfnginkcmcfdfaaGreatDoor.PA1
open Go.Proofs.YtfnginkcmcfdfaaGreatDoor.SO1
open Go.Proofs.YtfnginkcmcfdfaaGreatDoor.OD1










theorem slIndexI_spec {w : World} {G : Pin} {v : Value} {xs : List Int} {p : Int} (hP : Pins G w) (hv : RSl eInt G v xs) :
  Calls Tryz.prog 67 [v, (.int .i64 p)].toArray w fun e w' => e = .returned (.int .i64 (ixI xs p)) ∧ w' = w := by
 refine zZ (n := 19) Tryz.func67 Tryz.ntmps67 rfl rfl ?_
 have d : Ext noS G w G w := Ext.refl hP
 have hm := hv.max
 refine zB (zC ?_)
 refine qM (.int .i64 0) ?_
 refine qe (zA (zB (zB (zC ?_))))
 refine qM v ?_
 refine qD rfl (zM Tryz.underlying65 (v := v) rfl hv) ?_
 refine qM (.int .i64 0) ?_
 refine qe (zA ?_)
 refine zW ?_
 refine yL (fun (k : Nat) (en : Nat → Value) (W : World) => ∃ (b : Nat → Value) (j : Nat), en = (upd (upd (upd (upd b 0 v) 1 (.int .i64 p)) 7 (.int .i64 (xs.length : Int))) 8 (.int .i64 (j : Int))) ∧ k = xs.length - j ∧ Ext noS G w G W ∧ (j ≤ xs.length) ∧ (W = w) ∧ (ixI xs p = ixFrom p j (xs.drop j))) _ ⟨_, 0, (pS 8 (pS 7 (pS 1 (pU 0)))), rfl, d, Nat.zero_le _, rfl, rfl⟩ ?_
 rintro g _ h ⟨b, j, rfl, i, c, hj, hw, hr⟩
 subst hw
 refine zB (zC ?_)
 refine qD rfl (yM rfl rfl) ?_
 refine qe (zA (zB ?_))
 refine yD (p := ((j : Int) : Int) < (xs.length : Int)) rfl rfl (fun f => ?_) (fun f => ?_)
 ·skip
  refine wp_skip ?_
  refine zA (zB ?_)
  refine zW ?_
  refine zB (zC ?_)
  refine qM (.int .i64 (j : Int)) ?_
  refine qM (.int .i64 (j : Int)) ?_
  refine qe (zA (zB (zC ?_)))
  refine qM (.int .i64 p) ?_
  refine qM v ?_
  refine qM (.int .i64 (j : Int)) ?_
  refine qD rfl (zI Tryz.underlying65 sz3 (v := v) rfl rfl hv (by omega) (by omega)) ?_
  refine qD rfl (zH (r := xs.getD j 0) rfl ag3 (z := (j : Int)) rfl hv c.pins (by omega) (by omega)) ?_
  refine qD rfl (r_eql rfl rfl) ?_
  refine qe (zA ?_)
  refine yD (p := (p : Int) = (xs.getD j 0)) rfl rfl (fun a => ?_) (fun a => ?_)
  ·skip
   refine zB (zC ?_)
   refine qM (.int .i64 (j : Int)) ?_
   refine qM (.int .i64 (j : Int)) ?_
   refine qe (zA ?_)
   refine wp_ret ?_
   refine zT ?_
   refine zP (v := (.int .i64 (j : Int))) rfl rfl rfl ?_
   exact ⟨congrArg (fun z => Ending.returned (Value.int .i64 z)) ((hr.trans (xix_hit (by omega) a)).symm), rfl⟩
  refine wp_skip ?_
  refine yH ?_
  refine zA (zC ?_)
  refine qD rfl (yP rfl rfl (by omega)) ?_
  refine qM (.int .i64 ((j : Int) + 1)) ?_
  refine qe ?_
  refine yG ?_
  refine ⟨_, ?_, _, rfl, _, j + 1, (pS 8 (pS 7 (pS 1 (pU 0)))), rfl, c, (by omega), rfl, (hr.trans (xix_next (by omega) a))⟩
  omega
 refine wp_exit ?_
 refine zX ?_
 refine yJ ?_
 refine yI ?_
 refine zA (zB (zC ?_))
 refine qM (.int .i64 (-1)) ?_
 refine qe (zA ?_)
 refine wp_ret ?_
 refine zT ?_
 refine zP (v := (.int .i64 (-1))) rfl rfl rfl ?_
 exact ⟨congrArg (fun z => Ending.returned (Value.int .i64 z)) ((hr.trans (xix_end (by omega))).symm), rfl⟩

theorem iLessForm_spec {w : World} {G : Pin} {u v : Value} {ax bs : List Nd} (hP : Pins G w) (hu : RSl eNode G u ax) (hv : RSl eNode G v bs) :
  Calls Tryz.prog 28 [(.agg [u].toArray), (.agg [v].toArray)].toArray w fun e w' => ∃ G', e = .returned (.tuple #[.bool (lsB ax bs), .bool (goodB ax && goodB bs)]) ∧ Ext noS G w G' w' := by
 refine zZ (n := 41) Tryz.func28 Tryz.ntmps28 rfl rfl ?_
 have an : Ext noS G w G w := Ext.refl hP
 refine zB (zC ?_)
 refine qI rfl (xM [u] (v := (.agg [u].toArray)) rfl rfl an.pins (fun b1 w2 c2 br bt bu => ?_))
 have bv := an.step bt bu
 have bw : w.heap.size ≤ b1 := by have := an.size; omega
 obtain ⟨G9, ag, ao, a5, c4⟩ := br.shut bv bw
 refine qI rfl (xM [v] (v := (.agg [v].toArray)) rfl rfl ao.pins (fun bx c5 c6 bz b0 b2 => ?_))
 have b3 := ao.step b0 b2
 have b4 : w.heap.size ≤ bx := by have := ao.size; omega
 obtain ⟨c7, s, ap, a6, c8⟩ := bz.shut b3 b4
 refine qM (.bool false) ?_
 refine qM (.bool false) ?_
 refine qe (zA (zB (zB (zC ?_))))
 refine qD rfl (yQ (cs := [u]) ag32 sz32 rfl (fun j u hj => (Pins.of_le ap.pins s) _ _ _ (a5 _ _ (by simpa using hj)))) ?_
 refine qI rfl (zL (vs := [(.agg [u].toArray)]) Tryz.func50 nm50 rfl rfl rfl ?_)
 refine Calls.mono (goodForm_spec ap.pins (hu.mono (Pin.le_trans ag s))) ?_
 rintro _ c9 ⟨da, rfl, m⟩
 refine ⟨_, rfl, ?_⟩
 have ah := ap.tr m
 refine qD rfl (xR rfl) ?_
 refine qM (.bool (!(goodB ax))) ?_
 refine qbn (t := 14) rfl (fun aq => ?_) (fun aq => ?_)
 ·skip
  refine qN (yQ (cs := [v]) ag32 sz32 rfl (fun j u hj => (Pins.of_le ah.pins m.le) _ _ _ (a6 _ _ (by simpa using hj)))) ?_
  refine q1g rfl rfl rfl rfl rfl rfl (zL (vs := [(.agg [v].toArray)]) Tryz.func50 nm50 rfl rfl rfl ?_)
  refine Calls.mono (goodForm_spec ah.pins (hv.mono (Pin.le_trans (Pin.le_trans ag s) m.le))) ?_
  rintro _ db ⟨dc, rfl, ac⟩
  refine ⟨_, rfl, ?_⟩
  have ai := ah.tr ac
  refine qN (xR rfl) ?_
  refine qD rfl (xB (v := (.bool (!(goodB bs)))) rfl rfl) ?_
  refine qe (zA ?_)
  refine c_ifn rfl rfl (fun au => ?_) (fun au => ?_)
  ·skip
   refine wp_skip ?_
   refine zA (zB (zC ?_))
   have hga : GoodP ax := goodB_true.1 aq
   have hgb : GoodP bs := goodB_true.1 au
   have hla := hga.lo
   have hlb := hgb.lo
   have hha := hga.hi
   have hhb := hgb.hi
   refine qI rfl (zL (vs := []) Tryz.func51 nm51 rfl rfl rfl ?_)
   refine Calls.mono (newPool_spec ai.pins) ?_
   rintro _ aj ⟨a, av, a7, rfl, a8, b5, ad⟩
   refine ⟨_, rfl, ?_⟩
   have a9 := ai.tr ad
   have b6 : PIn w (noS) a (.slice none 0 0) (.slice none 0 0) (.slice none 0 0) av := PIn.fresh b5 ai.size
   obtain ⟨c, aw⟩ : ∃ q, q = (⟨[], [], [], [], [], [], []⟩ : PSt) := ⟨_, rfl⟩
   rw [← aw] at a8
   have ay : PoolOk c := by rw [aw]; exact PoolOk.empty
   have hq45l : c.ns.length = 0 := by rw [aw]; rfl
   obtain ⟨ba, bb, bc, bd, be, bf⟩ : ∃ (l r b : Value), l = .slice none 0 0 ∧ r = .slice none 0 0 ∧ b = .slice none 0 0 := ⟨_, _, _, rfl, rfl, rfl⟩
   have b7 : Pk 65 3 a7 aj a ba bb bc av c := by rw [bd, be, bf]; exact a8
   have bg : PIn w (noS) a ba bb bc av := by rw [bd, be, bf]; exact b6
   have dd : (c.ns.map Nd.l).length = c.ns.length ∧ (c.ns.map Nd.r).length = c.ns.length := ⟨List.length_map .., List.length_map ..⟩
   have de : c.bs.length = c.ns.length ∧ c.ns.length ≤ 1048576 := ⟨ay.ar.ok.len, ay.ar.ok.lim⟩
   refine qM (.pointer (some ⟨a, 0, none⟩)) ?_
   refine qe (zA (zB ?_))
   refine yU (S := fun wz => Pins a7 wz) (last := 8) (by kernel_rfl) rfl ?_
   have az : Below aj.heap.size aj aj.drew := (Below.refl _ _).drew
   have bh := a9.pins.below az
   have o := a9.step bh az
   have b8 := b7.below az bh
   refine dM 0 (.pointer (some ⟨a, 0, none⟩)) o.pins ?_
   refine dT (i := 1) rfl rfl (by kernel_rfl) (fun _ hS => yQ (cs := [u]) ag32 sz32 rfl (fun j u hj => (Pins.of_le hS (Pin.le_trans (Pin.le_trans (Pin.le_trans s m.le) ac.le) ad.le)) _ _ _ (a5 _ _ (by simpa using hj)))) o.pins ?_
   refine dM 3 (.pointer (some ⟨a, 0, none⟩)) o.pins ?_
   refine dT (i := 4) rfl rfl (by kernel_rfl) (fun _ hS => yQ (cs := [v]) ag32 sz32 rfl (fun j u hj => (Pins.of_le hS (Pin.le_trans (Pin.le_trans m.le ac.le) ad.le)) _ _ _ (a6 _ _ (by simpa using hj)))) o.pins ?_
   refine dO (i := 2) (zR (i := 2) rfl rfl rfl (zD rfl _) (zL (vs := [(.pointer (some ⟨a, 0, none⟩)), (.agg [u].toArray)]) Tryz.func53 nm53 rfl rfl rfl ?_))
   refine Calls.mono (root_spec o.pins b8 ay (hu.mono (Pin.le_trans (Pin.le_trans (Pin.le_trans (Pin.le_trans ag s) m.le) ac.le) ad.le)) (good_form hga) (by omega) hla) ?_
   rintro _ df ⟨d, dg, dh, di, p, dj, rfl, b9, ak, ca, cb, y, bi, cc, dk⟩
   refine ⟨_, rfl, ?_⟩
   have al := o.trans y bg
   have bj := PIn.call bg cb o.size
   have dl := ca.len
   have dm : (p.ns.map Nd.l).length = p.ns.length ∧ (p.ns.map Nd.r).length = p.ns.length := ⟨List.length_map .., List.length_map ..⟩
   have dn : p.bs.length = p.ns.length ∧ p.ns.length ≤ 1048576 := ⟨ak.ar.ok.len, ak.ar.ok.lim⟩
   refine ⟨fun _ => (Pins.of_le al.pins y.le), ?_⟩
   refine dO (i := 5) (zR (i := 5) rfl rfl rfl (zD rfl _) (zL (vs := [(.pointer (some ⟨a, 0, none⟩)), (.agg [v].toArray)]) Tryz.func53 nm53 rfl rfl rfl ?_))
   refine Calls.mono (root_spec al.pins b9 ak (hv.mono (Pin.le_trans (Pin.le_trans (Pin.le_trans (Pin.le_trans (Pin.le_trans ag s) m.le) ac.le) ad.le) y.le)) (good_form hgb) (by omega) hlb) ?_
   rintro _ dp ⟨f, dq, dr, ds, g, cd, rfl, bk, z, a0, ce, am, cf, cg, dt⟩
   refine ⟨_, rfl, ?_⟩
   have aa := al.trans am bj
   have du := PIn.call bj ce al.size
   have dv := a0.len
   have dw : (g.ns.map Nd.l).length = g.ns.length ∧ (g.ns.map Nd.r).length = g.ns.length := ⟨List.length_map .., List.length_map ..⟩
   have dx : g.bs.length = g.ns.length ∧ g.ns.length ≤ 1048576 := ⟨z.ar.ok.len, z.ar.ok.lim⟩
   refine ⟨fun _ => (Pins.of_le aa.pins (Pin.le_trans y.le am.le)), ?_⟩
   refine dM 6 (vJ d) (Pins.of_le aa.pins (Pin.le_trans y.le am.le)) ?_
   refine dM 7 (vJ f) (Pins.of_le aa.pins (Pin.le_trans y.le am.le)) ?_
   refine yK (by kernel_rfl) ?_
   refine zA (zB (zC ?_))
   refine qM (.pointer (some ⟨a, 0, none⟩)) ?_
   refine qM (vJ d) ?_
   refine qM (vJ f) ?_
   refine qI rfl (yS (E := eInt) (e := 3) [(vJ d), (vJ f)] [d, f] Tryz.underlying65 sz3 zr3 (by exact reps2 (by rfl) (by rfl)) (ones2 (by rfl) (by rfl)) rfl rfl rfl rfl (by decide) aa.pins (fun a1 ch ci bl bm cj => ?_))
   have ck := aa.step bl bm
   have cl := bk.below bm bl
   have cm := bk.new (x := a1.ownBlock) (fun k hk => by rw [cj] at hk; cases hk; exact Nat.le_refl _)
   have cn : Own eInt 3 cd ch w.heap.size a1 ([d, f]) := ci.weaken aa.size
   obtain ⟨dy, co, a2, cp, cq⟩ := cn.sealed ck
   have cr := cl.moreO co cq cm
   have ct := ((a0.pd ak z bi).trans cc)
   have cu := cg
   refine qI rfl (zL (vs := [(.pointer (some ⟨a, 0, none⟩)), a1]) Tryz.func66 nm66 rfl rfl rfl ?_)
   refine Calls.mono (order_spec a2.pins cr z cp (two_place (a0.place bi) cf) (by simp)) ?_
   rintro _ cv ⟨h, a3, ab, dz, d0, cw, rfl, cx, d1, bn, bo, cy⟩
   refine ⟨_, rfl, ?_⟩
   have cz := a2.tr cy
   have c0 : Own eInt 3 cw cv w.heap.size h ab := cx.weaken a2.size
   refine qM (.tuple #[h, a3]) ?_
   refine qD rfl (xJ (v := h) rfl rfl) ?_
   refine qD rfl (xJ (v := a3) rfl rfl) ?_
   refine qM h ?_
   refine qM a3 ?_
   refine qe (zA (zB (zC ?_)))
   refine qM h ?_
   refine qM (vJ d) ?_
   obtain ⟨d2, d3, a4, bp, d4⟩ := c0.sealed cz
   refine qI rfl (zL (vs := [h, (vJ d)]) Tryz.func67 nm67 rfl rfl rfl ?_)
   refine Calls.mono (slIndexI_spec a4.pins bp) ?_
   rintro _ _ ⟨rfl, rfl⟩
   refine ⟨_, rfl, ?_⟩
   refine qM h ?_
   refine qM (vJ f) ?_
   refine qI rfl (zL (vs := [h, (vJ f)]) Tryz.func67 nm67 rfl rfl rfl ?_)
   refine Calls.mono (slIndexI_spec a4.pins bp) ?_
   rintro _ _ ⟨rfl, rfl⟩
   refine ⟨_, rfl, ?_⟩
   refine qD rfl (yM rfl rfl) ?_
   refine qM (.bool (decide ((ixI ab d : Int) < (ixI ab f)))) ?_
   refine qM (.bool true) ?_
   refine qe (zA ?_)
   refine wp_ret ?_
   refine zT ?_
   refine c_ret2 (v := (.bool (decide ((ixI ab d : Int) < (ixI ab f))))) (u := (.bool true)) rfl rfl rfl rfl rfl ?_
   have hll : ab.length ≤ g.ns.length := by rw [bn.perm.length_eq]; exact bo.len
   have d5 := z.ar.ok.lim
   obtain ⟨e1, e2⟩ := lsB_good hga hgb
   rw [e1, e2, less_law hga hgb bn z bo ct cu (by omega)]
   exact ⟨_, rfl, a4⟩
  refine zB (zC ?_)
  refine qM (.bool false) ?_
  refine qM (.bool false) ?_
  refine qe (zA ?_)
  refine wp_ret ?_
  refine zT ?_
  refine c_ret2 (v := (.bool false)) (u := (.bool false)) rfl rfl rfl rfl rfl ?_
  obtain ⟨e1, e2⟩ := lsB_bad (Or.inr au)
  rw [e1, e2]
  exact ⟨_, rfl, ai⟩
 refine qW ?_
 refine qW ?_
 refine qW ?_
 refine qD rfl (xG (v := (.bool true)) rfl rfl) ?_
 refine qe (zA ?_)
 refine c_ifT rfl rfl ?_
 refine zB (zC ?_)
 refine qM (.bool false) ?_
 refine qM (.bool false) ?_
 refine qe (zA ?_)
 refine wp_ret ?_
 refine zT ?_
 refine c_ret2 (v := (.bool false)) (u := (.bool false)) rfl rfl rfl rfl rfl ?_
 obtain ⟨e1, e2⟩ := lsB_bad (Or.inl aq)
 rw [e1, e2]
 exact ⟨_, rfl, ah⟩

end LI1
end Go.Proofs.YtfnginkcmcfdfaaGreatDoor

namespace Go.GL
open Go Go.RowKit
end Go.GL

namespace Go.GL
open Go Go.RowKit
end Go.GL

namespace Go.GL
open Go Go.RowKit

end Go.GL

namespace Go.GL
open Go Go.RowKit
end Go.GL

namespace Go.GL
open Go Go.RowKit

theorem agg_cells (v : Value) : (Value.agg [v].toArray).cells.toList = [v] := by simp [Value.cells]
theorem flat_one : ∀ (vs : List Value), ((vs.map fun v => Value.agg [v].toArray).flatMap fun v => v.cells.toList) = vs
 | [] => rfl
 | v :: vs => by
  rw [List.map_cons, List.flatMap_cons, agg_cells v, flat_one vs]
  rfl
theorem o_buildA {α : Type} {E : Elt α} {P : Program} {ρ : Operand → Value} {w : World} {G : Pin} {K : Value → World → Prop} {d : Option Nat} {t ty e : Nat} {pos : String} {aft : Array Edge} {g : Option (Nat × Bool)}
  {n : Nat} {parts : Array (Nat × Operand)} (vs : List Value) (ys : List α) {z : Value} (ht : P.underlying t = some (.slice e)) (hs : (P.info? e).map (·.size) = some 1) (hz : (P.info? e).bind (·.zero) = some z)
  (hr : RepsF E G vs ys) (_ : ∀ u ∈ vs, u.oneCell' = true) (hn : n = vs.length) (hn2 : n = ys.length) (hE : E.size = 1)
  (hpt' : (parts.toList.map fun (i, x) => (i, ρ x)) = ((vs.map fun v => Value.agg [v].toArray).zipIdx 0).map fun x => (x.2, x.1)) (hpos : 0 < n ∧ n ≤ 1000000) (hP : Pins G w)
  (h : ∀ v w', Own E e G w' w.heap.size v ys → Pins G w' → Below w.heap.size w w' → v.ownBlock = some w.heap.size → K v w') : EO P ρ ⟨d, .buildSlice t n parts, ty, pos, aft, g⟩ w K := by
 have hpt := (Array.toList_map ..).trans hpt'
 obtain ⟨inf, hinf, hsz⟩ := Option.map_eq_some_iff.1 hs
 have hzz : inf.zero = some z := by simpa [hinf] using hz
 have hrun := run_buildSlice (P := P) w t e n (parts.map fun (i, x) => (i, ρ x)) vs.toArray inf z ht hinf hzz (by rw [hsz]; omega) (by rw [hsz]; omega)
  (by
   rw [hpt, hsz]
   have hf := Great.fill_whole (s := 1) (by decide) (vs.map fun v => Value.agg [v].toArray) ((Array.range (n * 1)).map (z.cells[· % z.cells.size]!)) (fun v hv => by
    obtain ⟨u, _, rfl⟩ := List.mem_map.1 hv
    have := congrArg List.length (agg_cells u)
    simpa using this) (by simp [hn])
   rw [hf, flat_one vs])
 obtain ⟨v, w', h1, h2, h3, h4, h5⟩ := run_build (E := E) (d := d) (ty := ty) (pos := pos) (aft := aft) (g := g) n parts vs ys hrun hP hn2 (by omega) (by rw [hE]; omega) (fun i y hy => by
  obtain ⟨v, hv, hrep⟩ := hr i y hy
  have : (vs.drop (i * E.size)).take E.size = [v] := by
   rw [hE, Nat.mul_one]
   apply List.ext_getElem?
   intro j
   rw [List.getElem?_take, List.getElem?_drop]
   match j with
   | 0 => simpa using hv
   | j + 1 => simp
  rw [this]; exact hrep)
 exact EO.run h1 (h v w' h2 h3 h4 h5)

end Go.GL

set_option maxRecDepth 20000
set_option maxHeartbeats 2000000
namespace Go.Proofs.YtfnginkcmcfdfaaGreatDoor
namespace FO1
open Go.RowKit Go.GL Go.Proofs
open Go.Proofs.YtfnginkcmcfdfaaGreatDoor.B1
open Go.Proofs.YtfnginkcmcfdfaaGreatDoor.PO1
open Go.Proofs.YtfnginkcmcfdfaaGreatDoor.PA1
open Go.Proofs.YtfnginkcmcfdfaaGreatDoor.SO1
open Go.Proofs.YtfnginkcmcfdfaaGreatDoor.OD1
end FO1
end Go.Proofs.YtfnginkcmcfdfaaGreatDoor

set_option maxRecDepth 20000
set_option maxHeartbeats 2000000
namespace Go.Proofs.YtfnginkcmcfdfaaGreatDoor
namespace NG1
open Go.RowKit Go.GL Go.Proofs
open Go.Proofs.YtfnginkcmcfdfaaGreatDoor.B1
open Go.Proofs.YtfnginkcmcfdfaaGreatDoor.K1
open Go.Proofs.YtfnginkcmcfdfaaGreatDoor.PO1
open Go.Proofs.YtfnginkcmcfdfaaGreatDoor.PL1
end NG1
end Go.Proofs.YtfnginkcmcfdfaaGreatDoor

set_option maxRecDepth 20000
set_option maxHeartbeats 2000000
namespace Go.Proofs.YtfnginkcmcfdfaaGreatDoor
namespace NF1
open Go.RowKit Go.GL Go.Proofs
open Go.Proofs.YtfnginkcmcfdfaaGreatDoor.B1
open Go.Proofs.YtfnginkcmcfdfaaGreatDoor.C1
open Go.Proofs.YtfnginkcmcfdfaaGreatDoor.D1
open Go.Proofs.YtfnginkcmcfdfaaGreatDoor.E1
open Go.Proofs.YtfnginkcmcfdfaaGreatDoor.K1
open Go.Proofs.YtfnginkcmcfdfaaGreatDoor.PO1
open Go.Proofs.YtfnginkcmcfdfaaGreatDoor.PL1
open Go.Proofs.YtfnginkcmcfdfaaGreatDoor.PA1
open Go.Proofs.YtfnginkcmcfdfaaGreatDoor.SO1
open Go.Proofs.YtfnginkcmcfdfaaGreatDoor.OD1
open Go.Proofs.YtfnginkcmcfdfaaGreatDoor.FO1
open Go.Proofs.YtfnginkcmcfdfaaGreatDoor.NG1
end NF1
end Go.Proofs.YtfnginkcmcfdfaaGreatDoor

set_option maxRecDepth 20000
set_option maxHeartbeats 2000000
namespace Go.Proofs.YtfnginkcmcfdfaaGreatDoor
namespace SM1
open Go.RowKit Go.GL Go.Proofs
open Go.Proofs.YtfnginkcmcfdfaaGreatDoor.B1
open Go.Proofs.YtfnginkcmcfdfaaGreatDoor.C1
open Go.Proofs.YtfnginkcmcfdfaaGreatDoor.D1
open Go.Proofs.YtfnginkcmcfdfaaGreatDoor.E1
open Go.Proofs.YtfnginkcmcfdfaaGreatDoor.K1
open Go.Proofs.YtfnginkcmcfdfaaGreatDoor.PO1
open Go.Proofs.YtfnginkcmcfdfaaGreatDoor.PL1
open Go.Proofs.YtfnginkcmcfdfaaGreatDoor.PA1
open Go.Proofs.YtfnginkcmcfdfaaGreatDoor.SO1
open Go.Proofs.YtfnginkcmcfdfaaGreatDoor.OD1
open Go.Proofs.YtfnginkcmcfdfaaGreatDoor.FO1
open Go.Proofs.YtfnginkcmcfdfaaGreatDoor.NG1
open Go.Proofs.YtfnginkcmcfdfaaGreatDoor.NF1
end SM1
end Go.Proofs.YtfnginkcmcfdfaaGreatDoor

set_option maxRecDepth 20000
set_option maxHeartbeats 2000000
namespace Go.Proofs.YtfnginkcmcfdfaaGreatDoor
namespace MK1
open Go.RowKit Go.GL Go.Proofs
open Go.Proofs.YtfnginkcmcfdfaaGreatDoor.B1
open Go.Proofs.YtfnginkcmcfdfaaGreatDoor.C1
open Go.Proofs.YtfnginkcmcfdfaaGreatDoor.D1
open Go.Proofs.YtfnginkcmcfdfaaGreatDoor.E1
open Go.Proofs.YtfnginkcmcfdfaaGreatDoor.K1
open Go.Proofs.YtfnginkcmcfdfaaGreatDoor.PO1
open Go.Proofs.YtfnginkcmcfdfaaGreatDoor.PL1
open Go.Proofs.YtfnginkcmcfdfaaGreatDoor.PA1
open Go.Proofs.YtfnginkcmcfdfaaGreatDoor.SO1
open Go.Proofs.YtfnginkcmcfdfaaGreatDoor.OD1
open Go.Proofs.YtfnginkcmcfdfaaGreatDoor.FO1
open Go.Proofs.YtfnginkcmcfdfaaGreatDoor.NG1
open Go.Proofs.YtfnginkcmcfdfaaGreatDoor.NF1
open Go.Proofs.YtfnginkcmcfdfaaGreatDoor.SM1





theorem pl102 : (Tryz.prog.underlying 102).bind (placesD Tryz.prog) = some [(0, 1), (1, 1)] := by kernel_rfl





theorem l3Make_spec {w : World} {G : Pin} {u v : Value} {fs gs : List (List Nd)} (hP : Pins G w) (hu : RSl (eSl eNode) G u fs) (hv : RSl (eSl eNode) G v gs) (hfa : AllW fs) (hga : AllW gs) :
  Calls Tryz.prog 63 [u, v].toArray w fun e w' => ∃ (u : Value) (G' : Pin), e = .returned (.agg [u].toArray) ∧ RSl eNode G' u (formG (mkGm fs gs)) ∧ Ext noS G w G' w' := by
 refine zZ (n := 50) Tryz.func63 Tryz.ntmps63 rfl rfl ?_
 have a6 : Ext noS G w G w := Ext.refl hP
 have hmu := hu.max
 have hmv := hv.max
 have hfle := hfa.len
 have hgle := hga.len
 refine zB (zC ?_)
 refine qI rfl (xA [(.slice none 0 0)] zr32 rfl a6.pins (fun d w2 hf b0 dw dx => ?_))
 have a7 := a6.step dw dx
 have dy : w.heap.size ≤ d := by have := a6.size; omega
 refine qe (zA (zB (zC ?_)))
 refine qD rfl (xX [(.slice none 0 0), (.slice none 0 0)] [(.slice none 0 0), (.slice none 0 0)] [] Tryz.underlying102 zr102 rfl pl102 rfl (fun _ h => by cases h) rfl) ?_
 refine qI rfl (xM [(.slice none 0 0), (.slice none 0 0)] (v := (.agg [(.slice none 0 0), (.slice none 0 0)].toArray)) rfl rfl a7.pins (fun a hg dz b2 d0 b3 => ?_))
 have a8 := a7.step d0 b3
 have b4 := b0.below b3
 have a9 : Apart (some a) (some d) := zK (congrArg some dz) b0.lt
 have ba : w.heap.size ≤ a := by have := a7.size; omega
 refine qM (.pointer (some ⟨a, 0, none⟩)) ?_
 refine qe (zA (zB (zC ?_)))
 refine qI rfl (yY (E := eInt) (e := 3) Tryz.underlying65 sz3 a8.pins (fun q d1 d2 d3 bb b5 => ?_))
 have bc := a8.step d3 bb
 have b6 := b4.below bb
 have b7 := b2.below bb
 have d4 : Apart q.ownBlock (some d) := zK b5 b4.lt
 have d5 : Apart q.ownBlock (some a) := zK b5 b2.lt
 have b8 : Own eInt 3 G d1 w.heap.size q ([]) := d2.weaken a8.size
 refine qI rfl (yY (E := eInt) (e := 3) Tryz.underlying65 sz3 bc.pins (fun f d6 d7 d8 ao bd => ?_))
 have d9 := bc.step d8 ao
 have ea := b8.below ao
 have eb := b6.below ao
 have ec := b7.below ao
 have ed : Apart f.ownBlock q.ownBlock := zG bd b8.lt
 have ee : Apart f.ownBlock (some d) := zK bd b6.lt
 have ca : Apart f.ownBlock (some a) := zK bd b7.lt
 have ef : Own eInt 3 G d6 w.heap.size f ([]) := d7.weaken bc.size
 refine qM q ?_
 refine qM f ?_
 refine qe (zA (zB (zB (zC ?_))))
 refine qM (vJ 0) ?_
 refine qe (zA ?_)
 refine zW ?_
 refine yL (fun (k : Nat) (en : Nat → Value) (W : World) => ∃ (ac : Nat → Value) (b : Nat) (atA : Value) (atsA : List Int) (uA : Value) (vA : Value) (nsA : List Nd) (bsA : List Int) (GLA : Pin), en = (upd (upd (upd (upd (upd (upd (upd ac 0 u) 1 v) 4 (.pointer (some ⟨d, 0, none⟩))) 5 (.pointer (some ⟨a, 0, none⟩))) 6 atA) 7 f) 8 (vJ (b : Int))) ∧ k = fs.length - b ∧ Ext noS G w GLA W ∧ Pin.le G GLA ∧ (b ≤ fs.length) ∧ (PoolOk (bkq nsA bsA)) ∧ (GsOk (bkq nsA bsA) atsA ((fs.take b).map gOf)) ∧ (nsA.length ≤ 1000 * b) ∧ (Own eInt 3 GLA W w.heap.size atA (atsA)) ∧ (Own eNode 99 GLA W 0 uA (nsA)) ∧ (Own eInt 3 GLA W 0 vA (bsA)) ∧ (Own eInt 3 GLA W w.heap.size f ([])) ∧ (Bx GLA W d [(.slice none 0 0)]) ∧ (Bx GLA W a [uA, vA]) ∧ (Apart atA.ownBlock uA.ownBlock) ∧ (Apart atA.ownBlock vA.ownBlock) ∧ (Apart atA.ownBlock f.ownBlock) ∧ (Apart atA.ownBlock (some d)) ∧ (Apart atA.ownBlock (some a)) ∧ (Apart uA.ownBlock vA.ownBlock) ∧ (Apart uA.ownBlock f.ownBlock) ∧ (Apart uA.ownBlock (some d)) ∧ (Apart uA.ownBlock (some a)) ∧ (Apart vA.ownBlock f.ownBlock) ∧ (Apart vA.ownBlock (some d)) ∧ (Apart vA.ownBlock (some a)) ∧ (Lo w noS uA.ownBlock) ∧ (Lo w noS vA.ownBlock)) _ ⟨_, 0, q, [], (.slice none 0 0), (.slice none 0 0), [], [], G, (pS 8 (pS 7 (pS 6 (pS 5 (pS 4 (pS 1 (pU 0))))))), rfl, d9, Pin.le_refl _, Nat.zero_le _, (bkq_ok Ar.empty), GsOk.nil, (by simp), ea, (Own.nil _ _ _ _ _), (Own.nil _ _ _ _ _), ef, eb, ec, apart_none.symm, apart_none.symm, ed.symm, d4, d5, apart_none, apart_none, apart_none, apart_none, apart_none, apart_none, apart_none, (lo_none _ _), (lo_none _ _)⟩ ?_
 rintro hh _ hi ⟨ac, b, atA, atsA, uA, vA, nsA, bsA, GLA, rfl, hk, r, ad, hl, hokA, hgsA, hblA, ap, cb, cc, aq, au, cd, ce, cf, be, bf, ae, cg, ch, ci, cj, ck, cl, cm, cn, co⟩
 have hglA := hgsA.len
 rw [List.length_map, List.length_take] at hglA
 refine zB (zB (zC ?_))
 refine qM (vJ (b : Int)) ?_
 refine qM u ?_
 refine qD rfl (zM Tryz.underlying79 (v := u) rfl hu) ?_
 refine qD rfl (yM rfl rfl) ?_
 refine qe (zA ?_)
 refine yD (p := ((b : Int) : Int) < (fs.length : Int)) rfl rfl (fun eg => ?_) (fun eg => ?_)
 ·skip
  have hgd := hfa.ok b (by omega)
  have hgdl := hgd.2.1
  have hgdh := hgd.2.2
  have hrk := bk_root (fs := fs.getD b []) hokA hgd.1 (by omega) (by omega)
  refine wp_skip ?_
  refine zA (zB ?_)
  refine zW ?_
  refine zC ?_
  refine qM atA ?_
  refine qM (.pointer (some ⟨a, 0, none⟩)) ?_
  refine qM u ?_
  refine qM (vJ (b : Int)) ?_
  refine qD rfl (zI Tryz.underlying79 sz32 (v := u) rfl rfl hu (by omega) (by omega)) ?_
  obtain ⟨eh, cp, ei⟩ := nm_form (hu.at (z := (b : Int)) (by omega) (by omega)) (j := b) rfl
  have hm := cp.max
  refine qD rfl (ei ag32 sz32 rfl (Pins.of_le r.pins ad)) ?_
  refine qI rfl (zL (vs := [(.pointer (some ⟨a, 0, none⟩)), (.agg [eh].toArray)]) Tryz.func91 nm91 rfl rfl rfl ?_)
  refine Calls.mono (root_spec r.pins ⟨cd, cb, cc, cj.symm, cm.symm, cg⟩ hokA.ar.ok (cp.mono ad) ⟨hgd.1, hgdl⟩ (by first | omega | (simp; omega))) ?_
  rintro _ hn ⟨af, ag, cq, rfl, s, ah, av, aw⟩
  refine ⟨_, rfl, ?_⟩
  have bg : ∀ i, inS a uA vA i → w.heap.size ≤ i ∨ noS i := inS_lo (yT ba) cn co
  have bh := r.trans ah bg
  have bi := notS (u := uA) (v := vA) ae ce cf
  have ej := ap.extS ah bi
  have cr : Apart atA.ownBlock af.ownBlock := xU av bi (qE ap)
  have ct : Apart atA.ownBlock ag.ownBlock := xU aw bi (qE ap)
  have bj := notS (u := uA) (v := vA) ca ch.symm ck.symm
  have ek := aq.extS ah bj
  have el : Apart f.ownBlock af.ownBlock := xU av bj (qE aq)
  have em : Apart f.ownBlock ag.ownBlock := xU aw bj (qE aq)
  have bk := notS (u := uA) (v := vA) a9.symm ci.symm cl.symm
  have eo := au.extS ah (notSb bk)
  have ep : Apart (some d) af.ownBlock := xU av bk (box_lt au)
  have er : Apart (some d) ag.ownBlock := xU aw bk (box_lt au)
  have es := s.bx
  have et := s.ou
  have eu := s.ov
  have ev := s.abu
  have ew := s.abv
  have ex := s.auv
  have ey := xS av bg r.size
  have ez := xS aw bg r.size
  refine qI rfl (yS (E := eInt) (e := 3) [(vJ (rootM nsA bsA (fs.getD b [])))] [rootM nsA bsA (fs.getD b [])] Tryz.underlying65 sz3 zr3 (by exact xV (by rfl)) (xC (by rfl)) rfl rfl rfl rfl (by decide) bh.pins (fun cu e0 e1 e2 g ho => ?_))
  have bl := bh.step e2 g
  have cv := ej.below g
  have cw := ek.below g
  have cx := et.below g
  have cy := eu.below g
  have cz := eo.below g
  have c0 := es.below g
  have e3 : Own eInt 3 cq e0 w.heap.size cu ([rootM nsA bsA (fs.getD b [])]) := e1.weaken bh.size
  refine qI rfl (oA (E := eInt) (v := atA) (u := cu) 8 Tryz.underlying65 ap3 (by decide) rfl rfl bl.pins cv e3.src (bl.size) (fun l hp e4 e5 t ai => ?_))
  have e6 := bl.write e5 t ((yC cv))
  have e7 := cw.keptA t be.symm
  have e8 := cx.keptA t cr.symm
  have e9 := cy.keptA t ct.symm
  have fa := cz.keptA t bf.symm
  have fb := c0.keptA t ae.symm
  have fc : Apart f.ownBlock l.ownBlock := zF be.symm ai cw.lt
  have fd : Apart af.ownBlock l.ownBlock := zF cr.symm ai cx.lt
  have fe : Apart ag.ownBlock l.ownBlock := zF ct.symm ai cy.lt
  have ff : Apart (some d) l.ownBlock := zJ bf.symm ai cz.lt
  have fg : Apart (some a) l.ownBlock := zJ ae.symm ai c0.lt
  have hq : (atsA ++ ([rootM nsA bsA (fs.getD b [])])).length = atsA.length + 1 := List.length_append
  refine qM l ?_
  refine qe ?_
  refine yH ?_
  refine zA (zC ?_)
  refine qM (vJ (b : Int)) ?_
  refine qD rfl (yP rfl rfl (by omega)) ?_
  refine qM (vJ ((b : Int) + 1)) ?_
  refine qe ?_
  refine yG ?_
  refine ⟨_, ?_, _, rfl, _, b + 1, l, atsA ++ ([rootM nsA bsA (fs.getD b [])]), af, ag, (addM nsA bsA (fs.getD b [])).2.1, (addM nsA bsA (fs.getD b [])).2.2, cq, (pS 8 (pS 7 (pS 6 (pS 5 (pS 4 (pS 1 (pU 0))))))), rfl, e6, (Pin.le_trans ad ah.le), (by omega), hrk.ok, (by rw [take_map (by omega)]; exact (hgsA.px hrk.px hokA hrk.ok).snoc hrk.pl hrk.pd), (by have h8 := hrk.len; have h9 := hgd.2.2; omega), e4, e8, e9, e7, fa, fb, fd.symm, fe.symm, fc.symm, ff.symm, fg.symm, ex, el.symm, ep.symm, ev.symm, em.symm, er.symm, ew.symm, ey, ez⟩
  omega
 refine wp_exit ?_
 refine zX ?_
 refine yJ ?_
 refine yI ?_
 refine zA (zB (zB (zC ?_)))
 refine qM (vJ 0) ?_
 refine qe (zA ?_)
 refine zW ?_
 have hi5n : b = fs.length := by omega
 have hgsF : GsOk (bkq nsA bsA) atsA (fs.map gOf) := by rw [hi5n, List.take_length] at hgsA; exact hgsA
 refine yL (fun (k : Nat) (en : Nat → Value) (W : World) => ∃ (ac : Nat → Value) (c : Nat) (atB : Value) (atsB : List Int) (uB : Value) (vB : Value) (nsB : List Nd) (bsB : List Int) (GLB : Pin), en = (upd (upd (upd (upd (upd (upd ac 1 v) 4 (.pointer (some ⟨d, 0, none⟩))) 5 (.pointer (some ⟨a, 0, none⟩))) 6 atA) 7 atB) 9 (vJ (c : Int))) ∧ k = gs.length - c ∧ Ext noS G w GLB W ∧ Pin.le GLA GLB ∧ (c ≤ gs.length) ∧ (PoolOk (bkq nsB bsB)) ∧ (GsOk (bkq nsB bsB) atsB ((gs.take c).map gOf)) ∧ (nsB.length ≤ 100000 + 1000 * c) ∧ (GsOk (bkq nsB bsB) atsA (fs.map gOf)) ∧ (Own eInt 3 GLB W w.heap.size atB (atsB)) ∧ (Own eNode 99 GLB W 0 uB (nsB)) ∧ (Own eInt 3 GLB W 0 vB (bsB)) ∧ (Own eInt 3 GLB W w.heap.size atA (atsA)) ∧ (Bx GLB W d [(.slice none 0 0)]) ∧ (Bx GLB W a [uB, vB]) ∧ (Apart atB.ownBlock uB.ownBlock) ∧ (Apart atB.ownBlock vB.ownBlock) ∧ (Apart atB.ownBlock atA.ownBlock) ∧ (Apart atB.ownBlock (some d)) ∧ (Apart atB.ownBlock (some a)) ∧ (Apart uB.ownBlock vB.ownBlock) ∧ (Apart uB.ownBlock atA.ownBlock) ∧ (Apart uB.ownBlock (some d)) ∧ (Apart uB.ownBlock (some a)) ∧ (Apart vB.ownBlock atA.ownBlock) ∧ (Apart vB.ownBlock (some d)) ∧ (Apart vB.ownBlock (some a)) ∧ (Lo w noS uB.ownBlock) ∧ (Lo w noS vB.ownBlock)) _ ⟨_, 0, f, [], uA, vA, nsA, bsA, GLA, (pS 9 (pS 7 (pS 6 (pS 5 (pS 4 (pU 1)))))), rfl, r, Pin.le_refl _, Nat.zero_le _, hokA, GsOk.nil, (by omega), hgsF, aq, cb, cc, ap, au, cd, ch.symm, ck.symm, be.symm, ee, ca, cg, ce.symm, ci, cj, cf.symm, cl, cm, cn, co⟩ ?_
 rintro hr _ hs ⟨ac, c, atB, atsB, uB, vB, nsB, bsB, GLB, rfl, ht, x, bm, hw, hokB, hgsB, hblB, hgsL, ax, c1, c2, ay, az, c3, c4, c5, bn, bo, a0, c6, c7, c8, c9, da, db, dc, dd, de⟩
 have hglB := hgsB.len
 rw [List.length_map, List.length_take] at hglB
 refine zB (zB (zC ?_))
 refine qM (vJ (c : Int)) ?_
 refine qM v ?_
 refine qD rfl (zM Tryz.underlying79 (v := v) rfl hv) ?_
 refine qD rfl (yM rfl rfl) ?_
 refine qe (zA ?_)
 refine yD (p := ((c : Int) : Int) < (gs.length : Int)) rfl rfl (fun fj => ?_) (fun fj => ?_)
 ·skip
  have hgd := hga.ok c (by omega)
  have hgdl := hgd.2.1
  have hgdh := hgd.2.2
  have hrk := bk_root (fs := gs.getD c []) hokB hgd.1 (by omega) (by omega)
  refine wp_skip ?_
  refine zA (zB ?_)
  refine zW ?_
  refine zC ?_
  refine qM atB ?_
  refine qM (.pointer (some ⟨a, 0, none⟩)) ?_
  refine qM v ?_
  refine qM (vJ (c : Int)) ?_
  refine qD rfl (zI Tryz.underlying79 sz32 (v := v) rfl rfl hv (by omega) (by omega)) ?_
  obtain ⟨fk, df, fl⟩ := nm_form (hv.at (z := (c : Int)) (by omega) (by omega)) (j := c) rfl
  have hx := df.max
  refine qD rfl (fl ag32 sz32 rfl (Pins.of_le x.pins (Pin.le_trans ad bm))) ?_
  refine qI rfl (zL (vs := [(.pointer (some ⟨a, 0, none⟩)), (.agg [fk].toArray)]) Tryz.func91 nm91 rfl rfl rfl ?_)
  refine Calls.mono (root_spec x.pins ⟨c3, c1, c2, c9.symm, dc.symm, c6⟩ hokB.ar.ok (df.mono (Pin.le_trans ad bm)) ⟨hgd.1, hgdl⟩ (by first | omega | (simp; omega))) ?_
  rintro _ hy ⟨aj, ak, dg, rfl, y, al, a1, a2⟩
  refine ⟨_, rfl, ?_⟩
  have bp : ∀ i, inS a uB vB i → w.heap.size ≤ i ∨ noS i := inS_lo (yT ba) dd de
  have bq := x.trans al bp
  have br := notS (u := uB) (v := vB) a0 c4 c5
  have fm := ax.extS al br
  have dh : Apart atB.ownBlock aj.ownBlock := xU a1 br (qE ax)
  have di : Apart atB.ownBlock ak.ownBlock := xU a2 br (qE ax)
  have bs := notS (u := uB) (v := vB) ae c7.symm da.symm
  have fn := ay.extS al bs
  have fo : Apart atA.ownBlock aj.ownBlock := xU a1 bs (qE ay)
  have fp : Apart atA.ownBlock ak.ownBlock := xU a2 bs (qE ay)
  have bt := notS (u := uB) (v := vB) a9.symm c8.symm db.symm
  have fq := az.extS al (notSb bt)
  have fr : Apart (some d) aj.ownBlock := xU a1 bt (box_lt az)
  have ft : Apart (some d) ak.ownBlock := xU a2 bt (box_lt az)
  have fu := y.bx
  have fv := y.ou
  have fw := y.ov
  have fx := y.abu
  have fy := y.abv
  have fz := y.auv
  have f0 := xS a1 bp x.size
  have f1 := xS a2 bp x.size
  refine qI rfl (yS (E := eInt) (e := 3) [(vJ (rootM nsB bsB (gs.getD c [])))] [rootM nsB bsB (gs.getD c [])] Tryz.underlying65 sz3 zr3 (by exact xV (by rfl)) (xC (by rfl)) rfl rfl rfl rfl (by decide) bq.pins (fun dj f2 f3 f4 m hz => ?_))
  have bu := bq.step f4 m
  have dk := fm.below m
  have dl := fn.below m
  have dm := fv.below m
  have dn := fw.below m
  have dp := fq.below m
  have dq := fu.below m
  have f5 : Own eInt 3 dg f2 w.heap.size dj ([rootM nsB bsB (gs.getD c [])]) := f3.weaken bq.size
  refine qI rfl (oA (E := eInt) (v := atB) (u := dj) 8 Tryz.underlying65 ap3 (by decide) rfl rfl bu.pins dk f5.src (bu.size) (fun o h0 f6 f7 aa am => ?_))
  have f8 := bu.write f7 aa ((yC dk))
  have f9 := dl.keptA aa bn.symm
  have ga := dm.keptA aa dh.symm
  have gb := dn.keptA aa di.symm
  have gc := dp.keptA aa bo.symm
  have gd := dq.keptA aa a0.symm
  have ge : Apart atA.ownBlock o.ownBlock := zF bn.symm am dl.lt
  have gf : Apart aj.ownBlock o.ownBlock := zF dh.symm am dm.lt
  have gg : Apart ak.ownBlock o.ownBlock := zF di.symm am dn.lt
  have gh : Apart (some d) o.ownBlock := zJ bo.symm am dp.lt
  have gi : Apart (some a) o.ownBlock := zJ a0.symm am dq.lt
  have h1 : (atsB ++ ([rootM nsB bsB (gs.getD c [])])).length = atsB.length + 1 := List.length_append
  refine qM o ?_
  refine qe ?_
  refine yH ?_
  refine zA (zC ?_)
  refine qM (vJ (c : Int)) ?_
  refine qD rfl (yP rfl rfl (by omega)) ?_
  refine qM (vJ ((c : Int) + 1)) ?_
  refine qe ?_
  refine yG ?_
  refine ⟨_, ?_, _, rfl, _, c + 1, o, atsB ++ ([rootM nsB bsB (gs.getD c [])]), aj, ak, (addM nsB bsB (gs.getD c [])).2.1, (addM nsB bsB (gs.getD c [])).2.2, dg, (pS 9 (pS 7 (pS 6 (pS 5 (pS 4 (pU 1)))))), rfl, f8, (Pin.le_trans bm al.le), (by omega), hrk.ok, (by rw [take_map (by omega)]; exact (hgsB.px hrk.px hokB hrk.ok).snoc hrk.pl hrk.pd), (by have h8 := hrk.len; have h9 := hgd.2.2; omega), (hgsL.px hrk.px hokB hrk.ok), f6, ga, gb, f9, gc, gd, gf.symm, gg.symm, ge.symm, gh.symm, gi.symm, fz, fo.symm, fr.symm, fx.symm, fp.symm, ft.symm, fy.symm, f0, f1⟩
  omega
 refine wp_exit ?_
 refine zX ?_
 refine yJ ?_
 refine yI ?_
 refine zA (zB (zC ?_))
 have hj5n : c = gs.length := by omega
 have hgsR : GsOk (bkq nsB bsB) atsB (gs.map gOf) := by rw [hj5n, List.take_length] at hgsB; exact hgsB
 have gj := hgsL.len
 have gk := hgsR.len
 rw [List.length_map] at gj gk
 have hpt := bk_put (xs := atsA) (ys := atsB) hokB (by omega) ⟨by omega, by omega⟩ hgsL.pl hgsR.pl
 have hpd := hpt.pd
 rw [hgsL.eq, hgsR.eq] at hpd
 refine qM (.pointer (some ⟨a, 0, none⟩)) ?_
 refine qM (.pointer (some ⟨a, 0, none⟩)) ?_
 refine qM atA ?_
 refine qM atB ?_
 obtain ⟨h2, bv, gl, gm, an⟩ := ay.sealed x
 have gn := ax.moreO bv an bn
 have gp := c1.moreO bv an c7
 have gq := c2.moreO bv an da
 have gr := az.moreO an bf.symm
 have gt := c3.moreO an ae.symm
 obtain ⟨h3, bw, a3, gu, a4⟩ := gn.sealed gl
 have gv := gp.moreO bw a4 c4.symm
 have gw := gq.moreO bw a4 c5.symm
 have gx := gr.moreO a4 bo.symm
 have gy := gt.moreO a4 a0.symm
 refine qI rfl (zL (vs := [(.pointer (some ⟨a, 0, none⟩)), atA, atB]) Tryz.func112 nm112 rfl rfl rfl ?_)
 refine Calls.mono (put_spec a3.pins ⟨gy, gv, gw, c9.symm, dc.symm, c6⟩ hokB.ar.ok (gm.mono bw) gu ⟨by omega, by omega⟩ (places_of hgsL.pl) (places_of hgsR.pl)) ?_
 rintro _ h4 ⟨h5, h6, h7, rfl, ab, dr, gz, g0⟩
 refine ⟨_, rfl, ?_⟩
 have bz : ∀ i, inS a uB vB i → w.heap.size ≤ i ∨ noS i := inS_lo (yT ba) dd de
 have ds := a3.trans dr bz
 have g1 := notS (u := uB) (v := vB) a9.symm c8.symm db.symm
 have g2 := gx.extS dr (notSb g1)
 have g3 := ab.bx
 have g4 := ab.ou
 have g5 := ab.ov
 have g6 := ab.abu
 have g7 := ab.abv
 have g8 := ab.auv
 have ia := xS gz bz a3.size
 have ib := xS g0 bz a3.size
 refine qI rfl (zL (vs := [(.pointer (some ⟨a, 0, none⟩)), (vJ (putK nsB bsB atsA atsB))]) Tryz.func90 nm90 rfl rfl rfl ?_)
 refine Calls.mono (form_spec ds.pins ⟨g3, g4, g5, g6, g7, g8⟩ hpt.ok.ar.ok hpt.pl) ?_
 rintro _ ic ⟨a5, ie, rfl, dt, du⟩
 refine ⟨_, rfl, ?_⟩
 have dv := ds.tr du
 have g9 := g2.ext du
 refine q0 rfl rfl rfl (xK (cs' := [a5]) (us := [a5]) (v := (.agg [a5].toArray)) sz32 rfl rfl rfl (xC dt.one) dv.pins g9 (Nat.le_of_ble_eq_true rfl) rfl (fun ig ha hb hc ih => ?_))
 have hd := dv.write hb hc ((yT dy))
 refine qe (zA ?_)
 refine wp_ret ?_
 refine zT ?_
 refine c_retc (cs := [a5]) rfl rfl rfl ag32 sz32 (fun j u hj => by rw [Nat.zero_add]; exact ha.cell hj) ?_
 exact ⟨_, _, rfl, (by rw [show mkGm fs gs = _ from hpd.symm, ← book_form hpt.ok hpt.pl]; exact dt), hd⟩

end MK1
end Go.Proofs.YtfnginkcmcfdfaaGreatDoor

set_option maxRecDepth 20000
set_option maxHeartbeats 2000000
namespace Go.Proofs.YtfnginkcmcfdfaaGreatDoor
namespace G1
open Go.RowKit Go.GL Go.Proofs
open Go.Proofs.YtfnginkcmcfdfaaGreatDoor.B1
open Go.Proofs.YtfnginkcmcfdfaaGreatDoor.C1
open Go.Proofs.YtfnginkcmcfdfaaGreatDoor.E1
open Go.Proofs.YtfnginkcmcfdfaaGreatDoor.L1
end G1
end Go.Proofs.YtfnginkcmcfdfaaGreatDoor

set_option maxRecDepth 20000
set_option maxHeartbeats 2000000
namespace Go.Proofs.YtfnginkcmcfdfaaGreatDoor
namespace M1
open Go.RowKit Go.GL Go.Proofs
open Go.Proofs.YtfnginkcmcfdfaaGreatDoor.B1
open Go.Proofs.YtfnginkcmcfdfaaGreatDoor.C1
open Go.Proofs.YtfnginkcmcfdfaaGreatDoor.E1
open Go.Proofs.YtfnginkcmcfdfaaGreatDoor.L1
open Go.Proofs.YtfnginkcmcfdfaaGreatDoor.G1
end M1
end Go.Proofs.YtfnginkcmcfdfaaGreatDoor

set_option maxRecDepth 20000
set_option maxHeartbeats 2000000
namespace Go.Proofs.YtfnginkcmcfdfaaGreatDoor
namespace N1
open Go.RowKit Go.GL Go.Proofs
open Go.Proofs.YtfnginkcmcfdfaaGreatDoor.B1
open Go.Proofs.YtfnginkcmcfdfaaGreatDoor.C1
open Go.Proofs.YtfnginkcmcfdfaaGreatDoor.E1
open Go.Proofs.YtfnginkcmcfdfaaGreatDoor.L1
open Go.Proofs.YtfnginkcmcfdfaaGreatDoor.G1
open Go.Proofs.YtfnginkcmcfdfaaGreatDoor.M1




theorem pl102 : (Tryz.prog.underlying 102).bind (placesD Tryz.prog) = some [(0, 1), (1, 1)] := by kernel_rfl




theorem l3Part_spec {w : World} {G : Pin} {v : Value} {ns : List Nd} {z : Int} (hP : Pins G w) (hv : RSl eNode G v ns) (hf : FormOk ns) (hz : 0 ≤ z ∧ z < ns.length) :
  Calls Tryz.prog 113 [(.agg [v].toArray), (vJ z)].toArray w fun e w' => ∃ (u : Value) (G' : Pin), e = .returned (.agg [u].toArray) ∧ RSl eNode G' u (partS ns z) ∧ Ext noS G w G' w' := by
 refine zZ (n := 18) Tryz.func113 Tryz.ntmps113 rfl rfl ?_
 have f : Ext noS G w G w := Ext.refl hP
 have hfl := hf.len
 have hao := addM_all qF hf (by simp; omega)
 have hal := hao.len
 refine zB (zC ?_)
 refine qI rfl (xM [v] (v := (.agg [v].toArray)) rfl rfl f.pins (fun b1 w2 bb ad ae af => ?_))
 have ag := f.step ae af
 have ah : w.heap.size ≤ b1 := by have := f.size; omega
 obtain ⟨G9, ai, g, aj, bd⟩ := ad.shut ag ah
 refine qI rfl (xA [(.slice none 0 0)] zr32 rfl g.pins (fun p be bf q ak al => ?_))
 have k := g.step ak al
 have am : w.heap.size ≤ p := by have := g.size; omega
 refine qe (zA (zB (zC ?_)))
 refine qD rfl (xX [(.slice none 0 0), (.slice none 0 0)] [(.slice none 0 0), (.slice none 0 0)] [] Tryz.underlying102 zr102 rfl pl102 rfl (fun _ h => by cases h) rfl) ?_
 refine qI rfl (xM [(.slice none 0 0), (.slice none 0 0)] (v := (.agg [(.slice none 0 0), (.slice none 0 0)].toArray)) rfl rfl k.pins (fun a bg an ao ap s => ?_))
 have c := k.step ap s
 have aq := q.below s
 have ar : Apart (some a) (some p) := zK (congrArg some an) q.lt
 have au : w.heap.size ≤ a := by have := k.size; omega
 refine qM (.pointer (some ⟨a, 0, none⟩)) ?_
 refine qe (zA (zB (zC ?_)))
 refine qM (.pointer (some ⟨a, 0, none⟩)) ?_
 refine qD rfl (yQ (cs := [v]) ag32 sz32 rfl (fun j u hj => c.pins _ _ _ (aj _ _ (by simpa using hj)))) ?_
 refine qI rfl (zL (vs := [(.pointer (some ⟨a, 0, none⟩)), (.agg [v].toArray)]) Tryz.func137 nm137 rfl rfl rfl ?_)
 refine Calls.mono (add_spec c.pins ⟨ao, (Own.nil _ _ _ _ _), (Own.nil _ _ _ _ _), apart_none.symm, apart_none.symm, apart_none⟩ qF (hv.mono ai) hf (by first | omega | (simp; omega))) ?_
 rintro _ bh ⟨l, bi, bj, bk, rfl, t, b, x, av, aw⟩
 refine ⟨_, rfl, ?_⟩
 have m : ∀ i, inS a (.slice none 0 0) (.slice none 0 0) i → w.heap.size ≤ i ∨ noS i := inS_lo (yT au) (lo_none _ _) (lo_none _ _)
 have o := c.trans x m
 have ax := notS (u := (.slice none 0 0)) (v := (.slice none 0 0)) ar.symm apart_none.symm apart_none.symm
 have ay := aq.extS x (notSb ax)
 have az := b.bx
 have a0 := b.ou
 have a1 := b.ov
 have a2 := b.abu
 have a3 := b.abv
 have a4 := b.auv
 have bl := xS av m c.size
 have bm := xS aw m c.size
 refine qM l ?_
 refine qe (zA (zB (zC ?_)))
 refine qM (.pointer (some ⟨a, 0, none⟩)) ?_
 refine qM l ?_
 refine qM (vJ z) ?_
 refine qD rfl (zI Tryz.underlying65 sz3 (v := l) rfl rfl t (by omega) (by omega)) ?_
 refine qD rfl (zH (r := ((addM ([]) ([]) ns).1).getD (z).toNat 0) rfl ag3 (z := z) rfl t o.pins (by omega) (by omega)) ?_
 refine qI rfl (zL (vs := [(.pointer (some ⟨a, 0, none⟩)), (vJ (((addM ([]) ([]) ns).1).getD (z).toNat 0))]) Tryz.func90 nm90 rfl rfl rfl ?_)
 refine Calls.mono (form_spec o.pins ⟨az, a0, a1, a2, a3, a4⟩ hao.book (hao.places _ (by omega))) ?_
 rintro _ bn ⟨d, bo, rfl, y, aa⟩
 refine ⟨_, rfl, ?_⟩
 have ab := o.tr aa
 have a5 := ay.ext aa
 refine q0 rfl rfl rfl (xK (cs' := [d]) (us := [d]) (v := (.agg [d].toArray)) sz32 rfl rfl rfl (xC y.one) ab.pins a5 (Nat.le_of_ble_eq_true rfl) rfl (fun bp a6 a7 a8 bq => ?_))
 have a9 := ab.write a7 a8 ((yT am))
 refine qe (zA ?_)
 refine wp_ret ?_
 refine zT ?_
 refine c_retc (cs := [d]) rfl rfl rfl ag32 sz32 (fun j u hj => by rw [Nat.zero_add]; exact a6.cell hj) ?_
 exact ⟨_, _, rfl, y, a9⟩

end N1
end Go.Proofs.YtfnginkcmcfdfaaGreatDoor

set_option maxRecDepth 20000
set_option maxHeartbeats 2000000
namespace Go.Proofs.YtfnginkcmcfdfaaGreatDoor
namespace LO1
open Go.RowKit Go.GL Go.Proofs
open Go.Proofs.YtfnginkcmcfdfaaGreatDoor.B1
open Go.Proofs.YtfnginkcmcfdfaaGreatDoor.C1
open Go.Proofs.YtfnginkcmcfdfaaGreatDoor.E1
open Go.Proofs.YtfnginkcmcfdfaaGreatDoor.L1
open Go.Proofs.YtfnginkcmcfdfaaGreatDoor.G1
open Go.Proofs.YtfnginkcmcfdfaaGreatDoor.M1
open Go.Proofs.YtfnginkcmcfdfaaGreatDoor.N1














theorem l3OptsF_spec {w : World} {G : Pin} {v : Value} {ns : List Nd} (hP : Pins G w) (hv : RSl eNode G v ns) (hf : FormOk ns) (hlo : 1 ≤ ns.length) :
  Calls Tryz.prog 64 [(.agg [v].toArray)].toArray w fun e w' => ∃ (u v : Value) (G' : Pin), e = .returned (.tuple #[u, v]) ∧ RSl (eSl eNode) G' u (optsS ns (lastN ns).l) ∧ RSl (eSl eNode) G' v (optsS ns (lastN ns).r) ∧ Ext noS G w G' w' := by
 refine zZ (n := 55) Tryz.func64 Tryz.ntmps64 rfl rfl ?_
 have ap : Ext noS G w G w := Ext.refl hP
 have hhi := hf.len
 have hlast : ((ns.length : Int) - 1).toNat = ns.length - 1 := by omega
 have hoo := yW hf.opts (show ns.length - 1 < ns.length by omega)
 have hll := hf.lens (ns.length - 1) (by omega)
 have hL : ∀ i, i < (lastN ns).l.length → 0 ≤ (lastN ns).l.getD i 0 ∧ (lastN ns).l.getD i 0 < ns.length := fun i hi => by have h := hoo.1 _ (yN (d := (0 : Int)) hi); show 0 ≤ (lastN ns).l.getD i 0 ∧ (lastN ns).l.getD i 0 < ns.length; unfold lastN; omega
 have hR : ∀ i, i < (lastN ns).r.length → 0 ≤ (lastN ns).r.getD i 0 ∧ (lastN ns).r.getD i 0 < ns.length := fun i hi => by have h := hoo.2 _ (yN (d := (0 : Int)) hi); show 0 ≤ (lastN ns).r.getD i 0 ∧ (lastN ns).r.getD i 0 < ns.length; unfold lastN; omega
 have hLl : (lastN ns).l.length ≤ 1048576 := hll.1
 have hRl : (lastN ns).r.length ≤ 1048576 := hll.2
 have elast : lastN ns = ns.getD ((ns.length : Int) - 1).toNat default := by unfold lastN; rw [hlast]
 rw [elast] at hL hR hLl hRl
 refine zB (zC ?_)
 refine qI rfl (xM [v] (v := (.agg [v].toArray)) rfl rfl ap.pins (fun b1 w2 dz bx bz b0 => ?_))
 have b2 := ap.step bz b0
 have b3 : w.heap.size ≤ b1 := by have := ap.size; omega
 obtain ⟨G9, y, ar, af, d0⟩ := bx.shut b2 b3
 refine qM (.slice none 0 0) ?_
 refine qM (.slice none 0 0) ?_
 refine qe (zA (zB (zC ?_)))
 refine qI rfl (yY (E := (eSl eNode)) (e := 32) Tryz.underlying79 sz32 ar.pins (fun aa b4 b5 b6 b7 d1 => ?_))
 have au := ar.step b6 b7
 have a8 : Own (eSl eNode) 32 G9 b4 w.heap.size aa ([]) := b5.weaken ar.size
 refine qI rfl (yY (E := (eSl eNode)) (e := 32) Tryz.underlying79 sz32 au.pins (fun b b8 b9 ca a9 cb => ?_))
 have t := au.step ca a9
 have ba := a8.below a9
 have cc : Apart b.ownBlock aa.ownBlock := zG cb a8.lt
 have bb : Own (eSl eNode) 32 G9 b8 w.heap.size b ([]) := b9.weaken au.size
 refine qM aa ?_
 refine qM b ?_
 refine qe (zA (zB (zC ?_)))
 refine qD rfl (zN (k := 0) rfl Tryz.underlying32 rfl nz30 rfl) ?_
 refine qD rfl (zO (u := v) ag30 rfl (t.pins _ _ _ (af 0 _ rfl))) ?_
 refine qD rfl (zN (k := 0) rfl Tryz.underlying32 rfl nz30 rfl) ?_
 refine qD rfl (zO (u := v) ag30 rfl (t.pins _ _ _ (af 0 _ rfl))) ?_
 refine qD rfl (zM Tryz.underlying30 (v := v) rfl hv) ?_
 refine qD rfl (r_sub rfl rfl (by omega)) ?_
 refine qD rfl (zI Tryz.underlying30 sz99 (v := v) rfl rfl hv (by omega) (by omega)) ?_
 obtain ⟨q, s, ab, ac, cd⟩ := qC (hv.at (z := ((ns.length : Int) - 1)) (by omega) (by omega)) (j := ((ns.length : Int) - 1).toNat) rfl
 have d2 := ab.max
 have d3 := ac.max
 refine qD rfl (cd ag99 sz99 rfl (Pins.of_le t.pins y)) ?_
 refine qI rfl (xA [(.slice none 0 0), (.slice none 0 0)] zr99 rfl t.pins (fun ad d4 bc ce cf av => ?_))
 have bd := t.step cf av
 have cg := ba.below av
 have ch := bb.below av
 have be : Apart (some ad) aa.ownBlock := zG (congrArg some bc) ba.lt
 have bf : Apart (some ad) b.ownBlock := zG (congrArg some bc) bb.lt
 have bg : w.heap.size ≤ ad := by have := t.size; omega
 refine q0 rfl rfl rfl (xK (cs' := [q, s]) (us := [q, s]) (v := (.agg [q, s].toArray)) sz99 rfl rfl rfl (ones2 ab.one ac.one) bd.pins ce (Nat.le_of_ble_eq_true rfl) rfl (fun d5 ci cj aw d6 => ?_))
 have ck := bd.write cj aw ((yT bg))
 have cl := cg.keptA aw be.symm
 have cm := ch.keptA aw bf.symm
 obtain ⟨bh, g, cn, ag, bi⟩ := ci.shut ck bg
 have co := cl.moreA g bi be.symm
 have cp := cm.moreA g bi bf.symm
 refine qe (zA (zB (zB (zC ?_))))
 refine qM (vJ 0) ?_
 refine qe (zA ?_)
 refine zW ?_
 refine yL (fun (k : Nat) (en : Nat → Value) (W : World) => ∃ (ae : Nat → Value) (j : Nat) (ovA : Value) (osA : List (List Nd)) (GA : Pin), en = (upd (upd (upd (upd (upd (upd (upd ae 1 (.pointer (some ⟨b1, 0, none⟩))) 2 (.slice none 0 0)) 3 (.slice none 0 0)) 4 ovA) 5 b) 6 (.pointer (some ⟨ad, 0, none⟩))) 7 (vJ (j : Int))) ∧ k = (ns.getD ((ns.length : Int) - 1).toNat default).l.length - j ∧ Ext noS G w GA W ∧ Pin.le bh GA ∧ (j ≤ (ns.getD ((ns.length : Int) - 1).toNat default).l.length) ∧ (osA = optsS ns ((ns.getD ((ns.length : Int) - 1).toNat default).l.take j)) ∧ (osA.length = j) ∧ (Own (eSl eNode) 32 GA W w.heap.size ovA (osA)) ∧ (Own (eSl eNode) 32 GA W w.heap.size b ([])) ∧ (Apart ovA.ownBlock b.ownBlock)) _ ⟨_, 0, aa, [], bh, (pS 7 (pS 6 (pS 5 (pS 4 (pS 3 (pS 2 (pU 1))))))), rfl, cn, Pin.le_refl _, Nat.zero_le _, rfl, rfl, co, cp, cc.symm⟩ ?_
 rintro d7 _ ax ⟨ae, j, ovA, osA, GA, rfl, d8, ah, a, hjA, hosA, holA, bj, bk, ay⟩
 refine zB (zB (zC ?_))
 refine qM (vJ (j : Int)) ?_
 refine qD rfl (zN (k := 0) rfl Tryz.underlying99 rfl nz65 rfl) ?_
 refine qD rfl (zO (u := q) ag65 rfl ((Pins.of_le ah.pins a) _ _ _ (ag 0 _ rfl))) ?_
 refine qD rfl (zM Tryz.underlying65 (v := q) rfl ab) ?_
 refine qD rfl (yM rfl rfl) ?_
 refine qe (zA ?_)
 refine yD (p := ((j : Int) : Int) < (((ns.getD ((ns.length : Int) - 1).toNat default).l).length : Int)) rfl rfl (fun cq => ?_) (fun cq => ?_)
 ·skip
  refine wp_skip ?_
  refine zA (zB ?_)
  refine zW ?_
  refine yU (S := fun wz => Pins GA wz) (last := 11) (by kernel_rfl) rfl ?_
  have ai : Below ax.heap.size ax ax.drew := (Below.refl _ _).drew
  have cr := ah.pins.below ai
  have c := ah.step cr ai
  have ct := bj.below ai
  have cu := bk.below ai
  refine dM 0 ovA c.pins ?_
  refine dT (i := 1) rfl rfl (by kernel_rfl) (fun _ hS => yQ (cs := [v]) ag32 sz32 rfl (fun j u hj => (Pins.of_le hS (Pin.le_trans g a)) _ _ _ (af _ _ (by simpa using hj)))) c.pins ?_
  refine dT (i := 2) rfl rfl (by kernel_rfl) (fun _ _ => zN (k := 0) rfl Tryz.underlying99 rfl nz65 rfl) c.pins ?_
  refine dT (i := 3) rfl rfl (by kernel_rfl) (fun _ hS => zO (u := q) ag65 rfl ((Pins.of_le hS a) _ _ _ (ag 0 _ rfl))) c.pins ?_
  refine dM 4 (vJ (j : Int)) c.pins ?_
  refine dT (i := 5) rfl rfl (by kernel_rfl) (fun _ _ => zI Tryz.underlying65 sz3 (v := q) rfl rfl ab (by omega) (by omega)) c.pins ?_
  refine dT (i := 6) rfl rfl (by kernel_rfl) (fun _ hS => zH (r := ((ns.getD ((ns.length : Int) - 1).toNat default).l).getD j 0) rfl ag3 (z := (j : Int)) rfl ab (Pins.of_le hS (Pin.le_trans (Pin.le_trans y g) a)) (by omega) (by omega)) c.pins ?_
  refine dO (i := 7) (zR (i := 7) rfl rfl rfl (zD rfl _) (zL (vs := [(.agg [v].toArray), (vJ (((ns.getD ((ns.length : Int) - 1).toNat default).l).getD j 0))]) Tryz.func113 nm113 rfl rfl rfl ?_))
  refine Calls.mono (l3Part_spec c.pins (hv.mono (Pin.le_trans (Pin.le_trans y g) a)) hf (hL _ (by omega))) ?_
  rintro _ d9 ⟨cv, bl, rfl, cw, m⟩
  refine ⟨_, rfl, ?_⟩
  have aj := c.tr m
  have cx := ct.ext m
  have cy := cu.ext m
  refine ⟨fun _ => (Pins.of_le aj.pins m.le), ?_⟩
  refine dO (i := 8) (zR (i := 8) rfl rfl rfl (zD rfl _) (qB (E := (eSl eNode)) (e := 32) [cv] (partS ns (((ns.getD ((ns.length : Int) - 1).toNat default).l).getD j 0)) Tryz.underlying79 sz32 zr32 ⟨_, rfl, cw⟩ rfl (by decide) aj.pins (fun bm cz c0 c1 az ea => ?_)))
  have ak := aj.step c1 az
  have bn := cx.below az
  have bo := cy.below az
  have c2 : Own (eSl eNode) 32 bl cz w.heap.size bm ([partS ns (((ns.getD ((ns.length : Int) - 1).toNat default).l).getD j 0)]) := c0.weaken aj.size
  refine ⟨fun _ => (Pins.of_le ak.pins m.le), ?_⟩
  refine dO (i := 9) (zR (i := 9) rfl rfl rfl (zD rfl _) (oA (E := (eSl eNode)) (v := ovA) (u := bm) 24 Tryz.underlying79 ap32 (by decide) rfl rfl ak.pins bn c2.src (ak.size) (fun a0 eb c3 c4 bp c5 => ?_)))
  have a1 := ak.write c4 bp ((yC bn))
  have c6 := bo.keptA bp ay.symm
  have c7 : Apart b.ownBlock a0.ownBlock := zF ay.symm c5 bo.lt
  have ec : (osA ++ ([partS ns (((ns.getD ((ns.length : Int) - 1).toNat default).l).getD j 0)])).length = osA.length + 1 := List.length_append
  refine ⟨fun _ => (Pins.of_le a1.pins m.le), ?_⟩
  refine dM 10 a0 (Pins.of_le a1.pins m.le) ?_
  refine yK (by kernel_rfl) ?_
  refine yH ?_
  refine zA (zC ?_)
  refine qM (vJ (j : Int)) ?_
  refine qD rfl (yP rfl rfl (by omega)) ?_
  refine qM (vJ ((j : Int) + 1)) ?_
  refine qe ?_
  refine yG ?_
  refine ⟨_, ?_, _, rfl, _, j + 1, a0, osA ++ [partS ns ((ns.getD ((ns.length : Int) - 1).toNat default).l.getD j 0)], bl, (pS 7 (pS 6 (pS 5 (pS 4 (pS 3 (pS 2 (pU 1))))))), rfl, a1, (Pin.le_trans a m.le), (by omega), (by rw [hosA]; exact optsS_next (by omega)), (by simp; omega), c3, c6, c7.symm⟩
  omega
 refine wp_exit ?_
 refine zX ?_
 refine yJ ?_
 refine yI ?_
 refine zA (zB (zB (zC ?_)))
 refine qM (vJ 0) ?_
 refine qe (zA ?_)
 refine zW ?_
 refine yL (fun (k : Nat) (en : Nat → Value) (W : World) => ∃ (ae : Nat → Value) (i : Nat) (ovB : Value) (osB : List (List Nd)) (GB : Pin), en = (upd (upd (upd (upd (upd (upd (upd ae 1 (.pointer (some ⟨b1, 0, none⟩))) 2 (.slice none 0 0)) 3 (.slice none 0 0)) 4 ovA) 5 ovB) 6 (.pointer (some ⟨ad, 0, none⟩))) 8 (vJ (i : Int))) ∧ k = (ns.getD ((ns.length : Int) - 1).toNat default).r.length - i ∧ Ext noS G w GB W ∧ Pin.le GA GB ∧ (i ≤ (ns.getD ((ns.length : Int) - 1).toNat default).r.length) ∧ (osB = optsS ns ((ns.getD ((ns.length : Int) - 1).toNat default).r.take i)) ∧ (osB.length = i) ∧ (Own (eSl eNode) 32 GB W w.heap.size ovB (osB)) ∧ (Own (eSl eNode) 32 GB W w.heap.size ovA (osA)) ∧ (Apart ovB.ownBlock ovA.ownBlock)) _ ⟨_, 0, b, [], GA, (pS 8 (pS 6 (pS 5 (pS 4 (pS 3 (pS 2 (pU 1))))))), rfl, ah, Pin.le_refl _, Nat.zero_le _, rfl, rfl, bk, bj, ay.symm⟩ ?_
 rintro ed _ a2 ⟨ae, i, ovB, osB, GB, rfl, ee, al, x, hjB, hosB, holB, bq, br, a3⟩
 refine zB (zB (zC ?_))
 refine qM (vJ (i : Int)) ?_
 refine qD rfl (zN (k := 1) rfl Tryz.underlying99 rfl nz65 rfl) ?_
 refine qD rfl (zO (u := s) ag65 rfl ((Pins.of_le al.pins (Pin.le_trans a x)) _ _ _ (ag 1 _ rfl))) ?_
 refine qD rfl (zM Tryz.underlying65 (v := s) rfl ac) ?_
 refine qD rfl (yM rfl rfl) ?_
 refine qe (zA ?_)
 refine yD (p := ((i : Int) : Int) < (((ns.getD ((ns.length : Int) - 1).toNat default).r).length : Int)) rfl rfl (fun c8 => ?_) (fun c8 => ?_)
 ·skip
  refine wp_skip ?_
  refine zA (zB ?_)
  refine zW ?_
  refine yU (S := fun wz => Pins GB wz) (last := 11) (by kernel_rfl) rfl ?_
  have am : Below a2.heap.size a2 a2.drew := (Below.refl _ _).drew
  have c9 := al.pins.below am
  have f := al.step c9 am
  have da := bq.below am
  have db := br.below am
  refine dM 0 ovB f.pins ?_
  refine dT (i := 1) rfl rfl (by kernel_rfl) (fun _ hS => yQ (cs := [v]) ag32 sz32 rfl (fun j u hj => (Pins.of_le hS (Pin.le_trans (Pin.le_trans g a) x)) _ _ _ (af _ _ (by simpa using hj)))) f.pins ?_
  refine dT (i := 2) rfl rfl (by kernel_rfl) (fun _ _ => zN (k := 1) rfl Tryz.underlying99 rfl nz65 rfl) f.pins ?_
  refine dT (i := 3) rfl rfl (by kernel_rfl) (fun _ hS => zO (u := s) ag65 rfl ((Pins.of_le hS (Pin.le_trans a x)) _ _ _ (ag 1 _ rfl))) f.pins ?_
  refine dM 4 (vJ (i : Int)) f.pins ?_
  refine dT (i := 5) rfl rfl (by kernel_rfl) (fun _ _ => zI Tryz.underlying65 sz3 (v := s) rfl rfl ac (by omega) (by omega)) f.pins ?_
  refine dT (i := 6) rfl rfl (by kernel_rfl) (fun _ hS => zH (r := ((ns.getD ((ns.length : Int) - 1).toNat default).r).getD i 0) rfl ag3 (z := (i : Int)) rfl ac (Pins.of_le hS (Pin.le_trans (Pin.le_trans (Pin.le_trans y g) a) x)) (by omega) (by omega)) f.pins ?_
  refine dO (i := 7) (zR (i := 7) rfl rfl rfl (zD rfl _) (zL (vs := [(.agg [v].toArray), (vJ (((ns.getD ((ns.length : Int) - 1).toNat default).r).getD i 0))]) Tryz.func113 nm113 rfl rfl rfl ?_))
  refine Calls.mono (l3Part_spec f.pins (hv.mono (Pin.le_trans (Pin.le_trans (Pin.le_trans y g) a) x)) hf (hR _ (by omega))) ?_
  rintro _ ef ⟨dc, bs, rfl, dd, o⟩
  refine ⟨_, rfl, ?_⟩
  have an := f.tr o
  have de := da.ext o
  have df := db.ext o
  refine ⟨fun _ => (Pins.of_le an.pins o.le), ?_⟩
  refine dO (i := 8) (zR (i := 8) rfl rfl rfl (zD rfl _) (qB (E := (eSl eNode)) (e := 32) [dc] (partS ns (((ns.getD ((ns.length : Int) - 1).toNat default).r).getD i 0)) Tryz.underlying79 sz32 zr32 ⟨_, rfl, dd⟩ rfl (by decide) an.pins (fun bt dg dh di a4 eg => ?_)))
  have ao := an.step di a4
  have bu := de.below a4
  have bv := df.below a4
  have dj : Own (eSl eNode) 32 bs dg w.heap.size bt ([partS ns (((ns.getD ((ns.length : Int) - 1).toNat default).r).getD i 0)]) := dh.weaken an.size
  refine ⟨fun _ => (Pins.of_le ao.pins o.le), ?_⟩
  refine dO (i := 9) (zR (i := 9) rfl rfl rfl (zD rfl _) (oA (E := (eSl eNode)) (v := ovB) (u := bt) 24 Tryz.underlying79 ap32 (by decide) rfl rfl ao.pins bu dj.src (ao.size) (fun a5 eh dk dl bw dm => ?_)))
  have a6 := ao.write dl bw ((yC bu))
  have dn := bv.keptA bw a3.symm
  have dp : Apart ovA.ownBlock a5.ownBlock := zF a3.symm dm bv.lt
  have ei : (osB ++ ([partS ns (((ns.getD ((ns.length : Int) - 1).toNat default).r).getD i 0)])).length = osB.length + 1 := List.length_append
  refine ⟨fun _ => (Pins.of_le a6.pins o.le), ?_⟩
  refine dM 10 a5 (Pins.of_le a6.pins o.le) ?_
  refine yK (by kernel_rfl) ?_
  refine yH ?_
  refine zA (zC ?_)
  refine qM (vJ (i : Int)) ?_
  refine qD rfl (yP rfl rfl (by omega)) ?_
  refine qM (vJ ((i : Int) + 1)) ?_
  refine qe ?_
  refine yG ?_
  refine ⟨_, ?_, _, rfl, _, i + 1, a5, osB ++ [partS ns ((ns.getD ((ns.length : Int) - 1).toNat default).r.getD i 0)], bs, (pS 8 (pS 6 (pS 5 (pS 4 (pS 3 (pS 2 (pU 1))))))), rfl, a6, (Pin.le_trans x o.le), (by omega), (by rw [hosB]; exact optsS_next (by omega)), (by simp; omega), dk, dn, dp.symm⟩
  omega
 refine wp_exit ?_
 refine zX ?_
 refine yJ ?_
 refine yI ?_
 refine zA (zB (zC ?_))
 refine qM ovA ?_
 refine qM ovB ?_
 refine qM ovA ?_
 refine qM ovB ?_
 refine qe (zA ?_)
 refine wp_ret ?_
 refine zT ?_
 refine c_ret2 (v := ovA) (u := ovB) rfl rfl rfl rfl rfl ?_
 obtain ⟨ej, dq, dr, ds, dt⟩ := br.sealed al
 have du := bq.moreO dq dt a3
 obtain ⟨ek, dv, dw, dx, el⟩ := du.sealed dr
 rw [xZ (by omega)] at hosA hosB
 rw [elast, ← hosA, ← hosB]
 exact ⟨_, _, _, rfl, (ds.mono dv), dx, dw⟩

end LO1
end Go.Proofs.YtfnginkcmcfdfaaGreatDoor

set_option maxRecDepth 20000
set_option maxHeartbeats 2000000
namespace Go.Proofs.YtfnginkcmcfdfaaGreatDoor
namespace LI2
open Go.RowKit Go.GL Go.Proofs
open Go.Proofs.YtfnginkcmcfdfaaGreatDoor.B1
open Go.Proofs.YtfnginkcmcfdfaaGreatDoor.C1
open Go.Proofs.YtfnginkcmcfdfaaGreatDoor.D1
open Go.Proofs.YtfnginkcmcfdfaaGreatDoor.E1
open Go.Proofs.YtfnginkcmcfdfaaGreatDoor.MK1
open Go.Proofs.YtfnginkcmcfdfaaGreatDoor.N1
open Go.Proofs.YtfnginkcmcfdfaaGreatDoor.LO1







theorem sLessForm_spec {w : World} {G : Pin} {u v : Value} {ax bs : List Nd} (hP : Pins G w) (hu : RSl eNode G u ax) (hv : RSl eNode G v bs) :
  Calls Tryz.prog 27 [(.agg [u].toArray), (.agg [v].toArray)].toArray w fun e w' => ∃ G', e = .returned (.tuple #[.bool (lsB ax bs), .bool (goodB ax && goodB bs)]) ∧ Ext noS G w G' w' := by
 refine zZ (n := 50) Tryz.func27 Tryz.ntmps27 rfl rfl ?_
 have am : Ext noS G w G w := Ext.refl hP
 refine zB (zC ?_)
 refine qI rfl (xM [u] (v := (.agg [u].toArray)) rfl rfl am.pins (fun b1 w2 da bq br bt => ?_))
 have bu := am.step br bt
 have bv : w.heap.size ≤ b1 := by have := am.size; omega
 obtain ⟨G9, g, an, ai, dc⟩ := bq.shut bu bv
 refine qI rfl (xM [v] (v := (.agg [v].toArray)) rfl rfl an.pins (fun bw dd de bx bz b0 => ?_))
 have b2 := an.step bz b0
 have b3 : w.heap.size ≤ bw := by have := an.size; omega
 obtain ⟨df, d, ao, ap, dg⟩ := bx.shut b2 b3
 refine qM (.bool false) ?_
 refine qM (.bool false) ?_
 refine qe (zA (zB (zB (zC ?_))))
 refine qD rfl (yQ (cs := [u]) ag32 sz32 rfl (fun j u hj => (Pins.of_le ao.pins d) _ _ _ (ai _ _ (by simpa using hj)))) ?_
 refine qI rfl (zL (vs := [(.agg [u].toArray)]) Tryz.func47 nm47 rfl rfl rfl ?_)
 refine Calls.mono (l3Good_spec ao.pins (hu.mono (Pin.le_trans g d))) ?_
 rintro _ dh ⟨di, rfl, c⟩
 refine ⟨_, rfl, ?_⟩
 have aj := ao.tr c
 refine qD rfl (xR rfl) ?_
 refine qM (.bool (!(decP (GoodS ax)))) ?_
 refine qbn (t := 15) rfl (fun aq => ?_) (fun aq => ?_)
 ·skip
  refine qN (yQ (cs := [v]) ag32 sz32 rfl (fun j u hj => (Pins.of_le aj.pins c.le) _ _ _ (ap _ _ (by simpa using hj)))) ?_
  refine q1g rfl rfl rfl rfl rfl rfl (zL (vs := [(.agg [v].toArray)]) Tryz.func47 nm47 rfl rfl rfl ?_)
  refine Calls.mono (l3Good_spec aj.pins (hv.mono (Pin.le_trans (Pin.le_trans g d) c.le))) ?_
  rintro _ dj ⟨b4, rfl, f⟩
  refine ⟨_, rfl, ?_⟩
  have y := aj.tr f
  refine qN (xR rfl) ?_
  refine qD rfl (xB (v := (.bool (!(decP (GoodS bs))))) rfl rfl) ?_
  refine qe (zA ?_)
  refine c_ifn rfl rfl (fun ar => ?_) (fun ar => ?_)
  ·skip
   refine wp_skip ?_
   refine zA (zB (zC ?_))
   have hga : GoodP ax := goodB_true.1 ((good_eq ax).symm.trans aq)
   have hgb : GoodP bs := goodB_true.1 ((good_eq bs).symm.trans ar)
   have hla := hga.lo
   have hlb := hgb.lo
   have hha := hga.hi
   have hhb := hgb.hi
   have a7 := allW_two hga hgb
   have au := lsm_ok a7 (by simp) (by simp) (gs := []) rfl
   have av := ls_first au.1
   have dk := av.1
   have a8 := AllW.one (good_form hga) hla (by omega)
   have aw := lsm_ok a8 (by simp) (by simp) (gs := []) rfl
   have ay := ls_first aw.1
   have dl := ay.1
   refine qD rfl (yQ (cs := [u]) ag32 sz32 rfl (fun j u hj => (Pins.of_le y.pins (Pin.le_trans (Pin.le_trans d c.le) f.le)) _ _ _ (ai _ _ (by simpa using hj)))) ?_
   refine qD rfl (yQ (cs := [v]) ag32 sz32 rfl (fun j u hj => (Pins.of_le y.pins (Pin.le_trans c.le f.le)) _ _ _ (ap _ _ (by simpa using hj)))) ?_
   refine qI rfl (o_buildA (E := (eSl eNode)) (e := 32) [u, v] [ax, bs] Tryz.underlying79 sz32 zr32 (by exact reps2 (⟨_, rfl, (hu.mono (Pin.le_trans (Pin.le_trans (Pin.le_trans g d) c.le) f.le))⟩) (⟨_, rfl, (hv.mono (Pin.le_trans (Pin.le_trans (Pin.le_trans g d) c.le) f.le))⟩)) (ones2 hu.one hv.one) rfl rfl rfl rfl (by decide) y.pins (fun a9 b5 b6 b7 b8 dm => ?_))
   have b9 := y.step b7 b8
   have ca : Own (eSl eNode) 32 b4 b5 w.heap.size a9 ([ax, bs]) := b6.weaken y.size
   obtain ⟨dn, aa, ba, cb, dp⟩ := ca.sealed b9
   refine qI rfl (zL (vs := [a9, (.slice none 0 0)]) Tryz.func63 nm63 rfl rfl rfl ?_)
   refine Calls.mono (l3Make_spec ba.pins cb (nil_reads _ _) a7 AllW.nil) ?_
   rintro _ dq ⟨ac, dr, rfl, bb, h⟩
   refine ⟨_, rfl, ?_⟩
   have az := ba.tr h
   refine qI rfl (xA [(.slice none 0 0)] zr32 rfl az.pins (fun cc ds dt cd ce cf => ?_))
   have bc := az.step ce cf
   have bd : w.heap.size ≤ cc := by have := az.size; omega
   refine q0 rfl rfl rfl (xK (cs' := [ac]) (us := [ac]) (v := (.agg [ac].toArray)) sz32 rfl rfl rfl (xC bb.one) bc.pins cd (Nat.le_of_ble_eq_true rfl) rfl (fun du cg ch ci dv => ?_))
   have cj := bc.write ch ci ((yT bd))
   obtain ⟨ck, k, ak, cl, dw⟩ := cg.shut cj bd
   refine qe (zA (zB (zC ?_)))
   refine qD rfl (yQ (cs := [u]) ag32 sz32 rfl (fun j u hj => (Pins.of_le ak.pins (Pin.le_trans (Pin.le_trans (Pin.le_trans (Pin.le_trans (Pin.le_trans d c.le) f.le) aa) h.le) k)) _ _ _ (ai _ _ (by simpa using hj)))) ?_
   refine qI rfl (qB (E := (eSl eNode)) (e := 32) [u] ax Tryz.underlying79 sz32 zr32 ⟨_, rfl, (hu.mono (Pin.le_trans (Pin.le_trans (Pin.le_trans (Pin.le_trans (Pin.le_trans (Pin.le_trans g d) c.le) f.le) aa) h.le) k))⟩ rfl (by decide) ak.pins (fun be cm cn co cp dx => ?_))
   have cq := ak.step co cp
   have cr : Own (eSl eNode) 32 ck cm w.heap.size be ([ax]) := cn.weaken ak.size
   obtain ⟨dy, ab, bf, ct, dz⟩ := cr.sealed cq
   refine qI rfl (zL (vs := [be, (.slice none 0 0)]) Tryz.func63 nm63 rfl rfl rfl ?_)
   refine Calls.mono (l3Make_spec bf.pins ct (nil_reads _ _) a8 AllW.nil) ?_
   rintro _ d0 ⟨ad, d1, rfl, bg, m⟩
   refine ⟨_, rfl, ?_⟩
   have a0 := bf.tr m
   refine qI rfl (xA [(.slice none 0 0)] zr32 rfl a0.pins (fun cu d2 d3 cv cw cx => ?_))
   have bh := a0.step cw cx
   have bi : w.heap.size ≤ cu := by have := a0.size; omega
   refine q0 rfl rfl rfl (xK (cs' := [ad]) (us := [ad]) (v := (.agg [ad].toArray)) sz32 rfl rfl rfl (xC bg.one) bh.pins cv (Nat.le_of_ble_eq_true rfl) rfl (fun d4 cy cz c0 d5 => ?_))
   have c1 := bh.write cz c0 ((yT bi))
   obtain ⟨d6, o, a1, c2, d7⟩ := cy.shut c1 bi
   refine qe (zA (zB (zC ?_)))
   refine qD rfl (yQ (cs := [ac]) ag32 sz32 rfl (fun j u hj => (Pins.of_le a1.pins (Pin.le_trans (Pin.le_trans ab m.le) o)) _ _ _ (cl _ _ (by simpa using hj)))) ?_
   refine qI rfl (zL (vs := [(.agg [ac].toArray)]) Tryz.func64 nm64 rfl rfl rfl ?_)
   refine Calls.mono (l3OptsF_spec a1.pins (bb.mono (Pin.le_trans (Pin.le_trans (Pin.le_trans k ab) m.le) o)) au.1.ok au.1.lo) ?_
   rintro _ d8 ⟨ae, a2, d9, rfl, bj, ea, p⟩
   refine ⟨_, rfl, ?_⟩
   have a3 := a1.tr p
   refine qM (.tuple #[ae, a2]) ?_
   refine qD rfl (xJ (v := ae) rfl rfl) ?_
   refine qD rfl (xJ (v := a2) rfl rfl) ?_
   refine qM ae ?_
   refine qM a2 ?_
   refine qe (zA (zB (zC ?_)))
   refine qD rfl (yQ (cs := [ad]) ag32 sz32 rfl (fun j u hj => (Pins.of_le a3.pins p.le) _ _ _ (c2 _ _ (by simpa using hj)))) ?_
   refine qI rfl (zL (vs := [(.agg [ad].toArray)]) Tryz.func64 nm64 rfl rfl rfl ?_)
   refine Calls.mono (l3OptsF_spec a3.pins (bg.mono (Pin.le_trans o p.le)) aw.1.ok aw.1.lo) ?_
   rintro _ a4 ⟨af, a5, c3, rfl, bk, eb, q⟩
   refine ⟨_, rfl, ?_⟩
   have bl := a3.tr q
   refine qM (.tuple #[af, a5]) ?_
   refine qD rfl (xJ (v := af) rfl rfl) ?_
   refine qD rfl (xJ (v := a5) rfl rfl) ?_
   refine qM af ?_
   refine qM a5 ?_
   refine qe (zA (zB ?_))
   refine yU (S := fun wz => Pins c3 wz) (last := 15) (by kernel_rfl) rfl ?_
   have bm : Below a4.heap.size a4 a4.drew := (Below.refl _ _).drew
   have c4 := bl.pins.below bm
   have al := bl.step c4 bm
   refine dT (i := 0) rfl rfl (by kernel_rfl) (fun _ hS => yQ (cs := [u]) ag32 sz32 rfl (fun j u hj => (Pins.of_le hS (Pin.le_trans (Pin.le_trans (Pin.le_trans (Pin.le_trans (Pin.le_trans (Pin.le_trans (Pin.le_trans (Pin.le_trans (Pin.le_trans (Pin.le_trans d c.le) f.le) aa) h.le) k) ab) m.le) o) p.le) q.le)) _ _ _ (ai _ _ (by simpa using hj)))) al.pins ?_
   refine dT (i := 1) rfl rfl (by kernel_rfl) (fun _ hS => yQ (cs := [v]) ag32 sz32 rfl (fun j u hj => (Pins.of_le hS (Pin.le_trans (Pin.le_trans (Pin.le_trans (Pin.le_trans (Pin.le_trans (Pin.le_trans (Pin.le_trans (Pin.le_trans (Pin.le_trans c.le f.le) aa) h.le) k) ab) m.le) o) p.le) q.le)) _ _ _ (ap _ _ (by simpa using hj)))) al.pins ?_
   refine dO (i := 2) (zR (i := 2) rfl rfl rfl (zD rfl _) (zL (vs := [(.agg [u].toArray), (.agg [v].toArray)]) Tryz.func65 nm65 rfl rfl rfl ?_))
   refine Calls.mono (l3Same_spec al.pins (hu.mono (Pin.le_trans (Pin.le_trans (Pin.le_trans (Pin.le_trans (Pin.le_trans (Pin.le_trans (Pin.le_trans (Pin.le_trans (Pin.le_trans (Pin.le_trans (Pin.le_trans g d) c.le) f.le) aa) h.le) k) ab) m.le) o) p.le) q.le)) (hv.mono (Pin.le_trans (Pin.le_trans (Pin.le_trans (Pin.le_trans (Pin.le_trans (Pin.le_trans (Pin.le_trans (Pin.le_trans (Pin.le_trans (Pin.le_trans (Pin.le_trans g d) c.le) f.le) aa) h.le) k) ab) m.le) o) p.le) q.le))) ?_
   rintro _ ec ⟨ed, rfl, a⟩
   refine ⟨_, rfl, ?_⟩
   have b := al.tr a
   refine ⟨fun _ => (Pins.of_le b.pins a.le), ?_⟩
   refine dT (i := 3) rfl rfl (by kernel_rfl) (fun _ _ => xR rfl) (Pins.of_le b.pins a.le) ?_
   refine dM 4 (.bool (!(decide (ax = bs)))) (Pins.of_le b.pins a.le) ?_
   refine drbn (t := 41) rfl (fun r => ?_) (fun r => ?_)
   ·skip
    replace r := of_decide_eq_true r
    refine zV (i := 5) rfl rfl (zY rfl rfl rfl rfl rfl) (by kernel_rfl) (Pins.of_le b.pins a.le) ?_
    refine zV (i := 6) rfl rfl (zY rfl rfl rfl rfl rfl) (by kernel_rfl) (Pins.of_le b.pins a.le) ?_
    refine zV (i := 7) rfl rfl (zY rfl rfl rfl rfl rfl) (by kernel_rfl) (Pins.of_le b.pins a.le) ?_
    refine zV (i := 8) rfl rfl (zY rfl rfl rfl rfl rfl) (by kernel_rfl) (Pins.of_le b.pins a.le) ?_
    refine zV (i := 9) rfl rfl (zY rfl rfl rfl rfl rfl) (by kernel_rfl) (Pins.of_le b.pins a.le) ?_
    refine zV (i := 10) rfl rfl (zY rfl rfl rfl rfl rfl) (by kernel_rfl) (Pins.of_le b.pins a.le) ?_
    refine zV (i := 11) rfl rfl (zY rfl rfl rfl rfl rfl) (by kernel_rfl) (Pins.of_le b.pins a.le) ?_
    refine dT (i := 12) rfl rfl (by kernel_rfl) (fun _ _ => xB (v := (.bool false)) rfl rfl) (Pins.of_le b.pins a.le) ?_
    refine dM 13 (.bool false) (Pins.of_le b.pins a.le) ?_
    refine dM 14 (.bool true) (Pins.of_le b.pins a.le) ?_
    refine yK (by kernel_rfl) ?_
    refine zA ?_
    refine wp_ret ?_
    refine zT ?_
    refine c_ret2 (v := (.bool false)) (u := (.bool true)) rfl rfl rfl rfl rfl ?_
    obtain ⟨s, x⟩ := lsB_good hga hgb
    rw [s, x]
    have e3 : lessS ax bs = (!decide (ax = bs) && decide ((optsS (formG (mkGm [ax, bs] [])) (lastN (formG (mkGm [ax, bs] []))).l).getD 0 [] = (optsS (formG (mkGm [ax] [])) (lastN (formG (mkGm [ax] []))).l).getD 0 [])) := by unfold lessS lsF lsO; rw [av.2, ay.2]
    exact ⟨_, by rw [e3, decide_eq_true r]; rfl, b⟩
   replace r := of_decide_eq_false r
   refine yA (i := 5) rfl rfl rfl (zS rfl rfl rfl rfl) (by kernel_rfl) (fun _ _ => zU (v := ae) rfl) (Pins.of_le b.pins a.le) ?_
   refine yA (i := 6) rfl rfl rfl (zS rfl rfl rfl rfl) (by kernel_rfl) (fun _ _ => zI Tryz.underlying79 sz32 (v := ae) rfl rfl bj (by omega) (by omega)) (Pins.of_le b.pins a.le) ?_
   obtain ⟨c5, bn, c6⟩ := nm_form (bj.at (z := 0) (by omega) (by omega)) (j := 0) rfl
   have ee := bn.max
   refine yA (i := 7) rfl rfl rfl (zS rfl rfl rfl rfl) (by kernel_rfl) (fun _ hS => c6 ag32 sz32 rfl (Pins.of_le hS q.le)) (Pins.of_le b.pins a.le) ?_
   refine yA (i := 8) rfl rfl rfl (zS rfl rfl rfl rfl) (by kernel_rfl) (fun _ _ => zU (v := af) rfl) (Pins.of_le b.pins a.le) ?_
   refine yA (i := 9) rfl rfl rfl (zS rfl rfl rfl rfl) (by kernel_rfl) (fun _ _ => zI Tryz.underlying79 sz32 (v := af) rfl rfl bk (by omega) (by omega)) (Pins.of_le b.pins a.le) ?_
   obtain ⟨c7, bo, c8⟩ := nm_form (bk.at (z := 0) (by omega) (by omega)) (j := 0) rfl
   have ef := bo.max
   refine yA (i := 10) rfl rfl rfl (zS rfl rfl rfl rfl) (by kernel_rfl) (fun _ hS => c8 ag32 sz32 rfl hS) (Pins.of_le b.pins a.le) ?_
   refine dO (i := 11) (zR (i := 11) rfl rfl rfl (zS rfl rfl rfl rfl) (zL (vs := [(.agg [c5].toArray), (.agg [c7].toArray)]) Tryz.func65 nm65 rfl rfl rfl ?_))
   refine Calls.mono (l3Same_spec b.pins (bn.mono (Pin.le_trans q.le a.le)) (bo.mono a.le)) ?_
   rintro _ eg ⟨eh, rfl, ag⟩
   refine ⟨_, rfl, ?_⟩
   have ah := b.tr ag
   refine ⟨fun _ => (Pins.of_le ah.pins (Pin.le_trans a.le ag.le)), ?_⟩
   refine dT (i := 12) rfl rfl (by kernel_rfl) (fun _ _ => xG (v := (.bool (decide (((optsS (formG (mkGm ([ax, bs]) ([]))) (lastN (formG (mkGm ([ax, bs]) ([])))).l).getD 0 []) = ((optsS (formG (mkGm ([ax]) ([]))) (lastN (formG (mkGm ([ax]) ([])))).l).getD 0 []))))) rfl rfl) (Pins.of_le ah.pins (Pin.le_trans a.le ag.le)) ?_
   refine dM 13 (.bool (decide (((optsS (formG (mkGm ([ax, bs]) ([]))) (lastN (formG (mkGm ([ax, bs]) ([])))).l).getD 0 []) = ((optsS (formG (mkGm ([ax]) ([]))) (lastN (formG (mkGm ([ax]) ([])))).l).getD 0 [])))) (Pins.of_le ah.pins (Pin.le_trans a.le ag.le)) ?_
   refine dM 14 (.bool true) (Pins.of_le ah.pins (Pin.le_trans a.le ag.le)) ?_
   refine yK (by kernel_rfl) ?_
   refine zA ?_
   refine wp_ret ?_
   refine zT ?_
   refine c_ret2 (v := (.bool (decide (((optsS (formG (mkGm ([ax, bs]) ([]))) (lastN (formG (mkGm ([ax, bs]) ([])))).l).getD 0 []) = ((optsS (formG (mkGm ([ax]) ([]))) (lastN (formG (mkGm ([ax]) ([])))).l).getD 0 []))))) (u := (.bool true)) rfl rfl rfl rfl rfl ?_
   obtain ⟨s, x⟩ := lsB_good hga hgb
   rw [s, x]
   have e3 : lessS ax bs = (!decide (ax = bs) && decide ((optsS (formG (mkGm [ax, bs] [])) (lastN (formG (mkGm [ax, bs] []))).l).getD 0 [] = (optsS (formG (mkGm [ax] [])) (lastN (formG (mkGm [ax] []))).l).getD 0 [])) := by unfold lessS lsF lsO; rw [av.2, ay.2]
   exact ⟨_, by rw [e3, decide_eq_false r]; rfl, ah⟩
  refine zB (zC ?_)
  refine qM (.bool false) ?_
  refine qM (.bool false) ?_
  refine qe (zA ?_)
  refine wp_ret ?_
  refine zT ?_
  refine c_ret2 (v := (.bool false)) (u := (.bool false)) rfl rfl rfl rfl rfl ?_
  obtain ⟨s, x⟩ := lsB_bad (Or.inr ((good_eq bs).symm.trans ar))
  rw [s, x]
  exact ⟨_, rfl, y⟩
 refine qW ?_
 refine qW ?_
 refine qW ?_
 refine qD rfl (xG (v := (.bool true)) rfl rfl) ?_
 refine qe (zA ?_)
 refine c_ifT rfl rfl ?_
 refine zB (zC ?_)
 refine qM (.bool false) ?_
 refine qM (.bool false) ?_
 refine qe (zA ?_)
 refine wp_ret ?_
 refine zT ?_
 refine c_ret2 (v := (.bool false)) (u := (.bool false)) rfl rfl rfl rfl rfl ?_
 obtain ⟨s, x⟩ := lsB_bad (Or.inl ((good_eq ax).symm.trans aq))
 rw [s, x]
 exact ⟨_, rfl, aj⟩

end LI2
end Go.Proofs.YtfnginkcmcfdfaaGreatDoor

set_option maxRecDepth 20000
set_option maxHeartbeats 2000000
namespace Go.Proofs.YtfnginkcmcfdfaaGreatDoor
namespace LSL
open Go.RowKit Go.GL Go.Proofs
open Go.Proofs.YtfnginkcmcfdfaaGreatDoor.B1
open Go.Proofs.YtfnginkcmcfdfaaGreatDoor.C1
open Go.Proofs.YtfnginkcmcfdfaaGreatDoor.D1
open Go.Proofs.YtfnginkcmcfdfaaGreatDoor.E1
open Go.Proofs.YtfnginkcmcfdfaaGreatDoor.L1
open Go.Proofs.YtfnginkcmcfdfaaGreatDoor.K1
open Go.Proofs.YtfnginkcmcfdfaaGreatDoor.PO1
open Go.Proofs.YtfnginkcmcfdfaaGreatDoor.PL1
open Go.Proofs.YtfnginkcmcfdfaaGreatDoor.LI1
open Go.Proofs.YtfnginkcmcfdfaaGreatDoor.LI2










theorem law {w : World} {G : Pin} {u v : Value} {ns ms : List Nd} (hP : Pins G w) (hu : RSl eNode G u ns) (hv : RSl eNode G v ms) :
  Calls Tryz.prog 6 [(.agg [u].toArray), (.agg [v].toArray)].toArray w fun e w' => ∃ G', e = .returned (.bool true) ∧ Ext noS G w G' w' := by
 refine zZ (n := 58) Tryz.func6 Tryz.ntmps6 rfl rfl ?_
 have ak : Ext noS G w G w := Ext.refl hP
 refine zB (zC ?_)
 refine qI rfl (xM [u] (v := (.agg [u].toArray)) rfl rfl ak.pins (fun b1 w2 ct bg bh bi => ?_))
 have bj := ak.step bh bi
 have bk : w.heap.size ≤ b1 := by have := ak.size; omega
 obtain ⟨G9, r, al, ac, cv⟩ := bg.shut bj bk
 refine qI rfl (xM [v] (v := (.agg [v].toArray)) rfl rfl al.pins (fun bl cw cx bm bn bo => ?_))
 have bp := al.step bn bo
 have bq : w.heap.size ≤ bl := by have := al.size; omega
 obtain ⟨cy, g, am, ad, cz⟩ := bm.shut bp bq
 refine qM (.bool false) ?_
 refine qe (zA (zB (zC ?_)))
 refine qM (vJ 1048576) ?_
 refine qe (zA (zB (zC ?_)))
 refine qD rfl (yQ (cs := [u]) ag24 sz24 rfl (fun j u hj => (Pins.of_le am.pins g) _ _ _ (ac _ _ (by simpa using hj)))) ?_
 refine qM (vJ 1048576) ?_
 refine qI rfl (zL (vs := [(.agg [u].toArray), (vJ 1048576)]) Tryz.func15 nm15 rfl rfl rfl ?_)
 refine Calls.mono (szForm_spec am.pins (hu.mono (Pin.le_trans r g)) (by omega)) ?_
 rintro _ c0 ⟨aa, c1, rfl, br, c⟩
 refine ⟨_, rfl, ?_⟩
 have ae := am.tr c
 refine qM (vJ aa) ?_
 refine qe (zA (zB (zB (zC ?_))))
 refine qM (vJ aa) ?_
 refine qD rfl (yM rfl rfl) ?_
 refine qe (zA ?_)
 refine yD (p := (aa : Int) < 0) rfl rfl (fun bs => ?_) (fun bs => ?_)
 ·skip
  refine zB (zC ?_)
  refine qM (.bool true) ?_
  refine qe (zA ?_)
  refine wp_ret ?_
  refine zT ?_
  refine zP (v := (.bool true)) rfl rfl rfl ?_
  exact ⟨_, rfl, ae⟩
 refine wp_skip ?_
 refine zA (zB (zC ?_))
 refine qD rfl (yQ (cs := [v]) ag24 sz24 rfl (fun j u hj => (Pins.of_le ae.pins c.le) _ _ _ (ad _ _ (by simpa using hj)))) ?_
 refine qM (vJ aa) ?_
 refine qI rfl (zL (vs := [(.agg [v].toArray), (vJ aa)]) Tryz.func15 nm15 rfl rfl rfl ?_)
 refine Calls.mono (szForm_spec ae.pins (hv.mono (Pin.le_trans (Pin.le_trans r g) c.le)) (by omega)) ?_
 rintro _ an ⟨ao, bt, rfl, bu, f⟩
 refine ⟨_, rfl, ?_⟩
 have ap := ae.tr f
 refine qM (vJ ao) ?_
 refine qe (zA (zB (zB (zC ?_))))
 refine qM (vJ ao) ?_
 refine qD rfl (yM rfl rfl) ?_
 refine qe (zA ?_)
 refine yD (p := (ao : Int) < 0) rfl rfl (fun bv => ?_) (fun bv => ?_)
 ·skip
  refine zB (zC ?_)
  refine qM (.bool true) ?_
  refine qe (zA ?_)
  refine wp_ret ?_
  refine zT ?_
  refine zP (v := (.bool true)) rfl rfl rfl ?_
  exact ⟨_, rfl, ap⟩
 refine wp_skip ?_
 refine zA (zB ?_)
 have hsn : Small ns := (by rcases br with h | h <;> first | omega | exact small_le h.2.2 (by omega))
 have hsm : Small ms := (by rcases bu with h | h <;> first | omega | exact small_le h.2.2 (by omega))
 refine yU (S := fun wz => Pins bt wz) (last := 10) (by kernel_rfl) rfl ?_
 have a5 : Below an.heap.size an an.drew := (Below.refl _ _).drew
 have bw := ap.pins.below a5
 have af := ap.step bw a5
 refine dT (i := 0) rfl rfl (by kernel_rfl) (fun _ hS => yQ (cs := [u]) ag24 sz24 rfl (fun j u hj => (Pins.of_le hS (Pin.le_trans (Pin.le_trans g c.le) f.le)) _ _ _ (ac _ _ (by simpa using hj)))) af.pins ?_
 refine dT (i := 2) rfl rfl (by kernel_rfl) (fun _ hS => yQ (cs := [v]) ag24 sz24 rfl (fun j u hj => (Pins.of_le hS (Pin.le_trans c.le f.le)) _ _ _ (ad _ _ (by simpa using hj)))) af.pins ?_
 refine dO (i := 1) (zR (i := 1) rfl rfl rfl (zD rfl _) (zL (vs := [(.agg [u].toArray)]) Tryz.func17 nm17 rfl rfl rfl ?_))
 refine Calls.mono (qG af.pins (hu.mono (Pin.le_trans (Pin.le_trans (Pin.le_trans r g) c.le) f.le)) hsn) ?_
 rintro _ c2 ⟨bx, c3, rfl, bz, a⟩
 refine ⟨_, rfl, ?_⟩
 have aq := af.tr a
 refine ⟨fun _ => (Pins.of_le aq.pins a.le), ?_⟩
 refine dO (i := 3) (zR (i := 3) rfl rfl rfl (zD rfl _) (zL (vs := [(.agg [v].toArray)]) Tryz.func17 nm17 rfl rfl rfl ?_))
 refine Calls.mono (qG aq.pins (hv.mono (Pin.le_trans (Pin.le_trans (Pin.le_trans (Pin.le_trans r g) c.le) f.le) a.le)) hsm) ?_
 rintro _ c4 ⟨b0, c5, rfl, b2, b⟩
 refine ⟨_, rfl, ?_⟩
 have ar := aq.tr b
 refine ⟨fun _ => (Pins.of_le ar.pins (Pin.le_trans a.le b.le)), ?_⟩
 refine dO (i := 4) (zR (i := 4) rfl rfl rfl (zD rfl _) (zL (vs := [(.agg [bx].toArray), (.agg [b0].toArray)]) Tryz.func27 nm27 rfl rfl rfl ?_))
 refine Calls.mono (sLessForm_spec ar.pins (bz.mono b.le) b2) ?_
 rintro _ c6 ⟨c7, rfl, d⟩
 refine ⟨_, rfl, ?_⟩
 have l := ar.tr d
 refine ⟨fun _ => (Pins.of_le l.pins (Pin.le_trans (Pin.le_trans a.le b.le) d.le)), ?_⟩
 refine dM 5 (.tuple #[(.bool (lsB ns ms)), (.bool (goodB ns && goodB ms))]) (Pins.of_le l.pins (Pin.le_trans (Pin.le_trans a.le b.le) d.le)) ?_
 refine dT (i := 6) rfl rfl (by kernel_rfl) (fun _ _ => xJ (v := (.bool (lsB ns ms))) rfl rfl) (Pins.of_le l.pins (Pin.le_trans (Pin.le_trans a.le b.le) d.le)) ?_
 refine dT (i := 7) rfl rfl (by kernel_rfl) (fun _ _ => xJ (v := (.bool (goodB ns && goodB ms))) rfl rfl) (Pins.of_le l.pins (Pin.le_trans (Pin.le_trans a.le b.le) d.le)) ?_
 refine dM 8 (.bool (lsB ns ms)) (Pins.of_le l.pins (Pin.le_trans (Pin.le_trans a.le b.le) d.le)) ?_
 refine dM 9 (.bool (goodB ns && goodB ms)) (Pins.of_le l.pins (Pin.le_trans (Pin.le_trans a.le b.le) d.le)) ?_
 refine yK (by kernel_rfl) ?_
 refine zA (zB (zC ?_))
 refine qD rfl (yQ (cs := [u]) ag24 sz24 rfl (fun j u hj => (Pins.of_le l.pins (Pin.le_trans (Pin.le_trans (Pin.le_trans (Pin.le_trans (Pin.le_trans g c.le) f.le) a.le) b.le) d.le)) _ _ _ (ac _ _ (by simpa using hj)))) ?_
 refine qI rfl (zL (vs := [(.agg [u].toArray)]) Tryz.func17 nm17 rfl rfl rfl ?_)
 refine Calls.mono (qG l.pins (hu.mono (Pin.le_trans (Pin.le_trans (Pin.le_trans (Pin.le_trans (Pin.le_trans (Pin.le_trans r g) c.le) f.le) a.le) b.le) d.le)) hsn) ?_
 rintro _ c8 ⟨t, c9, rfl, au, x⟩
 refine ⟨_, rfl, ?_⟩
 have av := l.tr x
 refine qI rfl (xA [(.slice none 0 0)] zr32 rfl av.pins (fun b3 da db b4 b5 b6 => ?_))
 have a6 := av.step b5 b6
 have a7 : w.heap.size ≤ b3 := by have := av.size; omega
 refine q0 rfl rfl rfl (xK (cs' := [t]) (us := [t]) (v := (.agg [t].toArray)) sz32 rfl rfl rfl (xC au.one) a6.pins b4 (Nat.le_of_ble_eq_true rfl) rfl (fun dc b7 b8 b9 dd => ?_))
 have ca := a6.write b8 b9 ((yT a7))
 obtain ⟨de, s, aw, a8, df⟩ := b7.shut ca a7
 refine qe (zA (zB (zC ?_)))
 refine qD rfl (yQ (cs := [v]) ag24 sz24 rfl (fun j u hj => (Pins.of_le aw.pins (Pin.le_trans (Pin.le_trans (Pin.le_trans (Pin.le_trans (Pin.le_trans (Pin.le_trans c.le f.le) a.le) b.le) d.le) x.le) s)) _ _ _ (ad _ _ (by simpa using hj)))) ?_
 refine qI rfl (zL (vs := [(.agg [v].toArray)]) Tryz.func17 nm17 rfl rfl rfl ?_)
 refine Calls.mono (qG aw.pins (hv.mono (Pin.le_trans (Pin.le_trans (Pin.le_trans (Pin.le_trans (Pin.le_trans (Pin.le_trans (Pin.le_trans (Pin.le_trans r g) c.le) f.le) a.le) b.le) d.le) x.le) s)) hsm) ?_
 rintro _ dg ⟨y, dh, rfl, ax, m⟩
 refine ⟨_, rfl, ?_⟩
 have ay := aw.tr m
 refine qI rfl (xA [(.slice none 0 0)] zr32 rfl ay.pins (fun cb di dj cc cd ce => ?_))
 have a9 := ay.step cd ce
 have ba : w.heap.size ≤ cb := by have := ay.size; omega
 refine q0 rfl rfl rfl (xK (cs' := [y]) (us := [y]) (v := (.agg [y].toArray)) sz32 rfl rfl rfl (xC ax.one) a9.pins cc (Nat.le_of_ble_eq_true rfl) rfl (fun dk cf cg ch dl => ?_))
 have ci := a9.write cg ch ((yT ba))
 obtain ⟨dm, k, ag, bb, dn⟩ := cf.shut ci ba
 refine qe (zA (zB (zC ?_)))
 refine qD rfl (yQ (cs := [t]) ag32 sz32 rfl (fun j u hj => (Pins.of_le ag.pins (Pin.le_trans m.le k)) _ _ _ (a8 _ _ (by simpa using hj)))) ?_
 refine qD rfl (yQ (cs := [y]) ag32 sz32 rfl (fun j u hj => ag.pins _ _ _ (bb _ _ (by simpa using hj)))) ?_
 refine qI rfl (zL (vs := [(.agg [t].toArray), (.agg [y].toArray)]) Tryz.func28 nm28 rfl rfl rfl ?_)
 refine Calls.mono (iLessForm_spec ag.pins (au.mono (Pin.le_trans (Pin.le_trans s m.le) k)) (ax.mono k)) ?_
 rintro _ az ⟨cj, rfl, o⟩
 refine ⟨_, rfl, ?_⟩
 have bc := ag.tr o
 refine qM (.tuple #[(.bool (lsB ns ms)), (.bool (goodB ns && goodB ms))]) ?_
 refine qD rfl (xJ (v := (.bool (lsB ns ms))) rfl rfl) ?_
 refine qD rfl (xJ (v := (.bool (goodB ns && goodB ms))) rfl rfl) ?_
 refine qM (.bool (lsB ns ms)) ?_
 refine qM (.bool (goodB ns && goodB ms)) ?_
 refine qe (zA (zB (zB (zC ?_))))
 refine qM (.bool (lsB ns ms)) ?_
 refine qM (.bool (lsB ns ms)) ?_
 refine qD rfl (r_neqB_same Tryz.underlying4 rfl rfl) ?_
 refine qM (.bool false) ?_
 refine qN (zU (v := (.bool (goodB ns && goodB ms))) rfl) ?_
 refine qN (zU (v := (.bool (goodB ns && goodB ms))) rfl) ?_
 refine qN (r_neqB_same Tryz.underlying4 rfl rfl) ?_
 refine qD rfl (xB (v := (.bool false)) rfl rfl) ?_
 refine qe (zA ?_)
 refine c_ifF rfl rfl ?_
 refine wp_skip ?_
 refine zA (zB (zB ?_))
 refine yU (S := fun wz => Pins cj wz) (last := 5) (by kernel_rfl) rfl ?_
 have bd : Below az.heap.size az az.drew := (Below.refl _ _).drew
 have ck := bc.pins.below bd
 have ah := bc.step ck bd
 refine dT (i := 0) rfl rfl (by kernel_rfl) (fun _ hS => yQ (cs := [t]) ag32 sz32 rfl (fun j u hj => (Pins.of_le hS (Pin.le_trans (Pin.le_trans m.le k) o.le)) _ _ _ (a8 _ _ (by simpa using hj)))) ah.pins ?_
 refine dT (i := 1) rfl rfl (by kernel_rfl) (fun _ hS => yQ (cs := [u]) ag24 sz24 rfl (fun j u hj => (Pins.of_le hS (Pin.le_trans (Pin.le_trans (Pin.le_trans (Pin.le_trans (Pin.le_trans (Pin.le_trans (Pin.le_trans (Pin.le_trans (Pin.le_trans (Pin.le_trans g c.le) f.le) a.le) b.le) d.le) x.le) s) m.le) k) o.le)) _ _ _ (ac _ _ (by simpa using hj)))) ah.pins ?_
 refine dO (i := 2) (zR (i := 2) rfl rfl rfl (zD rfl _) (zL (vs := [(.agg [u].toArray)]) Tryz.func17 nm17 rfl rfl rfl ?_))
 refine Calls.mono (qG ah.pins (hu.mono (Pin.le_trans (Pin.le_trans (Pin.le_trans (Pin.le_trans (Pin.le_trans (Pin.le_trans (Pin.le_trans (Pin.le_trans (Pin.le_trans (Pin.le_trans (Pin.le_trans r g) c.le) f.le) a.le) b.le) d.le) x.le) s) m.le) k) o.le)) hsn) ?_
 rintro _ dp ⟨cl, dq, rfl, cm, q⟩
 refine ⟨_, rfl, ?_⟩
 have a0 := ah.tr q
 refine ⟨fun _ => (Pins.of_le a0.pins q.le), ?_⟩
 refine dO (i := 3) (zR (i := 3) rfl rfl rfl (zD rfl _) (zL (vs := [(.agg [t].toArray), (.agg [cl].toArray)]) Tryz.func20 nm20 rfl rfl rfl ?_))
 refine Calls.mono (eqForm_spec a0.pins (au.mono (Pin.le_trans (Pin.le_trans (Pin.le_trans (Pin.le_trans s m.le) k) o.le) q.le)) cm) ?_
 rintro _ a1 ⟨cn, rfl, z⟩
 refine ⟨_, rfl, ?_⟩
 have ai := a0.tr z
 refine ⟨fun _ => (Pins.of_le ai.pins (Pin.le_trans q.le z.le)), ?_⟩
 refine dT (i := 4) rfl rfl (by kernel_rfl) (fun _ _ => xR rfl) (Pins.of_le ai.pins (Pin.le_trans q.le z.le)) ?_
 refine yK (by kernel_rfl) ?_
 refine zA ?_
 refine c_ifn rfl rfl (fun _ => ?_) (fun h => absurd rfl (of_decide_eq_false h))
 refine wp_skip ?_
 refine zA (zB (zB ?_))
 refine yU (S := fun wz => Pins cn wz) (last := 5) (by kernel_rfl) rfl ?_
 have be : Below a1.heap.size a1 a1.drew := (Below.refl _ _).drew
 have co := ai.pins.below be
 have aj := ai.step co be
 refine dT (i := 0) rfl rfl (by kernel_rfl) (fun _ hS => yQ (cs := [y]) ag32 sz32 rfl (fun j u hj => (Pins.of_le hS (Pin.le_trans (Pin.le_trans o.le q.le) z.le)) _ _ _ (bb _ _ (by simpa using hj)))) aj.pins ?_
 refine dT (i := 1) rfl rfl (by kernel_rfl) (fun _ hS => yQ (cs := [v]) ag24 sz24 rfl (fun j u hj => (Pins.of_le hS (Pin.le_trans (Pin.le_trans (Pin.le_trans (Pin.le_trans (Pin.le_trans (Pin.le_trans (Pin.le_trans (Pin.le_trans (Pin.le_trans (Pin.le_trans (Pin.le_trans c.le f.le) a.le) b.le) d.le) x.le) s) m.le) k) o.le) q.le) z.le)) _ _ _ (ad _ _ (by simpa using hj)))) aj.pins ?_
 refine dO (i := 2) (zR (i := 2) rfl rfl rfl (zD rfl _) (zL (vs := [(.agg [v].toArray)]) Tryz.func17 nm17 rfl rfl rfl ?_))
 refine Calls.mono (qG aj.pins (hv.mono (Pin.le_trans (Pin.le_trans (Pin.le_trans (Pin.le_trans (Pin.le_trans (Pin.le_trans (Pin.le_trans (Pin.le_trans (Pin.le_trans (Pin.le_trans (Pin.le_trans (Pin.le_trans (Pin.le_trans r g) c.le) f.le) a.le) b.le) d.le) x.le) s) m.le) k) o.le) q.le) z.le)) hsm) ?_
 rintro _ dr ⟨cp, ds, rfl, cq, ab⟩
 refine ⟨_, rfl, ?_⟩
 have a2 := aj.tr ab
 refine ⟨fun _ => (Pins.of_le a2.pins ab.le), ?_⟩
 refine dO (i := 3) (zR (i := 3) rfl rfl rfl (zD rfl _) (zL (vs := [(.agg [y].toArray), (.agg [cp].toArray)]) Tryz.func20 nm20 rfl rfl rfl ?_))
 refine Calls.mono (eqForm_spec a2.pins (ax.mono (Pin.le_trans (Pin.le_trans (Pin.le_trans (Pin.le_trans k o.le) q.le) z.le) ab.le)) cq) ?_
 rintro _ dt ⟨du, rfl, a3⟩
 refine ⟨_, rfl, ?_⟩
 have a4 := a2.tr a3
 refine ⟨fun _ => (Pins.of_le a4.pins (Pin.le_trans ab.le a3.le)), ?_⟩
 refine dT (i := 4) rfl rfl (by kernel_rfl) (fun _ _ => xR rfl) (Pins.of_le a4.pins (Pin.le_trans ab.le a3.le)) ?_
 refine yK (by kernel_rfl) ?_
 refine zA ?_
 refine c_ifn rfl rfl (fun _ => ?_) (fun h => absurd rfl (of_decide_eq_false h))
 refine wp_skip ?_
 refine zA (zB (zC ?_))
 refine qM (.bool true) ?_
 refine qe (zA ?_)
 refine wp_ret ?_
 refine zT ?_
 refine zP (v := (.bool true)) rfl rfl rfl ?_
 exact ⟨_, rfl, a4⟩

end LSL
end Go.Proofs.YtfnginkcmcfdfaaGreatDoor
