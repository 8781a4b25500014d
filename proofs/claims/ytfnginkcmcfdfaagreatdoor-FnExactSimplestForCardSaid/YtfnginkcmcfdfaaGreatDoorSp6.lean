/- Texts of this claim in one file: PL1, PA1, DI1, RI1, CN1, CN2, CN3, CN4, AS2, NU1, NU2, VA1, VA2, VA3, VA4. -/
import Derived.Test.YtfnginkcmcfdfaaGreatDoorSp5
import Derived.Test.YtfnginkcmcfdfaaGreatDoorChecked
set_option maxRecDepth 20000
set_option maxHeartbeats 2000000
namespace Go.Proofs.YtfnginkcmcfdfaaGreatDoor
namespace PL1
open Go.RowKit Go.GL Go.Proofs
open Go.Proofs.YtfnginkcmcfdfaaGreatDoor.B1
open Go.Proofs.YtfnginkcmcfdfaaGreatDoor.K1
open Go.Proofs.YtfnginkcmcfdfaaGreatDoor.PO1









theorem mk3 : (Tryz.prog.info? 3).map (fun i => (i.size, i.bytes, i.zero)) = some (1, 8, some (.int .i64 0)) := by kernel_rfl








theorem pl72 : (Tryz.prog.underlying 72).bind (placesD Tryz.prog) = some [(0, 1), (1, 1), (2, 1), (3, 1), (4, 1), (5, 1), (6, 1), (7, 1)] := by kernel_rfl










theorem newPool_spec {w : World} {G : Pin} (hP : Pins G w) :
  Calls Tryz.prog 51 [].toArray w fun e w' => ∃ (p : Nat) (mm : PM) (G' : Pin), e = .returned (.pointer (some ⟨p, 0, none⟩)) ∧ Pk 65 3 G' w' p (.slice none 0 0) (.slice none 0 0) (.slice none 0 0) mm ⟨[], [], [], [], [], [], []⟩ ∧ (∀ k, inP p (.slice none 0 0) (.slice none 0 0) (.slice none 0 0) mm k → w.heap.size ≤ k) ∧ Ext noS G w G' w' := by
 refine zT (n := 8) Tryz.func51 Tryz.ntmps51 rfl rfl ?_
 have o : Ext noS G w G w := Ext.refl hP
 refine zB (zC ?_)
 refine qM (.pointer none) ?_
 refine qe (zA (zB (zC ?_)))
 refine qI rfl (o_makeMap (fun k : ByteArray => Value.string k) (fun v : Int => Value.int .i64 v) o.pins (fun a w2 bo z al am => ?_))
 have q := o.step al am
 have an : w.heap.size ≤ a := by have := o.size; omega
 refine qI rfl (o_makeMap encP2 (fun v : Bool => Value.bool v) q.pins (fun b bp ao aa ap ab => ?_))
 have r := q.step ap ab
 have ac := z.below ab
 have aq : Apart (some b) (some a) := zL (congrArg some ao) z.lt
 have ar : w.heap.size ≤ b := by have := q.size; omega
 refine qI rfl (o_makeMap (fun k : Int => Value.int .i64 k) (fun v : Int => Value.int .i64 v) r.pins (fun c bq ad ae au s => ?_))
 have t := r.step au s
 have af := ac.below s
 have ag := aa.below s
 have av : Apart (some c) (some a) := zL (congrArg some ad) ac.lt
 have aw : Apart (some c) (some b) := zL (congrArg some ad) aa.lt
 have ax : w.heap.size ≤ c := by have := r.size; omega
 refine qI rfl (o_makeMap encP2 (fun v : Int => Value.int .i64 v) t.pins (fun d br u ah ay l => ?_))
 have x := t.step ay l
 have ai := af.below l
 have aj := ag.below l
 have ak := ae.below l
 have az : Apart (some d) (some a) := zL (congrArg some u) af.lt
 have a0 : Apart (some d) (some b) := zL (congrArg some u) ag.lt
 have a1 : Apart (some d) (some c) := zL (congrArg some u) ae.lt
 have a2 : w.heap.size ≤ d := by have := t.size; omega
 refine qI rfl (o_makeMap (fun k : Int => Value.int .i64 k) (fun v : Int => Value.int .i64 v) x.pins (fun f bs m a3 a4 i => ?_))
 have y := x.step a4 i
 have a5 := ai.below i
 have a6 := aj.below i
 have a7 := ak.below i
 have a8 := ah.below i
 have a9 : Apart (some f) (some a) := zL (congrArg some m) ai.lt
 have ba : Apart (some f) (some b) := zL (congrArg some m) aj.lt
 have bb : Apart (some f) (some c) := zL (congrArg some m) ak.lt
 have bc : Apart (some f) (some d) := zL (congrArg some m) ah.lt
 have bd : w.heap.size ≤ f := by have := x.size; omega
 refine qD rfl (yU [(.slice none 0 0), (.slice none 0 0), (.slice none 0 0), (.map none), (.map none), (.map none), (.map none), (.map none)] [(.slice none 0 0), (.slice none 0 0), (.slice none 0 0), (.map (some a)), (.map (some b)), (.map (some c)), (.map (some d)), (.map (some f))] [(3, (.map (some a)), [(.map (some a))]), (4, (.map (some b)), [(.map (some b))]), (5, (.map (some c)), [(.map (some c))]), (6, (.map (some d)), [(.map (some d))]), (7, (.map (some f)), [(.map (some f))])] Tryz.underlying72 zr72 rfl pl72 rfl (List.forall_mem_cons.2 ⟨rfl, (List.forall_mem_cons.2 ⟨rfl, (List.forall_mem_cons.2 ⟨rfl, (List.forall_mem_cons.2 ⟨rfl, (List.forall_mem_cons.2 ⟨rfl, (fun _ h => by cases h)⟩)⟩)⟩)⟩)⟩) rfl) ?_
 refine qI rfl (xJ [(.slice none 0 0), (.slice none 0 0), (.slice none 0 0), (.map (some a)), (.map (some b)), (.map (some c)), (.map (some d)), (.map (some f))] (v := (.agg [(.slice none 0 0), (.slice none 0 0), (.slice none 0 0), (.map (some a)), (.map (some b)), (.map (some c)), (.map (some d)), (.map (some f))].toArray)) rfl rfl y.pins (fun j bt bu be bf g => ?_))
 have bg := y.step bf g
 have bh := a5.below g
 have bi := a6.below g
 have bj := a7.below g
 have bk := a8.below g
 have bl := a3.below g
 have bm : w.heap.size ≤ j := by have := y.size; omega
 refine qM (.pointer (some ⟨j, 0, none⟩)) ?_
 refine qe (zA ?_)
 refine wp_ret ?_
 refine zP ?_
 refine zO (v := (.pointer (some ⟨j, 0, none⟩))) rfl rfl rfl ?_
 have hdf : PDiff ⟨a, b, c, d, f⟩ := ⟨fun e => aq.symm _ rfl (congrArg some e.symm), fun e => av.symm _ rfl (congrArg some e.symm), fun e => az.symm _ rfl (congrArg some e.symm), fun e => a9.symm _ rfl (congrArg some e.symm), fun e => aw.symm _ rfl (congrArg some e.symm), fun e => a0.symm _ rfl (congrArg some e.symm), fun e => ba.symm _ rfl (congrArg some e.symm), fun e => a1.symm _ rfl (congrArg some e.symm), fun e => bb.symm _ rfl (congrArg some e.symm), fun e => bc.symm _ rfl (congrArg some e.symm)⟩
 have hfr : ∀ k, inP j (.slice none 0 0) (.slice none 0 0) (.slice none 0 0) ⟨a, b, c, d, f⟩ k → w.heap.size ≤ k := by rintro k (rfl | hk | hk | hk | rfl | rfl | rfl | rfl | rfl) <;> first | (cases hk; done) | exact bm | exact an | exact ar | exact ax | exact a2 | exact bd
 exact ⟨j, ⟨a, b, c, d, f⟩, _, rfl, ⟨be, (Own.nil _ _ _ _ _), (Own.nil _ _ _ _ _), (Own.nil _ _ _ _ _), bh, bi, bj, bk, bl, apart_none.symm, apart_none.symm, apart_none.symm, apart_none, apart_none, apart_none, hdf⟩, hfr, bg⟩

theorem renamed_spec {w : World} {G : Pin} {u v : Value} {xs ys : List Int} (hP : Pins G w) (hu : RSl eInt G u xs) (hv : RSl eInt G v ys) (hs : xs.length ≤ 1048576) (hb : ∀ i, i < xs.length → 0 ≤ xs.getD i 0 ∧ xs.getD i 0 < ys.length) :
  Calls Tryz.prog 143 [u, v].toArray w fun e w' => ∃ (u : Value) (G' : Pin), e = .returned u ∧ Own eInt 3 G' w' w.heap.size u (atL ys xs) ∧ Ext noS G w G' w' := by
 refine zT (n := 27) Tryz.func143 Tryz.ntmps143 rfl rfl ?_
 have d : Ext noS G w G w := Ext.refl hP
 have hm := hu.max
 have hal : (atL ys xs).length = xs.length := xF
 have hrl : (List.replicate xs.length (0 : Int)).length = xs.length := List.length_replicate
 refine zB (zC ?_)
 refine qM (.slice none 0 0) ?_
 refine qe (zA (zB (zC ?_)))
 refine qM u ?_
 refine qD rfl (zM Tryz.underlying65 (v := u) rfl hu) ?_
 refine qI rfl (o_make (E := eInt) 0 8 (vJ 0) Tryz.underlying65 mk3 (fun _ => rfl) rfl rfl d.pins (by omega) (by omega) (by omega) (fun a g h l m ab => ?_))
 have o := d.step l m
 have q : Own eInt 3 G g w.heap.size a (List.replicate xs.length 0) := h.weaken d.size
 have ac : (List.replicate xs.length 0).length = xs.length := List.length_replicate ..
 refine qM a ?_
 refine qe (zA (zB (zB (zC ?_))))
 refine qM u ?_
 refine qD rfl (zM Tryz.underlying65 (v := u) rfl hu) ?_
 refine qM (vJ 0) ?_
 refine qe (zA ?_)
 refine zW ?_
 refine yR (fun (k : Nat) (en : Nat → Value) (W : World) => ∃ (f : Nat → Value) (j : Nat) (os : List Int), en = (upd (upd (upd (upd (upd (upd f 1 v) 4 (.slice none 0 0)) 5 a) 11 u) 12 (vJ (xs.length : Int))) 13 (vJ (j : Int))) ∧ k = xs.length - j ∧ Ext noS G w G W ∧ (j ≤ xs.length) ∧ (os = (atL ys xs).take j ++ (List.replicate xs.length 0).drop j) ∧ (os.length = xs.length) ∧ (Own eInt 3 G W w.heap.size a (os))) _ ⟨_, 0, List.replicate xs.length 0, (pS 13 (pS 12 (pS 11 (pS 5 (pS 4 (pU 1)))))), rfl, o, Nat.zero_le _, rfl, hrl, q⟩ ?_
 rintro ad _ ae ⟨f, j, os, rfl, af, b, hj, hr, hol, c⟩
 refine zB (zC ?_)
 refine qD rfl (yT rfl rfl) ?_
 refine qe (zA (zB ?_))
 refine zZ (p := ((j : Int) : Int) < (xs.length : Int)) rfl rfl (fun s => ?_) (fun s => ?_)
 ·skip
  have hbj := hb j (by omega)
  refine wp_skip ?_
  refine zA (zB ?_)
  refine zW ?_
  refine zB (zC ?_)
  refine qM (vJ (j : Int)) ?_
  refine qD rfl (zG Tryz.underlying65 sz3 (v := u) rfl rfl hu (by omega) (by omega)) ?_
  refine qD rfl (zE (r := xs.getD j 0) rfl ag3 (z := (j : Int)) rfl hu b.pins (by omega) (by omega)) ?_
  refine qM (vJ (j : Int)) ?_
  refine qM (vJ (xs.getD j 0)) ?_
  refine qe (zA (zC ?_))
  refine qM a ?_
  refine qM (vJ (j : Int)) ?_
  refine qM v ?_
  refine qM (vJ (xs.getD j 0)) ?_
  refine qD rfl (zG Tryz.underlying65 sz3 (v := v) rfl rfl hv (by omega) (by omega)) ?_
  refine qD rfl (zE (r := ys.getD (xs.getD j 0).toNat 0) rfl ag3 (z := (xs.getD j 0)) rfl hv b.pins (by omega) (by omega)) ?_
  refine qD rfl (zG Tryz.underlying65 sz3 (v := a) rfl rfl c.read (by omega) (by omega)) ?_
  refine q0 rfl rfl rfl (o_set (E := eInt) (v := a) (u := (vJ (ys.getD (xs.getD j 0).toNat 0))) (z := (j : Int)) (ys.getD (xs.getD j 0).toNat 0) sz3 rfl rfl rfl rfl b.pins c (by omega) (by omega) (fun ag t x y ah => ?_))
  have aa := b.write x y ((yH c))
  refine qe ?_
  refine zY ?_
  refine zA (zC ?_)
  refine qD rfl (yF rfl rfl (by omega)) ?_
  refine qM (vJ ((j : Int) + 1)) ?_
  refine qe ?_
  refine zX ?_
  refine ⟨_, ?_, _, rfl, _, j + 1, os.set j (ys.getD (xs.getD j 0).toNat 0), (pS 13 (pS 12 (pS 11 (pS 5 (pS 4 (pU 1)))))), rfl, aa, (by omega), (by rw [hr]; exact cur_set 0 (by omega) (by omega) (at_getD (by omega))), ((List.length_set ..).trans hol), t⟩
  omega
 refine wp_exit ?_
 refine zV ?_
 refine yI ?_
 refine yD ?_
 refine zA (zB (zC ?_))
 refine qM a ?_
 refine qM a ?_
 refine qe (zA ?_)
 refine wp_ret ?_
 refine zP ?_
 refine zO (v := a) rfl rfl rfl ?_
 rw [cur_end (by omega) (by omega)] at hr
 exact ⟨_, _, rfl, (by rw [← hr]; exact c), b⟩

theorem load_spec {w : World} {G : Pin} {p : Nat} {L R B : Value} {mm : PM} {q : PSt} (hP : Pins G w) (hpk : Pk 65 3 G w p L R B mm q) (hok : PoolOk q) {x : Value} {fs : List Nd} (hx : RSl eNode G x fs) (hf : FormOk fs) (hl : q.ns.length + fs.length ≤ 1048576) :
  Calls Tryz.prog 104 [(.pointer (some ⟨p, 0, none⟩)), (.agg [x].toArray)].toArray w fun e w' => ∃ (u : Value) (ats : List Int) (L' R' B' : Value) (q' : PSt) (G' : Pin), e = .returned u ∧ Pk 65 3 G' w' p L' R' B' mm q' ∧ PoolOk q' ∧ PX q q' ∧ PLo w p L R B mm L' R' B' ∧ Ext (inP p L R B mm) G w G' w' ∧ Own eInt 3 G' w' w.heap.size u ats ∧ NP p L' R' B' mm u.ownBlock ∧ LdOk fs q q' fs.length ats := by
 refine zT (n := 34) Tryz.func104 Tryz.ntmps104 rfl rfl ?_
 have ax : Ext (inP p L R B mm) G w G w := Ext.refl hP
 have hpin : PIn w (inP p L R B mm) p L R B mm := PIn.self
 have ee : (q.ns.map Nd.l).length = q.ns.length ∧ (q.ns.map Nd.r).length = q.ns.length := ⟨List.length_map .., List.length_map ..⟩
 have ef : q.bs.length = q.ns.length ∧ q.ns.length ≤ 1048576 := ⟨hok.ar.ok.len, hok.ar.ok.lim⟩
 refine zB (zC ?_)
 refine qI rfl (xJ [x] (v := (.agg [x].toArray)) rfl rfl ax.pins (fun b3 w4 cp cq bk bl => ?_))
 have cr := ax.step bk bl
 have cs := hpk.below bl bk
 have ct := hpk.new (x := (some b3)) (fun k hk => by rw [(congrArg some cp)] at hk; cases hk; exact Nat.le_refl _)
 have cu : w.heap.size ≤ b3 := by have := ax.size; omega
 obtain ⟨ay, ak, al, bm, cv⟩ := cq.shut cr cu
 have bn := cs.more ak cv ct
 refine qM (.slice none 0 0) ?_
 refine qe (zA (zB (zC ?_)))
 refine qD rfl (zJ (k := 0) rfl Tryz.underlying32 rfl nz30 rfl) ?_
 refine qD rfl (zK (u := x) ag30 rfl (al.pins _ _ _ (bm 0 _ rfl))) ?_
 refine qD rfl (zM Tryz.underlying30 (v := x) rfl hx) ?_
 refine qI rfl (o_make0 (E := eInt) Tryz.underlying65 mk3 rfl rfl al.pins (by omega) (by omega) (by omega) (fun am cw cx bo bp cy => ?_))
 have bq := al.step bo bp
 have cz := bn.below bp bo
 have c0 := bn.new (x := am.ownBlock) (fun k hk => by rw [cy] at hk; cases hk; exact Nat.le_refl _)
 have c1 : Own eInt 3 ay cw w.heap.size am ([]) := cx.weaken al.size
 refine qM am ?_
 refine qe (zA (zB (zB (zC ?_))))
 refine qD rfl (zJ (k := 0) rfl Tryz.underlying32 rfl nz30 rfl) ?_
 refine qD rfl (zK (u := x) ag30 rfl (bq.pins _ _ _ (bm 0 _ rfl))) ?_
 refine qD rfl (zM Tryz.underlying30 (v := x) rfl hx) ?_
 refine qM (vJ 0) ?_
 refine qe (zA ?_)
 refine zW ?_
 refine yR (fun (k : Nat) (en : Nat → Value) (W : World) => ∃ (br : Nat → Value) (a : Nat) (at_ : Value) (ats : List Int) (t : Value) (y : Value) (aa : Value) (b : PSt) (o : Pin), en = (upd (upd (upd (upd (upd (upd br 0 (.pointer (some ⟨p, 0, none⟩))) 4 (.slice none 0 0)) 5 at_) 13 x) 14 (vJ (fs.length : Int))) 15 (vJ (a : Int))) ∧ k = fs.length - a ∧ Ext (inP p L R B mm) G w o W ∧ Pin.le ay o ∧ (a ≤ fs.length) ∧ (LdOk fs q b a ats) ∧ (Own eInt 3 o W w.heap.size at_ (ats)) ∧ (Pk 65 3 o W p t y aa mm b) ∧ (PIn w ((inP p L R B mm)) p t y aa mm) ∧ (PoolOk b) ∧ (PX q b) ∧ (NP p t y aa mm at_.ownBlock)) _ ⟨_, 0, am, [], L, R, B, q, ay, (pS 15 (pS 14 (pS 13 (pS 5 (pS 4 (pU 0)))))), rfl, bq, Pin.le_refl _, Nat.zero_le _, LdOk.start, c1, cz, hpin, hok, (PX.refl _), c0⟩ ?_
 rintro eh _ ei ⟨br, a, at_, ats, t, y, aa, b, o, rfl, ej, ab, an, hk, hld, az, a0, a1, ac, a2, a3⟩
 have ek := a2.len
 have el : (b.ns.map Nd.l).length = b.ns.length ∧ (b.ns.map Nd.r).length = b.ns.length := ⟨List.length_map .., List.length_map ..⟩
 have em : b.bs.length = b.ns.length ∧ b.ns.length ≤ 1048576 := ⟨ac.ar.ok.len, ac.ar.ok.lim⟩
 have hal := hld.len
 have hah := hld.hi
 have hfl := hf.len
 refine zB (zC ?_)
 refine qD rfl (yT rfl rfl) ?_
 refine qe (zA (zB ?_))
 refine zZ (p := ((a : Int) : Int) < (fs.length : Int)) rfl rfl (fun c2 => ?_) (fun c2 => ?_)
 ·skip
  have oo := xE hf.opts (show a < fs.length by omega)
  have hfe := hf.lens a (by omega)
  refine wp_skip ?_
  refine zA (zB ?_)
  refine zW ?_
  refine zB (zC ?_)
  refine qD rfl (zG Tryz.underlying30 sz99 (v := x) rfl rfl hx (by omega) (by omega)) ?_
  obtain ⟨ad, ae, a4, a5, c3⟩ := qZ (hx.at (z := (a : Int)) (by omega) (by omega)) (j := a) rfl
  have eo := a4.max
  have ep := a5.max
  refine qD rfl (c3 ag99 sz99 rfl (Pins.of_le ab.pins (Pin.le_trans ak an))) ?_
  refine qI rfl (yO [(.slice none 0 0), (.slice none 0 0)] zr99 rfl ab.pins (fun a6 eq bt c4 bu a7 => ?_))
  have bv := ab.step bu a7
  have c5 := az.below a7
  have c6 := a0.below a7 bu
  have bw : Apart (some a6) at_.ownBlock := zH (congrArg some bt) az.lt
  have bx := a0.new (x := (some a6)) (fun k hk => by rw [(congrArg some bt)] at hk; cases hk; exact Nat.le_refl _)
  have bz : w.heap.size ≤ a6 := by have := ab.size; omega
  refine q0 rfl rfl rfl (yP (cs' := [ad, ae]) (us := [ad, ae]) (v := (.agg [ad, ae].toArray)) sz99 rfl rfl rfl (yW a4.one a5.one) bv.pins c4 (Nat.le_of_ble_eq_true rfl) rfl (fun ao c7 b0 a8 er => ?_))
  have c8 := bv.write b0 a8 ((yC bz))
  have c9 := c5.keptA a8 bw.symm
  have da := c6.kept a8 b0 bx
  obtain ⟨af, ag, b1, b2, b4⟩ := c7.shut c8 bz
  have db := c9.moreA ag b4 bw.symm
  have dc := da.more ag b4 bx
  refine qe (zA ?_)
  refine xB (S := fun wz => Pins af wz) (last := 14) (by kernel_rfl) rfl ?_
  have ap : Below ao.heap.size ao ao.drew := (Below.refl _ _).drew
  have b5 := b1.pins.below ap
  have c := b1.step b5 ap
  have a9 := db.below ap
  have b6 := dc.below ap b5
  refine dM 0 at_ c.pins ?_
  refine dM 1 (.pointer (some ⟨p, 0, none⟩)) c.pins ?_
  refine dT (i := 2) rfl rfl (by kernel_rfl) (fun _ _ => zJ (k := 0) rfl Tryz.underlying99 rfl nz65 rfl) c.pins ?_
  refine dT (i := 3) rfl rfl (by kernel_rfl) (fun _ hS => zK (u := ad) ag65 rfl (hS _ _ _ (b2 0 _ rfl))) c.pins ?_
  refine dM 4 at_ c.pins ?_
  refine dT (i := 6) rfl rfl (by kernel_rfl) (fun _ _ => zJ (k := 1) rfl Tryz.underlying99 rfl nz65 rfl) c.pins ?_
  refine dT (i := 7) rfl rfl (by kernel_rfl) (fun _ hS => zK (u := ae) ag65 rfl (hS _ _ _ (b2 1 _ rfl))) c.pins ?_
  refine dM 8 at_ c.pins ?_
  refine dO (i := 5) (zU (i := 5) rfl rfl rfl (zD rfl _) (zI (vs := [ad, at_]) Tryz.func143 nm143 rfl rfl rfl ?_))
  refine Calls.mono (renamed_spec (Gadd.pins c.pins at_) ((a4.mono (Pin.le_trans (Pin.le_trans ak an) ag)).mono (Gadd.le _ _ _)) a9.read (by omega) (fun i hi => by have h7 := oo.1 _ (yB (d := (0 : Int)) hi); omega)) ?_
  rintro _ b7 ⟨ba, es, rfl, de, b8⟩
  refine ⟨_, rfl, ?_⟩
  have ah := deep_back c.pins b8
  have bb := de.anti flat_int (Pin.le_trans (Gadd.le af ao.drew at_) b8.le)
  have ai := c.step ah.pins ah.below
  have bc := a9.below ah.below
  have b9 := b6.below ah.below ah.pins
  have df := zS bb.lt a9.lt
  have dg := b6.new (x := ba.ownBlock) (fun k hk => (bb.lt k hk).1)
  have ca : Own eInt 3 af b7 w.heap.size ba (atL ats ((fs.getD a default).l)) := bb.weaken c.size
  have et : (atL ats ((fs.getD a default).l)).length = ((fs.getD a default).l).length := xF
  refine ⟨fun _ => ai.pins, ?_⟩
  refine dO (i := 9) (zU (i := 9) rfl rfl rfl (zD rfl _) (zI (vs := [ae, at_]) Tryz.func143 nm143 rfl rfl rfl ?_))
  refine Calls.mono (renamed_spec (Gadd.pins ai.pins at_) ((a5.mono (Pin.le_trans (Pin.le_trans ak an) ag)).mono (Gadd.le _ _ _)) bc.read (by omega) (fun i hi => by have h7 := oo.2 _ (yB (d := (0 : Int)) hi); omega)) ?_
  rintro _ dh ⟨bd, eu, rfl, di, cb⟩
  refine ⟨_, rfl, ?_⟩
  have s := deep_back ai.pins cb
  have aq := di.anti flat_int (Pin.le_trans (Gadd.le af b7 at_) cb.le)
  have cc := ai.step s.pins s.below
  have dj := bc.below s.below
  have dk := ca.below s.below
  have dl := b9.below s.below s.pins
  have dm := zS aq.lt bc.lt
  have dn := zS aq.lt ca.lt
  have dp := b9.new (x := bd.ownBlock) (fun k hk => (aq.lt k hk).1)
  have dq : Own eInt 3 af dh w.heap.size bd (atL ats ((fs.getD a default).r)) := aq.weaken ai.size
  have ev : (atL ats ((fs.getD a default).r)).length = ((fs.getD a default).r).length := xF
  refine ⟨fun _ => cc.pins, ?_⟩
  obtain ⟨ew, f, dr, ds, be⟩ := dk.sealed cc
  have dt := dj.moreO f be df.symm
  have du := dq.moreO f be dn
  have dv := dl.moreO f be dg
  obtain ⟨ex, g, bf, dw, cd⟩ := du.sealed dr
  have ce := dt.moreO g cd dm.symm
  have dx := dv.moreO g cd dp
  refine dO (i := 10) (zU (i := 10) rfl rfl rfl (zD rfl _) (zI (vs := [(.pointer (some ⟨p, 0, none⟩)), ba, bd]) Tryz.func79 nm79 rfl rfl rfl ?_))
  refine Calls.mono (node_spec bf.pins dx ac (ds.mono g) dw (by omega) ⟨by rw [xF]; omega, by rw [xF]; omega⟩ (hld.opt oo.1) (hld.opt oo.2)) ?_
  rintro _ ey ⟨aj, dy, dz, d0, h, cf, rfl, d1, au, bg, cg, m, d2, d3, d4, ez⟩
  refine ⟨_, rfl, ?_⟩
  have av := bf.trans m a1
  have d5 := ce.extS m a3
  have ch := NP.call a3 cg (jB ce)
  have d6 := PIn.call a1 cg bf.size
  have e0 := bg.len
  have e1 : (h.ns.map Nd.l).length = h.ns.length ∧ (h.ns.map Nd.r).length = h.ns.length := ⟨List.length_map .., List.length_map ..⟩
  have e2 : h.bs.length = h.ns.length ∧ h.ns.length ≤ 1048576 := ⟨au.ar.ok.len, au.ar.ok.lim⟩
  refine ⟨fun _ => (Pins.of_le av.pins (Pin.le_trans (Pin.le_trans f g) m.le)), ?_⟩
  refine dO (i := 11) (zU (i := 11) rfl rfl rfl (zD rfl _) (yZ (E := eInt) (e := 3) [(vJ aj)] [aj] Tryz.underlying65 sz3 zr3 (by exact xU (by rfl)) (xM (by rfl)) rfl rfl rfl rfl (by decide) av.pins (fun ci d7 d8 cj bh e3 => ?_)))
  have aw := av.step cj bh
  have ck := d5.below bh
  have cl := d1.below bh cj
  have d9 : Own eInt 3 cf d7 w.heap.size ci ([aj]) := d8.weaken av.size
  refine ⟨fun _ => (Pins.of_le aw.pins (Pin.le_trans (Pin.le_trans f g) m.le)), ?_⟩
  refine dO (i := 12) (zU (i := 12) rfl rfl rfl (zD rfl _) (oA (E := eInt) (v := at_) (u := ci) 8 Tryz.underlying65 ap3 (by decide) rfl rfl aw.pins ck d9.src (aw.size) (fun cm e4 ea cn co eb => ?_)))
  have bi := aw.write cn co ((yH ck))
  have ec := cl.kept co cn ch
  have ed := np_app ch cl eb
  have e5 : (ats ++ ([aj])).length = ats.length + 1 := List.length_append
  refine ⟨fun _ => (Pins.of_le bi.pins (Pin.le_trans (Pin.le_trans f g) m.le)), ?_⟩
  refine dM 13 cm (Pins.of_le bi.pins (Pin.le_trans (Pin.le_trans f g) m.le)) ?_
  refine yS (by kernel_rfl) ?_
  refine zY ?_
  refine zA (zC ?_)
  refine qD rfl (yF rfl rfl (by omega)) ?_
  refine qM (vJ ((a : Int) + 1)) ?_
  refine qe ?_
  refine zX ?_
  refine ⟨_, ?_, _, rfl, _, a + 1, cm, ats ++ ([aj]), dy, dz, d0, h, cf, (pS 15 (pS 14 (pS 13 (pS 5 (pS 4 (pU 0)))))), rfl, bi, (Pin.le_trans (Pin.le_trans (Pin.le_trans (Pin.le_trans an ag) f) g) m.le), (by omega), (hld.step hf (by omega) ac au bg d2 d3 d4), ea, ec, d6, au, (PX.trans a2 bg), ed⟩
  omega
 refine wp_exit ?_
 refine zV ?_
 refine yI ?_
 refine yD ?_
 refine zA (zB (zC ?_))
 refine qM at_ ?_
 refine qM at_ ?_
 refine qe (zA ?_)
 refine wp_ret ?_
 refine zP ?_
 refine zO (v := at_) rfl rfl rfl ?_
 have hkf : a = fs.length := by omega
 rw [hkf] at hld
 exact ⟨at_, ats, t, y, aa, b, o, rfl, a0, ac, a2, PIn.lo a1 rfl, ab, az, a3, hld⟩

theorem root_spec {w : World} {G : Pin} {p : Nat} {L R B : Value} {mm : PM} {q : PSt} (hP : Pins G w) (hpk : Pk 65 3 G w p L R B mm q) (hok : PoolOk q) {x : Value} {fs : List Nd} (hx : RSl eNode G x fs) (hf : FormOk fs) (hl : q.ns.length + fs.length ≤ 1048576) (hf1 : 1 ≤ fs.length) :
  Calls Tryz.prog 53 [(.pointer (some ⟨p, 0, none⟩)), (.agg [x].toArray)].toArray w fun e w' => ∃ (z : Int) (L' R' B' : Value) (q' : PSt) (G' : Pin), e = .returned (vJ z) ∧ Pk 65 3 G' w' p L' R' B' mm q' ∧ PoolOk q' ∧ PX q q' ∧ PLo w p L R B mm L' R' B' ∧ Ext (inP p L R B mm) G w G' w' ∧ PlaceOk q' z ∧ pd q' z = gOf fs ∧ q'.ns.length ≤ q.ns.length + fs.length := by
 refine zT (n := 15) Tryz.func53 Tryz.ntmps53 rfl rfl ?_
 have d : Ext (inP p L R B mm) G w G w := Ext.refl hP
 have hpin : PIn w (inP p L R B mm) p L R B mm := PIn.self
 have av : (q.ns.map Nd.l).length = q.ns.length ∧ (q.ns.map Nd.r).length = q.ns.length := ⟨List.length_map .., List.length_map ..⟩
 have aw : q.bs.length = q.ns.length ∧ q.ns.length ≤ 1048576 := ⟨hok.ar.ok.len, hok.ar.ok.lim⟩
 have hfl := hf.len
 refine zB (zC ?_)
 refine qI rfl (xJ [x] (v := (.agg [x].toArray)) rfl rfl d.pins (fun i w4 aa ab m o => ?_))
 have ac := d.step m o
 have ad := hpk.below o m
 have ae := hpk.new (x := (some i)) (fun k hk => by rw [(congrArg some aa)] at hk; cases hk; exact Nat.le_refl _)
 have af : w.heap.size ≤ i := by have := d.size; omega
 obtain ⟨ay, s, c, ag, ah⟩ := ab.shut ac af
 have ai := ad.more s ah ae
 refine qM (vJ 0) ?_
 refine qe (zA (zB (zC ?_)))
 refine qM (.pointer (some ⟨p, 0, none⟩)) ?_
 refine qD rfl (yL (cs := [x]) ag32 sz32 rfl (fun j u hj => c.pins _ _ _ (ag _ _ (by simpa using hj)))) ?_
 refine qI rfl (zI (vs := [(.pointer (some ⟨p, 0, none⟩)), (.agg [x].toArray)]) Tryz.func104 nm104 rfl rfl rfl ?_)
 refine Calls.mono (load_spec c.pins ai hok (hx.mono s) hf hl) ?_
 rintro _ az ⟨b, ats, aj, ak, al, a, am, rfl, an, f, t, ao, ap, aq, a0, g⟩
 refine ⟨_, rfl, ?_⟩
 have y := c.trans ap hpin
 have au := PIn.call hpin ao c.size
 have a1 := t.len
 have a2 : (a.ns.map Nd.l).length = a.ns.length ∧ (a.ns.map Nd.r).length = a.ns.length := ⟨List.length_map .., List.length_map ..⟩
 have a3 : a.bs.length = a.ns.length ∧ a.ns.length ≤ 1048576 := ⟨f.ar.ok.len, f.ar.ok.lim⟩
 have h := aq.weaken c.size
 have a4 := g.len
 refine qM b ?_
 refine qe (zA (zB (zC ?_)))
 refine qM b ?_
 refine qM b ?_
 refine qD rfl (zM Tryz.underlying65 (v := b) rfl h.read) ?_
 refine qD rfl (qB rfl rfl (by omega)) ?_
 refine qD rfl (zG Tryz.underlying65 sz3 (v := b) rfl rfl h.read (by omega) (by omega)) ?_
 refine qD rfl (zE (r := ats.getD ((ats.length : Int) - 1).toNat 0) rfl ag3 (z := ((ats.length : Int) - 1)) rfl h.read (Gadd.pins y.pins b) (by omega) (by omega)) ?_
 refine qM (vJ (ats.getD ((ats.length : Int) - 1).toNat 0)) ?_
 refine qe (zA ?_)
 refine wp_ret ?_
 refine zP ?_
 refine zO (v := (vJ (ats.getD ((ats.length : Int) - 1).toNat 0))) rfl rfl rfl ?_
 have hrt := g.root hf1
 rw [show fs.length - 1 = ((ats.length : Int) - 1).toNat by omega] at hrt
 exact ⟨_, aj, ak, al, a, am, rfl, an, f, t, PIn.lo au rfl, y, hrt.1, hrt.2, g.hi⟩

def GeP (m : Nat) (p : Nat) (L R B : Value) (mm : PM) : Prop := ∀ {w : World} {G : Pin} {q : PSt} {a b : Int} (_ : Pins G w) (_ : Pk 65 3 G w p L R B mm q) (_ : PoolOk q) (_ : PlaceOk q a) (_ : PlaceOk q b), a.toNat + b.toNat < m →
  Calls Tryz.prog 54 [(.pointer (some ⟨p, 0, none⟩)), (.int .i64 a), (.int .i64 b)].toArray w fun e w' => ∃ (q' : PSt) (G' : Pin), e = .returned (.bool (geB q.ns a b)) ∧ Pk 65 3 G' w' p L R B mm q' ∧ PoolOk q' ∧ PX q q' ∧ (q'.ns = q.ns ∧ q'.bs = q.bs) ∧ Ext (inO (some mm.o)) G w G' w'

theorem ge_step {p : Nat} {L R B : Value} {mm : PM} {m : Nat} {w : World} {G : Pin} {q : PSt} {a b : Int} (hP : Pins G w) (hpk : Pk 65 3 G w p L R B mm q) (hok : PoolOk q) (ha : PlaceOk q a) (hb : PlaceOk q b) (ih : GeP m p L R B mm) (hm : a.toNat + b.toNat < m + 1) :
  Calls Tryz.prog 54 [(.pointer (some ⟨p, 0, none⟩)), (vJ a), (vJ b)].toArray w fun e w' => ∃ (q' : PSt) (G' : Pin), e = .returned (.bool (geB q.ns a b)) ∧ Pk 65 3 G' w' p L R B mm q' ∧ PoolOk q' ∧ PX q q' ∧ (q'.ns = q.ns ∧ q'.bs = q.bs) ∧ Ext (inO (some mm.o)) G w G' w' := by
 refine zT (n := 74) Tryz.func54 Tryz.ntmps54 rfl rfl ?_
 have a3 : Ext (inO (some mm.o)) G w G w := Ext.refl hP
 have hpin : PIn w (inP p L R B mm) p L R B mm := PIn.self
 have dj : (q.ns.map Nd.l).length = q.ns.length ∧ (q.ns.map Nd.r).length = q.ns.length := ⟨List.length_map .., List.length_map ..⟩
 have dk : q.bs.length = q.ns.length ∧ q.ns.length ≤ 1048576 := ⟨hok.ar.ok.len, hok.ar.ok.lim⟩
 have dl := ha.1
 have dm := ha.2
 have dn := hb.1
 have dp := hb.2
 refine zB (zC ?_)
 refine qM (.bool false) ?_
 refine qe (zA (zB (zB (zC ?_))))
 refine qM (vJ a) ?_
 refine qM (vJ b) ?_
 refine qD rfl (xT rfl rfl) ?_
 refine qe (zA ?_)
 refine zZ (p := (a : Int) = b) rfl rfl (fun h3 => ?_) (fun h3 => ?_)
 ·skip
  refine zB (zC ?_)
  refine qM (.bool true) ?_
  refine qe (zA ?_)
  refine wp_ret ?_
  refine zP ?_
  refine zO (v := (.bool true)) rfl rfl rfl ?_
  exact ⟨q, _, congrArg (fun z => Ending.returned (Value.bool z)) (by rw [h3]; exact geB_refl.symm), hpk, hok, (PX.refl _), ⟨rfl, rfl⟩, a3⟩
 refine wp_skip ?_
 refine zA (zB (zC ?_))
 refine qM (vJ a) ?_
 refine qM (vJ b) ?_
 refine qD rfl (r_buildA (m := 1) [(vJ 0), (vJ 0)] [(vJ a), (vJ b)] [(0, (vJ a), [(vJ a)]), (1, (vJ b), [(vJ b)])] Tryz.underlying114 zr114 rfl sz3 rfl (List.forall_mem_cons.2 ⟨rfl, (List.forall_mem_cons.2 ⟨rfl, (fun _ h => by cases h)⟩)⟩) rfl) ?_
 refine qI rfl (yO [(vJ 0), (vJ 0)] zr114 rfl a3.pins (fun b4 w5 cz c0 b7 b8 => ?_))
 have b9 := a3.step b7 b8
 have c1 := hpk.below b8 b7
 have ca := hpk.new (x := (some b4)) (fun k hk => by rw [(congrArg some cz)] at hk; cases hk; exact Nat.le_refl _)
 have cb : w.heap.size ≤ b4 := by have := a3.size; omega
 refine q0 rfl rfl rfl (yP (cs' := [(vJ a), (vJ b)]) (us := [(vJ a), (vJ b)]) (v := (.agg [(vJ a), (vJ b)].toArray)) sz114 rfl rfl rfl (yW (by rfl) (by rfl)) b9.pins c0 (Nat.le_of_ble_eq_true rfl) rfl (fun bh c2 cc cd dr => ?_))
 have c3 := b9.write cc cd ((yC cb))
 have c4 := c1.kept cd cc ca
 obtain ⟨bi, c5, ce, a5, c6⟩ := c2.shut c3 cb
 have c7 := c4.more c5 c6 ca
 refine qe (zA (zB (zB ?_)))
 refine xB (S := fun wz => BxR wz p [L, R, B, (.map (some mm.f)), (.map (some mm.o)), (.map (some mm.c)), (.map (some mm.s)), (.map (some mm.n))] ∧ Pins bi wz) (last := 11) (by kernel_rfl) rfl ?_
 have bj : Below bh.heap.size bh bh.drew := (Below.refl _ _).drew
 have cf := ce.pins.below bj
 have ac := ce.step cf bj
 have aa := c7.below bj cf
 refine dT (i := 0) rfl rfl (by kernel_rfl) (fun _ _ => zQ (v := (.pointer (some ⟨p, 0, none⟩))) rfl) ⟨aa.bx.reads, ac.pins⟩ ?_
 refine dT (i := 1) rfl rfl (by kernel_rfl) (fun _ _ => yV rfl) ⟨aa.bx.reads, ac.pins⟩ ?_
 refine dT (i := 2) rfl rfl (by kernel_rfl) (fun _ _ => zJ (k := 4) rfl Tryz.underlying72 rfl nz68 rfl) ⟨aa.bx.reads, ac.pins⟩ ?_
 refine dT (i := 3) rfl rfl (by kernel_rfl) (fun _ hS => zK (u := (.map (some mm.o))) ag68 rfl (hS.1 4 _ rfl)) ⟨aa.bx.reads, ac.pins⟩ ?_
 refine dT (i := 4) rfl rfl (by kernel_rfl) (fun _ hS => yL (cs := [(vJ a), (vJ b)]) ag114 sz114 rfl (fun j u hj => hS.2 _ _ _ (a5 _ _ (by simpa using hj)))) ⟨aa.bx.reads, ac.pins⟩ ?_
 refine dO (i := 5) (zU (i := 5) rfl rfl rfl (zD rfl _) (EO.run (run_lookv_bool (k := ((a, b) : Int × Int)) (key_pair Tryz.underlying114 Tryz.underlying3 sz3) Tryz.underlying68 zr4 aa.fo rfl rfl) ?_))
 refine ⟨fun _ => ⟨aa.bx.reads, ac.pins⟩, ?_⟩
 refine dT (i := 6) rfl rfl (by kernel_rfl) (fun _ _ => zQ (v := (.tuple #[(.bool ((Go.GL.look q.om ((a, b) : Int × Int)).getD false)), (.bool ((Go.GL.look q.om ((a, b) : Int × Int)).isSome))])) rfl) ⟨aa.bx.reads, ac.pins⟩ ?_
 refine dT (i := 7) rfl rfl (by kernel_rfl) (fun _ _ => yG (v := (.bool ((Go.GL.look q.om ((a, b) : Int × Int)).getD false))) rfl rfl) ⟨aa.bx.reads, ac.pins⟩ ?_
 refine dT (i := 8) rfl rfl (by kernel_rfl) (fun _ _ => yG (v := (.bool ((Go.GL.look q.om ((a, b) : Int × Int)).isSome))) rfl rfl) ⟨aa.bx.reads, ac.pins⟩ ?_
 refine dT (i := 9) rfl rfl (by kernel_rfl) (fun _ _ => qC (v := (.bool ((Go.GL.look q.om ((a, b) : Int × Int)).getD false))) rfl) ⟨aa.bx.reads, ac.pins⟩ ?_
 refine dT (i := 10) rfl rfl (by kernel_rfl) (fun _ _ => qC (v := (.bool ((Go.GL.look q.om ((a, b) : Int × Int)).isSome))) rfl) ⟨aa.bx.reads, ac.pins⟩ ?_
 refine yS (by kernel_rfl) ?_
 refine zA (zB (zC ?_))
 refine qM (.bool ((Go.GL.look q.om ((a, b) : Int × Int)).isSome)) ?_
 refine qe (zA ?_)
 refine c_if rfl rfl (fun cg => ?_) (fun cg => ?_)
 ·skip
  refine zB (zC ?_)
  refine qM (.bool ((Go.GL.look q.om ((a, b) : Int × Int)).getD false)) ?_
  refine qM (.bool ((Go.GL.look q.om ((a, b) : Int × Int)).getD false)) ?_
  refine qe (zA ?_)
  refine wp_ret ?_
  refine zP ?_
  refine zO (v := (.bool ((Go.GL.look q.om ((a, b) : Int × Int)).getD false))) rfl rfl rfl ?_
  obtain ⟨z, hz⟩ := Option.isSome_iff_exists.1 cg
  exact ⟨q, _, congrArg (fun z => Ending.returned (Value.bool z)) (by rw [hz]; exact (hok.ord _ _ _ hz).2.2), aa, hok, (PX.refl _), ⟨rfl, rfl⟩, ac⟩
 refine wp_skip ?_
 refine zA (zB (zC ?_))
 refine qM (.bool true) ?_
 refine qe (zA (zB (zB (zC ?_))))
 refine qM (.pointer (some ⟨p, 0, none⟩)) ?_
 refine qD rfl (yV rfl) ?_
 refine qD rfl (zJ (k := 1) rfl Tryz.underlying72 rfl nz66 rfl) ?_
 refine qD rfl (zK (u := R) ag66 rfl (aa.bx.cell (o := 1) rfl)) ?_
 refine qM (vJ a) ?_
 refine qD rfl (zG Tryz.underlying66 sz65 (v := R) rfl rfl aa.rr.read (by omega) (by omega)) ?_
 obtain ⟨bk, av, c8⟩ := nm_sl (aa.rr.at (z := a) (by omega) (by omega)) (j := (a).toNat) rfl
 rw [mapr_getD] at av
 have ds := av.max
 refine qD rfl (c8 ag65 rfl (Gadd.pins ac.pins R)) ?_
 refine qD rfl (zM Tryz.underlying65 (v := bk) rfl av) ?_
 refine qM (vJ 0) ?_
 refine qe (zA ?_)
 refine zW ?_
 have a6 : (q.ns.getD (a).toNat default).r = (q.ns.getD (a).toNat default).r := rfl
 refine yR (fun (k : Nat) (en : Nat → Value) (W : World) => ∃ (aw : Nat → Value) (i : Nat) (g : PSt) (GLr : Pin), en = (upd (upd (upd (upd (upd (upd (upd (upd (upd aw 0 (.pointer (some ⟨p, 0, none⟩))) 1 (vJ a)) 2 (vJ b)) 6 (.bool false)) 7 (.pointer (some ⟨b4, 0, none⟩))) 10 (.bool true)) 38 bk) 39 (vJ (((q.ns.getD (a).toNat default).r).length : Int))) 40 (vJ (i : Int))) ∧ k = (q.ns.getD (a).toNat default).r.length - i ∧ Ext (inO (some mm.o)) G w GLr W ∧ Pin.le bi GLr ∧ (i ≤ (q.ns.getD (a).toNat default).r.length) ∧ (∀ x, x < i → geB q.ns b ((q.ns.getD (a).toNat default).r.getD x 0) = false) ∧ (Pk 65 3 GLr W p L R B mm g) ∧ (PoolOk g) ∧ (PX q g) ∧ (g.ns = q.ns ∧ g.bs = q.bs)) _ ⟨_, 0, q, bi, (pS 40 (pS 39 (pS 38 (pS 10 (pS 7 (pS 6 (pS 2 (pS 1 (pU 0))))))))), rfl, ac, Pin.le_refl _, Nat.zero_le _, (fun q hq => absurd hq (Nat.not_lt_zero q)), aa, hok, (PX.refl _), ⟨rfl, rfl⟩⟩ ?_
 rintro dt _ du ⟨aw, i, g, GLr, rfl, dv, ax, ay, hji, hpr, az, a7, a0, t⟩
 have dw := a0.len
 have dx : (g.ns.map Nd.l).length = g.ns.length ∧ (g.ns.map Nd.r).length = g.ns.length := ⟨List.length_map .., List.length_map ..⟩
 have dy : g.bs.length = g.ns.length ∧ g.ns.length ≤ 1048576 := ⟨a7.ar.ok.len, a7.ar.ok.lim⟩
 have hlnr := congrArg List.length a6
 refine zB (zC ?_)
 refine qD rfl (yT rfl rfl) ?_
 refine qe (zA (zB ?_))
 refine zZ (p := ((i : Int) : Int) < (((q.ns.getD (a).toNat default).r).length : Int)) rfl rfl (fun c9 => ?_) (fun c9 => ?_)
 ·skip
  have hki := (xE hok.ar.opts (show (a).toNat < q.ns.length by omega)).2 _ (yB (d := (0 : Int)) (show i < (q.ns.getD (a).toNat default).r.length by omega))
  rw [← a6] at hki
  refine wp_skip ?_
  refine zA (zB ?_)
  refine zW ?_
  refine zB (zC ?_)
  refine qD rfl (zG Tryz.underlying65 sz3 (v := bk) rfl rfl av (by omega) (by omega)) ?_
  refine qD rfl (zE (r := ((q.ns.getD (a).toNat default).r).getD i 0) rfl ag3 (z := (i : Int)) rfl av (Pins.of_le ax.pins ay) (by omega) (by omega)) ?_
  refine qM (vJ (((q.ns.getD (a).toNat default).r).getD i 0)) ?_
  refine qe (zA (zB (zC ?_)))
  refine qM (.pointer (some ⟨p, 0, none⟩)) ?_
  refine qM (vJ b) ?_
  refine qM (vJ (((q.ns.getD (a).toNat default).r).getD i 0)) ?_
  refine qI rfl (zI (vs := [(.pointer (some ⟨p, 0, none⟩)), (vJ b), (vJ (((q.ns.getD (a).toNat default).r).getD i 0))]) Tryz.func54 nm54 rfl rfl rfl ?_)
  refine Calls.mono (ih ax.pins az a7 ⟨by omega, by omega⟩ ⟨by omega, by omega⟩ (by omega)) ?_
  rintro _ bl ⟨ad, ch, rfl, ci, a8, bm, aq, bn⟩
  refine ⟨_, rfl, ?_⟩
  have bo := ax.trans bn (fun i hi => xL i hi)
  have dz := bm.len
  have d0 : (ad.ns.map Nd.l).length = ad.ns.length ∧ (ad.ns.map Nd.r).length = ad.ns.length := ⟨List.length_map .., List.length_map ..⟩
  have d1 : ad.bs.length = ad.ns.length ∧ ad.ns.length ≤ 1048576 := ⟨a8.ar.ok.len, a8.ar.ok.lim⟩
  have d2 := congrArg List.length aq.1
  refine qe (zA ?_)
  refine c_if rfl rfl (fun bp => ?_) (fun bp => ?_)
  ·skip
   refine zB (zC ?_)
   refine qM (.bool false) ?_
   refine qe (zA ?_)
   refine wp_exit ?_
   refine s_blkO rfl ?_
   refine zV ?_
   refine yI ?_
   refine yD ?_
   refine zA (zB (zB (zC ?_)))
   refine qM (.bool false) ?_
   refine qe (zA ?_)
   refine xW rfl rfl ?_
   refine wp_skip ?_
   refine zA (zB ?_)
   refine xB (S := fun wz => BxR wz p [L, R, B, (.map (some mm.f)), (.map (some mm.o)), (.map (some mm.c)), (.map (some mm.s)), (.map (some mm.n))] ∧ Pins ch wz) (last := 6) (by kernel_rfl) rfl ?_
   have bq : Below bl.heap.size bl bl.drew := (Below.refl _ _).drew
   have cj := bo.pins.below bq
   have aj := bo.step cj bq
   have ak := ci.below bq cj
   refine dT (i := 0) rfl rfl (by kernel_rfl) (fun _ _ => zQ (v := (.pointer (some ⟨p, 0, none⟩))) rfl) ⟨ak.bx.reads, aj.pins⟩ ?_
   refine dT (i := 1) rfl rfl (by kernel_rfl) (fun _ _ => yV rfl) ⟨ak.bx.reads, aj.pins⟩ ?_
   refine dT (i := 2) rfl rfl (by kernel_rfl) (fun _ _ => zJ (k := 4) rfl Tryz.underlying72 rfl nz68 rfl) ⟨ak.bx.reads, aj.pins⟩ ?_
   refine dT (i := 3) rfl rfl (by kernel_rfl) (fun _ hS => zK (u := (.map (some mm.o))) ag68 rfl (hS.1 4 _ rfl)) ⟨ak.bx.reads, aj.pins⟩ ?_
   refine dT (i := 4) rfl rfl (by kernel_rfl) (fun _ hS => yL (cs := [(vJ a), (vJ b)]) ag114 sz114 rfl (fun j u hj => (Pins.of_le hS.2 (Pin.le_trans ay bn.le)) _ _ _ (a5 _ _ (by simpa using hj)))) ⟨ak.bx.reads, aj.pins⟩ ?_
   refine dT (i := 5) rfl rfl (by kernel_rfl) (fun _ _ => zQ (v := (.bool false)) rfl) ⟨ak.bx.reads, aj.pins⟩ ?_
   refine dO (i := 6) (qH (i := 6) rfl rfl rfl (zD rfl _) (qO (val := (fun v : Bool => Value.bool v)) (k := ((a, b) : Int × Int)) (v := false) (key_pair Tryz.underlying114 Tryz.underlying3 sz3) Tryz.underlying68 rfl rfl rfl aj.pins ak.fo (fun d3 da ck cl d4 => ?_)))
   have db := aj.trans (Ext.one ck cl) (fun i hi => xL i hi)
   have cm := ak.setO (Ext.one ck cl) da
   have hgv : geB q.ns a b = false := geB_no_right hok.ar.opts ha (i := i) (by omega) (by rw [← a6, ← xR t]; exact bp)
   have a9 := PoolOk.setO a8 (ha.same (zN t aq)) (hb.same (zN t aq)) (setO_ok (zN t aq) hgv)
   obtain ⟨af, br⟩ : ∃ q, q = ({ ad with om := putE ad.om ((a, b) : Int × Int) false } : PSt) := ⟨_, rfl⟩
   rw [← br] at cm a9
   have hq83n : af.ns = ad.ns ∧ af.bs = ad.bs := by rw [br]; exact ⟨rfl, rfl⟩
   have hq83x : PX ad af := by rw [br]; exact ⟨Nat.le_refl _, fun _ _ => rfl, fun _ h => h⟩
   have d5 : (af.ns.map Nd.l).length = af.ns.length ∧ (af.ns.map Nd.r).length = af.ns.length := ⟨List.length_map .., List.length_map ..⟩
   have d6 : af.bs.length = af.ns.length ∧ af.ns.length ≤ 1048576 := ⟨a9.ar.ok.len, a9.ar.ok.lim⟩
   have d7 := hq83x.len
   refine ⟨fun h => absurd rfl h, ?_⟩
   refine yS (by kernel_rfl) ?_
   refine zA (zB (zC ?_))
   refine qM (.bool false) ?_
   refine qM (.bool false) ?_
   refine qe (zA ?_)
   refine wp_ret ?_
   refine zP ?_
   refine zO (v := (.bool false)) rfl rfl rfl ?_
   exact ⟨af, _, congrArg (fun z => Ending.returned (Value.bool z)) (hgv.symm), cm, a9, (PX.trans (PX.trans a0 bm) hq83x), (zN (zN t aq) hq83n), db⟩
  refine wp_skip ?_
  refine zY ?_
  refine zA (zC ?_)
  refine qD rfl (yF rfl rfl (by omega)) ?_
  refine qM (vJ ((i : Int) + 1)) ?_
  refine qe ?_
  refine zX ?_
  refine ⟨_, ?_, _, rfl, _, i + 1, ad, ch, (pS 40 (pS 39 (pS 38 (pS 10 (pS 7 (pS 6 (pS 2 (pS 1 (pU 0))))))))), rfl, bo, (Pin.le_trans ay bn.le), (by omega), (fun x h2 => if h3 : x = i then h3 ▸ (by rw [← a6, ← xR t]; exact bp) else hpr x (by omega)), ci, a8, (PX.trans a0 bm), (zN t aq)⟩
  omega
 refine wp_exit ?_
 refine zV ?_
 refine yI ?_
 refine yD ?_
 refine zA (zB (zB (zC ?_)))
 refine qM (.bool true) ?_
 refine qe (zA ?_)
 refine qR rfl rfl ?_
 refine zB (zC ?_)
 refine qM (.pointer (some ⟨p, 0, none⟩)) ?_
 refine qD rfl (yV rfl) ?_
 refine qD rfl (zJ (k := 0) rfl Tryz.underlying72 rfl nz66 rfl) ?_
 refine qD rfl (zK (u := L) ag66 rfl (az.bx.cell (o := 0) rfl)) ?_
 refine qM (vJ b) ?_
 refine qD rfl (zG Tryz.underlying66 sz65 (v := L) rfl rfl az.ol.read (by omega) (by omega)) ?_
 obtain ⟨bt, a1, dd⟩ := nm_sl (az.ol.at (z := b) (by omega) (by omega)) (j := (b).toNat) rfl
 rw [mapl_getD] at a1
 have d8 := a1.max
 refine qD rfl (dd ag65 rfl (Gadd.pins ax.pins L)) ?_
 refine qD rfl (zM Tryz.underlying65 (v := bt) rfl a1) ?_
 refine qM (vJ 0) ?_
 refine qe (zA ?_)
 refine zW ?_
 have ba : (g.ns.getD (b).toNat default).l = (q.ns.getD (b).toNat default).l := by rw [t.1]
 refine yR (fun (k : Nat) (en : Nat → Value) (W : World) => ∃ (aw : Nat → Value) (i2 : Nat) (y : PSt) (GLl : Pin), en = (upd (upd (upd (upd (upd (upd (upd (upd aw 0 (.pointer (some ⟨p, 0, none⟩))) 1 (vJ a)) 6 (.bool false)) 7 (.pointer (some ⟨b4, 0, none⟩))) 10 (.bool true)) 56 bt) 57 (vJ (((g.ns.getD (b).toNat default).l).length : Int))) 58 (vJ (i2 : Int))) ∧ k = (q.ns.getD (b).toNat default).l.length - i2 ∧ Ext (inO (some mm.o)) G w GLl W ∧ Pin.le GLr GLl ∧ (i2 ≤ (q.ns.getD (b).toNat default).l.length) ∧ (∀ x, x < i2 → geB q.ns ((q.ns.getD (b).toNat default).l.getD x 0) a = false) ∧ (Pk 65 3 GLl W p L R B mm y) ∧ (PoolOk y) ∧ (PX g y) ∧ (y.ns = g.ns ∧ y.bs = g.bs)) _ ⟨_, 0, g, GLr, (pS 58 (pS 57 (pS 56 (pS 10 (pS 7 (pS 6 (pS 1 (pU 0)))))))), rfl, ax, Pin.le_refl _, Nat.zero_le _, (fun q hq => absurd hq (Nat.not_lt_zero q)), az, a7, (PX.refl _), ⟨rfl, rfl⟩⟩ ?_
 rintro d9 _ bu ⟨aw, i2, y, GLl, rfl, ea, a2, bb, eb, hpl, cn, bc, bd, ag⟩
 have ec := bd.len
 have ed : (y.ns.map Nd.l).length = y.ns.length ∧ (y.ns.map Nd.r).length = y.ns.length := ⟨List.length_map .., List.length_map ..⟩
 have ee : y.bs.length = y.ns.length ∧ y.ns.length ≤ 1048576 := ⟨bc.ar.ok.len, bc.ar.ok.lim⟩
 have hlnl := congrArg List.length ba
 refine zB (zC ?_)
 refine qD rfl (yT rfl rfl) ?_
 refine qe (zA (zB ?_))
 refine zZ (p := ((i2 : Int) : Int) < (((g.ns.getD (b).toNat default).l).length : Int)) rfl rfl (fun de => ?_) (fun de => ?_)
 ·skip
  have hki := (xE hok.ar.opts (show (b).toNat < q.ns.length by omega)).1 _ (yB (d := (0 : Int)) (show i2 < (q.ns.getD (b).toNat default).l.length by omega))
  rw [← ba] at hki
  refine wp_skip ?_
  refine zA (zB ?_)
  refine zW ?_
  refine zB (zC ?_)
  refine qD rfl (zG Tryz.underlying65 sz3 (v := bt) rfl rfl a1 (by omega) (by omega)) ?_
  refine qD rfl (zE (r := ((g.ns.getD (b).toNat default).l).getD i2 0) rfl ag3 (z := (i2 : Int)) rfl a1 (Pins.of_le a2.pins bb) (by omega) (by omega)) ?_
  refine qM (vJ (((g.ns.getD (b).toNat default).l).getD i2 0)) ?_
  refine qe (zA (zB (zC ?_)))
  refine qM (.pointer (some ⟨p, 0, none⟩)) ?_
  refine qM (vJ (((g.ns.getD (b).toNat default).l).getD i2 0)) ?_
  refine qM (vJ a) ?_
  refine qI rfl (zI (vs := [(.pointer (some ⟨p, 0, none⟩)), (vJ (((g.ns.getD (b).toNat default).l).getD i2 0)), (vJ a)]) Tryz.func54 nm54 rfl rfl rfl ?_)
  refine Calls.mono (ih a2.pins cn bc ⟨by omega, by omega⟩ ⟨by omega, by omega⟩ (by omega)) ?_
  rintro _ bv ⟨ae, co, rfl, cp, be, bw, au, bz⟩
  refine ⟨_, rfl, ?_⟩
  have b0 := a2.trans bz (fun i hi => xL i hi)
  have ef := bw.len
  have eg : (ae.ns.map Nd.l).length = ae.ns.length ∧ (ae.ns.map Nd.r).length = ae.ns.length := ⟨List.length_map .., List.length_map ..⟩
  have eh : ae.bs.length = ae.ns.length ∧ ae.ns.length ≤ 1048576 := ⟨be.ar.ok.len, be.ar.ok.lim⟩
  have ei := congrArg List.length au.1
  refine qe (zA ?_)
  refine c_if rfl rfl (fun b1 => ?_) (fun b1 => ?_)
  ·skip
   refine zB (zC ?_)
   refine qM (.bool false) ?_
   refine qe (zA ?_)
   refine wp_exit ?_
   refine s_blkO rfl ?_
   refine zV ?_
   refine yI ?_
   refine yD ?_
   refine zA (zB ?_)
   refine xB (S := fun wz => BxR wz p [L, R, B, (.map (some mm.f)), (.map (some mm.o)), (.map (some mm.c)), (.map (some mm.s)), (.map (some mm.n))] ∧ Pins co wz) (last := 6) (by kernel_rfl) rfl ?_
   have b2 : Below bv.heap.size bv bv.drew := (Below.refl _ _).drew
   have cq := b0.pins.below b2
   have al := b0.step cq b2
   have am := cp.below b2 cq
   refine dT (i := 0) rfl rfl (by kernel_rfl) (fun _ _ => zQ (v := (.pointer (some ⟨p, 0, none⟩))) rfl) ⟨am.bx.reads, al.pins⟩ ?_
   refine dT (i := 1) rfl rfl (by kernel_rfl) (fun _ _ => yV rfl) ⟨am.bx.reads, al.pins⟩ ?_
   refine dT (i := 2) rfl rfl (by kernel_rfl) (fun _ _ => zJ (k := 4) rfl Tryz.underlying72 rfl nz68 rfl) ⟨am.bx.reads, al.pins⟩ ?_
   refine dT (i := 3) rfl rfl (by kernel_rfl) (fun _ hS => zK (u := (.map (some mm.o))) ag68 rfl (hS.1 4 _ rfl)) ⟨am.bx.reads, al.pins⟩ ?_
   refine dT (i := 4) rfl rfl (by kernel_rfl) (fun _ hS => yL (cs := [(vJ a), (vJ b)]) ag114 sz114 rfl (fun j u hj => (Pins.of_le hS.2 (Pin.le_trans (Pin.le_trans ay bb) bz.le)) _ _ _ (a5 _ _ (by simpa using hj)))) ⟨am.bx.reads, al.pins⟩ ?_
   refine dT (i := 5) rfl rfl (by kernel_rfl) (fun _ _ => zQ (v := (.bool false)) rfl) ⟨am.bx.reads, al.pins⟩ ?_
   refine dO (i := 6) (qH (i := 6) rfl rfl rfl (zD rfl _) (qO (val := (fun v : Bool => Value.bool v)) (k := ((a, b) : Int × Int)) (v := false) (key_pair Tryz.underlying114 Tryz.underlying3 sz3) Tryz.underlying68 rfl rfl rfl al.pins am.fo (fun ej df cr ct ek => ?_)))
   have dg := al.trans (Ext.one cr ct) (fun i hi => xL i hi)
   have cu := am.setO (Ext.one cr ct) df
   have hgv : geB q.ns a b = false := geB_no_left hok.ar.opts hb (i := i2) (by omega) (by rw [← ba, ← xR (zN t ag)]; exact b1)
   have bf := PoolOk.setO be (ha.same (zN (zN t ag) au)) (hb.same (zN (zN t ag) au)) (setO_ok (zN (zN t ag) au) hgv)
   obtain ⟨ah, b3⟩ : ∃ q, q = ({ ae with om := putE ae.om ((a, b) : Int × Int) false } : PSt) := ⟨_, rfl⟩
   rw [← b3] at cu bf
   have hq135n : ah.ns = ae.ns ∧ ah.bs = ae.bs := by rw [b3]; exact ⟨rfl, rfl⟩
   have hq135x : PX ae ah := by rw [b3]; exact ⟨Nat.le_refl _, fun _ _ => rfl, fun _ h => h⟩
   have el : (ah.ns.map Nd.l).length = ah.ns.length ∧ (ah.ns.map Nd.r).length = ah.ns.length := ⟨List.length_map .., List.length_map ..⟩
   have em : ah.bs.length = ah.ns.length ∧ ah.ns.length ≤ 1048576 := ⟨bf.ar.ok.len, bf.ar.ok.lim⟩
   have eo := hq135x.len
   refine ⟨fun h => absurd rfl h, ?_⟩
   refine yS (by kernel_rfl) ?_
   refine zA (zB (zC ?_))
   refine qM (.bool false) ?_
   refine qM (.bool false) ?_
   refine qe (zA ?_)
   refine wp_ret ?_
   refine zP ?_
   refine zO (v := (.bool false)) rfl rfl rfl ?_
   exact ⟨ah, _, congrArg (fun z => Ending.returned (Value.bool z)) (hgv.symm), cu, bf, (PX.trans (PX.trans (PX.trans a0 bd) bw) hq135x), (zN (zN (zN t ag) au) hq135n), dg⟩
  refine wp_skip ?_
  refine zY ?_
  refine zA (zC ?_)
  refine qD rfl (yF rfl rfl (by omega)) ?_
  refine qM (vJ ((i2 : Int) + 1)) ?_
  refine qe ?_
  refine zX ?_
  refine ⟨_, ?_, _, rfl, _, i2 + 1, ae, co, (pS 58 (pS 57 (pS 56 (pS 10 (pS 7 (pS 6 (pS 1 (pU 0)))))))), rfl, b0, (Pin.le_trans bb bz.le), (by omega), (fun x h2 => if h3 : x = i2 then h3 ▸ (by rw [← ba, ← xR (zN t ag)]; exact b1) else hpl x (by omega)), cp, be, (PX.trans bd bw), (zN ag au)⟩
  omega
 refine wp_exit ?_
 refine zV ?_
 refine yI ?_
 refine yD ?_
 refine zA (zB ?_)
 refine xB (S := fun wz => BxR wz p [L, R, B, (.map (some mm.f)), (.map (some mm.o)), (.map (some mm.c)), (.map (some mm.s)), (.map (some mm.n))] ∧ Pins GLl wz) (last := 6) (by kernel_rfl) rfl ?_
 have b5 : Below bu.heap.size bu bu.drew := (Below.refl _ _).drew
 have cv := a2.pins.below b5
 have an := a2.step cv b5
 have ao := cn.below b5 cv
 refine dT (i := 0) rfl rfl (by kernel_rfl) (fun _ _ => zQ (v := (.pointer (some ⟨p, 0, none⟩))) rfl) ⟨ao.bx.reads, an.pins⟩ ?_
 refine dT (i := 1) rfl rfl (by kernel_rfl) (fun _ _ => yV rfl) ⟨ao.bx.reads, an.pins⟩ ?_
 refine dT (i := 2) rfl rfl (by kernel_rfl) (fun _ _ => zJ (k := 4) rfl Tryz.underlying72 rfl nz68 rfl) ⟨ao.bx.reads, an.pins⟩ ?_
 refine dT (i := 3) rfl rfl (by kernel_rfl) (fun _ hS => zK (u := (.map (some mm.o))) ag68 rfl (hS.1 4 _ rfl)) ⟨ao.bx.reads, an.pins⟩ ?_
 refine dT (i := 4) rfl rfl (by kernel_rfl) (fun _ hS => yL (cs := [(vJ a), (vJ b)]) ag114 sz114 rfl (fun j u hj => (Pins.of_le hS.2 (Pin.le_trans ay bb)) _ _ _ (a5 _ _ (by simpa using hj)))) ⟨ao.bx.reads, an.pins⟩ ?_
 refine dT (i := 5) rfl rfl (by kernel_rfl) (fun _ _ => zQ (v := (.bool true)) rfl) ⟨ao.bx.reads, an.pins⟩ ?_
 refine dO (i := 6) (qH (i := 6) rfl rfl rfl (zD rfl _) (qO (val := (fun v : Bool => Value.bool v)) (k := ((a, b) : Int × Int)) (v := true) (key_pair Tryz.underlying114 Tryz.underlying3 sz3) Tryz.underlying68 rfl rfl rfl an.pins ao.fo (fun ep dh cw cx eq => ?_)))
 have di := an.trans (Ext.one cw cx) (fun i hi => xL i hi)
 have cy := ao.setO (Ext.one cw cx) dh
 have hgv : geB q.ns a b = true := geB_yes hok.ar.opts ha hb (fun i hi => hpr i (by omega)) (fun i hi => hpl i (by omega))
 have bg := PoolOk.setO bc (ha.same (zN t ag)) (hb.same (zN t ag)) (setO_ok (zN t ag) hgv)
 obtain ⟨ai, b6⟩ : ∃ q, q = ({ y with om := putE y.om ((a, b) : Int × Int) true } : PSt) := ⟨_, rfl⟩
 rw [← b6] at cy bg
 have hq152n : ai.ns = y.ns ∧ ai.bs = y.bs := by rw [b6]; exact ⟨rfl, rfl⟩
 have hq152x : PX y ai := by rw [b6]; exact ⟨Nat.le_refl _, fun _ _ => rfl, fun _ h => h⟩
 have er : (ai.ns.map Nd.l).length = ai.ns.length ∧ (ai.ns.map Nd.r).length = ai.ns.length := ⟨List.length_map .., List.length_map ..⟩
 have es : ai.bs.length = ai.ns.length ∧ ai.ns.length ≤ 1048576 := ⟨bg.ar.ok.len, bg.ar.ok.lim⟩
 have et := hq152x.len
 refine ⟨fun h => absurd rfl h, ?_⟩
 refine yS (by kernel_rfl) ?_
 refine zA (zB (zC ?_))
 refine qM (.bool true) ?_
 refine qM (.bool true) ?_
 refine qe (zA ?_)
 refine wp_ret ?_
 refine zP ?_
 refine zO (v := (.bool true)) rfl rfl rfl ?_
 exact ⟨ai, _, congrArg (fun z => Ending.returned (Value.bool z)) (hgv.symm), cy, bg, (PX.trans (PX.trans a0 bd) hq152x), (zN (zN t ag) hq152n), di⟩

theorem geP_all {p : Nat} {L R B : Value} {mm : PM} : ∀ m, GeP m p L R B mm
 | 0 => fun _ _ _ _ _ h => absurd h (Nat.not_lt_zero _)
 | m + 1 => fun hP hpk hok ha hb hm => ge_step hP hpk hok ha hb (geP_all m) hm
theorem ge_spec {p : Nat} {L R B : Value} {mm : PM} {w : World} {G : Pin} {q : PSt} {a b : Int} (hP : Pins G w) (hpk : Pk 65 3 G w p L R B mm q) (hok : PoolOk q) (ha : PlaceOk q a) (hb : PlaceOk q b) :
  Calls Tryz.prog 54 [(.pointer (some ⟨p, 0, none⟩)), (.int .i64 a), (.int .i64 b)].toArray w fun e w' => ∃ (q' : PSt) (G' : Pin), e = .returned (.bool (geB q.ns a b)) ∧ Pk 65 3 G' w' p L R B mm q' ∧ PoolOk q' ∧ PX q q' ∧ (q'.ns = q.ns ∧ q'.bs = q.bs) ∧ Ext (inO (some mm.o)) G w G' w' :=
 geP_all _ hP hpk hok ha hb (Nat.lt_succ_self _)

end PL1
end Go.Proofs.YtfnginkcmcfdfaaGreatDoor

set_option maxRecDepth 20000
set_option maxHeartbeats 2000000
namespace Go.Proofs.YtfnginkcmcfdfaaGreatDoor
namespace PA1
open Go.RowKit Go.GL Go.Proofs
end PA1
end Go.Proofs.YtfnginkcmcfdfaaGreatDoor

set_option maxRecDepth 20000
set_option maxHeartbeats 2000000
namespace Go.Proofs.YtfnginkcmcfdfaaGreatDoor
namespace DI1
open Go.RowKit Go.GL Go.Proofs
open Go.Proofs.YtfnginkcmcfdfaaGreatDoor.B1
open Go.Proofs.YtfnginkcmcfdfaaGreatDoor.K1
open Go.Proofs.YtfnginkcmcfdfaaGreatDoor.PO1
open Go.Proofs.YtfnginkcmcfdfaaGreatDoor.PL1





theorem idominated_spec {p : Nat} {L R B : Value} {mm : PM} {w : World} {G : Pin} {q : PSt} {x : Value} {xs : List Int} {lf : Bool} (hP : Pins G w) (hpk : Pk 65 3 G w p L R B mm q) (hok : PoolOk q) (hx : RSl eInt G x xs) (hxl : xs.length ≤ 1048576) (hpl : ∀ i, i < xs.length → PlaceOk q (xs.getD i 0)) :
  Calls Tryz.prog 190 [(.pointer (some ⟨p, 0, none⟩)), x, (.bool lf)].toArray w fun e w' => ∃ (u : Value) (q' : PSt) (G' : Pin), e = .returned u ∧ Own eInt 3 G' w' w.heap.size u (domL (gX q xs) lf xs.length xs.length) ∧ Pk 65 3 G' w' p L R B mm q' ∧ PoolOk q' ∧ PX q q' ∧ (q'.ns = q.ns ∧ q'.bs = q.bs) ∧ Ext (inO (some mm.o)) G w G' w' := by
 refine zT (n := 61) Tryz.func190 Tryz.ntmps190 rfl rfl ?_
 have a3 : Ext (inO (some mm.o)) G w G w := Ext.refl hP
 have hpin : PIn w (inP p L R B mm) p L R B mm := PIn.self
 have dr : (q.ns.map Nd.l).length = q.ns.length ∧ (q.ns.map Nd.r).length = q.ns.length := ⟨List.length_map .., List.length_map ..⟩
 have ds : q.bs.length = q.ns.length ∧ q.ns.length ≤ 1048576 := ⟨hok.ar.ok.len, hok.ar.ok.lim⟩
 refine zB (zC ?_)
 refine qM (.slice none 0 0) ?_
 refine qe (zA (zB (zC ?_)))
 refine qI rfl (xD (E := eInt) (e := 3) Tryz.underlying65 sz3 a3.pins (fun u3 w4 ck bk bl cl => ?_))
 have cm := a3.step bk bl
 have cn := hpk.below bl bk
 have co := hpk.new (x := u3.ownBlock) (fun k hk => by rw [cl] at hk; cases hk; exact Nat.le_refl _)
 have cp : Own eInt 3 G w4 w.heap.size u3 ([]) := ck.weaken a3.size
 refine qM u3 ?_
 refine qe (zA (zB (zB (zC ?_))))
 refine qM x ?_
 refine qD rfl (zM Tryz.underlying65 (v := x) rfl hx) ?_
 refine qM (vJ 0) ?_
 refine qe (zA ?_)
 refine zW ?_
 refine yR (fun (k : Nat) (en : Nat → Value) (W : World) => ∃ (av : Nat → Value) (i : Nat) (ov : Value) (out : List Int) (d : PSt) (an : Pin), en = (upd (upd (upd (upd (upd (upd (upd (upd av 0 (.pointer (some ⟨p, 0, none⟩))) 1 x) 2 (.bool lf)) 6 (.slice none 0 0)) 7 ov) 15 x) 16 (vJ (xs.length : Int))) 17 (vJ (i : Int))) ∧ k = xs.length - i ∧ Ext (inO (some mm.o)) G w an W ∧ Pin.le G an ∧ (i ≤ xs.length) ∧ (out = domL (gX q xs) lf xs.length i) ∧ (Own eInt 3 an W w.heap.size ov (out)) ∧ (Pk 65 3 an W p L R B mm d) ∧ (PoolOk d) ∧ (PX q d) ∧ (d.ns = q.ns ∧ d.bs = q.bs) ∧ (NP p L R B mm ov.ownBlock)) _ ⟨_, 0, u3, [], q, G, (pS 17 (pS 16 (pS 15 (pS 7 (pS 6 (pS 2 (pS 1 (pU 0)))))))), rfl, cm, Pin.le_refl _, Nat.zero_le _, rfl, cp, cn, hok, (PX.refl _), ⟨rfl, rfl⟩, co⟩ ?_
 rintro dt _ du ⟨av, i, ov, out, d, an, rfl, dv, a4, ao, hi, hout, bm, bn, az, ap, c, ab⟩
 have dw := ap.len
 have dx : (d.ns.map Nd.l).length = d.ns.length ∧ (d.ns.map Nd.r).length = d.ns.length := ⟨List.length_map .., List.length_map ..⟩
 have dy : d.bs.length = d.ns.length ∧ d.ns.length ≤ 1048576 := ⟨az.ar.ok.len, az.ar.ok.lim⟩
 have hol : out.length ≤ i := by rw [hout]; exact (dom_len i).1
 refine zB (zC ?_)
 refine qD rfl (yT rfl rfl) ?_
 refine qe (zA (zB ?_))
 refine zZ (p := ((i : Int) : Int) < (xs.length : Int)) rfl rfl (fun cq => ?_) (fun cq => ?_)
 ·skip
  refine wp_skip ?_
  refine zA (zB ?_)
  refine zW ?_
  refine zB (zC ?_)
  refine qM (vJ (i : Int)) ?_
  refine qD rfl (zG Tryz.underlying65 sz3 (v := x) rfl rfl hx (by omega) (by omega)) ?_
  refine qD rfl (zE (r := xs.getD i 0) rfl ag3 (z := (i : Int)) rfl hx (Pins.of_le a4.pins ao) (by omega) (by omega)) ?_
  refine qM (vJ (i : Int)) ?_
  refine qM (vJ (xs.getD i 0)) ?_
  refine qe (zA (zB (zC ?_)))
  refine qM x ?_
  refine qD rfl (zM Tryz.underlying65 (v := x) rfl hx) ?_
  refine qM (vJ 0) ?_
  refine qe (zA ?_)
  refine zW ?_
  refine yR (fun (k : Nat) (en : Nat → Value) (W : World) => ∃ (av : Nat → Value) (j : Nat) (b : PSt) (aq : Pin), en = (upd (upd (upd (upd (upd (upd (upd (upd (upd (upd (upd (upd (upd av 0 (.pointer (some ⟨p, 0, none⟩))) 1 x) 2 (.bool lf)) 6 (.slice none 0 0)) 7 ov) 8 (vJ (i : Int))) 9 (vJ (xs.getD i 0))) 15 x) 16 (vJ (xs.length : Int))) 17 (vJ (i : Int))) 22 x) 23 (vJ (xs.length : Int))) 24 (vJ (j : Int))) ∧ k = xs.length - j ∧ Ext (inO (some mm.o)) G w aq W ∧ Pin.le an aq ∧ (j ≤ xs.length) ∧ (∀ x, x < j → ¬ domP (gX q xs) lf i x) ∧ (Own eInt 3 aq W w.heap.size ov (out)) ∧ (Pk 65 3 aq W p L R B mm b) ∧ (PoolOk b) ∧ (PX d b) ∧ (b.ns = d.ns ∧ b.bs = d.bs)) _ ⟨_, 0, d, an, (pS 24 (pS 23 (pS 22 (pS 17 (pS 16 (pS 15 (pS 9 (pS 8 (pS 7 (pS 6 (pS 2 (pS 1 (pU 0))))))))))))), rfl, a4, Pin.le_refl _, Nat.zero_le _, (fun x h => absurd h (Nat.not_lt_zero x)), bm, bn, az, (PX.refl _), ⟨rfl, rfl⟩⟩ ?_
  rintro dz _ d0 ⟨av, j, b, aq, rfl, d1, aw, ac, hj, hnd, a5, a6, ax, ad, a⟩
  have d2 := ad.len
  have d3 : (b.ns.map Nd.l).length = b.ns.length ∧ (b.ns.map Nd.r).length = b.ns.length := ⟨List.length_map .., List.length_map ..⟩
  have d4 : b.bs.length = b.ns.length ∧ b.ns.length ≤ 1048576 := ⟨ax.ar.ok.len, ax.ar.ok.lim⟩
  refine zB (zC ?_)
  refine qD rfl (yT rfl rfl) ?_
  refine qe (zA (zB ?_))
  refine zZ (p := ((j : Int) : Int) < (xs.length : Int)) rfl rfl (fun cr => ?_) (fun cr => ?_)
  ·skip
   refine wp_skip ?_
   refine zA (zB ?_)
   refine zW ?_
   refine zB (zC ?_)
   refine qM (vJ (j : Int)) ?_
   refine qD rfl (zG Tryz.underlying65 sz3 (v := x) rfl rfl hx (by omega) (by omega)) ?_
   refine qD rfl (zE (r := xs.getD j 0) rfl ag3 (z := (j : Int)) rfl hx (Pins.of_le aw.pins (Pin.le_trans ao ac)) (by omega) (by omega)) ?_
   refine qM (vJ (j : Int)) ?_
   refine qM (vJ (xs.getD j 0)) ?_
   refine qe (zA (zB (zB (zC ?_))))
   refine qM (vJ (j : Int)) ?_
   refine qM (vJ (i : Int)) ?_
   refine qD rfl (xT rfl rfl) ?_
   refine qe (zA ?_)
   refine zZ (p := ((j : Int) : Int) = (i : Int)) rfl rfl (fun au => ?_) (fun au => ?_)
   ·skip
    refine wp_exit ?_
    refine zV ?_
    refine yD ?_
    refine zA (zC ?_)
    refine qD rfl (yF rfl rfl (by omega)) ?_
    refine qM (vJ ((j : Int) + 1)) ?_
    refine qe ?_
    refine zX ?_
    refine ⟨_, ?_, _, rfl, _, j + 1, b, aq, (pS 24 (pS 23 (pS 22 (pS 17 (pS 16 (pS 15 (pS 9 (pS 8 (pS 7 (pS 6 (pS 2 (pS 1 (pU 0))))))))))))), rfl, aw, ac, (by omega), (fun x h2 => if h3 : x = j then h3 ▸ (fun p => p.1 au) else hnd x (by omega)), a5, a6, ax, ad, a⟩
    omega
   refine wp_skip ?_
   refine zA (zB (zC ?_))
   refine qM (.pointer (some ⟨p, 0, none⟩)) ?_
   refine qM (vJ (xs.getD j 0)) ?_
   refine qM (vJ (xs.getD i 0)) ?_
   refine qI rfl (zI (vs := [(.pointer (some ⟨p, 0, none⟩)), (vJ (xs.getD j 0)), (vJ (xs.getD i 0))]) Tryz.func54 nm54 rfl rfl rfl ?_)
   refine Calls.mono (ge_spec aw.pins a6 ax ((hpl j (by omega)).same (zN c a)) ((hpl i (by omega)).same (zN c a))) ?_
   rintro _ d5 ⟨y, d6, rfl, cs, a7, ai, f, af⟩
   refine ⟨_, rfl, ?_⟩
   have bo := aw.trans af (fun i hi => xL i hi)
   have ct := a5.extS af (notO (NP.ho ab))
   have d7 := ai.len
   have d8 : (y.ns.map Nd.l).length = y.ns.length ∧ (y.ns.map Nd.r).length = y.ns.length := ⟨List.length_map .., List.length_map ..⟩
   have d9 : y.bs.length = y.ns.length ∧ y.ns.length ≤ 1048576 := ⟨a7.ar.ok.len, a7.ar.ok.lim⟩
   have ea := congrArg List.length f.1
   refine qM (.pointer (some ⟨p, 0, none⟩)) ?_
   refine qM (vJ (xs.getD i 0)) ?_
   refine qM (vJ (xs.getD j 0)) ?_
   refine qI rfl (zI (vs := [(.pointer (some ⟨p, 0, none⟩)), (vJ (xs.getD i 0)), (vJ (xs.getD j 0))]) Tryz.func54 nm54 rfl rfl rfl ?_)
   refine Calls.mono (ge_spec bo.pins cs a7 ((hpl i (by omega)).same (zN (zN c a) f)) ((hpl j (by omega)).same (zN (zN c a) f))) ?_
   rintro _ eb ⟨s, aa, rfl, al, ag, aj, ak, ah⟩
   refine ⟨_, rfl, ?_⟩
   have m := bo.trans ah (fun i hi => xL i hi)
   have am := ct.extS ah (notO (NP.ho ab))
   have ec := aj.len
   have ed : (s.ns.map Nd.l).length = s.ns.length ∧ (s.ns.map Nd.r).length = s.ns.length := ⟨List.length_map .., List.length_map ..⟩
   have ee : s.bs.length = s.ns.length ∧ s.ns.length ≤ 1048576 := ⟨ag.ar.ok.len, ag.ar.ok.lim⟩
   have ef := congrArg List.length ak.1
   refine qM (.bool (geB b.ns (xs.getD j 0) (xs.getD i 0))) ?_
   refine qM (.bool (geB y.ns (xs.getD i 0) (xs.getD j 0))) ?_
   refine qe (zA (zB (zB (zC ?_))))
   refine qM (.bool lf) ?_
   refine qD rfl (xI rfl) ?_
   refine qe (zA ?_)
   refine xV rfl rfl (fun ae => ?_) (fun ae => ?_)
   ·skip
    refine wp_skip ?_
    refine zA (zB (zC ?_))
    refine qM (.bool (geB b.ns (xs.getD j 0) (xs.getD i 0))) ?_
    refine qM (.bool (geB b.ns (xs.getD j 0) (xs.getD i 0))) ?_
    refine qb (t := 45) rfl (fun a1 => ?_) (fun a1 => ?_)
    ·skip
     refine qN (zQ (v := (.bool (geB y.ns (xs.getD i 0) (xs.getD j 0)))) rfl) ?_
     refine qN (xI rfl) ?_
     refine qN (zQ (v := (.bool (!(geB y.ns (xs.getD i 0) (xs.getD j 0))))) rfl) ?_
     refine qbn (t := 48) rfl (fun a8 => ?_) (fun a8 => ?_)
     ·skip
      refine qN (zQ (v := (vJ (j : Int))) rfl) ?_
      refine qN (zQ (v := (vJ (i : Int))) rfl) ?_
      refine qN (yT rfl rfl) ?_
      refine qN (yA (v := (.bool (decide (((j : Int) : Int) < (i : Int))))) rfl rfl) ?_
      refine qD rfl (yJ (v := (.bool (decide (((j : Int) : Int) < (i : Int))))) rfl rfl) ?_
      refine qe (zA ?_)
      refine zZ (p := ((j : Int) : Int) < (i : Int)) rfl rfl (fun a9 => ?_) (fun a9 => ?_)
      ·skip
       refine zB (zC ?_)
       refine qM ov ?_
       refine qM (vJ (i : Int)) ?_
       refine qI rfl (yZ (E := eInt) (e := 3) [(vJ (i : Int))] [(i : Int)] Tryz.underlying65 sz3 zr3 (by exact xU (by rfl)) (xM (by rfl)) rfl rfl rfl rfl (by decide) m.pins (fun bp cu cv bq ba eg => ?_))
       have bb := m.step bq ba
       have br := am.below ba
       have bt := al.below ba bq
       have cw : Own eInt 3 aa cu w.heap.size bp ([(i : Int)]) := cv.weaken m.size
       refine qI rfl (oA (E := eInt) (v := ov) (u := bp) 8 Tryz.underlying65 ap3 (by decide) rfl rfl bb.pins br cw.src (bb.size) (fun bu eh cx bv bw cy => ?_))
       have cz := bb.write bv bw ((yH br))
       have c0 := bt.kept bw bv ab
       have c1 := np_app ab bt cy
       have ei : (out ++ ([(i : Int)])).length = out.length + 1 := List.length_append
       refine qM bu ?_
       refine qe (zA ?_)
       refine wp_exit ?_
       refine s_blkO rfl ?_
       refine zV ?_
       refine yI ?_
       refine yD ?_
       refine zY ?_
       refine zA (zC ?_)
       refine qD rfl (yF rfl rfl (by omega)) ?_
       refine qM (vJ ((i : Int) + 1)) ?_
       refine qe ?_
       refine zX ?_
       refine ⟨_, ?_, _, rfl, _, i + 1, bu, out ++ ([(i : Int)]), s, aa, (pS 17 (pS 16 (pS 15 (pS 7 (pS 6 (pS 2 (pS 1 (pU 0)))))))), rfl, cz, (Pin.le_trans (Pin.le_trans (Pin.le_trans ao ac) af.le) ah.le), (by omega), (by rw [dom_hit (g := gX q xs) (lf := lf) (show j < xs.length by omega) ⟨au, (geD_t ae).2 (decP_true.1 ((xR (zN c a)).symm.trans a1)), Or.inr a9⟩, hout]), cx, c0, ag, (PX.trans (PX.trans (PX.trans ap ad) ai) aj), (zN (zN (zN c a) f) ak), c1⟩
       omega
      refine wp_skip ?_
      refine zY ?_
      refine zA (zC ?_)
      refine qD rfl (yF rfl rfl (by omega)) ?_
      refine qM (vJ ((j : Int) + 1)) ?_
      refine qe ?_
      refine zX ?_
      refine ⟨_, ?_, _, rfl, _, j + 1, s, aa, (pS 24 (pS 23 (pS 22 (pS 17 (pS 16 (pS 15 (pS 9 (pS 8 (pS 7 (pS 6 (pS 2 (pS 1 (pU 0))))))))))))), rfl, m, (Pin.le_trans (Pin.le_trans ac af.le) ah.le), (by omega), (fun x h2 => if h3 : x = j then h3 ▸ (fun p => p.2.2.elim (fun h => h ((geD_t ae).2 (decP_true.1 ((xR (zN (zN c a) f)).symm.trans a8)))) a9) else hnd x (by omega)), am, al, ag, (PX.trans (PX.trans ad ai) aj), (zN (zN a f) ak)⟩
      omega
     refine qW ?_
     refine qW ?_
     refine qW ?_
     refine qN (yJ (v := (.bool true)) rfl rfl) ?_
     refine qD rfl (yJ (v := (.bool true)) rfl rfl) ?_
     refine qe (zA ?_)
     refine qR rfl rfl ?_
     refine zB (zC ?_)
     refine qM ov ?_
     refine qM (vJ (i : Int)) ?_
     refine qI rfl (yZ (E := eInt) (e := 3) [(vJ (i : Int))] [(i : Int)] Tryz.underlying65 sz3 zr3 (by exact xU (by rfl)) (xM (by rfl)) rfl rfl rfl rfl (by decide) m.pins (fun bx c2 c3 bz bc ej => ?_))
     have bd := m.step bz bc
     have b0 := am.below bc
     have b1 := al.below bc bz
     have c4 : Own eInt 3 aa c2 w.heap.size bx ([(i : Int)]) := c3.weaken m.size
     refine qI rfl (oA (E := eInt) (v := ov) (u := bx) 8 Tryz.underlying65 ap3 (by decide) rfl rfl bd.pins b0 c4.src (bd.size) (fun b2 ek c5 b3 b4 c6 => ?_))
     have c7 := bd.write b3 b4 ((yH b0))
     have c8 := b1.kept b4 b3 ab
     have c9 := np_app ab b1 c6
     have el : (out ++ ([(i : Int)])).length = out.length + 1 := List.length_append
     refine qM b2 ?_
     refine qe (zA ?_)
     refine wp_exit ?_
     refine s_blkO rfl ?_
     refine zV ?_
     refine yI ?_
     refine yD ?_
     refine zY ?_
     refine zA (zC ?_)
     refine qD rfl (yF rfl rfl (by omega)) ?_
     refine qM (vJ ((i : Int) + 1)) ?_
     refine qe ?_
     refine zX ?_
     refine ⟨_, ?_, _, rfl, _, i + 1, b2, out ++ ([(i : Int)]), s, aa, (pS 17 (pS 16 (pS 15 (pS 7 (pS 6 (pS 2 (pS 1 (pU 0)))))))), rfl, c7, (Pin.le_trans (Pin.le_trans (Pin.le_trans ao ac) af.le) ah.le), (by omega), (by rw [dom_hit (g := gX q xs) (lf := lf) (show j < xs.length by omega) ⟨au, (geD_t ae).2 (decP_true.1 ((xR (zN c a)).symm.trans a1)), Or.inl (fun h => (decP_false.1 ((xR (zN (zN c a) f)).symm.trans a8)) ((geD_t ae).1 h))⟩, hout]), c5, c8, ag, (PX.trans (PX.trans (PX.trans ap ad) ai) aj), (zN (zN (zN c a) f) ak), c9⟩
     omega
    refine qW ?_
    refine qW ?_
    refine qW ?_
    refine qX ?_
    refine qX ?_
    refine qX ?_
    refine qW ?_
    refine qD rfl (yA (v := (.bool false)) rfl rfl) ?_
    refine qe (zA ?_)
    refine xW rfl rfl ?_
    refine wp_skip ?_
    refine zY ?_
    refine zA (zC ?_)
    refine qD rfl (yF rfl rfl (by omega)) ?_
    refine qM (vJ ((j : Int) + 1)) ?_
    refine qe ?_
    refine zX ?_
    refine ⟨_, ?_, _, rfl, _, j + 1, s, aa, (pS 24 (pS 23 (pS 22 (pS 17 (pS 16 (pS 15 (pS 9 (pS 8 (pS 7 (pS 6 (pS 2 (pS 1 (pU 0))))))))))))), rfl, m, (Pin.le_trans (Pin.le_trans ac af.le) ah.le), (by omega), (fun x h2 => if h3 : x = j then h3 ▸ (fun p => (decP_false.1 ((xR (zN c a)).symm.trans a1)) ((geD_t ae).1 p.2.1)) else hnd x (by omega)), am, al, ag, (PX.trans (PX.trans ad ai) aj), (zN (zN a f) ak)⟩
    omega
   refine zC ?_
   refine qM (.bool (geB y.ns (xs.getD i 0) (xs.getD j 0))) ?_
   refine qM (.bool (geB b.ns (xs.getD j 0) (xs.getD i 0))) ?_
   refine qM (.bool (geB y.ns (xs.getD i 0) (xs.getD j 0))) ?_
   refine qM (.bool (geB b.ns (xs.getD j 0) (xs.getD i 0))) ?_
   refine qe (zA (zB (zC ?_)))
   refine qM (.bool (geB y.ns (xs.getD i 0) (xs.getD j 0))) ?_
   refine qM (.bool (geB y.ns (xs.getD i 0) (xs.getD j 0))) ?_
   refine qb (t := 45) rfl (fun a2 => ?_) (fun a2 => ?_)
   ·skip
    refine qN (zQ (v := (.bool (geB b.ns (xs.getD j 0) (xs.getD i 0)))) rfl) ?_
    refine qN (xI rfl) ?_
    refine qN (zQ (v := (.bool (!(geB b.ns (xs.getD j 0) (xs.getD i 0))))) rfl) ?_
    refine qbn (t := 48) rfl (fun be => ?_) (fun be => ?_)
    ·skip
     refine qN (zQ (v := (vJ (j : Int))) rfl) ?_
     refine qN (zQ (v := (vJ (i : Int))) rfl) ?_
     refine qN (yT rfl rfl) ?_
     refine qN (yA (v := (.bool (decide (((j : Int) : Int) < (i : Int))))) rfl rfl) ?_
     refine qD rfl (yJ (v := (.bool (decide (((j : Int) : Int) < (i : Int))))) rfl rfl) ?_
     refine qe (zA ?_)
     refine zZ (p := ((j : Int) : Int) < (i : Int)) rfl rfl (fun bf => ?_) (fun bf => ?_)
     ·skip
      refine zB (zC ?_)
      refine qM ov ?_
      refine qM (vJ (i : Int)) ?_
      refine qI rfl (yZ (E := eInt) (e := 3) [(vJ (i : Int))] [(i : Int)] Tryz.underlying65 sz3 zr3 (by exact xU (by rfl)) (xM (by rfl)) rfl rfl rfl rfl (by decide) m.pins (fun b5 da db b6 bg em => ?_))
      have bh := m.step b6 bg
      have b7 := am.below bg
      have b8 := al.below bg b6
      have dc : Own eInt 3 aa da w.heap.size b5 ([(i : Int)]) := db.weaken m.size
      refine qI rfl (oA (E := eInt) (v := ov) (u := b5) 8 Tryz.underlying65 ap3 (by decide) rfl rfl bh.pins b7 dc.src (bh.size) (fun b9 eo dd ca cb de => ?_))
      have df := bh.write ca cb ((yH b7))
      have dg := b8.kept cb ca ab
      have dh := np_app ab b8 de
      have ep : (out ++ ([(i : Int)])).length = out.length + 1 := List.length_append
      refine qM b9 ?_
      refine qe (zA ?_)
      refine wp_exit ?_
      refine s_blkO rfl ?_
      refine zV ?_
      refine yI ?_
      refine yD ?_
      refine zY ?_
      refine zA (zC ?_)
      refine qD rfl (yF rfl rfl (by omega)) ?_
      refine qM (vJ ((i : Int) + 1)) ?_
      refine qe ?_
      refine zX ?_
      refine ⟨_, ?_, _, rfl, _, i + 1, b9, out ++ ([(i : Int)]), s, aa, (pS 17 (pS 16 (pS 15 (pS 7 (pS 6 (pS 2 (pS 1 (pU 0)))))))), rfl, df, (Pin.le_trans (Pin.le_trans (Pin.le_trans ao ac) af.le) ah.le), (by omega), (by rw [dom_hit (g := gX q xs) (lf := lf) (show j < xs.length by omega) ⟨au, (geD_f ae).2 (decP_true.1 ((xR (zN (zN c a) f)).symm.trans a2)), Or.inr bf⟩, hout]), dd, dg, ag, (PX.trans (PX.trans (PX.trans ap ad) ai) aj), (zN (zN (zN c a) f) ak), dh⟩
      omega
     refine wp_skip ?_
     refine zY ?_
     refine zA (zC ?_)
     refine qD rfl (yF rfl rfl (by omega)) ?_
     refine qM (vJ ((j : Int) + 1)) ?_
     refine qe ?_
     refine zX ?_
     refine ⟨_, ?_, _, rfl, _, j + 1, s, aa, (pS 24 (pS 23 (pS 22 (pS 17 (pS 16 (pS 15 (pS 9 (pS 8 (pS 7 (pS 6 (pS 2 (pS 1 (pU 0))))))))))))), rfl, m, (Pin.le_trans (Pin.le_trans ac af.le) ah.le), (by omega), (fun x h2 => if h3 : x = j then h3 ▸ (fun p => p.2.2.elim (fun h => h ((geD_f ae).2 (decP_true.1 ((xR (zN c a)).symm.trans be)))) bf) else hnd x (by omega)), am, al, ag, (PX.trans (PX.trans ad ai) aj), (zN (zN a f) ak)⟩
     omega
    refine qW ?_
    refine qW ?_
    refine qW ?_
    refine qN (yJ (v := (.bool true)) rfl rfl) ?_
    refine qD rfl (yJ (v := (.bool true)) rfl rfl) ?_
    refine qe (zA ?_)
    refine qR rfl rfl ?_
    refine zB (zC ?_)
    refine qM ov ?_
    refine qM (vJ (i : Int)) ?_
    refine qI rfl (yZ (E := eInt) (e := 3) [(vJ (i : Int))] [(i : Int)] Tryz.underlying65 sz3 zr3 (by exact xU (by rfl)) (xM (by rfl)) rfl rfl rfl rfl (by decide) m.pins (fun cc di dj cd bi eq => ?_))
    have bj := m.step cd bi
    have ce := am.below bi
    have cf := al.below bi cd
    have dk : Own eInt 3 aa di w.heap.size cc ([(i : Int)]) := dj.weaken m.size
    refine qI rfl (oA (E := eInt) (v := ov) (u := cc) 8 Tryz.underlying65 ap3 (by decide) rfl rfl bj.pins ce dk.src (bj.size) (fun cg er dl ch ci dm => ?_))
    have dn := bj.write ch ci ((yH ce))
    have dp := cf.kept ci ch ab
    have dq := np_app ab cf dm
    have es : (out ++ ([(i : Int)])).length = out.length + 1 := List.length_append
    refine qM cg ?_
    refine qe (zA ?_)
    refine wp_exit ?_
    refine s_blkO rfl ?_
    refine zV ?_
    refine yI ?_
    refine yD ?_
    refine zY ?_
    refine zA (zC ?_)
    refine qD rfl (yF rfl rfl (by omega)) ?_
    refine qM (vJ ((i : Int) + 1)) ?_
    refine qe ?_
    refine zX ?_
    refine ⟨_, ?_, _, rfl, _, i + 1, cg, out ++ ([(i : Int)]), s, aa, (pS 17 (pS 16 (pS 15 (pS 7 (pS 6 (pS 2 (pS 1 (pU 0)))))))), rfl, dn, (Pin.le_trans (Pin.le_trans (Pin.le_trans ao ac) af.le) ah.le), (by omega), (by rw [dom_hit (g := gX q xs) (lf := lf) (show j < xs.length by omega) ⟨au, (geD_f ae).2 (decP_true.1 ((xR (zN (zN c a) f)).symm.trans a2)), Or.inl (fun h => (decP_false.1 ((xR (zN c a)).symm.trans be)) ((geD_f ae).1 h))⟩, hout]), dl, dp, ag, (PX.trans (PX.trans (PX.trans ap ad) ai) aj), (zN (zN (zN c a) f) ak), dq⟩
    omega
   refine qW ?_
   refine qW ?_
   refine qW ?_
   refine qX ?_
   refine qX ?_
   refine qX ?_
   refine qW ?_
   refine qD rfl (yA (v := (.bool false)) rfl rfl) ?_
   refine qe (zA ?_)
   refine xW rfl rfl ?_
   refine wp_skip ?_
   refine zY ?_
   refine zA (zC ?_)
   refine qD rfl (yF rfl rfl (by omega)) ?_
   refine qM (vJ ((j : Int) + 1)) ?_
   refine qe ?_
   refine zX ?_
   refine ⟨_, ?_, _, rfl, _, j + 1, s, aa, (pS 24 (pS 23 (pS 22 (pS 17 (pS 16 (pS 15 (pS 9 (pS 8 (pS 7 (pS 6 (pS 2 (pS 1 (pU 0))))))))))))), rfl, m, (Pin.le_trans (Pin.le_trans ac af.le) ah.le), (by omega), (fun x h2 => if h3 : x = j then h3 ▸ (fun p => (decP_false.1 ((xR (zN (zN c a) f)).symm.trans a2)) ((geD_f ae).1 p.2.1)) else hnd x (by omega)), am, al, ag, (PX.trans (PX.trans ad ai) aj), (zN (zN a f) ak)⟩
   omega
  refine wp_exit ?_
  refine zV ?_
  refine yI ?_
  refine yD ?_
  refine zY ?_
  refine zA (zC ?_)
  refine qD rfl (yF rfl rfl (by omega)) ?_
  refine qM (vJ ((i : Int) + 1)) ?_
  refine qe ?_
  refine zX ?_
  refine ⟨_, ?_, _, rfl, _, i + 1, ov, out, b, aq, (pS 17 (pS 16 (pS 15 (pS 7 (pS 6 (pS 2 (pS 1 (pU 0)))))))), rfl, aw, (Pin.le_trans ao ac), (by omega), (by rw [dom_miss (fun x h => hnd x (by omega)), hout]), a5, a6, ax, (PX.trans ap ad), (zN c a), ab⟩
  omega
 refine wp_exit ?_
 refine zV ?_
 refine yI ?_
 refine yD ?_
 refine zA (zB (zC ?_))
 refine qM ov ?_
 refine qM ov ?_
 refine qe (zA ?_)
 refine wp_ret ?_
 refine zP ?_
 refine zO (v := ov) rfl rfl rfl ?_
 have hin : i = xs.length := by omega
 rw [hin] at hout
 exact ⟨_, d, _, rfl, (by rw [← hout]; exact bm), bn, az, ap, c, a4⟩

end DI1
end Go.Proofs.YtfnginkcmcfdfaaGreatDoor

set_option maxRecDepth 20000
set_option maxHeartbeats 2000000
namespace Go.Proofs.YtfnginkcmcfdfaaGreatDoor
namespace RI1
open Go.RowKit Go.GL Go.Proofs
open Go.Proofs.YtfnginkcmcfdfaaGreatDoor.B1
open Go.Proofs.YtfnginkcmcfdfaaGreatDoor.K1
open Go.Proofs.YtfnginkcmcfdfaaGreatDoor.PO1
open Go.Proofs.YtfnginkcmcfdfaaGreatDoor.PL1



theorem through_spec {p : Nat} {L R B : Value} {mm : PM} {w : World} {G : Pin} {q : PSt} {f c : Int} {x : Value} {xs : List Int} {lf : Bool} (hP : Pins G w) (hpk : Pk 65 3 G w p L R B mm q) (hok : PoolOk q) (hf : PlaceOk q f) (hc : PlaceOk q c) (hx : RSl eInt G x xs) (hxs : xs = (if lf = true then (q.ns.getD (c).toNat default).r else (q.ns.getD (c).toNat default).l)) (hxp : ∀ z ∈ xs, PlaceOk q z) :
  Calls Tryz.prog 188 [(.pointer (some ⟨p, 0, none⟩)), (vJ f), (vJ c), (.bool lf), x].toArray w fun e w' => ∃ (t : Int) (q' : PSt) (G' : Pin), e = .returned (vJ t) ∧ thrP q.ns lf f c t ∧ Pk 65 3 G' w' p L R B mm q' ∧ PoolOk q' ∧ PX q q' ∧ (q'.ns = q.ns ∧ q'.bs = q.bs) ∧ Ext (inO (some mm.o)) G w G' w' := by
 refine zT (n := 38) Tryz.func188 Tryz.ntmps188 rfl rfl ?_
 have a2 : Ext (inO (some mm.o)) G w G w := Ext.refl hP
 have hpin : PIn w (inP p L R B mm) p L R B mm := PIn.self
 have bb : (q.ns.map Nd.l).length = q.ns.length ∧ (q.ns.map Nd.r).length = q.ns.length := ⟨List.length_map .., List.length_map ..⟩
 have bc : q.bs.length = q.ns.length ∧ q.ns.length ≤ 1048576 := ⟨hok.ar.ok.len, hok.ar.ok.lim⟩
 have hm := hx.max
 refine zB (zC ?_)
 refine qM (vJ 0) ?_
 refine qe (zA (zB (zB (zC ?_))))
 refine qM x ?_
 refine qD rfl (zM Tryz.underlying65 (v := x) rfl hx) ?_
 refine qM (vJ 0) ?_
 refine qe (zA ?_)
 refine zW ?_
 refine yR (fun (k : Nat) (en : Nat → Value) (W : World) => ∃ (av : Nat → Value) (i : Nat) (a : PSt) (ac : Pin), en = (upd (upd (upd (upd (upd (upd av 0 (.pointer (some ⟨p, 0, none⟩))) 1 (vJ f)) 3 (.bool lf)) 13 x) 14 (vJ (xs.length : Int))) 15 (vJ (i : Int))) ∧ k = xs.length - i ∧ Ext (inO (some mm.o)) G w ac W ∧ Pin.le G ac ∧ (i ≤ xs.length) ∧ (lf = true → ∀ x, x < i → geB q.ns f (xs.getD x 0) = false) ∧ (lf = false → ∀ x, x < i → geB q.ns (xs.getD x 0) f = false) ∧ (Pk 65 3 ac W p L R B mm a) ∧ (PoolOk a) ∧ (PX q a) ∧ (a.ns = q.ns ∧ a.bs = q.bs)) _ ⟨_, 0, q, G, (pS 15 (pS 14 (pS 13 (pS 3 (pS 1 (pU 0)))))), rfl, a2, Pin.le_refl _, Nat.zero_le _, (fun _ x h => absurd h (Nat.not_lt_zero x)), (fun _ x h => absurd h (Nat.not_lt_zero x)), hpk, hok, (PX.refl _), ⟨rfl, rfl⟩⟩ ?_
 rintro k7 _ w8 ⟨av, i, a, ac, rfl, bf, y, ad, hi, hpt, hpf, af, aa, s, b⟩
 have bg := s.len
 have bh : (a.ns.map Nd.l).length = a.ns.length ∧ (a.ns.map Nd.r).length = a.ns.length := ⟨List.length_map .., List.length_map ..⟩
 have bi : a.bs.length = a.ns.length ∧ a.ns.length ≤ 1048576 := ⟨aa.ar.ok.len, aa.ar.ok.lim⟩
 refine zB (zC ?_)
 refine qD rfl (yT rfl rfl) ?_
 refine qe (zA (zB ?_))
 refine zZ (p := ((i : Int) : Int) < (xs.length : Int)) rfl rfl (fun a3 => ?_) (fun a3 => ?_)
 ·skip
  refine wp_skip ?_
  refine zA (zB ?_)
  refine zW ?_
  refine zB (zC ?_)
  refine qD rfl (zG Tryz.underlying65 sz3 (v := x) rfl rfl hx (by omega) (by omega)) ?_
  refine qD rfl (zE (r := xs.getD i 0) rfl ag3 (z := (i : Int)) rfl hx (Pins.of_le y.pins ad) (by omega) (by omega)) ?_
  refine qM (vJ (xs.getD i 0)) ?_
  refine qe (zA (zB (zC ?_)))
  refine qM (.bool lf) ?_
  refine qM (.bool lf) ?_
  refine qb (t := 20) rfl (fun g => ?_) (fun g => ?_)
  ·skip
   refine qN (zQ (v := (.pointer (some ⟨p, 0, none⟩))) rfl) ?_
   refine qN (zQ (v := (vJ f)) rfl) ?_
   refine qN (zQ (v := (vJ (xs.getD i 0))) rfl) ?_
   refine q1g rfl rfl rfl rfl rfl rfl (zI (vs := [(.pointer (some ⟨p, 0, none⟩)), (vJ f), (vJ (xs.getD i 0))]) Tryz.func54 nm54 rfl rfl rfl ?_)
   refine Calls.mono (ge_spec y.pins af aa (hf.same b) ((hxp _ (yB (d := (0 : Int)) (show i < xs.length by omega))).same b)) ?_
   rintro _ bj ⟨j, a4, rfl, ak, ae, ag, ab, al⟩
   refine ⟨_, rfl, ?_⟩
   have ah := y.trans al (fun i hi => xL i hi)
   have bk := ag.len
   have bl : (j.ns.map Nd.l).length = j.ns.length ∧ (j.ns.map Nd.r).length = j.ns.length := ⟨List.length_map .., List.length_map ..⟩
   have bm : j.bs.length = j.ns.length ∧ j.ns.length ≤ 1048576 := ⟨ae.ar.ok.len, ae.ar.ok.lim⟩
   have bn := congrArg List.length ab.1
   refine qD rfl (yJ (v := (.bool (geB a.ns f (xs.getD i 0)))) rfl rfl) ?_
   refine qM (.bool (geB a.ns f (xs.getD i 0))) ?_
   refine qb (t := 26) rfl (fun am => ?_) (fun am => ?_)
   ·skip
    refine qW ?_
    refine qW ?_
    refine qW ?_
    refine qX ?_
    refine qX ?_
    refine qX ?_
    refine qX ?_
    refine qW ?_
    refine qD rfl (yJ (v := (.bool true)) rfl rfl) ?_
    refine qe (zA ?_)
    refine qR rfl rfl ?_
    refine zB (zC ?_)
    refine qM (vJ (xs.getD i 0)) ?_
    refine qM (vJ (xs.getD i 0)) ?_
    refine qe (zA ?_)
    refine wp_ret ?_
    refine zP ?_
    refine zO (v := (vJ (xs.getD i 0))) rfl rfl rfl ?_
    have hmem : xs.getD i 0 ∈ xs := yB (show i < xs.length by omega)
    rw [g, if_pos rfl] at hxs
    exact ⟨_, j, _, rfl, thr_hit hok.ar.opts hc (Or.inl ⟨g, hxs ▸ hmem, ((xR b).symm.trans am)⟩), ak, ae, (PX.trans s ag), (zN b ab), ah⟩
   refine qN (zQ (v := (.bool lf)) rfl) ?_
   refine qN (xI rfl) ?_
   refine qN (zQ (v := (.bool (!lf))) rfl) ?_
   refine qbn (t := 29) rfl (fun ai => ?_) (fun ai => ?_)
   ·skip
    refine qW ?_
    refine qW ?_
    refine qW ?_
    refine qW ?_
    refine qN (yA (v := (.bool false)) rfl rfl) ?_
    refine qD rfl (yA (v := (.bool false)) rfl rfl) ?_
    refine qe (zA ?_)
    refine xW rfl rfl ?_
    refine wp_skip ?_
    refine zY ?_
    refine zA (zC ?_)
    refine qD rfl (yF rfl rfl (by omega)) ?_
    refine qM (vJ ((i : Int) + 1)) ?_
    refine qe ?_
    refine zX ?_
    refine ⟨_, ?_, _, rfl, _, i + 1, j, a4, (pS 15 (pS 14 (pS 13 (pS 3 (pS 1 (pU 0)))))), rfl, ah, (Pin.le_trans ad al.le), (by omega), (fun hl x h2 => if h3 : x = i then h3 ▸ ((xR b).symm.trans am) else hpt hl x (by omega)), (fun hl => absurd (g.symm.trans hl) (by decide)), ak, ae, (PX.trans s ag), (zN b ab)⟩
    omega
   refine qN (zQ (v := (.pointer (some ⟨p, 0, none⟩))) rfl) ?_
   refine qN (zQ (v := (vJ (xs.getD i 0))) rfl) ?_
   refine qN (zQ (v := (vJ f)) rfl) ?_
   refine q1g rfl rfl rfl rfl rfl rfl (zI (vs := [(.pointer (some ⟨p, 0, none⟩)), (vJ (xs.getD i 0)), (vJ f)]) Tryz.func54 nm54 rfl rfl rfl ?_)
   refine Calls.mono (ge_spec ah.pins ak ae ((hxp _ (yB (d := (0 : Int)) (show i < xs.length by omega))).same (zN b ab)) (hf.same (zN b ab))) ?_
   rintro _ bo ⟨u, a6, rfl, a7, an, aw, ax, ay⟩
   refine ⟨_, rfl, ?_⟩
   have a8 := ah.trans ay (fun i hi => xL i hi)
   have bp := aw.len
   have bq : (u.ns.map Nd.l).length = u.ns.length ∧ (u.ns.map Nd.r).length = u.ns.length := ⟨List.length_map .., List.length_map ..⟩
   have br : u.bs.length = u.ns.length ∧ u.ns.length ≤ 1048576 := ⟨an.ar.ok.len, an.ar.ok.lim⟩
   have bt := congrArg List.length ax.1
   refine qN (yJ (v := (.bool (geB j.ns (xs.getD i 0) f))) rfl rfl) ?_
   refine qD rfl (yA (v := (.bool (geB j.ns (xs.getD i 0) f))) rfl rfl) ?_
   refine qe (zA ?_)
   refine c_if rfl rfl (fun a9 => ?_) (fun a9 => ?_)
   ·skip
    refine zB (zC ?_)
    refine qM (vJ (xs.getD i 0)) ?_
    refine qM (vJ (xs.getD i 0)) ?_
    refine qe (zA ?_)
    refine wp_ret ?_
    refine zP ?_
    refine zO (v := (vJ (xs.getD i 0))) rfl rfl rfl ?_
    exact (absurd (ai.symm.trans g) Bool.false_ne_true)
   refine wp_skip ?_
   refine zY ?_
   refine zA (zC ?_)
   refine qD rfl (yF rfl rfl (by omega)) ?_
   refine qM (vJ ((i : Int) + 1)) ?_
   refine qe ?_
   refine zX ?_
   refine ⟨_, ?_, _, rfl, _, i + 1, u, a6, (pS 15 (pS 14 (pS 13 (pS 3 (pS 1 (pU 0)))))), rfl, a8, (Pin.le_trans (Pin.le_trans ad al.le) ay.le), (by omega), (absurd (ai.symm.trans g) Bool.false_ne_true), (absurd (ai.symm.trans g) Bool.false_ne_true), a7, an, (PX.trans (PX.trans s ag) aw), (zN (zN b ab) ax)⟩
   omega
  refine qW ?_
  refine qW ?_
  refine qW ?_
  refine qW ?_
  refine qD rfl (yA (v := (.bool false)) rfl rfl) ?_
  refine qM (.bool false) ?_
  refine qN (zQ (v := (.bool lf)) rfl) ?_
  refine qN (xI rfl) ?_
  refine qN (zQ (v := (.bool (!lf))) rfl) ?_
  refine qbn (t := 29) rfl (fun ao => ?_) (fun ao => ?_)
  ·skip
   refine qW ?_
   refine qW ?_
   refine qW ?_
   refine qW ?_
   refine qN (yA (v := (.bool false)) rfl rfl) ?_
   refine qD rfl (yA (v := (.bool false)) rfl rfl) ?_
   refine qe (zA ?_)
   refine xW rfl rfl ?_
   refine wp_skip ?_
   refine zY ?_
   refine zA (zC ?_)
   refine qD rfl (yF rfl rfl (by omega)) ?_
   refine qM (vJ ((i : Int) + 1)) ?_
   refine qe ?_
   refine zX ?_
   refine ⟨_, ?_, _, rfl, _, i + 1, a, ac, (pS 15 (pS 14 (pS 13 (pS 3 (pS 1 (pU 0)))))), rfl, y, ad, (by omega), (absurd (g.symm.trans ao) Bool.false_ne_true), (absurd (g.symm.trans ao) Bool.false_ne_true), af, aa, s, b⟩
   omega
  refine qN (zQ (v := (.pointer (some ⟨p, 0, none⟩))) rfl) ?_
  refine qN (zQ (v := (vJ (xs.getD i 0))) rfl) ?_
  refine qN (zQ (v := (vJ f)) rfl) ?_
  refine q1g rfl rfl rfl rfl rfl rfl (zI (vs := [(.pointer (some ⟨p, 0, none⟩)), (vJ (xs.getD i 0)), (vJ f)]) Tryz.func54 nm54 rfl rfl rfl ?_)
  refine Calls.mono (ge_spec y.pins af aa ((hxp _ (yB (d := (0 : Int)) (show i < xs.length by omega))).same b) (hf.same b)) ?_
  rintro _ bu ⟨m, ba, rfl, az, aj, ap, aq, a0⟩
  refine ⟨_, rfl, ?_⟩
  have a1 := y.trans a0 (fun i hi => xL i hi)
  have bv := ap.len
  have bw : (m.ns.map Nd.l).length = m.ns.length ∧ (m.ns.map Nd.r).length = m.ns.length := ⟨List.length_map .., List.length_map ..⟩
  have bx : m.bs.length = m.ns.length ∧ m.ns.length ≤ 1048576 := ⟨aj.ar.ok.len, aj.ar.ok.lim⟩
  have bz := congrArg List.length aq.1
  refine qN (yJ (v := (.bool (geB a.ns (xs.getD i 0) f))) rfl rfl) ?_
  refine qD rfl (yA (v := (.bool (geB a.ns (xs.getD i 0) f))) rfl rfl) ?_
  refine qe (zA ?_)
  refine c_if rfl rfl (fun au => ?_) (fun au => ?_)
  ·skip
   refine zB (zC ?_)
   refine qM (vJ (xs.getD i 0)) ?_
   refine qM (vJ (xs.getD i 0)) ?_
   refine qe (zA ?_)
   refine wp_ret ?_
   refine zP ?_
   refine zO (v := (vJ (xs.getD i 0))) rfl rfl rfl ?_
   have hmem : xs.getD i 0 ∈ xs := yB (show i < xs.length by omega)
   rw [g, if_neg Bool.false_ne_true] at hxs
   exact ⟨_, m, _, rfl, thr_hit hok.ar.opts hc (Or.inr ⟨g, hxs ▸ hmem, ((xR b).symm.trans au)⟩), az, aj, (PX.trans s ap), (zN b aq), a1⟩
  refine wp_skip ?_
  refine zY ?_
  refine zA (zC ?_)
  refine qD rfl (yF rfl rfl (by omega)) ?_
  refine qM (vJ ((i : Int) + 1)) ?_
  refine qe ?_
  refine zX ?_
  refine ⟨_, ?_, _, rfl, _, i + 1, m, ba, (pS 15 (pS 14 (pS 13 (pS 3 (pS 1 (pU 0)))))), rfl, a1, (Pin.le_trans ad a0.le), (by omega), (fun hl => absurd (g.symm.trans hl) (by decide)), (fun hl x h2 => if h3 : x = i then h3 ▸ ((xR b).symm.trans au) else hpf hl x (by omega)), az, aj, (PX.trans s ap), (zN b aq)⟩
  omega
 refine wp_exit ?_
 refine zV ?_
 refine yI ?_
 refine yD ?_
 refine zA (zB (zC ?_))
 refine qM (vJ (-1)) ?_
 refine qe (zA ?_)
 refine wp_ret ?_
 refine zP ?_
 refine zO (v := (vJ (-1))) rfl rfl rfl ?_
 have hii : i = xs.length := by omega
 refine ⟨_, a, _, rfl, ?_, af, aa, s, b, y⟩
 cases hlf : lf
 ·rw [hlf, if_neg Bool.false_ne_true] at hxs
  exact thr_none_f hok.ar.opts hc (fun k hk => by rw [← hxs] at hk ⊢; exact hpf hlf k (by omega))
 ·rw [hlf, if_pos rfl] at hxs
  exact thr_none_t hok.ar.opts hc (fun k hk => by rw [← hxs] at hk ⊢; exact hpt hlf k (by omega))

end RI1
end Go.Proofs.YtfnginkcmcfdfaaGreatDoor

set_option maxRecDepth 20000
set_option maxHeartbeats 2000000
namespace Go.Proofs.YtfnginkcmcfdfaaGreatDoor
namespace CN1
open Go.RowKit Go.GL Go.Proofs
open Go.Proofs.YtfnginkcmcfdfaaGreatDoor.B1
open Go.Proofs.YtfnginkcmcfdfaaGreatDoor.K1
open Go.Proofs.YtfnginkcmcfdfaaGreatDoor.PO1
open Go.Proofs.YtfnginkcmcfdfaaGreatDoor.PL1
open Go.Proofs.YtfnginkcmcfdfaaGreatDoor.DI1
open Go.Proofs.YtfnginkcmcfdfaaGreatDoor.RI1




theorem without_spec {w : World} {G : Pin} {x y : Value} {xs D : List Int} (hP : Pins G w) (hx : RSl eInt G x xs) (hy : RSl eInt G y D) (hxl : xs.length ≤ 1048576) (hpw : D.Pairwise (· < ·)) (hD0 : ∀ z ∈ D, 0 ≤ z) :
  Calls Tryz.prog 189 [x, y].toArray w fun e w' => ∃ (u : Value) (G' : Pin), e = .returned u ∧ Own eInt 3 G' w' w.heap.size u (woL xs D xs.length) ∧ Ext noS G w G' w' := by
 refine zT (n := 34) Tryz.func189 Tryz.ntmps189 rfl rfl ?_
 have h : Ext noS G w G w := Ext.refl hP
 have hm := hx.max
 have a9 := hy.max
 refine zB (zC ?_)
 refine qM (.slice none 0 0) ?_
 refine qe (zA (zB (zC ?_)))
 refine qI rfl (xD (E := eInt) (e := 3) Tryz.underlying65 sz3 h.pins (fun j w2 ai aj ak ba => ?_))
 have al := h.step aj ak
 have am : Own eInt 3 G w2 w.heap.size j ([]) := ai.weaken h.size
 refine qM j ?_
 refine qe (zA (zB (zB (zC ?_))))
 refine qM x ?_
 refine qD rfl (zM Tryz.underlying65 (v := x) rfl hx) ?_
 refine qM (vJ 0) ?_
 refine qe (zA ?_)
 refine zW ?_
 refine yR (fun (k : Nat) (en : Nat → Value) (W : World) => ∃ (o : Nat → Value) (i : Nat) (pv : Value) (ds : List Int) (ov : Value) (out : List Int) (a : Pin), en = (upd (upd (upd (upd (upd (upd o 1 pv) 4 (.slice none 0 0)) 5 ov) 9 x) 10 (vJ (xs.length : Int))) 11 (vJ (i : Int))) ∧ k = xs.length - i ∧ Ext noS G w a W ∧ Pin.le G a ∧ (i ≤ xs.length) ∧ (WoOk D ds i) ∧ (out = woL xs D i) ∧ (Own eInt 3 a W w.heap.size ov (out)) ∧ (RSl eInt a pv (ds))) _ ⟨_, 0, y, D, j, [], G, (pS 11 (pS 10 (pS 9 (pS 5 (pS 4 (pU 1)))))), rfl, al, Pin.le_refl _, Nat.zero_le _, (WoOk.start hpw hD0), rfl, am, hy⟩ ?_
 rintro k9 _ bc ⟨o, i, pv, ds, ov, out, a, rfl, bd, b, f, hi, hwo, hout, g, c⟩
 have hol : out.length ≤ i := by rw [hout]; exact wo_len i
 refine zB (zC ?_)
 refine qD rfl (yT rfl rfl) ?_
 refine qe (zA (zB ?_))
 refine zZ (p := ((i : Int) : Int) < (xs.length : Int)) rfl rfl (fun an => ?_) (fun an => ?_)
 ·skip
  refine wp_skip ?_
  refine zA (zB ?_)
  refine zW ?_
  refine zB (zC ?_)
  refine qM (vJ (i : Int)) ?_
  refine qD rfl (zG Tryz.underlying65 sz3 (v := x) rfl rfl hx (by omega) (by omega)) ?_
  refine qD rfl (zE (r := xs.getD i 0) rfl ag3 (z := (i : Int)) rfl hx (Pins.of_le b.pins f) (by omega) (by omega)) ?_
  refine qM (vJ (i : Int)) ?_
  refine qM (vJ (xs.getD i 0)) ?_
  refine qe (zA (zB (zB (zC ?_))))
  refine qM pv ?_
  refine qD rfl (zM Tryz.underlying65 (v := pv) rfl c) ?_
  refine qD rfl (r_gtr rfl rfl) ?_
  refine qM (.bool (decide ((0 : Int) < (ds.length : Int)))) ?_
  refine qbd (p := (0 : Int) < (ds.length : Int)) (t := 19) rfl (fun ao => ?_) (fun ao => ?_)
  ·skip
   refine qN (zQ (v := pv) rfl) ?_
   refine qN (zG Tryz.underlying65 sz3 (v := pv) rfl rfl c (by omega) (by omega)) ?_
   refine qN (zE (r := ds.getD 0 0) rfl ag3 (z := 0) rfl c b.pins (by omega) (by omega)) ?_
   refine qN (zQ (v := (vJ (i : Int))) rfl) ?_
   refine qN (xT rfl rfl) ?_
   refine qD rfl (yJ (v := (.bool (decide ((ds.getD 0 0 : Int) = (i : Int))))) rfl rfl) ?_
   refine qe (zA ?_)
   refine zZ (p := (ds.getD 0 0 : Int) = (i : Int)) rfl rfl (fun d => ?_) (fun d => ?_)
   ·skip
    refine zB (zC ?_)
    refine qM pv ?_
    obtain ⟨q, ap, aq⟩ := qP c (lo := (some (1))) (hi := none) (1) (ds.length) (Or.inr ⟨_, rfl, (by omega), rfl⟩) (Or.inl ⟨rfl, rfl⟩) (by omega) (by omega)
    refine qD rfl (aq Tryz.underlying65 sz3 rfl rfl rfl) ?_
    refine qM q ?_
    refine qe (zA ?_)
    refine wp_exit ?_
    refine zV ?_
    refine yD ?_
    refine zA (zC ?_)
    refine qD rfl (yF rfl rfl (by omega)) ?_
    refine qM (vJ ((i : Int) + 1)) ?_
    refine qe ?_
    refine zX ?_
    refine ⟨_, ?_, _, rfl, _, i + 1, q, (ds.take ds.length).drop 1, ov, out, a, (pS 11 (pS 10 (pS 9 (pS 5 (pS 4 (pU 1)))))), rfl, b, f, (by omega), (by rw [List.take_length]; exact (hwo.hit (by omega) d).1), (by rw [show woL xs D (i + 1) = woL xs D i from if_pos (hwo.hit (by omega) d).2, hout]), g, ap⟩
    omega
   refine wp_skip ?_
   refine zA (zC ?_)
   refine qM ov ?_
   refine qM (vJ (xs.getD i 0)) ?_
   refine qI rfl (yZ (E := eInt) (e := 3) [(vJ (xs.getD i 0))] [xs.getD i 0] Tryz.underlying65 sz3 zr3 (by exact xU (by rfl)) (xM (by rfl)) rfl rfl rfl rfl (by decide) b.pins (fun s ar au av aa be => ?_))
   have l := b.step av aa
   have ab := g.below aa
   have aw : Own eInt 3 a ar w.heap.size s ([xs.getD i 0]) := au.weaken b.size
   refine qI rfl (oA (E := eInt) (v := ov) (u := s) 8 Tryz.underlying65 ap3 (by decide) rfl rfl l.pins ab aw.src (l.size) (fun ac bf ax ay az bg => ?_))
   have a0 := l.write ay az ((yH ab))
   have bh : (out ++ ([xs.getD i 0])).length = out.length + 1 := List.length_append
   refine qM ac ?_
   refine qe ?_
   refine zY ?_
   refine zA (zC ?_)
   refine qD rfl (yF rfl rfl (by omega)) ?_
   refine qM (vJ ((i : Int) + 1)) ?_
   refine qe ?_
   refine zX ?_
   refine ⟨_, ?_, _, rfl, _, i + 1, pv, ds, ac, out ++ ([xs.getD i 0]), a, (pS 11 (pS 10 (pS 9 (pS 5 (pS 4 (pU 1)))))), rfl, a0, f, (by omega), (hwo.miss (Or.inr d)).1, (by rw [show woL xs D (i + 1) = woL xs D i ++ [xs.getD i 0] from if_neg (hwo.miss (Or.inr d)).2, hout]), ax, c⟩
   omega
  refine qW ?_
  refine qW ?_
  refine qW ?_
  refine qW ?_
  refine qW ?_
  refine qD rfl (yA (v := (.bool false)) rfl rfl) ?_
  refine qe (zA ?_)
  refine xW rfl rfl ?_
  refine wp_skip ?_
  refine zA (zC ?_)
  refine qM ov ?_
  refine qM (vJ (xs.getD i 0)) ?_
  refine qI rfl (yZ (E := eInt) (e := 3) [(vJ (xs.getD i 0))] [xs.getD i 0] Tryz.underlying65 sz3 zr3 (by exact xU (by rfl)) (xM (by rfl)) rfl rfl rfl rfl (by decide) b.pins (fun ad a1 a2 a3 ae bi => ?_))
  have m := b.step a3 ae
  have af := g.below ae
  have a4 : Own eInt 3 a a1 w.heap.size ad ([xs.getD i 0]) := a2.weaken b.size
  refine qI rfl (oA (E := eInt) (v := ov) (u := ad) 8 Tryz.underlying65 ap3 (by decide) rfl rfl m.pins af a4.src (m.size) (fun ag bj a5 a6 a7 bk => ?_))
  have a8 := m.write a6 a7 ((yH af))
  have bl : (out ++ ([xs.getD i 0])).length = out.length + 1 := List.length_append
  refine qM ag ?_
  refine qe ?_
  refine zY ?_
  refine zA (zC ?_)
  refine qD rfl (yF rfl rfl (by omega)) ?_
  refine qM (vJ ((i : Int) + 1)) ?_
  refine qe ?_
  refine zX ?_
  refine ⟨_, ?_, _, rfl, _, i + 1, pv, ds, ag, out ++ ([xs.getD i 0]), a, (pS 11 (pS 10 (pS 9 (pS 5 (pS 4 (pU 1)))))), rfl, a8, f, (by omega), (hwo.miss (Or.inl (by omega))).1, (by rw [show woL xs D (i + 1) = woL xs D i ++ [xs.getD i 0] from if_neg (hwo.miss (Or.inl (by omega))).2, hout]), a5, c⟩
  omega
 refine wp_exit ?_
 refine zV ?_
 refine yI ?_
 refine yD ?_
 refine zA (zB (zC ?_))
 refine qM ov ?_
 refine qM ov ?_
 refine qe (zA ?_)
 refine wp_ret ?_
 refine zP ?_
 refine zO (v := ov) rfl rfl rfl ?_
 have hin : i = xs.length := by omega
 rw [hin] at hout
 exact ⟨_, _, rfl, (by rw [← hout]; exact g), b⟩

def CanP (N m p : Nat) (mm : PM) : Prop := ∀ {w : World} {G : Pin} {L R B : Value} {q : PSt} {f : Int} (_ : Pins G w) (_ : Pk 65 3 G w p L R B mm q) (_ : PoolOk q) (_ : PlaceOk q f) (_ : f < (N : Int)) (_ : q.ns.length + unc q N < 1048576), f.toNat < m →
  Calls Tryz.prog 124 [(.pointer (some ⟨p, 0, none⟩)), (.int .i64 f)].toArray w fun e w' => ∃ (z : Int) (L' R' B' : Value) (q' : PSt) (G' : Pin), e = .returned (.int .i64 z) ∧ Pk 65 3 G' w' p L' R' B' mm q' ∧ PoolOk q' ∧ PX q q' ∧ PLo w p L R B mm L' R' B' ∧ Ext (inP p L R B mm) G w G' w' ∧ PlaceOk q' z ∧ CanonG (pd q' z) ∧ eqG (pd q' z) (pd q' f) ∧ q'.ns.length + unc q' N ≤ q.ns.length + unc q N

end CN1
end Go.Proofs.YtfnginkcmcfdfaaGreatDoor

set_option maxRecDepth 20000
set_option maxHeartbeats 2000000
namespace Go.Proofs.YtfnginkcmcfdfaaGreatDoor
namespace CN2
open Go.RowKit Go.GL Go.Proofs
open Go.Proofs.YtfnginkcmcfdfaaGreatDoor.B1
open Go.Proofs.YtfnginkcmcfdfaaGreatDoor.K1
open Go.Proofs.YtfnginkcmcfdfaaGreatDoor.PO1
open Go.Proofs.YtfnginkcmcfdfaaGreatDoor.PL1
open Go.Proofs.YtfnginkcmcfdfaaGreatDoor.DI1
open Go.Proofs.YtfnginkcmcfdfaaGreatDoor.RI1
open Go.Proofs.YtfnginkcmcfdfaaGreatDoor.CN1













theorem reduced_t {w : World} {G : Pin} {L R B : Value} {q : PSt} {f : Int} {p : Nat} {mm : PM} {N m : Nat} (hP : Pins G w) (hpk : Pk 65 3 G w p L R B mm q) (hok : PoolOk q) (hf : PlaceOk q f) (hfN : f < (N : Int)) (hbud : q.ns.length + unc q N < 1048576) (ih : CanP N m p mm) (hm : f.toNat < m + 1) :
  Calls Tryz.prog 154 [(.pointer (some ⟨p, 0, none⟩)), (vJ f), (.bool true)].toArray w fun e w' => ∃ (u : Value) (zs : List Int) (L' R' B' : Value) (q' : PSt) (G' : Pin), e = .returned u ∧ Pk 65 3 G' w' p L' R' B' mm q' ∧ PoolOk q' ∧ PX q q' ∧ PLo w p L R B mm L' R' B' ∧ Ext (inP p L R B mm) G w G' w' ∧ Own eInt 3 G' w' w.heap.size u zs ∧ NP p L' R' B' mm u.ownBlock ∧ ReOk q' true f zs ∧ q'.ns.length + unc q' N ≤ q.ns.length + unc q N := by
 refine zT (n := 120) Tryz.func154 Tryz.ntmps154 rfl rfl ?_
 have bo : Ext (inP p L R B mm) G w G w := Ext.refl hP
 have hpin : PIn w (inP p L R B mm) p L R B mm := PIn.self
 have gh : (q.ns.map Nd.l).length = q.ns.length ∧ (q.ns.map Nd.r).length = q.ns.length := ⟨List.length_map .., List.length_map ..⟩
 have gi : q.bs.length = q.ns.length ∧ q.ns.length ≤ 1048576 := ⟨hok.ar.ok.len, hok.ar.ok.lim⟩
 have gj := hf.1
 have gk := hf.2
 have dz := ol_len hok (lf := true) hf
 have gl : (q.ns.getD (f).toNat default).l.length ≤ 1048576 := dz
 refine zB (zC ?_)
 refine qM (.slice none 0 0) ?_
 refine qe (zA (zB (zC ?_)))
 refine qI rfl (xD (E := eInt) (e := 3) Tryz.underlying65 sz3 bo.pins (fun u3 w4 d1 cq cr d2 => ?_))
 have bp := bo.step cq cr
 have cs := hpk.below cr cq
 have d3 := hpk.new (x := u3.ownBlock) (fun k hk => by rw [d2] at hk; cases hk; exact Nat.le_refl _)
 have d4 : Own eInt 3 G w4 w.heap.size u3 ([]) := d1.weaken bo.size
 refine qI rfl (o_makeMap (fun k : Int => Value.int .i64 k) (fun v : Bool => Value.bool v) bp.pins (fun t gm gn d5 ct bq => ?_))
 have br := bp.step ct bq
 have cu := d4.below bq
 have cv := cs.below bq ct
 have d6 := cs.new (x := some t) (fun k hk => by cases hk; omega)
 have d7 : w.heap.size ≤ t := by have := bp.size; omega
 refine qI rfl (xD (E := eInt) (e := 3) Tryz.underlying65 sz3 br.pins (fun y d8 d9 cw ba cx => ?_))
 have bt := br.step cw ba
 have ea := cu.below ba
 have eb := d5.below ba
 have ah := cv.below ba cw
 have ec : Apart y.ownBlock u3.ownBlock := zH cx cu.lt
 have ed := cv.new (x := y.ownBlock) (fun k hk => by rw [cx] at hk; cases hk; exact Nat.le_refl _)
 have ee : Own eInt 3 G d8 w.heap.size y ([]) := d9.weaken br.size
 refine qM u3 ?_
 refine qM (.map (some t)) ?_
 refine qM y ?_
 refine qe (zA (zB (zC ?_)))
 refine qM (.pointer (some ⟨p, 0, none⟩)) ?_
 refine qD rfl (yV rfl) ?_
 refine qD rfl (zJ (k := 1) rfl Tryz.underlying72 rfl nz66 rfl) ?_
 refine qD rfl (zK (u := R) ag66 rfl (ah.bx.cell (o := 1) rfl)) ?_
 refine qM (vJ f) ?_
 refine qD rfl (zG Tryz.underlying66 sz65 (v := R) rfl rfl ah.rr.read (by omega) (by omega)) ?_
 obtain ⟨ef, cy, eg⟩ := nm_sl (ah.rr.at (z := f) (by omega) (by omega)) (j := (f).toNat) rfl
 rw [mapr_getD] at cy
 have gp := cy.max
 refine qD rfl (eg ag65 rfl (Gadd.pins bt.pins R)) ?_
 refine qM ef ?_
 refine qe (zA (zB (zB (zC ?_))))
 refine qM (.bool true) ?_
 refine qe (zA ?_)
 refine qR rfl rfl ?_
 refine zC ?_
 refine qM (.pointer (some ⟨p, 0, none⟩)) ?_
 refine qD rfl (yV rfl) ?_
 refine qD rfl (zJ (k := 0) rfl Tryz.underlying72 rfl nz66 rfl) ?_
 refine qD rfl (zK (u := L) ag66 rfl (ah.bx.cell (o := 0) rfl)) ?_
 refine qM (vJ f) ?_
 refine qD rfl (zG Tryz.underlying66 sz65 (v := L) rfl rfl ah.ol.read (by omega) (by omega)) ?_
 obtain ⟨aw, ax, eh⟩ := nm_sl (ah.ol.at (z := f) (by omega) (by omega)) (j := (f).toNat) rfl
 rw [mapl_getD] at ax
 have gq := ax.max
 refine qD rfl (eh ag65 rfl (Gadd.pins bt.pins L)) ?_
 refine qM aw ?_
 refine qe (zA (zB (zB (zC ?_))))
 refine qM aw ?_
 refine qD rfl (zM Tryz.underlying65 (v := aw) rfl ax) ?_
 refine qM (vJ 0) ?_
 refine qe (zA ?_)
 refine zW ?_
 refine yR (fun (k : Nat) (en : Nat → Value) (W : World) => ∃ (ay : Nat → Value) (j : Nat) (qv : Value) (qs : List Int) (b : Value) (h : Value) (aa : Value) (a : PSt) (ac : Pin), en = (upd (upd (upd (upd (upd (upd (upd (upd (upd (upd ay 0 (.pointer (some ⟨p, 0, none⟩))) 1 (vJ f)) 2 (.bool true)) 6 (.slice none 0 0)) 7 qv) 8 (.map (some t))) 9 y) 34 aw) 35 (vJ (((q.ns.getD (f).toNat default).l).length : Int))) 36 (vJ (j : Int))) ∧ k = (q.ns.getD (f).toNat default).l.length - j ∧ Ext (inP p L R B mm) G w ac W ∧ Pin.le G ac ∧ (j ≤ (q.ns.getD (f).toNat default).l.length) ∧ (QOk q a (q.ns.getD (f).toNat default).l qs j) ∧ (a.ns.length + unc a N ≤ q.ns.length + unc q N) ∧ (Own eInt 3 ac W w.heap.size qv (qs)) ∧ (Own eInt 3 ac W w.heap.size y ([])) ∧ (Apart qv.ownBlock y.ownBlock) ∧ (Mp (fun k : Int => Value.int .i64 k) (fun v : Bool => Value.bool v) W t ([])) ∧ (Pk 65 3 ac W p b h aa mm a) ∧ (PIn w ((inP p L R B mm)) p b h aa mm) ∧ (PoolOk a) ∧ (PX q a) ∧ (NP p b h aa mm qv.ownBlock) ∧ (NP p b h aa mm y.ownBlock) ∧ (NP p b h aa mm (some t))) _ ⟨_, 0, u3, [], L, R, B, q, G, (pS 36 (pS 35 (pS 34 (pS 9 (pS 8 (pS 7 (pS 6 (pS 2 (pS 1 (pU 0)))))))))), rfl, bt, Pin.le_refl _, Nat.zero_le _, QOk.start, Nat.le_refl _, ea, ee, ec.symm, eb, ah, hpin, hok, (PX.refl _), d3, ed, d6⟩ ?_
 rintro gr _ gs ⟨ay, j, qv, qs, b, h, aa, a, ac, rfl, gt, az, cz, hj, hqo, hbu, bu, bv, bw, bz, c0, a0, ab, ai, b0, b1, bb⟩
 have gu := ai.len
 have gv : (a.ns.map Nd.l).length = a.ns.length ∧ (a.ns.map Nd.r).length = a.ns.length := ⟨List.length_map .., List.length_map ..⟩
 have gw : a.bs.length = a.ns.length ∧ a.ns.length ≤ 1048576 := ⟨ab.ar.ok.len, ab.ar.ok.lim⟩
 have gx := hqo.len
 refine zB (zC ?_)
 refine qD rfl (yT rfl rfl) ?_
 refine qe (zA (zB ?_))
 refine zZ (p := ((j : Int) : Int) < (((q.ns.getD (f).toNat default).l).length : Int)) rfl rfl (fun ei => ?_) (fun ei => ?_)
 ·skip
  have hmj : (q.ns.getD (f).toNat default).l.getD j 0 ∈ (q.ns.getD (f).toNat default).l := yB (show j < (q.ns.getD (f).toNat default).l.length by omega)
  have hoj := (jH hok hf).1 _ hmj
  have gy := hoj.1
  have hoz := ((xE hok.ar.opts (show (f).toNat < q.ns.length by omega)).1 _ hmj).2
  refine wp_skip ?_
  refine zA (zB ?_)
  refine zW ?_
  refine zB (zC ?_)
  refine qD rfl (zG Tryz.underlying65 sz3 (v := aw) rfl rfl ax (by omega) (by omega)) ?_
  refine qD rfl (zE (r := ((q.ns.getD (f).toNat default).l).getD j 0) rfl ag3 (z := (j : Int)) rfl ax (Pins.of_le az.pins cz) (by omega) (by omega)) ?_
  refine qM (vJ (((q.ns.getD (f).toNat default).l).getD j 0)) ?_
  refine qe (zA (zC ?_))
  refine qM qv ?_
  refine qM (.pointer (some ⟨p, 0, none⟩)) ?_
  refine qM (vJ (((q.ns.getD (f).toNat default).l).getD j 0)) ?_
  refine qI rfl (zI (vs := [(.pointer (some ⟨p, 0, none⟩)), (vJ (((q.ns.getD (f).toNat default).l).getD j 0))]) Tryz.func124 nm124 rfl rfl rfl ?_)
  refine Calls.mono (ih az.pins c0 ab (ai.place hoj) (by omega) (by omega) (by omega)) ?_
  rintro _ gz ⟨a1, ej, ek, el, ad, c1, rfl, em, bc, b2, bd, a2, eo, ep, eq, er⟩
  refine ⟨_, rfl, ?_⟩
  have b3 := az.trans a2 a0
  have es := bu.extS a2 b0
  have c2 := NP.call b0 bd (jB bu)
  have et := bv.extS a2 b1
  have eu := NP.call b1 bd (jB bv)
  have ev := bz.extS a2 (NP.notb bb)
  have ew := NP.call bb bd (fun j hj => by cases hj; exact bz.lt)
  have ex := PIn.call a0 bd az.size
  have g0 := b2.len
  have g1 : (ad.ns.map Nd.l).length = ad.ns.length ∧ (ad.ns.map Nd.r).length = ad.ns.length := ⟨List.length_map .., List.length_map ..⟩
  have g2 : ad.bs.length = ad.ns.length ∧ ad.ns.length ≤ 1048576 := ⟨bc.ar.ok.len, bc.ar.ok.lim⟩
  refine qI rfl (yZ (E := eInt) (e := 3) [(vJ a1)] [a1] Tryz.underlying65 sz3 zr3 (by exact xU (by rfl)) (xM (by rfl)) rfl rfl rfl rfl (by decide) b3.pins (fun c3 ey ez c4 a3 g3 => ?_))
  have b4 := b3.step c4 a3
  have b5 := es.below a3
  have c5 := et.below a3
  have c6 := ev.below a3
  have c7 := em.below a3 c4
  have e0 : Own eInt 3 c1 ey w.heap.size c3 ([a1]) := ez.weaken b3.size
  refine qI rfl (oA (E := eInt) (v := qv) (u := c3) 8 Tryz.underlying65 ap3 (by decide) rfl rfl b4.pins b5 e0.src (b4.size) (fun b6 g4 e1 c8 be c9 => ?_))
  have e2 := b4.write c8 be ((yH b5))
  have e3 := c5.keptA be bw.symm
  have e4 := c6.kept be (yM c6 b5)
  have e5 := c7.kept be c8 c2
  have e6 : Apart y.ownBlock b6.ownBlock := zF bw.symm c9 c5.lt
  have e7 := np_app c2 c7 c9
  have g5 : (qs ++ ([a1])).length = qs.length + 1 := List.length_append
  refine qM b6 ?_
  refine qe ?_
  refine zY ?_
  refine zA (zC ?_)
  refine qD rfl (yF rfl rfl (by omega)) ?_
  refine qM (vJ ((j : Int) + 1)) ?_
  refine qe ?_
  refine zX ?_
  refine ⟨_, ?_, _, rfl, _, j + 1, b6, qs ++ ([a1]), ej, ek, el, ad, c1, (pS 36 (pS 35 (pS 34 (pS 9 (pS 8 (pS 7 (pS 6 (pS 2 (pS 1 (pU 0)))))))))), rfl, e2, (Pin.le_trans cz a2.le), (by omega), (hqo.step hok ab bc ai b2 hoj eo ep eq), (by have := er; omega), e1, e3, e6.symm, e4, e5, ex, bc, (PX.trans ai b2), e7, eu, ew⟩
  omega
 refine wp_exit ?_
 refine zV ?_
 refine yI ?_
 refine yD ?_
 refine zA (zB ?_)
 refine zW ?_
 have hjn : j = (q.ns.getD (f).toNat default).l.length := by omega
 rw [hjn] at hqo
 have e8 : RdW a true (pd a f) qs [] [] := by rw [ai.pd hok ab hf]; exact hqo.rd (lf := true) hok hf (by unfold ol; rw [if_pos rfl])
 have hq2l := hqo.len
 have e9 := ai.place hf
 refine yR (fun (k : Nat) (en : Nat → Value) (W : World) => ∃ (ay : Nat → Value) (wv : Value) (wl : List Int) (kv : Value) (kept : List Int) (sn : List (Int × Bool)) (ss : List Int) (d : PSt) (aj : Pin), en = (upd (upd (upd (upd (upd (upd (upd ay 0 (.pointer (some ⟨p, 0, none⟩))) 1 (vJ f)) 2 (.bool true)) 6 (.slice none 0 0)) 7 wv) 8 (.map (some t))) 9 kv) ∧ k = (a.ns.length - ss.length) * 1048577 + wl.length ∧ Ext (inP p L R B mm) G w aj W ∧ Pin.le ac aj ∧ (RdW a true (pd a f) wl ss kept) ∧ (SnOk sn ss) ∧ (wl.length ≤ 1048576 + 1048576 * ss.length) ∧ (Own eInt 3 aj W w.heap.size wv (wl)) ∧ (Own eInt 3 aj W w.heap.size kv (kept)) ∧ (Apart wv.ownBlock kv.ownBlock) ∧ (Mp (fun k : Int => Value.int .i64 k) (fun v : Bool => Value.bool v) W t (sn)) ∧ (Pk 65 3 aj W p b h aa mm d) ∧ (PoolOk d) ∧ (PX a d) ∧ (d.ns = a.ns ∧ d.bs = a.bs) ∧ (NP p b h aa mm wv.ownBlock) ∧ (NP p b h aa mm kv.ownBlock)) _ ⟨_, qv, qs, y, [], [], [], a, ac, (pS 9 (pS 8 (pS 7 (pS 6 (pS 2 (pS 1 (pU 0))))))), rfl, az, Pin.le_refl _, e8, SnOk.start, (by simp; omega), bu, bv, bw, bz, c0, ab, (PX.refl _), ⟨rfl, rfl⟩, b0, b1⟩ ?_
 rintro g6 _ g7 ⟨ay, wv, wl, kv, kept, sn, ss, d, aj, rfl, g8, a4, b7, hrd, hsn, hwl, am, bf, fa, a5, b8, ak, an, s, fb, ao⟩
 have g9 := an.len
 have ha : (d.ns.map Nd.l).length = d.ns.length ∧ (d.ns.map Nd.r).length = d.ns.length := ⟨List.length_map .., List.length_map ..⟩
 have hb : d.bs.length = d.ns.length ∧ d.ns.length ≤ 1048576 := ⟨ak.ar.ok.len, ak.ar.ok.lim⟩
 have hrl := hrd.len
 refine zB (zB (zC ?_))
 refine qM wv ?_
 refine qD rfl (zM Tryz.underlying65 (v := wv) rfl am.read) ?_
 refine qD rfl (r_gtr rfl rfl) ?_
 refine qe (zA ?_)
 refine zZ (p := (0 : Int) < (wl.length : Int)) rfl rfl (fun fc => ?_) (fun fc => ?_)
 ·skip
  have hpm : ((wl.length : Int) - 1).toNat + 1 = wl.length := by omega
  have hpa := hrd.at_ hpm
  have hc := hpa.1
  have hd := hpa.2
  refine wp_skip ?_
  refine zA ?_
  refine zW ?_
  refine zB (zC ?_)
  refine qM wv ?_
  refine qM wv ?_
  refine qD rfl (zM Tryz.underlying65 (v := wv) rfl am.read) ?_
  refine qD rfl (qB rfl rfl (by omega)) ?_
  refine qD rfl (zG Tryz.underlying65 sz3 (v := wv) rfl rfl am.read (by omega) (by omega)) ?_
  refine qD rfl (zE (r := wl.getD ((wl.length : Int) - 1).toNat 0) rfl ag3 (z := ((wl.length : Int) - 1)) rfl am.read (Gadd.pins a4.pins wv) (by omega) (by omega)) ?_
  refine qM (vJ (wl.getD ((wl.length : Int) - 1).toNat 0)) ?_
  refine qe (zA (zB (zC ?_)))
  refine qM wv ?_
  refine qM wv ?_
  refine qD rfl (zM Tryz.underlying65 (v := wv) rfl am.read) ?_
  refine qD rfl (qB rfl rfl (by omega)) ?_
  obtain ⟨ae, b9, da, fd⟩ := own_cut am (((wl.length : Int) - 1).toNat) ((wl.length : Int) - 1) (by omega) rfl (by omega) (by omega)
  have a6 : Apart ae.ownBlock kv.ownBlock := by rw [da]; exact fa
  have a7 := (show NP _ _ _ _ _ ae.ownBlock by rw [da]; exact fb)
  refine qD rfl (fd Tryz.underlying65 sz3 rfl rfl rfl) ?_
  refine qM ae ?_
  refine qe (zA (zB (zB (zC ?_))))
  refine qM (.map (some t)) ?_
  refine qM (vJ (wl.getD ((wl.length : Int) - 1).toNat 0)) ?_
  refine qD rfl (run_look1_bool (k := (wl.getD ((wl.length : Int) - 1).toNat 0)) (key_int Tryz.underlying3) Tryz.underlying147 zr4 a5 rfl rfl) ?_
  refine qe (zA ?_)
  refine c_if rfl rfl (fun bg => ?_) (fun bg => ?_)
  ·skip
   refine wp_exit ?_
   refine zV ?_
   refine yD ?_
   refine zX ?_
   have htl : (wl.take ((wl.length : Int) - 1).toNat).length = ((wl.length : Int) - 1).toNat := by rw [List.length_take]; omega
   refine ⟨_, ?_, _, rfl, _, ae, wl.take ((wl.length : Int) - 1).toNat, kv, kept, sn, ss, d, aj, (pS 9 (pS 8 (pS 7 (pS 6 (pS 2 (pS 1 (pU 0))))))), rfl, a4, b7, ((hrd.pop hpm).seen (hsn.yes bg)), hsn, (by omega), b9, bf, a6, a5, b8, ak, an, s, a7, ao⟩
   omega
  refine wp_skip ?_
  refine zA (zB (zC ?_))
  refine qM (.map (some t)) ?_
  refine qM (vJ (wl.getD ((wl.length : Int) - 1).toNat 0)) ?_
  refine q0 rfl rfl rfl (qO (val := (fun v : Bool => Value.bool v)) (k := (wl.getD ((wl.length : Int) - 1).toNat 0)) (v := true) (key_int Tryz.underlying3) Tryz.underlying147 rfl rfl rfl a4.pins a5 (fun he fe db bh hg => ?_))
  have bi := a4.write db bh ((yC d7))
  have ff := bf.keptA bh (yM a5 bf).symm
  have fg := b9.keptA bh (yM a5 b9).symm
  have al := b8.kept bh db bb
  refine qe (zA (zB (zC ?_)))
  refine qM (.pointer (some ⟨p, 0, none⟩)) ?_
  refine qD rfl (yV rfl) ?_
  refine qD rfl (zJ (k := 0) rfl Tryz.underlying72 rfl nz66 rfl) ?_
  refine qD rfl (zK (u := b) ag66 rfl (al.bx.cell (o := 0) rfl)) ?_
  refine qM (vJ (wl.getD ((wl.length : Int) - 1).toNat 0)) ?_
  refine qD rfl (zG Tryz.underlying66 sz65 (v := b) rfl rfl al.ol.read (by omega) (by omega)) ?_
  obtain ⟨fh, dc, fi⟩ := nm_sl (al.ol.at (z := (wl.getD ((wl.length : Int) - 1).toNat 0)) (by omega) (by omega)) (j := (wl.getD ((wl.length : Int) - 1).toNat 0).toNat) rfl
  rw [mapl_getD] at dc
  have hh := dc.max
  refine qD rfl (fi ag65 rfl (Gadd.pins bi.pins b)) ?_
  refine qM fh ?_
  refine qe (zA (zB (zB (zC ?_))))
  refine qM (.bool true) ?_
  refine qe (zA ?_)
  refine qR rfl rfl ?_
  refine zC ?_
  refine qM (.pointer (some ⟨p, 0, none⟩)) ?_
  refine qD rfl (yV rfl) ?_
  refine qD rfl (zJ (k := 1) rfl Tryz.underlying72 rfl nz66 rfl) ?_
  refine qD rfl (zK (u := h) ag66 rfl (al.bx.cell (o := 1) rfl)) ?_
  refine qM (vJ (wl.getD ((wl.length : Int) - 1).toNat 0)) ?_
  refine qD rfl (zG Tryz.underlying66 sz65 (v := h) rfl rfl al.rr.read (by omega) (by omega)) ?_
  obtain ⟨ca, cb, fj⟩ := nm_sl (al.rr.at (z := (wl.getD ((wl.length : Int) - 1).toNat 0)) (by omega) (by omega)) (j := (wl.getD ((wl.length : Int) - 1).toNat 0).toNat) rfl
  rw [mapr_getD] at cb
  have hl := cb.max
  refine qD rfl (fj ag65 rfl (Gadd.pins bi.pins h)) ?_
  refine qM ca ?_
  refine qe (zA (zB (zC ?_)))
  refine qM (.pointer (some ⟨p, 0, none⟩)) ?_
  refine qM (vJ f) ?_
  refine qM (vJ (wl.getD ((wl.length : Int) - 1).toNat 0)) ?_
  refine qM (.bool true) ?_
  refine qM ca ?_
  refine qI rfl (zI (vs := [(.pointer (some ⟨p, 0, none⟩)), (vJ f), (vJ (wl.getD ((wl.length : Int) - 1).toNat 0)), (.bool true), ca]) Tryz.func188 nm188 rfl rfl rfl ?_)
  refine Calls.mono (through_spec bi.pins al ak (lf := true) (e9.same s) (hpa.same s) cb (by rw [if_pos rfl]) (jH ak (hpa.same s)).2) ?_
  rintro _ hn ⟨g, c, cc, rfl, fk, ap, bj, cd, bk, aq⟩
  refine ⟨_, rfl, ?_⟩
  have af := bi.trans aq (fun i hi => (PIn.o a0) i hi)
  have ce := ff.extS aq (notO (NP.ho ao))
  have bl := fg.extS aq (notO (NP.ho a7))
  have cf := fe.extS aq (xX (NP.ho bb))
  have hp := cd.len
  have hq : (c.ns.map Nd.l).length = c.ns.length ∧ (c.ns.map Nd.r).length = c.ns.length := ⟨List.length_map .., List.length_map ..⟩
  have hr : c.bs.length = c.ns.length ∧ c.ns.length ≤ 1048576 := ⟨bj.ar.ok.len, bj.ar.ok.lim⟩
  have hs := congrArg List.length bk.1
  have dd := thr_same s fk
  refine qM (vJ g) ?_
  refine qe (zA ?_)
  refine zW ?_
  refine zB (zC ?_)
  refine qM (vJ g) ?_
  refine qD rfl (yT rfl rfl) ?_
  refine qM (.bool (decide ((g : Int) < 0))) ?_
  refine qe (zA ?_)
  refine zZ (p := (g : Int) < 0) rfl rfl (fun de => ?_) (fun de => ?_)
  ·skip
   refine zC ?_
   refine qM kv ?_
   refine qM (vJ (wl.getD ((wl.length : Int) - 1).toNat 0)) ?_
   refine qI rfl (yZ (E := eInt) (e := 3) [(vJ (wl.getD ((wl.length : Int) - 1).toNat 0))] [wl.getD ((wl.length : Int) - 1).toNat 0] Tryz.underlying65 sz3 zr3 (by exact xU (by rfl)) (xM (by rfl)) rfl rfl rfl rfl (by decide) af.pins (fun df fl fm dg a8 ht => ?_))
   have cg := af.step dg a8
   have ch := ce.below a8
   have dh := bl.below a8
   have di := cf.below a8
   have dj := ap.below a8 dg
   have fn : Own eInt 3 cc fl w.heap.size df ([wl.getD ((wl.length : Int) - 1).toNat 0]) := fm.weaken af.size
   refine qI rfl (oA (E := eInt) (v := kv) (u := df) 8 Tryz.underlying65 ap3 (by decide) rfl rfl cg.pins ch fn.src (cg.size) (fun ci hu fo dk bm dl => ?_))
   have fp := cg.write dk bm ((yH ch))
   have fq := dh.keptA bm a6
   have fr := di.kept bm (yM di ch)
   have fs := dj.kept bm dk ao
   have ft : Apart ae.ownBlock ci.ownBlock := zF a6 dl dh.lt
   have fu := np_app ao dj dl
   have hv : (kept ++ ([wl.getD ((wl.length : Int) - 1).toNat 0])).length = kept.length + 1 := List.length_append
   refine qM ci ?_
   refine qe ?_
   refine zY ?_
   refine zY ?_
   refine zX ?_
   have htl : (wl.take ((wl.length : Int) - 1).toNat).length = ((wl.length : Int) - 1).toNat := by rw [List.length_take]; omega
   have au := (hrd.pop hpm).kept (hsn.no bg) (thr_no dd de)
   have hcl := au.len
   have hsl : (ss ++ [(wl.getD ((wl.length : Int) - 1).toNat 0)]).length = ss.length + 1 := by rw [List.length_append]; rfl
   refine ⟨_, ?_, _, rfl, _, ae, wl.take ((wl.length : Int) - 1).toNat, ci, kept ++ [(wl.getD ((wl.length : Int) - 1).toNat 0)], putE sn (wl.getD ((wl.length : Int) - 1).toNat 0) true, ss ++ [(wl.getD ((wl.length : Int) - 1).toNat 0)], c, cc, (pS 9 (pS 8 (pS 7 (pS 6 (pS 2 (pS 1 (pU 0))))))), rfl, fp, (Pin.le_trans b7 aq.le), au, hsn.put, (by omega), fq, fo, ft, fr, fs, bj, (PX.trans an cd), (zN s bk), a7, fu⟩
   omega
  refine zB (zC ?_)
  refine qM (.bool true) ?_
  refine qM (.bool true) ?_
  refine qe (zA ?_)
  refine qR rfl rfl ?_
  refine zC ?_
  have hti := thr_info ab hpa dd (by omega)
  have hw := hti.1.1
  have hx := hti.1.2
  have hot := ol_len ab (lf := true) hti.1
  have hoe : (c.ns.getD (g).toNat default).l = ol a true g := by rw [(zN s bk).1]; unfold ol; rw [if_pos rfl]
  have hy : (c.ns.getD (g).toNat default).l.length ≤ 1048576 := by rw [hoe]; exact hot
  have h0 : (wl.take ((wl.length : Int) - 1).toNat).length = ((wl.length : Int) - 1).toNat := by rw [List.length_take]; omega
  refine qM ae ?_
  refine qM (.pointer (some ⟨p, 0, none⟩)) ?_
  refine qD rfl (yV rfl) ?_
  refine qD rfl (zJ (k := 0) rfl Tryz.underlying72 rfl nz66 rfl) ?_
  refine qD rfl (zK (u := b) ag66 rfl (ap.bx.cell (o := 0) rfl)) ?_
  refine qM (vJ g) ?_
  refine qD rfl (zG Tryz.underlying66 sz65 (v := b) rfl rfl ap.ol.read (by omega) (by omega)) ?_
  obtain ⟨fv, cj, fw⟩ := nm_sl (ap.ol.at (z := g) (by omega) (by omega)) (j := (g).toNat) rfl
  rw [mapl_getD] at cj
  have h1 := cj.max
  refine qD rfl (fw ag65 rfl (Gadd.pins af.pins b)) ?_
  refine qI rfl (oA (E := eInt) (v := ae) (u := fv) 8 Tryz.underlying65 ap3 (by decide) rfl rfl af.pins bl ((cj.mono (Pin.le_refl _)).src af.pins (by decide)) (af.size) (fun ck h2 fx dm bn dn => ?_))
  have fy := af.write dm bn ((yH bl))
  have fz := ce.keptA bn a6.symm
  have f0 := cf.kept bn (yM cf bl)
  have f1 := ap.kept bn dm a7
  have f2 : Apart kv.ownBlock ck.ownBlock := zF a6.symm dn ce.lt
  have f3 := np_app a7 ap dn
  have h3 : ((wl.take (((wl.length : Int) - 1).toNat)) ++ ((c.ns.getD (g).toNat default).l)).length = (wl.take (((wl.length : Int) - 1).toNat)).length + ((c.ns.getD (g).toNat default).l).length := List.length_append
  refine qM ck ?_
  refine qe ?_
  refine zY ?_
  refine zY ?_
  refine zX ?_
  have htl : (wl.take ((wl.length : Int) - 1).toNat).length = ((wl.length : Int) - 1).toNat := by rw [List.length_take]; omega
  have au := (hrd.pop hpm).pass_on ab (hsn.no bg) hti.1 hti.2.1 hti.2.2
  have hcl := au.len
  have hsl : (ss ++ [(wl.getD ((wl.length : Int) - 1).toNat 0)]).length = ss.length + 1 := by rw [List.length_append]; rfl
  have hal : ((wl.take (((wl.length : Int) - 1).toNat)) ++ ((c.ns.getD (g).toNat default).l)).length = ((wl.length : Int) - 1).toNat + (c.ns.getD (g).toNat default).l.length := by rw [List.length_append, htl]
  rw [← hoe] at au
  refine ⟨_, ?_, _, rfl, _, ck, (wl.take (((wl.length : Int) - 1).toNat)) ++ ((c.ns.getD (g).toNat default).l), kv, kept, putE sn (wl.getD ((wl.length : Int) - 1).toNat 0) true, ss ++ [(wl.getD ((wl.length : Int) - 1).toNat 0)], c, cc, (pS 9 (pS 8 (pS 7 (pS 6 (pS 2 (pS 1 (pU 0))))))), rfl, fy, (Pin.le_trans b7 aq.le), au, hsn.put, (by omega), fx, fz, f2.symm, f0, f1, bj, (PX.trans an cd), (zN s bk), f3, ao⟩
  omega
 refine wp_exit ?_
 refine zV ?_
 refine yI ?_
 refine yD ?_
 refine zA (zB (zC ?_))
 refine qM kv ?_
 refine qM (.pointer (some ⟨p, 0, none⟩)) ?_
 refine qM kv ?_
 refine qM (.bool true) ?_
 obtain ⟨h4, f4, cl, dp, f5⟩ := bf.sealed a4
 have dq := b8.moreO f4 f5 ao
 refine qI rfl (zI (vs := [(.pointer (some ⟨p, 0, none⟩)), kv, (.bool true)]) Tryz.func190 nm190 rfl rfl rfl ?_)
 refine Calls.mono (idominated_spec cl.pins dq ak (lf := true) dp (by omega) (fun i hi => ((hrd.all _ (Or.inr ((hrd.keep _).1 (yB hi)).1)).1).same s)) ?_
 rintro _ h5 ⟨dr, ag, h6, rfl, ds, f6, cm, cn, co, dt⟩
 refine ⟨_, rfl, ?_⟩
 have f7 := dq.new (x := dr.ownBlock) (fun k hk => (ds.lt k hk).1)
 have f8 := cl.trans dt (fun i hi => (PIn.o a0) i hi)
 have h7 := cn.len
 have h8 : (ag.ns.map Nd.l).length = ag.ns.length ∧ (ag.ns.map Nd.r).length = ag.ns.length := ⟨List.length_map .., List.length_map ..⟩
 have h9 : ag.bs.length = ag.ns.length ∧ ag.ns.length ≤ 1048576 := ⟨cm.ar.ok.len, cm.ar.ok.lim⟩
 have ia := congrArg List.length co.1
 have f9 := ds.weaken cl.size
 obtain ⟨ib, du, cp, ga, gb⟩ := f9.sealed f8
 have dv := f6.moreO du gb f7
 refine qI rfl (zI (vs := [kv, dr]) Tryz.func189 nm189 rfl rfl rfl ?_)
 refine Calls.mono (without_spec cp.pins (dp.mono (Pin.le_trans dt.le du)) ga (by omega) (dom_pw _) (fun z hz => by obtain ⟨k, _, e, _⟩ := (dom_mem _).1 hz; omega)) ?_
 rintro _ gc ⟨a9, dw, rfl, dx, dy⟩
 refine ⟨_, rfl, ?_⟩
 have gd := cp.tr dy
 have ge := dv.ext dy
 have gf := dv.new (x := a9.ownBlock) (fun k hk => (dx.lt k hk).1)
 have gg : Own eInt 3 dw gc w.heap.size a9 (woL kept (domL (gX d kept) true kept.length kept.length) kept.length) := dx.weaken cp.size
 refine qM a9 ?_
 refine qe (zA ?_)
 refine wp_ret ?_
 refine zP ?_
 refine zO (v := a9) rfl rfl rfl ?_
 have hwz : wl = [] := List.eq_nil_of_length_eq_zero (by omega)
 rw [hwz] at hrd
 have hre := (re_done ak (hrd.same s) (xN s).symm).same co
 have hul := unc_px (PX.trans an cn) N
 exact ⟨a9, _, b, h, aa, ag, dw, rfl, ge, cm, (PX.trans (PX.trans ai an) cn), PIn.lo a0 rfl, gd, gg, gf, hre, (by have := congrArg List.length ((zN s co)).1; omega)⟩

end CN2
end Go.Proofs.YtfnginkcmcfdfaaGreatDoor

set_option maxRecDepth 20000
set_option maxHeartbeats 2000000
namespace Go.Proofs.YtfnginkcmcfdfaaGreatDoor
namespace CN3
open Go.RowKit Go.GL Go.Proofs
open Go.Proofs.YtfnginkcmcfdfaaGreatDoor.B1
open Go.Proofs.YtfnginkcmcfdfaaGreatDoor.K1
open Go.Proofs.YtfnginkcmcfdfaaGreatDoor.PO1
open Go.Proofs.YtfnginkcmcfdfaaGreatDoor.PL1
open Go.Proofs.YtfnginkcmcfdfaaGreatDoor.DI1
open Go.Proofs.YtfnginkcmcfdfaaGreatDoor.RI1
open Go.Proofs.YtfnginkcmcfdfaaGreatDoor.CN1













theorem reduced_f {w : World} {G : Pin} {L R B : Value} {q : PSt} {f : Int} {p : Nat} {mm : PM} {N m : Nat} (hP : Pins G w) (hpk : Pk 65 3 G w p L R B mm q) (hok : PoolOk q) (hf : PlaceOk q f) (hfN : f < (N : Int)) (hbud : q.ns.length + unc q N < 1048576) (ih : CanP N m p mm) (hm : f.toNat < m + 1) :
  Calls Tryz.prog 154 [(.pointer (some ⟨p, 0, none⟩)), (vJ f), (.bool false)].toArray w fun e w' => ∃ (u : Value) (zs : List Int) (L' R' B' : Value) (q' : PSt) (G' : Pin), e = .returned u ∧ Pk 65 3 G' w' p L' R' B' mm q' ∧ PoolOk q' ∧ PX q q' ∧ PLo w p L R B mm L' R' B' ∧ Ext (inP p L R B mm) G w G' w' ∧ Own eInt 3 G' w' w.heap.size u zs ∧ NP p L' R' B' mm u.ownBlock ∧ ReOk q' false f zs ∧ q'.ns.length + unc q' N ≤ q.ns.length + unc q N := by
 refine zT (n := 120) Tryz.func154 Tryz.ntmps154 rfl rfl ?_
 have bn : Ext (inP p L R B mm) G w G w := Ext.refl hP
 have hpin : PIn w (inP p L R B mm) p L R B mm := PIn.self
 have gb : (q.ns.map Nd.l).length = q.ns.length ∧ (q.ns.map Nd.r).length = q.ns.length := ⟨List.length_map .., List.length_map ..⟩
 have gc : q.bs.length = q.ns.length ∧ q.ns.length ≤ 1048576 := ⟨hok.ar.ok.len, hok.ar.ok.lim⟩
 have gd := hf.1
 have ge := hf.2
 have dx := ol_len hok (lf := false) hf
 have gf : (q.ns.getD (f).toNat default).r.length ≤ 1048576 := dx
 refine zB (zC ?_)
 refine qM (.slice none 0 0) ?_
 refine qe (zA (zB (zC ?_)))
 refine qI rfl (xD (E := eInt) (e := 3) Tryz.underlying65 sz3 bn.pins (fun u3 w4 dz cp cq d0 => ?_))
 have bo := bn.step cp cq
 have cr := hpk.below cq cp
 have d1 := hpk.new (x := u3.ownBlock) (fun k hk => by rw [d0] at hk; cases hk; exact Nat.le_refl _)
 have d2 : Own eInt 3 G w4 w.heap.size u3 ([]) := dz.weaken bn.size
 refine qI rfl (o_makeMap (fun k : Int => Value.int .i64 k) (fun v : Bool => Value.bool v) bo.pins (fun t gg gh d3 cs bp => ?_))
 have bq := bo.step cs bp
 have ct := d2.below bp
 have cu := cr.below bp cs
 have d4 := cr.new (x := some t) (fun k hk => by cases hk; omega)
 have d5 : w.heap.size ≤ t := by have := bo.size; omega
 refine qI rfl (xD (E := eInt) (e := 3) Tryz.underlying65 sz3 bq.pins (fun y d6 d7 cv a8 cw => ?_))
 have cx := bq.step cv a8
 have d8 := ct.below a8
 have d9 := d3.below a8
 have a9 := cu.below a8 cv
 have ea : Apart y.ownBlock u3.ownBlock := zH cw ct.lt
 have eb := cu.new (x := y.ownBlock) (fun k hk => by rw [cw] at hk; cases hk; exact Nat.le_refl _)
 have ec : Own eInt 3 G d6 w.heap.size y ([]) := d7.weaken bq.size
 refine qM u3 ?_
 refine qM (.map (some t)) ?_
 refine qM y ?_
 refine qe (zA (zB (zC ?_)))
 refine qM (.pointer (some ⟨p, 0, none⟩)) ?_
 refine qD rfl (yV rfl) ?_
 refine qD rfl (zJ (k := 1) rfl Tryz.underlying72 rfl nz66 rfl) ?_
 refine qD rfl (zK (u := R) ag66 rfl (a9.bx.cell (o := 1) rfl)) ?_
 refine qM (vJ f) ?_
 refine qD rfl (zG Tryz.underlying66 sz65 (v := R) rfl rfl a9.rr.read (by omega) (by omega)) ?_
 obtain ⟨au, av, ed⟩ := nm_sl (a9.rr.at (z := f) (by omega) (by omega)) (j := (f).toNat) rfl
 rw [mapr_getD] at av
 have gi := av.max
 refine qD rfl (ed ag65 rfl (Gadd.pins cx.pins R)) ?_
 refine qM au ?_
 refine qe (zA (zB (zB (zC ?_))))
 refine qM (.bool false) ?_
 refine qe (zA ?_)
 refine xW rfl rfl ?_
 refine wp_skip ?_
 refine zA (zB (zB (zC ?_)))
 refine qM au ?_
 refine qD rfl (zM Tryz.underlying65 (v := au) rfl av) ?_
 refine qM (vJ 0) ?_
 refine qe (zA ?_)
 refine zW ?_
 refine yR (fun (k : Nat) (en : Nat → Value) (W : World) => ∃ (aw : Nat → Value) (j : Nat) (qv : Value) (qs : List Int) (g : Value) (h : Value) (aa : Value) (a : PSt) (ac : Pin), en = (upd (upd (upd (upd (upd (upd (upd (upd (upd (upd aw 0 (.pointer (some ⟨p, 0, none⟩))) 1 (vJ f)) 2 (.bool false)) 6 (.slice none 0 0)) 7 qv) 8 (.map (some t))) 9 y) 34 au) 35 (vJ (((q.ns.getD (f).toNat default).r).length : Int))) 36 (vJ (j : Int))) ∧ k = (q.ns.getD (f).toNat default).r.length - j ∧ Ext (inP p L R B mm) G w ac W ∧ Pin.le G ac ∧ (j ≤ (q.ns.getD (f).toNat default).r.length) ∧ (QOk q a (q.ns.getD (f).toNat default).r qs j) ∧ (a.ns.length + unc a N ≤ q.ns.length + unc q N) ∧ (Own eInt 3 ac W w.heap.size qv (qs)) ∧ (Own eInt 3 ac W w.heap.size y ([])) ∧ (Apart qv.ownBlock y.ownBlock) ∧ (Mp (fun k : Int => Value.int .i64 k) (fun v : Bool => Value.bool v) W t ([])) ∧ (Pk 65 3 ac W p g h aa mm a) ∧ (PIn w ((inP p L R B mm)) p g h aa mm) ∧ (PoolOk a) ∧ (PX q a) ∧ (NP p g h aa mm qv.ownBlock) ∧ (NP p g h aa mm y.ownBlock) ∧ (NP p g h aa mm (some t))) _ ⟨_, 0, u3, [], L, R, B, q, G, (pS 36 (pS 35 (pS 34 (pS 9 (pS 8 (pS 7 (pS 6 (pS 2 (pS 1 (pU 0)))))))))), rfl, cx, Pin.le_refl _, Nat.zero_le _, QOk.start, Nat.le_refl _, d8, ec, ea.symm, d9, a9, hpin, hok, (PX.refl _), d1, eb, d4⟩ ?_
 rintro gj _ gk ⟨aw, j, qv, qs, g, h, aa, a, ac, rfl, gl, ax, cy, hj, hqo, hbu, br, bt, bu, bv, cz, ay, ab, ah, bw, bz, ba⟩
 have gm := ah.len
 have gn : (a.ns.map Nd.l).length = a.ns.length ∧ (a.ns.map Nd.r).length = a.ns.length := ⟨List.length_map .., List.length_map ..⟩
 have gp : a.bs.length = a.ns.length ∧ a.ns.length ≤ 1048576 := ⟨ab.ar.ok.len, ab.ar.ok.lim⟩
 have gq := hqo.len
 refine zB (zC ?_)
 refine qD rfl (yT rfl rfl) ?_
 refine qe (zA (zB ?_))
 refine zZ (p := ((j : Int) : Int) < (((q.ns.getD (f).toNat default).r).length : Int)) rfl rfl (fun ee => ?_) (fun ee => ?_)
 ·skip
  have hmj : (q.ns.getD (f).toNat default).r.getD j 0 ∈ (q.ns.getD (f).toNat default).r := yB (show j < (q.ns.getD (f).toNat default).r.length by omega)
  have hoj := (jH hok hf).2 _ hmj
  have gr := hoj.1
  have hoz := ((xE hok.ar.opts (show (f).toNat < q.ns.length by omega)).2 _ hmj).2
  refine wp_skip ?_
  refine zA (zB ?_)
  refine zW ?_
  refine zB (zC ?_)
  refine qD rfl (zG Tryz.underlying65 sz3 (v := au) rfl rfl av (by omega) (by omega)) ?_
  refine qD rfl (zE (r := ((q.ns.getD (f).toNat default).r).getD j 0) rfl ag3 (z := (j : Int)) rfl av (Pins.of_le ax.pins cy) (by omega) (by omega)) ?_
  refine qM (vJ (((q.ns.getD (f).toNat default).r).getD j 0)) ?_
  refine qe (zA (zC ?_))
  refine qM qv ?_
  refine qM (.pointer (some ⟨p, 0, none⟩)) ?_
  refine qM (vJ (((q.ns.getD (f).toNat default).r).getD j 0)) ?_
  refine qI rfl (zI (vs := [(.pointer (some ⟨p, 0, none⟩)), (vJ (((q.ns.getD (f).toNat default).r).getD j 0))]) Tryz.func124 nm124 rfl rfl rfl ?_)
  refine Calls.mono (ih ax.pins cz ab (ah.place hoj) (by omega) (by omega) (by omega)) ?_
  rintro _ gs ⟨az, ef, eg, eh, ad, c0, rfl, ei, bb, b0, bc, a0, ej, ek, el, em⟩
  refine ⟨_, rfl, ?_⟩
  have b1 := ax.trans a0 ay
  have eo := br.extS a0 bw
  have c1 := NP.call bw bc (jB br)
  have ep := bt.extS a0 bz
  have eq := NP.call bz bc (jB bt)
  have er := bv.extS a0 (NP.notb ba)
  have es := NP.call ba bc (fun j hj => by cases hj; exact bv.lt)
  have et := PIn.call ay bc ax.size
  have gt := b0.len
  have gu : (ad.ns.map Nd.l).length = ad.ns.length ∧ (ad.ns.map Nd.r).length = ad.ns.length := ⟨List.length_map .., List.length_map ..⟩
  have gv : ad.bs.length = ad.ns.length ∧ ad.ns.length ≤ 1048576 := ⟨bb.ar.ok.len, bb.ar.ok.lim⟩
  refine qI rfl (yZ (E := eInt) (e := 3) [(vJ az)] [az] Tryz.underlying65 sz3 zr3 (by exact xU (by rfl)) (xM (by rfl)) rfl rfl rfl rfl (by decide) b1.pins (fun c2 eu ev c3 a1 gw => ?_))
  have b2 := b1.step c3 a1
  have b3 := eo.below a1
  have c4 := ep.below a1
  have c5 := er.below a1
  have c6 := ei.below a1 c3
  have ew : Own eInt 3 c0 eu w.heap.size c2 ([az]) := ev.weaken b1.size
  refine qI rfl (oA (E := eInt) (v := qv) (u := c2) 8 Tryz.underlying65 ap3 (by decide) rfl rfl b2.pins b3 ew.src (b2.size) (fun b4 gx ex c7 bd c8 => ?_))
  have ey := b2.write c7 bd ((yH b3))
  have ez := c4.keptA bd bu.symm
  have e0 := c5.kept bd (yM c5 b3)
  have e1 := c6.kept bd c7 c1
  have e2 : Apart y.ownBlock b4.ownBlock := zF bu.symm c8 c4.lt
  have e3 := np_app c1 c6 c8
  have gy : (qs ++ ([az])).length = qs.length + 1 := List.length_append
  refine qM b4 ?_
  refine qe ?_
  refine zY ?_
  refine zA (zC ?_)
  refine qD rfl (yF rfl rfl (by omega)) ?_
  refine qM (vJ ((j : Int) + 1)) ?_
  refine qe ?_
  refine zX ?_
  refine ⟨_, ?_, _, rfl, _, j + 1, b4, qs ++ ([az]), ef, eg, eh, ad, c0, (pS 36 (pS 35 (pS 34 (pS 9 (pS 8 (pS 7 (pS 6 (pS 2 (pS 1 (pU 0)))))))))), rfl, ey, (Pin.le_trans cy a0.le), (by omega), (hqo.step hok ab bb ah b0 hoj ej ek el), (by have := em; omega), ex, ez, e2.symm, e0, e1, et, bb, (PX.trans ah b0), e3, eq, es⟩
  omega
 refine wp_exit ?_
 refine zV ?_
 refine yI ?_
 refine yD ?_
 refine zA (zB ?_)
 refine zW ?_
 have hjn : j = (q.ns.getD (f).toNat default).r.length := by omega
 rw [hjn] at hqo
 have e4 : RdW a false (pd a f) qs [] [] := by rw [ah.pd hok ab hf]; exact hqo.rd (lf := false) hok hf (by unfold ol; rw [if_neg Bool.false_ne_true])
 have hq2l := hqo.len
 have e5 := ah.place hf
 refine yR (fun (k : Nat) (en : Nat → Value) (W : World) => ∃ (aw : Nat → Value) (wv : Value) (wl : List Int) (kv : Value) (kept : List Int) (sn : List (Int × Bool)) (ss : List Int) (c : PSt) (ai : Pin), en = (upd (upd (upd (upd (upd (upd (upd aw 0 (.pointer (some ⟨p, 0, none⟩))) 1 (vJ f)) 2 (.bool false)) 6 (.slice none 0 0)) 7 wv) 8 (.map (some t))) 9 kv) ∧ k = (a.ns.length - ss.length) * 1048577 + wl.length ∧ Ext (inP p L R B mm) G w ai W ∧ Pin.le ac ai ∧ (RdW a false (pd a f) wl ss kept) ∧ (SnOk sn ss) ∧ (wl.length ≤ 1048576 + 1048576 * ss.length) ∧ (Own eInt 3 ai W w.heap.size wv (wl)) ∧ (Own eInt 3 ai W w.heap.size kv (kept)) ∧ (Apart wv.ownBlock kv.ownBlock) ∧ (Mp (fun k : Int => Value.int .i64 k) (fun v : Bool => Value.bool v) W t (sn)) ∧ (Pk 65 3 ai W p g h aa mm c) ∧ (PoolOk c) ∧ (PX a c) ∧ (c.ns = a.ns ∧ c.bs = a.bs) ∧ (NP p g h aa mm wv.ownBlock) ∧ (NP p g h aa mm kv.ownBlock)) _ ⟨_, qv, qs, y, [], [], [], a, ac, (pS 9 (pS 8 (pS 7 (pS 6 (pS 2 (pS 1 (pU 0))))))), rfl, ax, Pin.le_refl _, e4, SnOk.start, (by simp; omega), br, bt, bu, bv, cz, ab, (PX.refl _), ⟨rfl, rfl⟩, bw, bz⟩ ?_
 rintro gz _ g0 ⟨aw, wv, wl, kv, kept, sn, ss, c, ai, rfl, g1, a2, b5, hrd, hsn, hwl, ak, be, e6, a3, b6, aj, al, s, e7, am⟩
 have g2 := al.len
 have g3 : (c.ns.map Nd.l).length = c.ns.length ∧ (c.ns.map Nd.r).length = c.ns.length := ⟨List.length_map .., List.length_map ..⟩
 have g4 : c.bs.length = c.ns.length ∧ c.ns.length ≤ 1048576 := ⟨aj.ar.ok.len, aj.ar.ok.lim⟩
 have hrl := hrd.len
 refine zB (zB (zC ?_))
 refine qM wv ?_
 refine qD rfl (zM Tryz.underlying65 (v := wv) rfl ak.read) ?_
 refine qD rfl (r_gtr rfl rfl) ?_
 refine qe (zA ?_)
 refine zZ (p := (0 : Int) < (wl.length : Int)) rfl rfl (fun e8 => ?_) (fun e8 => ?_)
 ·skip
  have hpm : ((wl.length : Int) - 1).toNat + 1 = wl.length := by omega
  have hpa := hrd.at_ hpm
  have g5 := hpa.1
  have g6 := hpa.2
  refine wp_skip ?_
  refine zA ?_
  refine zW ?_
  refine zB (zC ?_)
  refine qM wv ?_
  refine qM wv ?_
  refine qD rfl (zM Tryz.underlying65 (v := wv) rfl ak.read) ?_
  refine qD rfl (qB rfl rfl (by omega)) ?_
  refine qD rfl (zG Tryz.underlying65 sz3 (v := wv) rfl rfl ak.read (by omega) (by omega)) ?_
  refine qD rfl (zE (r := wl.getD ((wl.length : Int) - 1).toNat 0) rfl ag3 (z := ((wl.length : Int) - 1)) rfl ak.read (Gadd.pins a2.pins wv) (by omega) (by omega)) ?_
  refine qM (vJ (wl.getD ((wl.length : Int) - 1).toNat 0)) ?_
  refine qe (zA (zB (zC ?_)))
  refine qM wv ?_
  refine qM wv ?_
  refine qD rfl (zM Tryz.underlying65 (v := wv) rfl ak.read) ?_
  refine qD rfl (qB rfl rfl (by omega)) ?_
  obtain ⟨ae, b7, c9, e9⟩ := own_cut ak (((wl.length : Int) - 1).toNat) ((wl.length : Int) - 1) (by omega) rfl (by omega) (by omega)
  have a4 : Apart ae.ownBlock kv.ownBlock := by rw [c9]; exact e6
  have a5 := (show NP _ _ _ _ _ ae.ownBlock by rw [c9]; exact e7)
  refine qD rfl (e9 Tryz.underlying65 sz3 rfl rfl rfl) ?_
  refine qM ae ?_
  refine qe (zA (zB (zB (zC ?_))))
  refine qM (.map (some t)) ?_
  refine qM (vJ (wl.getD ((wl.length : Int) - 1).toNat 0)) ?_
  refine qD rfl (run_look1_bool (k := (wl.getD ((wl.length : Int) - 1).toNat 0)) (key_int Tryz.underlying3) Tryz.underlying147 zr4 a3 rfl rfl) ?_
  refine qe (zA ?_)
  refine c_if rfl rfl (fun bf => ?_) (fun bf => ?_)
  ·skip
   refine wp_exit ?_
   refine zV ?_
   refine yD ?_
   refine zX ?_
   have htl : (wl.take ((wl.length : Int) - 1).toNat).length = ((wl.length : Int) - 1).toNat := by rw [List.length_take]; omega
   refine ⟨_, ?_, _, rfl, _, ae, wl.take ((wl.length : Int) - 1).toNat, kv, kept, sn, ss, c, ai, (pS 9 (pS 8 (pS 7 (pS 6 (pS 2 (pS 1 (pU 0))))))), rfl, a2, b5, ((hrd.pop hpm).seen (hsn.yes bf)), hsn, (by omega), b7, be, a4, a3, b6, aj, al, s, a5, am⟩
   omega
  refine wp_skip ?_
  refine zA (zB (zC ?_))
  refine qM (.map (some t)) ?_
  refine qM (vJ (wl.getD ((wl.length : Int) - 1).toNat 0)) ?_
  refine q0 rfl rfl rfl (qO (val := (fun v : Bool => Value.bool v)) (k := (wl.getD ((wl.length : Int) - 1).toNat 0)) (v := true) (key_int Tryz.underlying3) Tryz.underlying147 rfl rfl rfl a2.pins a3 (fun g7 fa da bg g8 => ?_))
  have b8 := a2.write da bg ((yC d5))
  have fb := be.keptA bg (yM a3 be).symm
  have fc := b7.keptA bg (yM a3 b7).symm
  have bh := b6.kept bg da ba
  refine qe (zA (zB (zC ?_)))
  refine qM (.pointer (some ⟨p, 0, none⟩)) ?_
  refine qD rfl (yV rfl) ?_
  refine qD rfl (zJ (k := 0) rfl Tryz.underlying72 rfl nz66 rfl) ?_
  refine qD rfl (zK (u := g) ag66 rfl (bh.bx.cell (o := 0) rfl)) ?_
  refine qM (vJ (wl.getD ((wl.length : Int) - 1).toNat 0)) ?_
  refine qD rfl (zG Tryz.underlying66 sz65 (v := g) rfl rfl bh.ol.read (by omega) (by omega)) ?_
  obtain ⟨b9, ca, fd⟩ := nm_sl (bh.ol.at (z := (wl.getD ((wl.length : Int) - 1).toNat 0)) (by omega) (by omega)) (j := (wl.getD ((wl.length : Int) - 1).toNat 0).toNat) rfl
  rw [mapl_getD] at ca
  have g9 := ca.max
  refine qD rfl (fd ag65 rfl (Gadd.pins b8.pins g)) ?_
  refine qM b9 ?_
  refine qe (zA (zB (zB (zC ?_))))
  refine qM (.bool false) ?_
  refine qe (zA ?_)
  refine xW rfl rfl ?_
  refine wp_skip ?_
  refine zA (zB (zC ?_))
  refine qM (.pointer (some ⟨p, 0, none⟩)) ?_
  refine qM (vJ f) ?_
  refine qM (vJ (wl.getD ((wl.length : Int) - 1).toNat 0)) ?_
  refine qM (.bool false) ?_
  refine qM b9 ?_
  refine qI rfl (zI (vs := [(.pointer (some ⟨p, 0, none⟩)), (vJ f), (vJ (wl.getD ((wl.length : Int) - 1).toNat 0)), (.bool false), b9]) Tryz.func188 nm188 rfl rfl rfl ?_)
  refine Calls.mono (through_spec b8.pins bh aj (lf := false) (e5.same s) (hpa.same s) ca (by rw [if_neg Bool.false_ne_true]) (jH aj (hpa.same s)).1) ?_
  rintro _ ha ⟨d, b, cb, rfl, fe, an, bi, cc, bj, ao⟩
  refine ⟨_, rfl, ?_⟩
  have af := b8.trans ao (fun i hi => (PIn.o ay) i hi)
  have cd := fb.extS ao (notO (NP.ho am))
  have bk := fc.extS ao (notO (NP.ho a5))
  have ce := fa.extS ao (xX (NP.ho ba))
  have hb := cc.len
  have hc : (b.ns.map Nd.l).length = b.ns.length ∧ (b.ns.map Nd.r).length = b.ns.length := ⟨List.length_map .., List.length_map ..⟩
  have hd : b.bs.length = b.ns.length ∧ b.ns.length ≤ 1048576 := ⟨bi.ar.ok.len, bi.ar.ok.lim⟩
  have he := congrArg List.length bj.1
  have db := thr_same s fe
  refine qM (vJ d) ?_
  refine qe (zA ?_)
  refine zW ?_
  refine zB (zC ?_)
  refine qM (vJ d) ?_
  refine qD rfl (yT rfl rfl) ?_
  refine qM (.bool (decide ((d : Int) < 0))) ?_
  refine qe (zA ?_)
  refine zZ (p := (d : Int) < 0) rfl rfl (fun dc => ?_) (fun dc => ?_)
  ·skip
   refine zC ?_
   refine qM kv ?_
   refine qM (vJ (wl.getD ((wl.length : Int) - 1).toNat 0)) ?_
   refine qI rfl (yZ (E := eInt) (e := 3) [(vJ (wl.getD ((wl.length : Int) - 1).toNat 0))] [wl.getD ((wl.length : Int) - 1).toNat 0] Tryz.underlying65 sz3 zr3 (by exact xU (by rfl)) (xM (by rfl)) rfl rfl rfl rfl (by decide) af.pins (fun dd ff fg de a6 hg => ?_))
   have cf := af.step de a6
   have cg := cd.below a6
   have df := bk.below a6
   have dg := ce.below a6
   have dh := an.below a6 de
   have fh : Own eInt 3 cb ff w.heap.size dd ([wl.getD ((wl.length : Int) - 1).toNat 0]) := fg.weaken af.size
   refine qI rfl (oA (E := eInt) (v := kv) (u := dd) 8 Tryz.underlying65 ap3 (by decide) rfl rfl cf.pins cg fh.src (cf.size) (fun ch hh fi di bl dj => ?_))
   have fj := cf.write di bl ((yH cg))
   have fk := df.keptA bl a4
   have fl := dg.kept bl (yM dg cg)
   have fm := dh.kept bl di am
   have fn : Apart ae.ownBlock ch.ownBlock := zF a4 dj df.lt
   have fo := np_app am dh dj
   have hl : (kept ++ ([wl.getD ((wl.length : Int) - 1).toNat 0])).length = kept.length + 1 := List.length_append
   refine qM ch ?_
   refine qe ?_
   refine zY ?_
   refine zY ?_
   refine zX ?_
   have htl : (wl.take ((wl.length : Int) - 1).toNat).length = ((wl.length : Int) - 1).toNat := by rw [List.length_take]; omega
   have ap := (hrd.pop hpm).kept (hsn.no bf) (thr_no db dc)
   have hcl := ap.len
   have hsl : (ss ++ [(wl.getD ((wl.length : Int) - 1).toNat 0)]).length = ss.length + 1 := by rw [List.length_append]; rfl
   refine ⟨_, ?_, _, rfl, _, ae, wl.take ((wl.length : Int) - 1).toNat, ch, kept ++ [(wl.getD ((wl.length : Int) - 1).toNat 0)], putE sn (wl.getD ((wl.length : Int) - 1).toNat 0) true, ss ++ [(wl.getD ((wl.length : Int) - 1).toNat 0)], b, cb, (pS 9 (pS 8 (pS 7 (pS 6 (pS 2 (pS 1 (pU 0))))))), rfl, fj, (Pin.le_trans b5 ao.le), ap, hsn.put, (by omega), fk, fi, fn, fl, fm, bi, (PX.trans al cc), (zN s bj), a5, fo⟩
   omega
  refine zB (zC ?_)
  refine qM (.bool false) ?_
  refine qM (.bool false) ?_
  refine qe (zA ?_)
  refine xW rfl rfl ?_
  refine zC ?_
  have hti := thr_info ab hpa db (by omega)
  have hn := hti.1.1
  have hp := hti.1.2
  have hot := ol_len ab (lf := false) hti.1
  have hoe : (b.ns.getD (d).toNat default).r = ol a false d := by rw [(zN s bj).1]; unfold ol; rw [if_neg Bool.false_ne_true]
  have hq : (b.ns.getD (d).toNat default).r.length ≤ 1048576 := by rw [hoe]; exact hot
  have hr : (wl.take ((wl.length : Int) - 1).toNat).length = ((wl.length : Int) - 1).toNat := by rw [List.length_take]; omega
  refine qM ae ?_
  refine qM (.pointer (some ⟨p, 0, none⟩)) ?_
  refine qD rfl (yV rfl) ?_
  refine qD rfl (zJ (k := 1) rfl Tryz.underlying72 rfl nz66 rfl) ?_
  refine qD rfl (zK (u := h) ag66 rfl (an.bx.cell (o := 1) rfl)) ?_
  refine qM (vJ d) ?_
  refine qD rfl (zG Tryz.underlying66 sz65 (v := h) rfl rfl an.rr.read (by omega) (by omega)) ?_
  obtain ⟨fp, ci, fq⟩ := nm_sl (an.rr.at (z := d) (by omega) (by omega)) (j := (d).toNat) rfl
  rw [mapr_getD] at ci
  have hs := ci.max
  refine qD rfl (fq ag65 rfl (Gadd.pins af.pins h)) ?_
  refine qI rfl (oA (E := eInt) (v := ae) (u := fp) 8 Tryz.underlying65 ap3 (by decide) rfl rfl af.pins bk ((ci.mono (Pin.le_refl _)).src af.pins (by decide)) (af.size) (fun cj ht fr dk bm dl => ?_))
  have fs := af.write dk bm ((yH bk))
  have ft := cd.keptA bm a4.symm
  have fu := ce.kept bm (yM ce bk)
  have fv := an.kept bm dk a5
  have fw : Apart kv.ownBlock cj.ownBlock := zF a4.symm dl cd.lt
  have fx := np_app a5 an dl
  have hu : ((wl.take (((wl.length : Int) - 1).toNat)) ++ ((b.ns.getD (d).toNat default).r)).length = (wl.take (((wl.length : Int) - 1).toNat)).length + ((b.ns.getD (d).toNat default).r).length := List.length_append
  refine qM cj ?_
  refine qe ?_
  refine zY ?_
  refine zY ?_
  refine zX ?_
  have htl : (wl.take ((wl.length : Int) - 1).toNat).length = ((wl.length : Int) - 1).toNat := by rw [List.length_take]; omega
  have ap := (hrd.pop hpm).pass_on ab (hsn.no bf) hti.1 hti.2.1 hti.2.2
  have hcl := ap.len
  have hsl : (ss ++ [(wl.getD ((wl.length : Int) - 1).toNat 0)]).length = ss.length + 1 := by rw [List.length_append]; rfl
  have hal : ((wl.take (((wl.length : Int) - 1).toNat)) ++ ((b.ns.getD (d).toNat default).r)).length = ((wl.length : Int) - 1).toNat + (b.ns.getD (d).toNat default).r.length := by rw [List.length_append, htl]
  rw [← hoe] at ap
  refine ⟨_, ?_, _, rfl, _, cj, (wl.take (((wl.length : Int) - 1).toNat)) ++ ((b.ns.getD (d).toNat default).r), kv, kept, putE sn (wl.getD ((wl.length : Int) - 1).toNat 0) true, ss ++ [(wl.getD ((wl.length : Int) - 1).toNat 0)], b, cb, (pS 9 (pS 8 (pS 7 (pS 6 (pS 2 (pS 1 (pU 0))))))), rfl, fs, (Pin.le_trans b5 ao.le), ap, hsn.put, (by omega), fr, ft, fw.symm, fu, fv, bi, (PX.trans al cc), (zN s bj), fx, am⟩
  omega
 refine wp_exit ?_
 refine zV ?_
 refine yI ?_
 refine yD ?_
 refine zA (zB (zC ?_))
 refine qM kv ?_
 refine qM (.pointer (some ⟨p, 0, none⟩)) ?_
 refine qM kv ?_
 refine qM (.bool false) ?_
 obtain ⟨hv, fy, ck, dm, fz⟩ := be.sealed a2
 have dn := b6.moreO fy fz am
 refine qI rfl (zI (vs := [(.pointer (some ⟨p, 0, none⟩)), kv, (.bool false)]) Tryz.func190 nm190 rfl rfl rfl ?_)
 refine Calls.mono (idominated_spec ck.pins dn aj (lf := false) dm (by omega) (fun i hi => ((hrd.all _ (Or.inr ((hrd.keep _).1 (yB hi)).1)).1).same s)) ?_
 rintro _ hw ⟨dp, ag, hx, rfl, dq, f0, cl, cm, cn, dr⟩
 refine ⟨_, rfl, ?_⟩
 have f1 := dn.new (x := dp.ownBlock) (fun k hk => (dq.lt k hk).1)
 have f2 := ck.trans dr (fun i hi => (PIn.o ay) i hi)
 have hy := cm.len
 have h0 : (ag.ns.map Nd.l).length = ag.ns.length ∧ (ag.ns.map Nd.r).length = ag.ns.length := ⟨List.length_map .., List.length_map ..⟩
 have h1 : ag.bs.length = ag.ns.length ∧ ag.ns.length ≤ 1048576 := ⟨cl.ar.ok.len, cl.ar.ok.lim⟩
 have h2 := congrArg List.length cn.1
 have f3 := dq.weaken ck.size
 obtain ⟨h3, ds, co, f4, f5⟩ := f3.sealed f2
 have dt := f0.moreO ds f5 f1
 refine qI rfl (zI (vs := [kv, dp]) Tryz.func189 nm189 rfl rfl rfl ?_)
 refine Calls.mono (without_spec co.pins (dm.mono (Pin.le_trans dr.le ds)) f4 (by omega) (dom_pw _) (fun z hz => by obtain ⟨k, _, e, _⟩ := (dom_mem _).1 hz; omega)) ?_
 rintro _ f6 ⟨a7, du, rfl, dv, dw⟩
 refine ⟨_, rfl, ?_⟩
 have f7 := co.tr dw
 have f8 := dt.ext dw
 have f9 := dt.new (x := a7.ownBlock) (fun k hk => (dv.lt k hk).1)
 have ga : Own eInt 3 du f6 w.heap.size a7 (woL kept (domL (gX c kept) false kept.length kept.length) kept.length) := dv.weaken co.size
 refine qM a7 ?_
 refine qe (zA ?_)
 refine wp_ret ?_
 refine zP ?_
 refine zO (v := a7) rfl rfl rfl ?_
 have hwz : wl = [] := List.eq_nil_of_length_eq_zero (by omega)
 rw [hwz] at hrd
 have hre := (re_done aj (hrd.same s) (xN s).symm).same cn
 have hul := unc_px (PX.trans al cm) N
 exact ⟨a7, _, g, h, aa, ag, du, rfl, f8, cl, (PX.trans (PX.trans ah al) cm), PIn.lo ay rfl, f7, ga, f9, hre, (by have := congrArg List.length ((zN s cn)).1; omega)⟩

end CN3
end Go.Proofs.YtfnginkcmcfdfaaGreatDoor

set_option maxRecDepth 20000
set_option maxHeartbeats 2000000
namespace Go.Proofs.YtfnginkcmcfdfaaGreatDoor
namespace CN4
open Go.RowKit Go.GL Go.Proofs
open Go.Proofs.YtfnginkcmcfdfaaGreatDoor.B1
open Go.Proofs.YtfnginkcmcfdfaaGreatDoor.K1
open Go.Proofs.YtfnginkcmcfdfaaGreatDoor.PO1
open Go.Proofs.YtfnginkcmcfdfaaGreatDoor.PL1
open Go.Proofs.YtfnginkcmcfdfaaGreatDoor.DI1
open Go.Proofs.YtfnginkcmcfdfaaGreatDoor.RI1
open Go.Proofs.YtfnginkcmcfdfaaGreatDoor.CN1
open Go.Proofs.YtfnginkcmcfdfaaGreatDoor.CN2
open Go.Proofs.YtfnginkcmcfdfaaGreatDoor.CN3





theorem canon_step {w : World} {G : Pin} {L R B : Value} {q : PSt} {f : Int} {p : Nat} {mm : PM} {N m : Nat} (hP : Pins G w) (hpk : Pk 65 3 G w p L R B mm q) (hok : PoolOk q) (hf : PlaceOk q f) (hfN : f < (N : Int)) (hbud : q.ns.length + unc q N < 1048576) (ih : CanP N m p mm) (hm : f.toNat < m + 1) :
  Calls Tryz.prog 124 [(.pointer (some ⟨p, 0, none⟩)), (vJ f)].toArray w fun e w' => ∃ (z : Int) (L' R' B' : Value) (q' : PSt) (G' : Pin), e = .returned (vJ z) ∧ Pk 65 3 G' w' p L' R' B' mm q' ∧ PoolOk q' ∧ PX q q' ∧ PLo w p L R B mm L' R' B' ∧ Ext (inP p L R B mm) G w G' w' ∧ PlaceOk q' z ∧ CanonG (pd q' z) ∧ eqG (pd q' z) (pd q' f) ∧ q'.ns.length + unc q' N ≤ q.ns.length + unc q N := by
 refine zT (n := 40) Tryz.func124 Tryz.ntmps124 rfl rfl ?_
 have ad : Ext (inP p L R B mm) G w G w := Ext.refl hP
 have hpin : PIn w (inP p L R B mm) p L R B mm := PIn.self
 have cq : (q.ns.map Nd.l).length = q.ns.length ∧ (q.ns.map Nd.r).length = q.ns.length := ⟨List.length_map .., List.length_map ..⟩
 have cr : q.bs.length = q.ns.length ∧ q.ns.length ≤ 1048576 := ⟨hok.ar.ok.len, hok.ar.ok.lim⟩
 have cs := hf.1
 have ct := hf.2
 refine zB (zC ?_)
 refine qM (vJ 0) ?_
 refine qe (zA (zB (zB (zC ?_))))
 refine qM (.pointer (some ⟨p, 0, none⟩)) ?_
 refine qD rfl (yV rfl) ?_
 refine qD rfl (zJ (k := 5) rfl Tryz.underlying72 rfl nz69 rfl) ?_
 refine qD rfl (zK (u := (.map (some mm.c))) ag69 rfl (hpk.bx.cell (o := 5) rfl)) ?_
 refine qM (vJ f) ?_
 refine qD rfl (run_lookv_int (k := f) (key_int Tryz.underlying3) Tryz.underlying69 zr3 hpk.fc rfl rfl) ?_
 refine qM (.tuple #[(vJ ((Go.GL.look q.cm f).getD 0)), (.bool ((Go.GL.look q.cm f).isSome))]) ?_
 refine qD rfl (yG (v := (vJ ((Go.GL.look q.cm f).getD 0))) rfl rfl) ?_
 refine qD rfl (yG (v := (.bool ((Go.GL.look q.cm f).isSome))) rfl rfl) ?_
 refine qM (vJ ((Go.GL.look q.cm f).getD 0)) ?_
 refine qM (.bool ((Go.GL.look q.cm f).isSome)) ?_
 refine qe (zA (zB (zC ?_)))
 refine qM (.bool ((Go.GL.look q.cm f).isSome)) ?_
 refine qe (zA ?_)
 refine c_if rfl rfl (fun h3 => ?_) (fun h3 => ?_)
 ·skip
  refine zB (zC ?_)
  refine qM (vJ ((Go.GL.look q.cm f).getD 0)) ?_
  refine qM (vJ ((Go.GL.look q.cm f).getD 0)) ?_
  refine qe (zA ?_)
  refine wp_ret ?_
  refine zP ?_
  refine zO (v := (vJ ((Go.GL.look q.cm f).getD 0))) rfl rfl rfl ?_
  obtain ⟨z, hz⟩ := Option.isSome_iff_exists.1 h3
  obtain ⟨_, f1, f2, f3⟩ := hok.can f z hz
  rw [hz]
  exact ⟨z, L, R, B, q, G, rfl, hpk, hok, (PX.refl _), PIn.lo hpin rfl, ad, f1, f2, f3, Nat.le_refl _⟩
 refine wp_skip ?_
 refine zA (zB (zC ?_))
 refine qM (.pointer (some ⟨p, 0, none⟩)) ?_
 refine qM (.pointer (some ⟨p, 0, none⟩)) ?_
 refine qM (vJ f) ?_
 refine qI rfl (zI (vs := [(.pointer (some ⟨p, 0, none⟩)), (vJ f), (.bool true)]) Tryz.func154 nm154 rfl rfl rfl ?_)
 refine Calls.mono (reduced_t (N := N) (m := m) ad.pins hpk hok ((PX.refl _).place hf) hfN (by omega) ih hm) ?_
 rintro _ cu ⟨u4, cv, L6, R7, B8, x, cz, rfl, bo, ah, ae, bp, bq, br, ay, az, c0⟩
 refine ⟨_, rfl, ?_⟩
 have ai := ad.trans bq hpin
 have a0 := PIn.call hpin bp ad.size
 have c1 := ae.len
 have c2 : (x.ns.map Nd.l).length = x.ns.length ∧ (x.ns.map Nd.r).length = x.ns.length := ⟨List.length_map .., List.length_map ..⟩
 have c3 : x.bs.length = x.ns.length ∧ x.ns.length ≤ 1048576 := ⟨ah.ar.ok.len, ah.ar.ok.lim⟩
 have ao := br.weaken ad.size
 have c4 := az.len
 refine qM (.pointer (some ⟨p, 0, none⟩)) ?_
 refine qM (vJ f) ?_
 refine qI rfl (zI (vs := [(.pointer (some ⟨p, 0, none⟩)), (vJ f), (.bool false)]) Tryz.func154 nm154 rfl rfl rfl ?_)
 refine Calls.mono (reduced_f (N := N) (m := m) ai.pins bo ah (ae.place hf) hfN (by omega) ih hm) ?_
 rintro _ c5 ⟨bt, c6, c7, c8, c9, s, da, rfl, bu, aa, aj, a1, a2, a3, bv, a4, db⟩
 refine ⟨_, rfl, ?_⟩
 have bw := ai.trans a2 a0
 have bz := ao.extS a2 ay
 have b0 := NP.call ay a1 (jB ao)
 have a5 := PIn.call a0 a1 ai.size
 have dc := aj.len
 have dd : (s.ns.map Nd.l).length = s.ns.length ∧ (s.ns.map Nd.r).length = s.ns.length := ⟨List.length_map .., List.length_map ..⟩
 have de : s.bs.length = s.ns.length ∧ s.ns.length ≤ 1048576 := ⟨aa.ar.ok.len, aa.ar.ok.lim⟩
 have b1 := zS a3.lt ao.lt
 have b2 := a3.weaken ai.size
 have df := a4.len
 obtain ⟨dg, a6, b3, b4, a7⟩ := bz.sealed bw
 have b5 := b2.moreO a6 a7 b1
 have b6 := bu.moreO a6 a7 b0
 obtain ⟨dh, a8, ap, b7, b8⟩ := b5.sealed b3
 have b9 := b6.moreO a8 b8 bv
 have aq := az.px (ae.place hf) aj ah aa
 have au := a4
 refine qI rfl (zI (vs := [(.pointer (some ⟨p, 0, none⟩)), u4, bt]) Tryz.func79 nm79 rfl rfl rfl ?_)
 refine Calls.mono (node_spec ap.pins b9 aa (b4.mono a8) b7 (by omega) ⟨aq.len, au.len⟩ (jL aq.pl) (jL au.pl)) ?_
 rintro _ di ⟨d, ca, cb, cc, b, cd, rfl, av, ab, t, ce, cf, ac, cg, ch, a9⟩
 refine ⟨_, rfl, ?_⟩
 have ba := ap.trans cf a5
 have aw := PIn.call a5 ce ap.size
 have dj := t.len
 have dk : (b.ns.map Nd.l).length = b.ns.length ∧ (b.ns.map Nd.r).length = b.ns.length := ⟨List.length_map .., List.length_map ..⟩
 have dl : b.bs.length = b.ns.length ∧ b.ns.length ≤ 1048576 := ⟨ab.ar.ok.len, ab.ar.ok.lim⟩
 have hcd := canon_done aq au cg
 have bb := (PX.trans ae aj).place hf
 have ci := t.place bb
 have bc : eqG (pd b d) (pd b f) := by rw [t.pd aa ab bb]; exact hcd.2
 have hgrow : b.ns.length + unc { b with cm := putE b.cm f d } N ≤ s.ns.length + unc s N := by
  cases hlf : Go.GL.look s.cm f with
  | none =>
   have h1 := unc_put (q := b) (z := d) hf.1 (by rw [a9.1]; exact hlf) N hfN
   have h2 := unc_px t N
   have := ch
   omega
  | some y =>
   obtain ⟨_, h2, h3, h4⟩ := aa.can f y hlf
   have h5 : pd b y = pd b d := by
    rw [t.pd aa ab h2]
    exact canon_unique h3 hcd.1 ⟨xO h4.1 hcd.2.2, xO hcd.2.1 h4.2⟩
   have h6 := t.place h2
   have h7 := h2.1; have h8 := h2.2; have h9 := h6.2; have dr := ac.1; have ds := ac.2
   have dt := ab.ar.inj (i := y.toNat) (j := d.toNat) (by omega) (by omega) h5
   have du := unc_px (PX.trans t (PX.put (q := b) (a := f) (z := d))) N
   rcases a9.2 with cl | cl <;> omega
 refine qM (vJ d) ?_
 refine qe (zA (zB (zC ?_)))
 refine qM (.pointer (some ⟨p, 0, none⟩)) ?_
 refine qD rfl (yV rfl) ?_
 refine qD rfl (zJ (k := 5) rfl Tryz.underlying72 rfl nz69 rfl) ?_
 refine qD rfl (zK (u := (.map (some mm.c))) ag69 rfl (av.bx.cell (o := 5) rfl)) ?_
 refine qM (vJ f) ?_
 refine qM (vJ d) ?_
 refine q0 rfl rfl rfl (qO (val := (fun v : Int => Value.int .i64 v)) (k := f) (v := d) (key_int Tryz.underlying3) Tryz.underlying69 rfl rfl rfl ba.pins av.fc (fun dv cn be bf dw => ?_))
 have bg := ba.trans (Ext.one be bf) (fun i hi => (PIn.c aw) i hi)
 have ak := av.setC (Ext.one be bf) cn
 have al := PoolOk.setC ab (ci.same ⟨rfl, rfl⟩) (ac.same ⟨rfl, rfl⟩) (by rw [xN ⟨rfl, rfl⟩]; exact hcd.1) (by rw [xN ⟨rfl, rfl⟩, xN ⟨rfl, rfl⟩]; exact bc)
 obtain ⟨g, am⟩ : ∃ q, q = ({ b with cm := putE b.cm f d } : PSt) := ⟨_, rfl⟩
 rw [← am] at ak al
 have hq97n : g.ns = b.ns ∧ g.bs = b.bs := by rw [am]; exact ⟨rfl, rfl⟩
 have hq97x : PX b g := by rw [am]; exact PX.put
 have dx : (g.ns.map Nd.l).length = g.ns.length ∧ (g.ns.map Nd.r).length = g.ns.length := ⟨List.length_map .., List.length_map ..⟩
 have dy : g.bs.length = g.ns.length ∧ g.ns.length ≤ 1048576 := ⟨al.ar.ok.len, al.ar.ok.lim⟩
 have dz := hq97x.len
 refine qe (zA (zB (zC ?_)))
 refine qM (.pointer (some ⟨p, 0, none⟩)) ?_
 refine qD rfl (yV rfl) ?_
 refine qD rfl (zJ (k := 5) rfl Tryz.underlying72 rfl nz69 rfl) ?_
 refine qD rfl (zK (u := (.map (some mm.c))) ag69 rfl (ak.bx.cell (o := 5) rfl)) ?_
 refine qM (vJ d) ?_
 refine qM (vJ d) ?_
 refine q0 rfl rfl rfl (qO (val := (fun v : Int => Value.int .i64 v)) (k := d) (v := d) (key_int Tryz.underlying3) Tryz.underlying69 rfl rfl rfl bg.pins ak.fc (fun d0 co bh bi d1 => ?_))
 have cp := bg.trans (Ext.one bh bi) (fun i hi => (PIn.c aw) i hi)
 have bj := ak.setC (Ext.one bh bi) co
 have an := PoolOk.setC al (ac.same hq97n) (ac.same hq97n) (by rw [xN hq97n]; exact hcd.1) ⟨jF _, jF _⟩
 obtain ⟨h, ax⟩ : ∃ q, q = ({ g with cm := putE g.cm d d } : PSt) := ⟨_, rfl⟩
 rw [← ax] at bj an
 have hq110n : h.ns = g.ns ∧ h.bs = g.bs := by rw [ax]; exact ⟨rfl, rfl⟩
 have hq110x : PX g h := by rw [ax]; exact PX.put
 have d2 : (h.ns.map Nd.l).length = h.ns.length ∧ (h.ns.map Nd.r).length = h.ns.length := ⟨List.length_map .., List.length_map ..⟩
 have d3 : h.bs.length = h.ns.length ∧ h.ns.length ≤ 1048576 := ⟨an.ar.ok.len, an.ar.ok.lim⟩
 have d4 := hq110x.len
 refine qe (zA (zB (zC ?_)))
 refine qM (vJ d) ?_
 refine qM (vJ d) ?_
 refine qe (zA ?_)
 refine wp_ret ?_
 refine zP ?_
 refine zO (v := (vJ d)) rfl rfl rfl ?_
 have hlast := unc_px hq110x N
 have hln := congrArg List.length ((zN hq97n hq110n)).1
 have hnew : h.ns.length + unc h N ≤ q.ns.length + unc q N := by rw [am] at hlast; omega
 exact ⟨_, ca, cb, cc, h, cd, rfl, bj, an, (PX.trans (PX.trans (PX.trans (PX.trans ae aj) t) hq97x) hq110x), PIn.lo aw rfl, cp, ac.same (zN hq97n hq110n), (by rw [xN (zN hq97n hq110n)]; exact hcd.1), (by rw [xN (zN hq97n hq110n), xN (zN hq97n hq110n)]; exact bc), hnew⟩

theorem canon_all {p N : Nat} {mm : PM} : ∀ m, CanP N m p mm
 | 0 => fun _ _ _ _ _ _ h => absurd h (Nat.not_lt_zero _)
 | m + 1 => fun hP hpk hok hf hfN hb hm => canon_step hP hpk hok hf hfN hb (canon_all m) hm
theorem canon_spec {w : World} {G : Pin} {L R B : Value} {q : PSt} {f : Int} {p : Nat} {mm : PM} {N : Nat} (hP : Pins G w) (hpk : Pk 65 3 G w p L R B mm q) (hok : PoolOk q) (hf : PlaceOk q f) (hfN : f < (N : Int)) (hbud : q.ns.length + unc q N < 1048576) :
  Calls Tryz.prog 124 [(.pointer (some ⟨p, 0, none⟩)), (.int .i64 f)].toArray w fun e w' => ∃ (z : Int) (L' R' B' : Value) (q' : PSt) (G' : Pin), e = .returned (.int .i64 z) ∧ Pk 65 3 G' w' p L' R' B' mm q' ∧ PoolOk q' ∧ PX q q' ∧ PLo w p L R B mm L' R' B' ∧ Ext (inP p L R B mm) G w G' w' ∧ PlaceOk q' z ∧ CanonG (pd q' z) ∧ eqG (pd q' z) (pd q' f) ∧ q'.ns.length + unc q' N ≤ q.ns.length + unc q N :=
 canon_all _ hP hpk hok hf hfN hbud (Nat.lt_succ_self _)

end CN4
end Go.Proofs.YtfnginkcmcfdfaaGreatDoor

set_option maxRecDepth 20000
set_option maxHeartbeats 2000000
namespace Go.Proofs.YtfnginkcmcfdfaaGreatDoor
namespace AS2
open Go.RowKit Go.GL Go.Proofs
open Go.Proofs.YtfnginkcmcfdfaaGreatDoor.B1
open Go.Proofs.YtfnginkcmcfdfaaGreatDoor.K1
open Go.Proofs.YtfnginkcmcfdfaaGreatDoor.PO1
open Go.Proofs.YtfnginkcmcfdfaaGreatDoor.PL1
open Go.Proofs.YtfnginkcmcfdfaaGreatDoor.PA1
open Go.Proofs.YtfnginkcmcfdfaaGreatDoor.DI1
open Go.Proofs.YtfnginkcmcfdfaaGreatDoor.RI1
open Go.Proofs.YtfnginkcmcfdfaaGreatDoor.CN1
open Go.Proofs.YtfnginkcmcfdfaaGreatDoor.CN2
open Go.Proofs.YtfnginkcmcfdfaaGreatDoor.CN3
open Go.Proofs.YtfnginkcmcfdfaaGreatDoor.CN4




theorem canonOf_spec {w : World} {G : Pin} {p : Nat} {L R B : Value} {mm : PM} {q : PSt} (hP : Pins G w) (hpk : Pk 65 3 G w p L R B mm q) (hok : PoolOk q) {x : Value} {fs : List Nd} (hx : RSl eNode G x fs) (hf : FormOk fs) (hl : 2 * (q.ns.length + fs.length) < 1048576) (hf1 : 1 ≤ fs.length) :
  Calls Tryz.prog 69 [(.pointer (some ⟨p, 0, none⟩)), (.agg [x].toArray)].toArray w fun e w' => ∃ (z : Int) (L' R' B' : Value) (q' : PSt) (G' : Pin), e = .returned (vJ z) ∧ Pk 65 3 G' w' p L' R' B' mm q' ∧ PoolOk q' ∧ PX q q' ∧ PLo w p L R B mm L' R' B' ∧ Ext (inP p L R B mm) G w G' w' ∧ PlaceOk q' z ∧ CanonG (pd q' z) ∧ eqG (pd q' z) (gOf fs) ∧ q'.ns.length ≤ 2 * (q.ns.length + fs.length) := by
 refine zT (n := 10) Tryz.func69 Tryz.ntmps69 rfl rfl ?_
 have g : Ext (inP p L R B mm) G w G w := Ext.refl hP
 have hpin : PIn w (inP p L R B mm) p L R B mm := PIn.self
 have a6 : (q.ns.map Nd.l).length = q.ns.length ∧ (q.ns.map Nd.r).length = q.ns.length := ⟨List.length_map .., List.length_map ..⟩
 have a7 : q.bs.length = q.ns.length ∧ q.ns.length ≤ 1048576 := ⟨hok.ar.ok.len, hok.ar.ok.lim⟩
 have hfl := hf.len
 refine zB (zC ?_)
 refine qI rfl (xJ [x] (v := (.agg [x].toArray)) rfl rfl g.pins (fun o w4 ad ae s t => ?_))
 have af := g.step s t
 have ag := hpk.below t s
 have ah := hpk.new (x := (some o)) (fun k hk => by rw [(congrArg some ad)] at hk; cases hk; exact Nat.le_refl _)
 have ai : w.heap.size ≤ o := by have := g.size; omega
 obtain ⟨a9, y, c, aj, ak⟩ := ae.shut af ai
 have al := ag.more y ak ah
 refine qM (vJ 0) ?_
 refine qe (zA (zB (zC ?_)))
 refine qM (.pointer (some ⟨p, 0, none⟩)) ?_
 refine qM (.pointer (some ⟨p, 0, none⟩)) ?_
 refine qD rfl (yL (cs := [x]) ag32 sz32 rfl (fun j u hj => c.pins _ _ _ (aj _ _ (by simpa using hj)))) ?_
 refine qI rfl (zI (vs := [(.pointer (some ⟨p, 0, none⟩)), (.agg [x].toArray)]) Tryz.func53 nm53 rfl rfl rfl ?_)
 refine Calls.mono (root_spec c.pins al hok (hx.mono y) hf (by omega) hf1) ?_
 rintro _ ba ⟨am, bb, bc, bd, a, be, rfl, an, d, aa, ao, ap, h, aq, bf⟩
 refine ⟨_, rfl, ?_⟩
 have i := c.trans ap hpin
 have ab := PIn.call hpin ao c.size
 have bg := aa.len
 have bh : (a.ns.map Nd.l).length = a.ns.length ∧ (a.ns.map Nd.r).length = a.ns.length := ⟨List.length_map .., List.length_map ..⟩
 have bi : a.bs.length = a.ns.length ∧ a.ns.length ≤ 1048576 := ⟨d.ar.ok.len, d.ar.ok.lim⟩
 refine qI rfl (zI (vs := [(.pointer (some ⟨p, 0, none⟩)), (vJ am)]) Tryz.func124 nm124 rfl rfl rfl ?_)
 refine Calls.mono (canon_spec i.pins an d (N := a.ns.length) h h.2 (by have := unc_le (q := a) a.ns.length; omega)) ?_
 rintro _ bj ⟨ac, au, av, aw, b, ax, rfl, ay, f, m, az, a0, a1, a2, a3, bk⟩
 refine ⟨_, rfl, ?_⟩
 have a4 := i.trans a0 ab
 have a5 := PIn.call ab az i.size
 have bl := m.len
 have bm : (b.ns.map Nd.l).length = b.ns.length ∧ (b.ns.map Nd.r).length = b.ns.length := ⟨List.length_map .., List.length_map ..⟩
 have bn : b.bs.length = b.ns.length ∧ b.ns.length ≤ 1048576 := ⟨f.ar.ok.len, f.ar.ok.lim⟩
 refine qM (vJ ac) ?_
 refine qe (zA ?_)
 refine wp_ret ?_
 refine zP ?_
 refine zO (v := (vJ ac)) rfl rfl rfl ?_
 have hce := a3
 rw [((m.pd d f h).trans aq)] at hce
 have hun := unc_le (q := a) a.ns.length
 exact ⟨_, au, av, aw, b, ax, rfl, ay, f, (PX.trans aa m), PIn.lo a5 rfl, a4, a1, a2, hce, (by omega)⟩

end AS2
end Go.Proofs.YtfnginkcmcfdfaaGreatDoor

set_option maxRecDepth 20000
set_option maxHeartbeats 2000000
namespace Go.Proofs.YtfnginkcmcfdfaaGreatDoor
namespace NU1
open Go.RowKit Go.GL Go.Proofs
open Go.Proofs.YtfnginkcmcfdfaaGreatDoor.B1
open Go.Proofs.YtfnginkcmcfdfaaGreatDoor.C1
open Go.Proofs.YtfnginkcmcfdfaaGreatDoor.D1
open Go.Proofs.YtfnginkcmcfdfaaGreatDoor.E1
open Go.Proofs.YtfnginkcmcfdfaaGreatDoor.K1
open Go.Proofs.YtfnginkcmcfdfaaGreatDoor.PO1
open Go.Proofs.YtfnginkcmcfdfaaGreatDoor.PL1


theorem jE {w : World} {G : Pin} {t z : Int} (hP : Pins G w) :
  Calls Tryz.prog 101 [(.agg [(vJ t), (vJ z)].toArray)].toArray w fun e w' => ∃ G', e = .returned (.bool (decP (GoodD t z))) ∧ Ext noS G w G' w' := by
 refine zT (n := 32) Tryz.func101 Tryz.ntmps101 rfl rfl ?_
 have d : Ext noS G w G w := Ext.refl hP
 refine zB (zC ?_)
 refine qI rfl (xJ [(vJ t), (vJ z)] (v := (.agg [(vJ t), (vJ z)].toArray)) rfl rfl d.pins (fun j w2 ad l m o => ?_))
 have q := d.step m o
 have r : w.heap.size ≤ j := by have := d.size; omega
 obtain ⟨G9, af, a, b, ag⟩ := l.shut q r
 refine qM (.bool false) ?_
 refine qe (zA (zB (zC ?_)))
 refine qD rfl (zJ (k := 0) rfl Tryz.underlying34 rfl nz3 rfl) ?_
 refine qD rfl (zK (u := (vJ t)) ag3 rfl (a.pins _ _ _ (b 0 _ rfl))) ?_
 refine qD rfl (r_geq rfl rfl) ?_
 refine qM (.bool (decide (((-1000000) : Int) ≤ t))) ?_
 refine qbd (p := ((-1000000) : Int) ≤ t) (t := 6) rfl (fun s => ?_) (fun s => ?_)
 ·skip
  refine qN (zJ (k := 0) rfl Tryz.underlying34 rfl nz3 rfl) ?_
  refine qN (zK (u := (vJ t)) ag3 rfl (a.pins _ _ _ (b 0 _ rfl))) ?_
  refine qN (r_leq rfl rfl) ?_
  refine qD rfl (yJ (v := (.bool (decide ((t : Int) ≤ 1000000)))) rfl rfl) ?_
  refine qM (.bool (decide ((t : Int) ≤ 1000000))) ?_
  refine qbd (p := (t : Int) ≤ 1000000) (t := 11) rfl (fun x => ?_) (fun x => ?_)
  ·skip
   refine qN (zJ (k := 1) rfl Tryz.underlying34 rfl nz3 rfl) ?_
   refine qN (zK (u := (vJ z)) ag3 rfl (a.pins _ _ _ (b 1 _ rfl))) ?_
   refine qN (r_geq rfl rfl) ?_
   refine qD rfl (yJ (v := (.bool (decide ((0 : Int) ≤ z)))) rfl rfl) ?_
   refine qM (.bool (decide ((0 : Int) ≤ z))) ?_
   refine qbd (p := (0 : Int) ≤ z) (t := 16) rfl (fun y => ?_) (fun y => ?_)
   ·skip
    refine qN (zJ (k := 1) rfl Tryz.underlying34 rfl nz3 rfl) ?_
    refine qN (zK (u := (vJ z)) ag3 rfl (a.pins _ _ _ (b 1 _ rfl))) ?_
    refine qN (r_leq rfl rfl) ?_
    refine qD rfl (yJ (v := (.bool (decide ((z : Int) ≤ 16)))) rfl rfl) ?_
    refine qM (.bool (decide ((z : Int) ≤ 16))) ?_
    refine qbd (p := (z : Int) ≤ 16) (t := 21) rfl (fun aa => ?_) (fun aa => ?_)
    ·skip
     refine qN (zJ (k := 1) rfl Tryz.underlying34 rfl nz3 rfl) ?_
     refine qN (zK (u := (vJ z)) ag3 rfl (a.pins _ _ _ (b 1 _ rfl))) ?_
     refine qN (xT rfl rfl) ?_
     refine qN (zQ (v := (.bool (decide ((z : Int) = 0)))) rfl) ?_
     refine qbd (p := (z : Int) = 0) (t := 25) rfl (fun ab => ?_) (fun ab => ?_)
     ·skip
      refine qW ?_
      refine qW ?_
      refine qW ?_
      refine qW ?_
      refine qN (yJ (v := (.bool true)) rfl rfl) ?_
      refine qD rfl (yJ (v := (.bool true)) rfl rfl) ?_
      refine qM (.bool true) ?_
      refine qe (zA ?_)
      refine wp_ret ?_
      refine zP ?_
      refine zO (v := (.bool true)) rfl rfl rfl ?_
      exact ⟨_, congrArg (fun z => Ending.returned (Value.bool z)) (decP_true.2 ⟨by omega, by omega, by omega⟩).symm, a⟩
     refine qN (zJ (k := 0) rfl Tryz.underlying34 rfl nz3 rfl) ?_
     refine qN (zK (u := (vJ t)) ag3 rfl (a.pins _ _ _ (b 0 _ rfl))) ?_
     refine qN (r_rem2 rfl rfl) ?_
     refine qN (r_neq rfl rfl) ?_
     refine qN (yA (v := (.bool (decide ((t.tmod 2 : Int) ≠ 0)))) rfl rfl) ?_
     refine qD rfl (yJ (v := (.bool (decide ((t.tmod 2 : Int) ≠ 0)))) rfl rfl) ?_
     refine qM (.bool (decide ((t.tmod 2 : Int) ≠ 0))) ?_
     refine qe (zA ?_)
     refine wp_ret ?_
     refine zP ?_
     refine zO (v := (.bool (decide ((t.tmod 2 : Int) ≠ 0)))) rfl rfl rfl ?_
     exact ⟨_, congrArg (fun z => Ending.returned (Value.bool z)) (decP_dec.symm.trans (decP_iff ⟨fun h => ⟨by omega, by omega, by omega⟩, fun g => by have c := g.odd; omega⟩)), a⟩
    refine qW ?_
    refine qW ?_
    refine qW ?_
    refine qW ?_
    refine qX ?_
    refine qX ?_
    refine qX ?_
    refine qX ?_
    refine qW ?_
    refine qD rfl (yA (v := (.bool false)) rfl rfl) ?_
    refine qM (.bool false) ?_
    refine qe (zA ?_)
    refine wp_ret ?_
    refine zP ?_
    refine zO (v := (.bool false)) rfl rfl rfl ?_
    exact ⟨_, congrArg (fun z => Ending.returned (Value.bool z)) (decP_false.2 (fun g => by have f := g.top; have i := g.pow; have c := g.odd; omega)).symm, a⟩
   refine qW ?_
   refine qW ?_
   refine qW ?_
   refine qD rfl (yA (v := (.bool false)) rfl rfl) ?_
   refine qM (.bool false) ?_
   refine qW ?_
   refine qW ?_
   refine qW ?_
   refine qW ?_
   refine qX ?_
   refine qX ?_
   refine qX ?_
   refine qX ?_
   refine qW ?_
   refine qD rfl (yA (v := (.bool false)) rfl rfl) ?_
   refine qM (.bool false) ?_
   refine qe (zA ?_)
   refine wp_ret ?_
   refine zP ?_
   refine zO (v := (.bool false)) rfl rfl rfl ?_
   exact ⟨_, congrArg (fun z => Ending.returned (Value.bool z)) (decP_false.2 (fun g => by have f := g.top; have i := g.pow; have c := g.odd; omega)).symm, a⟩
  refine qW ?_
  refine qW ?_
  refine qW ?_
  refine qD rfl (yA (v := (.bool false)) rfl rfl) ?_
  refine qM (.bool false) ?_
  refine qW ?_
  refine qW ?_
  refine qW ?_
  refine qD rfl (yA (v := (.bool false)) rfl rfl) ?_
  refine qM (.bool false) ?_
  refine qW ?_
  refine qW ?_
  refine qW ?_
  refine qW ?_
  refine qX ?_
  refine qX ?_
  refine qX ?_
  refine qX ?_
  refine qW ?_
  refine qD rfl (yA (v := (.bool false)) rfl rfl) ?_
  refine qM (.bool false) ?_
  refine qe (zA ?_)
  refine wp_ret ?_
  refine zP ?_
  refine zO (v := (.bool false)) rfl rfl rfl ?_
  exact ⟨_, congrArg (fun z => Ending.returned (Value.bool z)) (decP_false.2 (fun g => by have f := g.top; have i := g.pow; have c := g.odd; omega)).symm, a⟩
 refine qW ?_
 refine qW ?_
 refine qW ?_
 refine qD rfl (yA (v := (.bool false)) rfl rfl) ?_
 refine qM (.bool false) ?_
 refine qW ?_
 refine qW ?_
 refine qW ?_
 refine qD rfl (yA (v := (.bool false)) rfl rfl) ?_
 refine qM (.bool false) ?_
 refine qW ?_
 refine qW ?_
 refine qW ?_
 refine qD rfl (yA (v := (.bool false)) rfl rfl) ?_
 refine qM (.bool false) ?_
 refine qW ?_
 refine qW ?_
 refine qW ?_
 refine qW ?_
 refine qX ?_
 refine qX ?_
 refine qX ?_
 refine qX ?_
 refine qW ?_
 refine qD rfl (yA (v := (.bool false)) rfl rfl) ?_
 refine qM (.bool false) ?_
 refine qe (zA ?_)
 refine wp_ret ?_
 refine zP ?_
 refine zO (v := (.bool false)) rfl rfl rfl ?_
 exact ⟨_, congrArg (fun z => Ending.returned (Value.bool z)) (decP_false.2 (fun g => by have f := g.top; have i := g.pow; have c := g.odd; omega)).symm, a⟩

end NU1
end Go.Proofs.YtfnginkcmcfdfaaGreatDoor

set_option maxRecDepth 20000
set_option maxHeartbeats 2000000
namespace Go.Proofs.YtfnginkcmcfdfaaGreatDoor
namespace NU2
open Go.RowKit Go.GL Go.Proofs
open Go.Proofs.YtfnginkcmcfdfaaGreatDoor.B1
open Go.Proofs.YtfnginkcmcfdfaaGreatDoor.C1
open Go.Proofs.YtfnginkcmcfdfaaGreatDoor.D1
open Go.Proofs.YtfnginkcmcfdfaaGreatDoor.E1
open Go.Proofs.YtfnginkcmcfdfaaGreatDoor.K1
open Go.Proofs.YtfnginkcmcfdfaaGreatDoor.PO1
open Go.Proofs.YtfnginkcmcfdfaaGreatDoor.PL1
open Go.Proofs.YtfnginkcmcfdfaaGreatDoor.NU1


theorem pl34 : (Tryz.prog.underlying 34).bind (placesD Tryz.prog) = some [(0, 1), (1, 1)] := by kernel_rfl


theorem lowest_spec {w : World} {G : Pin} {t : Int} {p : Nat} (hP : Pins G w) (hb : -1000000000000000 ≤ t ∧ t ≤ 1000000000000000) (hp : p ≤ 64) :
  Calls Tryz.prog 122 [(vJ t), (vJ (p : Int))].toArray w fun e w' => ∃ G', e = .returned (.tuple #[(.agg [.int .i64 (lowR (decP (GoodD (lowD p t).1 (((lowD p t).2 : Nat) : Int))) (lowD p t).1), .int .i64 (lowR (decP (GoodD (lowD p t).1 (((lowD p t).2 : Nat) : Int))) (((lowD p t).2 : Nat) : Int))].toArray), .bool (decP (GoodD (lowD p t).1 (((lowD p t).2 : Nat) : Int)))]) ∧ Ext noS G w G' w' := by
 refine zT (n := 26) Tryz.func122 Tryz.ntmps122 rfl rfl ?_
 have r : Ext noS G w G w := Ext.refl hP
 refine zB (zC ?_)
 refine qI rfl (yO [(vJ 0), (vJ 0)] zr34 rfl r.pins (fun f w2 b4 aw ax ay => ?_))
 have az := r.step ax ay
 have q : w.heap.size ≤ f := by have := r.size; omega
 refine qM (.bool false) ?_
 refine qe (zA (zB ?_))
 refine zW ?_
 refine yR (fun (k : Nat) (en : Nat → Value) (W : World) => ∃ (ad : Nat → Value) (a : Int) (zp : Int) (g : Pin), en = (upd (upd (upd (upd ad 0 (vJ a)) 1 (vJ zp)) 4 (.pointer (some ⟨f, 0, none⟩))) 5 (.bool false)) ∧ k = zp.toNat ∧ Ext noS G w g W ∧ Pin.le G g ∧ (lowD p t = lowD zp.toNat a) ∧ (0 ≤ zp ∧ zp ≤ 64) ∧ (-1000000000000000 ≤ a ∧ a ≤ 1000000000000000) ∧ (Bx g W f [(vJ 0), (vJ 0)])) _ ⟨_, t, (p : Int), G, (pS 5 (pS 4 (pS 1 (pU 0)))), rfl, az, Pin.le_refl _, (by rw [Int.toNat_natCast]), (by omega), hb, aw⟩ ?_
 rintro k9 _ b6 ⟨ad, a, zp, g, rfl, b7, b, a0, hr, hz, hab, i⟩
 refine zB (zB (zC ?_))
 refine qM (vJ zp) ?_
 refine qD rfl (r_gtr rfl rfl) ?_
 refine qM (.bool (decide ((0 : Int) < zp))) ?_
 refine qbd (p := (0 : Int) < zp) (t := 9) rfl (fun l => ?_) (fun l => ?_)
 ·skip
  refine qN (zQ (v := (vJ a)) rfl) ?_
  refine qN (r_rem2 rfl rfl) ?_
  refine qN (xT rfl rfl) ?_
  refine qD rfl (yJ (v := (.bool (decide ((a.tmod 2 : Int) = 0)))) rfl rfl) ?_
  refine qe (zA ?_)
  refine zZ (p := (a.tmod 2 : Int) = 0) rfl rfl (fun c => ?_) (fun c => ?_)
  ·skip
   refine wp_skip ?_
   refine zA ?_
   refine zW ?_
   refine zB (zC ?_)
   refine qM (vJ a) ?_
   refine qD rfl (r_quo2 rfl rfl ((tmod2 _).1 c) (by omega)) ?_
   refine qM (vJ (a / 2)) ?_
   refine qe (zA (zC ?_))
   refine qM (vJ zp) ?_
   refine qD rfl (qB rfl rfl (by omega)) ?_
   refine qM (vJ (zp - 1)) ?_
   refine qe ?_
   refine zY ?_
   refine zX ?_
   refine ⟨_, ?_, _, rfl, _, a / 2, zp - 1, g, (pS 5 (pS 4 (pS 1 (pU 0)))), rfl, b, a0, (hr.trans (low_even (by omega) c)), (by omega), (by omega), i⟩
   omega
  refine wp_exit ?_
  refine zV ?_
  refine yI ?_
  refine yD ?_
  refine zA (zB (zC ?_))
  refine qM (vJ a) ?_
  refine qM (vJ zp) ?_
  refine qD rfl (yU [(vJ 0), (vJ 0)] [(vJ a), (vJ zp)] [(0, (vJ a), [(vJ a)]), (1, (vJ zp), [(vJ zp)])] Tryz.underlying34 zr34 rfl pl34 rfl (List.forall_mem_cons.2 ⟨rfl, (List.forall_mem_cons.2 ⟨rfl, (fun _ h => by cases h)⟩)⟩) rfl) ?_
  refine qI rfl (yO [(vJ 0), (vJ 0)] zr34 rfl b.pins (fun ae b8 a1 a2 a3 af => ?_))
  have ag := b.step a3 af
  have a4 := i.below af
  have ah : Apart (some ae) (some f) := zL (congrArg some a1) i.lt
  have ai : w.heap.size ≤ ae := by have := b.size; omega
  refine q0 rfl rfl rfl (yP (cs' := [(vJ a), (vJ zp)]) (us := [(vJ a), (vJ zp)]) (v := (.agg [(vJ a), (vJ zp)].toArray)) sz34 rfl rfl rfl (yW (by rfl) (by rfl)) ag.pins a2 (Nat.le_of_ble_eq_true rfl) rfl (fun b9 a5 a6 aj ca => ?_))
  have a7 := ag.write a6 aj ((yC ai))
  have a8 := a4.keptA aj ah.symm
  obtain ⟨cb, cc, s, ak, a9⟩ := a5.shut a7 ai
  have ba := a8.moreA a9 ah.symm
  refine qe (zA (zB (zB (zC ?_))))
  refine qD rfl (yL (cs := [(vJ a), (vJ zp)]) ag34 sz34 rfl (fun j u hj => s.pins _ _ _ (ak _ _ (by simpa using hj)))) ?_
  refine qI rfl (zI (vs := [(.agg [(vJ a), (vJ zp)].toArray)]) Tryz.func101 nm101 rfl rfl rfl ?_)
  refine Calls.mono (jE (t := a) (z := zp) s.pins) ?_
  rintro _ cd ⟨ce, rfl, x⟩
  refine ⟨_, rfl, ?_⟩
  have m := s.tr x
  have al := ba.ext x
  refine qD rfl (xI rfl) ?_
  refine qe (zA ?_)
  refine xV rfl rfl (fun y => ?_) (fun y => ?_)
  ·skip
   refine wp_skip ?_
   refine zA (zB (zC ?_))
   refine qD rfl (yL (cs := [(vJ a), (vJ zp)]) ag34 sz34 rfl (fun j u hj => (Pins.of_le m.pins x.le) _ _ _ (ak _ _ (by simpa using hj)))) ?_
   refine q0 rfl rfl rfl (yP (cs' := [(vJ a), (vJ zp)]) (us := [(vJ a), (vJ zp)]) (v := (.agg [(vJ a), (vJ zp)].toArray)) sz34 rfl rfl rfl (yW (by rfl) (by rfl)) m.pins al (Nat.le_of_ble_eq_true rfl) rfl (fun cf bb bc bd cg => ?_))
   have be := m.write bc bd ((yC q))
   refine qM (.bool true) ?_
   refine qe (zA ?_)
   refine wp_ret ?_
   refine zP ?_
   refine xC (cs := [(vJ a), (vJ zp)]) (v := (.bool true)) rfl rfl rfl rfl rfl ag34 sz34 (fun j u hj => by rw [Nat.zero_add]; exact bb.cell hj) ?_
   have hst := hr.trans (low_stop hz.1 (by first | exact Or.inl c | exact Or.inr c))
   have d : ((zp.toNat : Nat) : Int) = zp := Int.toNat_of_nonneg hz.1
   rw [hst]
   simp only [d]
   exact ⟨_, by rw [y]; rfl, be⟩
  refine zB (zC ?_)
  refine qD rfl (yU [(vJ 0), (vJ 0)] [(vJ 0), (vJ 0)] [] Tryz.underlying34 zr34 rfl pl34 rfl (fun _ h => by cases h) rfl) ?_
  refine q0 rfl rfl rfl (yP (cs' := [(vJ 0), (vJ 0)]) (us := [(vJ 0), (vJ 0)]) (v := (.agg [(vJ 0), (vJ 0)].toArray)) sz34 rfl rfl rfl (yW (by rfl) (by rfl)) m.pins al (Nat.le_of_ble_eq_true rfl) rfl (fun ch bf bg bh ci => ?_))
  have bi := m.write bg bh ((yC q))
  refine qM (.bool false) ?_
  refine qe (zA ?_)
  refine wp_ret ?_
  refine zP ?_
  refine xC (cs := [(vJ 0), (vJ 0)]) (v := (.bool false)) rfl rfl rfl rfl rfl ag34 sz34 (fun j u hj => by rw [Nat.zero_add]; exact bf.cell hj) ?_
  have hst := hr.trans (low_stop hz.1 (by first | exact Or.inl c | exact Or.inr c))
  have d : ((zp.toNat : Nat) : Int) = zp := Int.toNat_of_nonneg hz.1
  rw [hst]
  simp only [d]
  exact ⟨_, by rw [y]; rfl, bi⟩
 refine qW ?_
 refine qW ?_
 refine qW ?_
 refine qD rfl (yA (v := (.bool false)) rfl rfl) ?_
 refine qe (zA ?_)
 refine xW rfl rfl ?_
 refine wp_exit ?_
 refine zV ?_
 refine yI ?_
 refine yD ?_
 refine zA (zB (zC ?_))
 refine qM (vJ a) ?_
 refine qM (vJ zp) ?_
 refine qD rfl (yU [(vJ 0), (vJ 0)] [(vJ a), (vJ zp)] [(0, (vJ a), [(vJ a)]), (1, (vJ zp), [(vJ zp)])] Tryz.underlying34 zr34 rfl pl34 rfl (List.forall_mem_cons.2 ⟨rfl, (List.forall_mem_cons.2 ⟨rfl, (fun _ h => by cases h)⟩)⟩) rfl) ?_
 refine qI rfl (yO [(vJ 0), (vJ 0)] zr34 rfl b.pins (fun am cj bj bk bl an => ?_))
 have ao := b.step bl an
 have bm := i.below an
 have ap : Apart (some am) (some f) := zL (congrArg some bj) i.lt
 have aq : w.heap.size ≤ am := by have := b.size; omega
 refine q0 rfl rfl rfl (yP (cs' := [(vJ a), (vJ zp)]) (us := [(vJ a), (vJ zp)]) (v := (.agg [(vJ a), (vJ zp)].toArray)) sz34 rfl rfl rfl (yW (by rfl) (by rfl)) ao.pins bk (Nat.le_of_ble_eq_true rfl) rfl (fun ck bn bo ar cl => ?_))
 have bp := ao.write bo ar ((yC aq))
 have bq := bm.keptA ar ap.symm
 obtain ⟨cm, cn, aa, au, br⟩ := bn.shut bp aq
 have bs := bq.moreA br ap.symm
 refine qe (zA (zB (zB (zC ?_))))
 refine qD rfl (yL (cs := [(vJ a), (vJ zp)]) ag34 sz34 rfl (fun j u hj => aa.pins _ _ _ (au _ _ (by simpa using hj)))) ?_
 refine qI rfl (zI (vs := [(.agg [(vJ a), (vJ zp)].toArray)]) Tryz.func101 nm101 rfl rfl rfl ?_)
 refine Calls.mono (jE (t := a) (z := zp) aa.pins) ?_
 rintro _ co ⟨cp, rfl, ab⟩
 refine ⟨_, rfl, ?_⟩
 have o := aa.tr ab
 have av := bs.ext ab
 refine qD rfl (xI rfl) ?_
 refine qe (zA ?_)
 refine xV rfl rfl (fun ac => ?_) (fun ac => ?_)
 ·skip
  refine wp_skip ?_
  refine zA (zB (zC ?_))
  refine qD rfl (yL (cs := [(vJ a), (vJ zp)]) ag34 sz34 rfl (fun j u hj => (Pins.of_le o.pins ab.le) _ _ _ (au _ _ (by simpa using hj)))) ?_
  refine q0 rfl rfl rfl (yP (cs' := [(vJ a), (vJ zp)]) (us := [(vJ a), (vJ zp)]) (v := (.agg [(vJ a), (vJ zp)].toArray)) sz34 rfl rfl rfl (yW (by rfl) (by rfl)) o.pins av (Nat.le_of_ble_eq_true rfl) rfl (fun cq bt bu bv cr => ?_))
  have bw := o.write bu bv ((yC q))
  refine qM (.bool true) ?_
  refine qe (zA ?_)
  refine wp_ret ?_
  refine zP ?_
  refine xC (cs := [(vJ a), (vJ zp)]) (v := (.bool true)) rfl rfl rfl rfl rfl ag34 sz34 (fun j u hj => by rw [Nat.zero_add]; exact bt.cell hj) ?_
  have hst := hr.trans (low_stop hz.1 (by first | exact Or.inl l | exact Or.inr l))
  have d : ((zp.toNat : Nat) : Int) = zp := Int.toNat_of_nonneg hz.1
  rw [hst]
  simp only [d]
  exact ⟨_, by rw [ac]; rfl, bw⟩
 refine zB (zC ?_)
 refine qD rfl (yU [(vJ 0), (vJ 0)] [(vJ 0), (vJ 0)] [] Tryz.underlying34 zr34 rfl pl34 rfl (fun _ h => by cases h) rfl) ?_
 refine q0 rfl rfl rfl (yP (cs' := [(vJ 0), (vJ 0)]) (us := [(vJ 0), (vJ 0)]) (v := (.agg [(vJ 0), (vJ 0)].toArray)) sz34 rfl rfl rfl (yW (by rfl) (by rfl)) o.pins av (Nat.le_of_ble_eq_true rfl) rfl (fun ct bx bz b0 cu => ?_))
 have b2 := o.write bz b0 ((yC q))
 refine qM (.bool false) ?_
 refine qe (zA ?_)
 refine wp_ret ?_
 refine zP ?_
 refine xC (cs := [(vJ 0), (vJ 0)]) (v := (.bool false)) rfl rfl rfl rfl rfl ag34 sz34 (fun j u hj => by rw [Nat.zero_add]; exact bx.cell hj) ?_
 have hst := hr.trans (low_stop hz.1 (by first | exact Or.inl l | exact Or.inr l))
 have d : ((zp.toNat : Nat) : Int) = zp := Int.toNat_of_nonneg hz.1
 rw [hst]
 simp only [d]
 exact ⟨_, by rw [ac]; rfl, b2⟩

end NU2
end Go.Proofs.YtfnginkcmcfdfaaGreatDoor

set_option maxRecDepth 20000
set_option maxHeartbeats 2000000
namespace Go.Proofs.YtfnginkcmcfdfaaGreatDoor
namespace VA1
open Go.RowKit Go.GL Go.Proofs
open Go.Proofs.YtfnginkcmcfdfaaGreatDoor.B1
open Go.Proofs.YtfnginkcmcfdfaaGreatDoor.K1
open Go.Proofs.YtfnginkcmcfdfaaGreatDoor.PO1
open Go.Proofs.YtfnginkcmcfdfaaGreatDoor.PL1








def IsnP (m : Nat) (p : Nat) (L R B : Value) (mm : PM) : Prop := ∀ {w : World} {G : Pin} {q : PSt} {a : Int} (_ : Pins G w) (_ : Pk 65 3 G w p L R B mm q) (_ : PoolOk q) (_ : PlaceOk q a) (_ : CanonG (pd q a)), a.toNat < m →
  Calls Tryz.prog 120 [(.pointer (some ⟨p, 0, none⟩)), (.int .i64 a)].toArray w fun e w' => ∃ (q' : PSt) (G' : Pin), e = .returned (.bool (decP (NumD (pd q a)))) ∧ Pk 65 3 G' w' p L R B mm q' ∧ PoolOk q' ∧ PX q q' ∧ (q'.ns = q.ns ∧ q'.bs = q.bs) ∧ Ext (inO (some mm.o)) G w G' w'

theorem isNumber_step {p : Nat} {L R B : Value} {mm : PM} {m : Nat} {w : World} {G : Pin} {q : PSt} {a : Int} (hP : Pins G w) (hpk : Pk 65 3 G w p L R B mm q) (hok : PoolOk q) (ha : PlaceOk q a) (hc : CanonG (pd q a)) (ih : IsnP m p L R B mm) (hm : a.toNat < m + 1) :
  Calls Tryz.prog 120 [(.pointer (some ⟨p, 0, none⟩)), (vJ a)].toArray w fun e w' => ∃ (q' : PSt) (G' : Pin), e = .returned (.bool (decP (NumD (pd q a)))) ∧ Pk 65 3 G' w' p L R B mm q' ∧ PoolOk q' ∧ PX q q' ∧ (q'.ns = q.ns ∧ q'.bs = q.bs) ∧ Ext (inO (some mm.o)) G w G' w' := by
 refine zT (n := 74) Tryz.func120 Tryz.ntmps120 rfl rfl ?_
 have a1 : Ext (inO (some mm.o)) G w G w := Ext.refl hP
 have hpin : PIn w (inP p L R B mm) p L R B mm := PIn.self
 have cg : (q.ns.map Nd.l).length = q.ns.length ∧ (q.ns.map Nd.r).length = q.ns.length := ⟨List.length_map .., List.length_map ..⟩
 have ch : q.bs.length = q.ns.length ∧ q.ns.length ≤ 1048576 := ⟨hok.ar.ok.len, hok.ar.ok.lim⟩
 have ci := ha.1
 have cj := ha.2
 have ck := hok.ar.ok.lens (a).toNat (by omega)
 have hopl := (xE hok.ar.opts (show (a).toNat < q.ns.length by omega)).1
 have hopr := (xE hok.ar.opts (show (a).toNat < q.ns.length by omega)).2
 have hnp := num_pool hok ha hc
 refine zB (zC ?_)
 refine qM (.bool false) ?_
 refine qe (zA (zB ?_))
 have b0 := Gadd.pins a1.pins L
 have b1 := Gadd.pins a1.pins R
 have b2 := hpk.ol.read
 have b3 := hpk.rr.read
 refine xB (S := fun wz => BxR wz p [L, R, B, (.map (some mm.f)), (.map (some mm.o)), (.map (some mm.c)), (.map (some mm.s)), (.map (some mm.n))] ∧ Pins (Gadd G w L) wz ∧ Pins (Gadd G w R) wz) (last := 16) (by kernel_rfl) rfl ?_
 have au : Below w.heap.size w w.drew := (Below.refl _ _).drew
 have bj := a1.pins.below au
 have a7 := a1.step bj au
 have h := hpk.below au bj
 have ac := b0.below au
 have ad := b1.below au
 refine dT (i := 0) rfl rfl (by kernel_rfl) (fun _ _ => zQ (v := (.pointer (some ⟨p, 0, none⟩))) rfl) ⟨h.bx.reads, ac, ad⟩ ?_
 refine dT (i := 1) rfl rfl (by kernel_rfl) (fun _ _ => yV rfl) ⟨h.bx.reads, ac, ad⟩ ?_
 refine dT (i := 2) rfl rfl (by kernel_rfl) (fun _ _ => zJ (k := 0) rfl Tryz.underlying72 rfl nz66 rfl) ⟨h.bx.reads, ac, ad⟩ ?_
 refine dT (i := 3) rfl rfl (by kernel_rfl) (fun _ hS => zK (u := L) ag66 rfl (hS.1 0 _ rfl)) ⟨h.bx.reads, ac, ad⟩ ?_
 refine dT (i := 4) rfl rfl (by kernel_rfl) (fun _ _ => zQ (v := (vJ a)) rfl) ⟨h.bx.reads, ac, ad⟩ ?_
 refine dT (i := 5) rfl rfl (by kernel_rfl) (fun _ _ => zG Tryz.underlying66 sz65 (v := L) rfl rfl b2 (by omega) (by omega)) ⟨h.bx.reads, ac, ad⟩ ?_
 obtain ⟨af, ai, b4⟩ := nm_sl (hpk.ol.at (z := a) (by omega) (by omega)) (j := (a).toNat) rfl
 rw [mapl_getD] at ai
 have cl := ai.max
 refine dT (i := 6) rfl rfl (by kernel_rfl) (fun _ hS => b4 ag65 rfl hS.2.1) ⟨h.bx.reads, ac, ad⟩ ?_
 refine dT (i := 7) rfl rfl (by kernel_rfl) (fun _ _ => zQ (v := (.pointer (some ⟨p, 0, none⟩))) rfl) ⟨h.bx.reads, ac, ad⟩ ?_
 refine dT (i := 8) rfl rfl (by kernel_rfl) (fun _ _ => yV rfl) ⟨h.bx.reads, ac, ad⟩ ?_
 refine dT (i := 9) rfl rfl (by kernel_rfl) (fun _ _ => zJ (k := 1) rfl Tryz.underlying72 rfl nz66 rfl) ⟨h.bx.reads, ac, ad⟩ ?_
 refine dT (i := 10) rfl rfl (by kernel_rfl) (fun _ hS => zK (u := R) ag66 rfl (hS.1 1 _ rfl)) ⟨h.bx.reads, ac, ad⟩ ?_
 refine dT (i := 11) rfl rfl (by kernel_rfl) (fun _ _ => zQ (v := (vJ a)) rfl) ⟨h.bx.reads, ac, ad⟩ ?_
 refine dT (i := 12) rfl rfl (by kernel_rfl) (fun _ _ => zG Tryz.underlying66 sz65 (v := R) rfl rfl b3 (by omega) (by omega)) ⟨h.bx.reads, ac, ad⟩ ?_
 obtain ⟨ag, aj, b5⟩ := nm_sl (hpk.rr.at (z := a) (by omega) (by omega)) (j := (a).toNat) rfl
 rw [mapr_getD] at aj
 have cm := aj.max
 refine dT (i := 13) rfl rfl (by kernel_rfl) (fun _ hS => b5 ag65 rfl hS.2.2) ⟨h.bx.reads, ac, ad⟩ ?_
 refine dT (i := 14) rfl rfl (by kernel_rfl) (fun _ _ => qC (v := af) rfl) ⟨h.bx.reads, ac, ad⟩ ?_
 refine dT (i := 15) rfl rfl (by kernel_rfl) (fun _ _ => qC (v := ag) rfl) ⟨h.bx.reads, ac, ad⟩ ?_
 refine yS (by kernel_rfl) ?_
 refine zA (zB (zB (zC ?_)))
 refine qM af ?_
 refine qD rfl (zM Tryz.underlying65 (v := af) rfl ai) ?_
 refine qD rfl (r_gtr rfl rfl) ?_
 refine qM (.bool (decide ((1 : Int) < (((q.ns.getD (a).toNat default).l).length : Int)))) ?_
 refine qbd (p := (1 : Int) < (((q.ns.getD (a).toNat default).l).length : Int)) (t := 28) rfl (fun b6 => ?_) (fun b6 => ?_)
 ·skip
  refine qW ?_
  refine qW ?_
  refine qW ?_
  refine qD rfl (yJ (v := (.bool true)) rfl rfl) ?_
  refine qe (zA ?_)
  refine qR rfl rfl ?_
  refine zB (zC ?_)
  refine qM (.bool false) ?_
  refine qe (zA ?_)
  refine wp_ret ?_
  refine zP ?_
  refine zO (v := (.bool false)) rfl rfl rfl ?_
  exact ⟨q, _, congrArg (fun z => Ending.returned (Value.bool z)) ((decP_false.2 (fun g => by have h5 := (hnp.1 g).1; omega)).symm), h, hok, (PX.refl _), ⟨rfl, rfl⟩, a7⟩
 refine qN (zQ (v := ag) rfl) ?_
 refine qN (zM Tryz.underlying65 (v := ag) rfl aj) ?_
 refine qN (r_gtr rfl rfl) ?_
 refine qD rfl (yA (v := (.bool (decide ((1 : Int) < (((q.ns.getD (a).toNat default).r).length : Int))))) rfl rfl) ?_
 refine qe (zA ?_)
 refine zZ (p := (1 : Int) < (((q.ns.getD (a).toNat default).r).length : Int)) rfl rfl (fun b7 => ?_) (fun b7 => ?_)
 ·skip
  refine zB (zC ?_)
  refine qM (.bool false) ?_
  refine qe (zA ?_)
  refine wp_ret ?_
  refine zP ?_
  refine zO (v := (.bool false)) rfl rfl rfl ?_
  exact ⟨q, _, congrArg (fun z => Ending.returned (Value.bool z)) ((decP_false.2 (fun g => by have h5 := (hnp.1 g).1; omega)).symm), h, hok, (PX.refl _), ⟨rfl, rfl⟩, a7⟩
 refine wp_skip ?_
 refine zA (zB (zB (zC ?_)))
 refine qM af ?_
 refine qD rfl (zM Tryz.underlying65 (v := af) rfl ai) ?_
 refine qM (vJ 0) ?_
 refine qe (zA ?_)
 refine zW ?_
 refine yR (fun (k : Nat) (en : Nat → Value) (W : World) => ∃ (av : Nat → Value) (j : Nat) (aa : PSt) (ao : Pin), en = (upd (upd (upd (upd (upd (upd av 0 (.pointer (some ⟨p, 0, none⟩))) 5 af) 6 ag) 33 af) 34 (vJ (((q.ns.getD (a).toNat default).l).length : Int))) 35 (vJ (j : Int))) ∧ k = (q.ns.getD (a).toNat default).l.length - j ∧ Ext (inO (some mm.o)) G w ao W ∧ Pin.le G ao ∧ (j ≤ (q.ns.getD (a).toNat default).l.length) ∧ (∀ x, x < j → NumD (pd q ((q.ns.getD (a).toNat default).l.getD x 0))) ∧ (Pk 65 3 ao W p L R B mm aa) ∧ (PoolOk aa) ∧ (PX q aa) ∧ (aa.ns = q.ns ∧ aa.bs = q.bs)) _ ⟨_, 0, q, G, (pS 35 (pS 34 (pS 33 (pS 6 (pS 5 (pU 0)))))), rfl, a7, Pin.le_refl _, Nat.zero_le _, (fun x hx => absurd hx (Nat.not_lt_zero x)), h, hok, (PX.refl _), ⟨rfl, rfl⟩⟩ ?_
 rintro cn _ co ⟨av, j, aa, ao, rfl, cp, a2, aw, hjj, hpj, bk, a3, an, ab⟩
 have cq := an.len
 have cr : (aa.ns.map Nd.l).length = aa.ns.length ∧ (aa.ns.map Nd.r).length = aa.ns.length := ⟨List.length_map .., List.length_map ..⟩
 have cs : aa.bs.length = aa.ns.length ∧ aa.ns.length ≤ 1048576 := ⟨a3.ar.ok.len, a3.ar.ok.lim⟩
 refine zB (zC ?_)
 refine qD rfl (yT rfl rfl) ?_
 refine qe (zA (zB ?_))
 refine zZ (p := ((j : Int) : Int) < (((q.ns.getD (a).toNat default).l).length : Int)) rfl rfl (fun b8 => ?_) (fun b8 => ?_)
 ·skip
  refine wp_skip ?_
  refine zA (zB ?_)
  refine zW ?_
  refine zB (zC ?_)
  refine qD rfl (zG Tryz.underlying65 sz3 (v := af) rfl rfl ai (by omega) (by omega)) ?_
  refine qD rfl (zE (r := ((q.ns.getD (a).toNat default).l).getD j 0) rfl ag3 (z := (j : Int)) rfl ai (Pins.of_le a2.pins aw) (by omega) (by omega)) ?_
  refine qM (vJ (((q.ns.getD (a).toNat default).l).getD j 0)) ?_
  refine qe (zA (zB (zC ?_)))
  refine qM (.pointer (some ⟨p, 0, none⟩)) ?_
  refine qM (vJ (((q.ns.getD (a).toNat default).l).getD j 0)) ?_
  have bl : (q.ns.getD (a).toNat default).l.getD j 0 ∈ (q.ns.getD (a).toNat default).l := yB (show j < (q.ns.getD (a).toNat default).l.length by omega)
  have ct := hopl _ bl
  refine qI rfl (zI (vs := [(.pointer (some ⟨p, 0, none⟩)), (vJ (((q.ns.getD (a).toNat default).l).getD j 0))]) Tryz.func120 nm120 rfl rfl rfl ?_)
  refine Calls.mono (ih a2.pins bk a3 ⟨by omega, by rw [ab.1]; omega⟩ (by rw [xN ab]; exact hc.left ((lo_pd hok ha).2 ⟨_, bl, rfl⟩)) (by omega)) ?_
  rintro _ cu ⟨ak, b9, rfl, bm, a4, a8, a9, bn⟩
  refine ⟨_, rfl, ?_⟩
  have bo := a2.trans bn (fun i hi => xL i hi)
  have cv := a8.len
  have cw : (ak.ns.map Nd.l).length = ak.ns.length ∧ (ak.ns.map Nd.r).length = ak.ns.length := ⟨List.length_map .., List.length_map ..⟩
  have cx : ak.bs.length = ak.ns.length ∧ ak.ns.length ≤ 1048576 := ⟨a4.ar.ok.len, a4.ar.ok.lim⟩
  have cy := congrArg List.length a9.1
  refine qD rfl (xI rfl) ?_
  refine qe (zA ?_)
  refine xV rfl rfl (fun ba => ?_) (fun ba => ?_)
  ·skip
   refine wp_skip ?_
   refine zY ?_
   refine zA (zC ?_)
   refine qD rfl (yF rfl rfl (by omega)) ?_
   refine qM (vJ ((j : Int) + 1)) ?_
   refine qe ?_
   refine zX ?_
   refine ⟨_, ?_, _, rfl, _, j + 1, ak, b9, (pS 35 (pS 34 (pS 33 (pS 6 (pS 5 (pU 0)))))), rfl, bo, (Pin.le_trans aw bn.le), (by omega), (fun x h2 => if h3 : x = j then h3 ▸ (by have h5 := decP_true.1 ba; rwa [xN ab] at h5) else hpj x (by omega)), bm, a4, (PX.trans an a8), (zN ab a9)⟩
   omega
  refine zB (zC ?_)
  refine qM (.bool false) ?_
  refine qe (zA ?_)
  refine wp_ret ?_
  refine zP ?_
  refine zO (v := (.bool false)) rfl rfl rfl ?_
  exact ⟨ak, _, congrArg (fun z => Ending.returned (Value.bool z)) ((decP_false.2 (fun g => by have h5 := decP_false.1 ba; rw [xN ab] at h5; exact h5 ((hnp.1 g).2.1 j (by omega)))).symm), bm, a4, (PX.trans an a8), (zN ab a9), bo⟩
 refine wp_exit ?_
 refine zV ?_
 refine yI ?_
 refine yD ?_
 refine zA (zB (zB (zC ?_)))
 refine qM ag ?_
 refine qD rfl (zM Tryz.underlying65 (v := ag) rfl aj) ?_
 refine qM (vJ 0) ?_
 refine qe (zA ?_)
 refine zW ?_
 refine yR (fun (k : Nat) (en : Nat → Value) (W : World) => ∃ (av : Nat → Value) (i : Nat) (y : PSt) (ax : Pin), en = (upd (upd (upd (upd (upd (upd av 0 (.pointer (some ⟨p, 0, none⟩))) 5 af) 6 ag) 44 ag) 45 (vJ (((q.ns.getD (a).toNat default).r).length : Int))) 46 (vJ (i : Int))) ∧ k = (q.ns.getD (a).toNat default).r.length - i ∧ Ext (inO (some mm.o)) G w ax W ∧ Pin.le ao ax ∧ (i ≤ (q.ns.getD (a).toNat default).r.length) ∧ (∀ x, x < i → NumD (pd q ((q.ns.getD (a).toNat default).r.getD x 0))) ∧ (Pk 65 3 ax W p L R B mm y) ∧ (PoolOk y) ∧ (PX aa y) ∧ (y.ns = aa.ns ∧ y.bs = aa.bs)) _ ⟨_, 0, aa, ao, (pS 46 (pS 45 (pS 44 (pS 6 (pS 5 (pU 0)))))), rfl, a2, Pin.le_refl _, Nat.zero_le _, (fun x hx => absurd hx (Nat.not_lt_zero x)), bk, a3, (PX.refl _), ⟨rfl, rfl⟩⟩ ?_
 rintro cz _ bc ⟨av, i, y, ax, rfl, c0, ay, a5, hji, hpi, bp, ap, aq, ah⟩
 have c1 := aq.len
 have c2 : (y.ns.map Nd.l).length = y.ns.length ∧ (y.ns.map Nd.r).length = y.ns.length := ⟨List.length_map .., List.length_map ..⟩
 have c3 : y.bs.length = y.ns.length ∧ y.ns.length ≤ 1048576 := ⟨ap.ar.ok.len, ap.ar.ok.lim⟩
 refine zB (zC ?_)
 refine qD rfl (yT rfl rfl) ?_
 refine qe (zA (zB ?_))
 refine zZ (p := ((i : Int) : Int) < (((q.ns.getD (a).toNat default).r).length : Int)) rfl rfl (fun ca => ?_) (fun ca => ?_)
 ·skip
  refine wp_skip ?_
  refine zA (zB ?_)
  refine zW ?_
  refine zB (zC ?_)
  refine qD rfl (zG Tryz.underlying65 sz3 (v := ag) rfl rfl aj (by omega) (by omega)) ?_
  refine qD rfl (zE (r := ((q.ns.getD (a).toNat default).r).getD i 0) rfl ag3 (z := (i : Int)) rfl aj (Pins.of_le ay.pins (Pin.le_trans aw a5)) (by omega) (by omega)) ?_
  refine qM (vJ (((q.ns.getD (a).toNat default).r).getD i 0)) ?_
  refine qe (zA (zB (zC ?_)))
  refine qM (.pointer (some ⟨p, 0, none⟩)) ?_
  refine qM (vJ (((q.ns.getD (a).toNat default).r).getD i 0)) ?_
  have bq : (q.ns.getD (a).toNat default).r.getD i 0 ∈ (q.ns.getD (a).toNat default).r := yB (show i < (q.ns.getD (a).toNat default).r.length by omega)
  have c4 := hopr _ bq
  refine qI rfl (zI (vs := [(.pointer (some ⟨p, 0, none⟩)), (vJ (((q.ns.getD (a).toNat default).r).getD i 0))]) Tryz.func120 nm120 rfl rfl rfl ?_)
  refine Calls.mono (ih ay.pins bp ap ⟨by omega, by rw [(zN ab ah).1]; omega⟩ (by rw [xN (zN ab ah)]; exact hc.right ((ro_pd hok ha).2 ⟨_, bq, rfl⟩)) (by omega)) ?_
  rintro _ c5 ⟨al, cb, rfl, br, a6, bd, be, bt⟩
  refine ⟨_, rfl, ?_⟩
  have bu := ay.trans bt (fun i hi => xL i hi)
  have c6 := bd.len
  have c7 : (al.ns.map Nd.l).length = al.ns.length ∧ (al.ns.map Nd.r).length = al.ns.length := ⟨List.length_map .., List.length_map ..⟩
  have c8 : al.bs.length = al.ns.length ∧ al.ns.length ≤ 1048576 := ⟨a6.ar.ok.len, a6.ar.ok.lim⟩
  have c9 := congrArg List.length be.1
  refine qD rfl (xI rfl) ?_
  refine qe (zA ?_)
  refine xV rfl rfl (fun bf => ?_) (fun bf => ?_)
  ·skip
   refine wp_skip ?_
   refine zY ?_
   refine zA (zC ?_)
   refine qD rfl (yF rfl rfl (by omega)) ?_
   refine qM (vJ ((i : Int) + 1)) ?_
   refine qe ?_
   refine zX ?_
   refine ⟨_, ?_, _, rfl, _, i + 1, al, cb, (pS 46 (pS 45 (pS 44 (pS 6 (pS 5 (pU 0)))))), rfl, bu, (Pin.le_trans a5 bt.le), (by omega), (fun x h2 => if h3 : x = i then h3 ▸ (by have h5 := decP_true.1 bf; rwa [xN (zN ab ah)] at h5) else hpi x (by omega)), br, a6, (PX.trans aq bd), (zN ah be)⟩
   omega
  refine zB (zC ?_)
  refine qM (.bool false) ?_
  refine qe (zA ?_)
  refine wp_ret ?_
  refine zP ?_
  refine zO (v := (.bool false)) rfl rfl rfl ?_
  exact ⟨al, _, congrArg (fun z => Ending.returned (Value.bool z)) ((decP_false.2 (fun g => by have h5 := decP_false.1 bf; rw [xN (zN ab ah)] at h5; exact h5 ((hnp.1 g).2.2.1 i (by omega)))).symm), br, a6, (PX.trans (PX.trans an aq) bd), (zN (zN ab ah) be), bu⟩
 refine wp_exit ?_
 refine zV ?_
 refine yI ?_
 refine yD ?_
 refine zA (zB ?_)
 refine xB (S := fun wz => Pins ax wz) (last := 20) (by kernel_rfl) rfl ?_
 have bg : Below bc.heap.size bc bc.drew := (Below.refl _ _).drew
 have bv := ay.pins.below bg
 have d := ay.step bv bg
 have bh := bp.below bg bv
 refine dM 0 af d.pins ?_
 refine dT (i := 1) rfl rfl (by kernel_rfl) (fun _ _ => zM Tryz.underlying65 (v := af) rfl ai) d.pins ?_
 refine dT (i := 2) rfl rfl (by kernel_rfl) (fun _ _ => xT rfl rfl) d.pins ?_
 refine dM 3 (.bool (decide (((((q.ns.getD (a).toNat default).l).length : Int) : Int) = 0))) d.pins ?_
 refine drbd (p := ((((q.ns.getD (a).toNat default).l).length : Int) : Int) = 0) (t := 58) rfl (fun cc => ?_) (fun cc => ?_)
 ·skip
  refine yK (i := 4) rfl rfl (yQ rfl rfl rfl rfl rfl) (by kernel_rfl) d.pins ?_
  refine yK (i := 5) rfl rfl (yQ rfl rfl rfl rfl rfl) (by kernel_rfl) d.pins ?_
  refine yK (i := 6) rfl rfl (yQ rfl rfl rfl rfl rfl) (by kernel_rfl) d.pins ?_
  refine dT (i := 7) rfl rfl (by kernel_rfl) (fun _ _ => yJ (v := (.bool true)) rfl rfl) d.pins ?_
  refine dM 8 (.bool true) d.pins ?_
  refine yK (i := 9) rfl rfl (yQ rfl rfl rfl rfl rfl) (by kernel_rfl) d.pins ?_
  refine yK (i := 10) rfl rfl (yQ rfl rfl rfl rfl rfl) (by kernel_rfl) d.pins ?_
  refine yK (i := 11) rfl rfl (yQ rfl rfl rfl rfl rfl) (by kernel_rfl) d.pins ?_
  refine yK (i := 12) rfl rfl (yQ rfl rfl rfl rfl rfl) (by kernel_rfl) d.pins ?_
  refine yK (i := 13) rfl rfl (yQ rfl rfl rfl rfl rfl) (by kernel_rfl) d.pins ?_
  refine yK (i := 14) rfl rfl (yQ rfl rfl rfl rfl rfl) (by kernel_rfl) d.pins ?_
  refine yK (i := 15) rfl rfl (yQ rfl rfl rfl rfl rfl) (by kernel_rfl) d.pins ?_
  refine yK (i := 16) rfl rfl (yQ rfl rfl rfl rfl rfl) (by kernel_rfl) d.pins ?_
  refine yK (i := 17) rfl rfl (yQ rfl rfl rfl rfl rfl) (by kernel_rfl) d.pins ?_
  refine dT (i := 18) rfl rfl (by kernel_rfl) (fun _ _ => yJ (v := (.bool true)) rfl rfl) d.pins ?_
  refine dM 19 (.bool true) d.pins ?_
  refine yS (by kernel_rfl) ?_
  refine zA ?_
  refine wp_ret ?_
  refine zP ?_
  refine zO (v := (.bool true)) rfl rfl rfl ?_
  exact ⟨y, _, congrArg (fun z => Ending.returned (Value.bool z)) ((decP_true.2 (hnp.2 ⟨⟨by omega, by omega⟩, fun x hx => hpj x (by omega), fun x hx => hpi x (by omega), (fun h1 h2 => by omega)⟩)).symm), bh, ap, (PX.trans an aq), (zN ab ah), d⟩
 refine yY (i := 4) rfl rfl rfl (yN rfl rfl rfl rfl) (by kernel_rfl) (fun _ _ => zQ (v := ag) rfl) d.pins ?_
 refine yY (i := 5) rfl rfl rfl (yN rfl rfl rfl rfl) (by kernel_rfl) (fun _ _ => zM Tryz.underlying65 (v := ag) rfl aj) d.pins ?_
 refine yY (i := 6) rfl rfl rfl (yN rfl rfl rfl rfl) (by kernel_rfl) (fun _ _ => xT rfl rfl) d.pins ?_
 refine dT (i := 7) rfl rfl (by kernel_rfl) (fun _ _ => yA (v := (.bool (decide (((((q.ns.getD (a).toNat default).r).length : Int) : Int) = 0)))) rfl rfl) d.pins ?_
 refine dM 8 (.bool (decide (((((q.ns.getD (a).toNat default).r).length : Int) : Int) = 0))) d.pins ?_
 refine drbd (p := ((((q.ns.getD (a).toNat default).r).length : Int) : Int) = 0) (t := 63) rfl (fun ce => ?_) (fun ce => ?_)
 ·skip
  refine yK (i := 9) rfl rfl (yQ rfl rfl rfl rfl rfl) (by kernel_rfl) d.pins ?_
  refine yK (i := 10) rfl rfl (yQ rfl rfl rfl rfl rfl) (by kernel_rfl) d.pins ?_
  refine yK (i := 11) rfl rfl (yQ rfl rfl rfl rfl rfl) (by kernel_rfl) d.pins ?_
  refine yK (i := 12) rfl rfl (yQ rfl rfl rfl rfl rfl) (by kernel_rfl) d.pins ?_
  refine yK (i := 13) rfl rfl (yQ rfl rfl rfl rfl rfl) (by kernel_rfl) d.pins ?_
  refine yK (i := 14) rfl rfl (yQ rfl rfl rfl rfl rfl) (by kernel_rfl) d.pins ?_
  refine yK (i := 15) rfl rfl (yQ rfl rfl rfl rfl rfl) (by kernel_rfl) d.pins ?_
  refine yK (i := 16) rfl rfl (yQ rfl rfl rfl rfl rfl) (by kernel_rfl) d.pins ?_
  refine yK (i := 17) rfl rfl (yQ rfl rfl rfl rfl rfl) (by kernel_rfl) d.pins ?_
  refine dT (i := 18) rfl rfl (by kernel_rfl) (fun _ _ => yJ (v := (.bool true)) rfl rfl) d.pins ?_
  refine dM 19 (.bool true) d.pins ?_
  refine yS (by kernel_rfl) ?_
  refine zA ?_
  refine wp_ret ?_
  refine zP ?_
  refine zO (v := (.bool true)) rfl rfl rfl ?_
  exact ⟨y, _, congrArg (fun z => Ending.returned (Value.bool z)) ((decP_true.2 (hnp.2 ⟨⟨by omega, by omega⟩, fun x hx => hpj x (by omega), fun x hx => hpi x (by omega), (fun h1 h2 => by omega)⟩)).symm), bh, ap, (PX.trans an aq), (zN ab ah), d⟩
 refine yY (i := 9) rfl rfl rfl (yN rfl rfl rfl rfl) (by kernel_rfl) (fun _ _ => zQ (v := (.pointer (some ⟨p, 0, none⟩))) rfl) d.pins ?_
 refine yY (i := 10) rfl rfl rfl (yN rfl rfl rfl rfl) (by kernel_rfl) (fun _ _ => zQ (v := af) rfl) d.pins ?_
 refine yY (i := 11) rfl rfl rfl (yN rfl rfl rfl rfl) (by kernel_rfl) (fun _ _ => zG Tryz.underlying65 sz3 (v := af) rfl rfl ai (by omega) (by omega)) d.pins ?_
 refine yY (i := 12) rfl rfl rfl (yN rfl rfl rfl rfl) (by kernel_rfl) (fun _ hS => zE (r := ((q.ns.getD (a).toNat default).l).getD 0 0) rfl ag3 (z := 0) rfl ai (Pins.of_le hS (Pin.le_trans aw a5)) (by omega) (by omega)) d.pins ?_
 refine yY (i := 13) rfl rfl rfl (yN rfl rfl rfl rfl) (by kernel_rfl) (fun _ _ => zQ (v := ag) rfl) d.pins ?_
 refine yY (i := 14) rfl rfl rfl (yN rfl rfl rfl rfl) (by kernel_rfl) (fun _ _ => zG Tryz.underlying65 sz3 (v := ag) rfl rfl aj (by omega) (by omega)) d.pins ?_
 refine yY (i := 15) rfl rfl rfl (yN rfl rfl rfl rfl) (by kernel_rfl) (fun _ hS => zE (r := ((q.ns.getD (a).toNat default).r).getD 0 0) rfl ag3 (z := 0) rfl aj (Pins.of_le hS (Pin.le_trans aw a5)) (by omega) (by omega)) d.pins ?_
 have hm0l : (q.ns.getD (a).toNat default).l.getD 0 0 ∈ (q.ns.getD (a).toNat default).l := yB (by omega)
 have hm0r : (q.ns.getD (a).toNat default).r.getD 0 0 ∈ (q.ns.getD (a).toNat default).r := yB (by omega)
 have hb0l := hopl _ hm0l
 have hb0r := hopr _ hm0r
 refine dO (i := 16) (zU (i := 16) rfl rfl rfl (yN rfl rfl rfl rfl) (zI (vs := [(.pointer (some ⟨p, 0, none⟩)), (vJ (((q.ns.getD (a).toNat default).l).getD 0 0)), (vJ (((q.ns.getD (a).toNat default).r).getD 0 0))]) Tryz.func54 nm54 rfl rfl rfl ?_))
 refine Calls.mono (ge_spec d.pins bh ap ⟨by omega, by rw [(zN ab ah).1]; omega⟩ ⟨by omega, by rw [(zN ab ah).1]; omega⟩) ?_
 rintro _ da ⟨am, db, rfl, cf, bi, bw, bz, az⟩
 refine ⟨_, rfl, ?_⟩
 have a0 := d.trans az (fun i hi => xL i hi)
 have dc := bw.len
 have dd : (am.ns.map Nd.l).length = am.ns.length ∧ (am.ns.map Nd.r).length = am.ns.length := ⟨List.length_map .., List.length_map ..⟩
 have de : am.bs.length = am.ns.length ∧ am.ns.length ≤ 1048576 := ⟨bi.ar.ok.len, bi.ar.ok.lim⟩
 have df := congrArg List.length bz.1
 refine ⟨fun _ => (Pins.of_le a0.pins az.le), ?_⟩
 refine yY (i := 17) rfl rfl rfl (yN rfl rfl rfl rfl) (by kernel_rfl) (fun _ _ => xI rfl) (Pins.of_le a0.pins az.le) ?_
 refine dT (i := 18) rfl rfl (by kernel_rfl) (fun _ _ => yA (v := (.bool (!(geB y.ns (((q.ns.getD (a).toNat default).l).getD 0 0) (((q.ns.getD (a).toNat default).r).getD 0 0))))) rfl rfl) (Pins.of_le a0.pins az.le) ?_
 refine dM 19 (.bool (!(geB y.ns (((q.ns.getD (a).toNat default).l).getD 0 0) (((q.ns.getD (a).toNat default).r).getD 0 0)))) (Pins.of_le a0.pins az.le) ?_
 refine yS (by kernel_rfl) ?_
 refine zA ?_
 refine wp_ret ?_
 refine zP ?_
 refine zO (v := (.bool (!(geB y.ns (((q.ns.getD (a).toNat default).l).getD 0 0) (((q.ns.getD (a).toNat default).r).getD 0 0))))) rfl rfl rfl ?_
 exact ⟨am, _, congrArg (fun z => Ending.returned (Value.bool z)) ((by
   have hgq := xR (a := (q.ns.getD (a).toNat default).l.getD 0 0) (b := (q.ns.getD (a).toNat default).r.getD 0 0) (zN ab ah)
   rw [hgq]
   cases hgv : geB q.ns ((q.ns.getD (a).toNat default).l.getD 0 0) ((q.ns.getD (a).toNat default).r.getD 0 0) with
   | true => exact (decP_false.2 (fun g => by have h5 := (hnp.1 g).2.2.2 (by omega) (by omega); rw [hgv] at h5; cases h5)).symm
   | false => exact (decP_true.2 (hnp.2 ⟨⟨by omega, by omega⟩, fun x hx => hpj x (by omega), fun x hx => hpi x (by omega), (fun _ _ => hgv)⟩)).symm)), cf, bi, (PX.trans (PX.trans an aq) bw), (zN (zN ab ah) bz), a0⟩

theorem isn_all {p : Nat} {L R B : Value} {mm : PM} : ∀ m, IsnP m p L R B mm
 | 0 => fun _ _ _ _ _ h => absurd h (Nat.not_lt_zero _)
 | m + 1 => fun hP hpk hok ha hc hm => isNumber_step hP hpk hok ha hc (isn_all m) hm
theorem isNumber_spec {p : Nat} {L R B : Value} {mm : PM} {w : World} {G : Pin} {q : PSt} {a : Int} (hP : Pins G w) (hpk : Pk 65 3 G w p L R B mm q) (hok : PoolOk q) (ha : PlaceOk q a) (hc : CanonG (pd q a)) :
  Calls Tryz.prog 120 [(.pointer (some ⟨p, 0, none⟩)), (.int .i64 a)].toArray w fun e w' => ∃ (q' : PSt) (G' : Pin), e = .returned (.bool (decP (NumD (pd q a)))) ∧ Pk 65 3 G' w' p L R B mm q' ∧ PoolOk q' ∧ PX q q' ∧ (q'.ns = q.ns ∧ q'.bs = q.bs) ∧ Ext (inO (some mm.o)) G w G' w' :=
 isn_all _ hP hpk hok ha hc (Nat.lt_succ_self _)

end VA1
end Go.Proofs.YtfnginkcmcfdfaaGreatDoor

set_option maxRecDepth 20000
set_option maxHeartbeats 2000000
namespace Go.Proofs.YtfnginkcmcfdfaaGreatDoor
namespace VA2
open Go.RowKit Go.GL Go.Proofs
open Go.Proofs.YtfnginkcmcfdfaaGreatDoor.B1
open Go.Proofs.YtfnginkcmcfdfaaGreatDoor.NU1
open Go.Proofs.YtfnginkcmcfdfaaGreatDoor.NU2






theorem pl34 : (Tryz.prog.underlying 34).bind (placesD Tryz.prog) = some [(0, 1), (1, 1)] := by kernel_rfl


theorem scaled_spec {w : World} {G : Pin} {t z : Int} (hP : Pins G w) (ht : -10000000 ≤ t ∧ t ≤ 10000000) (hz : 0 ≤ z ∧ z ≤ 16) :
  Calls Tryz.prog 123 [(.agg [(.int .i64 t), (.int .i64 z)].toArray)].toArray w fun e w' => ∃ G', e = .returned (.int .i64 (scI 16 t z)) ∧ Ext noS G w G' w' := by
 refine zT (n := 9) Tryz.func123 Tryz.ntmps123 rfl rfl ?_
 have a : Ext noS G w G w := Ext.refl hP
 have hsl := shl_lim (t := t) (k := (16 - z).toNat) ht (by omega)
 refine zB (zC ?_)
 refine qI rfl (xJ [(.int .i64 t), (.int .i64 z)] (v := (.agg [(.int .i64 t), (.int .i64 z)].toArray)) rfl rfl a.pins (fun d l m f g h => ?_))
 have i := a.step g h
 have j : w.heap.size ≤ d := by have := a.size; omega
 obtain ⟨o, p, b, c, q⟩ := f.shut i j
 refine qM (.int .i64 0) ?_
 refine qe (zA (zB (zC ?_)))
 refine qD rfl (zJ (k := 0) rfl Tryz.underlying34 rfl nz3 rfl) ?_
 refine qD rfl (zK (u := (.int .i64 t)) ag3 rfl (b.pins _ _ _ (c 0 _ rfl))) ?_
 refine qD rfl (zJ (k := 1) rfl Tryz.underlying34 rfl nz3 rfl) ?_
 refine qD rfl (zK (u := (.int .i64 z)) ag3 rfl (b.pins _ _ _ (c 1 _ rfl))) ?_
 refine qD rfl (qB rfl rfl (by omega)) ?_
 refine qD rfl (r_shlI rfl rfl (by omega) (by omega)) ?_
 refine qM (.int .i64 (t * 2 ^ (16 - z : Int).toNat)) ?_
 refine qe (zA ?_)
 refine wp_ret ?_
 refine zP ?_
 refine zO (v := (.int .i64 (t * 2 ^ (16 - z : Int).toNat))) rfl rfl rfl ?_
 exact ⟨_, rfl, b⟩

theorem addDyadic_spec {w : World} {G : Pin} {t z s y : Int} (hP : Pins G w) (hg1 : GoodD t z) (hg2 : GoodD s y) :
  Calls Tryz.prog 121 [(.agg [(vJ t), (vJ z)].toArray), (.agg [(vJ s), (vJ y)].toArray)].toArray w fun e w' => ∃ G', e = .returned (.tuple #[.agg [.int .i64 (lowR (decP (GoodD (lowD 16 (scI 16 t z + scI 16 s y)).1 (((lowD 16 (scI 16 t z + scI 16 s y)).2 : Nat) : Int))) (lowD 16 (scI 16 t z + scI 16 s y)).1), .int .i64 (lowR (decP (GoodD (lowD 16 (scI 16 t z + scI 16 s y)).1 (((lowD 16 (scI 16 t z + scI 16 s y)).2 : Nat) : Int))) (((lowD 16 (scI 16 t z + scI 16 s y)).2 : Nat) : Int))].toArray, .bool (decP (GoodD (lowD 16 (scI 16 t z + scI 16 s y)).1 (((lowD 16 (scI 16 t z + scI 16 s y)).2 : Nat) : Int)))]) ∧ Ext noS G w G' w' := by
 refine zT (n := 23) Tryz.func121 Tryz.ntmps121 rfl rfl ?_
 have o : Ext noS G w G w := Ext.refl hP
 have h1t := hg1.top
 have h1p := hg1.pow
 have h2t := hg2.top
 have h2p := hg2.pow
 have bh := scI_lim (D := 16) (t := t) (z := z) (by omega) (by omega)
 have bi := scI_lim (D := 16) (t := s) (z := y) (by omega) (by omega)
 refine zB (zC ?_)
 refine qI rfl (xJ [(vJ t), (vJ z)] (v := (.agg [(vJ t), (vJ z)].toArray)) rfl rfl o.pins (fun b1 w2 bk ao ap aq => ?_))
 have ar := o.step ap aq
 have au : w.heap.size ≤ b1 := by have := o.size; omega
 obtain ⟨G9, bm, q, ag, bn⟩ := ao.shut ar au
 refine qI rfl (xJ [(vJ s), (vJ y)] (v := (.agg [(vJ s), (vJ y)].toArray)) rfl rfl q.pins (fun av bo bp aw ax ay => ?_))
 have az := q.step ax ay
 have a0 : w.heap.size ≤ av := by have := q.size; omega
 obtain ⟨bq, ah, r, ai, br⟩ := aw.shut az a0
 refine qI rfl (yO [(vJ 0), (vJ 0)] zr34 rfl r.pins (fun a1 bs bt a2 a3 a4 => ?_))
 have x := r.step a3 a4
 have a5 : w.heap.size ≤ a1 := by have := r.size; omega
 refine qM (.bool false) ?_
 refine qe (zA (zB (zB (zC ?_))))
 refine qD rfl (yL (cs := [(vJ t), (vJ z)]) ag34 sz34 rfl (fun j u hj => (Pins.of_le x.pins ah) _ _ _ (ag _ _ (by simpa using hj)))) ?_
 refine qI rfl (zI (vs := [(.agg [(vJ t), (vJ z)].toArray)]) Tryz.func101 nm101 rfl rfl rfl ?_)
 refine Calls.mono (jE (t := t) (z := z) x.pins) ?_
 rintro _ bu ⟨bv, rfl, d⟩
 refine ⟨_, rfl, ?_⟩
 have g := x.tr d
 have aj := a2.ext d
 refine qD rfl (xI rfl) ?_
 refine qM (.bool (!(decP (GoodD t z)))) ?_
 refine qbn (t := 9) rfl (fun ak => ?_) (fun ak => ?_)
 ·skip
  refine qN (yL (cs := [(vJ s), (vJ y)]) ag34 sz34 rfl (fun j u hj => (Pins.of_le g.pins d.le) _ _ _ (ai _ _ (by simpa using hj)))) ?_
  refine q1g rfl rfl rfl rfl rfl rfl (zI (vs := [(.agg [(vJ s), (vJ y)].toArray)]) Tryz.func101 nm101 rfl rfl rfl ?_)
  refine Calls.mono (jE (t := s) (z := y) g.pins) ?_
  rintro _ aa ⟨a6, rfl, k⟩
  refine ⟨_, rfl, ?_⟩
  have ab := g.tr k
  have al := aj.ext k
  refine qN (xI rfl) ?_
  refine qD rfl (yA (v := (.bool (!(decP (GoodD s y))))) rfl rfl) ?_
  refine qe (zA ?_)
  refine xV rfl rfl (fun am => ?_) (fun am => ?_)
  ·skip
   refine wp_skip ?_
   refine zA (zB ?_)
   refine xB (S := fun wz => Pins a6 wz) (last := 10) (by kernel_rfl) rfl ?_
   have ac : Below aa.heap.size aa aa.drew := (Below.refl _ _).drew
   have a7 := ab.pins.below ac
   have l := ab.step a7 ac
   have a8 := al.below ac
   refine dT (i := 0) rfl rfl (by kernel_rfl) (fun _ hS => yL (cs := [(vJ t), (vJ z)]) ag34 sz34 rfl (fun j u hj => (Pins.of_le hS (Pin.le_trans (Pin.le_trans ah d.le) k.le)) _ _ _ (ag _ _ (by simpa using hj)))) l.pins ?_
   refine dT (i := 2) rfl rfl (by kernel_rfl) (fun _ hS => yL (cs := [(vJ s), (vJ y)]) ag34 sz34 rfl (fun j u hj => (Pins.of_le hS (Pin.le_trans d.le k.le)) _ _ _ (ai _ _ (by simpa using hj)))) l.pins ?_
   refine dO (i := 1) (zU (i := 1) rfl rfl rfl (zD rfl _) (zI (vs := [(.agg [(vJ t), (vJ z)].toArray)]) Tryz.func123 nm123 rfl rfl rfl ?_))
   refine Calls.mono (scaled_spec (t := t) (z := z) l.pins (by omega) (by omega)) ?_
   rintro _ bw ⟨bx, rfl, a⟩
   refine ⟨_, rfl, ?_⟩
   have ad := l.tr a
   have a9 := a8.ext a
   refine ⟨fun _ => (Pins.of_le ad.pins a.le), ?_⟩
   refine dO (i := 3) (zU (i := 3) rfl rfl rfl (zD rfl _) (zI (vs := [(.agg [(vJ s), (vJ y)].toArray)]) Tryz.func123 nm123 rfl rfl rfl ?_))
   refine Calls.mono (scaled_spec (t := s) (z := y) ad.pins (by omega) (by omega)) ?_
   rintro _ bz ⟨b0, rfl, b⟩
   refine ⟨_, rfl, ?_⟩
   have m := ad.tr b
   have ba := a9.ext b
   refine ⟨fun _ => (Pins.of_le m.pins (Pin.le_trans a.le b.le)), ?_⟩
   refine dT (i := 4) rfl rfl (by kernel_rfl) (fun _ _ => yF rfl rfl (by omega)) (Pins.of_le m.pins (Pin.le_trans a.le b.le)) ?_
   refine dO (i := 5) (zU (i := 5) rfl rfl rfl (zD rfl _) (zI (vs := [(vJ ((scI 16 t z) + (scI 16 s y))), (vJ 16)]) Tryz.func122 nm122 rfl rfl rfl ?_))
   refine Calls.mono (lowest_spec (t := (scI 16 t z) + (scI 16 s y)) (p := 16) m.pins (by omega) (by omega)) ?_
   rintro _ b2 ⟨b3, rfl, c⟩
   refine ⟨_, rfl, ?_⟩
   have f := m.tr c
   have bb := ba.ext c
   refine ⟨fun _ => (Pins.of_le f.pins (Pin.le_trans (Pin.le_trans a.le b.le) c.le)), ?_⟩
   refine dT (i := 6) rfl rfl (by kernel_rfl) (fun _ _ => yG (v := (.agg [(vJ (lowR (decP (GoodD (lowD 16 ((scI 16 t z) + (scI 16 s y))).1 (((lowD 16 ((scI 16 t z) + (scI 16 s y))).2 : Nat) : Int))) (lowD 16 ((scI 16 t z) + (scI 16 s y))).1)), (vJ (lowR (decP (GoodD (lowD 16 ((scI 16 t z) + (scI 16 s y))).1 (((lowD 16 ((scI 16 t z) + (scI 16 s y))).2 : Nat) : Int))) (((lowD 16 ((scI 16 t z) + (scI 16 s y))).2 : Nat) : Int)))].toArray)) rfl rfl) (Pins.of_le f.pins (Pin.le_trans (Pin.le_trans a.le b.le) c.le)) ?_
   refine dT (i := 7) rfl rfl (by kernel_rfl) (fun _ _ => yG (v := (.bool (decP (GoodD (lowD 16 ((scI 16 t z) + (scI 16 s y))).1 (((lowD 16 ((scI 16 t z) + (scI 16 s y))).2 : Nat) : Int))))) rfl rfl) (Pins.of_le f.pins (Pin.le_trans (Pin.le_trans a.le b.le) c.le)) ?_
   refine dO (i := 8) (qH (i := 8) rfl rfl rfl (zD rfl _) (yP (cs' := [(vJ (lowR (decP (GoodD (lowD 16 ((scI 16 t z) + (scI 16 s y))).1 (((lowD 16 ((scI 16 t z) + (scI 16 s y))).2 : Nat) : Int))) (lowD 16 ((scI 16 t z) + (scI 16 s y))).1)), (vJ (lowR (decP (GoodD (lowD 16 ((scI 16 t z) + (scI 16 s y))).1 (((lowD 16 ((scI 16 t z) + (scI 16 s y))).2 : Nat) : Int))) (((lowD 16 ((scI 16 t z) + (scI 16 s y))).2 : Nat) : Int)))]) (us := [(vJ (lowR (decP (GoodD (lowD 16 ((scI 16 t z) + (scI 16 s y))).1 (((lowD 16 ((scI 16 t z) + (scI 16 s y))).2 : Nat) : Int))) (lowD 16 ((scI 16 t z) + (scI 16 s y))).1)), (vJ (lowR (decP (GoodD (lowD 16 ((scI 16 t z) + (scI 16 s y))).1 (((lowD 16 ((scI 16 t z) + (scI 16 s y))).2 : Nat) : Int))) (((lowD 16 ((scI 16 t z) + (scI 16 s y))).2 : Nat) : Int)))]) (v := (.agg [(vJ (lowR (decP (GoodD (lowD 16 ((scI 16 t z) + (scI 16 s y))).1 (((lowD 16 ((scI 16 t z) + (scI 16 s y))).2 : Nat) : Int))) (lowD 16 ((scI 16 t z) + (scI 16 s y))).1)), (vJ (lowR (decP (GoodD (lowD 16 ((scI 16 t z) + (scI 16 s y))).1 (((lowD 16 ((scI 16 t z) + (scI 16 s y))).2 : Nat) : Int))) (((lowD 16 ((scI 16 t z) + (scI 16 s y))).2 : Nat) : Int)))].toArray)) sz34 rfl rfl rfl (yW (by rfl) (by rfl)) f.pins bb (Nat.le_of_ble_eq_true rfl) rfl (fun b4 bc bd be b5 => ?_)))
   have ae := f.write bd be ((yC a5))
   refine ⟨fun _ => (Pins.of_le ae.pins (Pin.le_trans (Pin.le_trans a.le b.le) c.le)), ?_⟩
   refine dM 9 (.bool (decP (GoodD (lowD 16 ((scI 16 t z) + (scI 16 s y))).1 (((lowD 16 ((scI 16 t z) + (scI 16 s y))).2 : Nat) : Int)))) (Pins.of_le ae.pins (Pin.le_trans (Pin.le_trans a.le b.le) c.le)) ?_
   refine yS (by kernel_rfl) ?_
   refine zA ?_
   refine wp_ret ?_
   refine zP ?_
   refine xC (cs := [(vJ (lowR (decP (GoodD (lowD 16 ((scI 16 t z) + (scI 16 s y))).1 (((lowD 16 ((scI 16 t z) + (scI 16 s y))).2 : Nat) : Int))) (lowD 16 ((scI 16 t z) + (scI 16 s y))).1)), (vJ (lowR (decP (GoodD (lowD 16 ((scI 16 t z) + (scI 16 s y))).1 (((lowD 16 ((scI 16 t z) + (scI 16 s y))).2 : Nat) : Int))) (((lowD 16 ((scI 16 t z) + (scI 16 s y))).2 : Nat) : Int)))]) (v := (.bool (decP (GoodD (lowD 16 ((scI 16 t z) + (scI 16 s y))).1 (((lowD 16 ((scI 16 t z) + (scI 16 s y))).2 : Nat) : Int))))) rfl rfl rfl rfl rfl ag34 sz34 (fun j u hj => by rw [Nat.zero_add]; exact bc.cell hj) ?_
   exact ⟨_, rfl, ae⟩
  refine zB (zC ?_)
  refine qD rfl (yU [(vJ 0), (vJ 0)] [(vJ 0), (vJ 0)] [] Tryz.underlying34 zr34 rfl pl34 rfl (fun _ h => by cases h) rfl) ?_
  refine q0 rfl rfl rfl (yP (cs' := [(vJ 0), (vJ 0)]) (us := [(vJ 0), (vJ 0)]) (v := (.agg [(vJ 0), (vJ 0)].toArray)) sz34 rfl rfl rfl (yW (by rfl) (by rfl)) ab.pins al (Nat.le_of_ble_eq_true rfl) rfl (fun b6 bf b7 b8 b9 => ?_))
  refine qM (.bool false) ?_
  refine qe (zA ?_)
  refine wp_ret ?_
  refine zP ?_
  refine xC (cs := [(vJ 0), (vJ 0)]) (v := (.bool false)) rfl rfl rfl rfl rfl ag34 sz34 (fun j u hj => by rw [Nat.zero_add]; exact bf.cell hj) ?_
  exfalso
  have h5 := decP_false.1 am
  exact h5 hg2
 refine qW ?_
 refine qW ?_
 refine qW ?_
 refine qD rfl (yJ (v := (.bool true)) rfl rfl) ?_
 refine qe (zA ?_)
 refine qR rfl rfl ?_
 refine zB (zC ?_)
 refine qD rfl (yU [(vJ 0), (vJ 0)] [(vJ 0), (vJ 0)] [] Tryz.underlying34 zr34 rfl pl34 rfl (fun _ h => by cases h) rfl) ?_
 refine q0 rfl rfl rfl (yP (cs' := [(vJ 0), (vJ 0)]) (us := [(vJ 0), (vJ 0)]) (v := (.agg [(vJ 0), (vJ 0)].toArray)) sz34 rfl rfl rfl (yW (by rfl) (by rfl)) g.pins aj (Nat.le_of_ble_eq_true rfl) rfl (fun ca bg cb cc cd => ?_))
 refine qM (.bool false) ?_
 refine qe (zA ?_)
 refine wp_ret ?_
 refine zP ?_
 refine xC (cs := [(vJ 0), (vJ 0)]) (v := (.bool false)) rfl rfl rfl rfl rfl ag34 sz34 (fun j u hj => by rw [Nat.zero_add]; exact bg.cell hj) ?_
 exfalso
 have h5 := decP_false.1 ak
 exact h5 hg1

end VA2
end Go.Proofs.YtfnginkcmcfdfaaGreatDoor

set_option maxRecDepth 20000
set_option maxHeartbeats 2000000
namespace Go.Proofs.YtfnginkcmcfdfaaGreatDoor
namespace VA3
open Go.RowKit Go.GL Go.Proofs
open Go.Proofs.YtfnginkcmcfdfaaGreatDoor.B1
open Go.Proofs.YtfnginkcmcfdfaaGreatDoor.K1
open Go.Proofs.YtfnginkcmcfdfaaGreatDoor.PO1
open Go.Proofs.YtfnginkcmcfdfaaGreatDoor.PL1
open Go.Proofs.YtfnginkcmcfdfaaGreatDoor.NU1
open Go.Proofs.YtfnginkcmcfdfaaGreatDoor.NU2
open Go.Proofs.YtfnginkcmcfdfaaGreatDoor.VA1
open Go.Proofs.YtfnginkcmcfdfaaGreatDoor.VA2










theorem pl34 : (Tryz.prog.underlying 34).bind (placesD Tryz.prog) = some [(0, 1), (1, 1)] := by kernel_rfl




def ValP (m : Nat) (p : Nat) (L R B : Value) (mm : PM) : Prop := ∀ {w : World} {G : Pin} {q : PSt} {a : Int} (_ : Pins G w) (_ : Pk 65 3 G w p L R B mm q) (_ : PoolOk q) (_ : PlaceOk q a) (_ : CanonG (pd q a)), a.toNat < m →
  Calls Tryz.prog 68 [(.pointer (some ⟨p, 0, none⟩)), (.int .i64 a)].toArray w fun e w' => ∃ (q' : PSt) (G' : Pin), e = .returned (.tuple #[.agg [.int .i64 (vgT (pd q a)), .int .i64 (vgP (pd q a))].toArray, .bool (vgB (pd q a))]) ∧ Pk 65 3 G' w' p L R B mm q' ∧ PoolOk q' ∧ PX q q' ∧ (q'.ns = q.ns ∧ q'.bs = q.bs) ∧ Ext (inO (some mm.o)) G w G' w'

theorem valueOf_step {p : Nat} {L R B : Value} {mm : PM} {m : Nat} {w : World} {G : Pin} {q : PSt} {a : Int} (hP : Pins G w) (hpk : Pk 65 3 G w p L R B mm q) (hok : PoolOk q) (ha : PlaceOk q a) (hc : CanonG (pd q a)) (ih : ValP m p L R B mm) (hm : a.toNat < m + 1) :
  Calls Tryz.prog 68 [(.pointer (some ⟨p, 0, none⟩)), (vJ a)].toArray w fun e w' => ∃ (q' : PSt) (G' : Pin), e = .returned (.tuple #[.agg [.int .i64 (vgT (pd q a)), .int .i64 (vgP (pd q a))].toArray, .bool (vgB (pd q a))]) ∧ Pk 65 3 G' w' p L R B mm q' ∧ PoolOk q' ∧ PX q q' ∧ (q'.ns = q.ns ∧ q'.bs = q.bs) ∧ Ext (inO (some mm.o)) G w G' w' := by
 refine zT (n := 116) Tryz.func68 Tryz.ntmps68 rfl rfl ?_
 have cr : Ext (inO (some mm.o)) G w G w := Ext.refl hP
 have hpin : PIn w (inP p L R B mm) p L R B mm := PIn.self
 have jj : (q.ns.map Nd.l).length = q.ns.length ∧ (q.ns.map Nd.r).length = q.ns.length := ⟨List.length_map .., List.length_map ..⟩
 have jk : q.bs.length = q.ns.length ∧ q.ns.length ≤ 1048576 := ⟨hok.ar.ok.len, hok.ar.ok.lim⟩
 have jl := ha.1
 have jm := ha.2
 have d2 := hok.ar.ok.lens (a).toNat (by omega)
 have hopl := (xE hok.ar.opts (show (a).toNat < q.ns.length by omega)).1
 have hopr := (xE hok.ar.opts (show (a).toNat < q.ns.length by omega)).2
 have hnp := num_pool hok ha hc
 have hsl := pd_l hok ha
 have hsr := pd_r hok ha
 have hslr := pd_lr hok ha
 have hsnn := pd_nn hok ha
 obtain ⟨xs, hxs⟩ : ∃ l, l = (q.ns.getD (a).toNat default).l := ⟨_, rfl⟩
 obtain ⟨ys, hys⟩ : ∃ l, l = (q.ns.getD (a).toNat default).r := ⟨_, rfl⟩
 rw [← hxs] at d2 hopl hnp hsl hsr hslr hsnn
 rw [← hys] at d2 hopr hnp hsl hsr hslr hsnn
 refine zB (zC ?_)
 refine qI rfl (yO [(vJ 0), (vJ 0)] zr34 rfl cr.pins (fun b3 w4 gp gq d3 d4 => ?_))
 have d5 := cr.step d3 d4
 have gr := hpk.below d4 d3
 have am := hpk.new (x := (some b3)) (fun k hk => by rw [(congrArg some gp)] at hk; cases hk; exact Nat.le_refl _)
 have a1 : w.heap.size ≤ b3 := by have := cr.size; omega
 refine qM (.bool false) ?_
 refine qe (zA (zB (zB (zC ?_))))
 refine qM (.pointer (some ⟨p, 0, none⟩)) ?_
 refine qM (vJ a) ?_
 refine qI rfl (zI (vs := [(.pointer (some ⟨p, 0, none⟩)), (vJ a)]) Tryz.func120 nm120 rfl rfl rfl ?_)
 refine Calls.mono (isNumber_spec d5.pins gr hok ha hc) ?_
 rintro _ bg ⟨g, d6, rfl, ba, a7, ay, d, d7⟩
 refine ⟨_, rfl, ?_⟩
 have bb := d5.trans d7 (fun i hi => xL i hi)
 have d8 := gq.extS d7 (xX (NP.ho am))
 have jo := ay.len
 have jp : (g.ns.map Nd.l).length = g.ns.length ∧ (g.ns.map Nd.r).length = g.ns.length := ⟨List.length_map .., List.length_map ..⟩
 have jq : g.bs.length = g.ns.length ∧ g.ns.length ≤ 1048576 := ⟨a7.ar.ok.len, a7.ar.ok.lim⟩
 have jr := congrArg List.length d.1
 refine qD rfl (xI rfl) ?_
 refine qe (zA ?_)
 refine xV rfl rfl (fun ct => ?_) (fun ct => ?_)
 ·skip
  refine wp_skip ?_
  refine zA (zB ?_)
  have hnd : NumD (pd q a) := decP_true.1 ct
  have hni := hnp.1 hnd
  have js := hni.1
  have hnll : (g.ns.getD (a).toNat default).l.length = xs.length := by rw [d.1, hxs]
  have hnlr : (g.ns.getD (a).toNat default).r.length = ys.length := by rw [d.1, hys]
  have gs := Gadd.pins bb.pins L
  have gt := Gadd.pins bb.pins R
  have gu := ba.ol.read
  have gv := ba.rr.read
  refine xB (S := fun wz => BxR wz p [L, R, B, (.map (some mm.f)), (.map (some mm.o)), (.map (some mm.c)), (.map (some mm.s)), (.map (some mm.n))] ∧ Pins (Gadd d6 bg L) wz ∧ Pins (Gadd d6 bg R) wz) (last := 16) (by kernel_rfl) rfl ?_
  have bc : Below bg.heap.size bg bg.drew := (Below.refl _ _).drew
  have d9 := bb.pins.below bc
  have an := bb.step d9 bc
  have b0 := d8.below bc
  have aa := ba.below bc d9
  have ak := gs.below bc
  have al := gt.below bc
  refine dT (i := 0) rfl rfl (by kernel_rfl) (fun _ _ => zQ (v := (.pointer (some ⟨p, 0, none⟩))) rfl) ⟨aa.bx.reads, ak, al⟩ ?_
  refine dT (i := 1) rfl rfl (by kernel_rfl) (fun _ _ => yV rfl) ⟨aa.bx.reads, ak, al⟩ ?_
  refine dT (i := 2) rfl rfl (by kernel_rfl) (fun _ _ => zJ (k := 0) rfl Tryz.underlying72 rfl nz66 rfl) ⟨aa.bx.reads, ak, al⟩ ?_
  refine dT (i := 3) rfl rfl (by kernel_rfl) (fun _ hS => zK (u := L) ag66 rfl (hS.1 0 _ rfl)) ⟨aa.bx.reads, ak, al⟩ ?_
  refine dT (i := 4) rfl rfl (by kernel_rfl) (fun _ _ => zQ (v := (vJ a)) rfl) ⟨aa.bx.reads, ak, al⟩ ?_
  refine dT (i := 5) rfl rfl (by kernel_rfl) (fun _ _ => zG Tryz.underlying66 sz65 (v := L) rfl rfl gu (by omega) (by omega)) ⟨aa.bx.reads, ak, al⟩ ?_
  obtain ⟨ao, cu, gw⟩ := nm_sl (ba.ol.at (z := a) (by omega) (by omega)) (j := (a).toNat) rfl
  rw [mapl_getD] at cu
  have jt := cu.max
  refine dT (i := 6) rfl rfl (by kernel_rfl) (fun _ hS => gw ag65 rfl hS.2.1) ⟨aa.bx.reads, ak, al⟩ ?_
  refine dT (i := 7) rfl rfl (by kernel_rfl) (fun _ _ => zQ (v := (.pointer (some ⟨p, 0, none⟩))) rfl) ⟨aa.bx.reads, ak, al⟩ ?_
  refine dT (i := 8) rfl rfl (by kernel_rfl) (fun _ _ => yV rfl) ⟨aa.bx.reads, ak, al⟩ ?_
  refine dT (i := 9) rfl rfl (by kernel_rfl) (fun _ _ => zJ (k := 1) rfl Tryz.underlying72 rfl nz66 rfl) ⟨aa.bx.reads, ak, al⟩ ?_
  refine dT (i := 10) rfl rfl (by kernel_rfl) (fun _ hS => zK (u := R) ag66 rfl (hS.1 1 _ rfl)) ⟨aa.bx.reads, ak, al⟩ ?_
  refine dT (i := 11) rfl rfl (by kernel_rfl) (fun _ _ => zQ (v := (vJ a)) rfl) ⟨aa.bx.reads, ak, al⟩ ?_
  refine dT (i := 12) rfl rfl (by kernel_rfl) (fun _ _ => zG Tryz.underlying66 sz65 (v := R) rfl rfl gv (by omega) (by omega)) ⟨aa.bx.reads, ak, al⟩ ?_
  obtain ⟨ap, cv, gx⟩ := nm_sl (ba.rr.at (z := a) (by omega) (by omega)) (j := (a).toNat) rfl
  rw [mapr_getD] at cv
  have ju := cv.max
  refine dT (i := 13) rfl rfl (by kernel_rfl) (fun _ hS => gx ag65 rfl hS.2.2) ⟨aa.bx.reads, ak, al⟩ ?_
  refine dT (i := 14) rfl rfl (by kernel_rfl) (fun _ _ => qC (v := ao) rfl) ⟨aa.bx.reads, ak, al⟩ ?_
  refine dT (i := 15) rfl rfl (by kernel_rfl) (fun _ _ => qC (v := ap) rfl) ⟨aa.bx.reads, ak, al⟩ ?_
  refine yS (by kernel_rfl) ?_
  refine zA (zB ?_)
  refine zW ?_
  refine zB (zC ?_)
  have a4 := cu
  rw [d.1, ← hxs] at a4
  have a5 := cv
  rw [d.1, ← hys] at a5
  refine qM ao ?_
  refine qD rfl (zM Tryz.underlying65 (v := ao) rfl a4) ?_
  refine qD rfl (xT rfl rfl) ?_
  refine qM (.bool (decide (((xs.length : Int) : Int) = 0))) ?_
  refine qbd (p := ((xs.length : Int) : Int) = 0) (t := 39) rfl (fun cw => ?_) (fun cw => ?_)
  ·skip
   refine qN (zQ (v := ap) rfl) ?_
   refine qN (zM Tryz.underlying65 (v := ap) rfl a5) ?_
   refine qN (xT rfl rfl) ?_
   refine qD rfl (yJ (v := (.bool (decide (((ys.length : Int) : Int) = 0)))) rfl rfl) ?_
   refine qM (.bool (decide (((ys.length : Int) : Int) = 0))) ?_
   refine qe (zA ?_)
   refine zZ (p := ((ys.length : Int) : Int) = 0) rfl rfl (fun ea => ?_) (fun ea => ?_)
   ·skip
    refine zB (zC ?_)
    refine qD rfl (yU [(vJ 0), (vJ 0)] [(vJ 0), (vJ 0)] [] Tryz.underlying34 zr34 rfl pl34 rfl (fun _ h => by cases h) rfl) ?_
    refine q0 rfl rfl rfl (yP (cs' := [(vJ 0), (vJ 0)]) (us := [(vJ 0), (vJ 0)]) (v := (.agg [(vJ 0), (vJ 0)].toArray)) sz34 rfl rfl rfl (yW (by rfl) (by rfl)) an.pins b0 (Nat.le_of_ble_eq_true rfl) rfl (fun jv gy eb ec jw => ?_))
    have gz := an.write eb ec ((yC a1))
    have g0 := aa.kept ec eb am
    refine qM (.bool true) ?_
    refine qe (zA ?_)
    refine wp_ret ?_
    refine zP ?_
    refine xC (cs := [(vJ 0), (vJ 0)]) (v := (.bool true)) rfl rfl rfl rfl rfl ag34 sz34 (fun j u hj => by rw [Nat.zero_add]; exact gy.cell hj) ?_
    obtain ⟨e3, e1, e2⟩ := v_nil
    rw [hsnn (by omega) (by omega), e1, e2, e3]
    exact ⟨g, _, rfl, g0, a7, ay, d, gz⟩
   refine zB (zC ?_)
   refine qM ap ?_
   refine qD rfl (zM Tryz.underlying65 (v := ap) rfl a5) ?_
   refine qD rfl (xT rfl rfl) ?_
   refine qM (.bool (decide (((ys.length : Int) : Int) = 0))) ?_
   refine qe (zA ?_)
   refine zZ (p := ((ys.length : Int) : Int) = 0) rfl rfl (fun h => absurd h ea) (fun _ => ?_)
   refine zB (zC ?_)
   refine qM ao ?_
   refine qD rfl (zM Tryz.underlying65 (v := ao) rfl a4) ?_
   refine qD rfl (xT rfl rfl) ?_
   refine qM (.bool (decide (((xs.length : Int) : Int) = 0))) ?_
   refine qe (zA ?_)
   refine zZ (p := ((xs.length : Int) : Int) = 0) rfl rfl (fun _ => ?_) (fun h => absurd cw h)
   refine zB (zC ?_)
   refine qM (.pointer (some ⟨p, 0, none⟩)) ?_
   refine qM ap ?_
   refine qD rfl (zG Tryz.underlying65 sz3 (v := ap) rfl rfl a5 (by omega) (by omega)) ?_
   refine qD rfl (zE (r := ys.getD 0 0) rfl ag3 (z := 0) rfl a5 an.pins (by omega) (by omega)) ?_
   have ed : ys.getD 0 0 ∈ ys := yB (show 0 < ys.length by omega)
   have jx := hopr _ ed
   refine qI rfl (zI (vs := [(.pointer (some ⟨p, 0, none⟩)), (vJ (ys.getD 0 0))]) Tryz.func68 nm68 rfl rfl rfl ?_)
   refine Calls.mono (ih an.pins aa a7 ⟨by omega, by rw [d.1]; omega⟩ (by rw [xN d]; exact hc.right ((ro_pd hok ha).2 ⟨_, hys ▸ ed, rfl⟩)) (by omega)) ?_
   rintro _ jy ⟨a2, jz, b1, ee, b2, cx, cy, ef⟩
   obtain ⟨ag, b4⟩ : ∃ x : Int, x = vgT (pd g (ys.getD 0 0)) := ⟨_, rfl⟩
   rw [← b4] at b1
   obtain ⟨ah, b5⟩ : ∃ x : Int, x = vgP (pd g (ys.getD 0 0)) := ⟨_, rfl⟩
   rw [← b5] at b1
   obtain ⟨bh, bi⟩ : ∃ x : Bool, x = vgB (pd g (ys.getD 0 0)) := ⟨_, rfl⟩
   rw [← bi] at b1
   subst b1
   refine ⟨_, rfl, ?_⟩
   have cz := an.trans ef (fun i hi => xL i hi)
   have eg := b0.extS ef (xX (NP.ho am))
   have j0 := cx.len
   have j1 : (a2.ns.map Nd.l).length = a2.ns.length ∧ (a2.ns.map Nd.r).length = a2.ns.length := ⟨List.length_map .., List.length_map ..⟩
   have j2 : a2.bs.length = a2.ns.length ∧ a2.ns.length ≤ 1048576 := ⟨b2.ar.ok.len, b2.ar.ok.lim⟩
   have j3 := congrArg List.length cy.1
   have c0 : pd g (ys.getD 0 0) = pd q (ys.getD 0 0) := xN d
   rw [c0] at b4
   rw [c0] at b5
   rw [c0] at bi
   have g2 : bh = true → GoodD ag ah := fun h => by rw [b4, b5]; exact vg_good (by rw [← bi]; exact h)
   refine qM (.tuple #[(.agg [(vJ ag), (vJ ah)].toArray), (.bool bh)]) ?_
   refine qD rfl (yG (v := (.agg [(vJ ag), (vJ ah)].toArray)) rfl rfl) ?_
   refine qD rfl (yG (v := (.bool bh)) rfl rfl) ?_
   refine qI rfl (yO [(vJ 0), (vJ 0)] zr34 rfl cz.pins (fun c1 j4 eh g3 ei c2 => ?_))
   have ej := cz.step ei c2
   have g4 := eg.below c2
   have g5 := ee.below c2 ei
   have ek : Apart (some c1) (some b3) := zL (congrArg some eh) eg.lt
   have el := ee.new (x := (some c1)) (fun k hk => by rw [(congrArg some eh)] at hk; cases hk; exact Nat.le_refl _)
   have em : w.heap.size ≤ c1 := by have := cz.size; omega
   refine q0 rfl rfl rfl (yP (cs' := [(vJ ag), (vJ ah)]) (us := [(vJ ag), (vJ ah)]) (v := (.agg [(vJ ag), (vJ ah)].toArray)) sz34 rfl rfl rfl (yW (by rfl) (by rfl)) ej.pins g3 (Nat.le_of_ble_eq_true rfl) rfl (fun j5 g6 en c3 j6 => ?_))
   have g7 := ej.write en c3 ((yC em))
   have g8 := g4.keptA c3 ek.symm
   have g9 := g5.kept c3 en el
   obtain ⟨j7, hb, bj, hd, eo⟩ := g6.shut g7 em
   have ep := g8.moreA eo ek.symm
   have eq := g9.more hb eo el
   refine qM (.bool bh) ?_
   refine qe (zA (zB (zB (zC ?_))))
   refine qM (.bool bh) ?_
   refine qD rfl (xI rfl) ?_
   refine qe (zA ?_)
   refine xV rfl rfl (fun b6 => ?_) (fun b6 => ?_)
   ·skip
    refine wp_skip ?_
    refine zA (zB (zC ?_))
    refine qD rfl (yL (cs := [(vJ ag), (vJ ah)]) ag34 sz34 rfl (fun j u hj => bj.pins _ _ _ (hd _ _ (by simpa using hj)))) ?_
    refine qD rfl (yU [(vJ 0), (vJ 0)] [(vJ (-1)), (vJ 0)] [(0, (vJ (-1)), [(vJ (-1))]), (1, (vJ 0), [(vJ 0)])] Tryz.underlying34 zr34 rfl pl34 rfl (List.forall_mem_cons.2 ⟨rfl, (List.forall_mem_cons.2 ⟨rfl, (fun _ h => by cases h)⟩)⟩) rfl) ?_
    refine qI rfl (zI (vs := [(.agg [(vJ ag), (vJ ah)].toArray), (.agg [(vJ (-1)), (vJ 0)].toArray)]) Tryz.func121 nm121 rfl rfl rfl ?_)
    refine Calls.mono (addDyadic_spec (t := ag) (z := ah) (s := (-1)) (y := 0) bj.pins (g2 b6) ⟨by decide, by decide, Or.inl rfl⟩) ?_
    rintro _ j8 ⟨j9, b7, c4⟩
    obtain ⟨bk, er⟩ : ∃ x : Int, x = (lowR (decP (GoodD (lowD 16 (scI 16 ag ah + scI 16 (-1) 0)).1 (((lowD 16 (scI 16 ag ah + scI 16 (-1) 0)).2 : Nat) : Int))) (((lowD 16 (scI 16 ag ah + scI 16 (-1) 0)).2 : Nat) : Int)) := ⟨_, rfl⟩
    rw [← er] at b7
    obtain ⟨bl, es⟩ : ∃ x : Int, x = (lowR (decP (GoodD (lowD 16 (scI 16 ag ah + scI 16 (-1) 0)).1 (((lowD 16 (scI 16 ag ah + scI 16 (-1) 0)).2 : Nat) : Int))) (lowD 16 (scI 16 ag ah + scI 16 (-1) 0)).1) := ⟨_, rfl⟩
    rw [← es] at b7
    obtain ⟨c5, et⟩ : ∃ x : Bool, x = decP (GoodD (lowD 16 (scI 16 ag ah + scI 16 (-1) 0)).1 (((lowD 16 (scI 16 ag ah + scI 16 (-1) 0)).2 : Nat) : Int)) := ⟨_, rfl⟩
    rw [← et] at b7
    subst b7
    refine ⟨_, rfl, ?_⟩
    have eu := bj.tr c4
    have he := ep.ext c4
    have hf := eq.ext c4
    refine qD rfl (yG (v := (.agg [(vJ bl), (vJ bk)].toArray)) rfl rfl) ?_
    refine qD rfl (yG (v := (.bool c5)) rfl rfl) ?_
    refine q0 rfl rfl rfl (yP (cs' := [(vJ bl), (vJ bk)]) (us := [(vJ bl), (vJ bk)]) (v := (.agg [(vJ bl), (vJ bk)].toArray)) sz34 rfl rfl rfl (yW (by rfl) (by rfl)) eu.pins he (Nat.le_of_ble_eq_true rfl) rfl (fun ka hg ev ew kb => ?_))
    have hh := eu.write ev ew ((yC a1))
    have hl := hf.kept ew ev am
    refine qM (.bool c5) ?_
    refine qe (zA ?_)
    refine wp_ret ?_
    refine zP ?_
    refine xC (cs := [(vJ bl), (vJ bk)]) (v := (.bool c5)) rfl rfl rfl rfl rfl ag34 sz34 (fun j u hj => by rw [Nat.zero_add]; exact hg.cell hj) ?_
    have hsh := hsr (by omega) (by omega) (by omega)
    have ab := hnd
    rw [hsh] at ab
    have av := va_r (D := 16) ab (by rw [← bi]; exact b6)
    rw [hsh, av.t, av.p, av.b, ← b4, ← b5, es, er, et]
    exact ⟨a2, _, rfl, hl, b2, (PX.trans ay cx), (zN d cy), hh⟩
   refine zB (zC ?_)
   refine qD rfl (yU [(vJ 0), (vJ 0)] [(vJ 0), (vJ 0)] [] Tryz.underlying34 zr34 rfl pl34 rfl (fun _ h => by cases h) rfl) ?_
   refine q0 rfl rfl rfl (yP (cs' := [(vJ 0), (vJ 0)]) (us := [(vJ 0), (vJ 0)]) (v := (.agg [(vJ 0), (vJ 0)].toArray)) sz34 rfl rfl rfl (yW (by rfl) (by rfl)) bj.pins ep (Nat.le_of_ble_eq_true rfl) rfl (fun kc hn ex ey kd => ?_))
   have hp := bj.write ex ey ((yC a1))
   have hq := eq.kept ey ex am
   refine qM (.bool false) ?_
   refine qe (zA ?_)
   refine wp_ret ?_
   refine zP ?_
   refine xC (cs := [(vJ 0), (vJ 0)]) (v := (.bool false)) rfl rfl rfl rfl rfl ag34 sz34 (fun j u hj => by rw [Nat.zero_add]; exact hn.cell hj) ?_
   have hsh := hsr (by omega) (by omega) (by omega)
   have ab := hnd
   rw [hsh] at ab
   have hvb : vgB (pd q a) = false := (by rw [hsh]; exact vr_no ab (by rw [← bi]; exact b6))
   obtain ⟨e1, e2⟩ := vg_no hvb
   rw [hvb, e1, e2]
   exact ⟨a2, _, rfl, hq, b2, (PX.trans ay cx), (zN d cy), hp⟩
  refine qW ?_
  refine qW ?_
  refine qW ?_
  refine qD rfl (yA (v := (.bool false)) rfl rfl) ?_
  refine qM (.bool false) ?_
  refine qe (zA ?_)
  refine xW rfl rfl ?_
  refine zB (zC ?_)
  refine qM ap ?_
  refine qD rfl (zM Tryz.underlying65 (v := ap) rfl a5) ?_
  refine qD rfl (xT rfl rfl) ?_
  refine qM (.bool (decide (((ys.length : Int) : Int) = 0))) ?_
  refine qe (zA ?_)
  refine zZ (p := ((ys.length : Int) : Int) = 0) rfl rfl (fun hr => ?_) (fun hr => ?_)
  ·skip
   refine zB (zC ?_)
   refine qM (.pointer (some ⟨p, 0, none⟩)) ?_
   refine qM ao ?_
   refine qD rfl (zG Tryz.underlying65 sz3 (v := ao) rfl rfl a4 (by omega) (by omega)) ?_
   refine qD rfl (zE (r := xs.getD 0 0) rfl ag3 (z := 0) rfl a4 an.pins (by omega) (by omega)) ?_
   have ez : xs.getD 0 0 ∈ xs := yB (show 0 < xs.length by omega)
   have ke := hopl _ ez
   refine qI rfl (zI (vs := [(.pointer (some ⟨p, 0, none⟩)), (vJ (xs.getD 0 0))]) Tryz.func68 nm68 rfl rfl rfl ?_)
   refine Calls.mono (ih an.pins aa a7 ⟨by omega, by rw [d.1]; omega⟩ (by rw [xN d]; exact hc.left ((lo_pd hok ha).2 ⟨_, hxs ▸ ez, rfl⟩)) (by omega)) ?_
   rintro _ kf ⟨a3, kg, b8, e0, b9, c6, c7, e4⟩
   obtain ⟨ai, ca⟩ : ∃ x : Int, x = vgT (pd g (xs.getD 0 0)) := ⟨_, rfl⟩
   rw [← ca] at b8
   obtain ⟨aj, cb⟩ : ∃ x : Int, x = vgP (pd g (xs.getD 0 0)) := ⟨_, rfl⟩
   rw [← cb] at b8
   obtain ⟨bm, bn⟩ : ∃ x : Bool, x = vgB (pd g (xs.getD 0 0)) := ⟨_, rfl⟩
   rw [← bn] at b8
   subst b8
   refine ⟨_, rfl, ?_⟩
   have c8 := an.trans e4 (fun i hi => xL i hi)
   have e5 := b0.extS e4 (xX (NP.ho am))
   have kh := c6.len
   have ki : (a3.ns.map Nd.l).length = a3.ns.length ∧ (a3.ns.map Nd.r).length = a3.ns.length := ⟨List.length_map .., List.length_map ..⟩
   have kj : a3.bs.length = a3.ns.length ∧ a3.ns.length ≤ 1048576 := ⟨b9.ar.ok.len, b9.ar.ok.lim⟩
   have kk := congrArg List.length c7.1
   have c9 : pd g (xs.getD 0 0) = pd q (xs.getD 0 0) := xN d
   rw [c9] at ca
   rw [c9] at cb
   rw [c9] at bn
   have hs : bm = true → GoodD ai aj := fun h => by rw [ca, cb]; exact vg_good (by rw [← bn]; exact h)
   refine qM (.tuple #[(.agg [(vJ ai), (vJ aj)].toArray), (.bool bm)]) ?_
   refine qD rfl (yG (v := (.agg [(vJ ai), (vJ aj)].toArray)) rfl rfl) ?_
   refine qD rfl (yG (v := (.bool bm)) rfl rfl) ?_
   refine qI rfl (yO [(vJ 0), (vJ 0)] zr34 rfl c8.pins (fun da kl e6 ht e7 db => ?_))
   have e8 := c8.step e7 db
   have hu := e5.below db
   have hv := e0.below db e7
   have e9 : Apart (some da) (some b3) := zL (congrArg some e6) e5.lt
   have fa := e0.new (x := (some da)) (fun k hk => by rw [(congrArg some e6)] at hk; cases hk; exact Nat.le_refl _)
   have fb : w.heap.size ≤ da := by have := c8.size; omega
   refine q0 rfl rfl rfl (yP (cs' := [(vJ ai), (vJ aj)]) (us := [(vJ ai), (vJ aj)]) (v := (.agg [(vJ ai), (vJ aj)].toArray)) sz34 rfl rfl rfl (yW (by rfl) (by rfl)) e8.pins ht (Nat.le_of_ble_eq_true rfl) rfl (fun km hw fc dc kn => ?_))
   have hx := e8.write fc dc ((yC fb))
   have hy := hu.keptA dc e9.symm
   have hz := hv.kept dc fc fa
   obtain ⟨ko, h0, bo, h1, fd⟩ := hw.shut hx fb
   have fe := hy.moreA fd e9.symm
   have ff := hz.more h0 fd fa
   refine qM (.bool bm) ?_
   refine qe (zA (zB (zB (zC ?_))))
   refine qM (.bool bm) ?_
   refine qD rfl (xI rfl) ?_
   refine qe (zA ?_)
   refine xV rfl rfl (fun cc => ?_) (fun cc => ?_)
   ·skip
    refine wp_skip ?_
    refine zA (zB (zC ?_))
    refine qD rfl (yL (cs := [(vJ ai), (vJ aj)]) ag34 sz34 rfl (fun j u hj => bo.pins _ _ _ (h1 _ _ (by simpa using hj)))) ?_
    refine qD rfl (yU [(vJ 0), (vJ 0)] [(vJ 1), (vJ 0)] [(0, (vJ 1), [(vJ 1)]), (1, (vJ 0), [(vJ 0)])] Tryz.underlying34 zr34 rfl pl34 rfl (List.forall_mem_cons.2 ⟨rfl, (List.forall_mem_cons.2 ⟨rfl, (fun _ h => by cases h)⟩)⟩) rfl) ?_
    refine qI rfl (zI (vs := [(.agg [(vJ ai), (vJ aj)].toArray), (.agg [(vJ 1), (vJ 0)].toArray)]) Tryz.func121 nm121 rfl rfl rfl ?_)
    refine Calls.mono (addDyadic_spec (t := ai) (z := aj) (s := 1) (y := 0) bo.pins (hs cc) ⟨by decide, by decide, Or.inl rfl⟩) ?_
    rintro _ kp ⟨kq, cd, dd⟩
    obtain ⟨bp, fg⟩ : ∃ x : Int, x = (lowR (decP (GoodD (lowD 16 (scI 16 ai aj + scI 16 1 0)).1 (((lowD 16 (scI 16 ai aj + scI 16 1 0)).2 : Nat) : Int))) (((lowD 16 (scI 16 ai aj + scI 16 1 0)).2 : Nat) : Int)) := ⟨_, rfl⟩
    rw [← fg] at cd
    obtain ⟨bq, fh⟩ : ∃ x : Int, x = (lowR (decP (GoodD (lowD 16 (scI 16 ai aj + scI 16 1 0)).1 (((lowD 16 (scI 16 ai aj + scI 16 1 0)).2 : Nat) : Int))) (lowD 16 (scI 16 ai aj + scI 16 1 0)).1) := ⟨_, rfl⟩
    rw [← fh] at cd
    obtain ⟨de, fi⟩ : ∃ x : Bool, x = decP (GoodD (lowD 16 (scI 16 ai aj + scI 16 1 0)).1 (((lowD 16 (scI 16 ai aj + scI 16 1 0)).2 : Nat) : Int)) := ⟨_, rfl⟩
    rw [← fi] at cd
    subst cd
    refine ⟨_, rfl, ?_⟩
    have fj := bo.tr dd
    have h2 := fe.ext dd
    have h3 := ff.ext dd
    refine qD rfl (yG (v := (.agg [(vJ bq), (vJ bp)].toArray)) rfl rfl) ?_
    refine qD rfl (yG (v := (.bool de)) rfl rfl) ?_
    refine q0 rfl rfl rfl (yP (cs' := [(vJ bq), (vJ bp)]) (us := [(vJ bq), (vJ bp)]) (v := (.agg [(vJ bq), (vJ bp)].toArray)) sz34 rfl rfl rfl (yW (by rfl) (by rfl)) fj.pins h2 (Nat.le_of_ble_eq_true rfl) rfl (fun kr h4 fk fl ks => ?_))
    have h5 := fj.write fk fl ((yC a1))
    have h6 := h3.kept fl fk am
    refine qM (.bool de) ?_
    refine qe (zA ?_)
    refine wp_ret ?_
    refine zP ?_
    refine xC (cs := [(vJ bq), (vJ bp)]) (v := (.bool de)) rfl rfl rfl rfl rfl ag34 sz34 (fun j u hj => by rw [Nat.zero_add]; exact h4.cell hj) ?_
    have hsh := hsl (by omega) (by omega) (by omega)
    have ab := hnd
    rw [hsh] at ab
    have av := va_l (D := 16) ab (by rw [← bn]; exact cc)
    rw [hsh, av.t, av.p, av.b, ← ca, ← cb, fh, fg, fi]
    exact ⟨a3, _, rfl, h6, b9, (PX.trans ay c6), (zN d c7), h5⟩
   refine zB (zC ?_)
   refine qD rfl (yU [(vJ 0), (vJ 0)] [(vJ 0), (vJ 0)] [] Tryz.underlying34 zr34 rfl pl34 rfl (fun _ h => by cases h) rfl) ?_
   refine q0 rfl rfl rfl (yP (cs' := [(vJ 0), (vJ 0)]) (us := [(vJ 0), (vJ 0)]) (v := (.agg [(vJ 0), (vJ 0)].toArray)) sz34 rfl rfl rfl (yW (by rfl) (by rfl)) bo.pins fe (Nat.le_of_ble_eq_true rfl) rfl (fun kt h7 fm fn ku => ?_))
   have h8 := bo.write fm fn ((yC a1))
   have h9 := ff.kept fn fm am
   refine qM (.bool false) ?_
   refine qe (zA ?_)
   refine wp_ret ?_
   refine zP ?_
   refine xC (cs := [(vJ 0), (vJ 0)]) (v := (.bool false)) rfl rfl rfl rfl rfl ag34 sz34 (fun j u hj => by rw [Nat.zero_add]; exact h7.cell hj) ?_
   have hsh := hsl (by omega) (by omega) (by omega)
   have ab := hnd
   rw [hsh] at ab
   have hvb : vgB (pd q a) = false := (by rw [hsh]; exact vl_no ab (by rw [← bn]; exact cc))
   obtain ⟨e1, e2⟩ := vg_no hvb
   rw [hvb, e1, e2]
   exact ⟨a3, _, rfl, h9, b9, (PX.trans ay c6), (zN d c7), h8⟩
  refine zB (zC ?_)
  refine qM ao ?_
  refine qD rfl (zM Tryz.underlying65 (v := ao) rfl a4) ?_
  refine qD rfl (xT rfl rfl) ?_
  refine qM (.bool (decide (((xs.length : Int) : Int) = 0))) ?_
  refine qe (zA ?_)
  refine zZ (p := ((xs.length : Int) : Int) = 0) rfl rfl (fun h => absurd h cw) (fun _ => ?_)
  refine wp_skip ?_
  refine zY ?_
  refine zA (zB (zC ?_))
  refine qM (.pointer (some ⟨p, 0, none⟩)) ?_
  refine qM ao ?_
  refine qD rfl (zG Tryz.underlying65 sz3 (v := ao) rfl rfl a4 (by omega) (by omega)) ?_
  refine qD rfl (zE (r := xs.getD 0 0) rfl ag3 (z := 0) rfl a4 an.pins (by omega) (by omega)) ?_
  have fo : xs.getD 0 0 ∈ xs := yB (show 0 < xs.length by omega)
  have kv := hopl _ fo
  refine qI rfl (zI (vs := [(.pointer (some ⟨p, 0, none⟩)), (vJ (xs.getD 0 0))]) Tryz.func68 nm68 rfl rfl rfl ?_)
  refine Calls.mono (ih an.pins aa a7 ⟨by omega, by rw [d.1]; omega⟩ (by rw [xN d]; exact hc.left ((lo_pd hok ha).2 ⟨_, hxs ▸ fo, rfl⟩)) (by omega)) ?_
  rintro _ kw ⟨aw, kx, ce, fp, df, cf, a8, dg⟩
  obtain ⟨ac, cg⟩ : ∃ x : Int, x = vgT (pd g (xs.getD 0 0)) := ⟨_, rfl⟩
  rw [← cg] at ce
  obtain ⟨ad, ch⟩ : ∃ x : Int, x = vgP (pd g (xs.getD 0 0)) := ⟨_, rfl⟩
  rw [← ch] at ce
  obtain ⟨bd, br⟩ : ∃ x : Bool, x = vgB (pd g (xs.getD 0 0)) := ⟨_, rfl⟩
  rw [← br] at ce
  subst ce
  refine ⟨_, rfl, ?_⟩
  have dh := an.trans dg (fun i hi => xL i hi)
  have fq := b0.extS dg (xX (NP.ho am))
  have ky := cf.len
  have kz : (aw.ns.map Nd.l).length = aw.ns.length ∧ (aw.ns.map Nd.r).length = aw.ns.length := ⟨List.length_map .., List.length_map ..⟩
  have k0 : aw.bs.length = aw.ns.length ∧ aw.ns.length ≤ 1048576 := ⟨df.ar.ok.len, df.ar.ok.lim⟩
  have k1 := congrArg List.length a8.1
  have di : pd g (xs.getD 0 0) = pd q (xs.getD 0 0) := xN d
  rw [di] at cg
  rw [di] at ch
  rw [di] at br
  have ia : bd = true → GoodD ac ad := fun h => by rw [cg, ch]; exact vg_good (by rw [← br]; exact h)
  refine qM (.tuple #[(.agg [(vJ ac), (vJ ad)].toArray), (.bool bd)]) ?_
  refine qD rfl (yG (v := (.agg [(vJ ac), (vJ ad)].toArray)) rfl rfl) ?_
  refine qD rfl (yG (v := (.bool bd)) rfl rfl) ?_
  refine qI rfl (yO [(vJ 0), (vJ 0)] zr34 rfl dh.pins (fun dj k2 fr ib fs dk => ?_))
  have ft := dh.step fs dk
  have ic := fq.below dk
  have ie := fp.below dk fs
  have fu : Apart (some dj) (some b3) := zL (congrArg some fr) fq.lt
  have fv := fp.new (x := (some dj)) (fun k hk => by rw [(congrArg some fr)] at hk; cases hk; exact Nat.le_refl _)
  have fw : w.heap.size ≤ dj := by have := dh.size; omega
  refine q0 rfl rfl rfl (yP (cs' := [(vJ ac), (vJ ad)]) (us := [(vJ ac), (vJ ad)]) (v := (.agg [(vJ ac), (vJ ad)].toArray)) sz34 rfl rfl rfl (yW (by rfl) (by rfl)) ft.pins ib (Nat.le_of_ble_eq_true rfl) rfl (fun k3 ig fx dl k4 => ?_))
  have ii := ft.write fx dl ((yC fw))
  have ij := ic.keptA dl fu.symm
  have ik := ie.kept dl fx fv
  obtain ⟨k5, fy, dm, il, fz⟩ := ig.shut ii fw
  have im := ij.moreA fz fu.symm
  have io := ik.more fy fz fv
  refine qM (.bool bd) ?_
  refine qe (zA (zB (zC ?_)))
  refine qM (.pointer (some ⟨p, 0, none⟩)) ?_
  refine qM ap ?_
  refine qD rfl (zG Tryz.underlying65 sz3 (v := ap) rfl rfl a5 (by omega) (by omega)) ?_
  refine qD rfl (zE (r := ys.getD 0 0) rfl ag3 (z := 0) rfl a5 (Pins.of_le dm.pins (Pin.le_trans dg.le fy)) (by omega) (by omega)) ?_
  have f0 : ys.getD 0 0 ∈ ys := yB (show 0 < ys.length by omega)
  have k6 := hopr _ f0
  refine qI rfl (zI (vs := [(.pointer (some ⟨p, 0, none⟩)), (vJ (ys.getD 0 0))]) Tryz.func68 nm68 rfl rfl rfl ?_)
  refine Calls.mono (ih dm.pins io df ⟨by omega, by rw [(zN d a8).1]; omega⟩ (by rw [xN (zN d a8)]; exact hc.right ((ro_pd hok ha).2 ⟨_, hys ▸ f0, rfl⟩)) (by omega)) ?_
  rintro _ k7 ⟨az, k8, ci, f1, bt, cj, ck, dn⟩
  obtain ⟨ae, cl⟩ : ∃ x : Int, x = vgT (pd aw (ys.getD 0 0)) := ⟨_, rfl⟩
  rw [← cl] at ci
  obtain ⟨af, cm⟩ : ∃ x : Int, x = vgP (pd aw (ys.getD 0 0)) := ⟨_, rfl⟩
  rw [← cm] at ci
  obtain ⟨be, bu⟩ : ∃ x : Bool, x = vgB (pd aw (ys.getD 0 0)) := ⟨_, rfl⟩
  rw [← bu] at ci
  subst ci
  refine ⟨_, rfl, ?_⟩
  have dp := dm.trans dn (fun i hi => xL i hi)
  have f2 := im.extS dn (xX (NP.ho am))
  have k9 := cj.len
  have la : (az.ns.map Nd.l).length = az.ns.length ∧ (az.ns.map Nd.r).length = az.ns.length := ⟨List.length_map .., List.length_map ..⟩
  have lb : az.bs.length = az.ns.length ∧ az.ns.length ≤ 1048576 := ⟨bt.ar.ok.len, bt.ar.ok.lim⟩
  have lc := congrArg List.length ck.1
  have dq : pd aw (ys.getD 0 0) = pd q (ys.getD 0 0) := xN (zN d a8)
  rw [dq] at cl
  rw [dq] at cm
  rw [dq] at bu
  have ip : be = true → GoodD ae af := fun h => by rw [cl, cm]; exact vg_good (by rw [← bu]; exact h)
  refine qM (.tuple #[(.agg [(vJ ae), (vJ af)].toArray), (.bool be)]) ?_
  refine qD rfl (yG (v := (.agg [(vJ ae), (vJ af)].toArray)) rfl rfl) ?_
  refine qD rfl (yG (v := (.bool be)) rfl rfl) ?_
  refine qI rfl (yO [(vJ 0), (vJ 0)] zr34 rfl dp.pins (fun dr ld f3 iq f4 ds => ?_))
  have f5 := dp.step f4 ds
  have ir := f2.below ds
  have it := f1.below ds f4
  have f6 : Apart (some dr) (some b3) := zL (congrArg some f3) f2.lt
  have f7 := f1.new (x := (some dr)) (fun k hk => by rw [(congrArg some f3)] at hk; cases hk; exact Nat.le_refl _)
  have f8 : w.heap.size ≤ dr := by have := dp.size; omega
  refine q0 rfl rfl rfl (yP (cs' := [(vJ ae), (vJ af)]) (us := [(vJ ae), (vJ af)]) (v := (.agg [(vJ ae), (vJ af)].toArray)) sz34 rfl rfl rfl (yW (by rfl) (by rfl)) f5.pins iq (Nat.le_of_ble_eq_true rfl) rfl (fun dt iu f9 du lf => ?_))
  have iv := f5.write f9 du ((yC f8))
  have iw := ir.keptA du f6.symm
  have ix := it.kept du f9 f7
  obtain ⟨iy, ga, bf, iz, gb⟩ := iu.shut iv f8
  have dv := iw.moreA gb f6.symm
  have dw := ix.more ga gb f7
  refine qM (.bool be) ?_
  refine qe (zA (zB (zB (zC ?_))))
  refine qM (.bool bd) ?_
  refine qD rfl (xI rfl) ?_
  refine qM (.bool (!bd)) ?_
  refine qbn (t := 103) rfl (fun dx => ?_) (fun dx => ?_)
  ·skip
   refine qN (zQ (v := (.bool be)) rfl) ?_
   refine qN (xI rfl) ?_
   refine qD rfl (yA (v := (.bool (!be))) rfl rfl) ?_
   refine qe (zA ?_)
   refine xV rfl rfl (fun dy => ?_) (fun dy => ?_)
   ·skip
    refine wp_skip ?_
    refine zA (zB ?_)
    have hvl := dx
    have hvr := dy
    have hgl := ia hvl
    have hgr := ip hvr
    have hglt := hgl.top
    have hglp := hgl.pow
    have hgrt := hgr.top
    have hgrp := hgr.pow
    have hglm := scI_lim (D := 16) (t := ac) (z := ad) (by omega) (by omega)
    have hgrm := scI_lim (D := 16) (t := ae) (z := af) (by omega) (by omega)
    refine xB (S := fun wz => Pins iy wz) (last := 10) (by kernel_rfl) rfl ?_
    have cn : Below dt.heap.size dt dt.drew := (Below.refl _ _).drew
    have gc := bf.pins.below cn
    have co := bf.step gc cn
    have i0 := dv.below cn
    have i1 := dw.below cn gc
    refine dT (i := 0) rfl rfl (by kernel_rfl) (fun _ hS => yL (cs := [(vJ ac), (vJ ad)]) ag34 sz34 rfl (fun j u hj => (Pins.of_le hS (Pin.le_trans dn.le ga)) _ _ _ (il _ _ (by simpa using hj)))) co.pins ?_
    refine dT (i := 2) rfl rfl (by kernel_rfl) (fun _ hS => yL (cs := [(vJ ae), (vJ af)]) ag34 sz34 rfl (fun j u hj => hS _ _ _ (iz _ _ (by simpa using hj)))) co.pins ?_
    refine dO (i := 1) (zU (i := 1) rfl rfl rfl (zD rfl _) (zI (vs := [(.agg [(vJ ac), (vJ ad)].toArray)]) Tryz.func123 nm123 rfl rfl rfl ?_))
    refine Calls.mono (scaled_spec (t := ac) (z := ad) co.pins (by omega) (by omega)) ?_
    rintro _ lg ⟨lh, rfl, ax⟩
    refine ⟨_, rfl, ?_⟩
    have dz := co.tr ax
    have i2 := i0.ext ax
    have i3 := i1.ext ax
    refine ⟨fun _ => (Pins.of_le dz.pins ax.le), ?_⟩
    refine dO (i := 3) (zU (i := 3) rfl rfl rfl (zD rfl _) (zI (vs := [(.agg [(vJ ae), (vJ af)].toArray)]) Tryz.func123 nm123 rfl rfl rfl ?_))
    refine Calls.mono (scaled_spec (t := ae) (z := af) dz.pins (by omega) (by omega)) ?_
    rintro _ li ⟨lj, rfl, a0⟩
    refine ⟨_, rfl, ?_⟩
    have cp := dz.tr a0
    have i4 := i2.ext a0
    have i5 := i3.ext a0
    refine ⟨fun _ => (Pins.of_le cp.pins (Pin.le_trans ax.le a0.le)), ?_⟩
    refine dT (i := 4) rfl rfl (by kernel_rfl) (fun _ _ => yF rfl rfl (by omega)) (Pins.of_le cp.pins (Pin.le_trans ax.le a0.le)) ?_
    refine dO (i := 5) (zU (i := 5) rfl rfl rfl (zD rfl _) (zI (vs := [(vJ ((scI 16 ac ad) + (scI 16 ae af))), (vJ 17)]) Tryz.func122 nm122 rfl rfl rfl ?_))
    refine Calls.mono (lowest_spec (t := (scI 16 ac ad) + (scI 16 ae af)) (p := 17) cp.pins (by omega) (by omega)) ?_
    rintro _ lk ⟨ll, cq, a6⟩
    obtain ⟨bv, gd⟩ : ∃ x : Int, x = (lowR (decP (GoodD (lowD 17 ((scI 16 ac ad) + (scI 16 ae af))).1 (((lowD 17 ((scI 16 ac ad) + (scI 16 ae af))).2 : Nat) : Int))) (((lowD 17 ((scI 16 ac ad) + (scI 16 ae af))).2 : Nat) : Int)) := ⟨_, rfl⟩
    rw [← gd] at cq
    obtain ⟨bw, ge⟩ : ∃ x : Int, x = (lowR (decP (GoodD (lowD 17 ((scI 16 ac ad) + (scI 16 ae af))).1 (((lowD 17 ((scI 16 ac ad) + (scI 16 ae af))).2 : Nat) : Int))) (lowD 17 ((scI 16 ac ad) + (scI 16 ae af))).1) := ⟨_, rfl⟩
    rw [← ge] at cq
    obtain ⟨d0, gf⟩ : ∃ x : Bool, x = decP (GoodD (lowD 17 ((scI 16 ac ad) + (scI 16 ae af))).1 (((lowD 17 ((scI 16 ac ad) + (scI 16 ae af))).2 : Nat) : Int)) := ⟨_, rfl⟩
    rw [← gf] at cq
    subst cq
    refine ⟨_, rfl, ?_⟩
    have bz := cp.tr a6
    have i6 := i4.ext a6
    have i7 := i5.ext a6
    refine ⟨fun _ => (Pins.of_le bz.pins (Pin.le_trans (Pin.le_trans ax.le a0.le) a6.le)), ?_⟩
    refine dT (i := 6) rfl rfl (by kernel_rfl) (fun _ _ => yG (v := (.agg [(vJ bw), (vJ bv)].toArray)) rfl rfl) (Pins.of_le bz.pins (Pin.le_trans (Pin.le_trans ax.le a0.le) a6.le)) ?_
    refine dT (i := 7) rfl rfl (by kernel_rfl) (fun _ _ => yG (v := (.bool d0)) rfl rfl) (Pins.of_le bz.pins (Pin.le_trans (Pin.le_trans ax.le a0.le) a6.le)) ?_
    refine dO (i := 8) (qH (i := 8) rfl rfl rfl (zD rfl _) (yP (cs' := [(vJ bw), (vJ bv)]) (us := [(vJ bw), (vJ bv)]) (v := (.agg [(vJ bw), (vJ bv)].toArray)) sz34 rfl rfl rfl (yW (by rfl) (by rfl)) bz.pins i6 (Nat.le_of_ble_eq_true rfl) rfl (fun lm i8 gg gh ln => ?_)))
    have d1 := bz.write gg gh ((yC a1))
    have i9 := i7.kept gh gg am
    refine ⟨fun _ => (Pins.of_le d1.pins (Pin.le_trans (Pin.le_trans ax.le a0.le) a6.le)), ?_⟩
    refine dM 9 (.bool d0) (Pins.of_le d1.pins (Pin.le_trans (Pin.le_trans ax.le a0.le) a6.le)) ?_
    refine yS (by kernel_rfl) ?_
    refine zA ?_
    refine wp_ret ?_
    refine zP ?_
    refine xC (cs := [(vJ bw), (vJ bv)]) (v := (.bool d0)) rfl rfl rfl rfl rfl ag34 sz34 (fun j u hj => by rw [Nat.zero_add]; exact i8.cell hj) ?_
    have hsh := hslr ⟨by omega, by omega⟩ (by omega) (by omega)
    have ab := hnd
    rw [hsh] at ab
    have av := va_lr ab (by rw [← br]; exact hvl) (by rw [← bu]; exact hvr)
    rw [hsh, av.t, av.p, av.b, ← cg, ← ch, ← cl, ← cm, ge, gd, gf]
    exact ⟨az, _, rfl, i9, bt, (PX.trans (PX.trans ay cf) cj), (zN (zN d a8) ck), d1⟩
   refine zB (zC ?_)
   refine qD rfl (yU [(vJ 0), (vJ 0)] [(vJ 0), (vJ 0)] [] Tryz.underlying34 zr34 rfl pl34 rfl (fun _ h => by cases h) rfl) ?_
   refine q0 rfl rfl rfl (yP (cs' := [(vJ 0), (vJ 0)]) (us := [(vJ 0), (vJ 0)]) (v := (.agg [(vJ 0), (vJ 0)].toArray)) sz34 rfl rfl rfl (yW (by rfl) (by rfl)) bf.pins dv (Nat.le_of_ble_eq_true rfl) rfl (fun lo ja gi gj lp => ?_))
   have jb := bf.write gi gj ((yC a1))
   have jc := dw.kept gj gi am
   refine qM (.bool false) ?_
   refine qe (zA ?_)
   refine wp_ret ?_
   refine zP ?_
   refine xC (cs := [(vJ 0), (vJ 0)]) (v := (.bool false)) rfl rfl rfl rfl rfl ag34 sz34 (fun j u hj => by rw [Nat.zero_add]; exact ja.cell hj) ?_
   have hsh := hslr ⟨by omega, by omega⟩ (by omega) (by omega)
   have ab := hnd
   rw [hsh] at ab
   have hvb : vgB (pd q a) = false := (by rw [hsh]; exact vb_no ab (Or.inr (by rw [← bu]; exact dy)))
   obtain ⟨e1, e2⟩ := vg_no hvb
   rw [hvb, e1, e2]
   exact ⟨az, _, rfl, jc, bt, (PX.trans (PX.trans ay cf) cj), (zN (zN d a8) ck), jb⟩
  refine qW ?_
  refine qW ?_
  refine qD rfl (yJ (v := (.bool true)) rfl rfl) ?_
  refine qe (zA ?_)
  refine qR rfl rfl ?_
  refine zB (zC ?_)
  refine qD rfl (yU [(vJ 0), (vJ 0)] [(vJ 0), (vJ 0)] [] Tryz.underlying34 zr34 rfl pl34 rfl (fun _ h => by cases h) rfl) ?_
  refine q0 rfl rfl rfl (yP (cs' := [(vJ 0), (vJ 0)]) (us := [(vJ 0), (vJ 0)]) (v := (.agg [(vJ 0), (vJ 0)].toArray)) sz34 rfl rfl rfl (yW (by rfl) (by rfl)) bf.pins dv (Nat.le_of_ble_eq_true rfl) rfl (fun lq jd gk gl lr => ?_))
  have je := bf.write gk gl ((yC a1))
  have jf := dw.kept gl gk am
  refine qM (.bool false) ?_
  refine qe (zA ?_)
  refine wp_ret ?_
  refine zP ?_
  refine xC (cs := [(vJ 0), (vJ 0)]) (v := (.bool false)) rfl rfl rfl rfl rfl ag34 sz34 (fun j u hj => by rw [Nat.zero_add]; exact jd.cell hj) ?_
  have hsh := hslr ⟨by omega, by omega⟩ (by omega) (by omega)
  have ab := hnd
  rw [hsh] at ab
  have hvb : vgB (pd q a) = false := (by rw [hsh]; exact vb_no ab (Or.inl (by rw [← br]; exact dx)))
  obtain ⟨e1, e2⟩ := vg_no hvb
  rw [hvb, e1, e2]
  exact ⟨az, _, rfl, jf, bt, (PX.trans (PX.trans ay cf) cj), (zN (zN d a8) ck), je⟩
 refine zB (zC ?_)
 refine qD rfl (yU [(vJ 0), (vJ 0)] [(vJ 0), (vJ 0)] [] Tryz.underlying34 zr34 rfl pl34 rfl (fun _ h => by cases h) rfl) ?_
 refine q0 rfl rfl rfl (yP (cs' := [(vJ 0), (vJ 0)]) (us := [(vJ 0), (vJ 0)]) (v := (.agg [(vJ 0), (vJ 0)].toArray)) sz34 rfl rfl rfl (yW (by rfl) (by rfl)) bb.pins d8 (Nat.le_of_ble_eq_true rfl) rfl (fun ls jg gm gn lu => ?_))
 have jh := bb.write gm gn ((yC a1))
 have ji := ba.kept gn gm am
 refine qM (.bool false) ?_
 refine qe (zA ?_)
 refine wp_ret ?_
 refine zP ?_
 refine xC (cs := [(vJ 0), (vJ 0)]) (v := (.bool false)) rfl rfl rfl rfl rfl ag34 sz34 (fun j u hj => by rw [Nat.zero_add]; exact jg.cell hj) ?_
 have hvb : vgB (pd q a) = false := vg_not (decP_false.1 ct)
 obtain ⟨e1, e2⟩ := vg_no hvb
 rw [hvb, e1, e2]
 exact ⟨g, _, rfl, ji, a7, ay, d, jh⟩

theorem val_all {p : Nat} {L R B : Value} {mm : PM} : ∀ m, ValP m p L R B mm
 | 0 => fun _ _ _ _ _ h => absurd h (Nat.not_lt_zero _)
 | m + 1 => fun hP hpk hok ha hc hm => valueOf_step hP hpk hok ha hc (val_all m) hm
theorem valueOf_spec {p : Nat} {L R B : Value} {mm : PM} {w : World} {G : Pin} {q : PSt} {a : Int} (hP : Pins G w) (hpk : Pk 65 3 G w p L R B mm q) (hok : PoolOk q) (ha : PlaceOk q a) (hc : CanonG (pd q a)) :
  Calls Tryz.prog 68 [(.pointer (some ⟨p, 0, none⟩)), (.int .i64 a)].toArray w fun e w' => ∃ (q' : PSt) (G' : Pin), e = .returned (.tuple #[.agg [.int .i64 (vgT (pd q a)), .int .i64 (vgP (pd q a))].toArray, .bool (vgB (pd q a))]) ∧ Pk 65 3 G' w' p L R B mm q' ∧ PoolOk q' ∧ PX q q' ∧ (q'.ns = q.ns ∧ q'.bs = q.bs) ∧ Ext (inO (some mm.o)) G w G' w' :=
 val_all _ hP hpk hok ha hc (Nat.lt_succ_self _)

end VA3
end Go.Proofs.YtfnginkcmcfdfaaGreatDoor

set_option maxRecDepth 20000
set_option maxHeartbeats 2000000
namespace Go.Proofs.YtfnginkcmcfdfaaGreatDoor
namespace VA4
open Go.RowKit Go.GL Go.Proofs
open Go.Proofs.YtfnginkcmcfdfaaGreatDoor.B1
open Go.Proofs.YtfnginkcmcfdfaaGreatDoor.K1
open Go.Proofs.YtfnginkcmcfdfaaGreatDoor.PO1
open Go.Proofs.YtfnginkcmcfdfaaGreatDoor.PL1
open Go.Proofs.YtfnginkcmcfdfaaGreatDoor.PA1
open Go.Proofs.YtfnginkcmcfdfaaGreatDoor.DI1
open Go.Proofs.YtfnginkcmcfdfaaGreatDoor.RI1
open Go.Proofs.YtfnginkcmcfdfaaGreatDoor.CN1
open Go.Proofs.YtfnginkcmcfdfaaGreatDoor.CN2
open Go.Proofs.YtfnginkcmcfdfaaGreatDoor.CN3
open Go.Proofs.YtfnginkcmcfdfaaGreatDoor.CN4
open Go.Proofs.YtfnginkcmcfdfaaGreatDoor.AS2
open Go.Proofs.YtfnginkcmcfdfaaGreatDoor.NU1
open Go.Proofs.YtfnginkcmcfdfaaGreatDoor.NU2
open Go.Proofs.YtfnginkcmcfdfaaGreatDoor.VA1
open Go.Proofs.YtfnginkcmcfdfaaGreatDoor.VA2
open Go.Proofs.YtfnginkcmcfdfaaGreatDoor.VA3







theorem pl34 : (Tryz.prog.underlying 34).bind (placesD Tryz.prog) = some [(0, 1), (1, 1)] := by kernel_rfl



theorem iNumberOf_spec {w : World} {G : Pin} {v : Value} {fs : List Nd} (hP : Pins G w) (hv : RSl eNode G v fs) :
  Calls Tryz.prog 30 [(.agg [v].toArray)].toArray w fun e w' => ∃ G', e = .returned (.tuple #[.agg [.int .i64 (nvT fs), .int .i64 (nvP fs)].toArray, .bool (nvB fs)]) ∧ Ext noS G w G' w' := by
 refine zT (n := 17) Tryz.func30 Tryz.ntmps30 rfl rfl ?_
 have z : Ext noS G w G w := Ext.refl hP
 refine zB (zC ?_)
 refine qI rfl (xJ [v] (v := (.agg [v].toArray)) rfl rfl z.pins (fun b1 w2 b7 a8 a9 ba => ?_))
 have bb := z.step a9 ba
 have bc : w.heap.size ≤ b1 := by have := z.size; omega
 obtain ⟨G9, aq, aa, au, b9⟩ := a8.shut bb bc
 refine qI rfl (yO [(vJ 0), (vJ 0)] zr34 rfl aa.pins (fun ab ca cb bd be bf => ?_))
 have ac := aa.step be bf
 have av : w.heap.size ≤ ab := by have := aa.size; omega
 refine qM (.bool false) ?_
 refine qe (zA (zB (zB (zC ?_))))
 refine qD rfl (yL (cs := [v]) ag32 sz32 rfl (fun j u hj => ac.pins _ _ _ (au _ _ (by simpa using hj)))) ?_
 refine qI rfl (zI (vs := [(.agg [v].toArray)]) Tryz.func50 nm50 rfl rfl rfl ?_)
 refine Calls.mono (goodForm_spec ac.pins (hv.mono aq)) ?_
 rintro _ cc ⟨cd, rfl, m⟩
 refine ⟨_, rfl, ?_⟩
 have k := ac.tr m
 have ad := bd.ext m
 refine qD rfl (xI rfl) ?_
 refine qe (zA ?_)
 refine xV rfl rfl (fun p => ?_) (fun p => ?_)
 ·skip
  refine wp_skip ?_
  refine zA (zB (zC ?_))
  have hgb : goodB fs = true := p
  have hga : GoodP fs := goodB_true.1 hgb
  have hla := hga.lo
  have hha := hga.hi
  have hlb := last_bounds hga
  refine qI rfl (zI (vs := []) Tryz.func51 nm51 rfl rfl rfl ?_)
  refine Calls.mono (newPool_spec k.pins) ?_
  rintro _ bg ⟨f, s, bh, rfl, aw, ax, t⟩
  refine ⟨_, rfl, ?_⟩
  have y := k.tr t
  have ay := ad.ext t
  have bi := np_fresh ax (x := (some ab)) (box_lt ad)
  have bj : PIn w (noS) f (.slice none 0 0) (.slice none 0 0) (.slice none 0 0) s := PIn.fresh ax k.size
  obtain ⟨d, ae⟩ : ∃ q, q = (⟨[], [], [], [], [], [], []⟩ : PSt) := ⟨_, rfl⟩
  rw [← ae] at aw
  have af : PoolOk d := by rw [ae]; exact PoolOk.empty
  have hq36l : d.ns.length = 0 := by rw [ae]; rfl
  obtain ⟨ag, ah, ai, aj, ak, al⟩ : ∃ (l r b : Value), l = .slice none 0 0 ∧ r = .slice none 0 0 ∧ b = .slice none 0 0 := ⟨_, _, _, rfl, rfl, rfl⟩
  have bk : Pk 65 3 bh bg f ag ah ai s d := by rw [aj, ak, al]; exact aw
  have az : PIn w (noS) f ag ah ai s := by rw [aj, ak, al]; exact bj
  have ce : (d.ns.map Nd.l).length = d.ns.length ∧ (d.ns.map Nd.r).length = d.ns.length := ⟨List.length_map .., List.length_map ..⟩
  have cf : d.bs.length = d.ns.length ∧ d.ns.length ≤ 1048576 := ⟨af.ar.ok.len, af.ar.ok.lim⟩
  have hnp40x : NP f ag ah ai s (some ab) := by rw [aj, ak, al]; exact bi
  refine qM (.pointer (some ⟨f, 0, none⟩)) ?_
  refine qe (zA (zB (zC ?_)))
  refine qM (.pointer (some ⟨f, 0, none⟩)) ?_
  refine qM (.pointer (some ⟨f, 0, none⟩)) ?_
  refine qD rfl (yL (cs := [v]) ag32 sz32 rfl (fun j u hj => (Pins.of_le y.pins (Pin.le_trans m.le t.le)) _ _ _ (au _ _ (by simpa using hj)))) ?_
  refine qI rfl (zI (vs := [(.pointer (some ⟨f, 0, none⟩)), (.agg [v].toArray)]) Tryz.func69 nm69 rfl rfl rfl ?_)
  refine Calls.mono (canonOf_spec y.pins bk af (hv.mono (Pin.le_trans (Pin.le_trans aq m.le) t.le)) (good_form hga) (by omega) hla) ?_
  rintro _ cg ⟨c, ch, ci, cj, a, ck, rfl, bl, am, bm, a0, a1, bn, a2, bo, cl⟩
  refine ⟨_, rfl, ?_⟩
  have a3 := y.trans a1 az
  have bp := ay.extS a1 (NP.notb hnp40x)
  have bq := NP.call hnp40x a0 (box_lt ay)
  have br := PIn.call az a0 y.size
  have cm := bm.len
  have cn : (a.ns.map Nd.l).length = a.ns.length ∧ (a.ns.map Nd.r).length = a.ns.length := ⟨List.length_map .., List.length_map ..⟩
  have co : a.bs.length = a.ns.length ∧ a.ns.length ≤ 1048576 := ⟨am.ar.ok.len, am.ar.ok.lim⟩
  refine qI rfl (zI (vs := [(.pointer (some ⟨f, 0, none⟩)), (vJ c)]) Tryz.func68 nm68 rfl rfl rfl ?_)
  refine Calls.mono (valueOf_spec a3.pins bl am bn a2) ?_
  rintro _ cp ⟨g, cq, rfl, cr, a4, bt, bu, a5⟩
  refine ⟨_, rfl, ?_⟩
  have a6 := a3.trans a5 (fun i hi => (PIn.o br) i hi)
  have bv := bp.extS a5 (xX (NP.ho bq))
  have ct := bt.len
  have cu : (g.ns.map Nd.l).length = g.ns.length ∧ (g.ns.map Nd.r).length = g.ns.length := ⟨List.length_map .., List.length_map ..⟩
  have cv : g.bs.length = g.ns.length ∧ g.ns.length ≤ 1048576 := ⟨a4.ar.ok.len, a4.ar.ok.lim⟩
  have cw := congrArg List.length bu.1
  refine qD rfl (yG (v := (.agg [(vJ (vgT (pd a c))), (vJ (vgP (pd a c)))].toArray)) rfl rfl) ?_
  refine qD rfl (yG (v := (.bool (vgB (pd a c)))) rfl rfl) ?_
  refine q0 rfl rfl rfl (yP (cs' := [(vJ (vgT (pd a c))), (vJ (vgP (pd a c)))]) (us := [(vJ (vgT (pd a c))), (vJ (vgP (pd a c)))]) (v := (.agg [(vJ (vgT (pd a c))), (vJ (vgP (pd a c)))].toArray)) sz34 rfl rfl rfl (yW (by rfl) (by rfl)) a6.pins bv (Nat.le_of_ble_eq_true rfl) rfl (fun cx bw bx bz cy => ?_))
  have b0 := a6.write bx bz ((yC av))
  refine qM (.bool (vgB (pd a c))) ?_
  refine qe (zA ?_)
  refine wp_ret ?_
  refine zP ?_
  refine xC (cs := [(vJ (vgT (pd a c))), (vJ (vgP (pd a c)))]) (v := (.bool (vgB (pd a c)))) rfl rfl rfl rfl rfl ag34 sz34 (fun j u hj => by rw [Nat.zero_add]; exact bw.cell hj) ?_
  obtain ⟨e3, e1, e2⟩ := nv_good p a2 bo
  rw [e1, e2, e3]
  exact ⟨_, rfl, b0⟩
 refine zB (zC ?_)
 refine qD rfl (yU [(vJ 0), (vJ 0)] [(vJ 0), (vJ 0)] [] Tryz.underlying34 zr34 rfl pl34 rfl (fun _ h => by cases h) rfl) ?_
 refine q0 rfl rfl rfl (yP (cs' := [(vJ 0), (vJ 0)]) (us := [(vJ 0), (vJ 0)]) (v := (.agg [(vJ 0), (vJ 0)].toArray)) sz34 rfl rfl rfl (yW (by rfl) (by rfl)) k.pins ad (Nat.le_of_ble_eq_true rfl) rfl (fun cz b2 b3 b4 c0 => ?_))
 have b5 := k.write b3 b4 ((yC av))
 refine qM (.bool false) ?_
 refine qe (zA ?_)
 refine wp_ret ?_
 refine zP ?_
 refine xC (cs := [(vJ 0), (vJ 0)]) (v := (.bool false)) rfl rfl rfl rfl rfl ag34 sz34 (fun j u hj => by rw [Nat.zero_add]; exact b2.cell hj) ?_
 obtain ⟨e3, e1, e2⟩ := nv_bad p
 rw [e1, e2, e3]
 exact ⟨_, rfl, b5⟩

theorem iSimplestFor_spec {w : World} {G : Pin} {v : Value} {fs : List Nd} (hP : Pins G w) (hv : RSl eNode G v fs) :
  Calls Tryz.prog 33 [(.agg [v].toArray)].toArray w fun e w' => ∃ G', e = .returned (.tuple #[.agg [.int .i64 (nvT fs), .int .i64 (nvP fs)].toArray, .bool (nvB fs)]) ∧ Ext noS G w G' w' := by
 refine zT (n := 8) Tryz.func33 Tryz.ntmps33 rfl rfl ?_
 have a : Ext noS G w G w := Ext.refl hP
 refine zB (zC ?_)
 refine qI rfl (xJ [v] (v := (.agg [v].toArray)) rfl rfl a.pins (fun g w2 ae h i k => ?_))
 have l := a.step i k
 have m : w.heap.size ≤ g := by have := a.size; omega
 obtain ⟨G9, o, b, p, ag⟩ := h.shut l m
 refine qI rfl (yO [(.int .i64 0), (.int .i64 0)] zr34 rfl b.pins (fun q ah ai r s t => ?_))
 have c := b.step s t
 have x : w.heap.size ≤ q := by have := b.size; omega
 refine qM (.bool false) ?_
 refine qe (zA (zB (zC ?_)))
 refine qD rfl (yL (cs := [v]) ag32 sz32 rfl (fun j u hj => c.pins _ _ _ (p _ _ (by simpa using hj)))) ?_
 refine qI rfl (zI (vs := [(.agg [v].toArray)]) Tryz.func30 nm30 rfl rfl rfl ?_)
 refine Calls.mono (iNumberOf_spec c.pins (hv.mono o)) ?_
 rintro _ aj ⟨ak, rfl, d⟩
 refine ⟨_, rfl, ?_⟩
 have f := c.tr d
 have y := r.ext d
 refine qD rfl (yG (v := (.agg [(.int .i64 (nvT fs)), (.int .i64 (nvP fs))].toArray)) rfl rfl) ?_
 refine qD rfl (yG (v := (.bool (nvB fs))) rfl rfl) ?_
 refine q0 rfl rfl rfl (yP (cs' := [(.int .i64 (nvT fs)), (.int .i64 (nvP fs))]) (us := [(.int .i64 (nvT fs)), (.int .i64 (nvP fs))]) (v := (.agg [(.int .i64 (nvT fs)), (.int .i64 (nvP fs))].toArray)) sz34 rfl rfl rfl (yW (by rfl) (by rfl)) f.pins y (Nat.le_of_ble_eq_true rfl) rfl (fun al z aa ab am => ?_))
 have ac := f.write aa ab ((yC x))
 refine qM (.bool (nvB fs)) ?_
 refine qe (zA ?_)
 refine wp_ret ?_
 refine zP ?_
 refine xC (cs := [(.int .i64 (nvT fs)), (.int .i64 (nvP fs))]) (v := (.bool (nvB fs))) rfl rfl rfl rfl rfl ag34 sz34 (fun j u hj => by rw [Nat.zero_add]; exact z.cell hj) ?_
 exact ⟨_, rfl, ac⟩

end VA4
end Go.Proofs.YtfnginkcmcfdfaaGreatDoor
