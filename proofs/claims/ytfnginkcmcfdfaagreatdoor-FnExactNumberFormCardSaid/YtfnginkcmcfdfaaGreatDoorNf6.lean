/- Texts of this claim in one file: PA1, SO1, OD1, FO1, NG1, NF1, SM1, NU1, NU2, NB1, NB2, NB3, NU3, NB4, NB5. -/
import Derived.Test.YtfnginkcmcfdfaaGreatDoorNf5
import Derived.Test.YtfnginkcmcfdfaaGreatDoorChecked
set_option maxRecDepth 20000
set_option maxHeartbeats 2000000
namespace Go.Proofs.YtfnginkcmcfdfaaGreatDoor
namespace PA1
open Go.RowKit Go.GL Go.Proofs










theorem parts_spec {w : World} {G : Pin} {p : Nat} {L R B : Value} {mm : PM} {q : PSt} (hP : Pins G w) (hpk : Pk 65 3 G w p L R B mm q) (hok : PoolOk q) {x : Value} {xs : List Int} (hx : RSl eInt G x xs) (hr : ∀ i, i < xs.length → PlaceOk q (xs.getD i 0)) (hxl : xs.length ≤ 1048576) :
  Calls Tryz.prog 103 [(.pointer (some ⟨p, 0, none⟩)), x].toArray w fun e w' => ∃ (u : Value) (zs : List Int) (G' : Pin), e = .returned u ∧ Own eInt 3 G' w' w.heap.size u zs ∧ PtOk q xs zs zs.length ∧ Ext noS G w G' w' := by
 refine zZ (n := 82) Tryz.func103 Tryz.ntmps103 rfl rfl ?_
 have hX0 : Ext noS G w G w := Ext.refl hP
 have hpin : PIn w (inP p L R B mm) p L R B mm := PIn.self
 have hml1 : (q.ns.map Nd.l).length = q.ns.length ∧ (q.ns.map Nd.r).length = q.ns.length := ⟨List.length_map .., List.length_map ..⟩
 have hml2 : q.bs.length = q.ns.length ∧ q.ns.length ≤ 1048576 := ⟨hok.ar.ok.len, hok.ar.ok.lim⟩
 have hm := hx.max
 refine zD (zG ?_)
 refine qD rfl (zC (v := (.slice none 0 0)) rfl) ?_
 refine qe (zA (zD (zG ?_)))
 refine qI rfl (o_makeMap (fun k : Int => Value.int .i64 k) (fun v : Bool => Value.bool v) hX0.pins (fun m3 w4 hk5 hm6 hp7 hl8 => ?_))
 have hX9 := hX0.step hp7 hl8
 have hpk10 := hpk.below hl8 hp7
 have hnp11 := hpk.new (x := some m3) (fun k hk => by cases hk; omega)
 have hlo12 : w.heap.size ≤ m3 := by have := hX0.size; omega
 refine qD rfl (zC (v := (.map (some m3))) rfl) ?_
 refine qe (zA (zD (zG ?_)))
 refine qI rfl (xK (E := eInt) (e := 3) Tryz.underlying65 sz3 hX9.pins (fun u13 w14 ho15 hp16 hl17 hk18 => ?_))
 have hX19 := hX9.step hp16 hl17
 have hm20 := hm6.below hl17
 have hpk21 := hpk10.below hl17 hp16
 have ha26 := hpk10.new (x := u13.ownBlock) (fun k hk => by rw [hk18] at hk; cases hk; exact Nat.le_refl _)
 have ho27 : Own eInt 3 G w14 w.heap.size u13 ([]) := ho15.weaken hX9.size
 refine qD rfl (zC (v := u13) rfl) ?_
 refine qe (zA (zD (zD (zG ?_))))
 refine qD rfl (zB (v := x) rfl) ?_
 refine qD rfl (zV Tryz.underlying65 (v := x) rfl hx) ?_
 refine qD rfl (zB (v := (.int .i64 0)) rfl) ?_
 refine qe (zA ?_)
 refine yD ?_
 refine yU (fun (k : Nat) (en : Nat → Value) (W : World) => ∃ (env1 : Nat → Value) (i : Nat) (lv : Value) (ls : List Int) (sn : List (Int × Bool)) (GL1 : Pin), en = (upd (upd (upd (upd (upd (upd (upd env1 0 (.pointer (some ⟨p, 0, none⟩))) 4 (.slice none 0 0)) 5 (.map (some m3))) 6 lv) 16 x) 17 (.int .i64 (xs.length : Int))) 18 (.int .i64 (i : Int))) ∧ k = xs.length - i ∧ Ext noS G w GL1 W ∧ Pin.le G GL1 ∧ (i ≤ xs.length) ∧ (PtOk q (xs.take i) ls 0) ∧ (SnOk sn ls) ∧ (Own eInt 3 GL1 W w.heap.size lv (ls)) ∧ (Mp (fun k : Int => Value.int .i64 k) (fun v : Bool => Value.bool v) W m3 (sn)) ∧ (Pk 65 3 GL1 W p L R B mm q) ∧ (NP p L R B mm lv.ownBlock)) _ ⟨_, 0, u13, [], [], G, (zF (x := 18) (zF (x := 17) (zF (x := 16) (zF (x := 6) (zF (x := 5) (zF (x := 4) (zW (x := 0) rfl) rfl) rfl) rfl) rfl) rfl) rfl), rfl, hX19, Pin.le_refl _, Nat.zero_le _, PtOk.start, SnOk.start, ho27, hm20, hpk21, ha26⟩ ?_
 rintro k32 _ w33 ⟨env1, i, lv, ls, sn, GL1, rfl, hk34, hX35, hlek32, hi, hpt, hsn, hw36, hm37, hpk38, hnp39⟩
 have hpl0 := hpt.len
 refine zD (zG ?_)
 refine qD rfl (yV rfl rfl) ?_
 refine qe (zA (zD ?_))
 refine yB (p := ((i : Int) : Int) < (xs.length : Int)) rfl rfl (fun h40 => ?_) (fun h40 => ?_)
 ·skip
  refine wp_skip ?_
  refine zA (zD ?_)
  refine yD ?_
  refine zD (zG ?_)
  refine qD rfl (zS Tryz.underlying65 sz3 (v := x) rfl rfl hx (by omega) (by omega)) ?_
  refine qD rfl (zP (r := xs.getD i 0) rfl ag3 (z := (i : Int)) rfl hx (Pins.of_le hX35.pins hlek32) (by omega) (by omega)) ?_
  refine qD rfl (zC (v := (.int .i64 (xs.getD i 0))) rfl) ?_
  refine qe (zA (zD (zG ?_)))
  refine qD rfl (zB (v := (.map (some m3))) rfl) ?_
  refine qD rfl (zB (v := (.int .i64 (xs.getD i 0))) rfl) ?_
  refine qD rfl (run_look1_bool (k := (xs.getD i 0)) (key_int Tryz.underlying3) Tryz.underlying147 zr4 hm37 rfl rfl) ?_
  refine qD rfl (r_not rfl) ?_
  refine qe (zA ?_)
  refine c_ifn rfl rfl (fun h41 => ?_) (fun h41 => ?_)
  ·skip
   refine wp_skip ?_
   refine yJ ?_
   refine zA (zG ?_)
   refine qD rfl (yQ rfl rfl (by omega)) ?_
   refine qD rfl (zB (v := (.int .i64 ((i : Int) + 1))) rfl) ?_
   refine qe ?_
   refine yM ?_
   refine ⟨_, ?_, _, rfl, _, i + 1, lv, ls, sn, GL1, (zF (x := 18) (zF (x := 17) (zF (x := 16) (zF (x := 6) (zF (x := 5) (zF (x := 4) (zW (x := 0) rfl) rfl) rfl) rfl) rfl) rfl) rfl), rfl, hX35, hlek32, (by omega), (hpt.rseen (by omega) (hsn.yes h41)), hsn, hw36, hm37, hpk38, hnp39⟩
   omega
  refine zD (zG ?_)
  refine qD rfl (zB (v := (.map (some m3))) rfl) ?_
  refine qD rfl (zB (v := (.int .i64 (xs.getD i 0))) rfl) ?_
  refine q0 rfl rfl rfl (o_mapUpdate (val := (fun v : Bool => Value.bool v)) (k := (xs.getD i 0)) (v := true) (key_int Tryz.underlying3) Tryz.underlying147 rfl rfl rfl hX35.pins hm37 (fun w42 hm43 hp44 hg45 hz46 => ?_))
  have hX47 := hX35.write hp44 hg45 ((yL hlo12))
  have ho48 := hw36.keptA hg45 (yA hm37 hw36).symm
  have hpk49 := hpk38.kept hg45 hp44 hnp11
  refine qe (zA (zG ?_))
  refine qD rfl (zB (v := lv) rfl) ?_
  refine qD rfl (zB (v := (.int .i64 (xs.getD i 0))) rfl) ?_
  refine qI rfl (yH (E := eInt) (e := 3) [(.int .i64 (xs.getD i 0))] [xs.getD i 0] Tryz.underlying65 sz3 zr3 (by exact xO (by rfl)) (yR (by rfl)) rfl rfl rfl rfl (by decide) hX47.pins (fun u50 w51 ho52 hp53 hl54 hk55 => ?_))
  have hX56 := hX47.step hp53 hl54
  have ho57 := ho48.below hl54
  have hm58 := hm43.below hl54
  have hpk59 := hpk49.below hl54 hp53
  have ho66 : Own eInt 3 GL1 w51 w.heap.size u50 ([xs.getD i 0]) := ho52.weaken hX47.size
  refine qI rfl (zX (E := eInt) (v := lv) (u := u50) 8 Tryz.underlying65 ap3 (by decide) rfl rfl hX56.pins ho57 ho66.src (by first | omega | (rw [List.nil_append]; omega) | (rw [List.length_nil]; omega) | (rw [List.length_append]; omega) | (simp; done) | (simp; omega) | (simp only [List.length_append, List.length_cons, List.length_nil]; omega)) (by first | omega | (rw [List.nil_append]; omega) | (rw [List.length_nil]; omega) | (rw [List.length_append]; omega) | (simp; done) | (simp; omega) | (simp only [List.length_append, List.length_cons, List.length_nil]; omega)) (hX56.size) (fun u67 w68 ho69 hp70 hg71 hw72 => ?_))
  have hX73 := hX56.write hp70 hg71 ((yG ho57))
  have hm75 := hm58.kept hg71 (yA hm58 ho57)
  have hpk76 := hpk59.kept hg71 hp70 hnp39
  have hnp78 := np_app hnp39 hpk59 hw72
  have hm79 : (ls ++ ([xs.getD i 0])).length = ls.length + 1 := List.length_append
  refine qD rfl (zC (v := u67) rfl) ?_
  refine qe ?_
  refine yJ ?_
  refine zA (zG ?_)
  refine qD rfl (yQ rfl rfl (by omega)) ?_
  refine qD rfl (zB (v := (.int .i64 ((i : Int) + 1))) rfl) ?_
  refine qe ?_
  refine yM ?_
  refine ⟨_, ?_, _, rfl, _, i + 1, u67, ls ++ ([xs.getD i 0]), putE sn (xs.getD i 0) true, GL1, (zF (x := 18) (zF (x := 17) (zF (x := 16) (zF (x := 6) (zF (x := 5) (zF (x := 4) (zW (x := 0) rfl) rfl) rfl) rfl) rfl) rfl) rfl), rfl, hX73, hlek32, (by omega), (hpt.rnew (by omega) (hsn.no h41) (hr i (by omega))), hsn.put, ho69, hm75, hpk76, hnp78⟩
  omega
 refine wp_exit ?_
 refine yC ?_
 refine yN ?_
 refine yK ?_
 refine zA (zD (zD (zG ?_)))
 refine qD rfl (zC (v := (.int .i64 0)) rfl) ?_
 refine qe (zA ?_)
 refine yD ?_
 have hin : i = xs.length := by omega
 rw [hin, take_all (Nat.le_refl _)] at hpt
 refine yU (fun (k : Nat) (en : Nat → Value) (W : World) => ∃ (env1 : Nat → Value) (k2 : Nat) (lv2 : Value) (ls2 : List Int) (sn2 : List (Int × Bool)) (GL2 : Pin), en = (upd (upd (upd (upd (upd env1 0 (.pointer (some ⟨p, 0, none⟩))) 4 (.slice none 0 0)) 5 (.map (some m3))) 6 lv2) 9 (.int .i64 (k2 : Int))) ∧ k = q.ns.length - k2 ∧ Ext noS G w GL2 W ∧ Pin.le GL1 GL2 ∧ (PtOk q xs ls2 k2) ∧ (SnOk sn2 ls2) ∧ (Own eInt 3 GL2 W w.heap.size lv2 (ls2)) ∧ (Mp (fun k : Int => Value.int .i64 k) (fun v : Bool => Value.bool v) W m3 (sn2)) ∧ (Pk 65 3 GL2 W p L R B mm q) ∧ (NP p L R B mm lv2.ownBlock)) _ ⟨_, 0, lv, ls, sn, GL1, (zF (x := 9) (zF (x := 6) (zF (x := 5) (zF (x := 4) (zW (x := 0) rfl) rfl) rfl) rfl) rfl), rfl, hX35, Pin.le_refl _, hpt, hsn, hw36, hm37, hpk38, hnp39⟩ ?_
 rintro k84 _ w85 ⟨env1, k2, lv2, ls2, sn2, GL2, rfl, hk86, hX87, hlek84, hpt2, hsn2, hw88, hm89, hpk90, hnp91⟩
 have hpl2 := hpt2.len
 have hkl2 := hpt2.kl
 refine zD (zD (zG ?_))
 refine qD rfl (zB (v := (.int .i64 (k2 : Int))) rfl) ?_
 refine qD rfl (zB (v := lv2) rfl) ?_
 refine qD rfl (zV Tryz.underlying65 (v := lv2) rfl hw88.read) ?_
 refine qD rfl (yV rfl rfl) ?_
 refine qe (zA ?_)
 refine yB (p := ((k2 : Int) : Int) < (ls2.length : Int)) rfl rfl (fun h92 => ?_) (fun h92 => ?_)
 ·skip
  have hzp := hpt2.pl _ (yZ (d := (0 : Int)) (show k2 < ls2.length by omega))
  have hz0 := hzp.1
  have hz1 := hzp.2
  have holl := hok.ar.ok.lens (ls2.getD k2 0).toNat (by omega)
  refine wp_skip ?_
  refine zA (zD ?_)
  refine yD ?_
  refine zD ?_
  have hq93 := Gadd.pins hX87.pins lv2
  have hq94 := Gadd.pins hX87.pins L
  have hq95 := Gadd.pins hX87.pins R
  have hr96 := hw88.read
  have hr97 := hpk90.ol.read
  have hr98 := hpk90.rr.read
  refine xJ (S := fun wz => BxR wz p [L, R, B, (.map (some mm.f)), (.map (some mm.o)), (.map (some mm.c)), (.map (some mm.s)), (.map (some mm.n))] ∧ Pins (Gadd GL2 w85 lv2) wz ∧ Pins (Gadd GL2 w85 L) wz ∧ Pins (Gadd GL2 w85 R) wz) (last := 22) (by kernel_rfl) rfl ?_
  have hl99 : Below w85.heap.size w85 w85.drew := (Below.refl _ _).drew
  have hp100 := hX87.pins.below hl99
  have hX101 := hX87.step hp100 hl99
  have ho102 := hw88.below hl99
  have hm103 := hm89.below hl99
  have hpk104 := hpk90.below hl99 hp100
  have hq105 := hq93.below hl99
  have hq106 := hq94.below hl99
  have hq107 := hq95.below hl99
  refine dT (i := 0) rfl rfl (by kernel_rfl) (fun _ _ => zB (v := (.pointer (some ⟨p, 0, none⟩))) rfl) ⟨hpk104.bx.reads, hq105, hq106, hq107⟩ ?_
  refine dT (i := 1) rfl rfl (by kernel_rfl) (fun _ _ => xI rfl) ⟨hpk104.bx.reads, hq105, hq106, hq107⟩ ?_
  refine dT (i := 2) rfl rfl (by kernel_rfl) (fun _ _ => zN (k := 0) rfl Tryz.underlying72 rfl nz66 rfl) ⟨hpk104.bx.reads, hq105, hq106, hq107⟩ ?_
  refine dT (i := 3) rfl rfl (by kernel_rfl) (fun _ hS => zO (u := L) ag66 rfl (hS.1 0 _ rfl)) ⟨hpk104.bx.reads, hq105, hq106, hq107⟩ ?_
  refine dT (i := 4) rfl rfl (by kernel_rfl) (fun _ _ => zB (v := lv2) rfl) ⟨hpk104.bx.reads, hq105, hq106, hq107⟩ ?_
  refine dT (i := 5) rfl rfl (by kernel_rfl) (fun _ _ => zB (v := (.int .i64 (k2 : Int))) rfl) ⟨hpk104.bx.reads, hq105, hq106, hq107⟩ ?_
  refine dT (i := 6) rfl rfl (by kernel_rfl) (fun _ _ => zS Tryz.underlying65 sz3 (v := lv2) rfl rfl hr96 (by omega) (by omega)) ⟨hpk104.bx.reads, hq105, hq106, hq107⟩ ?_
  refine dT (i := 7) rfl rfl (by kernel_rfl) (fun _ hS => zP (r := ls2.getD k2 0) rfl ag3 (z := (k2 : Int)) rfl hr96 hS.2.1 (by omega) (by omega)) ⟨hpk104.bx.reads, hq105, hq106, hq107⟩ ?_
  refine dT (i := 8) rfl rfl (by kernel_rfl) (fun _ _ => zS Tryz.underlying66 sz65 (v := L) rfl rfl hr97 (by omega) (by omega)) ⟨hpk104.bx.reads, hq105, hq106, hq107⟩ ?_
  obtain ⟨u108, hr109, hl110⟩ := nm_sl (hpk90.ol.at (z := (ls2.getD k2 0)) (by omega) (by omega)) (j := (ls2.getD k2 0).toNat) rfl
  rw [mapl_getD] at hr109
  have hm111 := hr109.max
  refine dT (i := 9) rfl rfl (by kernel_rfl) (fun _ hS => hl110 ag65 rfl hS.2.2.1) ⟨hpk104.bx.reads, hq105, hq106, hq107⟩ ?_
  refine dT (i := 10) rfl rfl (by kernel_rfl) (fun _ _ => zB (v := (.pointer (some ⟨p, 0, none⟩))) rfl) ⟨hpk104.bx.reads, hq105, hq106, hq107⟩ ?_
  refine dT (i := 11) rfl rfl (by kernel_rfl) (fun _ _ => xI rfl) ⟨hpk104.bx.reads, hq105, hq106, hq107⟩ ?_
  refine dT (i := 12) rfl rfl (by kernel_rfl) (fun _ _ => zN (k := 1) rfl Tryz.underlying72 rfl nz66 rfl) ⟨hpk104.bx.reads, hq105, hq106, hq107⟩ ?_
  refine dT (i := 13) rfl rfl (by kernel_rfl) (fun _ hS => zO (u := R) ag66 rfl (hS.1 1 _ rfl)) ⟨hpk104.bx.reads, hq105, hq106, hq107⟩ ?_
  refine dT (i := 14) rfl rfl (by kernel_rfl) (fun _ _ => zB (v := lv2) rfl) ⟨hpk104.bx.reads, hq105, hq106, hq107⟩ ?_
  refine dT (i := 15) rfl rfl (by kernel_rfl) (fun _ _ => zB (v := (.int .i64 (k2 : Int))) rfl) ⟨hpk104.bx.reads, hq105, hq106, hq107⟩ ?_
  refine dT (i := 16) rfl rfl (by kernel_rfl) (fun _ _ => zS Tryz.underlying65 sz3 (v := lv2) rfl rfl hr96 (by omega) (by omega)) ⟨hpk104.bx.reads, hq105, hq106, hq107⟩ ?_
  refine dT (i := 17) rfl rfl (by kernel_rfl) (fun _ hS => zP (r := ls2.getD k2 0) rfl ag3 (z := (k2 : Int)) rfl hr96 hS.2.1 (by omega) (by omega)) ⟨hpk104.bx.reads, hq105, hq106, hq107⟩ ?_
  refine dT (i := 18) rfl rfl (by kernel_rfl) (fun _ _ => zS Tryz.underlying66 sz65 (v := R) rfl rfl hr98 (by omega) (by omega)) ⟨hpk104.bx.reads, hq105, hq106, hq107⟩ ?_
  obtain ⟨u112, hr113, hl114⟩ := nm_sl (hpk90.rr.at (z := (ls2.getD k2 0)) (by omega) (by omega)) (j := (ls2.getD k2 0).toNat) rfl
  rw [mapr_getD] at hr113
  have hm115 := hr113.max
  refine dT (i := 19) rfl rfl (by kernel_rfl) (fun _ hS => hl114 ag65 rfl hS.2.2.2) ⟨hpk104.bx.reads, hq105, hq106, hq107⟩ ?_
  refine dT (i := 20) rfl rfl (by kernel_rfl) (fun _ _ => r_buildA (m := 1) [(.slice none 0 0), (.slice none 0 0)] [u108, u112] [(0, u108, [u108]), (1, u112, [u112])] Tryz.underlying148 zr148 rfl sz65 rfl (List.forall_mem_cons.2 ⟨(yX hr109.one), (List.forall_mem_cons.2 ⟨(yX hr113.one), (fun _ h => by cases h)⟩)⟩) rfl) ⟨hpk104.bx.reads, hq105, hq106, hq107⟩ ?_
  refine dT (i := 21) rfl rfl (by kernel_rfl) (fun _ _ => zB (v := (.int .i64 0)) rfl) ⟨hpk104.bx.reads, hq105, hq106, hq107⟩ ?_
  refine yS (by kernel_rfl) ?_
  refine zA ?_
  refine yD ?_
  refine yU (fun (k : Nat) (en : Nat → Value) (W : World) => ∃ (env1 : Nat → Value) (s : Nat) (lv3 : Value) (ls3 : List Int) (sn3 : List (Int × Bool)) (GL3 : Pin), en = (upd (upd (upd (upd (upd (upd (upd env1 0 (.pointer (some ⟨p, 0, none⟩))) 4 (.slice none 0 0)) 5 (.map (some m3))) 6 lv3) 9 (.int .i64 (k2 : Int))) 59 (.agg [u108, u112].toArray)) 60 (.int .i64 (s : Int))) ∧ k = 2 - s ∧ Ext noS G w GL3 W ∧ Pin.le GL2 GL3 ∧ (s ≤ 2) ∧ (PtIn q xs ls3 k2 (ls2.getD k2 0) (dzL (q.ns.getD (ls2.getD k2 0).toNat default).l (q.ns.getD (ls2.getD k2 0).toNat default).r s)) ∧ (SnOk sn3 ls3) ∧ (Own eInt 3 GL3 W w.heap.size lv3 (ls3)) ∧ (Mp (fun k : Int => Value.int .i64 k) (fun v : Bool => Value.bool v) W m3 (sn3)) ∧ (Pk 65 3 GL3 W p L R B mm q) ∧ (NP p L R B mm lv3.ownBlock)) _ ⟨_, 0, lv2, ls2, sn2, GL2, (zF (x := 60) (zF (x := 59) (zF (x := 9) (zF (x := 6) (zF (x := 5) (zF (x := 4) (zW (x := 0) rfl) rfl) rfl) rfl) rfl) rfl) rfl), rfl, hX101, Pin.le_refl _, Nat.zero_le _, (PtIn.start hpt2 (by omega)), hsn2, ho102, hm103, hpk104, hnp91⟩ ?_
  rintro k120 _ w121 ⟨env1, s, lv3, ls3, sn3, GL3, rfl, hk122, hX123, hlek120, hs, hin3, hsn3, hw124, hm125, hpk126, hnp127⟩
  have hpl3 := hin3.ok.len
  refine zD (zG ?_)
  refine qD rfl (yV rfl rfl) ?_
  refine qe (zA (zD ?_))
  refine yB (p := ((s : Int) : Int) < 2) rfl rfl (fun h128 => ?_) (fun h128 => ?_)
  ·skip
   refine wp_skip ?_
   refine zA (zD ?_)
   refine yD ?_
   refine zD (zG ?_)
   obtain ⟨u129, hr130, hl131⟩ := name_index2 (hr109.mono hlek120) (hr113.mono hlek120) (z := (s : Int)) s (by omega) (by omega) rfl
   have hm132 := hr130.max
   refine qD rfl (hl131 Tryz.underlying148 rfl sz65 ag65 rfl rfl) ?_
   refine qD rfl (zC (v := u129) rfl) ?_
   refine qe (zA (zD (zG ?_)))
   refine qD rfl (zB (v := u129) rfl) ?_
   refine qD rfl (zV Tryz.underlying65 (v := u129) rfl hr130) ?_
   refine qD rfl (zB (v := (.int .i64 0)) rfl) ?_
   refine qe (zA ?_)
   refine yD ?_
   refine yU (fun (k : Nat) (en : Nat → Value) (W : World) => ∃ (env1 : Nat → Value) (j : Nat) (lv4 : Value) (ls4 : List Int) (sn4 : List (Int × Bool)) (GL4 : Pin), en = (upd (upd (upd (upd (upd (upd (upd (upd (upd (upd env1 0 (.pointer (some ⟨p, 0, none⟩))) 4 (.slice none 0 0)) 5 (.map (some m3))) 6 lv4) 9 (.int .i64 (k2 : Int))) 59 (.agg [u108, u112].toArray)) 60 (.int .i64 (s : Int))) 63 u129) 64 (.int .i64 ((pick2 s ((q.ns.getD (ls2.getD k2 0).toNat default).l) ((q.ns.getD (ls2.getD k2 0).toNat default).r)).length : Int))) 65 (.int .i64 (j : Int))) ∧ k = (pick2 s (q.ns.getD (ls2.getD k2 0).toNat default).l (q.ns.getD (ls2.getD k2 0).toNat default).r).length - j ∧ Ext noS G w GL4 W ∧ Pin.le GL3 GL4 ∧ (j ≤ (pick2 s (q.ns.getD (ls2.getD k2 0).toNat default).l (q.ns.getD (ls2.getD k2 0).toNat default).r).length) ∧ (PtIn q xs ls4 k2 (ls2.getD k2 0) (dzL (q.ns.getD (ls2.getD k2 0).toNat default).l (q.ns.getD (ls2.getD k2 0).toNat default).r s ++ (pick2 s (q.ns.getD (ls2.getD k2 0).toNat default).l (q.ns.getD (ls2.getD k2 0).toNat default).r).take j)) ∧ (SnOk sn4 ls4) ∧ (Own eInt 3 GL4 W w.heap.size lv4 (ls4)) ∧ (Mp (fun k : Int => Value.int .i64 k) (fun v : Bool => Value.bool v) W m3 (sn4)) ∧ (Pk 65 3 GL4 W p L R B mm q) ∧ (NP p L R B mm lv4.ownBlock)) _ ⟨_, 0, lv3, ls3, sn3, GL3, (zF (x := 65) (zF (x := 64) (zF (x := 63) (zF (x := 60) (zF (x := 59) (zF (x := 9) (zF (x := 6) (zF (x := 5) (zF (x := 4) (zW (x := 0) rfl) rfl) rfl) rfl) rfl) rfl) rfl) rfl) rfl) rfl), rfl, hX123, Pin.le_refl _, Nat.zero_le _, (by rw [List.take_zero, List.append_nil]; exact hin3), hsn3, hw124, hm125, hpk126, hnp127⟩ ?_
   rintro k137 _ w138 ⟨env1, j, lv4, ls4, sn4, GL4, rfl, hk139, hX140, hlek137, hj, hin4, hsn4, hw141, hm142, hpk143, hnp144⟩
   have hpl5 := hin4.ok.len
   refine zD (zG ?_)
   refine qD rfl (yV rfl rfl) ?_
   refine qe (zA (zD ?_))
   refine yB (p := ((j : Int) : Int) < ((pick2 s ((q.ns.getD (ls2.getD k2 0).toNat default).l) ((q.ns.getD (ls2.getD k2 0).toNat default).r)).length : Int)) rfl rfl (fun h145 => ?_) (fun h145 => ?_)
   ·skip
    refine wp_skip ?_
    refine zA (zD ?_)
    refine yD ?_
    refine zD (zG ?_)
    refine qD rfl (zS Tryz.underlying65 sz3 (v := u129) rfl rfl hr130 (by omega) (by omega)) ?_
    refine qD rfl (zP (r := (pick2 s ((q.ns.getD (ls2.getD k2 0).toNat default).l) ((q.ns.getD (ls2.getD k2 0).toNat default).r)).getD j 0) rfl ag3 (z := (j : Int)) rfl hr130 (Pins.of_le hX140.pins hlek137) (by omega) (by omega)) ?_
    refine qD rfl (zC (v := (.int .i64 ((pick2 s ((q.ns.getD (ls2.getD k2 0).toNat default).l) ((q.ns.getD (ls2.getD k2 0).toNat default).r)).getD j 0))) rfl) ?_
    refine qe (zA (zD (zG ?_)))
    refine qD rfl (zB (v := (.map (some m3))) rfl) ?_
    refine qD rfl (zB (v := (.int .i64 ((pick2 s ((q.ns.getD (ls2.getD k2 0).toNat default).l) ((q.ns.getD (ls2.getD k2 0).toNat default).r)).getD j 0))) rfl) ?_
    refine qD rfl (run_look1_bool (k := ((pick2 s ((q.ns.getD (ls2.getD k2 0).toNat default).l) ((q.ns.getD (ls2.getD k2 0).toNat default).r)).getD j 0)) (key_int Tryz.underlying3) Tryz.underlying147 zr4 hm142 rfl rfl) ?_
    refine qD rfl (r_not rfl) ?_
    refine qe (zA ?_)
    refine c_ifn rfl rfl (fun h146 => ?_) (fun h146 => ?_)
    ·skip
     refine wp_skip ?_
     refine yJ ?_
     refine zA (zG ?_)
     refine qD rfl (yQ rfl rfl (by omega)) ?_
     refine qD rfl (zB (v := (.int .i64 ((j : Int) + 1))) rfl) ?_
     refine qe ?_
     refine yM ?_
     refine ⟨_, ?_, _, rfl, _, j + 1, lv4, ls4, sn4, GL4, (zF (x := 65) (zF (x := 64) (zF (x := 63) (zF (x := 60) (zF (x := 59) (zF (x := 9) (zF (x := 6) (zF (x := 5) (zF (x := 4) (zW (x := 0) rfl) rfl) rfl) rfl) rfl) rfl) rfl) rfl) rfl) rfl), rfl, hX140, hlek137, (by omega), (by rw [xZ _ 0 (show j < (pick2 s (q.ns.getD (ls2.getD k2 0).toNat default).l (q.ns.getD (ls2.getD k2 0).toNat default).r).length by omega), ← List.append_assoc]; exact hin4.seen (hsn4.yes h146)), hsn4, hw141, hm142, hpk143, hnp144⟩
     omega
    refine zD (zG ?_)
    refine qD rfl (zB (v := (.map (some m3))) rfl) ?_
    refine qD rfl (zB (v := (.int .i64 ((pick2 s ((q.ns.getD (ls2.getD k2 0).toNat default).l) ((q.ns.getD (ls2.getD k2 0).toNat default).r)).getD j 0))) rfl) ?_
    refine q0 rfl rfl rfl (o_mapUpdate (val := (fun v : Bool => Value.bool v)) (k := ((pick2 s ((q.ns.getD (ls2.getD k2 0).toNat default).l) ((q.ns.getD (ls2.getD k2 0).toNat default).r)).getD j 0)) (v := true) (key_int Tryz.underlying3) Tryz.underlying147 rfl rfl rfl hX140.pins hm142 (fun w147 hm148 hp149 hg150 hz151 => ?_))
    have hX152 := hX140.write hp149 hg150 ((yL hlo12))
    have ho153 := hw141.keptA hg150 (yA hm142 hw141).symm
    have hpk154 := hpk143.kept hg150 hp149 hnp11
    refine qe (zA (zG ?_))
    refine qD rfl (zB (v := lv4) rfl) ?_
    refine qD rfl (zB (v := (.int .i64 ((pick2 s ((q.ns.getD (ls2.getD k2 0).toNat default).l) ((q.ns.getD (ls2.getD k2 0).toNat default).r)).getD j 0))) rfl) ?_
    refine qI rfl (yH (E := eInt) (e := 3) [(.int .i64 ((pick2 s ((q.ns.getD (ls2.getD k2 0).toNat default).l) ((q.ns.getD (ls2.getD k2 0).toNat default).r)).getD j 0))] [(pick2 s ((q.ns.getD (ls2.getD k2 0).toNat default).l) ((q.ns.getD (ls2.getD k2 0).toNat default).r)).getD j 0] Tryz.underlying65 sz3 zr3 (by exact xO (by rfl)) (yR (by rfl)) rfl rfl rfl rfl (by decide) hX152.pins (fun u155 w156 ho157 hp158 hl159 hk160 => ?_))
    have hX161 := hX152.step hp158 hl159
    have ho162 := ho153.below hl159
    have hm163 := hm148.below hl159
    have hpk164 := hpk154.below hl159 hp158
    have ho171 : Own eInt 3 GL4 w156 w.heap.size u155 ([(pick2 s ((q.ns.getD (ls2.getD k2 0).toNat default).l) ((q.ns.getD (ls2.getD k2 0).toNat default).r)).getD j 0]) := ho157.weaken hX152.size
    refine qI rfl (zX (E := eInt) (v := lv4) (u := u155) 8 Tryz.underlying65 ap3 (by decide) rfl rfl hX161.pins ho162 ho171.src (by first | omega | (rw [List.nil_append]; omega) | (rw [List.length_nil]; omega) | (rw [List.length_append]; omega) | (simp; done) | (simp; omega) | (simp only [List.length_append, List.length_cons, List.length_nil]; omega)) (by first | omega | (rw [List.nil_append]; omega) | (rw [List.length_nil]; omega) | (rw [List.length_append]; omega) | (simp; done) | (simp; omega) | (simp only [List.length_append, List.length_cons, List.length_nil]; omega)) (hX161.size) (fun u172 w173 ho174 hp175 hg176 hw177 => ?_))
    have hX178 := hX161.write hp175 hg176 ((yG ho162))
    have hm180 := hm163.kept hg176 (yA hm163 ho162)
    have hpk181 := hpk164.kept hg176 hp175 hnp144
    have hnp183 := np_app hnp144 hpk164 hw177
    have hm184 : (ls4 ++ ([(pick2 s ((q.ns.getD (ls2.getD k2 0).toNat default).l) ((q.ns.getD (ls2.getD k2 0).toNat default).r)).getD j 0])).length = ls4.length + 1 := List.length_append
    refine qD rfl (zC (v := u172) rfl) ?_
    refine qe ?_
    refine yJ ?_
    refine zA (zG ?_)
    refine qD rfl (yQ rfl rfl (by omega)) ?_
    refine qD rfl (zB (v := (.int .i64 ((j : Int) + 1))) rfl) ?_
    refine qe ?_
    refine yM ?_
    refine ⟨_, ?_, _, rfl, _, j + 1, u172, ls4 ++ ([(pick2 s ((q.ns.getD (ls2.getD k2 0).toNat default).l) ((q.ns.getD (ls2.getD k2 0).toNat default).r)).getD j 0]), putE sn4 ((pick2 s ((q.ns.getD (ls2.getD k2 0).toNat default).l) ((q.ns.getD (ls2.getD k2 0).toNat default).r)).getD j 0) true, GL4, (zF (x := 65) (zF (x := 64) (zF (x := 63) (zF (x := 60) (zF (x := 59) (zF (x := 9) (zF (x := 6) (zF (x := 5) (zF (x := 4) (zW (x := 0) rfl) rfl) rfl) rfl) rfl) rfl) rfl) rfl) rfl) rfl), rfl, hX178, hlek137, (by omega), (by rw [xZ _ 0 (show j < (pick2 s (q.ns.getD (ls2.getD k2 0).toNat default).l (q.ns.getD (ls2.getD k2 0).toNat default).r).length by omega), ← List.append_assoc]; exact hin4.new hok (hsn4.no h146) (dz_in (by omega) (by omega))), hsn4.put, ho174, hm180, hpk181, hnp183⟩
    omega
   have hjn : j = (pick2 s (q.ns.getD (ls2.getD k2 0).toNat default).l (q.ns.getD (ls2.getD k2 0).toNat default).r).length := by omega
   rw [hjn, take_all (Nat.le_refl _)] at hin4
   have hin5 : PtIn q xs ls4 k2 (ls2.getD k2 0) (dzL (q.ns.getD (ls2.getD k2 0).toNat default).l (q.ns.getD (ls2.getD k2 0).toNat default).r (s + 1)) := by rw [dz_next (by omega)]; exact hin4
   refine wp_exit ?_
   refine yC ?_
   refine yN ?_
   refine yK ?_
   refine yJ ?_
   refine zA (zG ?_)
   refine qD rfl (yQ rfl rfl (by omega)) ?_
   refine qD rfl (zB (v := (.int .i64 ((s : Int) + 1))) rfl) ?_
   refine qe ?_
   refine yM ?_
   refine ⟨_, ?_, _, rfl, _, s + 1, lv4, ls4, sn4, GL4, (zF (x := 60) (zF (x := 59) (zF (x := 9) (zF (x := 6) (zF (x := 5) (zF (x := 4) (zW (x := 0) rfl) rfl) rfl) rfl) rfl) rfl) rfl), rfl, hX140, (Pin.le_trans hlek120 hlek137), (by omega), hin5, hsn4, hw141, hm142, hpk143, hnp144⟩
   omega
  have hs2 : s = 2 := by omega
  rw [hs2] at hin3
  have hdone := hin3.done (fun o ho => ho)
  have hpl4 := hdone.kl
  refine wp_exit ?_
  refine yC ?_
  refine yN ?_
  refine yK ?_
  refine yJ ?_
  refine zA (zG ?_)
  refine qD rfl (zB (v := (.int .i64 (k2 : Int))) rfl) ?_
  refine qD rfl (yQ rfl rfl (by omega)) ?_
  refine qD rfl (zC (v := (.int .i64 ((k2 : Int) + 1))) rfl) ?_
  refine qe ?_
  refine yM ?_
  refine ⟨_, ?_, _, rfl, _, k2 + 1, lv3, ls3, sn3, GL3, (zF (x := 9) (zF (x := 6) (zF (x := 5) (zF (x := 4) (zW (x := 0) rfl) rfl) rfl) rfl) rfl), rfl, hX123, (Pin.le_trans hlek84 hlek120), hdone, hsn3, hw124, hm125, hpk126, hnp127⟩
  omega
 refine wp_exit ?_
 refine yC ?_
 refine yN ?_
 refine yK ?_
 refine zA (zD (zG ?_))
 refine qD rfl (zB (v := lv2) rfl) ?_
 refine qD rfl (zC (v := lv2) rfl) ?_
 refine qe (zA ?_)
 refine wp_ret ?_
 refine zT ?_
 refine zQ (v := lv2) rfl rfl rfl ?_
 have hkk : k2 = ls2.length := by omega
 rw [hkk] at hpt2
 exact ⟨_, _, _, rfl, hw88, hpt2, hX87⟩

end PA1
end Go.Proofs.YtfnginkcmcfdfaaGreatDoor

set_option maxRecDepth 20000
set_option maxHeartbeats 2000000
namespace Go.Proofs.YtfnginkcmcfdfaaGreatDoor
namespace SO1
open Go.RowKit Go.GL Go.Proofs
open Go.Proofs.YtfnginkcmcfdfaaGreatDoor.B1










theorem cmpB_spec {w : World} {G : Pin} {p : Nat} {L R B : Value} {mm : PM} {q : PSt} (hP : Pins G w) (hpk : Pk 65 3 G w p L R B mm q) (hok : PoolOk q) {bx : Nat} (hbx : BxP G bx [.pointer (some ⟨p, 0, none⟩)]) {a b : Int} (ha : PlaceOk q a) (hb : PlaceOk q b) :
  Calls Tryz.prog 116 [(.int .i64 a), (.int .i64 b), (.pointer (some ⟨bx, 0, none⟩))].toArray w fun e w' => e = .returned (.int .i64 (cmpI (bn q a) (bn q b))) ∧ ∃ n os, w' = Go.Sort.grow (w.drewN n) os := by
 refine zZ (n := 21) Tryz.func116 Tryz.ntmps116 rfl rfl ?_
 have hX0 : Ext noS G w G w := Ext.refl hP
 have hpin : PIn w (inP p L R B mm) p L R B mm := PIn.self
 have hml1 : (q.ns.map Nd.l).length = q.ns.length ∧ (q.ns.map Nd.r).length = q.ns.length := ⟨List.length_map .., List.length_map ..⟩
 have hml2 : q.bs.length = q.ns.length ∧ q.ns.length ≤ 1048576 := ⟨hok.ar.ok.len, hok.ar.ok.lim⟩
 have ha0 := ha.1
 have ha1 := ha.2
 have hb0 := hb.1
 have hb1 := hb.2
 refine zD (zG ?_)
 refine qD rfl (zC (v := (.int .i64 0)) rfl) ?_
 refine qe (zA (zD ?_))
 have hq3 := Gadd.pins hX0.pins B
 have hr4 := hpk.ob.read
 refine xJ (S := fun wz => Pins G wz ∧ BxR wz p [L, R, B, (.map (some mm.f)), (.map (some mm.o)), (.map (some mm.c)), (.map (some mm.s)), (.map (some mm.n))] ∧ Pins (Gadd G w B) wz) (last := 16) (by kernel_rfl) rfl ?_
 have hl5 : Below w.heap.size w w.drew := (Below.refl _ _).drew
 have hp6 := hX0.pins.below hl5
 have hdr7 : w.drew.drawn = w.drawn + 1 := rfl
 have hX8 := hX0.step hp6 hl5
 have hpk9 := hpk.below hl5 hp6
 have hq10 := hq3.below hl5
 refine dT (i := 0) rfl rfl (by kernel_rfl) (fun _ hS => zO (u := (.pointer (some ⟨p, 0, none⟩))) ag61 rfl (hS.1 _ _ _ (hbx 0 _ rfl))) ⟨hX8.pins, hpk9.bx.reads, hq10⟩ ?_
 refine dT (i := 1) rfl rfl (by kernel_rfl) (fun _ _ => xI rfl) ⟨hX8.pins, hpk9.bx.reads, hq10⟩ ?_
 refine dT (i := 2) rfl rfl (by kernel_rfl) (fun _ _ => zN (k := 2) rfl Tryz.underlying72 rfl nz65 rfl) ⟨hX8.pins, hpk9.bx.reads, hq10⟩ ?_
 refine dT (i := 3) rfl rfl (by kernel_rfl) (fun _ hS => zO (u := B) ag65 rfl (hS.2.1 2 _ rfl)) ⟨hX8.pins, hpk9.bx.reads, hq10⟩ ?_
 refine dT (i := 4) rfl rfl (by kernel_rfl) (fun _ _ => zB (v := (.int .i64 a)) rfl) ⟨hX8.pins, hpk9.bx.reads, hq10⟩ ?_
 refine dT (i := 5) rfl rfl (by kernel_rfl) (fun _ _ => zS Tryz.underlying65 sz3 (v := B) rfl rfl hr4 (by omega) (by omega)) ⟨hX8.pins, hpk9.bx.reads, hq10⟩ ?_
 refine dT (i := 6) rfl rfl (by kernel_rfl) (fun _ hS => zP (r := q.bs.getD (a).toNat 0) rfl ag3 (z := a) rfl hr4 hS.2.2 (by omega) (by omega)) ⟨hX8.pins, hpk9.bx.reads, hq10⟩ ?_
 refine dT (i := 7) rfl rfl (by kernel_rfl) (fun _ hS => zO (u := (.pointer (some ⟨p, 0, none⟩))) ag61 rfl (hS.1 _ _ _ (hbx 0 _ rfl))) ⟨hX8.pins, hpk9.bx.reads, hq10⟩ ?_
 refine dT (i := 8) rfl rfl (by kernel_rfl) (fun _ _ => xI rfl) ⟨hX8.pins, hpk9.bx.reads, hq10⟩ ?_
 refine dT (i := 9) rfl rfl (by kernel_rfl) (fun _ _ => zN (k := 2) rfl Tryz.underlying72 rfl nz65 rfl) ⟨hX8.pins, hpk9.bx.reads, hq10⟩ ?_
 refine dT (i := 10) rfl rfl (by kernel_rfl) (fun _ hS => zO (u := B) ag65 rfl (hS.2.1 2 _ rfl)) ⟨hX8.pins, hpk9.bx.reads, hq10⟩ ?_
 refine dT (i := 11) rfl rfl (by kernel_rfl) (fun _ _ => zB (v := (.int .i64 b)) rfl) ⟨hX8.pins, hpk9.bx.reads, hq10⟩ ?_
 refine dT (i := 12) rfl rfl (by kernel_rfl) (fun _ _ => zS Tryz.underlying65 sz3 (v := B) rfl rfl hr4 (by omega) (by omega)) ⟨hX8.pins, hpk9.bx.reads, hq10⟩ ?_
 refine dT (i := 13) rfl rfl (by kernel_rfl) (fun _ hS => zP (r := q.bs.getD (b).toNat 0) rfl ag3 (z := b) rfl hr4 hS.2.2 (by omega) (by omega)) ⟨hX8.pins, hpk9.bx.reads, hq10⟩ ?_
 refine zR (i := 14) (by kernel_rfl) (zU (i := 14) rfl rfl rfl (zH rfl _) (zM (vs := [(.int .i64 (q.bs.getD (a).toNat 0)), (.int .i64 (q.bs.getD (b).toNat 0))]) Tryz.func97 nm97 rfl rfl rfl ?_))
 refine Calls.mono (cmpCompare_spec hX8.pins) ?_
 rintro _ _ ⟨rfl, rfl⟩
 refine ⟨_, rfl, ?_⟩
 refine ⟨fun _ => ⟨hX8.pins, hpk9.bx.reads, hq10⟩, ?_⟩
 refine dT (i := 15) rfl rfl (by kernel_rfl) (fun _ _ => zC (v := (.int .i64 (cmpI (q.bs.getD (a).toNat 0) (q.bs.getD (b).toNat 0)))) rfl) ⟨hX8.pins, hpk9.bx.reads, hq10⟩ ?_
 refine yS (by kernel_rfl) ?_
 refine zA ?_
 refine wp_ret ?_
 refine zT ?_
 refine zQ (v := (.int .i64 (cmpI (q.bs.getD (a).toNat 0) (q.bs.getD (b).toNat 0)))) rfl rfl rfl ?_
 exact ⟨rfl, grow_of hX8.below (by omega)⟩

theorem cmpE_spec {w : World} {G : Pin} {x y : Ent} (hP : Pins G w) (hx : EntOk G x) (hy : EntOk G y) :
  Calls Tryz.prog 119 [(.agg [(.int .i64 x.id), x.l, x.r].toArray), (.agg [(.int .i64 y.id), y.l, y.r].toArray)].toArray w fun e w' => e = .returned (.int .i64 (orL [cmpL x.nd.l y.nd.l, cmpL x.nd.r y.nd.r])) ∧ ∃ n os, w' = Go.Sort.grow (w.drewN n) os := by
 refine zZ (n := 21) Tryz.func119 Tryz.ntmps119 rfl rfl ?_
 have hX0 : Ext noS G w G w := Ext.refl hP
 refine zD (zG ?_)
 refine qI rfl (o_boxd [(.int .i64 x.id), x.l, x.r] (v := (.agg [(.int .i64 x.id), x.l, x.r].toArray)) rfl rfl hX0.pins (fun b1 w2 hdn7 hk3 hb4 hp5 hl6 => ?_))
 have hX8 := hX0.step hp5 hl6
 have hlo9 : w.heap.size ≤ b1 := by have := hX0.size; omega
 obtain ⟨G10, hle11, hX12, hbp13, hf14⟩ := hb4.shut hX8 hlo9
 refine qI rfl (o_boxd [(.int .i64 y.id), y.l, y.r] (v := (.agg [(.int .i64 y.id), y.l, y.r].toArray)) rfl rfl hX12.pins (fun b15 w16 hdn21 hk17 hb18 hp19 hl20 => ?_))
 have hX22 := hX12.step hp19 hl20
 have hlo23 : w.heap.size ≤ b15 := by have := hX12.size; omega
 obtain ⟨G24, hle25, hX26, hbp27, hf28⟩ := hb18.shut hX22 hlo23
 refine qD rfl (zC (v := (.int .i64 0)) rfl) ?_
 refine qe (zA (zD ?_))
 refine xJ (S := fun wz => Pins G24 wz) (last := 17) (by kernel_rfl) rfl ?_
 have hl29 : Below w16.heap.size w16 w16.drew := (Below.refl _ _).drew
 have hp30 := hX26.pins.below hl29
 have hdr31 : w16.drew.drawn = w16.drawn + 1 := rfl
 have hX32 := hX26.step hp30 hl29
 refine dT (i := 0) rfl rfl (by kernel_rfl) (fun _ _ => zN (k := 1) rfl Tryz.underlying124 rfl nz99 rfl) hX32.pins ?_
 refine dT (i := 1) rfl rfl (by kernel_rfl) (fun _ _ => zN (k := 1) rfl Tryz.underlying99 rfl nz65 rfl) hX32.pins ?_
 refine dT (i := 2) rfl rfl (by kernel_rfl) (fun _ hS => zO (u := x.l) ag65 rfl ((Pins.of_le hS hle25) _ _ _ (hbp13 1 _ rfl))) hX32.pins ?_
 refine dT (i := 3) rfl rfl (by kernel_rfl) (fun _ _ => zN (k := 1) rfl Tryz.underlying124 rfl nz99 rfl) hX32.pins ?_
 refine dT (i := 4) rfl rfl (by kernel_rfl) (fun _ _ => zN (k := 1) rfl Tryz.underlying99 rfl nz65 rfl) hX32.pins ?_
 refine dT (i := 5) rfl rfl (by kernel_rfl) (fun _ hS => zO (u := y.l) ag65 rfl (hS _ _ _ (hbp27 1 _ rfl))) hX32.pins ?_
 refine dT (i := 7) rfl rfl (by kernel_rfl) (fun _ _ => zN (k := 1) rfl Tryz.underlying124 rfl nz99 rfl) hX32.pins ?_
 refine dT (i := 8) rfl rfl (by kernel_rfl) (fun _ _ => zN (k := 2) rfl Tryz.underlying99 rfl nz65 rfl) hX32.pins ?_
 refine dT (i := 9) rfl rfl (by kernel_rfl) (fun _ hS => zO (u := x.r) ag65 rfl ((Pins.of_le hS hle25) _ _ _ (hbp13 2 _ rfl))) hX32.pins ?_
 refine dT (i := 10) rfl rfl (by kernel_rfl) (fun _ _ => zN (k := 1) rfl Tryz.underlying124 rfl nz99 rfl) hX32.pins ?_
 refine dT (i := 11) rfl rfl (by kernel_rfl) (fun _ _ => zN (k := 2) rfl Tryz.underlying99 rfl nz65 rfl) hX32.pins ?_
 refine dT (i := 12) rfl rfl (by kernel_rfl) (fun _ hS => zO (u := y.r) ag65 rfl (hS _ _ _ (hbp27 2 _ rfl))) hX32.pins ?_
 refine zR (i := 6) (by kernel_rfl) (zU (i := 6) rfl rfl rfl (zH rfl _) (zM (vs := [x.l, y.l]) Tryz.func98 nm98 rfl rfl rfl ?_))
 refine Calls.mono (slCompare_spec hX32.pins (hx.1.mono (Pin.le_trans hle11 hle25)) (hy.1.mono (Pin.le_trans hle11 hle25))) ?_
 rintro _ _ ⟨rfl, rfl⟩
 refine ⟨_, rfl, ?_⟩
 refine ⟨fun _ => hX32.pins, ?_⟩
 refine zR (i := 13) (by kernel_rfl) (zU (i := 13) rfl rfl rfl (zH rfl _) (zM (vs := [x.r, y.r]) Tryz.func98 nm98 rfl rfl rfl ?_))
 refine Calls.mono (slCompare_spec hX32.pins (hx.2.1.mono (Pin.le_trans hle11 hle25)) (hy.2.1.mono (Pin.le_trans hle11 hle25))) ?_
 rintro _ _ ⟨rfl, rfl⟩
 refine ⟨_, rfl, ?_⟩
 refine ⟨fun _ => hX32.pins, ?_⟩
 refine zR (i := 14) (by kernel_rfl) (zU (i := 14) rfl rfl rfl (zH rfl _) (o_buildFd (E := eInt) (e := 3) [(.int .i64 (cmpL x.nd.l y.nd.l)), (.int .i64 (cmpL x.nd.r y.nd.r))] [cmpL x.nd.l y.nd.l, cmpL x.nd.r y.nd.r] Tryz.underlying65 sz3 zr3 (by exact reps2 (by rfl) (by rfl)) (qB (by rfl) (by rfl)) rfl rfl rfl rfl (by decide) hX32.pins (fun u33 w34 hdn39 ho35 hp36 hl37 hk38 => ?_)))
 have hX40 := hX32.step hp36 hl37
 have ho41 : Own eInt 3 G24 w34 w.heap.size u33 ([cmpL x.nd.l y.nd.l, cmpL x.nd.r y.nd.r]) := ho35.weaken hX32.size
 refine ⟨fun _ => hX40.pins, ?_⟩
 obtain ⟨G42, hle45, hX44, hr43, hf46⟩ := ho41.sealed hX40
 refine zR (i := 15) (by kernel_rfl) (zU (i := 15) rfl rfl rfl (zH rfl _) (zM (vs := [u33]) Tryz.func96 nm96 rfl rfl rfl ?_))
 refine Calls.mono (cmpOr_spec hX44.pins hr43) ?_
 rintro _ _ ⟨rfl, rfl⟩
 refine ⟨_, rfl, ?_⟩
 refine ⟨fun _ => (Pins.of_le hX44.pins hle45), ?_⟩
 refine dT (i := 16) rfl rfl (by kernel_rfl) (fun _ _ => zC (v := (.int .i64 (orL ([cmpL x.nd.l y.nd.l, cmpL x.nd.r y.nd.r])))) rfl) (Pins.of_le hX44.pins hle45) ?_
 refine yS (by kernel_rfl) ?_
 refine zA ?_
 refine wp_ret ?_
 refine zT ?_
 refine zQ (v := (.int .i64 (orL ([cmpL x.nd.l y.nd.l, cmpL x.nd.r y.nd.r])))) rfl rfl rfl ?_
 exact ⟨rfl, grow_of hX44.below (by omega)⟩

theorem sortB_spec {w : World} {G : Pin} {p : Nat} {L R B : Value} {mm : PM} {q : PSt} (hP : Pins G w) (hpk : Pk 65 3 G w p L R B mm q) (hok : PoolOk q) {bx base : Nat} (hbx : BxP G bx [.pointer (some ⟨p, 0, none⟩)]) {v : Value} {zs : List Int} (hv : Own eInt 3 G w base v zs) (hz : ∀ z ∈ zs, PlaceOk q z) (hnp : NP p L R B mm v.ownBlock) (hl : zs.length ≤ 1048576) :
  Calls Tryz.prog 115 [v, (.func (.func 116) #[] #[(.pointer (some ⟨bx, 0, none⟩))])].toArray w fun en w' => ∃ ys : List Int, en = .returned (.tuple #[]) ∧ Own eInt 3 G w' base v ys ∧ ys.Perm zs ∧ (∀ i j, i < j → j < ys.length → bn q (ys.getD i 0) ≤ bn q (ys.getD j 0)) ∧ Ext (inO v.ownBlock) G w G w' := by
 have hnone : ∀ a cap, v = .slice a 0 cap → zs = [] → Calls Tryz.prog 115 [v, (.func (.func 116) #[] #[(.pointer (some ⟨bx, 0, none⟩))])].toArray w fun en w' => ∃ ys : List Int, en = .returned (.tuple #[]) ∧ Own eInt 3 G w' base v ys ∧ ys.Perm zs ∧ (∀ i j, i < j → j < ys.length → bn q (ys.getD i 0) ≤ bn q (ys.getD j 0)) ∧ Ext (inO v.ownBlock) G w G w' := by
  rintro a cap rfl rfl
  refine (Tryz.slices_SortFunc_none (α := Int) a cap _ w).mono ?_
  rintro en w' ⟨rfl, rfl⟩
  exact ⟨[], rfl, hv, List.Perm.refl _, fun i j _ hj => absurd hj (Nat.not_lt_zero j), Ext.refl hP⟩
 rcases own_cases hv with ⟨hv0, hz0⟩ | ⟨g, cap, hvg⟩
 ·exact hnone _ _ hv0 hz0
 by_cases h0 : zs.length = 0
 ·exact hnone _ _ (by rw [hvg, h0]) (List.eq_nil_of_length_eq_zero h0)
 subst hvg
 letI : Inhabited (Plc q) := ⟨⟨zs.getD 0 0, hz _ (yZ (by omega))⟩⟩
 obtain ⟨_, h1, h2, h3⟩ := own_holds hv
 obtain ⟨d, hd⟩ : ∃ d, d = (plcs q zs hz).toArray := ⟨_, rfl⟩
 have hdm : d.map (·.1) = zs.toArray := by rw [hd]; simp only [List.map_toArray]; rw [plcs_val hz]
 have hds : d.size = zs.length := by have := congrArg Array.size hdm; simpa using this
 have hH : Go.Sort.Holds (fun x : Plc q => Value.int .i64 x.1) w g 0 d := holds_map (enc' := Value.int .i64) (f := fun x : Plc q => x.1) (fun _ => rfl) (by rw [hdm]; exact h3)
 have hcmp : Go.Proofs.CmpLays1 Tryz.prog 116 #[(.pointer (some ⟨bx, 0, none⟩))] (fun x : Plc q => Value.int .i64 x.1) (cfB q) g 0 d.size w := fun m os dk hs x y => by
  have hgr : w.grownBy (Go.Proofs.sortWorld (fun x : Plc q => Value.int .i64 x.1) w g 0 m dk os) (some g) := by
   unfold Go.Proofs.sortWorld
   rw [putRow_map (enc := fun x : Plc q => Value.int .i64 x.1) (enc' := id) (f := fun x : Plc q => Value.int .i64 x.1) (fun _ => rfl)]
   exact grownBy_put
  have hx := Ext.one (hP.grown hgr (fun k hk => by cases hk; exact hv.free g rfl)) hgr
  exact cmpB_spec hx.pins (hpk.extS hx fun k hk hs => hnp k hs hk) hok hbx x.2 y.2
 have hcon := Tryz.slices_SortFunc (fun x : Plc q => Value.int .i64 x.1) (fun _ => rfl) (cfB q) (swoB q) 116 #[(.pointer (some ⟨bx, 0, none⟩))] g 0 cap d w (Go.Proofs.enters_of Tryz.func116 (by kernel_rfl) rfl) hcmp hH h1 (by omega)
 rw [hds] at hcon
 refine hcon.mono ?_
 rintro en w' ⟨rfl, d', n, os, hp, hs, hw⟩
 rw [← hds] at hp hs
 obtain ⟨hsz, hpl⟩ := perm_list hp
 have hyl : (d'.map (·.1)).toList.length = zs.length := by simp [hsz, hds]
 obtain ⟨a, b, c⟩ := own_put (w' := w') (ys := (d'.map (·.1)).toList) (d := d'.map (·.1)) (os := os) (m := n) hv hP (by rw [hw]; unfold Go.Proofs.sortWorld; rw [putRow_map (enc := fun x : Plc q => Value.int .i64 x.1) (enc' := Value.int .i64) (f := fun x : Plc q => x.1) (fun _ => rfl)]) (by simp [hsz, hds]) (List.take_length ..)
 rw [hyl] at a
 refine ⟨_, rfl, a, ?_, fun i j hij hj => ?_, Ext.one b c⟩
 ·have h5 := hpl.map (·.1)
  have e2 : d.toList.map (·.1) = zs := by rw [hd]; exact plcs_val hz
  rw [e2] at h5; simpa using h5
 ·rw [hyl] at hj
  have h5 := hs i j (Nat.zero_le _) hij (by omega)
  rw [ltB] at h5
  have g1 : ∀ i, i < zs.length → (d'.map (·.1)).toList.getD i 0 = (d'[i]!).1 := fun i hi => by
   rw [getElem!_pos d' i (by omega)]
   simp [List.getD, show i < d'.size by omega]
  rw [g1 i (by omega), g1 j hj]
  have := of_decide_eq_false h5
  omega

theorem sortE_spec {w : World} {G : Pin} {base lo hi : Nat} {v : Value} {es : List Ent} {LV : List Leaf} (hP : Pins G w) (hv : Own eEnt 124 G w base v es) (hL : Lvs 3 G w lo hi LV) (hm : ∀ x ∈ es, (x.l, x.nd.l) ∈ LV ∧ (x.r, x.nd.r) ∈ LV) (hap : ApL LV v.ownBlock) (hl : es.length ≤ 1048576) :
  Calls Tryz.prog 118 [v, (.func (.func 119) #[] #[])].toArray w fun en w' => ∃ ys : List Ent, en = .returned (.tuple #[]) ∧ Own eEnt 124 G w' base v ys ∧ ys.Perm es ∧ (∀ i j, i < j → j < ys.length → ¬ aheadI (ys.getD j default).nd (ys.getD i default).nd < 0) ∧ Ext (inO v.ownBlock) G w G w' := by
 have hnone : ∀ a cap, v = .slice a 0 cap → es = [] → Calls Tryz.prog 118 [v, (.func (.func 119) #[] #[])].toArray w fun en w' => ∃ ys : List Ent, en = .returned (.tuple #[]) ∧ Own eEnt 124 G w' base v ys ∧ ys.Perm es ∧ (∀ i j, i < j → j < ys.length → ¬ aheadI (ys.getD j default).nd (ys.getD i default).nd < 0) ∧ Ext (inO v.ownBlock) G w G w' := by
  rintro a cap rfl rfl
  refine (Tryz.slices_SortFunc_ent_none (α := Int) a cap _ w).mono ?_
  rintro en w' ⟨rfl, rfl⟩
  exact ⟨[], rfl, hv, List.Perm.refl _, fun i j _ hj => absurd hj (Nat.not_lt_zero j), Ext.refl hP⟩
 rcases own_casesF hv with ⟨hv0, hz0⟩ | ⟨g, cap, hvg⟩
 ·exact hnone _ _ hv0 hz0
 by_cases h0 : es.length = 0
 ·exact hnone _ _ (by rw [hvg, h0]) (List.eq_nil_of_length_eq_zero h0)
 subst hvg
 have hz : ∀ x ∈ es, EntOk (GLv G w LV) x := fun x hx => ⟨hL.read (hm x hx).1, hL.read (hm x hx).2, (hL.own _ (hm x hx).1).one, (hL.own _ (hm x hx).2).one⟩
 letI : Inhabited (EntS (GLv G w LV)) := ⟨⟨es.getD 0 default, hz _ (yZ (by omega))⟩⟩
 obtain ⟨_, h1, cells, hcl, hr, hH0⟩ := own_cellsF hv
 obtain ⟨d, hd⟩ : ∃ d, d = (ents (GLv G w LV) es hz).toArray := ⟨_, rfl⟩
 have hdm : d.toList.map (·.1) = es := by rw [hd]; exact ents_val hz
 have hds : d.size = es.length := by have := congrArg List.length hdm; simpa using this
 have hdi : ∀ i, i < d.size → (d[i]!).1 = es.getD i default := fun i hi => by
  rw [getElem!_pos d i hi]
  have := congrArg (fun l : List Ent => l[i]?) hdm
  simp only [List.getElem?_map, Array.getElem?_toList, Array.getElem?_eq_getElem hi, Option.map_some] at this
  simp [List.getD, ← this]
 have hflat : Go.Sort.flatK (encE (G := GLv G w LV)) 3 d = cells.toArray := flatK_cells (by rw [hds]; exact hcl) fun i hi => by
  have h4 := hr i (es.getD i default) (by simp [List.getD, show i < es.length by omega])
  have h5 : (cells.drop (i * 3)).take 3 = [.int .i64 (es.getD i default).id, (es.getD i default).l, (es.getD i default).r] := h4.1
  rw [h5, ← hdi i hi]; rfl
 have hH : Go.Sort.HoldsK (encE (G := GLv G w LV)) 3 w g 0 d := by unfold Go.Sort.HoldsK; rw [hflat]; exact hH0
 have hcmp : Go.Proofs.CmpLays Tryz.prog 119 #[] (encE (G := GLv G w LV)) 3 cfE g 0 d.size w := fun m os dk hs x y => by
  have hgr : w.grownBy (Go.Proofs.sortWorldK (encE (G := GLv G w LV)) 3 w g 0 m dk os) (some g) := by
   unfold Go.Proofs.sortWorldK Go.Sort.putRowK
   exact grownBy_put
  have hpp : Pins (GLv G w LV) (Go.Proofs.sortWorldK (encE (G := GLv G w LV)) 3 w g 0 m dk os) := (GLv.pins hP).grown hgr fun k hk o u hG => by
   cases hk
   rcases hG with hG | ⟨⟨p, hp, hpo⟩, _⟩
   ·exact hv.free g rfl o u hG
   ·exact hap p hp g hpo rfl
  exact cmpE_spec hpp x.2 y.2
 have hcon := Tryz.slices_SortFunc_ent 3 (Go.GL.run_isAgg (by kernel_rfl)) (Go.GL.run_sizeOf (by kernel_rfl)) (encE (G := GLv G w LV)) (fun _ => rfl) (fun x u hu => by
  simp only [encE, List.mem_cons, List.not_mem_nil, or_false] at hu
  rcases hu with rfl | rfl | rfl
  ·rfl
  ·exact x.2.2.2.1
  ·exact x.2.2.2.2) cfE (swoE _) 119 #[] g 0 cap d w (Go.Proofs.enters_of Tryz.func119 (by kernel_rfl) rfl) hcmp hH h1 (by omega)
 rw [hds] at hcon
 refine hcon.mono ?_
 rintro en w' ⟨rfl, d', n, os, hp, hs, hw⟩
 rw [← hds] at hp hs
 obtain ⟨hsz, hpl⟩ := perm_list hp
 have hyl : (d'.toList.map (·.1)).length = es.length := by simp [hsz, hds]
 have g1 : ∀ i, i < es.length → (d'.toList.map (·.1)).getD i default = (d'[i]!).1 := fun i hi => by
  rw [getElem!_pos d' i (by omega)]
  simp [List.getD, show i < d'.size by omega]
 obtain ⟨a, b, c⟩ := own_putF (ys := d'.toList.map (·.1)) (F := Go.Sort.flatK (encE (G := GLv G w LV)) 3 d') (os := os) (m := n) hv hP hw (by rw [Go.Sort.size_flatK, hsz, hds]; rfl) hyl (fun i y hy => by
  have hi : i < es.length := by have := (List.getElem?_eq_some_iff.1 hy).1; omega
  have e1 := g1 i hi
  have e0 : (d'.toList.map (·.1)).getD i default = y := by rw [List.getD_eq_getElem?_getD, hy]; rfl
  have e2 : y = (d'[i]!).1 := e0.symm.trans e1
  have h5 := chunkK (enc := encE (G := GLv G w LV)) (k := 3) (fun _ => rfl) (d := d') (i := i) (by omega)
  refine ⟨h5.trans ?_, ?_, ?_⟩
  ·rw [e2]; rfl
  ·rw [e2]; exact (d'[i]!).2.2.2.1
  ·rw [e2]; exact (d'[i]!).2.2.2.2)
 refine ⟨_, rfl, a, ?_, fun i j hij hj => ?_, Ext.one b c⟩
 ·have h5 := hpl.map (·.1)
  rw [hdm] at h5; exact h5
 ·rw [hyl] at hj
  have h5 := hs i j (Nat.zero_le _) hij (by omega)
  rw [ltE] at h5
  rw [g1 i (by omega), g1 j hj]
  exact of_decide_eq_false h5

end SO1
end Go.Proofs.YtfnginkcmcfdfaaGreatDoor

set_option maxRecDepth 20000
set_option maxHeartbeats 2000000
namespace Go.Proofs.YtfnginkcmcfdfaaGreatDoor
namespace OD1
open Go.RowKit Go.GL Go.Proofs
open Go.Proofs.YtfnginkcmcfdfaaGreatDoor.B1
open Go.Proofs.YtfnginkcmcfdfaaGreatDoor.PO1
open Go.Proofs.YtfnginkcmcfdfaaGreatDoor.PA1
open Go.Proofs.YtfnginkcmcfdfaaGreatDoor.SO1








theorem mk3 : (Tryz.prog.info? 3).map (fun i => (i.size, i.bytes, i.zero)) = some (1, 8, some (.int .i64 0)) := by kernel_rfl
theorem mk99 : (Tryz.prog.info? 99).map (fun i => (i.size, i.bytes, i.zero)) = some (2, 48, some (.agg #[(.slice none 0 0), (.slice none 0 0)])) := by kernel_rfl









theorem pl124 : (Tryz.prog.underlying 124).bind (placesD Tryz.prog) = some [(0, 1), (1, 2)] := by kernel_rfl
theorem pl99 : (Tryz.prog.underlying 99).bind (placesD Tryz.prog) = some [(0, 1), (1, 1)] := by kernel_rfl







theorem ranked_spec {w : World} {G : Pin} {v : Value} {xs : List Int} {m : Nat} {rk : List (Int × Int)} (hP : Pins G w) (hv : RSl eInt G v xs) (hmp : Mp (fun k : Int => Value.int .i64 k) (fun v : Int => Value.int .i64 v) w m rk) (hs : xs.length ≤ 1048576) :
  Calls Tryz.prog 117 [v, (.map (some m))].toArray w fun e w' => ∃ (u : Value) (G' : Pin), e = .returned u ∧ Own eInt 3 G' w' w.heap.size u (sortM (xs.map (rkI rk))) ∧ Ext noS G w G' w' := by
 refine zZ (n := 28) Tryz.func117 Tryz.ntmps117 rfl rfl ?_
 have hX0 : Ext noS G w G w := Ext.refl hP
 have hm := hv.max
 have hal : (xs.map (rkI rk)).length = xs.length := List.length_map ..
 have hrl : (List.replicate xs.length (0 : Int)).length = xs.length := List.length_replicate
 refine zD (zG ?_)
 refine qD rfl (zC (v := (.slice none 0 0)) rfl) ?_
 refine qe (zA (zD (zG ?_)))
 refine qD rfl (zB (v := v) rfl) ?_
 refine qD rfl (zV Tryz.underlying65 (v := v) rfl hv) ?_
 refine qI rfl (o_make (E := eInt) 0 8 (.int .i64 0) Tryz.underlying65 mk3 (fun _ => rfl) rfl rfl hX0.pins (by omega) (by omega) (by omega) (fun u1 w2 ho3 hp4 hl5 hk6 => ?_))
 have hX7 := hX0.step hp4 hl5
 have hm8 := hmp.below hl5
 have ho9 : Own eInt 3 G w2 w.heap.size u1 (List.replicate xs.length 0) := ho3.weaken hX0.size
 have hm10 : (List.replicate xs.length 0).length = xs.length := List.length_replicate ..
 refine qD rfl (zC (v := u1) rfl) ?_
 refine qe (zA (zD (zD (zG ?_))))
 refine qD rfl (zB (v := v) rfl) ?_
 refine qD rfl (zV Tryz.underlying65 (v := v) rfl hv) ?_
 refine qD rfl (zB (v := (.int .i64 0)) rfl) ?_
 refine qe (zA ?_)
 refine yD ?_
 refine yU (fun (k : Nat) (en : Nat → Value) (W : World) => ∃ (env1 : Nat → Value) (j : Nat) (os : List Int), en = (upd (upd (upd (upd (upd (upd env1 1 (.map (some m))) 4 (.slice none 0 0)) 5 u1) 11 v) 12 (.int .i64 (xs.length : Int))) 13 (.int .i64 (j : Int))) ∧ k = xs.length - j ∧ Ext noS G w G W ∧ (j ≤ xs.length) ∧ (os = (xs.map (rkI rk)).take j ++ (List.replicate xs.length 0).drop j) ∧ (os.length = xs.length) ∧ (Own eInt 3 G W w.heap.size u1 (os)) ∧ (Mp (fun k : Int => Value.int .i64 k) (fun v : Int => Value.int .i64 v) W m (rk))) _ ⟨_, 0, List.replicate xs.length 0, (zF (x := 13) (zF (x := 12) (zF (x := 11) (zF (x := 5) (zF (x := 4) (zW (x := 1) rfl) rfl) rfl) rfl) rfl) rfl), rfl, hX7, Nat.zero_le _, rfl, hrl, ho9, hm8⟩ ?_
 rintro k11 _ w12 ⟨env1, j, os, rfl, hk13, hX14, hj, hr, hol, hw15, hm16⟩
 refine zD (zG ?_)
 refine qD rfl (yV rfl rfl) ?_
 refine qe (zA (zD ?_))
 refine yB (p := ((j : Int) : Int) < (xs.length : Int)) rfl rfl (fun h17 => ?_) (fun h17 => ?_)
 ·skip
  refine wp_skip ?_
  refine zA (zD ?_)
  refine yD ?_
  refine zD (zG ?_)
  refine qD rfl (zB (v := (.int .i64 (j : Int))) rfl) ?_
  refine qD rfl (zS Tryz.underlying65 sz3 (v := v) rfl rfl hv (by omega) (by omega)) ?_
  refine qD rfl (zP (r := xs.getD j 0) rfl ag3 (z := (j : Int)) rfl hv hX14.pins (by omega) (by omega)) ?_
  refine qD rfl (zC (v := (.int .i64 (j : Int))) rfl) ?_
  refine qD rfl (zC (v := (.int .i64 (xs.getD j 0))) rfl) ?_
  refine qe (zA (zG ?_))
  refine qD rfl (zB (v := u1) rfl) ?_
  refine qD rfl (zB (v := (.int .i64 (j : Int))) rfl) ?_
  refine qD rfl (zB (v := (.map (some m))) rfl) ?_
  refine qD rfl (zB (v := (.int .i64 (xs.getD j 0))) rfl) ?_
  refine qD rfl (run_look1_int (k := (xs.getD j 0)) (key_int Tryz.underlying3) Tryz.underlying69 zr3 hm16 rfl rfl) ?_
  refine qD rfl (zS Tryz.underlying65 sz3 (v := u1) rfl rfl hw15.read (by omega) (by omega)) ?_
  refine q0 rfl rfl rfl (o_set (E := eInt) (v := u1) (u := (.int .i64 ((Go.GL.look rk (xs.getD j 0)).getD 0))) (z := (j : Int)) ((Go.GL.look rk (xs.getD j 0)).getD 0) sz3 rfl rfl rfl rfl hX14.pins hw15 (by omega) (by omega) (fun w18 ho19 hp20 hg21 hz22 => ?_))
  have hX23 := hX14.write hp20 hg21 ((yG hw15))
  have hm24 := hm16.kept hg21 (yA hm16 hw15)
  refine qe ?_
  refine yJ ?_
  refine zA (zG ?_)
  refine qD rfl (yQ rfl rfl (by omega)) ?_
  refine qD rfl (zB (v := (.int .i64 ((j : Int) + 1))) rfl) ?_
  refine qe ?_
  refine yM ?_
  refine ⟨_, ?_, _, rfl, _, j + 1, (os).set j ((Go.GL.look rk (xs.getD j 0)).getD 0), (zF (x := 13) (zF (x := 12) (zF (x := 11) (zF (x := 5) (zF (x := 4) (zW (x := 1) rfl) rfl) rfl) rfl) rfl) rfl), rfl, hX23, (by omega), (by rw [hr]; exact cur_set 0 (by omega) (by omega) (rk_getD (by omega))), ((List.length_set ..).trans hol), ho19, hm24⟩
  omega
 refine wp_exit ?_
 refine yC ?_
 refine yN ?_
 refine yK ?_
 refine zA (zD (zG ?_))
 refine qD rfl (zB (v := u1) rfl) ?_
 refine qI rfl (zM (vs := [u1]) Tryz.func152 nm152 rfl rfl rfl ?_)
 refine Calls.mono (sortI_spec hX14.pins hw15 (by omega)) ?_
 rintro _ w26 ⟨G25, rfl, ho27, hx28⟩
 refine ⟨_, rfl, ?_⟩
 have hX29 := hX14.trans hx28 (fun i hi => (yG hw15) i hi)
 have hm31 := sortM_length os
 refine qe (zA (zD (zG ?_)))
 refine qD rfl (zB (v := u1) rfl) ?_
 refine qD rfl (zC (v := u1) rfl) ?_
 refine qe (zA ?_)
 refine wp_ret ?_
 refine zT ?_
 refine zQ (v := u1) rfl rfl rfl ?_
 rw [cur_end (by omega) (by omega)] at hr
 exact ⟨_, _, rfl, (by rw [← hr]; exact ho27), hX29⟩

theorem order_spec {w : World} {G : Pin} {p : Nat} {L R B : Value} {mm : PM} {q : PSt} (hP : Pins G w) (hpk : Pk 65 3 G w p L R B mm q) (hok : PoolOk q) {x : Value} {xs : List Int} (hx : RSl eInt G x xs) (hr : ∀ i, i < xs.length → PlaceOk q (xs.getD i 0)) (hxl : xs.length ≤ 1048576) :
  Calls Tryz.prog 66 [(.pointer (some ⟨p, 0, none⟩)), x].toArray w fun e w' => ∃ (u v : Value) (ls : List Int) (ns : List Nd) (zs : List Int) (G' : Pin), e = .returned (.tuple #[u, v]) ∧ Own eInt 3 G' w' w.heap.size u ls ∧ DForm 99 3 G' w' w.heap.size w'.heap.size v ns ∧ OrI q zs ls ls.length ns ∧ PtOk q xs zs zs.length ∧ Ext noS G w G' w' := by
 refine zZ (n := 122) Tryz.func66 Tryz.ntmps66 rfl rfl ?_
 have hX0 : Ext noS G w G w := Ext.refl hP
 have hpin : PIn w (inP p L R B mm) p L R B mm := PIn.self
 have hml1 : (q.ns.map Nd.l).length = q.ns.length ∧ (q.ns.map Nd.r).length = q.ns.length := ⟨List.length_map .., List.length_map ..⟩
 have hml2 : q.bs.length = q.ns.length ∧ q.ns.length ≤ 1048576 := ⟨hok.ar.ok.len, hok.ar.ok.lim⟩
 have hlv0 : Lvs 3 G w w.heap.size w.heap.size [] := Lvs.nil
 have hm := hx.max
 refine zD (zG ?_)
 refine qI rfl (xT [(.pointer (some ⟨p, 0, none⟩))] (v := (.pointer (some ⟨p, 0, none⟩))) rfl rfl hX0.pins (fun b3 w4 hk5 hb6 hp7 hl8 => ?_))
 have hX9 := hX0.step hp7 hl8
 have hlv10 := (hlv0.below hl8).top
 have hpk11 := hpk.below hl8 hp7
 have ha16 : ApL [] (some b3) := ApL.fresh hlv0 (fun k hk => by rw [(congrArg some hk5)] at hk; cases hk; exact Nat.le_refl _)
 have ha17 := hpk.new (x := (some b3)) (fun k hk => by rw [(congrArg some hk5)] at hk; cases hk; exact Nat.le_refl _)
 have hlo18 : w.heap.size ≤ b3 := by have := hX0.size; omega
 obtain ⟨G19, hle20, hX21, hbp22, hf23⟩ := hb6.shut hX9 hlo18
 have hlv24 := hlv10.more hle20 hf23 ha16
 have hpk25 := hpk11.more hle20 hf23 ha17
 refine qD rfl (zC (v := (.slice none 0 0)) rfl) ?_
 refine qD rfl (zC (v := (.slice none 0 0)) rfl) ?_
 refine qe (zA (zD (zG ?_)))
 refine qD rfl (zO (u := (.pointer (some ⟨p, 0, none⟩))) ag61 rfl (hX21.pins _ _ _ (hbp22 0 _ rfl))) ?_
 refine qD rfl (zB (v := x) rfl) ?_
 refine qI rfl (zM (vs := [(.pointer (some ⟨p, 0, none⟩)), x]) Tryz.func103 nm103 rfl rfl rfl ?_)
 refine Calls.mono (parts_spec hX21.pins hpk25 hok (hx.mono hle20) hr hxl) ?_
 rintro _ w29 ⟨u26, zs27, G28, rfl, ho30, hpt31, hx32⟩
 refine ⟨_, rfl, ?_⟩
 have hX33 := hX21.tr hx32
 have hlv34 := (hlv24.ext hx32).top
 have hpk35 := hpk25.ext hx32
 have ha36 : ApL [] u26.ownBlock := ApL.fresh hlv24 (fun k hk => (ho30.lt k hk).1)
 have hnp37 := hpk25.new (x := u26.ownBlock) (fun k hk => (ho30.lt k hk).1)
 have ho38 : Own eInt 3 G28 w29 w.heap.size u26 zs27 := ho30.weaken hX21.size
 have hql39 := hpt31.len
 refine qD rfl (zC (v := u26) rfl) ?_
 refine qe (zA (zD (zG ?_)))
 refine qD rfl (zB (v := u26) rfl) ?_
 refine qD rfl (r_makeFunc [(.pointer (some ⟨b3, 0, none⟩))] rfl) ?_
 refine qI rfl (zM (vs := [u26, (.func (.func 116) #[] #[(.pointer (some ⟨b3, 0, none⟩))])]) Tryz.func115 nm115 rfl rfl rfl ?_)
 refine Calls.mono (sortB_spec hX33.pins hpk35 hok (hbp22.mono hx32.le) ho38 hpt31.pl hnp37 (by omega)) ?_
 rintro _ w41 ⟨ys40, rfl, ho42, hperm43, hsrt44, hx45⟩
 refine ⟨_, rfl, ?_⟩
 have hX46 := hX33.trans hx45 (fun i hi => (yG ho38) i hi)
 have hlv47 := Lvs.turned hlv34 hx45 ha36
 have hpk48 := hpk35.extS hx45 (fun k hk hx => hnp37 k hx hk)
 have hm49 := hperm43.length_eq
 refine qe (zA (zD (zG ?_)))
 refine qI rfl (o_makeMap (fun k : Int => Value.int .i64 k) (fun v : Int => Value.int .i64 v) hX46.pins (fun m50 w51 hk52 hm53 hp54 hl55 => ?_))
 have hX56 := hX46.step hp54 hl55
 have ho57 := ho42.below hl55
 have hlv58 := (hlv47.below hl55).top
 have hpk59 := hpk48.below hl55 hp54
 have hnp60 := hpk48.new (x := some m50) (fun k hk => by cases hk; omega)
 have hlo61 : w.heap.size ≤ m50 := by have := hX46.size; omega
 refine qD rfl (zC (v := (.map (some m50))) rfl) ?_
 refine qe (zA (zD (zG ?_)))
 refine qD rfl (zB (v := u26) rfl) ?_
 refine qD rfl (zV Tryz.underlying65 (v := u26) rfl ho57.read) ?_
 refine qI rfl (o_make0 (E := eVal2) Tryz.underlying30 mk99 rfl rfl hX56.pins (by omega) (by omega) (by omega) (fun u62 w63 ho64 hp65 hl66 hk67 => ?_))
 have hX68 := hX56.step hp65 hl66
 have ho69 := ho57.below hl66
 have hlv70 := (hlv58.below hl66).top
 have hm71 := hm53.below hl66
 have hpk72 := hpk59.below hl66 hp65
 have ha73 : Apart u62.ownBlock u26.ownBlock := zJ hk67 ho57.lt
 have ha78 : ApL [] u62.ownBlock := ApL.fresh hlv58 (fun k hk => by rw [hk67] at hk; cases hk; exact Nat.le_refl _)
 have ha79 := hpk59.new (x := u62.ownBlock) (fun k hk => by rw [hk67] at hk; cases hk; exact Nat.le_refl _)
 have ho80 : Own eVal2 99 G28 w63 w.heap.size u62 ([]) := ho64.weaken hX56.size
 refine qD rfl (zC (v := u62) rfl) ?_
 refine qe (zA (zD (zD (zG ?_))))
 refine qD rfl (zC (v := (.int .i64 0)) rfl) ?_
 refine qe (zA ?_)
 refine yD ?_
 refine yU (fun (k : Nat) (en : Nat → Value) (W : World) => ∃ (env1 : Nat → Value) (n : Nat) (nv : Value) (done : List Ent) (ps : List (Value × Value)) (rk : List (Int × Int)) (LV : List Leaf) (ls : List Int) (GL1 : Pin), en = (upd (upd (upd (upd (upd (upd (upd env1 2 (.pointer (some ⟨b3, 0, none⟩))) 4 (.slice none 0 0)) 5 (.slice none 0 0)) 6 u26) 7 (.map (some m50))) 8 nv) 9 (.int .i64 (n : Int))) ∧ k = ls.length - n ∧ Ext noS G w GL1 W ∧ Pin.le G28 GL1 ∧ (OrI q zs27 ls n (done.map Ent.nd)) ∧ (RkOk ls n rk) ∧ (LV.Perm (lvE done)) ∧ (ps = done.map Ent.pr) ∧ (Own eInt 3 GL1 W w.heap.size u26 (ls)) ∧ (Own eVal2 99 GL1 W w.heap.size nv (ps)) ∧ (Apart u26.ownBlock nv.ownBlock) ∧ (Lvs 3 GL1 W w.heap.size W.heap.size LV) ∧ (ApL LV u26.ownBlock) ∧ (ApL LV nv.ownBlock) ∧ (Mp (fun k : Int => Value.int .i64 k) (fun v : Int => Value.int .i64 v) W m50 (rk)) ∧ (Pk 65 3 GL1 W p L R B mm q) ∧ (NP p L R B mm nv.ownBlock)) _ ⟨_, 0, u62, [], [], [], [], ys40, G28, (zF (x := 9) (zF (x := 8) (zF (x := 7) (zF (x := 6) (zF (x := 5) (zF (x := 4) (zW (x := 2) rfl) rfl) rfl) rfl) rfl) rfl) rfl), rfl, hX68, Pin.le_refl _, (OrI.start hperm43 hsrt44), (fun i hi => absurd hi (Nat.not_lt_zero i)), (List.Perm.refl _), rfl, ho69, ho80, ha73.symm, hlv70, ha36, ha78, hm71, hpk72, ha79⟩ ?_
 rintro k85 _ w86 ⟨env1, n, nv, done, ps, rk, LV, ls, GL1, rfl, hk87, hX88, hlek85, hor, hrk, hLV, hps, hw89, hw90, ha91, hlv92, ha93, ha94, hm95, hpk96, hnp97⟩
 have hll := hor.perm.length_eq
 have hnl := hor.nl
 have hdl : done.length = n := by have := hor.len; simpa using this
 have hpsl : ps.length = n := by rw [hps, List.length_map]; exact hdl
 have hplk : ∀ i, i < ls.length → 0 ≤ ls.getD i 0 ∧ ls.getD i 0 < q.ns.length := fun i hi => hpt31.pl _ (hor.mem.1 (yZ hi))
 refine zD (zD (zG ?_))
 refine qD rfl (zB (v := (.int .i64 (n : Int))) rfl) ?_
 refine qD rfl (zB (v := u26) rfl) ?_
 refine qD rfl (zV Tryz.underlying65 (v := u26) rfl hw89.read) ?_
 refine qD rfl (yV rfl rfl) ?_
 refine qe (zA ?_)
 refine yB (p := ((n : Int) : Int) < (ls.length : Int)) rfl rfl (fun h98 => ?_) (fun h98 => ?_)
 ·skip
  have hzn := hplk n (by omega)
  refine wp_skip ?_
  refine zA ?_
  refine yD ?_
  refine zD (zG ?_)
  refine qI rfl (xK (E := eEnt) (e := 124) Tryz.underlying121 sz124 hX88.pins (fun u99 w100 ho101 hp102 hl103 hk104 => ?_))
  have hX105 := hX88.step hp102 hl103
  have ho106 := hw89.below hl103
  have ho107 := hw90.below hl103
  have hlv108 := (hlv92.below hl103).top
  have hm109 := hm95.below hl103
  have hpk110 := hpk96.below hl103 hp102
  have ha111 : Apart u99.ownBlock u26.ownBlock := zJ hk104 hw89.lt
  have ha112 : Apart u99.ownBlock nv.ownBlock := zJ hk104 hw90.lt
  have ha117 : ApL LV u99.ownBlock := ApL.fresh hlv92 (fun k hk => by rw [hk104] at hk; cases hk; exact Nat.le_refl _)
  have ha118 := hpk96.new (x := u99.ownBlock) (fun k hk => by rw [hk104] at hk; cases hk; exact Nat.le_refl _)
  have ho119 : Own eEnt 124 GL1 w100 w.heap.size u99 ([]) := ho101.weaken hX88.size
  refine qD rfl (zC (v := u99) rfl) ?_
  refine qe (zA (zD (zD (zG ?_))))
  refine qD rfl (zB (v := (.int .i64 (n : Int))) rfl) ?_
  refine qD rfl (zC (v := (.int .i64 (n : Int))) rfl) ?_
  refine qe (zA ?_)
  refine yD ?_
  refine c_cutE (fun (en : Nat → Value) (W : World) => ∃ (env1 : Nat → Value) (kk : Nat) (gv : Value) (gs : List Ent) (LV2 : List Leaf) (GL2 : Pin), en = (upd (upd (upd (upd (upd (upd (upd (upd (upd env1 2 (.pointer (some ⟨b3, 0, none⟩))) 4 (.slice none 0 0)) 5 (.slice none 0 0)) 6 u26) 7 (.map (some m50))) 8 nv) 9 (.int .i64 (n : Int))) 10 gv) 11 (.int .i64 (kk : Int))) ∧ Ext noS G w GL2 W ∧ Pin.le GL1 GL2 ∧ (kk = n + gs.length) ∧ (GrI q ls n (gs.map Ent.gn)) ∧ (LV2.Perm (lvE done ++ lvE gs)) ∧ (n + gs.length = ls.length ∨ bn q (ls.getD (n + gs.length) 0) ≠ bn q (ls.getD n 0)) ∧ (Own eEnt 124 GL2 W w.heap.size gv (gs)) ∧ (Own eInt 3 GL2 W w.heap.size u26 (ls)) ∧ (Own eVal2 99 GL2 W w.heap.size nv (ps)) ∧ (Apart gv.ownBlock u26.ownBlock) ∧ (Apart gv.ownBlock nv.ownBlock) ∧ (Lvs 3 GL2 W w.heap.size W.heap.size LV2) ∧ (ApL LV2 gv.ownBlock) ∧ (ApL LV2 u26.ownBlock) ∧ (ApL LV2 nv.ownBlock) ∧ (Mp (fun k : Int => Value.int .i64 k) (fun v : Int => Value.int .i64 v) W m50 (rk)) ∧ (Pk 65 3 GL2 W p L R B mm q) ∧ (NP p L R B mm gv.ownBlock)) 2 ?_ ?_
  ·rintro _ w125 ⟨env1, kk, gv, gs, LV2, GL2, rfl, hX127, hlek124, hkk, hgr, hLV2, hend, hw128, hw129, hw130, ha131, ha132, hlv133, ha134, ha135, ha136, hm137, hpk138, hnp139⟩
   have hgl := hgr.le
   rw [List.length_map] at hgl
   have hg1 : 0 < gs.length := Nat.pos_of_ne_zero fun h => hend.elim (fun e => by omega) (fun e => by rw [h] at e; exact e rfl)
   refine yK ?_
   refine zA (zD (zG ?_))
   refine qD rfl (zB (v := gv) rfl) ?_
   refine qI rfl (zM (vs := [gv, (.func (.func 119) #[] #[])]) Tryz.func118 nm118 rfl rfl rfl ?_)
   refine Calls.mono (sortE_spec hX127.pins hw128 hlv133 (fun x hx => ⟨hLV2.mem_iff.2 (List.mem_append_right _ (lvE_mem hx).1), hLV2.mem_iff.2 (List.mem_append_right _ (lvE_mem hx).2)⟩) ha134 (by omega)) ?_
   rintro _ w141 ⟨gs140, rfl, ho142, hperm143, hasc144, hx145⟩
   refine ⟨_, rfl, ?_⟩
   have hX146 := hX127.trans hx145 (fun i hi => (yG hw128) i hi)
   have ho147 := hw129.extS hx145 (notO ha131.symm)
   have ho148 := hw130.extS hx145 (notO ha132.symm)
   have hlv149 := Lvs.turned hlv133 hx145 ha134
   have hm150 := hm137.extS hx145 (notOb (yA hm137 hw128))
   have hpk151 := hpk138.extS hx145 (fun k hk hx => hnp139 k hx hk)
   have hm152 := hperm143.length_eq
   refine qe (zA (zD (zD (zG ?_))))
   refine qD rfl (zB (v := gv) rfl) ?_
   refine qD rfl (zV Tryz.underlying121 (v := gv) rfl ho142.read) ?_
   refine qD rfl (zB (v := (.int .i64 0)) rfl) ?_
   refine qe (zA ?_)
   refine yD ?_
   have hgp : (gs140.map Ent.gn).Perm (gs.map Ent.gn) := hperm143.map _
   have hgl2 : n + gs140.length ≤ ls.length := by omega
   have hRl : (regroup ls n (gs140.map Ent.gn)).length = ls.length := regroup_length (by rw [List.length_map]; omega)
   have hRn : (regroup ls n (gs140.map Ent.gn)).Nodup := (regroup_perm hgr hgp).nodup_iff.2 (hor.perm.nodup_iff.2 hpt31.nd)
   refine yU (fun (k : Nat) (en : Nat → Value) (W : World) => ∃ (env1 : Nat → Value) (j : Nat) (nv3 : Value) (ls3 : List Int) (ps3 : List (Value × Value)) (rk3 : List (Int × Int)) (GL3 : Pin), en = (upd (upd (upd (upd (upd (upd (upd (upd (upd (upd (upd env1 2 (.pointer (some ⟨b3, 0, none⟩))) 4 (.slice none 0 0)) 5 (.slice none 0 0)) 6 u26) 7 (.map (some m50))) 8 nv3) 9 (.int .i64 (n : Int))) 10 gv) 90 gv) 91 (.int .i64 (gs140.length : Int))) 92 (.int .i64 (j : Int))) ∧ k = gs140.length - j ∧ Ext noS G w GL3 W ∧ Pin.le GL2 GL3 ∧ (j ≤ gs140.length) ∧ (ls3 = ls.take n ++ (gs140.take j).map Ent.id ++ ls.drop (n + j)) ∧ (RkOk (regroup ls n (gs140.map Ent.gn)) (n + j) rk3) ∧ (ps3 = (done ++ gs140.take j).map Ent.pr) ∧ (Own eInt 3 GL3 W w.heap.size u26 (ls3)) ∧ (Own eVal2 99 GL3 W w.heap.size nv3 (ps3)) ∧ (Own eEnt 124 GL3 W w.heap.size gv (gs140)) ∧ (Apart u26.ownBlock nv3.ownBlock) ∧ (Apart nv3.ownBlock gv.ownBlock) ∧ (Lvs 3 GL3 W w.heap.size W.heap.size LV2) ∧ (ApL LV2 u26.ownBlock) ∧ (ApL LV2 nv3.ownBlock) ∧ (ApL LV2 gv.ownBlock) ∧ (Mp (fun k : Int => Value.int .i64 k) (fun v : Int => Value.int .i64 v) W m50 (rk3)) ∧ (Pk 65 3 GL3 W p L R B mm q) ∧ (NP p L R B mm nv3.ownBlock)) _ ⟨_, 0, nv, ls, ps, rk, GL2, (zF (x := 92) (zF (x := 91) (zF (x := 90) (zF (x := 10) (zF (x := 9) (zF (x := 8) (zF (x := 7) (zF (x := 6) (zF (x := 5) (zF (x := 4) (zW (x := 2) rfl) rfl) rfl) rfl) rfl) rfl) rfl) rfl) rfl) rfl) rfl), rfl, hX146, Pin.le_refl _, Nat.zero_le _, (by simp), (hrk.reg hgl2), (by rw [List.take_zero, List.append_nil]; exact hps), ho147, ho148, ho142, ha91, ha132.symm, hlv149, ha135, ha136, ha134, hm150, hpk151, hnp97⟩ ?_
   rintro k157 _ w158 ⟨env1, j, nv3, ls3, ps3, rk3, GL3, rfl, hk159, hX160, hlek157, hj, hls3, hrk3, hps3, hw161, hw162, hw163, ha164, ha165, hlv166, ha167, ha168, ha169, hm170, hpk171, hnp172⟩
   have hl3 : ls3.length = ls.length := by rw [hls3]; simp; omega
   have hps3l : ps3.length = n + j := by rw [hps3]; simp; omega
   refine zD (zG ?_)
   refine qD rfl (yV rfl rfl) ?_
   refine qe (zA (zD ?_))
   refine yB (p := ((j : Int) : Int) < (gs140.length : Int)) rfl rfl (fun h173 => ?_) (fun h173 => ?_)
   ·skip
    refine wp_skip ?_
    refine zA (zD ?_)
    refine yD ?_
    refine zD (zG ?_)
    refine qD rfl (zB (v := (.int .i64 (j : Int))) rfl) ?_
    refine qD rfl (zS Tryz.underlying121 sz124 (v := gv) rfl rfl hw163.read (by omega) (by omega)) ?_
    obtain ⟨cs174, hrep175, hagg176, hcell177⟩ := nm_el (j := j) default (hw163.at (z := (j : Int)) (by omega) (by omega)) rfl
    obtain ⟨rfl, hone178, hone179⟩ := hrep175
    refine qD rfl (hagg176 ag124 sz124 rfl (Gadd.pins hX160.pins gv)) ?_
    refine qI rfl (yY [(.int .i64 0), (.slice none 0 0), (.slice none 0 0)] zr124 rfl hX160.pins (fun b180 w181 hk182 hb183 hp184 hl185 => ?_))
    have hX186 := hX160.step hp184 hl185
    have ho187 := hw161.below hl185
    have ho188 := hw162.below hl185
    have ho189 := hw163.below hl185
    have hlv190 := (hlv166.below hl185).top
    have hm191 := hm170.below hl185
    have hpk192 := hpk171.below hl185 hp184
    have ha193 : Apart (some b180) u26.ownBlock := zJ (congrArg some hk182) hw161.lt
    have ha194 : Apart (some b180) nv3.ownBlock := zJ (congrArg some hk182) hw162.lt
    have ha195 : Apart (some b180) gv.ownBlock := zJ (congrArg some hk182) hw163.lt
    have ha200 : ApL LV2 (some b180) := ApL.fresh hlv166 (fun k hk => by rw [(congrArg some hk182)] at hk; cases hk; exact Nat.le_refl _)
    have ha201 := hpk171.new (x := (some b180)) (fun k hk => by rw [(congrArg some hk182)] at hk; cases hk; exact Nat.le_refl _)
    have hlo202 : w.heap.size ≤ b180 := by have := hX160.size; omega
    refine qD rfl (zC (v := (.int .i64 (j : Int))) rfl) ?_
    refine q0 rfl rfl rfl (xA (cs' := [(.int .i64 ((gs140.getD j default).id)), (gs140.getD j default).l, (gs140.getD j default).r]) (us := [(.int .i64 ((gs140.getD j default).id)), (gs140.getD j default).l, (gs140.getD j default).r]) (v := (.agg [(.int .i64 ((gs140.getD j default).id)), (gs140.getD j default).l, (gs140.getD j default).r].toArray)) sz124 rfl rfl rfl (ones3 (by rfl) hone178 hone179) hX186.pins hb183 (Nat.le_of_ble_eq_true rfl) rfl (fun w203 hb204 hp205 hg206 hz207 => ?_))
    have hX208 := hX186.write hp205 hg206 ((yL hlo202))
    have ho209 := ho187.keptA hg206 ha193.symm
    have ho210 := ho188.keptA hg206 ha194.symm
    have ho211 := ho189.keptA hg206 ha195.symm
    have hlv212 := (hlv190.kept hg206 ha200).top
    have hm213 := hm191.kept hg206 (xC hm191 hb183)
    have hpk214 := hpk192.kept hg206 hp205 ha201
    obtain ⟨G215, hle216, hX217, hbp218, hf219⟩ := hb204.shut hX208 hlo202
    have ho220 := ho209.moreA hle216 hf219 ha193.symm
    have ho221 := ho210.moreA hle216 hf219 ha194.symm
    have ho222 := ho211.moreA hle216 hf219 ha195.symm
    have hlv223 := hlv212.more hle216 hf219 ha200
    have hpk224 := hpk214.more hle216 hf219 ha201
    refine qe (zA (zD (zG ?_)))
    refine qD rfl (zB (v := u26) rfl) ?_
    refine qD rfl (zB (v := (.int .i64 (n : Int))) rfl) ?_
    refine qD rfl (zB (v := (.int .i64 (j : Int))) rfl) ?_
    refine qD rfl (yQ rfl rfl (by omega)) ?_
    refine qD rfl (zN (k := 0) rfl Tryz.underlying124 rfl nz3 rfl) ?_
    refine qD rfl (zO (u := (.int .i64 ((gs140.getD j default).id))) ag3 rfl (hX217.pins _ _ _ (hbp218 0 _ rfl))) ?_
    refine qD rfl (zS Tryz.underlying65 sz3 (v := u26) rfl rfl ho220.read (by omega) (by omega)) ?_
    refine q0 rfl rfl rfl (o_set (E := eInt) (v := u26) (u := (.int .i64 ((gs140.getD j default).id))) (z := ((n : Int) + (j : Int))) ((gs140.getD j default).id) sz3 rfl rfl rfl rfl hX217.pins ho220 (by omega) (by omega) (fun w225 ho226 hp227 hg228 hz229 => ?_))
    have hX230 := hX217.write hp227 hg228 ((yG ho220))
    have ho231 := ho221.keptA hg228 ha164.symm
    have ho232 := ho222.keptA hg228 ha131
    have hlv233 := (hlv223.kept hg228 ha167).top
    have hm234 := hm213.kept hg228 (yA hm213 ho220)
    have hpk235 := hpk224.kept hg228 hp227 hnp37
    refine qe (zA (zD (zG ?_)))
    refine qD rfl (zB (v := (.map (some m50))) rfl) ?_
    refine qD rfl (zN (k := 0) rfl Tryz.underlying124 rfl nz3 rfl) ?_
    refine qD rfl (zO (u := (.int .i64 ((gs140.getD j default).id))) ag3 rfl (hX230.pins _ _ _ (hbp218 0 _ rfl))) ?_
    refine qD rfl (zB (v := (.int .i64 (n : Int))) rfl) ?_
    refine qD rfl (zB (v := (.int .i64 (j : Int))) rfl) ?_
    refine qD rfl (yQ rfl rfl (by omega)) ?_
    refine q0 rfl rfl rfl (o_mapUpdate (val := (fun v : Int => Value.int .i64 v)) (k := ((gs140.getD j default).id)) (v := ((n : Int) + (j : Int))) (key_int Tryz.underlying3) Tryz.underlying69 rfl rfl rfl hX230.pins hm234 (fun w236 hm237 hp238 hg239 hz240 => ?_))
    have hX241 := hX230.write hp238 hg239 ((yL hlo61))
    have ho242 := ho226.keptA hg239 (yA hm234 ho226).symm
    have ho243 := ho231.keptA hg239 (yA hm234 ho231).symm
    have ho244 := ho232.keptA hg239 (yA hm234 ho232).symm
    have hlv245 := (hlv233.kept hg239 (fun p hp => (yA hm234 (hlv233.own p hp)).symm)).top
    have hpk246 := hpk235.kept hg239 hp238 hnp60
    refine qe (zA (zG ?_))
    refine qD rfl (zB (v := nv3) rfl) ?_
    refine qD rfl (zN (k := 1) rfl Tryz.underlying124 rfl nz99 rfl) ?_
    refine qD rfl (yP (cs := [(gs140.getD j default).l, (gs140.getD j default).r]) ag99 sz99 rfl (fun j u hj => hX241.pins _ _ _ (hbp218 _ _ (by rw [Nat.add_comm]; simpa using hj)))) ?_
    refine qI rfl (o_build1 (E := eVal2) (e := 99) [(gs140.getD j default).l, (gs140.getD j default).r] (((gs140.getD j default).l, (gs140.getD j default).r) : Value × Value) Tryz.underlying30 sz99 zr99 ⟨rfl, hone178, hone179⟩ rfl (by decide) hX241.pins (fun u247 w248 ho249 hp250 hl251 hk252 => ?_))
    have hX253 := hX241.step hp250 hl251
    have ho254 := ho242.below hl251
    have ho255 := ho243.below hl251
    have ho256 := ho244.below hl251
    have hlv257 := (hlv245.below hl251).top
    have hm258 := hm237.below hl251
    have hpk259 := hpk246.below hl251 hp250
    have ho269 : Own eVal2 99 G215 w248 w.heap.size u247 ([(((gs140.getD j default).l, (gs140.getD j default).r) : Value × Value)]) := ho249.weaken hX241.size
    refine qI rfl (zX (E := eVal2) (v := nv3) (u := u247) 48 Tryz.underlying30 ap99 (by decide) rfl rfl hX253.pins ho255 ho269.src (by first | omega | (rw [List.nil_append]; omega) | (rw [List.length_nil]; omega) | (rw [List.length_append]; omega) | (simp; done) | (simp; omega) | (simp only [List.length_append, List.length_cons, List.length_nil]; omega)) (by first | omega | (rw [List.nil_append]; omega) | (rw [List.length_nil]; omega) | (rw [List.length_append]; omega) | (simp; done) | (simp; omega) | (simp only [List.length_append, List.length_cons, List.length_nil]; omega)) (hX253.size) (fun u270 w271 ho272 hp273 hg274 hw275 => ?_))
    have hX276 := hX253.write hp273 hg274 ((yG ho255))
    have ho277 := ho254.keptA hg274 ha164
    have ho278 := ho256.keptA hg274 ha165.symm
    have hlv280 := (hlv257.kept hg274 ha168).top
    have hm281 := hm258.kept hg274 (yA hm258 ho255)
    have hpk282 := hpk259.kept hg274 hp273 hnp172
    have ha283 : Apart u26.ownBlock u270.ownBlock := zI ha164 hw275 ho254.lt
    have ha284 : Apart gv.ownBlock u270.ownBlock := zI ha165.symm hw275 ho256.lt
    have ha286 : ApL LV2 u270.ownBlock := ApL.app hlv257 ha168 hw275
    have hnp287 := np_app hnp172 hpk259 hw275
    have hm288 : (ps3 ++ ([(((gs140.getD j default).l, (gs140.getD j default).r) : Value × Value)])).length = ps3.length + 1 := List.length_append
    refine qD rfl (zC (v := u270) rfl) ?_
    refine qe ?_
    refine yJ ?_
    refine zA (zG ?_)
    refine qD rfl (yQ rfl rfl (by omega)) ?_
    refine qD rfl (zB (v := (.int .i64 ((j : Int) + 1))) rfl) ?_
    refine qe ?_
    refine yM ?_
    refine ⟨_, ?_, _, rfl, _, j + 1, u270, (ls3).set ((n : Int) + (j : Int)).toNat ((gs140.getD j default).id), ps3 ++ ([(((gs140.getD j default).l, (gs140.getD j default).r) : Value × Value)]), putE rk3 ((gs140.getD j default).id) ((n : Int) + (j : Int)), G215, (zF (x := 92) (zF (x := 91) (zF (x := 90) (zF (x := 10) (zF (x := 9) (zF (x := 8) (zF (x := 7) (zF (x := 6) (zF (x := 5) (zF (x := 4) (zW (x := 2) rfl) rfl) rfl) rfl) rfl) rfl) rfl) rfl) rfl) rfl) rfl), rfl, hX276, (Pin.le_trans hlek157 hle216), (by omega), (by rw [hls3, show ((n : Int) + (j : Int)).toNat = n + j by omega]; exact reg_step (by omega) (by omega)), (hrk3.ent hRn hgl2 (by omega)), (by rw [hps3, xZ _ default (by omega), ← List.append_assoc, List.map_append (l₁ := done ++ _)]; rfl), ho277, ho272, ho278, ha283, ha284.symm, hlv280, ha167, ha286, ha169, hm281, hpk282, hnp287⟩
    omega
   refine wp_exit ?_
   refine yC ?_
   refine yN ?_
   refine yK ?_
   refine zA (zG ?_)
   refine qD rfl (zB (v := (.int .i64 (n : Int))) rfl) ?_
   refine qD rfl (zB (v := gv) rfl) ?_
   refine qD rfl (zV Tryz.underlying121 (v := gv) rfl hw163.read) ?_
   refine qD rfl (yQ rfl rfl (by omega)) ?_
   refine qD rfl (zC (v := (.int .i64 ((n : Int) + (gs140.length : Int)))) rfl) ?_
   refine qe ?_
   refine yJ ?_
   refine yM ?_
   have hjn : j = gs140.length := by omega
   rw [hjn, reg_end] at hls3
   rw [hjn] at hrk3 hps3
   rw [List.take_length] at hps3
   have hls3l : ls3.length = ls.length := by rw [hls3]; exact hRl
   refine ⟨_, ?_, _, rfl, _, n + gs140.length, nv3, done ++ gs140, ps3, rk3, LV2, ls3, GL3, (zF (x := 9) (zF (x := 8) (zF (x := 7) (zF (x := 6) (zF (x := 5) (zF (x := 4) (zW (x := 2) rfl) rfl) rfl) rfl) rfl) rfl) rfl), rfl, hX160, (Pin.le_trans (Pin.le_trans hlek85 hlek124) hlek157), (by rw [hls3]; exact hor.ents hok hpt31 hgr (by omega) hend hperm143 hasc144), (by rw [hls3]; exact hrk3), (hLV2.trans (by rw [lvE_app]; exact List.Perm.append_left _ (lvE_perm hperm143.symm))), hps3, hw161, hw162, ha164, hlv166, ha167, ha168, hm170, hpk171, hnp172⟩
   omega
  ·skip
   refine yU (fun (k : Nat) (en : Nat → Value) (W : World) => ∃ (env1 : Nat → Value) (kk : Nat) (gv : Value) (gs : List Ent) (LV2 : List Leaf) (GL2 : Pin), en = (upd (upd (upd (upd (upd (upd (upd (upd (upd env1 2 (.pointer (some ⟨b3, 0, none⟩))) 4 (.slice none 0 0)) 5 (.slice none 0 0)) 6 u26) 7 (.map (some m50))) 8 nv) 9 (.int .i64 (n : Int))) 10 gv) 11 (.int .i64 (kk : Int))) ∧ k = ls.length - kk ∧ Ext noS G w GL2 W ∧ Pin.le GL1 GL2 ∧ (kk = n + gs.length) ∧ (GrI q ls n (gs.map Ent.gn)) ∧ (LV2.Perm (lvE done ++ lvE gs)) ∧ (Own eEnt 124 GL2 W w.heap.size gv (gs)) ∧ (Own eInt 3 GL2 W w.heap.size u26 (ls)) ∧ (Own eVal2 99 GL2 W w.heap.size nv (ps)) ∧ (Apart gv.ownBlock u26.ownBlock) ∧ (Apart gv.ownBlock nv.ownBlock) ∧ (Lvs 3 GL2 W w.heap.size W.heap.size LV2) ∧ (ApL LV2 gv.ownBlock) ∧ (ApL LV2 u26.ownBlock) ∧ (ApL LV2 nv.ownBlock) ∧ (Mp (fun k : Int => Value.int .i64 k) (fun v : Int => Value.int .i64 v) W m50 (rk)) ∧ (Pk 65 3 GL2 W p L R B mm q) ∧ (NP p L R B mm gv.ownBlock)) _ ⟨_, n, u99, [], LV, GL1, (zF (x := 11) (zF (x := 10) (zF (x := 9) (zF (x := 8) (zF (x := 7) (zF (x := 6) (zF (x := 5) (zF (x := 4) (zW (x := 2) rfl) rfl) rfl) rfl) rfl) rfl) rfl) rfl) rfl), rfl, hX105, Pin.le_refl _, rfl, (GrI.start hor), (by simpa [lvE] using hLV), ho119, ho106, ho107, ha111, ha112, hlv108, ha117, ha93, ha94, hm109, hpk110, ha118⟩ ?_
   rintro k124 _ w125 ⟨env1, kk, gv, gs, LV2, GL2, rfl, hk126, hX127, hlek124, hkk, hgr, hLV2, hw128, hw129, hw130, ha131, ha132, hlv133, ha134, ha135, ha136, hm137, hpk138, hnp139⟩
   have hgl := hgr.le
   rw [List.length_map] at hgl
   refine zD (zD ?_)
   have hq289 := Gadd.pins hX127.pins u26
   have hq290 := Gadd.pins hX127.pins B
   have hr291 := hw129.read
   have hr292 := hpk138.ob.read
   refine xJ (S := fun wz => Pins (Gadd GL2 w125 u26) wz ∧ Pins GL2 wz ∧ BxR wz p [L, R, B, (.map (some mm.f)), (.map (some mm.o)), (.map (some mm.c)), (.map (some mm.s)), (.map (some mm.n))] ∧ Pins (Gadd GL2 w125 B) wz) (last := 27) (by kernel_rfl) rfl ?_
   have hl293 : Below w125.heap.size w125 w125.drew := (Below.refl _ _).drew
   have hp294 := hX127.pins.below hl293
   have hX295 := hX127.step hp294 hl293
   have ho296 := hw128.below hl293
   have ho297 := hw129.below hl293
   have ho298 := hw130.below hl293
   have hlv299 := (hlv133.below hl293).top
   have hm300 := hm137.below hl293
   have hpk301 := hpk138.below hl293 hp294
   have hq302 := hq289.below hl293
   have hq303 := hq290.below hl293
   refine dT (i := 0) rfl rfl (by kernel_rfl) (fun _ _ => zB (v := (.int .i64 (kk : Int))) rfl) ⟨hq302, hX295.pins, hpk301.bx.reads, hq303⟩ ?_
   refine dT (i := 1) rfl rfl (by kernel_rfl) (fun _ _ => zB (v := u26) rfl) ⟨hq302, hX295.pins, hpk301.bx.reads, hq303⟩ ?_
   refine dT (i := 2) rfl rfl (by kernel_rfl) (fun _ _ => zV Tryz.underlying65 (v := u26) rfl hr291) ⟨hq302, hX295.pins, hpk301.bx.reads, hq303⟩ ?_
   refine dT (i := 3) rfl rfl (by kernel_rfl) (fun _ _ => yV rfl rfl) ⟨hq302, hX295.pins, hpk301.bx.reads, hq303⟩ ?_
   refine dT (i := 4) rfl rfl (by kernel_rfl) (fun _ _ => zB (v := (.bool (decide (((kk : Int) : Int) < (ls.length : Int))))) rfl) ⟨hq302, hX295.pins, hpk301.bx.reads, hq303⟩ ?_
   refine drbd (p := ((kk : Int) : Int) < (ls.length : Int)) (t := 35) rfl (fun h304 => ?_) (fun h304 => ?_)
   ·skip
    have hzk := hplk kk (by omega)
    have hollk := hok.ar.ok.lens (ls.getD kk 0).toNat (by omega)
    refine xF (i := 5) rfl rfl rfl (yT rfl rfl rfl rfl) (by kernel_rfl) (fun _ hS => zO (u := (.pointer (some ⟨p, 0, none⟩))) ag61 rfl ((Pins.of_le hS.2.1 (Pin.le_trans (Pin.le_trans hx32.le hlek85) hlek124)) _ _ _ (hbp22 0 _ rfl))) ⟨hq302, hX295.pins, hpk301.bx.reads, hq303⟩ ?_
    refine xF (i := 6) rfl rfl rfl (yT rfl rfl rfl rfl) (by kernel_rfl) (fun _ _ => xI rfl) ⟨hq302, hX295.pins, hpk301.bx.reads, hq303⟩ ?_
    refine xF (i := 7) rfl rfl rfl (yT rfl rfl rfl rfl) (by kernel_rfl) (fun _ _ => zN (k := 2) rfl Tryz.underlying72 rfl nz65 rfl) ⟨hq302, hX295.pins, hpk301.bx.reads, hq303⟩ ?_
    refine xF (i := 8) rfl rfl rfl (yT rfl rfl rfl rfl) (by kernel_rfl) (fun _ hS => zO (u := B) ag65 rfl (hS.2.2.1 2 _ rfl)) ⟨hq302, hX295.pins, hpk301.bx.reads, hq303⟩ ?_
    refine xF (i := 9) rfl rfl rfl (yT rfl rfl rfl rfl) (by kernel_rfl) (fun _ _ => zB (v := u26) rfl) ⟨hq302, hX295.pins, hpk301.bx.reads, hq303⟩ ?_
    refine xF (i := 10) rfl rfl rfl (yT rfl rfl rfl rfl) (by kernel_rfl) (fun _ _ => zB (v := (.int .i64 (kk : Int))) rfl) ⟨hq302, hX295.pins, hpk301.bx.reads, hq303⟩ ?_
    refine xF (i := 11) rfl rfl rfl (yT rfl rfl rfl rfl) (by kernel_rfl) (fun _ _ => zS Tryz.underlying65 sz3 (v := u26) rfl rfl hr291 (by omega) (by omega)) ⟨hq302, hX295.pins, hpk301.bx.reads, hq303⟩ ?_
    refine xF (i := 12) rfl rfl rfl (yT rfl rfl rfl rfl) (by kernel_rfl) (fun _ hS => zP (r := ls.getD kk 0) rfl ag3 (z := (kk : Int)) rfl hr291 hS.1 (by omega) (by omega)) ⟨hq302, hX295.pins, hpk301.bx.reads, hq303⟩ ?_
    refine xF (i := 13) rfl rfl rfl (yT rfl rfl rfl rfl) (by kernel_rfl) (fun _ _ => zS Tryz.underlying65 sz3 (v := B) rfl rfl hr292 (by omega) (by omega)) ⟨hq302, hX295.pins, hpk301.bx.reads, hq303⟩ ?_
    refine xF (i := 14) rfl rfl rfl (yT rfl rfl rfl rfl) (by kernel_rfl) (fun _ hS => zP (r := q.bs.getD (ls.getD kk 0).toNat 0) rfl ag3 (z := (ls.getD kk 0)) rfl hr292 hS.2.2.2 (by omega) (by omega)) ⟨hq302, hX295.pins, hpk301.bx.reads, hq303⟩ ?_
    refine xF (i := 15) rfl rfl rfl (yT rfl rfl rfl rfl) (by kernel_rfl) (fun _ hS => zO (u := (.pointer (some ⟨p, 0, none⟩))) ag61 rfl ((Pins.of_le hS.2.1 (Pin.le_trans (Pin.le_trans hx32.le hlek85) hlek124)) _ _ _ (hbp22 0 _ rfl))) ⟨hq302, hX295.pins, hpk301.bx.reads, hq303⟩ ?_
    refine xF (i := 16) rfl rfl rfl (yT rfl rfl rfl rfl) (by kernel_rfl) (fun _ _ => xI rfl) ⟨hq302, hX295.pins, hpk301.bx.reads, hq303⟩ ?_
    refine xF (i := 17) rfl rfl rfl (yT rfl rfl rfl rfl) (by kernel_rfl) (fun _ _ => zN (k := 2) rfl Tryz.underlying72 rfl nz65 rfl) ⟨hq302, hX295.pins, hpk301.bx.reads, hq303⟩ ?_
    refine xF (i := 18) rfl rfl rfl (yT rfl rfl rfl rfl) (by kernel_rfl) (fun _ hS => zO (u := B) ag65 rfl (hS.2.2.1 2 _ rfl)) ⟨hq302, hX295.pins, hpk301.bx.reads, hq303⟩ ?_
    refine xF (i := 19) rfl rfl rfl (yT rfl rfl rfl rfl) (by kernel_rfl) (fun _ _ => zB (v := u26) rfl) ⟨hq302, hX295.pins, hpk301.bx.reads, hq303⟩ ?_
    refine xF (i := 20) rfl rfl rfl (yT rfl rfl rfl rfl) (by kernel_rfl) (fun _ _ => zB (v := (.int .i64 (n : Int))) rfl) ⟨hq302, hX295.pins, hpk301.bx.reads, hq303⟩ ?_
    refine xF (i := 21) rfl rfl rfl (yT rfl rfl rfl rfl) (by kernel_rfl) (fun _ _ => zS Tryz.underlying65 sz3 (v := u26) rfl rfl hr291 (by omega) (by omega)) ⟨hq302, hX295.pins, hpk301.bx.reads, hq303⟩ ?_
    refine xF (i := 22) rfl rfl rfl (yT rfl rfl rfl rfl) (by kernel_rfl) (fun _ hS => zP (r := ls.getD n 0) rfl ag3 (z := (n : Int)) rfl hr291 hS.1 (by omega) (by omega)) ⟨hq302, hX295.pins, hpk301.bx.reads, hq303⟩ ?_
    refine xF (i := 23) rfl rfl rfl (yT rfl rfl rfl rfl) (by kernel_rfl) (fun _ _ => zS Tryz.underlying65 sz3 (v := B) rfl rfl hr292 (by omega) (by omega)) ⟨hq302, hX295.pins, hpk301.bx.reads, hq303⟩ ?_
    refine xF (i := 24) rfl rfl rfl (yT rfl rfl rfl rfl) (by kernel_rfl) (fun _ hS => zP (r := q.bs.getD (ls.getD n 0).toNat 0) rfl ag3 (z := (ls.getD n 0)) rfl hr292 hS.2.2.2 (by omega) (by omega)) ⟨hq302, hX295.pins, hpk301.bx.reads, hq303⟩ ?_
    refine xF (i := 25) rfl rfl rfl (yT rfl rfl rfl rfl) (by kernel_rfl) (fun _ _ => r_eql rfl rfl) ⟨hq302, hX295.pins, hpk301.bx.reads, hq303⟩ ?_
    refine dT (i := 26) rfl rfl (by kernel_rfl) (fun _ _ => xD (v := (.bool (decide ((q.bs.getD (ls.getD kk 0).toNat 0 : Int) = (q.bs.getD (ls.getD n 0).toNat 0))))) rfl rfl) ⟨hq302, hX295.pins, hpk301.bx.reads, hq303⟩ ?_
    refine yS (by kernel_rfl) ?_
    refine zA ?_
    refine yB (p := (q.bs.getD (ls.getD kk 0).toNat 0 : Int) = (q.bs.getD (ls.getD n 0).toNat 0)) rfl rfl (fun h305 => ?_) (fun h305 => ?_)
    ·skip
     refine wp_skip ?_
     refine zA (zD ?_)
     refine yD ?_
     refine zD (zG ?_)
     refine qD rfl (zB (v := u26) rfl) ?_
     refine qD rfl (zB (v := (.int .i64 (kk : Int))) rfl) ?_
     refine qD rfl (zS Tryz.underlying65 sz3 (v := u26) rfl rfl ho297.read (by omega) (by omega)) ?_
     refine qD rfl (zP (r := ls.getD kk 0) rfl ag3 (z := (kk : Int)) rfl ho297.read (Gadd.pins hX295.pins u26) (by omega) (by omega)) ?_
     refine qD rfl (zC (v := (.int .i64 (ls.getD kk 0))) rfl) ?_
     refine qe (zA ?_)
     have hq306 := Gadd.pins hX295.pins L
     have hq307 := Gadd.pins hX295.pins R
     have hr308 := hpk301.ol.read
     have hr309 := hpk301.rr.read
     refine xJ (S := fun wz => Pins GL2 wz ∧ BxR wz p [L, R, B, (.map (some mm.f)), (.map (some mm.o)), (.map (some mm.c)), (.map (some mm.s)), (.map (some mm.n))] ∧ Pins (Gadd GL2 w125.drew L) wz ∧ Pins (Gadd GL2 w125.drew R) wz) (last := 25) (by kernel_rfl) rfl ?_
     have hl310 : Below w125.drew.heap.size w125.drew w125.drew.drew := (Below.refl _ _).drew
     have hp311 := hX295.pins.below hl310
     have hX312 := hX295.step hp311 hl310
     have ho313 := ho296.below hl310
     have ho314 := ho297.below hl310
     have ho315 := ho298.below hl310
     have hlv316 := (hlv299.below hl310).top
     have hm317 := hm300.below hl310
     have hpk318 := hpk301.below hl310 hp311
     have hq319 := hq306.below hl310
     have hq320 := hq307.below hl310
     refine dT (i := 0) rfl rfl (by kernel_rfl) (fun _ _ => zB (v := gv) rfl) ⟨hX312.pins, hpk318.bx.reads, hq319, hq320⟩ ?_
     refine dT (i := 1) rfl rfl (by kernel_rfl) (fun _ _ => zB (v := (.int .i64 (ls.getD kk 0))) rfl) ⟨hX312.pins, hpk318.bx.reads, hq319, hq320⟩ ?_
     refine dT (i := 2) rfl rfl (by kernel_rfl) (fun _ hS => zO (u := (.pointer (some ⟨p, 0, none⟩))) ag61 rfl ((Pins.of_le hS.1 (Pin.le_trans (Pin.le_trans hx32.le hlek85) hlek124)) _ _ _ (hbp22 0 _ rfl))) ⟨hX312.pins, hpk318.bx.reads, hq319, hq320⟩ ?_
     refine dT (i := 3) rfl rfl (by kernel_rfl) (fun _ _ => xI rfl) ⟨hX312.pins, hpk318.bx.reads, hq319, hq320⟩ ?_
     refine dT (i := 4) rfl rfl (by kernel_rfl) (fun _ _ => zN (k := 0) rfl Tryz.underlying72 rfl nz66 rfl) ⟨hX312.pins, hpk318.bx.reads, hq319, hq320⟩ ?_
     refine dT (i := 5) rfl rfl (by kernel_rfl) (fun _ hS => zO (u := L) ag66 rfl (hS.2.1 0 _ rfl)) ⟨hX312.pins, hpk318.bx.reads, hq319, hq320⟩ ?_
     refine dT (i := 6) rfl rfl (by kernel_rfl) (fun _ _ => zB (v := (.int .i64 (ls.getD kk 0))) rfl) ⟨hX312.pins, hpk318.bx.reads, hq319, hq320⟩ ?_
     refine dT (i := 7) rfl rfl (by kernel_rfl) (fun _ _ => zS Tryz.underlying66 sz65 (v := L) rfl rfl hr308 (by omega) (by omega)) ⟨hX312.pins, hpk318.bx.reads, hq319, hq320⟩ ?_
     obtain ⟨u321, hr322, hl323⟩ := nm_sl (hpk301.ol.at (z := (ls.getD kk 0)) (by omega) (by omega)) (j := (ls.getD kk 0).toNat) rfl
     rw [mapl_getD] at hr322
     have hm324 := hr322.max
     refine dT (i := 8) rfl rfl (by kernel_rfl) (fun _ hS => hl323 ag65 rfl hS.2.2.1) ⟨hX312.pins, hpk318.bx.reads, hq319, hq320⟩ ?_
     refine dT (i := 9) rfl rfl (by kernel_rfl) (fun _ _ => zB (v := (.map (some m50))) rfl) ⟨hX312.pins, hpk318.bx.reads, hq319, hq320⟩ ?_
     refine dT (i := 11) rfl rfl (by kernel_rfl) (fun _ hS => zO (u := (.pointer (some ⟨p, 0, none⟩))) ag61 rfl ((Pins.of_le hS.1 (Pin.le_trans (Pin.le_trans hx32.le hlek85) hlek124)) _ _ _ (hbp22 0 _ rfl))) ⟨hX312.pins, hpk318.bx.reads, hq319, hq320⟩ ?_
     refine dT (i := 12) rfl rfl (by kernel_rfl) (fun _ _ => xI rfl) ⟨hX312.pins, hpk318.bx.reads, hq319, hq320⟩ ?_
     refine dT (i := 13) rfl rfl (by kernel_rfl) (fun _ _ => zN (k := 1) rfl Tryz.underlying72 rfl nz66 rfl) ⟨hX312.pins, hpk318.bx.reads, hq319, hq320⟩ ?_
     refine dT (i := 14) rfl rfl (by kernel_rfl) (fun _ hS => zO (u := R) ag66 rfl (hS.2.1 1 _ rfl)) ⟨hX312.pins, hpk318.bx.reads, hq319, hq320⟩ ?_
     refine dT (i := 15) rfl rfl (by kernel_rfl) (fun _ _ => zB (v := (.int .i64 (ls.getD kk 0))) rfl) ⟨hX312.pins, hpk318.bx.reads, hq319, hq320⟩ ?_
     refine dT (i := 16) rfl rfl (by kernel_rfl) (fun _ _ => zS Tryz.underlying66 sz65 (v := R) rfl rfl hr309 (by omega) (by omega)) ⟨hX312.pins, hpk318.bx.reads, hq319, hq320⟩ ?_
     obtain ⟨u325, hr326, hl327⟩ := nm_sl (hpk301.rr.at (z := (ls.getD kk 0)) (by omega) (by omega)) (j := (ls.getD kk 0).toNat) rfl
     rw [mapr_getD] at hr326
     have hm328 := hr326.max
     refine dT (i := 17) rfl rfl (by kernel_rfl) (fun _ hS => hl327 ag65 rfl hS.2.2.2) ⟨hX312.pins, hpk318.bx.reads, hq319, hq320⟩ ?_
     refine dT (i := 18) rfl rfl (by kernel_rfl) (fun _ _ => zB (v := (.map (some m50))) rfl) ⟨hX312.pins, hpk318.bx.reads, hq319, hq320⟩ ?_
     refine zR (i := 10) (by kernel_rfl) (zU (i := 10) rfl rfl rfl (zH rfl _) (zM (vs := [u321, (.map (some m50))]) Tryz.func117 nm117 rfl rfl rfl ?_))
     refine Calls.mono (ranked_spec hX312.pins hr322 hm317 (by omega)) ?_
     rintro _ w331 ⟨u329, G330, rfl, ho332, hx333⟩
     refine ⟨_, rfl, ?_⟩
     have hX334 := hX312.tr hx333
     have ho335 := ho313.ext hx333
     have ho336 := ho314.ext hx333
     have ho337 := ho315.ext hx333
     have hlv338 := (hlv316.ext hx333).top
     have hm339 := hm317.below hx333.below
     have hpk340 := hpk318.ext hx333
     have ha341 : Apart u329.ownBlock gv.ownBlock := zY ho332.lt ho313.lt
     have ha342 : Apart u329.ownBlock u26.ownBlock := zY ho332.lt ho314.lt
     have ha343 : Apart u329.ownBlock nv.ownBlock := zY ho332.lt ho315.lt
     have ha344 : ApL LV2 u329.ownBlock := ApL.fresh hlv316 (fun k hk => (ho332.lt k hk).1)
     have ho346 : Own eInt 3 G330 w331 w.heap.size u329 (sortM (((q.ns.getD (ls.getD kk 0).toNat default).l).map (rkI rk))) := ho332.weaken hX312.size
     have hq347 := hq319.below hx333.below
     have hq348 := hq320.below hx333.below
     refine ⟨fun _ => ⟨(Pins.of_le hX334.pins hx333.le), hpk340.bx.reads, hq347, hq348⟩, ?_⟩
     refine zR (i := 19) (by kernel_rfl) (zU (i := 19) rfl rfl rfl (zH rfl _) (zM (vs := [u325, (.map (some m50))]) Tryz.func117 nm117 rfl rfl rfl ?_))
     refine Calls.mono (ranked_spec hX334.pins (hr326.mono hx333.le) hm339 (by omega)) ?_
     rintro _ w351 ⟨u349, G350, rfl, ho352, hx353⟩
     refine ⟨_, rfl, ?_⟩
     have hX354 := hX334.tr hx353
     have ho355 := ho335.ext hx353
     have ho356 := ho336.ext hx353
     have ho357 := ho337.ext hx353
     have ho358 := ho346.ext hx353
     have hlv359 := (hlv338.ext hx353).top
     have hm360 := hm339.below hx353.below
     have hpk361 := hpk340.ext hx353
     have ha362 : Apart u349.ownBlock gv.ownBlock := zY ho352.lt ho335.lt
     have ha363 : Apart u349.ownBlock u26.ownBlock := zY ho352.lt ho336.lt
     have ha364 : Apart u349.ownBlock nv.ownBlock := zY ho352.lt ho337.lt
     have ha365 : Apart u349.ownBlock u329.ownBlock := zY ho352.lt ho346.lt
     have ha366 : ApL LV2 u349.ownBlock := ApL.fresh hlv338 (fun k hk => (ho352.lt k hk).1)
     have ho368 : Own eInt 3 G350 w351 w.heap.size u349 (sortM (((q.ns.getD (ls.getD kk 0).toNat default).r).map (rkI rk))) := ho352.weaken hX334.size
     have hq369 := hq347.below hx353.below
     have hq370 := hq348.below hx353.below
     refine ⟨fun _ => ⟨(Pins.of_le hX354.pins (Pin.le_trans hx333.le hx353.le)), hpk361.bx.reads, hq369, hq370⟩, ?_⟩
     refine dT (i := 20) rfl rfl (by kernel_rfl) (fun _ _ => xE [(.slice none 0 0), (.slice none 0 0)] [u329, u349] [(0, u329, [u329]), (1, u349, [u349])] Tryz.underlying99 zr99 rfl pl99 rfl (List.forall_mem_cons.2 ⟨(yX ho358.one), (List.forall_mem_cons.2 ⟨(yX ho368.one), (fun _ h => by cases h)⟩)⟩) rfl) ⟨(Pins.of_le hX354.pins (Pin.le_trans hx333.le hx353.le)), hpk361.bx.reads, hq369, hq370⟩ ?_
     refine dT (i := 21) rfl rfl (by kernel_rfl) (fun _ _ => xE [(.int .i64 0), (.slice none 0 0), (.slice none 0 0)] [(.int .i64 (ls.getD kk 0)), u329, u349] [(0, (.int .i64 (ls.getD kk 0)), [(.int .i64 (ls.getD kk 0))]), (1, (.agg [u329, u349].toArray), [u329, u349])] Tryz.underlying124 zr124 rfl pl124 rfl (List.forall_mem_cons.2 ⟨rfl, (List.forall_mem_cons.2 ⟨rfl, (fun _ h => by cases h)⟩)⟩) rfl) ⟨(Pins.of_le hX354.pins (Pin.le_trans hx333.le hx353.le)), hpk361.bx.reads, hq369, hq370⟩ ?_
     refine zR (i := 22) (by kernel_rfl) (zU (i := 22) rfl rfl rfl (zH rfl _) (o_build1 (E := eEnt) (e := 124) [(.int .i64 (ls.getD kk 0)), u329, u349] (⟨ls.getD kk 0, u329, u349, ⟨sortM (((q.ns.getD (ls.getD kk 0).toNat default).l).map (rkI rk)), sortM (((q.ns.getD (ls.getD kk 0).toNat default).r).map (rkI rk))⟩⟩ : Ent) Tryz.underlying121 sz124 zr124 ⟨rfl, ho358.one, ho368.one⟩ rfl (by decide) hX354.pins (fun u371 w372 ho373 hp374 hl375 hk376 => ?_)))
     have hX377 := hX354.step hp374 hl375
     have ho378 := ho355.below hl375
     have ho379 := ho356.below hl375
     have ho380 := ho357.below hl375
     have ho381 := ho358.below hl375
     have ho382 := ho368.below hl375
     have hlv383 := (hlv359.below hl375).top
     have hm384 := hm360.below hl375
     have hpk385 := hpk361.below hl375 hp374
     have ho397 : Own eEnt 124 G350 w372 w.heap.size u371 ([(⟨ls.getD kk 0, u329, u349, ⟨sortM (((q.ns.getD (ls.getD kk 0).toNat default).l).map (rkI rk)), sortM (((q.ns.getD (ls.getD kk 0).toNat default).r).map (rkI rk))⟩⟩ : Ent)]) := ho373.weaken hX354.size
     have hq398 := hq369.below hl375
     have hq399 := hq370.below hl375
     refine ⟨fun _ => ⟨(Pins.of_le hX377.pins (Pin.le_trans hx333.le hx353.le)), hpk385.bx.reads, hq398, hq399⟩, ?_⟩
     refine zR (i := 23) (by kernel_rfl) (zU (i := 23) rfl rfl rfl (zH rfl _) (zX (E := eEnt) (v := gv) (u := u371) 56 Tryz.underlying121 ap124 (by decide) rfl rfl hX377.pins ho378 ho397.src (by first | omega | (rw [List.nil_append]; omega) | (rw [List.length_nil]; omega) | (rw [List.length_append]; omega) | (simp; done) | (simp; omega) | (simp only [List.length_append, List.length_cons, List.length_nil]; omega)) (by first | omega | (rw [List.nil_append]; omega) | (rw [List.length_nil]; omega) | (rw [List.length_append]; omega) | (simp; done) | (simp; omega) | (simp only [List.length_append, List.length_cons, List.length_nil]; omega)) (hX377.size) (fun u400 w401 ho402 hp403 hg404 hw405 => ?_)))
     have hX406 := hX377.write hp403 hg404 ((yG ho378))
     have ho407 := ho379.keptA hg404 ha131.symm
     have ho408 := ho380.keptA hg404 ha132.symm
     have ho409 := ho381.keptA hg404 ha341
     have ho410 := ho382.keptA hg404 ha362
     have hlv412 := (hlv383.kept hg404 ha134).top
     have hm413 := hm384.kept hg404 (yA hm384 ho378)
     have hpk414 := hpk385.kept hg404 hp403 hnp139
     have ha415 : Apart u26.ownBlock u400.ownBlock := zI ha131.symm hw405 ho379.lt
     have ha416 : Apart nv.ownBlock u400.ownBlock := zI ha132.symm hw405 ho380.lt
     have ha417 : Apart u329.ownBlock u400.ownBlock := zI ha341 hw405 ho381.lt
     have ha418 : Apart u349.ownBlock u400.ownBlock := zI ha362 hw405 ho382.lt
     have ha420 : ApL LV2 u400.ownBlock := ApL.app hlv383 ha134 hw405
     have hnp421 := np_app hnp139 hpk385 hw405
     have hm422 : (gs ++ ([(⟨ls.getD kk 0, u329, u349, ⟨sortM (((q.ns.getD (ls.getD kk 0).toNat default).l).map (rkI rk)), sortM (((q.ns.getD (ls.getD kk 0).toNat default).r).map (rkI rk))⟩⟩ : Ent)])).length = gs.length + 1 := List.length_append
     have hq423 := Gadd.turn hq398 (Pins.of_le hX406.pins (Pin.le_trans hx333.le hx353.le)) (Ext.one hp403 hg404) (notO (NP.hl hnp139).symm)
     have hq424 := Gadd.turn hq399 (Pins.of_le hX406.pins (Pin.le_trans hx333.le hx353.le)) (Ext.one hp403 hg404) (notO (NP.hr hnp139).symm)
     refine ⟨fun _ => ⟨(Pins.of_le hX406.pins (Pin.le_trans hx333.le hx353.le)), hpk414.bx.reads, hq423, hq424⟩, ?_⟩
     refine dT (i := 24) rfl rfl (by kernel_rfl) (fun _ _ => zC (v := u400) rfl) ⟨(Pins.of_le hX406.pins (Pin.le_trans hx333.le hx353.le)), hpk414.bx.reads, hq423, hq424⟩ ?_
     refine yS (by kernel_rfl) ?_
     refine yJ ?_
     refine zA (zG ?_)
     refine qD rfl (zB (v := (.int .i64 (kk : Int))) rfl) ?_
     refine qD rfl (yQ rfl rfl (by omega)) ?_
     refine qD rfl (zC (v := (.int .i64 ((kk : Int) + 1))) rfl) ?_
     refine qe ?_
     refine yM ?_
     have hlv425 := hlv412.add ho409 ha344
     have ha426 : ApL (LV2 ++ [(u329, sortM (((q.ns.getD (ls.getD kk 0).toNat default).l).map (rkI rk)))]) u26.ownBlock := ha135.add ha342
     have ha427 : ApL (LV2 ++ [(u329, sortM (((q.ns.getD (ls.getD kk 0).toNat default).l).map (rkI rk)))]) nv.ownBlock := ha136.add ha343
     have ha428 : ApL (LV2 ++ [(u329, sortM (((q.ns.getD (ls.getD kk 0).toNat default).l).map (rkI rk)))]) u349.ownBlock := ha366.add ha365.symm
     have ha429 : ApL (LV2 ++ [(u329, sortM (((q.ns.getD (ls.getD kk 0).toNat default).l).map (rkI rk)))]) u400.ownBlock := ha420.add ha417
     have hlv430 := hlv425.add ho410 ha428
     have ha431 : ApL ((LV2 ++ [(u329, sortM (((q.ns.getD (ls.getD kk 0).toNat default).l).map (rkI rk)))]) ++ [(u349, sortM (((q.ns.getD (ls.getD kk 0).toNat default).r).map (rkI rk)))]) u26.ownBlock := ha426.add ha363
     have ha432 : ApL ((LV2 ++ [(u329, sortM (((q.ns.getD (ls.getD kk 0).toNat default).l).map (rkI rk)))]) ++ [(u349, sortM (((q.ns.getD (ls.getD kk 0).toNat default).r).map (rkI rk)))]) nv.ownBlock := ha427.add ha364
     have ha433 : ApL ((LV2 ++ [(u329, sortM (((q.ns.getD (ls.getD kk 0).toNat default).l).map (rkI rk)))]) ++ [(u349, sortM (((q.ns.getD (ls.getD kk 0).toNat default).r).map (rkI rk)))]) u400.ownBlock := ha429.add ha418
     refine ⟨_, ?_, _, rfl, _, kk + 1, u400, gs ++ ([(⟨ls.getD kk 0, u329, u349, ⟨sortM (((q.ns.getD (ls.getD kk 0).toNat default).l).map (rkI rk)), sortM (((q.ns.getD (ls.getD kk 0).toNat default).r).map (rkI rk))⟩⟩ : Ent)]), (LV2 ++ [(u329, sortM (((q.ns.getD (ls.getD kk 0).toNat default).l).map (rkI rk)))]) ++ [(u349, sortM (((q.ns.getD (ls.getD kk 0).toNat default).r).map (rkI rk)))], G350, (zF (x := 11) (zF (x := 10) (zF (x := 9) (zF (x := 8) (zF (x := 7) (zF (x := 6) (zF (x := 5) (zF (x := 4) (zW (x := 2) rfl) rfl) rfl) rfl) rfl) rfl) rfl) rfl) rfl), rfl, hX406, (Pin.le_trans (Pin.le_trans hlek124 hx333.le) hx353.le), (by rw [List.length_append]; simp; omega), (hgr.ent hor hok hpt31 hrk hkk (by omega) h305), (by rw [lvE_app, ← List.append_assoc, List.append_assoc LV2]; exact hLV2.append_right _), ho402, ho407, ho408, ha415.symm, ha416.symm, hlv430, ha433, ha431, ha432, hm413, hpk414, hnp421⟩
     omega
    refine wp_exit ?_
    refine yC ?_
    refine yN ?_
    exact cutE_in ⟨_, kk, gv, gs, LV2, GL2, (zF (x := 11) (zF (x := 10) (zF (x := 9) (zF (x := 8) (zF (x := 7) (zF (x := 6) (zF (x := 5) (zF (x := 4) (zW (x := 2) rfl) rfl) rfl) rfl) rfl) rfl) rfl) rfl) rfl), hX295, hlek124, hkk, hgr, hLV2, (Or.inr (by rw [← hkk]; exact h305)), ho296, ho297, ho298, ha131, ha132, hlv299, ha134, ha135, ha136, hm300, hpk301, hnp139⟩
   refine xG (i := 5) rfl rfl (xB rfl rfl rfl rfl rfl) (by kernel_rfl) ⟨hq302, hX295.pins, hpk301.bx.reads, hq303⟩ ?_
   refine xG (i := 6) rfl rfl (xB rfl rfl rfl rfl rfl) (by kernel_rfl) ⟨hq302, hX295.pins, hpk301.bx.reads, hq303⟩ ?_
   refine xG (i := 7) rfl rfl (xB rfl rfl rfl rfl rfl) (by kernel_rfl) ⟨hq302, hX295.pins, hpk301.bx.reads, hq303⟩ ?_
   refine xG (i := 8) rfl rfl (xB rfl rfl rfl rfl rfl) (by kernel_rfl) ⟨hq302, hX295.pins, hpk301.bx.reads, hq303⟩ ?_
   refine xG (i := 9) rfl rfl (xB rfl rfl rfl rfl rfl) (by kernel_rfl) ⟨hq302, hX295.pins, hpk301.bx.reads, hq303⟩ ?_
   refine xG (i := 10) rfl rfl (xB rfl rfl rfl rfl rfl) (by kernel_rfl) ⟨hq302, hX295.pins, hpk301.bx.reads, hq303⟩ ?_
   refine xG (i := 11) rfl rfl (xB rfl rfl rfl rfl rfl) (by kernel_rfl) ⟨hq302, hX295.pins, hpk301.bx.reads, hq303⟩ ?_
   refine xG (i := 12) rfl rfl (xB rfl rfl rfl rfl rfl) (by kernel_rfl) ⟨hq302, hX295.pins, hpk301.bx.reads, hq303⟩ ?_
   refine xG (i := 13) rfl rfl (xB rfl rfl rfl rfl rfl) (by kernel_rfl) ⟨hq302, hX295.pins, hpk301.bx.reads, hq303⟩ ?_
   refine xG (i := 14) rfl rfl (xB rfl rfl rfl rfl rfl) (by kernel_rfl) ⟨hq302, hX295.pins, hpk301.bx.reads, hq303⟩ ?_
   refine xG (i := 15) rfl rfl (xB rfl rfl rfl rfl rfl) (by kernel_rfl) ⟨hq302, hX295.pins, hpk301.bx.reads, hq303⟩ ?_
   refine xG (i := 16) rfl rfl (xB rfl rfl rfl rfl rfl) (by kernel_rfl) ⟨hq302, hX295.pins, hpk301.bx.reads, hq303⟩ ?_
   refine xG (i := 17) rfl rfl (xB rfl rfl rfl rfl rfl) (by kernel_rfl) ⟨hq302, hX295.pins, hpk301.bx.reads, hq303⟩ ?_
   refine xG (i := 18) rfl rfl (xB rfl rfl rfl rfl rfl) (by kernel_rfl) ⟨hq302, hX295.pins, hpk301.bx.reads, hq303⟩ ?_
   refine xG (i := 19) rfl rfl (xB rfl rfl rfl rfl rfl) (by kernel_rfl) ⟨hq302, hX295.pins, hpk301.bx.reads, hq303⟩ ?_
   refine xG (i := 20) rfl rfl (xB rfl rfl rfl rfl rfl) (by kernel_rfl) ⟨hq302, hX295.pins, hpk301.bx.reads, hq303⟩ ?_
   refine xG (i := 21) rfl rfl (xB rfl rfl rfl rfl rfl) (by kernel_rfl) ⟨hq302, hX295.pins, hpk301.bx.reads, hq303⟩ ?_
   refine xG (i := 22) rfl rfl (xB rfl rfl rfl rfl rfl) (by kernel_rfl) ⟨hq302, hX295.pins, hpk301.bx.reads, hq303⟩ ?_
   refine xG (i := 23) rfl rfl (xB rfl rfl rfl rfl rfl) (by kernel_rfl) ⟨hq302, hX295.pins, hpk301.bx.reads, hq303⟩ ?_
   refine xG (i := 24) rfl rfl (xB rfl rfl rfl rfl rfl) (by kernel_rfl) ⟨hq302, hX295.pins, hpk301.bx.reads, hq303⟩ ?_
   refine xG (i := 25) rfl rfl (xB rfl rfl rfl rfl rfl) (by kernel_rfl) ⟨hq302, hX295.pins, hpk301.bx.reads, hq303⟩ ?_
   refine dT (i := 26) rfl rfl (by kernel_rfl) (fun _ _ => yO (v := (.bool false)) rfl rfl) ⟨hq302, hX295.pins, hpk301.bx.reads, hq303⟩ ?_
   refine yS (by kernel_rfl) ?_
   refine zA ?_
   refine qE rfl rfl ?_
   refine wp_exit ?_
   refine yC ?_
   refine yN ?_
   exact cutE_in ⟨_, kk, gv, gs, LV2, GL2, (zF (x := 11) (zF (x := 10) (zF (x := 9) (zF (x := 8) (zF (x := 7) (zF (x := 6) (zF (x := 5) (zF (x := 4) (zW (x := 2) rfl) rfl) rfl) rfl) rfl) rfl) rfl) rfl) rfl), hX295, hlek124, hkk, hgr, hLV2, (Or.inl (by omega)), ho296, ho297, ho298, ha131, ha132, hlv299, ha134, ha135, ha136, hm300, hpk301, hnp139⟩
 refine wp_exit ?_
 refine yC ?_
 refine yN ?_
 refine yK ?_
 refine zA (zD (zG ?_))
 refine qD rfl (zB (v := u26) rfl) ?_
 refine qD rfl (zB (v := nv) rfl) ?_
 refine qD rfl (zC (v := u26) rfl) ?_
 refine qD rfl (zC (v := nv) rfl) ?_
 refine qe (zA ?_)
 refine wp_ret ?_
 refine zT ?_
 refine c_ret2 (v := u26) (u := nv) rfl rfl rfl rfl rfl ?_
 have hnn : n = ls.length := by omega
 rw [hnn] at hor
 have hon := hw90
 rw [hps] at hon
 have hlv := hlv92.perm hLV
 have hap := ha94.perm hLV
 rw [lvE_lvN] at hlv hap
 exact ⟨_, _, ls, done.map Ent.nd, zs27, _, rfl, hw89, ⟨done.map Ent.pr, by rw [List.length_map, List.length_map], hon, fun k hk => (hon.lt k hk).2, hlv, hap⟩, hor, hpt31, hX88⟩

end OD1
end Go.Proofs.YtfnginkcmcfdfaaGreatDoor

set_option maxRecDepth 20000
set_option maxHeartbeats 2000000
namespace Go.Proofs.YtfnginkcmcfdfaaGreatDoor
namespace FO1
open Go.RowKit Go.GL Go.Proofs
open Go.Proofs.YtfnginkcmcfdfaaGreatDoor.B1
open Go.Proofs.YtfnginkcmcfdfaaGreatDoor.PO1
open Go.Proofs.YtfnginkcmcfdfaaGreatDoor.PA1
open Go.Proofs.YtfnginkcmcfdfaaGreatDoor.SO1
open Go.Proofs.YtfnginkcmcfdfaaGreatDoor.OD1






theorem pl32 : (Tryz.prog.underlying 32).bind (placesD Tryz.prog) = some [(0, 1)] := by kernel_rfl






theorem form_spec {w : World} {G : Pin} {p : Nat} {L R B : Value} {mm : PM} {q : PSt} (hP : Pins G w) (hpk : Pk 65 3 G w p L R B mm q) (hok : PoolOk q) {i : Int} (hi : PlaceOk q i) :
  Calls Tryz.prog 59 [(.pointer (some ⟨p, 0, none⟩)), (.int .i64 i)].toArray w fun e w' => ∃ (u : Value) (G' : Pin), e = .returned (.tuple #[(.agg [u].toArray), .bool (fitB (pd q i))]) ∧ DForm 99 3 G' w' w.heap.size w'.heap.size u (frmG (pd q i)) ∧ Ext noS G w G' w' := by
 refine zZ (n := 44) Tryz.func59 Tryz.ntmps59 rfl rfl ?_
 have hX0 : Ext noS G w G w := Ext.refl hP
 have hpin : PIn w (inP p L R B mm) p L R B mm := PIn.self
 have hml1 : (q.ns.map Nd.l).length = q.ns.length ∧ (q.ns.map Nd.r).length = q.ns.length := ⟨List.length_map .., List.length_map ..⟩
 have hml2 : q.bs.length = q.ns.length ∧ q.ns.length ≤ 1048576 := ⟨hok.ar.ok.len, hok.ar.ok.lim⟩
 have hi0 := hi.1
 have hi1 := hi.2
 have hone1 := place_one hi
 refine zD (zG ?_)
 refine qI rfl (yY [(.slice none 0 0)] zr32 rfl hX0.pins (fun b3 w4 hk5 hb6 hp7 hl8 => ?_))
 have hX9 := hX0.step hp7 hl8
 have hpk10 := hpk.below hl8 hp7
 have hlo16 : w.heap.size ≤ b3 := by have := hX0.size; omega
 refine qD rfl (zC (v := (.bool false)) rfl) ?_
 refine qe (zA (zD (zD (zG ?_))))
 refine qD rfl (zB (v := (.pointer (some ⟨p, 0, none⟩))) rfl) ?_
 refine qD rfl (zB (v := (.int .i64 i)) rfl) ?_
 refine qI rfl (yH (E := eInt) (e := 3) [(.int .i64 i)] [i] Tryz.underlying65 sz3 zr3 (by exact xO (by rfl)) (yR (by rfl)) rfl rfl rfl rfl (by decide) hX9.pins (fun u17 w18 ho19 hp20 hl21 hk22 => ?_))
 have hX23 := hX9.step hp20 hl21
 have hb24 := hb6.below hl21
 have hpk25 := hpk10.below hl21 hp20
 have ha30 : Apart u17.ownBlock (some b3) := zK hk22 hb6.lt
 have ha31 := hpk10.new (x := u17.ownBlock) (fun k hk => by rw [hk22] at hk; cases hk; exact Nat.le_refl _)
 have ho32 : Own eInt 3 G w18 w.heap.size u17 ([i]) := ho19.weaken hX9.size
 obtain ⟨G40, hle43, hX42, hr41, hf44⟩ := ho32.sealed hX23
 have hb45 := hb24.moreO hf44 ha30.symm
 have hpk46 := hpk25.moreO hle43 hf44 ha31
 refine qI rfl (zM (vs := [(.pointer (some ⟨p, 0, none⟩)), u17]) Tryz.func103 nm103 rfl rfl rfl ?_)
 refine Calls.mono (parts_spec hX42.pins hpk46 hok hr41 hone1 (by simp)) ?_
 rintro _ w36 ⟨u33, zs34, G35, rfl, ho37, hpt38, hx39⟩
 refine ⟨_, rfl, ?_⟩
 have hX47 := hX42.tr hx39
 have hb48 := hb45.ext hx39
 have hpk49 := hpk46.ext hx39
 have ho52 : Own eInt 3 G35 w36 w.heap.size u33 zs34 := ho37.weaken hX42.size
 have hql53 := hpt38.len
 have hfl := form_len hok hi hpt38
 refine qD rfl (zV Tryz.underlying65 (v := u33) rfl ho52.read) ?_
 refine qD rfl (r_gtr rfl rfl) ?_
 refine qe (zA ?_)
 refine yB (p := (120 : Int) < (zs34.length : Int)) rfl rfl (fun h54 => ?_) (fun h54 => ?_)
 ·skip
  refine zD (zG ?_)
  refine qD rfl (xE [(.slice none 0 0)] [(.slice none 0 0)] [] Tryz.underlying32 zr32 rfl pl32 rfl (fun _ h => by cases h) rfl) ?_
  refine q0 rfl rfl rfl (xA (cs' := [(.slice none 0 0)]) (us := [(.slice none 0 0)]) (v := (.agg [(.slice none 0 0)].toArray)) sz32 rfl rfl rfl (yR (by rfl)) hX47.pins hb48 (Nat.le_of_ble_eq_true rfl) rfl (fun w55 hb56 hp57 hg58 hz59 => ?_))
  have hX60 := hX47.write hp57 hg58 ((yL hlo16))
  refine qD rfl (zC (v := (.bool false)) rfl) ?_
  refine qe (zA ?_)
  refine wp_ret ?_
  refine zT ?_
  refine xW (cs := [(.slice none 0 0)]) (v := (.bool false)) rfl rfl rfl rfl rfl ag32 sz32 (fun j u hj => by rw [Nat.zero_add]; exact hb56.cell hj) ?_
  have hfb : fitB (pd q i) = false := fit_long (by omega)
  rw [hfb, frm_no hfb]
  exact ⟨_, _, rfl, DForm.nil, hX60⟩
 refine wp_skip ?_
 refine zA (zD (zG ?_))
 refine qD rfl (zB (v := (.pointer (some ⟨p, 0, none⟩))) rfl) ?_
 refine qD rfl (zB (v := (.int .i64 i)) rfl) ?_
 refine qI rfl (yH (E := eInt) (e := 3) [(.int .i64 i)] [i] Tryz.underlying65 sz3 zr3 (by exact xO (by rfl)) (yR (by rfl)) rfl rfl rfl rfl (by decide) hX47.pins (fun u63 w64 ho65 hp66 hl67 hk68 => ?_))
 have hX69 := hX47.step hp66 hl67
 have hb71 := hb48.below hl67
 have hpk72 := hpk49.below hl67 hp66
 have ha77 : Apart u63.ownBlock (some b3) := zK hk68 hb48.lt
 have ha79 := hpk49.new (x := u63.ownBlock) (fun k hk => by rw [hk68] at hk; cases hk; exact Nat.le_refl _)
 have ho80 : Own eInt 3 G35 w64 w.heap.size u63 ([i]) := ho65.weaken hX47.size
 obtain ⟨G99, hle102, hX101, hr100, hf103⟩ := ho80.sealed hX69
 have hb105 := hb71.moreO hf103 ha77.symm
 have hpk106 := hpk72.moreO hle102 hf103 ha79
 refine qI rfl (zM (vs := [(.pointer (some ⟨p, 0, none⟩)), u63]) Tryz.func66 nm66 rfl rfl rfl ?_)
 refine Calls.mono (order_spec hX101.pins hpk106 hok hr100 hone1 (by simp)) ?_
 rintro _ w87 ⟨u81, v82, ls83, ns84, zs85, G86, rfl, ho88, hd89, hor90, hpt91, hx92⟩
 refine ⟨_, rfl, ?_⟩
 have hX107 := hX101.tr hx92
 have hb109 := hb105.ext hx92
 have hpk110 := hpk106.ext hx92
 have hfo := hor90.form hok hpt91
 obtain ⟨ps93, hpl94, ho95, hlt96, hlv97, hap98⟩ := hd89.ex
 have ho116 := ho95.weaken hX101.size
 have hlv117 := (hlv97.weaken hX101.size (Nat.le_refl _)).top
 have ha118 : Apart (some b3) v82.ownBlock := (yF ho95.lt hb105.lt).symm
 have ha119 : ApL (lvN ps93 ns84) (some b3) := fun p hp => yF (hlv97.own p hp).lt hb105.lt
 refine qD rfl (zB (v := (.tuple #[u81, v82])) rfl) ?_
 refine qD rfl (yW (v := u81) rfl rfl) ?_
 refine qD rfl (yW (v := v82) rfl rfl) ?_
 refine qD rfl (zC (v := u81) rfl) ?_
 refine qD rfl (zC (v := v82) rfl) ?_
 refine qe (zA (zD (zD (zG ?_))))
 refine qD rfl (zB (v := v82) rfl) ?_
 refine qD rfl (zV Tryz.underlying30 (v := v82) rfl ho116.read) ?_
 refine qD rfl (zB (v := (.int .i64 0)) rfl) ?_
 refine qe (zA ?_)
 refine yD ?_
 have hlo := hfo.1.lo
 have hlf := hfo.eq
 rw [hlf] at hfl
 refine yU (fun (k : Nat) (en : Nat → Value) (W : World) => ∃ (env1 : Nat → Value) (j : Nat) (GL1 : Pin), en = (upd (upd (upd (upd (upd env1 4 (.pointer (some ⟨b3, 0, none⟩))) 7 v82) 24 v82) 25 (.int .i64 (ps93.length : Int))) 26 (.int .i64 (j : Int))) ∧ k = ns84.length - j ∧ Ext noS G w GL1 W ∧ Pin.le G86 GL1 ∧ (j ≤ ns84.length) ∧ (∀ k, k < j → (ns84.getD k default).l.length ≤ 24 ∧ (ns84.getD k default).r.length ≤ 24) ∧ (Own eVal2 99 GL1 W w.heap.size v82 (ps93)) ∧ (Bx GL1 W b3 [(.slice none 0 0)]) ∧ (Lvs 3 GL1 W w.heap.size W.heap.size (lvN ps93 ns84)) ∧ (ApL (lvN ps93 ns84) v82.ownBlock) ∧ (ApL (lvN ps93 ns84) (some b3)) ∧ (Pk 65 3 GL1 W p L R B mm q)) _ ⟨_, 0, G86, (zF (x := 26) (zF (x := 25) (zF (x := 24) (zF (x := 7) (zW (x := 4) rfl) rfl) rfl) rfl) rfl), rfl, hX107, Pin.le_refl _, Nat.zero_le _, (fun k hk => absurd hk (Nat.not_lt_zero k)), ho116, hb109, hlv117, hap98, ha119, hpk110⟩ ?_
 rintro k124 _ w125 ⟨env1, j, GL1, rfl, hk126, hX127, hlek124, hj, hop, hw128, hw129, hlv130, ha131, ha132, hpk133⟩
 refine zD (zG ?_)
 refine qD rfl (yV rfl rfl) ?_
 refine qe (zA (zD ?_))
 refine yB (p := ((j : Int) : Int) < (ps93.length : Int)) rfl rfl (fun h134 => ?_) (fun h134 => ?_)
 ·skip
  refine wp_skip ?_
  refine zA (zD ?_)
  refine yD ?_
  refine zD (zG ?_)
  refine qD rfl (zS Tryz.underlying30 sz99 (v := v82) rfl rfl hw128.read (by omega) (by omega)) ?_
  obtain ⟨cs135, hrep136, hagg137, hcell138⟩ := nm_el (j := j) default (hw128.at (z := (j : Int)) (by omega) (by omega)) rfl
  obtain ⟨rfl, hone139, hone140⟩ := hrep136
  refine qD rfl (hagg137 ag99 sz99 rfl (Gadd.pins hX127.pins v82)) ?_
  refine qI rfl (yY [(.slice none 0 0), (.slice none 0 0)] zr99 rfl hX127.pins (fun b141 w142 hk143 hb144 hp145 hl146 => ?_))
  have hX147 := hX127.step hp145 hl146
  have ho148 := hw128.below hl146
  have hb149 := hw129.below hl146
  have hlv150 := (hlv130.below hl146).top
  have hpk151 := hpk133.below hl146 hp145
  have ha152 : Apart (some b141) v82.ownBlock := zJ (congrArg some hk143) hw128.lt
  have ha156 : Apart (some b141) (some b3) := zK (congrArg some hk143) hw129.lt
  have ha158 : ApL (lvN ps93 ns84) (some b141) := ApL.fresh hlv130 (fun k hk => by rw [(congrArg some hk143)] at hk; cases hk; exact Nat.le_refl _)
  have ha159 := hpk133.new (x := (some b141)) (fun k hk => by rw [(congrArg some hk143)] at hk; cases hk; exact Nat.le_refl _)
  have hlo160 : w.heap.size ≤ b141 := by have := hX127.size; omega
  refine q0 rfl rfl rfl (xA (cs' := [(ps93.getD j default).1, (ps93.getD j default).2]) (us := [(ps93.getD j default).1, (ps93.getD j default).2]) (v := (.agg [(ps93.getD j default).1, (ps93.getD j default).2].toArray)) sz99 rfl rfl rfl (qB hone139 hone140) hX147.pins hb144 (Nat.le_of_ble_eq_true rfl) rfl (fun w161 hb162 hp163 hg164 hz165 => ?_))
  have hX166 := hX147.write hp163 hg164 ((yL hlo160))
  have ho167 := ho148.keptA hg164 ha152.symm
  have hb168 := hb149.keptA hg164 ha156.symm
  have hlv169 := (hlv150.kept hg164 ha158).top
  have hpk170 := hpk151.kept hg164 hp163 ha159
  obtain ⟨G171, hle172, hX173, hbp174, hf175⟩ := hb162.shut hX166 hlo160
  have ho176 := ho167.moreA hle172 hf175 ha152.symm
  have hb177 := hb168.moreA hf175 ha156.symm
  have hlv178 := hlv169.more hle172 hf175 ha158
  have hpk179 := hpk170.more hle172 hf175 ha159
  refine qe (zA (zD (zG ?_)))
  have hpj : ps93[j]? = some (ps93.getD j default) := by simp [List.getD, show j < ps93.length by omega]
  have hnj : ns84[j]? = some (ns84.getD j default) := by simp [List.getD, show j < ns84.length by omega]
  have hr180 := (hlv178.own _ (lvN_mem hpj hnj).1).read
  have hr181 := (hlv178.own _ (lvN_mem hpj hnj).2).read
  refine qD rfl (zN (k := 0) rfl Tryz.underlying99 rfl nz65 rfl) ?_
  refine qD rfl (zO (u := (ps93.getD j default).1) ag65 rfl (hX173.pins _ _ _ (hbp174 0 _ rfl))) ?_
  refine qD rfl (zV Tryz.underlying65 (v := (ps93.getD j default).1) rfl hr180) ?_
  refine qD rfl (r_gtr rfl rfl) ?_
  refine qD rfl (zB (v := (.bool (decide ((24 : Int) < (((ns84.getD j default).l).length : Int))))) rfl) ?_
  refine qbd (p := (24 : Int) < (((ns84.getD j default).l).length : Int)) (t := 34) rfl (fun h182 => ?_) (fun h182 => ?_)
  ·skip
   refine qs rfl rfl rfl rfl rfl rfl ?_
   refine qs rfl rfl rfl rfl rfl rfl ?_
   refine qs rfl rfl rfl rfl rfl rfl ?_
   refine qs rfl rfl rfl rfl rfl rfl ?_
   refine qD rfl (xD (v := (.bool true)) rfl rfl) ?_
   refine qe (zA ?_)
   refine c_ifT rfl rfl ?_
   refine zD (zG ?_)
   refine qD rfl (xE [(.slice none 0 0)] [(.slice none 0 0)] [] Tryz.underlying32 zr32 rfl pl32 rfl (fun _ h => by cases h) rfl) ?_
   refine q0 rfl rfl rfl (xA (cs' := [(.slice none 0 0)]) (us := [(.slice none 0 0)]) (v := (.agg [(.slice none 0 0)].toArray)) sz32 rfl rfl rfl (yR (by rfl)) hX173.pins hb177 (Nat.le_of_ble_eq_true rfl) rfl (fun w183 hb184 hp185 hg186 hz187 => ?_))
   have hX188 := hX173.write hp185 hg186 ((yL hlo16))
   refine qD rfl (zC (v := (.bool false)) rfl) ?_
   refine qe (zA ?_)
   refine wp_ret ?_
   refine zT ?_
   refine xW (cs := [(.slice none 0 0)]) (v := (.bool false)) rfl rfl rfl rfl rfl ag32 sz32 (fun j u hj => by rw [Nat.zero_add]; exact hb184.cell hj) ?_
   have hfb : fitB (pd q i) = false := fit_opt hfo (k := j) (by omega) (by omega)
   rw [hfb, frm_no hfb]
   exact ⟨_, _, rfl, DForm.nil, hX188⟩
  refine qdg rfl rfl rfl rfl rfl rfl (zN (k := 1) rfl Tryz.underlying99 rfl nz65 rfl) ?_
  refine qdg rfl rfl rfl rfl rfl rfl (zO (u := (ps93.getD j default).2) ag65 rfl (hX173.pins _ _ _ (hbp174 1 _ rfl))) ?_
  refine qdg rfl rfl rfl rfl rfl rfl (zV Tryz.underlying65 (v := (ps93.getD j default).2) rfl hr181) ?_
  refine qdg rfl rfl rfl rfl rfl rfl (r_gtr rfl rfl) ?_
  refine qD rfl (yO (v := (.bool (decide ((24 : Int) < (((ns84.getD j default).r).length : Int))))) rfl rfl) ?_
  refine qe (zA ?_)
  refine yB (p := (24 : Int) < (((ns84.getD j default).r).length : Int)) rfl rfl (fun h192 => ?_) (fun h192 => ?_)
  ·skip
   refine zD (zG ?_)
   refine qD rfl (xE [(.slice none 0 0)] [(.slice none 0 0)] [] Tryz.underlying32 zr32 rfl pl32 rfl (fun _ h => by cases h) rfl) ?_
   refine q0 rfl rfl rfl (xA (cs' := [(.slice none 0 0)]) (us := [(.slice none 0 0)]) (v := (.agg [(.slice none 0 0)].toArray)) sz32 rfl rfl rfl (yR (by rfl)) hX173.pins hb177 (Nat.le_of_ble_eq_true rfl) rfl (fun w193 hb194 hp195 hg196 hz197 => ?_))
   have hX198 := hX173.write hp195 hg196 ((yL hlo16))
   refine qD rfl (zC (v := (.bool false)) rfl) ?_
   refine qe (zA ?_)
   refine wp_ret ?_
   refine zT ?_
   refine xW (cs := [(.slice none 0 0)]) (v := (.bool false)) rfl rfl rfl rfl rfl ag32 sz32 (fun j u hj => by rw [Nat.zero_add]; exact hb194.cell hj) ?_
   have hfb : fitB (pd q i) = false := fit_opt hfo (k := j) (by omega) (by omega)
   rw [hfb, frm_no hfb]
   exact ⟨_, _, rfl, DForm.nil, hX198⟩
  refine wp_skip ?_
  refine yJ ?_
  refine zA (zG ?_)
  refine qD rfl (yQ rfl rfl (by omega)) ?_
  refine qD rfl (zB (v := (.int .i64 ((j : Int) + 1))) rfl) ?_
  refine qe ?_
  refine yM ?_
  refine ⟨_, ?_, _, rfl, _, j + 1, G171, (zF (x := 26) (zF (x := 25) (zF (x := 24) (zF (x := 7) (zW (x := 4) rfl) rfl) rfl) rfl) rfl), rfl, hX173, (Pin.le_trans hlek124 hle172), (by omega), (fun k hk => if h : k = j then h ▸ (by omega) else hop k (by omega)), ho176, hb177, hlv178, ha131, ha132, hpk179⟩
  omega
 refine wp_exit ?_
 refine yC ?_
 refine yN ?_
 refine yK ?_
 refine zA (zD (zG ?_))
 refine qD rfl (zB (v := v82) rfl) ?_
 refine qD rfl (xE [(.slice none 0 0)] [v82] [(0, v82, [v82])] Tryz.underlying32 zr32 rfl pl32 rfl (List.forall_mem_cons.2 ⟨(yX hw128.one), (fun _ h => by cases h)⟩) rfl) ?_
 refine q0 rfl rfl rfl (xA (cs' := [v82]) (us := [v82]) (v := (.agg [v82].toArray)) sz32 rfl rfl rfl (yR hw128.one) hX127.pins hw129 (Nat.le_of_ble_eq_true rfl) rfl (fun w202 hb203 hp204 hg205 hz206 => ?_))
 have hX207 := hX127.write hp204 hg205 ((yL hlo16))
 have ho208 := hw128.keptA hg205 ha118.symm
 have hlv209 := (hlv130.kept hg205 ha132).top
 refine qD rfl (zC (v := (.bool true)) rfl) ?_
 refine qe (zA ?_)
 refine wp_ret ?_
 refine zT ?_
 refine xW (cs := [v82]) (v := (.bool true)) rfl rfl rfl rfl rfl ag32 sz32 (fun j u hj => by rw [Nat.zero_add]; exact hb203.cell hj) ?_
 have hfb : fitB (pd q i) = true := fit_yes hfo (by omega) (fun k hk => hop k (by omega))
 rw [hfb, frm_yes hfo hfb]
 exact ⟨_, _, rfl, ⟨ps93, hpl94, ho208, (fun k hk => (ho208.lt k hk).2), hlv209, ha131⟩, hX207⟩

end FO1
end Go.Proofs.YtfnginkcmcfdfaaGreatDoor

set_option maxRecDepth 20000
set_option maxHeartbeats 2000000
namespace Go.Proofs.YtfnginkcmcfdfaaGreatDoor
namespace NG1
open Go.RowKit Go.GL Go.Proofs
open Go.Proofs.YtfnginkcmcfdfaaGreatDoor.B1
open Go.Proofs.YtfnginkcmcfdfaaGreatDoor.K1
open Go.Proofs.YtfnginkcmcfdfaaGreatDoor.PO1
open Go.Proofs.YtfnginkcmcfdfaaGreatDoor.PL1
end NG1
end Go.Proofs.YtfnginkcmcfdfaaGreatDoor

set_option maxRecDepth 20000
set_option maxHeartbeats 2000000
namespace Go.Proofs.YtfnginkcmcfdfaaGreatDoor
namespace NF1
open Go.RowKit Go.GL Go.Proofs
open Go.Proofs.YtfnginkcmcfdfaaGreatDoor.B1
open Go.Proofs.YtfnginkcmcfdfaaGreatDoor.C1
open Go.Proofs.YtfnginkcmcfdfaaGreatDoor.D1
open Go.Proofs.YtfnginkcmcfdfaaGreatDoor.E1
open Go.Proofs.YtfnginkcmcfdfaaGreatDoor.K1
open Go.Proofs.YtfnginkcmcfdfaaGreatDoor.PO1
open Go.Proofs.YtfnginkcmcfdfaaGreatDoor.PL1
open Go.Proofs.YtfnginkcmcfdfaaGreatDoor.PA1
open Go.Proofs.YtfnginkcmcfdfaaGreatDoor.SO1
open Go.Proofs.YtfnginkcmcfdfaaGreatDoor.OD1
open Go.Proofs.YtfnginkcmcfdfaaGreatDoor.FO1
open Go.Proofs.YtfnginkcmcfdfaaGreatDoor.NG1
end NF1
end Go.Proofs.YtfnginkcmcfdfaaGreatDoor

set_option maxRecDepth 20000
set_option maxHeartbeats 2000000
namespace Go.Proofs.YtfnginkcmcfdfaaGreatDoor
namespace SM1
open Go.RowKit Go.GL Go.Proofs
open Go.Proofs.YtfnginkcmcfdfaaGreatDoor.B1
open Go.Proofs.YtfnginkcmcfdfaaGreatDoor.C1
open Go.Proofs.YtfnginkcmcfdfaaGreatDoor.D1
open Go.Proofs.YtfnginkcmcfdfaaGreatDoor.E1
open Go.Proofs.YtfnginkcmcfdfaaGreatDoor.K1
open Go.Proofs.YtfnginkcmcfdfaaGreatDoor.PO1
open Go.Proofs.YtfnginkcmcfdfaaGreatDoor.PL1
open Go.Proofs.YtfnginkcmcfdfaaGreatDoor.PA1
open Go.Proofs.YtfnginkcmcfdfaaGreatDoor.SO1
open Go.Proofs.YtfnginkcmcfdfaaGreatDoor.OD1
open Go.Proofs.YtfnginkcmcfdfaaGreatDoor.FO1
open Go.Proofs.YtfnginkcmcfdfaaGreatDoor.NG1
open Go.Proofs.YtfnginkcmcfdfaaGreatDoor.NF1


theorem pl32 : (Tryz.prog.underlying 32).bind (placesD Tryz.prog) = some [(0, 1)] := by kernel_rfl


theorem l3If_spec {w : World} {G : Pin} {v : Value} {fs : List Nd} (hP : Pins G w) (hv : RSl eNode G v fs) :
  Calls Tryz.prog 57 [(.agg [v].toArray)].toArray w fun e w' => ∃ (u : Value) (G' : Pin), e = .returned (.tuple #[(.agg [u].toArray), .bool (decP (FitsP fs))]) ∧ RSl eNode G' u (ifF fs) ∧ Ext noS G w G' w' := by
 refine zZ (n := 9) Tryz.func57 Tryz.ntmps57 rfl rfl ?_
 have hX0 : Ext noS G w G w := Ext.refl hP
 refine zD (zG ?_)
 refine qI rfl (xT [v] (v := (.agg [v].toArray)) rfl rfl hX0.pins (fun b1 w2 hk3 hb4 hp5 hl6 => ?_))
 have hX7 := hX0.step hp5 hl6
 have hlo8 : w.heap.size ≤ b1 := by have := hX0.size; omega
 obtain ⟨G9, hle10, hX11, hbp12, hf13⟩ := hb4.shut hX7 hlo8
 refine qI rfl (yY [(.slice none 0 0)] zr32 rfl hX11.pins (fun b14 w15 hk16 hb17 hp18 hl19 => ?_))
 have hX20 := hX11.step hp18 hl19
 have hlo21 : w.heap.size ≤ b14 := by have := hX11.size; omega
 refine qD rfl (zC (v := (.bool false)) rfl) ?_
 refine qe (zA (zD (zD (zG ?_))))
 refine qD rfl (yP (cs := [v]) ag32 sz32 rfl (fun j u hj => hX20.pins _ _ _ (hbp12 _ _ (by simpa using hj)))) ?_
 refine qI rfl (zM (vs := [(.agg [v].toArray)]) Tryz.func88 nm88 rfl rfl rfl ?_)
 refine Calls.mono (l3Fits_spec hX20.pins (hv.mono hle10)) ?_
 rintro _ w23 ⟨G22, rfl, hx24⟩
 refine ⟨_, rfl, ?_⟩
 have hX25 := hX20.tr hx24
 have hb26 := hb17.ext hx24
 refine qD rfl (r_not rfl) ?_
 refine qe (zA ?_)
 refine c_ifn rfl rfl (fun h27 => ?_) (fun h27 => ?_)
 ·skip
  refine wp_skip ?_
  refine zA (zD (zG ?_))
  refine qD rfl (yP (cs := [v]) ag32 sz32 rfl (fun j u hj => (Pins.of_le hX25.pins hx24.le) _ _ _ (hbp12 _ _ (by simpa using hj)))) ?_
  refine q0 rfl rfl rfl (xA (cs' := [v]) (us := [v]) (v := (.agg [v].toArray)) sz32 rfl rfl rfl (yR hv.one) hX25.pins hb26 (Nat.le_of_ble_eq_true rfl) rfl (fun w28 hb29 hp30 hg31 hz32 => ?_))
  have hX33 := hX25.write hp30 hg31 ((yL hlo21))
  refine qD rfl (zC (v := (.bool true)) rfl) ?_
  refine qe (zA ?_)
  refine wp_ret ?_
  refine zT ?_
  refine xW (cs := [v]) (v := (.bool true)) rfl rfl rfl rfl rfl ag32 sz32 (fun j u hj => by rw [Nat.zero_add]; exact hb29.cell hj) ?_
  exact ⟨_, _, congrArg (fun z => Ending.returned (Value.tuple #[(.agg [v].toArray), Value.bool z])) (h27).symm, (by unfold ifF; rw [h27]; exact (hv.mono (Pin.le_trans hle10 hx24.le))), hX33⟩
 refine zD (zG ?_)
 refine qD rfl (xE [(.slice none 0 0)] [(.slice none 0 0)] [] Tryz.underlying32 zr32 rfl pl32 rfl (fun _ h => by cases h) rfl) ?_
 refine q0 rfl rfl rfl (xA (cs' := [(.slice none 0 0)]) (us := [(.slice none 0 0)]) (v := (.agg [(.slice none 0 0)].toArray)) sz32 rfl rfl rfl (yR (by rfl)) hX25.pins hb26 (Nat.le_of_ble_eq_true rfl) rfl (fun w34 hb35 hp36 hg37 hz38 => ?_))
 have hX39 := hX25.write hp36 hg37 ((yL hlo21))
 refine qD rfl (zC (v := (.bool false)) rfl) ?_
 refine qe (zA ?_)
 refine wp_ret ?_
 refine zT ?_
 refine xW (cs := [(.slice none 0 0)]) (v := (.bool false)) rfl rfl rfl rfl rfl ag32 sz32 (fun j u hj => by rw [Nat.zero_add]; exact hb35.cell hj) ?_
 exact ⟨_, _, congrArg (fun z => Ending.returned (Value.tuple #[(.agg [(.slice none 0 0)].toArray), Value.bool z])) (h27).symm, (by unfold ifF; rw [h27]; exact xL _ _), hX39⟩

end SM1
end Go.Proofs.YtfnginkcmcfdfaaGreatDoor

set_option maxRecDepth 20000
set_option maxHeartbeats 2000000
namespace Go.Proofs.YtfnginkcmcfdfaaGreatDoor
namespace NU1
open Go.RowKit Go.GL Go.Proofs
open Go.Proofs.YtfnginkcmcfdfaaGreatDoor.B1
open Go.Proofs.YtfnginkcmcfdfaaGreatDoor.C1
open Go.Proofs.YtfnginkcmcfdfaaGreatDoor.D1
open Go.Proofs.YtfnginkcmcfdfaaGreatDoor.E1
open Go.Proofs.YtfnginkcmcfdfaaGreatDoor.K1
open Go.Proofs.YtfnginkcmcfdfaaGreatDoor.PO1
open Go.Proofs.YtfnginkcmcfdfaaGreatDoor.PL1


theorem goodDyadic_spec {w : World} {G : Pin} {t z : Int} (hP : Pins G w) :
  Calls Tryz.prog 101 [(.agg [(.int .i64 t), (.int .i64 z)].toArray)].toArray w fun e w' => ∃ G', e = .returned (.bool (decP (GoodD t z))) ∧ Ext noS G w G' w' := by
 refine zZ (n := 32) Tryz.func101 Tryz.ntmps101 rfl rfl ?_
 have hX0 : Ext noS G w G w := Ext.refl hP
 refine zD (zG ?_)
 refine qI rfl (xT [(.int .i64 t), (.int .i64 z)] (v := (.agg [(.int .i64 t), (.int .i64 z)].toArray)) rfl rfl hX0.pins (fun b1 w2 hk3 hb4 hp5 hl6 => ?_))
 have hX7 := hX0.step hp5 hl6
 have hlo8 : w.heap.size ≤ b1 := by have := hX0.size; omega
 obtain ⟨G9, hle10, hX11, hbp12, hf13⟩ := hb4.shut hX7 hlo8
 refine qD rfl (zC (v := (.bool false)) rfl) ?_
 refine qe (zA (zD (zG ?_)))
 refine qD rfl (zN (k := 0) rfl Tryz.underlying34 rfl nz3 rfl) ?_
 refine qD rfl (zO (u := (.int .i64 t)) ag3 rfl (hX11.pins _ _ _ (hbp12 0 _ rfl))) ?_
 refine qD rfl (r_geq rfl rfl) ?_
 refine qD rfl (zB (v := (.bool (decide (((-1000000) : Int) ≤ t)))) rfl) ?_
 refine qbd (p := ((-1000000) : Int) ≤ t) (t := 6) rfl (fun h14 => ?_) (fun h14 => ?_)
 ·skip
  refine qdg rfl rfl rfl rfl rfl rfl (zN (k := 0) rfl Tryz.underlying34 rfl nz3 rfl) ?_
  refine qdg rfl rfl rfl rfl rfl rfl (zO (u := (.int .i64 t)) ag3 rfl (hX11.pins _ _ _ (hbp12 0 _ rfl))) ?_
  refine qdg rfl rfl rfl rfl rfl rfl (r_leq rfl rfl) ?_
  refine qD rfl (xD (v := (.bool (decide ((t : Int) ≤ 1000000)))) rfl rfl) ?_
  refine qD rfl (zB (v := (.bool (decide ((t : Int) ≤ 1000000)))) rfl) ?_
  refine qbd (p := (t : Int) ≤ 1000000) (t := 11) rfl (fun h15 => ?_) (fun h15 => ?_)
  ·skip
   refine qdg rfl rfl rfl rfl rfl rfl (zN (k := 1) rfl Tryz.underlying34 rfl nz3 rfl) ?_
   refine qdg rfl rfl rfl rfl rfl rfl (zO (u := (.int .i64 z)) ag3 rfl (hX11.pins _ _ _ (hbp12 1 _ rfl))) ?_
   refine qdg rfl rfl rfl rfl rfl rfl (r_geq rfl rfl) ?_
   refine qD rfl (xD (v := (.bool (decide ((0 : Int) ≤ z)))) rfl rfl) ?_
   refine qD rfl (zB (v := (.bool (decide ((0 : Int) ≤ z)))) rfl) ?_
   refine qbd (p := (0 : Int) ≤ z) (t := 16) rfl (fun h16 => ?_) (fun h16 => ?_)
   ·skip
    refine qdg rfl rfl rfl rfl rfl rfl (zN (k := 1) rfl Tryz.underlying34 rfl nz3 rfl) ?_
    refine qdg rfl rfl rfl rfl rfl rfl (zO (u := (.int .i64 z)) ag3 rfl (hX11.pins _ _ _ (hbp12 1 _ rfl))) ?_
    refine qdg rfl rfl rfl rfl rfl rfl (r_leq rfl rfl) ?_
    refine qD rfl (xD (v := (.bool (decide ((z : Int) ≤ 16)))) rfl rfl) ?_
    refine qD rfl (zB (v := (.bool (decide ((z : Int) ≤ 16)))) rfl) ?_
    refine qbd (p := (z : Int) ≤ 16) (t := 21) rfl (fun h17 => ?_) (fun h17 => ?_)
    ·skip
     refine qdg rfl rfl rfl rfl rfl rfl (zN (k := 1) rfl Tryz.underlying34 rfl nz3 rfl) ?_
     refine qdg rfl rfl rfl rfl rfl rfl (zO (u := (.int .i64 z)) ag3 rfl (hX11.pins _ _ _ (hbp12 1 _ rfl))) ?_
     refine qdg rfl rfl rfl rfl rfl rfl (r_eql rfl rfl) ?_
     refine qdg rfl rfl rfl rfl rfl rfl (zB (v := (.bool (decide ((z : Int) = 0)))) rfl) ?_
     refine qbd (p := (z : Int) = 0) (t := 25) rfl (fun h18 => ?_) (fun h18 => ?_)
     ·skip
      refine qs rfl rfl rfl rfl rfl rfl ?_
      refine qs rfl rfl rfl rfl rfl rfl ?_
      refine qs rfl rfl rfl rfl rfl rfl ?_
      refine qs rfl rfl rfl rfl rfl rfl ?_
      refine qdg rfl rfl rfl rfl rfl rfl (xD (v := (.bool true)) rfl rfl) ?_
      refine qD rfl (xD (v := (.bool true)) rfl rfl) ?_
      refine qD rfl (zC (v := (.bool true)) rfl) ?_
      refine qe (zA ?_)
      refine wp_ret ?_
      refine zT ?_
      refine zQ (v := (.bool true)) rfl rfl rfl ?_
      exact ⟨_, congrArg (fun z => Ending.returned (Value.bool z)) (decP_true.2 ⟨by omega, by omega, by omega⟩).symm, hX11⟩
     refine qdg rfl rfl rfl rfl rfl rfl (zN (k := 0) rfl Tryz.underlying34 rfl nz3 rfl) ?_
     refine qdg rfl rfl rfl rfl rfl rfl (zO (u := (.int .i64 t)) ag3 rfl (hX11.pins _ _ _ (hbp12 0 _ rfl))) ?_
     refine qdg rfl rfl rfl rfl rfl rfl (r_rem2 rfl rfl) ?_
     refine qdg rfl rfl rfl rfl rfl rfl (r_neq rfl rfl) ?_
     refine qdg rfl rfl rfl rfl rfl rfl (yO (v := (.bool (decide ((t.tmod 2 : Int) ≠ 0)))) rfl rfl) ?_
     refine qD rfl (xD (v := (.bool (decide ((t.tmod 2 : Int) ≠ 0)))) rfl rfl) ?_
     refine qD rfl (zC (v := (.bool (decide ((t.tmod 2 : Int) ≠ 0)))) rfl) ?_
     refine qe (zA ?_)
     refine wp_ret ?_
     refine zT ?_
     refine zQ (v := (.bool (decide ((t.tmod 2 : Int) ≠ 0)))) rfl rfl rfl ?_
     exact ⟨_, congrArg (fun z => Ending.returned (Value.bool z)) (decP_dec.symm.trans (decP_iff ⟨fun h => ⟨by omega, by omega, by omega⟩, fun g => by have h3 := g.odd; omega⟩)), hX11⟩
    refine qs rfl rfl rfl rfl rfl rfl ?_
    refine qs rfl rfl rfl rfl rfl rfl ?_
    refine qs rfl rfl rfl rfl rfl rfl ?_
    refine qs rfl rfl rfl rfl rfl rfl ?_
    refine qsu rfl rfl rfl rfl rfl ?_
    refine qsu rfl rfl rfl rfl rfl ?_
    refine qsu rfl rfl rfl rfl rfl ?_
    refine qsu rfl rfl rfl rfl rfl ?_
    refine qs rfl rfl rfl rfl rfl rfl ?_
    refine qD rfl (yO (v := (.bool false)) rfl rfl) ?_
    refine qD rfl (zC (v := (.bool false)) rfl) ?_
    refine qe (zA ?_)
    refine wp_ret ?_
    refine zT ?_
    refine zQ (v := (.bool false)) rfl rfl rfl ?_
    exact ⟨_, congrArg (fun z => Ending.returned (Value.bool z)) (decP_false.2 (fun g => by have h1 := g.top; have h2 := g.pow; have h3 := g.odd; omega)).symm, hX11⟩
   refine qs rfl rfl rfl rfl rfl rfl ?_
   refine qs rfl rfl rfl rfl rfl rfl ?_
   refine qs rfl rfl rfl rfl rfl rfl ?_
   refine qD rfl (yO (v := (.bool false)) rfl rfl) ?_
   refine qD rfl (zB (v := (.bool false)) rfl) ?_
   refine qs rfl rfl rfl rfl rfl rfl ?_
   refine qs rfl rfl rfl rfl rfl rfl ?_
   refine qs rfl rfl rfl rfl rfl rfl ?_
   refine qs rfl rfl rfl rfl rfl rfl ?_
   refine qsu rfl rfl rfl rfl rfl ?_
   refine qsu rfl rfl rfl rfl rfl ?_
   refine qsu rfl rfl rfl rfl rfl ?_
   refine qsu rfl rfl rfl rfl rfl ?_
   refine qs rfl rfl rfl rfl rfl rfl ?_
   refine qD rfl (yO (v := (.bool false)) rfl rfl) ?_
   refine qD rfl (zC (v := (.bool false)) rfl) ?_
   refine qe (zA ?_)
   refine wp_ret ?_
   refine zT ?_
   refine zQ (v := (.bool false)) rfl rfl rfl ?_
   exact ⟨_, congrArg (fun z => Ending.returned (Value.bool z)) (decP_false.2 (fun g => by have h1 := g.top; have h2 := g.pow; have h3 := g.odd; omega)).symm, hX11⟩
  refine qs rfl rfl rfl rfl rfl rfl ?_
  refine qs rfl rfl rfl rfl rfl rfl ?_
  refine qs rfl rfl rfl rfl rfl rfl ?_
  refine qD rfl (yO (v := (.bool false)) rfl rfl) ?_
  refine qD rfl (zB (v := (.bool false)) rfl) ?_
  refine qs rfl rfl rfl rfl rfl rfl ?_
  refine qs rfl rfl rfl rfl rfl rfl ?_
  refine qs rfl rfl rfl rfl rfl rfl ?_
  refine qD rfl (yO (v := (.bool false)) rfl rfl) ?_
  refine qD rfl (zB (v := (.bool false)) rfl) ?_
  refine qs rfl rfl rfl rfl rfl rfl ?_
  refine qs rfl rfl rfl rfl rfl rfl ?_
  refine qs rfl rfl rfl rfl rfl rfl ?_
  refine qs rfl rfl rfl rfl rfl rfl ?_
  refine qsu rfl rfl rfl rfl rfl ?_
  refine qsu rfl rfl rfl rfl rfl ?_
  refine qsu rfl rfl rfl rfl rfl ?_
  refine qsu rfl rfl rfl rfl rfl ?_
  refine qs rfl rfl rfl rfl rfl rfl ?_
  refine qD rfl (yO (v := (.bool false)) rfl rfl) ?_
  refine qD rfl (zC (v := (.bool false)) rfl) ?_
  refine qe (zA ?_)
  refine wp_ret ?_
  refine zT ?_
  refine zQ (v := (.bool false)) rfl rfl rfl ?_
  exact ⟨_, congrArg (fun z => Ending.returned (Value.bool z)) (decP_false.2 (fun g => by have h1 := g.top; have h2 := g.pow; have h3 := g.odd; omega)).symm, hX11⟩
 refine qs rfl rfl rfl rfl rfl rfl ?_
 refine qs rfl rfl rfl rfl rfl rfl ?_
 refine qs rfl rfl rfl rfl rfl rfl ?_
 refine qD rfl (yO (v := (.bool false)) rfl rfl) ?_
 refine qD rfl (zB (v := (.bool false)) rfl) ?_
 refine qs rfl rfl rfl rfl rfl rfl ?_
 refine qs rfl rfl rfl rfl rfl rfl ?_
 refine qs rfl rfl rfl rfl rfl rfl ?_
 refine qD rfl (yO (v := (.bool false)) rfl rfl) ?_
 refine qD rfl (zB (v := (.bool false)) rfl) ?_
 refine qs rfl rfl rfl rfl rfl rfl ?_
 refine qs rfl rfl rfl rfl rfl rfl ?_
 refine qs rfl rfl rfl rfl rfl rfl ?_
 refine qD rfl (yO (v := (.bool false)) rfl rfl) ?_
 refine qD rfl (zB (v := (.bool false)) rfl) ?_
 refine qs rfl rfl rfl rfl rfl rfl ?_
 refine qs rfl rfl rfl rfl rfl rfl ?_
 refine qs rfl rfl rfl rfl rfl rfl ?_
 refine qs rfl rfl rfl rfl rfl rfl ?_
 refine qsu rfl rfl rfl rfl rfl ?_
 refine qsu rfl rfl rfl rfl rfl ?_
 refine qsu rfl rfl rfl rfl rfl ?_
 refine qsu rfl rfl rfl rfl rfl ?_
 refine qs rfl rfl rfl rfl rfl rfl ?_
 refine qD rfl (yO (v := (.bool false)) rfl rfl) ?_
 refine qD rfl (zC (v := (.bool false)) rfl) ?_
 refine qe (zA ?_)
 refine wp_ret ?_
 refine zT ?_
 refine zQ (v := (.bool false)) rfl rfl rfl ?_
 exact ⟨_, congrArg (fun z => Ending.returned (Value.bool z)) (decP_false.2 (fun g => by have h1 := g.top; have h2 := g.pow; have h3 := g.odd; omega)).symm, hX11⟩

end NU1
end Go.Proofs.YtfnginkcmcfdfaaGreatDoor

set_option maxRecDepth 20000
set_option maxHeartbeats 2000000
namespace Go.Proofs.YtfnginkcmcfdfaaGreatDoor
namespace NU2
open Go.RowKit Go.GL Go.Proofs
open Go.Proofs.YtfnginkcmcfdfaaGreatDoor.B1
open Go.Proofs.YtfnginkcmcfdfaaGreatDoor.C1
open Go.Proofs.YtfnginkcmcfdfaaGreatDoor.D1
open Go.Proofs.YtfnginkcmcfdfaaGreatDoor.E1
open Go.Proofs.YtfnginkcmcfdfaaGreatDoor.K1
open Go.Proofs.YtfnginkcmcfdfaaGreatDoor.PO1
open Go.Proofs.YtfnginkcmcfdfaaGreatDoor.PL1
open Go.Proofs.YtfnginkcmcfdfaaGreatDoor.NU1


theorem pl34 : (Tryz.prog.underlying 34).bind (placesD Tryz.prog) = some [(0, 1), (1, 1)] := by kernel_rfl


theorem lowest_spec {w : World} {G : Pin} {t : Int} {p : Nat} (hP : Pins G w) (hb : -1000000000 ≤ t ∧ t ≤ 1000000000) (hp : p ≤ 64) :
  Calls Tryz.prog 122 [(.int .i64 t), (.int .i64 (p : Int))].toArray w fun e w' => ∃ G', e = .returned (.tuple #[(.agg [.int .i64 (lowR (decP (GoodD (lowD p t).1 (((lowD p t).2 : Nat) : Int))) (lowD p t).1), .int .i64 (lowR (decP (GoodD (lowD p t).1 (((lowD p t).2 : Nat) : Int))) (((lowD p t).2 : Nat) : Int))].toArray), .bool (decP (GoodD (lowD p t).1 (((lowD p t).2 : Nat) : Int)))]) ∧ Ext noS G w G' w' := by
 refine zZ (n := 26) Tryz.func122 Tryz.ntmps122 rfl rfl ?_
 have hX0 : Ext noS G w G w := Ext.refl hP
 refine zD (zG ?_)
 refine qI rfl (yY [(.int .i64 0), (.int .i64 0)] zr34 rfl hX0.pins (fun b1 w2 hk3 hb4 hp5 hl6 => ?_))
 have hX7 := hX0.step hp5 hl6
 have hlo8 : w.heap.size ≤ b1 := by have := hX0.size; omega
 refine qD rfl (zC (v := (.bool false)) rfl) ?_
 refine qe (zA (zD ?_))
 refine yD ?_
 refine yU (fun (k : Nat) (en : Nat → Value) (W : World) => ∃ (env1 : Nat → Value) (a : Int) (zp : Int) (GL1 : Pin), en = (upd (upd (upd (upd env1 0 (.int .i64 a)) 1 (.int .i64 zp)) 4 (.pointer (some ⟨b1, 0, none⟩))) 5 (.bool false)) ∧ k = zp.toNat ∧ Ext noS G w GL1 W ∧ Pin.le G GL1 ∧ (lowD p t = lowD zp.toNat a) ∧ (0 ≤ zp ∧ zp ≤ 64) ∧ (-1000000000 ≤ a ∧ a ≤ 1000000000) ∧ (Bx GL1 W b1 [(.int .i64 0), (.int .i64 0)])) _ ⟨_, t, (p : Int), G, (zF (x := 5) (zF (x := 4) (zF (x := 1) (zW (x := 0) rfl) rfl) rfl) rfl), rfl, hX7, Pin.le_refl _, (by rw [Int.toNat_natCast]), (by omega), hb, hb4⟩ ?_
 rintro k9 _ w10 ⟨env1, a, zp, GL1, rfl, hk11, hX12, hlek9, hr, hz, hab, hw13⟩
 refine zD (zD (zG ?_))
 refine qD rfl (zB (v := (.int .i64 zp)) rfl) ?_
 refine qD rfl (r_gtr rfl rfl) ?_
 refine qD rfl (zB (v := (.bool (decide ((0 : Int) < zp)))) rfl) ?_
 refine qbd (p := (0 : Int) < zp) (t := 9) rfl (fun h14 => ?_) (fun h14 => ?_)
 ·skip
  refine qdg rfl rfl rfl rfl rfl rfl (zB (v := (.int .i64 a)) rfl) ?_
  refine qdg rfl rfl rfl rfl rfl rfl (r_rem2 rfl rfl) ?_
  refine qdg rfl rfl rfl rfl rfl rfl (r_eql rfl rfl) ?_
  refine qD rfl (xD (v := (.bool (decide ((a.tmod 2 : Int) = 0)))) rfl rfl) ?_
  refine qe (zA ?_)
  refine yB (p := (a.tmod 2 : Int) = 0) rfl rfl (fun h15 => ?_) (fun h15 => ?_)
  ·skip
   refine wp_skip ?_
   refine zA ?_
   refine yD ?_
   refine zD (zG ?_)
   refine qD rfl (zB (v := (.int .i64 a)) rfl) ?_
   refine qD rfl (r_quo2 rfl rfl ((tmod2 _).1 h15) (by omega)) ?_
   refine qD rfl (zC (v := (.int .i64 (a / 2))) rfl) ?_
   refine qe (zA (zG ?_))
   refine qD rfl (zB (v := (.int .i64 zp)) rfl) ?_
   refine qD rfl (r_sub rfl rfl (by omega)) ?_
   refine qD rfl (zC (v := (.int .i64 (zp - 1))) rfl) ?_
   refine qe ?_
   refine yJ ?_
   refine yM ?_
   refine ⟨_, ?_, _, rfl, _, a / 2, zp - 1, GL1, (zF (x := 5) (zF (x := 4) (zF (x := 1) (zW (x := 0) rfl) rfl) rfl) rfl), rfl, hX12, hlek9, (hr.trans (low_even (by omega) h15)), (by omega), (by omega), hw13⟩
   omega
  refine wp_exit ?_
  refine yC ?_
  refine yN ?_
  refine yK ?_
  refine zA (zD (zG ?_))
  refine qD rfl (zB (v := (.int .i64 a)) rfl) ?_
  refine qD rfl (zB (v := (.int .i64 zp)) rfl) ?_
  refine qD rfl (xE [(.int .i64 0), (.int .i64 0)] [(.int .i64 a), (.int .i64 zp)] [(0, (.int .i64 a), [(.int .i64 a)]), (1, (.int .i64 zp), [(.int .i64 zp)])] Tryz.underlying34 zr34 rfl pl34 rfl (List.forall_mem_cons.2 ⟨rfl, (List.forall_mem_cons.2 ⟨rfl, (fun _ h => by cases h)⟩)⟩) rfl) ?_
  refine qI rfl (yY [(.int .i64 0), (.int .i64 0)] zr34 rfl hX12.pins (fun b16 w17 hk18 hb19 hp20 hl21 => ?_))
  have hX22 := hX12.step hp20 hl21
  have hb23 := hw13.below hl21
  have ha24 : Apart (some b16) (some b1) := zK (congrArg some hk18) hw13.lt
  have hlo25 : w.heap.size ≤ b16 := by have := hX12.size; omega
  refine q0 rfl rfl rfl (xA (cs' := [(.int .i64 a), (.int .i64 zp)]) (us := [(.int .i64 a), (.int .i64 zp)]) (v := (.agg [(.int .i64 a), (.int .i64 zp)].toArray)) sz34 rfl rfl rfl (qB (by rfl) (by rfl)) hX22.pins hb19 (Nat.le_of_ble_eq_true rfl) rfl (fun w26 hb27 hp28 hg29 hz30 => ?_))
  have hX31 := hX22.write hp28 hg29 ((yL hlo25))
  have hb32 := hb23.keptA hg29 ha24.symm
  obtain ⟨G33, hle34, hX35, hbp36, hf37⟩ := hb27.shut hX31 hlo25
  have hb38 := hb32.moreA hf37 ha24.symm
  refine qe (zA (zD (zD (zG ?_))))
  refine qD rfl (yP (cs := [(.int .i64 a), (.int .i64 zp)]) ag34 sz34 rfl (fun j u hj => hX35.pins _ _ _ (hbp36 _ _ (by simpa using hj)))) ?_
  refine qI rfl (zM (vs := [(.agg [(.int .i64 a), (.int .i64 zp)].toArray)]) Tryz.func101 nm101 rfl rfl rfl ?_)
  refine Calls.mono (goodDyadic_spec (t := a) (z := zp) hX35.pins) ?_
  rintro _ w40 ⟨G39, rfl, hx41⟩
  refine ⟨_, rfl, ?_⟩
  have hX42 := hX35.tr hx41
  have hb43 := hb38.ext hx41
  refine qD rfl (r_not rfl) ?_
  refine qe (zA ?_)
  refine c_ifn rfl rfl (fun h44 => ?_) (fun h44 => ?_)
  ·skip
   refine wp_skip ?_
   refine zA (zD (zG ?_))
   refine qD rfl (yP (cs := [(.int .i64 a), (.int .i64 zp)]) ag34 sz34 rfl (fun j u hj => (Pins.of_le hX42.pins hx41.le) _ _ _ (hbp36 _ _ (by simpa using hj)))) ?_
   refine q0 rfl rfl rfl (xA (cs' := [(.int .i64 a), (.int .i64 zp)]) (us := [(.int .i64 a), (.int .i64 zp)]) (v := (.agg [(.int .i64 a), (.int .i64 zp)].toArray)) sz34 rfl rfl rfl (qB (by rfl) (by rfl)) hX42.pins hb43 (Nat.le_of_ble_eq_true rfl) rfl (fun w45 hb46 hp47 hg48 hz49 => ?_))
   have hX50 := hX42.write hp47 hg48 ((yL hlo8))
   refine qD rfl (zC (v := (.bool true)) rfl) ?_
   refine qe (zA ?_)
   refine wp_ret ?_
   refine zT ?_
   refine xW (cs := [(.int .i64 a), (.int .i64 zp)]) (v := (.bool true)) rfl rfl rfl rfl rfl ag34 sz34 (fun j u hj => by rw [Nat.zero_add]; exact hb46.cell hj) ?_
   have hst := hr.trans (low_stop hz.1 (by first | exact Or.inl h15 | exact Or.inr h15))
   have hz3 : ((zp.toNat : Nat) : Int) = zp := Int.toNat_of_nonneg hz.1
   rw [hst]
   simp only [hz3]
   exact ⟨_, by rw [h44]; rfl, hX50⟩
  refine zD (zG ?_)
  refine qD rfl (xE [(.int .i64 0), (.int .i64 0)] [(.int .i64 0), (.int .i64 0)] [] Tryz.underlying34 zr34 rfl pl34 rfl (fun _ h => by cases h) rfl) ?_
  refine q0 rfl rfl rfl (xA (cs' := [(.int .i64 0), (.int .i64 0)]) (us := [(.int .i64 0), (.int .i64 0)]) (v := (.agg [(.int .i64 0), (.int .i64 0)].toArray)) sz34 rfl rfl rfl (qB (by rfl) (by rfl)) hX42.pins hb43 (Nat.le_of_ble_eq_true rfl) rfl (fun w51 hb52 hp53 hg54 hz55 => ?_))
  have hX56 := hX42.write hp53 hg54 ((yL hlo8))
  refine qD rfl (zC (v := (.bool false)) rfl) ?_
  refine qe (zA ?_)
  refine wp_ret ?_
  refine zT ?_
  refine xW (cs := [(.int .i64 0), (.int .i64 0)]) (v := (.bool false)) rfl rfl rfl rfl rfl ag34 sz34 (fun j u hj => by rw [Nat.zero_add]; exact hb52.cell hj) ?_
  have hst := hr.trans (low_stop hz.1 (by first | exact Or.inl h15 | exact Or.inr h15))
  have hz3 : ((zp.toNat : Nat) : Int) = zp := Int.toNat_of_nonneg hz.1
  rw [hst]
  simp only [hz3]
  exact ⟨_, by rw [h44]; rfl, hX56⟩
 refine qs rfl rfl rfl rfl rfl rfl ?_
 refine qs rfl rfl rfl rfl rfl rfl ?_
 refine qs rfl rfl rfl rfl rfl rfl ?_
 refine qD rfl (yO (v := (.bool false)) rfl rfl) ?_
 refine qe (zA ?_)
 refine qE rfl rfl ?_
 refine wp_exit ?_
 refine yC ?_
 refine yN ?_
 refine yK ?_
 refine zA (zD (zG ?_))
 refine qD rfl (zB (v := (.int .i64 a)) rfl) ?_
 refine qD rfl (zB (v := (.int .i64 zp)) rfl) ?_
 refine qD rfl (xE [(.int .i64 0), (.int .i64 0)] [(.int .i64 a), (.int .i64 zp)] [(0, (.int .i64 a), [(.int .i64 a)]), (1, (.int .i64 zp), [(.int .i64 zp)])] Tryz.underlying34 zr34 rfl pl34 rfl (List.forall_mem_cons.2 ⟨rfl, (List.forall_mem_cons.2 ⟨rfl, (fun _ h => by cases h)⟩)⟩) rfl) ?_
 refine qI rfl (yY [(.int .i64 0), (.int .i64 0)] zr34 rfl hX12.pins (fun b57 w58 hk59 hb60 hp61 hl62 => ?_))
 have hX63 := hX12.step hp61 hl62
 have hb64 := hw13.below hl62
 have ha65 : Apart (some b57) (some b1) := zK (congrArg some hk59) hw13.lt
 have hlo66 : w.heap.size ≤ b57 := by have := hX12.size; omega
 refine q0 rfl rfl rfl (xA (cs' := [(.int .i64 a), (.int .i64 zp)]) (us := [(.int .i64 a), (.int .i64 zp)]) (v := (.agg [(.int .i64 a), (.int .i64 zp)].toArray)) sz34 rfl rfl rfl (qB (by rfl) (by rfl)) hX63.pins hb60 (Nat.le_of_ble_eq_true rfl) rfl (fun w67 hb68 hp69 hg70 hz71 => ?_))
 have hX72 := hX63.write hp69 hg70 ((yL hlo66))
 have hb73 := hb64.keptA hg70 ha65.symm
 obtain ⟨G74, hle75, hX76, hbp77, hf78⟩ := hb68.shut hX72 hlo66
 have hb79 := hb73.moreA hf78 ha65.symm
 refine qe (zA (zD (zD (zG ?_))))
 refine qD rfl (yP (cs := [(.int .i64 a), (.int .i64 zp)]) ag34 sz34 rfl (fun j u hj => hX76.pins _ _ _ (hbp77 _ _ (by simpa using hj)))) ?_
 refine qI rfl (zM (vs := [(.agg [(.int .i64 a), (.int .i64 zp)].toArray)]) Tryz.func101 nm101 rfl rfl rfl ?_)
 refine Calls.mono (goodDyadic_spec (t := a) (z := zp) hX76.pins) ?_
 rintro _ w81 ⟨G80, rfl, hx82⟩
 refine ⟨_, rfl, ?_⟩
 have hX83 := hX76.tr hx82
 have hb84 := hb79.ext hx82
 refine qD rfl (r_not rfl) ?_
 refine qe (zA ?_)
 refine c_ifn rfl rfl (fun h85 => ?_) (fun h85 => ?_)
 ·skip
  refine wp_skip ?_
  refine zA (zD (zG ?_))
  refine qD rfl (yP (cs := [(.int .i64 a), (.int .i64 zp)]) ag34 sz34 rfl (fun j u hj => (Pins.of_le hX83.pins hx82.le) _ _ _ (hbp77 _ _ (by simpa using hj)))) ?_
  refine q0 rfl rfl rfl (xA (cs' := [(.int .i64 a), (.int .i64 zp)]) (us := [(.int .i64 a), (.int .i64 zp)]) (v := (.agg [(.int .i64 a), (.int .i64 zp)].toArray)) sz34 rfl rfl rfl (qB (by rfl) (by rfl)) hX83.pins hb84 (Nat.le_of_ble_eq_true rfl) rfl (fun w86 hb87 hp88 hg89 hz90 => ?_))
  have hX91 := hX83.write hp88 hg89 ((yL hlo8))
  refine qD rfl (zC (v := (.bool true)) rfl) ?_
  refine qe (zA ?_)
  refine wp_ret ?_
  refine zT ?_
  refine xW (cs := [(.int .i64 a), (.int .i64 zp)]) (v := (.bool true)) rfl rfl rfl rfl rfl ag34 sz34 (fun j u hj => by rw [Nat.zero_add]; exact hb87.cell hj) ?_
  have hst := hr.trans (low_stop hz.1 (by first | exact Or.inl h14 | exact Or.inr h14))
  have hz3 : ((zp.toNat : Nat) : Int) = zp := Int.toNat_of_nonneg hz.1
  rw [hst]
  simp only [hz3]
  exact ⟨_, by rw [h85]; rfl, hX91⟩
 refine zD (zG ?_)
 refine qD rfl (xE [(.int .i64 0), (.int .i64 0)] [(.int .i64 0), (.int .i64 0)] [] Tryz.underlying34 zr34 rfl pl34 rfl (fun _ h => by cases h) rfl) ?_
 refine q0 rfl rfl rfl (xA (cs' := [(.int .i64 0), (.int .i64 0)]) (us := [(.int .i64 0), (.int .i64 0)]) (v := (.agg [(.int .i64 0), (.int .i64 0)].toArray)) sz34 rfl rfl rfl (qB (by rfl) (by rfl)) hX83.pins hb84 (Nat.le_of_ble_eq_true rfl) rfl (fun w92 hb93 hp94 hg95 hz96 => ?_))
 have hX97 := hX83.write hp94 hg95 ((yL hlo8))
 refine qD rfl (zC (v := (.bool false)) rfl) ?_
 refine qe (zA ?_)
 refine wp_ret ?_
 refine zT ?_
 refine xW (cs := [(.int .i64 0), (.int .i64 0)]) (v := (.bool false)) rfl rfl rfl rfl rfl ag34 sz34 (fun j u hj => by rw [Nat.zero_add]; exact hb93.cell hj) ?_
 have hst := hr.trans (low_stop hz.1 (by first | exact Or.inl h14 | exact Or.inr h14))
 have hz3 : ((zp.toNat : Nat) : Int) = zp := Int.toNat_of_nonneg hz.1
 rw [hst]
 simp only [hz3]
 exact ⟨_, by rw [h85]; rfl, hX97⟩

end NU2
end Go.Proofs.YtfnginkcmcfdfaaGreatDoor

set_option maxRecDepth 20000
set_option maxHeartbeats 2000000
namespace Go.Proofs.YtfnginkcmcfdfaaGreatDoor
namespace NB1
open Go.RowKit Go.GL Go.Proofs
open Go.Proofs.YtfnginkcmcfdfaaGreatDoor.B1
open Go.Proofs.YtfnginkcmcfdfaaGreatDoor.K1
open Go.Proofs.YtfnginkcmcfdfaaGreatDoor.PO1
open Go.Proofs.YtfnginkcmcfdfaaGreatDoor.PL1
open Go.Proofs.YtfnginkcmcfdfaaGreatDoor.NU1
open Go.Proofs.YtfnginkcmcfdfaaGreatDoor.NU2










theorem lowest_ok {w : World} {G : Pin} {t : Int} {p : Nat} (hP : Pins G w) (hb : -1000000000 ≤ t ∧ t ≤ 1000000000) (hp : p ≤ 64) (hg : GoodD (lowD p t).1 (((lowD p t).2 : Nat) : Int)) :
  Calls Tryz.prog 122 [(.int .i64 t), (.int .i64 (p : Int))].toArray w fun e w' => ∃ G', e = .returned (.tuple #[(.agg [.int .i64 (lowD p t).1, .int .i64 (((lowD p t).2 : Nat) : Int)].toArray), .bool true]) ∧ Ext noS G w G' w' := by
 refine (lowest_spec hP hb hp).mono ?_
 rintro e w' ⟨G', rfl, hx⟩
 exact ⟨G', by rw [decP_true.2 hg]; rfl, hx⟩

def NumP (m p : Nat) (mm : PM) : Prop := ∀ {w : World} {G : Pin} {L R B : Value} {q : PSt} {t : Int} {dp : Nat} (_ : Pins G w) (_ : Pk 65 3 G w p L R B mm q) (_ : PoolOk q) (_ : NumOk dp t) (_ : q.ns.length + numT dp ≤ 1048575), dp < m →
  Calls Tryz.prog 102 [(.pointer (some ⟨p, 0, none⟩)), (.agg [.int .i64 t, .int .i64 (dp : Int)].toArray)].toArray w fun e w' => ∃ (z : Int) (L' R' B' : Value) (q' : PSt) (G' : Pin), e = .returned (.int .i64 z) ∧ Pk 65 3 G' w' p L' R' B' mm q' ∧ PoolOk q' ∧ PX q q' ∧ PLo w p L R B mm L' R' B' ∧ Ext (inP p L R B mm) G w G' w' ∧ PlaceOk q' z ∧ pd q' z = dyG dp t ∧ q'.ns.length ≤ q.ns.length + numT dp

theorem number_step {w : World} {G : Pin} {L R B : Value} {q : PSt} {t : Int} {dp p : Nat} {mm : PM} {m : Nat} (hP : Pins G w) (hpk : Pk 65 3 G w p L R B mm q) (hok : PoolOk q) (hn : NumOk dp t) (hl : q.ns.length + numT dp ≤ 1048575) (ih : NumP m p mm) (hm : dp < m + 1) :
  Calls Tryz.prog 102 [(.pointer (some ⟨p, 0, none⟩)), (.agg [(.int .i64 t), (.int .i64 (dp : Int))].toArray)].toArray w fun e w' => ∃ (z : Int) (L' R' B' : Value) (q' : PSt) (G' : Pin), e = .returned (.int .i64 z) ∧ Pk 65 3 G' w' p L' R' B' mm q' ∧ PoolOk q' ∧ PX q q' ∧ PLo w p L R B mm L' R' B' ∧ Ext (inP p L R B mm) G w G' w' ∧ PlaceOk q' z ∧ pd q' z = dyG dp t ∧ q'.ns.length ≤ q.ns.length + numT dp := by
 refine zZ (n := 88) Tryz.func102 Tryz.ntmps102 rfl rfl ?_
 have hX0 : Ext (inP p L R B mm) G w G w := Ext.refl hP
 have hpin : PIn w (inP p L R B mm) p L R B mm := PIn.self
 have hml1 : (q.ns.map Nd.l).length = q.ns.length ∧ (q.ns.map Nd.r).length = q.ns.length := ⟨List.length_map .., List.length_map ..⟩
 have hml2 : q.bs.length = q.ns.length ∧ q.ns.length ≤ 1048576 := ⟨hok.ar.ok.len, hok.ar.ok.lim⟩
 have hnt0 := qC dp
 have htp0 := hn.top
 refine zD (zG ?_)
 refine qI rfl (xT [(.int .i64 t), (.int .i64 (dp : Int))] (v := (.agg [(.int .i64 t), (.int .i64 (dp : Int))].toArray)) rfl rfl hX0.pins (fun b3 w4 hk5 hb6 hp7 hl8 => ?_))
 have hX9 := hX0.step hp7 hl8
 have hpk10 := hpk.below hl8 hp7
 have ha15 := hpk.new (x := (some b3)) (fun k hk => by rw [(congrArg some hk5)] at hk; cases hk; exact Nat.le_refl _)
 have hlo16 : w.heap.size ≤ b3 := by have := hX0.size; omega
 obtain ⟨G17, hle18, hX19, hbp20, hf21⟩ := hb6.shut hX9 hlo16
 have hpk22 := hpk10.more hle18 hf21 ha15
 refine qD rfl (zC (v := (.int .i64 0)) rfl) ?_
 refine qe (zA (zD ?_))
 refine yD ?_
 refine zD (zG ?_)
 refine qD rfl (zN (k := 1) rfl Tryz.underlying34 rfl nz3 rfl) ?_
 refine qD rfl (zO (u := (.int .i64 (dp : Int))) ag3 rfl (hX19.pins _ _ _ (hbp20 1 _ rfl))) ?_
 refine qD rfl (r_eql rfl rfl) ?_
 refine qD rfl (zB (v := (.bool (decide (((dp : Int) : Int) = 0)))) rfl) ?_
 refine qbd (p := ((dp : Int) : Int) = 0) (t := 15) rfl (fun h23 => ?_) (fun h23 => ?_)
 ·skip
  refine qdg rfl rfl rfl rfl rfl rfl (zN (k := 0) rfl Tryz.underlying34 rfl nz3 rfl) ?_
  refine qdg rfl rfl rfl rfl rfl rfl (zO (u := (.int .i64 t)) ag3 rfl (hX19.pins _ _ _ (hbp20 0 _ rfl))) ?_
  refine qdg rfl rfl rfl rfl rfl rfl (r_eql rfl rfl) ?_
  refine qD rfl (xD (v := (.bool (decide ((t : Int) = 0)))) rfl rfl) ?_
  refine qD rfl (zC (v := (.bool (decide ((t : Int) = 0)))) rfl) ?_
  refine qe (zA ?_)
  refine yB (p := (t : Int) = 0) rfl rfl (fun h24 => ?_) (fun h24 => ?_)
  ·skip
   refine zD (zG ?_)
   refine qD rfl (zB (v := (.pointer (some ⟨p, 0, none⟩))) rfl) ?_
   refine qI rfl (zM (vs := [(.pointer (some ⟨p, 0, none⟩)), (.slice none 0 0), (.slice none 0 0)]) Tryz.func79 nm79 rfl rfl rfl ?_)
   refine Calls.mono (qK hX19.pins hpk22 hok (xL _ _) (xL _ _) (by omega) ⟨by simp, by simp⟩ nil_at nil_at) ?_
   rintro _ w35 ⟨z25, L30, R31, B32, q33, G34, rfl, hpk36, hok37, hpx38, hlo39, hx40, hpl26, hpd27, hqn28, hcm29⟩
   refine ⟨_, rfl, ?_⟩
   have hX41 := hX19.trans hx40 hpin
   have hpin42 := PIn.call hpin hlo39 hX19.size
   have hql43 := hpx38.len
   have hml44 : (q33.ns.map Nd.l).length = q33.ns.length ∧ (q33.ns.map Nd.r).length = q33.ns.length := ⟨List.length_map .., List.length_map ..⟩
   have hml45 : q33.bs.length = q33.ns.length ∧ q33.ns.length ≤ 1048576 := ⟨hok37.ar.ok.len, hok37.ar.ok.lim⟩
   have hng46 := hpd27.trans (show _ = mkG [] [] from rfl)
   have hqn47 := hqn28
   refine qD rfl (zC (v := (.int .i64 z25)) rfl) ?_
   refine qe (zA ?_)
   refine wp_ret ?_
   refine zT ?_
   refine zQ (v := (.int .i64 z25)) rfl rfl rfl ?_
   have hzz := hng46
   have hntm := qC dp
   exact ⟨_, L30, R31, B32, q33, G34, rfl, hpk36, hok37, hpx38, PIn.lo hpin42 rfl, hX41, hpl26, (hzz.trans (by rw [show dp = 0 by omega, show t = 0 by omega]; rfl)), (by omega)⟩
  refine zD (zG ?_)
  refine qD rfl (zN (k := 1) rfl Tryz.underlying34 rfl nz3 rfl) ?_
  refine qD rfl (zO (u := (.int .i64 (dp : Int))) ag3 rfl (hX19.pins _ _ _ (hbp20 1 _ rfl))) ?_
  refine qD rfl (r_eql rfl rfl) ?_
  refine qD rfl (zB (v := (.bool (decide (((dp : Int) : Int) = 0)))) rfl) ?_
  refine qbd (p := ((dp : Int) : Int) = 0) (t := 26) rfl (fun _ => ?_) (fun h => absurd h23 h)
  refine qdg rfl rfl rfl rfl rfl rfl (zN (k := 0) rfl Tryz.underlying34 rfl nz3 rfl) ?_
  refine qdg rfl rfl rfl rfl rfl rfl (zO (u := (.int .i64 t)) ag3 rfl (hX19.pins _ _ _ (hbp20 0 _ rfl))) ?_
  refine qdg rfl rfl rfl rfl rfl rfl (r_gtr rfl rfl) ?_
  refine qD rfl (xD (v := (.bool (decide ((0 : Int) < t)))) rfl rfl) ?_
  refine qD rfl (zC (v := (.bool (decide ((0 : Int) < t)))) rfl) ?_
  refine qe (zA ?_)
  refine yB (p := (0 : Int) < t) rfl rfl (fun h49 => ?_) (fun h49 => ?_)
  ·skip
   refine zD (zG ?_)
   refine qD rfl (zB (v := (.pointer (some ⟨p, 0, none⟩))) rfl) ?_
   refine qI rfl (zM (vs := [(.pointer (some ⟨p, 0, none⟩)), (.slice none 0 0), (.slice none 0 0)]) Tryz.func79 nm79 rfl rfl rfl ?_)
   refine Calls.mono (qK hX19.pins hpk22 hok (xL _ _) (xL _ _) (by omega) ⟨by simp, by simp⟩ nil_at nil_at) ?_
   rintro _ w60 ⟨z50, L55, R56, B57, q58, G59, rfl, hpk61, hok62, hpx63, hlo64, hx65, hpl51, hpd52, hqn53, hcm54⟩
   refine ⟨_, rfl, ?_⟩
   have hX66 := hX19.trans hx65 hpin
   have hpin67 := PIn.call hpin hlo64 hX19.size
   have hql68 := hpx63.len
   have hml69 : (q58.ns.map Nd.l).length = q58.ns.length ∧ (q58.ns.map Nd.r).length = q58.ns.length := ⟨List.length_map .., List.length_map ..⟩
   have hml70 : q58.bs.length = q58.ns.length ∧ q58.ns.length ≤ 1048576 := ⟨hok62.ar.ok.len, hok62.ar.ok.lim⟩
   have hng71 := hpd52.trans (show _ = mkG [] [] from rfl)
   have hqn72 := hqn53
   refine qD rfl (zC (v := (.int .i64 z50)) rfl) ?_
   refine qe (zA (zD (zD (zG ?_))))
   refine qD rfl (zN (k := 0) rfl Tryz.underlying34 rfl nz3 rfl) ?_
   refine qD rfl (zO (u := (.int .i64 t)) ag3 rfl ((Pins.of_le hX66.pins hx65.le) _ _ _ (hbp20 0 _ rfl))) ?_
   refine qD rfl (zB (v := (.int .i64 0)) rfl) ?_
   refine qe (zA ?_)
   refine yD ?_
   have hz077 := hng71
   have hz077p := hpl51
   have hdp0 : dp = 0 := by omega
   have hq0l : q58.ns.length ≤ q.ns.length + 1 := by omega
   have hlim0 := hn.lim
   rw [hdp0] at hlim0
   have hnt0 := qC dp
   refine yU (fun (k : Nat) (en : Nat → Value) (W : World) => ∃ (env1 : Nat → Value) (ka : Nat) (za : Int) (L73 : Value) (R74 : Value) (B75 : Value) (q76 : PSt) (GL1 : Pin), en = (upd (upd (upd (upd (upd (upd env1 0 (.pointer (some ⟨p, 0, none⟩))) 3 (.pointer (some ⟨b3, 0, none⟩))) 4 (.int .i64 0)) 5 (.int .i64 za)) 34 (.int .i64 t)) 35 (.int .i64 (ka : Int))) ∧ k = t.toNat - ka ∧ Ext (inP p L R B mm) G w GL1 W ∧ Pin.le G59 GL1 ∧ (ka ≤ t.toNat) ∧ (PlaceOk q76 za) ∧ (pd q76 za = intG (ka : Int)) ∧ (q76.ns.length ≤ q.ns.length + 1 + ka) ∧ (Pk 65 3 GL1 W p L73 R74 B75 mm q76) ∧ (PIn w ((inP p L R B mm)) p L73 R74 B75 mm) ∧ (PoolOk q76) ∧ (PX q58 q76)) _ ⟨_, 0, z50, L55, R56, B57, q58, G59, (zF (x := 35) (zF (x := 34) (zF (x := 5) (zF (x := 4) (zF (x := 3) (zW (x := 0) rfl) rfl) rfl) rfl) rfl) rfl), rfl, hX66, Pin.le_refl _, Nat.zero_le _, hz077p, (hz077.trans rfl), (by omega), hpk61, hpin67, hok62, (PX.refl _)⟩ ?_
   rintro k78 _ w79 ⟨env1, ka, za, L73, R74, B75, q76, GL1, rfl, hk80, hX81, hlek78, hkv, hzpl, hzpd, hnq, hpk82, hpin83, hok84, hpx85⟩
   have hql86 := hpx85.len
   have hml87 : (q76.ns.map Nd.l).length = q76.ns.length ∧ (q76.ns.map Nd.r).length = q76.ns.length := ⟨List.length_map .., List.length_map ..⟩
   have hml88 : q76.bs.length = q76.ns.length ∧ q76.ns.length ≤ 1048576 := ⟨hok84.ar.ok.len, hok84.ar.ok.lim⟩
   refine zD (zG ?_)
   refine qD rfl (yV rfl rfl) ?_
   refine qe (zA (zD ?_))
   refine yB (p := ((ka : Int) : Int) < t) rfl rfl (fun h89 => ?_) (fun h89 => ?_)
   ·skip
    refine wp_skip ?_
    refine zA (zD ?_)
    refine yD ?_
    refine zG ?_
    refine qD rfl (zB (v := (.pointer (some ⟨p, 0, none⟩))) rfl) ?_
    refine qD rfl (zB (v := (.int .i64 za)) rfl) ?_
    refine qI rfl (yH (E := eInt) (e := 3) [(.int .i64 za)] [za] Tryz.underlying65 sz3 zr3 (by exact xO (by rfl)) (yR (by rfl)) rfl rfl rfl rfl (by decide) hX81.pins (fun u90 w91 ho92 hp93 hl94 hk95 => ?_))
    have hX96 := hX81.step hp93 hl94
    have hpk97 := hpk82.below hl94 hp93
    have ha102 := hpk82.new (x := u90.ownBlock) (fun k hk => by rw [hk95] at hk; cases hk; exact Nat.le_refl _)
    have ho103 : Own eInt 3 GL1 w91 w.heap.size u90 ([za]) := ho92.weaken hX81.size
    obtain ⟨G104, hle107, hX106, hr105, hf108⟩ := ho103.sealed hX96
    have hpk109 := hpk97.moreO hle107 hf108 ha102
    have hkg110 := hzpd
    refine qI rfl (zM (vs := [(.pointer (some ⟨p, 0, none⟩)), u90, (.slice none 0 0)]) Tryz.func79 nm79 rfl rfl rfl ?_)
    refine Calls.mono (qK hX106.pins hpk109 hok84 hr105 (xL _ _) (by omega) ⟨by simp, by simp⟩ (one_at hzpl) nil_at) ?_
    rintro _ w121 ⟨z111, L116, R117, B118, q119, G120, rfl, hpk122, hok123, hpx124, hlo125, hx126, hpl112, hpd113, hqn114, hcm115⟩
    refine ⟨_, rfl, ?_⟩
    have hX127 := hX106.trans hx126 hpin83
    have hpin128 := PIn.call hpin83 hlo125 hX106.size
    have hql129 := hpx124.len
    have hml130 : (q119.ns.map Nd.l).length = q119.ns.length ∧ (q119.ns.map Nd.r).length = q119.ns.length := ⟨List.length_map .., List.length_map ..⟩
    have hml131 : q119.bs.length = q119.ns.length ∧ q119.ns.length ≤ 1048576 := ⟨hok123.ar.ok.len, hok123.ar.ok.lim⟩
    have hng132 := hpd113.trans (show _ = mkG [pd q76 za] [] from rfl)
    rw [hkg110] at hng132
    have hqn133 := hqn114
    refine qD rfl (zC (v := (.int .i64 z111)) rfl) ?_
    refine qe ?_
    refine yJ ?_
    refine zA (zG ?_)
    refine qD rfl (yQ rfl rfl (by omega)) ?_
    refine qD rfl (zB (v := (.int .i64 ((ka : Int) + 1))) rfl) ?_
    refine qe ?_
    refine yM ?_
    refine ⟨_, ?_, _, rfl, _, ka + 1, z111, L116, R117, B118, q119, G120, (zF (x := 35) (zF (x := 34) (zF (x := 5) (zF (x := 4) (zF (x := 3) (zW (x := 0) rfl) rfl) rfl) rfl) rfl) rfl), rfl, hX127, (Pin.le_trans (Pin.le_trans hlek78 hle107) hx126.le), (by omega), hpl112, (hng132.trans (int_next ka).symm), (by omega), hpk122, hpin128, hok123, (PX.trans hpx85 hpx124)⟩
    omega
   refine wp_exit ?_
   refine yC ?_
   refine yN ?_
   refine yK ?_
   refine zA (zD (zG ?_))
   refine qD rfl (zB (v := (.int .i64 za)) rfl) ?_
   refine qD rfl (zC (v := (.int .i64 za)) rfl) ?_
   refine qe (zA ?_)
   refine wp_ret ?_
   refine zT ?_
   refine zQ (v := (.int .i64 za)) rfl rfl rfl ?_
   have hzz := hzpd
   have hntm := qC dp
   exact ⟨_, L73, R74, B75, q76, GL1, rfl, hpk82, hok84, (PX.trans hpx63 hpx85), PIn.lo hpin83 rfl, hX81, hzpl, (hzz.trans (by rw [hdp0, show (ka : Int) = t by omega]; rfl)), (by omega)⟩
  refine zD (zG ?_)
  refine qD rfl (zN (k := 1) rfl Tryz.underlying34 rfl nz3 rfl) ?_
  refine qD rfl (zO (u := (.int .i64 (dp : Int))) ag3 rfl (hX19.pins _ _ _ (hbp20 1 _ rfl))) ?_
  refine qD rfl (r_eql rfl rfl) ?_
  refine qD rfl (zC (v := (.bool (decide (((dp : Int) : Int) = 0)))) rfl) ?_
  refine qe (zA ?_)
  refine yB (p := ((dp : Int) : Int) = 0) rfl rfl (fun _ => ?_) (fun h => absurd h23 h)
  refine zD (zG ?_)
  refine qD rfl (zB (v := (.pointer (some ⟨p, 0, none⟩))) rfl) ?_
  refine qI rfl (zM (vs := [(.pointer (some ⟨p, 0, none⟩)), (.slice none 0 0), (.slice none 0 0)]) Tryz.func79 nm79 rfl rfl rfl ?_)
  refine Calls.mono (qK hX19.pins hpk22 hok (xL _ _) (xL _ _) (by omega) ⟨by simp, by simp⟩ nil_at nil_at) ?_
  rintro _ w145 ⟨z135, L140, R141, B142, q143, G144, rfl, hpk146, hok147, hpx148, hlo149, hx150, hpl136, hpd137, hqn138, hcm139⟩
  refine ⟨_, rfl, ?_⟩
  have hX151 := hX19.trans hx150 hpin
  have hpin152 := PIn.call hpin hlo149 hX19.size
  have hql153 := hpx148.len
  have hml154 : (q143.ns.map Nd.l).length = q143.ns.length ∧ (q143.ns.map Nd.r).length = q143.ns.length := ⟨List.length_map .., List.length_map ..⟩
  have hml155 : q143.bs.length = q143.ns.length ∧ q143.ns.length ≤ 1048576 := ⟨hok147.ar.ok.len, hok147.ar.ok.lim⟩
  have hng156 := hpd137.trans (show _ = mkG [] [] from rfl)
  have hqn157 := hqn138
  refine qD rfl (zC (v := (.int .i64 z135)) rfl) ?_
  refine qe (zA (zD (zD (zG ?_))))
  refine qD rfl (zN (k := 0) rfl Tryz.underlying34 rfl nz3 rfl) ?_
  refine qD rfl (zO (u := (.int .i64 t)) ag3 rfl ((Pins.of_le hX151.pins hx150.le) _ _ _ (hbp20 0 _ rfl))) ?_
  refine qD rfl (r_neg rfl (by omega)) ?_
  refine qD rfl (zB (v := (.int .i64 0)) rfl) ?_
  refine qe (zA ?_)
  refine yD ?_
  have hz0162 := hng156
  have hz0162p := hpl136
  have hdp0 : dp = 0 := by omega
  have hq0l : q143.ns.length ≤ q.ns.length + 1 := by omega
  have hlim0 := hn.lim
  rw [hdp0] at hlim0
  have hnt0 := qC dp
  refine yU (fun (k : Nat) (en : Nat → Value) (W : World) => ∃ (env1 : Nat → Value) (kb : Nat) (zb : Int) (L158 : Value) (R159 : Value) (B160 : Value) (q161 : PSt) (GL2 : Pin), en = (upd (upd (upd (upd (upd (upd env1 0 (.pointer (some ⟨p, 0, none⟩))) 3 (.pointer (some ⟨b3, 0, none⟩))) 4 (.int .i64 0)) 6 (.int .i64 zb)) 51 (.int .i64 (-t))) 52 (.int .i64 (kb : Int))) ∧ k = (-t).toNat - kb ∧ Ext (inP p L R B mm) G w GL2 W ∧ Pin.le G144 GL2 ∧ (kb ≤ (-t).toNat) ∧ (PlaceOk q161 zb) ∧ (pd q161 zb = intG (-(kb : Int))) ∧ (q161.ns.length ≤ q.ns.length + 1 + kb) ∧ (Pk 65 3 GL2 W p L158 R159 B160 mm q161) ∧ (PIn w ((inP p L R B mm)) p L158 R159 B160 mm) ∧ (PoolOk q161) ∧ (PX q143 q161)) _ ⟨_, 0, z135, L140, R141, B142, q143, G144, (zF (x := 52) (zF (x := 51) (zF (x := 6) (zF (x := 4) (zF (x := 3) (zW (x := 0) rfl) rfl) rfl) rfl) rfl) rfl), rfl, hX151, Pin.le_refl _, Nat.zero_le _, hz0162p, (hz0162.trans rfl), (by omega), hpk146, hpin152, hok147, (PX.refl _)⟩ ?_
  rintro k163 _ w164 ⟨env1, kb, zb, L158, R159, B160, q161, GL2, rfl, hk165, hX166, hlek163, hkv, hzpl, hzpd, hnq, hpk167, hpin168, hok169, hpx170⟩
  have hql171 := hpx170.len
  have hml172 : (q161.ns.map Nd.l).length = q161.ns.length ∧ (q161.ns.map Nd.r).length = q161.ns.length := ⟨List.length_map .., List.length_map ..⟩
  have hml173 : q161.bs.length = q161.ns.length ∧ q161.ns.length ≤ 1048576 := ⟨hok169.ar.ok.len, hok169.ar.ok.lim⟩
  refine zD (zG ?_)
  refine qD rfl (yV rfl rfl) ?_
  refine qe (zA (zD ?_))
  refine yB (p := ((kb : Int) : Int) < (-t)) rfl rfl (fun h174 => ?_) (fun h174 => ?_)
  ·skip
   refine wp_skip ?_
   refine zA (zD ?_)
   refine yD ?_
   refine zG ?_
   refine qD rfl (zB (v := (.pointer (some ⟨p, 0, none⟩))) rfl) ?_
   refine qD rfl (zB (v := (.int .i64 zb)) rfl) ?_
   refine qI rfl (yH (E := eInt) (e := 3) [(.int .i64 zb)] [zb] Tryz.underlying65 sz3 zr3 (by exact xO (by rfl)) (yR (by rfl)) rfl rfl rfl rfl (by decide) hX166.pins (fun u175 w176 ho177 hp178 hl179 hk180 => ?_))
   have hX181 := hX166.step hp178 hl179
   have hpk182 := hpk167.below hl179 hp178
   have ha187 := hpk167.new (x := u175.ownBlock) (fun k hk => by rw [hk180] at hk; cases hk; exact Nat.le_refl _)
   have ho188 : Own eInt 3 GL2 w176 w.heap.size u175 ([zb]) := ho177.weaken hX166.size
   obtain ⟨G189, hle192, hX191, hr190, hf193⟩ := ho188.sealed hX181
   have hpk194 := hpk182.moreO hle192 hf193 ha187
   have hkg195 := hzpd
   refine qI rfl (zM (vs := [(.pointer (some ⟨p, 0, none⟩)), (.slice none 0 0), u175]) Tryz.func79 nm79 rfl rfl rfl ?_)
   refine Calls.mono (qK hX191.pins hpk194 hok169 (xL _ _) hr190 (by omega) ⟨by simp, by simp⟩ nil_at (one_at hzpl)) ?_
   rintro _ w206 ⟨z196, L201, R202, B203, q204, G205, rfl, hpk207, hok208, hpx209, hlo210, hx211, hpl197, hpd198, hqn199, hcm200⟩
   refine ⟨_, rfl, ?_⟩
   have hX212 := hX191.trans hx211 hpin168
   have hpin213 := PIn.call hpin168 hlo210 hX191.size
   have hql214 := hpx209.len
   have hml215 : (q204.ns.map Nd.l).length = q204.ns.length ∧ (q204.ns.map Nd.r).length = q204.ns.length := ⟨List.length_map .., List.length_map ..⟩
   have hml216 : q204.bs.length = q204.ns.length ∧ q204.ns.length ≤ 1048576 := ⟨hok208.ar.ok.len, hok208.ar.ok.lim⟩
   have hng217 := hpd198.trans (show _ = mkG [] [pd q161 zb] from rfl)
   rw [hkg195] at hng217
   have hqn218 := hqn199
   refine qD rfl (zC (v := (.int .i64 z196)) rfl) ?_
   refine qe ?_
   refine yJ ?_
   refine zA (zG ?_)
   refine qD rfl (yQ rfl rfl (by omega)) ?_
   refine qD rfl (zB (v := (.int .i64 ((kb : Int) + 1))) rfl) ?_
   refine qe ?_
   refine yM ?_
   refine ⟨_, ?_, _, rfl, _, kb + 1, z196, L201, R202, B203, q204, G205, (zF (x := 52) (zF (x := 51) (zF (x := 6) (zF (x := 4) (zF (x := 3) (zW (x := 0) rfl) rfl) rfl) rfl) rfl) rfl), rfl, hX212, (Pin.le_trans (Pin.le_trans hlek163 hle192) hx211.le), (by omega), hpl197, (hng217.trans (int_prev kb).symm), (by omega), hpk207, hpin213, hok208, (PX.trans hpx170 hpx209)⟩
   omega
  refine wp_exit ?_
  refine yC ?_
  refine yN ?_
  refine yK ?_
  refine zA (zD (zG ?_))
  refine qD rfl (zB (v := (.int .i64 zb)) rfl) ?_
  refine qD rfl (zC (v := (.int .i64 zb)) rfl) ?_
  refine qe (zA ?_)
  refine wp_ret ?_
  refine zT ?_
  refine zQ (v := (.int .i64 zb)) rfl rfl rfl ?_
  have hzz := hzpd
  have hntm := qC dp
  exact ⟨_, L158, R159, B160, q161, GL2, rfl, hpk167, hok169, (PX.trans hpx148 hpx170), PIn.lo hpin168 rfl, hX166, hzpl, (hzz.trans (by rw [hdp0, show (-(kb : Int)) = t by omega]; rfl)), (by omega)⟩
 refine qs rfl rfl rfl rfl rfl rfl ?_
 refine qs rfl rfl rfl rfl rfl rfl ?_
 refine qs rfl rfl rfl rfl rfl rfl ?_
 refine qD rfl (yO (v := (.bool false)) rfl rfl) ?_
 refine qD rfl (zC (v := (.bool false)) rfl) ?_
 refine qe (zA ?_)
 refine qE rfl rfl ?_
 refine zD (zG ?_)
 refine qD rfl (zN (k := 1) rfl Tryz.underlying34 rfl nz3 rfl) ?_
 refine qD rfl (zO (u := (.int .i64 (dp : Int))) ag3 rfl (hX19.pins _ _ _ (hbp20 1 _ rfl))) ?_
 refine qD rfl (r_eql rfl rfl) ?_
 refine qD rfl (zB (v := (.bool (decide (((dp : Int) : Int) = 0)))) rfl) ?_
 refine qbd (p := ((dp : Int) : Int) = 0) (t := 26) rfl (fun h => absurd h h23) (fun _ => ?_)
 refine qs rfl rfl rfl rfl rfl rfl ?_
 refine qs rfl rfl rfl rfl rfl rfl ?_
 refine qs rfl rfl rfl rfl rfl rfl ?_
 refine qD rfl (yO (v := (.bool false)) rfl rfl) ?_
 refine qD rfl (zC (v := (.bool false)) rfl) ?_
 refine qe (zA ?_)
 refine qE rfl rfl ?_
 refine zD (zG ?_)
 refine qD rfl (zN (k := 1) rfl Tryz.underlying34 rfl nz3 rfl) ?_
 refine qD rfl (zO (u := (.int .i64 (dp : Int))) ag3 rfl (hX19.pins _ _ _ (hbp20 1 _ rfl))) ?_
 refine qD rfl (r_eql rfl rfl) ?_
 refine qD rfl (zC (v := (.bool (decide (((dp : Int) : Int) = 0)))) rfl) ?_
 refine qe (zA ?_)
 refine yB (p := ((dp : Int) : Int) = 0) rfl rfl (fun h => absurd h h23) (fun _ => ?_)
 refine wp_skip ?_
 refine yJ ?_
 refine zA (zD (zG ?_))
 have hdp1 : 1 ≤ dp := by omega
 have hpw := hn.pow
 have htp := hn.top
 have hk1 := hn.kid hdp1 (s := t - 1) (Or.inl rfl)
 have hk2 := hn.kid hdp1 (s := t + 1) (Or.inr rfl)
 have hlg1 := hk1.1.good
 have hlg2 := hk2.1.good
 have hnt := numT_two hdp1 (hn.odd.resolve_left (by omega))
 have hdk := dy_kids hdp1 (hn.odd.resolve_left (by omega))
 refine qD rfl (zN (k := 0) rfl Tryz.underlying34 rfl nz3 rfl) ?_
 refine qD rfl (zO (u := (.int .i64 t)) ag3 rfl (hX19.pins _ _ _ (hbp20 0 _ rfl))) ?_
 refine qD rfl (r_sub rfl rfl (by omega)) ?_
 refine qD rfl (zN (k := 1) rfl Tryz.underlying34 rfl nz3 rfl) ?_
 refine qD rfl (zO (u := (.int .i64 (dp : Int))) ag3 rfl (hX19.pins _ _ _ (hbp20 1 _ rfl))) ?_
 refine qI rfl (zM (vs := [(.int .i64 (t - 1)), (.int .i64 (dp : Int))]) Tryz.func122 nm122 rfl rfl rfl ?_)
 refine Calls.mono (lowest_ok hX19.pins (by omega) (by omega) hlg1) ?_
 rintro _ w222 ⟨G221, rfl, hx223⟩
 refine ⟨_, rfl, ?_⟩
 have hX224 := hX19.tr hx223
 have hpk225 := hpk22.ext hx223
 refine qD rfl (zB (v := (.tuple #[(.agg [(.int .i64 ((lowD dp (t - 1)).1)), (.int .i64 (((lowD dp (t - 1)).2 : Nat) : Int))].toArray), (.bool true)])) rfl) ?_
 refine qD rfl (yW (v := (.agg [(.int .i64 ((lowD dp (t - 1)).1)), (.int .i64 (((lowD dp (t - 1)).2 : Nat) : Int))].toArray)) rfl rfl) ?_
 refine qD rfl (yW (v := (.bool true)) rfl rfl) ?_
 refine qI rfl (yY [(.int .i64 0), (.int .i64 0)] zr34 rfl hX224.pins (fun b226 w227 hk228 hb229 hp230 hl231 => ?_))
 have hX232 := hX224.step hp230 hl231
 have hpk233 := hpk225.below hl231 hp230
 have ha238 := hpk225.new (x := (some b226)) (fun k hk => by rw [(congrArg some hk228)] at hk; cases hk; exact Nat.le_refl _)
 have hlo239 : w.heap.size ≤ b226 := by have := hX224.size; omega
 refine q0 rfl rfl rfl (xA (cs' := [(.int .i64 ((lowD dp (t - 1)).1)), (.int .i64 (((lowD dp (t - 1)).2 : Nat) : Int))]) (us := [(.int .i64 ((lowD dp (t - 1)).1)), (.int .i64 (((lowD dp (t - 1)).2 : Nat) : Int))]) (v := (.agg [(.int .i64 ((lowD dp (t - 1)).1)), (.int .i64 (((lowD dp (t - 1)).2 : Nat) : Int))].toArray)) sz34 rfl rfl rfl (qB (by rfl) (by rfl)) hX232.pins hb229 (Nat.le_of_ble_eq_true rfl) rfl (fun w240 hb241 hp242 hg243 hz244 => ?_))
 have hX245 := hX232.write hp242 hg243 ((yL hlo239))
 have hpk246 := hpk233.kept hg243 hp242 ha238
 obtain ⟨G247, hle248, hX249, hbp250, hf251⟩ := hb241.shut hX245 hlo239
 have hpk252 := hpk246.more hle248 hf251 ha238
 refine qD rfl (zC (v := (.bool true)) rfl) ?_
 refine qe (zA (zD (zG ?_)))
 refine qD rfl (zN (k := 0) rfl Tryz.underlying34 rfl nz3 rfl) ?_
 refine qD rfl (zO (u := (.int .i64 t)) ag3 rfl ((Pins.of_le hX249.pins (Pin.le_trans hx223.le hle248)) _ _ _ (hbp20 0 _ rfl))) ?_
 refine qD rfl (yQ rfl rfl (by omega)) ?_
 refine qD rfl (zN (k := 1) rfl Tryz.underlying34 rfl nz3 rfl) ?_
 refine qD rfl (zO (u := (.int .i64 (dp : Int))) ag3 rfl ((Pins.of_le hX249.pins (Pin.le_trans hx223.le hle248)) _ _ _ (hbp20 1 _ rfl))) ?_
 refine qI rfl (zM (vs := [(.int .i64 (t + 1)), (.int .i64 (dp : Int))]) Tryz.func122 nm122 rfl rfl rfl ?_)
 refine Calls.mono (lowest_ok hX249.pins (by omega) (by omega) hlg2) ?_
 rintro _ w254 ⟨G253, rfl, hx255⟩
 refine ⟨_, rfl, ?_⟩
 have hX256 := hX249.tr hx255
 have hpk257 := hpk252.ext hx255
 refine qD rfl (zB (v := (.tuple #[(.agg [(.int .i64 ((lowD dp (t + 1)).1)), (.int .i64 (((lowD dp (t + 1)).2 : Nat) : Int))].toArray), (.bool true)])) rfl) ?_
 refine qD rfl (yW (v := (.agg [(.int .i64 ((lowD dp (t + 1)).1)), (.int .i64 (((lowD dp (t + 1)).2 : Nat) : Int))].toArray)) rfl rfl) ?_
 refine qD rfl (yW (v := (.bool true)) rfl rfl) ?_
 refine qI rfl (yY [(.int .i64 0), (.int .i64 0)] zr34 rfl hX256.pins (fun b258 w259 hk260 hb261 hp262 hl263 => ?_))
 have hX264 := hX256.step hp262 hl263
 have hpk265 := hpk257.below hl263 hp262
 have ha270 := hpk257.new (x := (some b258)) (fun k hk => by rw [(congrArg some hk260)] at hk; cases hk; exact Nat.le_refl _)
 have hlo271 : w.heap.size ≤ b258 := by have := hX256.size; omega
 refine q0 rfl rfl rfl (xA (cs' := [(.int .i64 ((lowD dp (t + 1)).1)), (.int .i64 (((lowD dp (t + 1)).2 : Nat) : Int))]) (us := [(.int .i64 ((lowD dp (t + 1)).1)), (.int .i64 (((lowD dp (t + 1)).2 : Nat) : Int))]) (v := (.agg [(.int .i64 ((lowD dp (t + 1)).1)), (.int .i64 (((lowD dp (t + 1)).2 : Nat) : Int))].toArray)) sz34 rfl rfl rfl (qB (by rfl) (by rfl)) hX264.pins hb261 (Nat.le_of_ble_eq_true rfl) rfl (fun w272 hb273 hp274 hg275 hz276 => ?_))
 have hX277 := hX264.write hp274 hg275 ((yL hlo271))
 have hpk278 := hpk265.kept hg275 hp274 ha270
 obtain ⟨G279, hle280, hX281, hbp282, hf283⟩ := hb273.shut hX277 hlo271
 have hpk284 := hpk278.more hle280 hf283 ha270
 refine qD rfl (zC (v := (.bool true)) rfl) ?_
 refine qe (zA (zD ?_))
 refine xJ (S := fun wz => Pins G279 wz) (last := 11) (by kernel_rfl) rfl ?_
 have hl285 : Below w272.heap.size w272 w272.drew := (Below.refl _ _).drew
 have hp286 := hX281.pins.below hl285
 have hX287 := hX281.step hp286 hl285
 have hpk288 := hpk284.below hl285 hp286
 refine dT (i := 0) rfl rfl (by kernel_rfl) (fun _ _ => zB (v := (.pointer (some ⟨p, 0, none⟩))) rfl) hX287.pins ?_
 refine dT (i := 1) rfl rfl (by kernel_rfl) (fun _ _ => zB (v := (.pointer (some ⟨p, 0, none⟩))) rfl) hX287.pins ?_
 refine dT (i := 2) rfl rfl (by kernel_rfl) (fun _ hS => yP (cs := [(.int .i64 ((lowD dp (t - 1)).1)), (.int .i64 (((lowD dp (t - 1)).2 : Nat) : Int))]) ag34 sz34 rfl (fun j u hj => (Pins.of_le hS (Pin.le_trans hx255.le hle280)) _ _ _ (hbp250 _ _ (by simpa using hj)))) hX287.pins ?_
 refine dT (i := 5) rfl rfl (by kernel_rfl) (fun _ _ => zB (v := (.pointer (some ⟨p, 0, none⟩))) rfl) hX287.pins ?_
 refine dT (i := 6) rfl rfl (by kernel_rfl) (fun _ hS => yP (cs := [(.int .i64 ((lowD dp (t + 1)).1)), (.int .i64 (((lowD dp (t + 1)).2 : Nat) : Int))]) ag34 sz34 rfl (fun j u hj => hS _ _ _ (hbp282 _ _ (by simpa using hj)))) hX287.pins ?_
 refine zR (i := 3) (by kernel_rfl) (zU (i := 3) rfl rfl rfl (zH rfl _) (zM (vs := [(.pointer (some ⟨p, 0, none⟩)), (.agg [(.int .i64 ((lowD dp (t - 1)).1)), (.int .i64 (((lowD dp (t - 1)).2 : Nat) : Int))].toArray)]) Tryz.func102 nm102 rfl rfl rfl ?_))
 refine Calls.mono (ih hX287.pins hpk288 hok hk1.1 (by omega) (by omega)) ?_
 rintro _ w298 ⟨z289, L293, R294, B295, q296, G297, rfl, hpk299, hok300, hpx301, hlo302, hx303, hpl290, hpd291, hqn292⟩
 refine ⟨_, rfl, ?_⟩
 have hX304 := hX287.trans hx303 hpin
 have hpin305 := PIn.call hpin hlo302 hX287.size
 have hql306 := hpx301.len
 have hml307 : (q296.ns.map Nd.l).length = q296.ns.length ∧ (q296.ns.map Nd.r).length = q296.ns.length := ⟨List.length_map .., List.length_map ..⟩
 have hml308 : q296.bs.length = q296.ns.length ∧ q296.ns.length ≤ 1048576 := ⟨hok300.ar.ok.len, hok300.ar.ok.lim⟩
 refine ⟨fun _ => (Pins.of_le hX304.pins hx303.le), ?_⟩
 refine dr_two (i := 4) (j := 7) (by kernel_rfl) ?_ ?_
 ·skip
  refine (zU (i := 4) rfl rfl rfl (zH rfl _) (yH (E := eInt) (e := 3) [(.int .i64 z289)] [z289] Tryz.underlying65 sz3 zr3 (by exact xO (by rfl)) (yR (by rfl)) rfl rfl rfl rfl (by decide) hX304.pins (fun u309 w310 ho311 hp312 hl313 hk314 => ?_)))
  have hX315 := hX304.step hp312 hl313
  have hpk316 := hpk299.below hl313 hp312
  have ha321 := hpk299.new (x := u309.ownBlock) (fun k hk => by rw [hk314] at hk; cases hk; exact Nat.le_refl _)
  have ho322 : Own eInt 3 G297 w310 w.heap.size u309 ([z289]) := ho311.weaken hX304.size
  refine ⟨fun _ => (Pins.of_le hX315.pins hx303.le), ?_⟩
  refine zR (i := 7) (by kernel_rfl) (zU (i := 7) rfl rfl rfl (zH rfl _) (zM (vs := [(.pointer (some ⟨p, 0, none⟩)), (.agg [(.int .i64 ((lowD dp (t + 1)).1)), (.int .i64 (((lowD dp (t + 1)).2 : Nat) : Int))].toArray)]) Tryz.func102 nm102 rfl rfl rfl ?_))
  refine Calls.mono (ih hX315.pins hpk316 hok300 hk2.1 (by omega) (by omega)) ?_
  rintro _ w332 ⟨z323, L327, R328, B329, q330, G331, rfl, hpk333, hok334, hpx335, hlo336, hx337, hpl324, hpd325, hqn326⟩
  refine ⟨_, rfl, ?_⟩
  have hX338 := hX315.trans hx337 hpin305
  have ho339 := ho322.extS hx337 ha321
  have hnp340 := NP.call ha321 hlo336 (own_lt ho322)
  have hpin341 := PIn.call hpin305 hlo336 hX315.size
  have hql342 := hpx335.len
  have hml343 : (q330.ns.map Nd.l).length = q330.ns.length ∧ (q330.ns.map Nd.r).length = q330.ns.length := ⟨List.length_map .., List.length_map ..⟩
  have hml344 : q330.bs.length = q330.ns.length ∧ q330.ns.length ≤ 1048576 := ⟨hok334.ar.ok.len, hok334.ar.ok.lim⟩
  refine ⟨fun _ => (Pins.of_le hX338.pins (Pin.le_trans hx303.le hx337.le)), ?_⟩
  refine zR (i := 8) (by kernel_rfl) (zU (i := 8) rfl rfl rfl (zH rfl _) (yH (E := eInt) (e := 3) [(.int .i64 z323)] [z323] Tryz.underlying65 sz3 zr3 (by exact xO (by rfl)) (yR (by rfl)) rfl rfl rfl rfl (by decide) hX338.pins (fun u345 w346 ho347 hp348 hl349 hk350 => ?_)))
  have hX351 := hX338.step hp348 hl349
  have ho352 := ho339.below hl349
  have hpk353 := hpk333.below hl349 hp348
  have ha354 : Apart u345.ownBlock u309.ownBlock := zJ hk350 ho339.lt
  have ha359 := hpk333.new (x := u345.ownBlock) (fun k hk => by rw [hk350] at hk; cases hk; exact Nat.le_refl _)
  have ho360 : Own eInt 3 G331 w346 w.heap.size u345 ([z323]) := ho347.weaken hX338.size
  refine ⟨fun _ => (Pins.of_le hX351.pins (Pin.le_trans hx303.le hx337.le)), ?_⟩
  obtain ⟨G361, hle364, hX363, hr362, hf365⟩ := ho352.sealed hX351
  have ho366 := ho360.moreO hle364 hf365 ha354
  have hpk367 := hpk353.moreO hle364 hf365 hnp340
  obtain ⟨G368, hle371, hX370, hr369, hf372⟩ := ho366.sealed hX363
  have hpk373 := hpk367.moreO hle371 hf372 ha359
  have hkg374 := ((hpx335.pd hok300 hok334 hpl290).trans hpd291)
  have hkg375 := hpd325
  refine zR (i := 9) (by kernel_rfl) (zU (i := 9) rfl rfl rfl (zH rfl _) (zM (vs := [(.pointer (some ⟨p, 0, none⟩)), u309, u345]) Tryz.func79 nm79 rfl rfl rfl ?_))
  refine Calls.mono (qK hX370.pins hpk373 hok334 (hr362.mono hle371) hr369 (by omega) ⟨by simp, by simp⟩ (one_at (hpx335.place hpl290)) (one_at hpl324)) ?_
  rintro _ w386 ⟨z376, L381, R382, B383, q384, G385, rfl, hpk387, hok388, hpx389, hlo390, hx391, hpl377, hpd378, hqn379, hcm380⟩
  refine ⟨_, rfl, ?_⟩
  have hX392 := hX370.trans hx391 hpin341
  have hpin393 := PIn.call hpin341 hlo390 hX370.size
  have hql394 := hpx389.len
  have hml395 : (q384.ns.map Nd.l).length = q384.ns.length ∧ (q384.ns.map Nd.r).length = q384.ns.length := ⟨List.length_map .., List.length_map ..⟩
  have hml396 : q384.bs.length = q384.ns.length ∧ q384.ns.length ≤ 1048576 := ⟨hok388.ar.ok.len, hok388.ar.ok.lim⟩
  have hng397 := hpd378.trans (show _ = mkG [pd q330 z289] [pd q330 z323] from rfl)
  rw [hkg374] at hng397
  rw [hkg375] at hng397
  have hqn398 := hqn379
  refine ⟨fun _ => (Pins.of_le hX392.pins (Pin.le_trans (Pin.le_trans (Pin.le_trans (Pin.le_trans hx303.le hx337.le) hle364) hle371) hx391.le)), ?_⟩
  refine dT (i := 10) rfl rfl (by kernel_rfl) (fun _ _ => zC (v := (.int .i64 z376)) rfl) (Pins.of_le hX392.pins (Pin.le_trans (Pin.le_trans (Pin.le_trans (Pin.le_trans hx303.le hx337.le) hle364) hle371) hx391.le)) ?_
  refine yS (by kernel_rfl) ?_
  refine zA ?_
  refine wp_ret ?_
  refine zT ?_
  refine zQ (v := (.int .i64 z376)) rfl rfl rfl ?_
  have hzz := hng397
  have hntm := qC dp
  exact ⟨_, L381, R382, B383, q384, G385, rfl, hpk387, hok388, (PX.trans (PX.trans hpx301 hpx335) hpx389), PIn.lo hpin393 rfl, hX392, hpl377, (hzz.trans hdk.symm), (by omega)⟩
 ·skip
  refine (zU (i := 7) rfl rfl rfl (zH rfl _) (zM (vs := [(.pointer (some ⟨p, 0, none⟩)), (.agg [(.int .i64 ((lowD dp (t + 1)).1)), (.int .i64 (((lowD dp (t + 1)).2 : Nat) : Int))].toArray)]) Tryz.func102 nm102 rfl rfl rfl ?_))
  refine Calls.mono (ih hX304.pins hpk299 hok300 hk2.1 (by omega) (by omega)) ?_
  rintro _ w408 ⟨z399, L403, R404, B405, q406, G407, rfl, hpk409, hok410, hpx411, hlo412, hx413, hpl400, hpd401, hqn402⟩
  refine ⟨_, rfl, ?_⟩
  have hX414 := hX304.trans hx413 hpin305
  have hpin415 := PIn.call hpin305 hlo412 hX304.size
  have hql416 := hpx411.len
  have hml417 : (q406.ns.map Nd.l).length = q406.ns.length ∧ (q406.ns.map Nd.r).length = q406.ns.length := ⟨List.length_map .., List.length_map ..⟩
  have hml418 : q406.bs.length = q406.ns.length ∧ q406.ns.length ≤ 1048576 := ⟨hok410.ar.ok.len, hok410.ar.ok.lim⟩
  refine ⟨fun _ => (Pins.of_le hX414.pins (Pin.le_trans hx303.le hx413.le)), ?_⟩
  refine dr_two (i := 4) (j := 8) (by kernel_rfl) ?_ ?_
  ·skip
   refine (zU (i := 4) rfl rfl rfl (zH rfl _) (yH (E := eInt) (e := 3) [(.int .i64 z289)] [z289] Tryz.underlying65 sz3 zr3 (by exact xO (by rfl)) (yR (by rfl)) rfl rfl rfl rfl (by decide) hX414.pins (fun u419 w420 ho421 hp422 hl423 hk424 => ?_)))
   have hX425 := hX414.step hp422 hl423
   have hpk426 := hpk409.below hl423 hp422
   have ha431 := hpk409.new (x := u419.ownBlock) (fun k hk => by rw [hk424] at hk; cases hk; exact Nat.le_refl _)
   have ho432 : Own eInt 3 G407 w420 w.heap.size u419 ([z289]) := ho421.weaken hX414.size
   refine ⟨fun _ => (Pins.of_le hX425.pins (Pin.le_trans hx303.le hx413.le)), ?_⟩
   refine zR (i := 8) (by kernel_rfl) (zU (i := 8) rfl rfl rfl (zH rfl _) (yH (E := eInt) (e := 3) [(.int .i64 z399)] [z399] Tryz.underlying65 sz3 zr3 (by exact xO (by rfl)) (yR (by rfl)) rfl rfl rfl rfl (by decide) hX425.pins (fun u433 w434 ho435 hp436 hl437 hk438 => ?_)))
   have hX439 := hX425.step hp436 hl437
   have ho440 := ho432.below hl437
   have hpk441 := hpk426.below hl437 hp436
   have ha445 : Apart u433.ownBlock u419.ownBlock := zJ hk438 ho432.lt
   have ha447 := hpk426.new (x := u433.ownBlock) (fun k hk => by rw [hk438] at hk; cases hk; exact Nat.le_refl _)
   have ho448 : Own eInt 3 G407 w434 w.heap.size u433 ([z399]) := ho435.weaken hX425.size
   refine ⟨fun _ => (Pins.of_le hX439.pins (Pin.le_trans hx303.le hx413.le)), ?_⟩
   obtain ⟨G449, hle452, hX451, hr450, hf453⟩ := ho440.sealed hX439
   have ho454 := ho448.moreO hle452 hf453 ha445
   have hpk455 := hpk441.moreO hle452 hf453 ha431
   obtain ⟨G456, hle459, hX458, hr457, hf460⟩ := ho454.sealed hX451
   have hpk461 := hpk455.moreO hle459 hf460 ha447
   have hkg462 := ((hpx411.pd hok300 hok410 hpl290).trans hpd291)
   have hkg463 := hpd401
   refine zR (i := 9) (by kernel_rfl) (zU (i := 9) rfl rfl rfl (zH rfl _) (zM (vs := [(.pointer (some ⟨p, 0, none⟩)), u419, u433]) Tryz.func79 nm79 rfl rfl rfl ?_))
   refine Calls.mono (qK hX458.pins hpk461 hok410 (hr450.mono hle459) hr457 (by omega) ⟨by simp, by simp⟩ (one_at (hpx411.place hpl290)) (one_at hpl400)) ?_
   rintro _ w474 ⟨z464, L469, R470, B471, q472, G473, rfl, hpk475, hok476, hpx477, hlo478, hx479, hpl465, hpd466, hqn467, hcm468⟩
   refine ⟨_, rfl, ?_⟩
   have hX480 := hX458.trans hx479 hpin415
   have hpin481 := PIn.call hpin415 hlo478 hX458.size
   have hql482 := hpx477.len
   have hml483 : (q472.ns.map Nd.l).length = q472.ns.length ∧ (q472.ns.map Nd.r).length = q472.ns.length := ⟨List.length_map .., List.length_map ..⟩
   have hml484 : q472.bs.length = q472.ns.length ∧ q472.ns.length ≤ 1048576 := ⟨hok476.ar.ok.len, hok476.ar.ok.lim⟩
   have hng485 := hpd466.trans (show _ = mkG [pd q406 z289] [pd q406 z399] from rfl)
   rw [hkg462] at hng485
   rw [hkg463] at hng485
   have hqn486 := hqn467
   refine ⟨fun _ => (Pins.of_le hX480.pins (Pin.le_trans (Pin.le_trans (Pin.le_trans (Pin.le_trans hx303.le hx413.le) hle452) hle459) hx479.le)), ?_⟩
   refine dT (i := 10) rfl rfl (by kernel_rfl) (fun _ _ => zC (v := (.int .i64 z464)) rfl) (Pins.of_le hX480.pins (Pin.le_trans (Pin.le_trans (Pin.le_trans (Pin.le_trans hx303.le hx413.le) hle452) hle459) hx479.le)) ?_
   refine yS (by kernel_rfl) ?_
   refine zA ?_
   refine wp_ret ?_
   refine zT ?_
   refine zQ (v := (.int .i64 z464)) rfl rfl rfl ?_
   have hzz := hng485
   have hntm := qC dp
   exact ⟨_, L469, R470, B471, q472, G473, rfl, hpk475, hok476, (PX.trans (PX.trans hpx301 hpx411) hpx477), PIn.lo hpin481 rfl, hX480, hpl465, (hzz.trans hdk.symm), (by omega)⟩
  ·skip
   refine (zU (i := 8) rfl rfl rfl (zH rfl _) (yH (E := eInt) (e := 3) [(.int .i64 z399)] [z399] Tryz.underlying65 sz3 zr3 (by exact xO (by rfl)) (yR (by rfl)) rfl rfl rfl rfl (by decide) hX414.pins (fun u487 w488 ho489 hp490 hl491 hk492 => ?_)))
   have hX493 := hX414.step hp490 hl491
   have hpk494 := hpk409.below hl491 hp490
   have ha499 := hpk409.new (x := u487.ownBlock) (fun k hk => by rw [hk492] at hk; cases hk; exact Nat.le_refl _)
   have ho500 : Own eInt 3 G407 w488 w.heap.size u487 ([z399]) := ho489.weaken hX414.size
   refine ⟨fun _ => (Pins.of_le hX493.pins (Pin.le_trans hx303.le hx413.le)), ?_⟩
   refine zR (i := 4) (by kernel_rfl) (zU (i := 4) rfl rfl rfl (zH rfl _) (yH (E := eInt) (e := 3) [(.int .i64 z289)] [z289] Tryz.underlying65 sz3 zr3 (by exact xO (by rfl)) (yR (by rfl)) rfl rfl rfl rfl (by decide) hX493.pins (fun u501 w502 ho503 hp504 hl505 hk506 => ?_)))
   have hX507 := hX493.step hp504 hl505
   have ho508 := ho500.below hl505
   have hpk509 := hpk494.below hl505 hp504
   have ha513 : Apart u501.ownBlock u487.ownBlock := zJ hk506 ho500.lt
   have ha515 := hpk494.new (x := u501.ownBlock) (fun k hk => by rw [hk506] at hk; cases hk; exact Nat.le_refl _)
   have ho516 : Own eInt 3 G407 w502 w.heap.size u501 ([z289]) := ho503.weaken hX493.size
   refine ⟨fun _ => (Pins.of_le hX507.pins (Pin.le_trans hx303.le hx413.le)), ?_⟩
   obtain ⟨G517, hle520, hX519, hr518, hf521⟩ := ho516.sealed hX507
   have ho522 := ho508.moreO hle520 hf521 ha513.symm
   have hpk523 := hpk509.moreO hle520 hf521 ha515
   obtain ⟨G524, hle527, hX526, hr525, hf528⟩ := ho522.sealed hX519
   have hpk529 := hpk523.moreO hle527 hf528 ha499
   have hkg530 := ((hpx411.pd hok300 hok410 hpl290).trans hpd291)
   have hkg531 := hpd401
   refine zR (i := 9) (by kernel_rfl) (zU (i := 9) rfl rfl rfl (zH rfl _) (zM (vs := [(.pointer (some ⟨p, 0, none⟩)), u501, u487]) Tryz.func79 nm79 rfl rfl rfl ?_))
   refine Calls.mono (qK hX526.pins hpk529 hok410 (hr518.mono hle527) hr525 (by omega) ⟨by simp, by simp⟩ (one_at (hpx411.place hpl290)) (one_at hpl400)) ?_
   rintro _ w542 ⟨z532, L537, R538, B539, q540, G541, rfl, hpk543, hok544, hpx545, hlo546, hx547, hpl533, hpd534, hqn535, hcm536⟩
   refine ⟨_, rfl, ?_⟩
   have hX548 := hX526.trans hx547 hpin415
   have hpin549 := PIn.call hpin415 hlo546 hX526.size
   have hql550 := hpx545.len
   have hml551 : (q540.ns.map Nd.l).length = q540.ns.length ∧ (q540.ns.map Nd.r).length = q540.ns.length := ⟨List.length_map .., List.length_map ..⟩
   have hml552 : q540.bs.length = q540.ns.length ∧ q540.ns.length ≤ 1048576 := ⟨hok544.ar.ok.len, hok544.ar.ok.lim⟩
   have hng553 := hpd534.trans (show _ = mkG [pd q406 z289] [pd q406 z399] from rfl)
   rw [hkg530] at hng553
   rw [hkg531] at hng553
   have hqn554 := hqn535
   refine ⟨fun _ => (Pins.of_le hX548.pins (Pin.le_trans (Pin.le_trans (Pin.le_trans (Pin.le_trans hx303.le hx413.le) hle520) hle527) hx547.le)), ?_⟩
   refine dT (i := 10) rfl rfl (by kernel_rfl) (fun _ _ => zC (v := (.int .i64 z532)) rfl) (Pins.of_le hX548.pins (Pin.le_trans (Pin.le_trans (Pin.le_trans (Pin.le_trans hx303.le hx413.le) hle520) hle527) hx547.le)) ?_
   refine yS (by kernel_rfl) ?_
   refine zA ?_
   refine wp_ret ?_
   refine zT ?_
   refine zQ (v := (.int .i64 z532)) rfl rfl rfl ?_
   have hzz := hng553
   have hntm := qC dp
   exact ⟨_, L537, R538, B539, q540, G541, rfl, hpk543, hok544, (PX.trans (PX.trans hpx301 hpx411) hpx545), PIn.lo hpin549 rfl, hX548, hpl533, (hzz.trans hdk.symm), (by omega)⟩

theorem num_all {p : Nat} {mm : PM} : ∀ m, NumP m p mm
 | 0 => fun _ _ _ _ _ h => absurd h (Nat.not_lt_zero _)
 | m + 1 => fun hP hpk hok hn hl hm => number_step hP hpk hok hn hl (num_all m) hm
theorem number_spec {w : World} {G : Pin} {L R B : Value} {q : PSt} {t : Int} {dp p : Nat} {mm : PM} (hP : Pins G w) (hpk : Pk 65 3 G w p L R B mm q) (hok : PoolOk q) (hn : NumOk dp t) (hl : q.ns.length + numT dp ≤ 1048575) :
  Calls Tryz.prog 102 [(.pointer (some ⟨p, 0, none⟩)), (.agg [.int .i64 t, .int .i64 (dp : Int)].toArray)].toArray w fun e w' => ∃ (z : Int) (L' R' B' : Value) (q' : PSt) (G' : Pin), e = .returned (.int .i64 z) ∧ Pk 65 3 G' w' p L' R' B' mm q' ∧ PoolOk q' ∧ PX q q' ∧ PLo w p L R B mm L' R' B' ∧ Ext (inP p L R B mm) G w G' w' ∧ PlaceOk q' z ∧ pd q' z = dyG dp t ∧ q'.ns.length ≤ q.ns.length + numT dp :=
 num_all _ hP hpk hok hn hl (Nat.lt_succ_self _)

end NB1
end Go.Proofs.YtfnginkcmcfdfaaGreatDoor

set_option maxRecDepth 20000
set_option maxHeartbeats 2000000
namespace Go.Proofs.YtfnginkcmcfdfaaGreatDoor
namespace NB2
open Go.RowKit Go.GL Go.Proofs
open Go.Proofs.YtfnginkcmcfdfaaGreatDoor.B1
open Go.Proofs.YtfnginkcmcfdfaaGreatDoor.K1
open Go.Proofs.YtfnginkcmcfdfaaGreatDoor.PO1
open Go.Proofs.YtfnginkcmcfdfaaGreatDoor.PL1
open Go.Proofs.YtfnginkcmcfdfaaGreatDoor.PA1
open Go.Proofs.YtfnginkcmcfdfaaGreatDoor.NU1
open Go.Proofs.YtfnginkcmcfdfaaGreatDoor.NU2
open Go.Proofs.YtfnginkcmcfdfaaGreatDoor.NB1









theorem number_zspec {w : World} {G : Pin} {L R B : Value} {q : PSt} {t z : Int} {p : Nat} {mm : PM} (hP : Pins G w) (hpk : Pk 65 3 G w p L R B mm q) (hok : PoolOk q) (hz : 0 ≤ z) (hn : NumOk z.toNat t) (hl : q.ns.length + numT z.toNat ≤ 1048575) :
  Calls Tryz.prog 102 [(.pointer (some ⟨p, 0, none⟩)), (.agg [.int .i64 t, .int .i64 z].toArray)].toArray w fun e w' => ∃ (y : Int) (L' R' B' : Value) (q' : PSt) (G' : Pin), e = .returned (.int .i64 y) ∧ Pk 65 3 G' w' p L' R' B' mm q' ∧ PoolOk q' ∧ PX q q' ∧ PLo w p L R B mm L' R' B' ∧ Ext (inP p L R B mm) G w G' w' ∧ PlaceOk q' y ∧ pd q' y = dyG z.toNat t ∧ q'.ns.length ≤ q.ns.length + numT z.toNat := by
 obtain ⟨dp, rfl⟩ : ∃ dp : Nat, z = (dp : Int) := ⟨z.toNat, by omega⟩
 simp only [Int.toNat_natCast] at hn hl ⊢
 exact number_spec hP hpk hok hn hl

theorem numbered_spec {w : World} {G : Pin} {L R B : Value} {q : PSt} {t z : Int} {p : Nat} {mm : PM} (hP : Pins G w) (hpk : Pk 65 3 G w p L R B mm q) (hok : PoolOk q) (hl : q.ns.length ≤ 700000) :
  Calls Tryz.prog 52 [(.pointer (some ⟨p, 0, none⟩)), (.agg [(.int .i64 t), (.int .i64 z)].toArray)].toArray w fun e w' => ∃ (y : Int) (L' R' B' : Value) (q' : PSt) (G' : Pin), e = .returned (.tuple #[.int .i64 y, .bool (nmB t z)]) ∧ Pk 65 3 G' w' p L' R' B' mm q' ∧ PoolOk q' ∧ PX q q' ∧ PLo w p L R B mm L' R' B' ∧ Ext (inP p L R B mm) G w G' w' ∧ (nmB t z = true → PlaceOk q' y ∧ pd q' y = dyG z.toNat t) ∧ q'.ns.length ≤ q.ns.length + 315247 := by
 refine zZ (n := 32) Tryz.func52 Tryz.ntmps52 rfl rfl ?_
 have hX0 : Ext (inP p L R B mm) G w G w := Ext.refl hP
 have hpin : PIn w (inP p L R B mm) p L R B mm := PIn.self
 have hml1 : (q.ns.map Nd.l).length = q.ns.length ∧ (q.ns.map Nd.r).length = q.ns.length := ⟨List.length_map .., List.length_map ..⟩
 have hml2 : q.bs.length = q.ns.length ∧ q.ns.length ≤ 1048576 := ⟨hok.ar.ok.len, hok.ar.ok.lim⟩
 refine zD (zG ?_)
 refine qI rfl (xT [(.int .i64 t), (.int .i64 z)] (v := (.agg [(.int .i64 t), (.int .i64 z)].toArray)) rfl rfl hX0.pins (fun b3 w4 hk5 hb6 hp7 hl8 => ?_))
 have hX9 := hX0.step hp7 hl8
 have hpk10 := hpk.below hl8 hp7
 have ha15 := hpk.new (x := (some b3)) (fun k hk => by rw [(congrArg some hk5)] at hk; cases hk; exact Nat.le_refl _)
 have hlo16 : w.heap.size ≤ b3 := by have := hX0.size; omega
 obtain ⟨G17, hle18, hX19, hbp20, hf21⟩ := hb6.shut hX9 hlo16
 have hpk22 := hpk10.more hle18 hf21 ha15
 refine qD rfl (zC (v := (.int .i64 0)) rfl) ?_
 refine qD rfl (zC (v := (.bool false)) rfl) ?_
 refine qe (zA (zD (zD (zG ?_))))
 refine qD rfl (yP (cs := [(.int .i64 t), (.int .i64 z)]) ag34 sz34 rfl (fun j u hj => hX19.pins _ _ _ (hbp20 _ _ (by simpa using hj)))) ?_
 refine qI rfl (zM (vs := [(.agg [(.int .i64 t), (.int .i64 z)].toArray)]) Tryz.func101 nm101 rfl rfl rfl ?_)
 refine Calls.mono (goodDyadic_spec (t := t) (z := z) hX19.pins) ?_
 rintro _ w24 ⟨G23, rfl, hx25⟩
 refine ⟨_, rfl, ?_⟩
 have hX26 := hX19.tr hx25
 have hpk27 := hpk22.ext hx25
 refine qD rfl (r_not rfl) ?_
 refine qD rfl (zB (v := (.bool (!(decP (GoodD t z))))) rfl) ?_
 refine qbn (t := 10) rfl (fun h28 => ?_) (fun h28 => ?_)
 ·skip
  have hgd : GoodD t z := decP_true.1 h28
  have hgt := hgd.top
  have hgp := hgd.pow
  have hms := max_shrz (t := t) hgp
  refine qdg rfl rfl rfl rfl rfl rfl (zN (k := 0) rfl Tryz.underlying34 rfl nz3 rfl) ?_
  refine qdg rfl rfl rfl rfl rfl rfl (zO (u := (.int .i64 t)) ag3 rfl ((Pins.of_le hX26.pins hx25.le) _ _ _ (hbp20 0 _ rfl))) ?_
  refine qdg rfl rfl rfl rfl rfl rfl (zN (k := 0) rfl Tryz.underlying34 rfl nz3 rfl) ?_
  refine qdg rfl rfl rfl rfl rfl rfl (zO (u := (.int .i64 t)) ag3 rfl ((Pins.of_le hX26.pins hx25.le) _ _ _ (hbp20 0 _ rfl))) ?_
  refine qdg rfl rfl rfl rfl rfl rfl (r_neg rfl (by omega)) ?_
  refine qdg rfl rfl rfl rfl rfl rfl (r_max rfl rfl) ?_
  refine qdg rfl rfl rfl rfl rfl rfl (zN (k := 1) rfl Tryz.underlying34 rfl nz3 rfl) ?_
  refine qdg rfl rfl rfl rfl rfl rfl (zO (u := (.int .i64 z)) ag3 rfl ((Pins.of_le hX26.pins hx25.le) _ _ _ (hbp20 1 _ rfl))) ?_
  refine qdg rfl rfl rfl rfl rfl rfl (r_shrI rfl rfl (by omega)) ?_
  refine qdg rfl rfl rfl rfl rfl rfl (r_geq rfl rfl) ?_
  refine qD rfl (yO (v := (.bool (decide ((120 : Int) ≤ (Int.fdiv (max t (-t)) (2 ^ (min (z : Int).toNat 64))))))) rfl rfl) ?_
  refine qe (zA ?_)
  refine yB (p := (120 : Int) ≤ (Int.fdiv (max t (-t)) (2 ^ (min (z : Int).toNat 64)))) rfl rfl (fun h29 => ?_) (fun h29 => ?_)
  ·skip
   refine zD (zG ?_)
   refine qD rfl (zC (v := (.int .i64 0)) rfl) ?_
   refine qD rfl (zC (v := (.bool false)) rfl) ?_
   refine qe (zA ?_)
   refine wp_ret ?_
   refine zT ?_
   refine c_ret2 (v := (.int .i64 0)) (u := (.bool false)) rfl rfl rfl rfl rfl ?_
   have hbl : ¬ t.natAbs / 2 ^ z.toNat < 120 := by have h9 := h29; rw [hms] at h9; omega
   obtain ⟨e1, e2⟩ := nmz_no (t := t) (z := z) (num_late (born_late hbl)).2
   exact ⟨_, L, R, B, q, G23, by rw [e1], hpk27, hok, (PX.refl _), PIn.lo hpin rfl, hX26, (fun h => by rw [e1] at h; cases h), (by omega)⟩
  refine wp_skip ?_
  refine zA (zD (zG ?_))
  have hbl : t.natAbs / 2 ^ z.toNat < 120 := by have h9 := h29; rw [hms] at h9; omega
  have hno := good_num hgd.nat hbl
  have hnmx := numT_max hno.pow
  refine qD rfl (zB (v := (.pointer (some ⟨p, 0, none⟩))) rfl) ?_
  refine qD rfl (yP (cs := [(.int .i64 t), (.int .i64 z)]) ag34 sz34 rfl (fun j u hj => (Pins.of_le hX26.pins hx25.le) _ _ _ (hbp20 _ _ (by simpa using hj)))) ?_
  refine qI rfl (zM (vs := [(.pointer (some ⟨p, 0, none⟩)), (.agg [(.int .i64 t), (.int .i64 z)].toArray)]) Tryz.func102 nm102 rfl rfl rfl ?_)
  refine Calls.mono (number_zspec hX26.pins hpk27 hok hgp.1 hno (by omega)) ?_
  rintro _ w39 ⟨z30, L34, R35, B36, q37, G38, rfl, hpk40, hok41, hpx42, hlo43, hx44, hpl31, hpd32, hqn33⟩
  refine ⟨_, rfl, ?_⟩
  have hX45 := hX26.trans hx44 hpin
  have hpin46 := PIn.call hpin hlo43 hX26.size
  have hql47 := hpx42.len
  have hml48 : (q37.ns.map Nd.l).length = q37.ns.length ∧ (q37.ns.map Nd.r).length = q37.ns.length := ⟨List.length_map .., List.length_map ..⟩
  have hml49 : q37.bs.length = q37.ns.length ∧ q37.ns.length ≤ 1048576 := ⟨hok41.ar.ok.len, hok41.ar.ok.lim⟩
  refine qD rfl (zC (v := (.int .i64 z30)) rfl) ?_
  refine qe (zA (zD (zG ?_)))
  refine qD rfl (zB (v := (.int .i64 z30)) rfl) ?_
  refine qD rfl (zB (v := (.pointer (some ⟨p, 0, none⟩))) rfl) ?_
  refine qD rfl (zB (v := (.int .i64 z30)) rfl) ?_
  refine qI rfl (yH (E := eInt) (e := 3) [(.int .i64 z30)] [z30] Tryz.underlying65 sz3 zr3 (by exact xO (by rfl)) (yR (by rfl)) rfl rfl rfl rfl (by decide) hX45.pins (fun u50 w51 ho52 hp53 hl54 hk55 => ?_))
  have hX56 := hX45.step hp53 hl54
  have hpk57 := hpk40.below hl54 hp53
  have ha62 := hpk40.new (x := u50.ownBlock) (fun k hk => by rw [hk55] at hk; cases hk; exact Nat.le_refl _)
  have ho63 : Own eInt 3 G38 w51 w.heap.size u50 ([z30]) := ho52.weaken hX45.size
  obtain ⟨G71, hle74, hX73, hr72, hf75⟩ := ho63.sealed hX56
  have hpk76 := hpk57.moreO hle74 hf75 ha62
  refine qI rfl (zM (vs := [(.pointer (some ⟨p, 0, none⟩)), u50]) Tryz.func103 nm103 rfl rfl rfl ?_)
  refine Calls.mono (parts_spec hX73.pins hpk76 hok41 hr72 (place_one hpl31) (by simp)) ?_
  rintro _ w67 ⟨u64, zs65, G66, rfl, ho68, hpt69, hx70⟩
  refine ⟨_, rfl, ?_⟩
  have hX77 := hX73.tr hx70
  have hpk78 := hpk76.ext hx70
  have ho80 : Own eInt 3 G66 w67 w.heap.size u64 zs65 := ho68.weaken hX73.size
  have hql81 := hpt69.len
  refine qD rfl (zV Tryz.underlying65 (v := u64) rfl ho80.read) ?_
  refine qD rfl (r_leq rfl rfl) ?_
  refine qD rfl (zC (v := (.int .i64 z30)) rfl) ?_
  refine qD rfl (zC (v := (.bool (decide (((zs65.length : Int) : Int) ≤ 120)))) rfl) ?_
  refine qe (zA ?_)
  refine wp_ret ?_
  refine zT ?_
  refine c_ret2 (v := (.int .i64 z30)) (u := (.bool (decide (((zs65.length : Int) : Int) ≤ 120)))) rfl rfl rfl rfl rfl ?_
  have hnm := nm_parts hok41 hpl31 hpt69 hpd32 hgd
  exact ⟨_, L34, R35, B36, q37, G66, by rw [hnm], hpk78, hok41, hpx42, PIn.lo hpin46 rfl, hX77, (fun _ => ⟨hpl31, hpd32⟩), (by omega)⟩
 refine qs rfl rfl rfl rfl rfl rfl ?_
 refine qs rfl rfl rfl rfl rfl rfl ?_
 refine qs rfl rfl rfl rfl rfl rfl ?_
 refine qs rfl rfl rfl rfl rfl rfl ?_
 refine qs rfl rfl rfl rfl rfl rfl ?_
 refine qs rfl rfl rfl rfl rfl rfl ?_
 refine qs rfl rfl rfl rfl rfl rfl ?_
 refine qs rfl rfl rfl rfl rfl rfl ?_
 refine qs rfl rfl rfl rfl rfl rfl ?_
 refine qs rfl rfl rfl rfl rfl rfl ?_
 refine qD rfl (xD (v := (.bool true)) rfl rfl) ?_
 refine qe (zA ?_)
 refine c_ifT rfl rfl ?_
 refine zD (zG ?_)
 refine qD rfl (zC (v := (.int .i64 0)) rfl) ?_
 refine qD rfl (zC (v := (.bool false)) rfl) ?_
 refine qe (zA ?_)
 refine wp_ret ?_
 refine zT ?_
 refine c_ret2 (v := (.int .i64 0)) (u := (.bool false)) rfl rfl rfl rfl rfl ?_
 obtain ⟨e1, e2⟩ := nm_bad (t := t) (z := z) (decP_false.1 h28)
 exact ⟨_, L, R, B, q, G23, by rw [e1], hpk27, hok, (PX.refl _), PIn.lo hpin rfl, hX26, (fun h => by rw [e1] at h; cases h), (by omega)⟩

end NB2
end Go.Proofs.YtfnginkcmcfdfaaGreatDoor

set_option maxRecDepth 20000
set_option maxHeartbeats 2000000
namespace Go.Proofs.YtfnginkcmcfdfaaGreatDoor
namespace NB3
open Go.RowKit Go.GL Go.Proofs
open Go.Proofs.YtfnginkcmcfdfaaGreatDoor.B1
open Go.Proofs.YtfnginkcmcfdfaaGreatDoor.K1
open Go.Proofs.YtfnginkcmcfdfaaGreatDoor.PO1
open Go.Proofs.YtfnginkcmcfdfaaGreatDoor.PL1
open Go.Proofs.YtfnginkcmcfdfaaGreatDoor.PA1
open Go.Proofs.YtfnginkcmcfdfaaGreatDoor.SO1
open Go.Proofs.YtfnginkcmcfdfaaGreatDoor.OD1
open Go.Proofs.YtfnginkcmcfdfaaGreatDoor.FO1
open Go.Proofs.YtfnginkcmcfdfaaGreatDoor.NU1
open Go.Proofs.YtfnginkcmcfdfaaGreatDoor.NU2
open Go.Proofs.YtfnginkcmcfdfaaGreatDoor.NB1
open Go.Proofs.YtfnginkcmcfdfaaGreatDoor.NB2





theorem pl32 : (Tryz.prog.underlying 32).bind (placesD Tryz.prog) = some [(0, 1)] := by kernel_rfl



theorem iNumberForm_dspec {w : World} {G : Pin} {t z : Int} (hP : Pins G w) :
  Calls Tryz.prog 22 [(.agg [(.int .i64 t), (.int .i64 z)].toArray)].toArray w fun e w' => ∃ (u : Value) (G' : Pin), e = .returned (.tuple #[(.agg [u].toArray), .bool (nmB t z)]) ∧ DForm 99 3 G' w' w.heap.size w'.heap.size u (nmF t z) ∧ Ext noS G w G' w' := by
 refine zZ (n := 22) Tryz.func22 Tryz.ntmps22 rfl rfl ?_
 have hX0 : Ext noS G w G w := Ext.refl hP
 refine zD (zG ?_)
 refine qI rfl (xT [(.int .i64 t), (.int .i64 z)] (v := (.agg [(.int .i64 t), (.int .i64 z)].toArray)) rfl rfl hX0.pins (fun b1 w2 hk3 hb4 hp5 hl6 => ?_))
 have hX7 := hX0.step hp5 hl6
 have hlo8 : w.heap.size ≤ b1 := by have := hX0.size; omega
 obtain ⟨G9, hle10, hX11, hbp12, hf13⟩ := hb4.shut hX7 hlo8
 refine qI rfl (yY [(.slice none 0 0)] zr32 rfl hX11.pins (fun b14 w15 hk16 hb17 hp18 hl19 => ?_))
 have hX20 := hX11.step hp18 hl19
 have hlo21 : w.heap.size ≤ b14 := by have := hX11.size; omega
 refine qD rfl (zC (v := (.bool false)) rfl) ?_
 refine qe (zA (zD (zG ?_)))
 refine qI rfl (zM (vs := []) Tryz.func51 nm51 rfl rfl rfl ?_)
 refine Calls.mono (newPool_spec hX20.pins) ?_
 rintro _ w25 ⟨p22, mm23, G24, rfl, hpk26, hfr27, hx28⟩
 refine ⟨_, rfl, ?_⟩
 have hX32 := hX20.tr hx28
 have hb33 := hb17.ext hx28
 have hnp34 := np_fresh hfr27 (x := (some b14)) (box_lt hb17)
 have hpin35 : PIn w (noS) p22 (.slice none 0 0) (.slice none 0 0) (.slice none 0 0) mm23 := PIn.fresh hfr27 hX20.size
 obtain ⟨q29, hq30⟩ : ∃ q, q = (⟨[], [], [], [], [], [], []⟩ : PSt) := ⟨_, rfl⟩
 rw [← hq30] at hpk26
 have hok31 : PoolOk q29 := by rw [hq30]; exact PoolOk.empty
 have hq30l : q29.ns.length = 0 := by rw [hq30]; rfl
 obtain ⟨L36, R37, B38, eL36, eR37, eB38⟩ : ∃ (l r b : Value), l = .slice none 0 0 ∧ r = .slice none 0 0 ∧ b = .slice none 0 0 := ⟨_, _, _, rfl, rfl, rfl⟩
 have hpk262 : Pk 65 3 G24 w25 p22 L36 R37 B38 mm23 q29 := by rw [eL36, eR37, eB38]; exact hpk26
 have hpin352 : PIn w (noS) p22 L36 R37 B38 mm23 := by rw [eL36, eR37, eB38]; exact hpin35
 have hml39 : (q29.ns.map Nd.l).length = q29.ns.length ∧ (q29.ns.map Nd.r).length = q29.ns.length := ⟨List.length_map .., List.length_map ..⟩
 have hml40 : q29.bs.length = q29.ns.length ∧ q29.ns.length ≤ 1048576 := ⟨hok31.ar.ok.len, hok31.ar.ok.lim⟩
 have hnp34x : NP p22 L36 R37 B38 mm23 (some b14) := by rw [eL36, eR37, eB38]; exact hnp34
 refine qD rfl (zC (v := (.pointer (some ⟨p22, 0, none⟩))) rfl) ?_
 refine qe (zA (zD (zG ?_)))
 refine qD rfl (zB (v := (.pointer (some ⟨p22, 0, none⟩))) rfl) ?_
 refine qD rfl (yP (cs := [(.int .i64 t), (.int .i64 z)]) ag34 sz34 rfl (fun j u hj => (Pins.of_le hX32.pins hx28.le) _ _ _ (hbp12 _ _ (by simpa using hj)))) ?_
 refine qI rfl (zM (vs := [(.pointer (some ⟨p22, 0, none⟩)), (.agg [(.int .i64 t), (.int .i64 z)].toArray)]) Tryz.func52 nm52 rfl rfl rfl ?_)
 refine Calls.mono (numbered_spec hX32.pins hpk262 hok31 (by omega)) ?_
 rintro _ w49 ⟨z41, L44, R45, B46, q47, G48, rfl, hpk50, hok51, hpx52, hlo53, hx54, hnd42, hqn43⟩
 refine ⟨_, rfl, ?_⟩
 have hX55 := hX32.trans hx54 hpin352
 have hb56 := hb33.extS hx54 (NP.notb hnp34x)
 have hpin58 := PIn.call hpin352 hlo53 hX32.size
 have hql59 := hpx52.len
 have hml60 : (q47.ns.map Nd.l).length = q47.ns.length ∧ (q47.ns.map Nd.r).length = q47.ns.length := ⟨List.length_map .., List.length_map ..⟩
 have hml61 : q47.bs.length = q47.ns.length ∧ q47.ns.length ≤ 1048576 := ⟨hok51.ar.ok.len, hok51.ar.ok.lim⟩
 refine qD rfl (zB (v := (.tuple #[(.int .i64 z41), (.bool (nmB t z))])) rfl) ?_
 refine qD rfl (yW (v := (.int .i64 z41)) rfl rfl) ?_
 refine qD rfl (yW (v := (.bool (nmB t z))) rfl rfl) ?_
 refine qD rfl (zC (v := (.int .i64 z41)) rfl) ?_
 refine qD rfl (zC (v := (.bool (nmB t z))) rfl) ?_
 refine qe (zA (zD (zD (zG ?_))))
 refine qD rfl (zB (v := (.bool (nmB t z))) rfl) ?_
 refine qD rfl (r_not rfl) ?_
 refine qe (zA ?_)
 refine c_ifn rfl rfl (fun h62 => ?_) (fun h62 => ?_)
 ·skip
  refine wp_skip ?_
  refine zA (zD (zG ?_))
  refine qD rfl (zB (v := (.pointer (some ⟨p22, 0, none⟩))) rfl) ?_
  refine qD rfl (zB (v := (.int .i64 z41)) rfl) ?_
  have hpp := hnd42 h62
  refine qI rfl (zM (vs := [(.pointer (some ⟨p22, 0, none⟩)), (.int .i64 z41)]) Tryz.func59 nm59 rfl rfl rfl ?_)
  refine Calls.mono (form_spec hX55.pins hpk50 hok51 hpp.1) ?_
  rintro _ w65 ⟨u63, G64, rfl, hd66, hx67⟩
  refine ⟨_, rfl, ?_⟩
  have hX68 := hX55.tr hx67
  have hb69 := hb56.ext hx67
  have hone71 := hd66.one
  refine qD rfl (yW (v := (.agg [u63].toArray)) rfl rfl) ?_
  refine qD rfl (yW (v := (.bool (fitB (pd q47 z41)))) rfl rfl) ?_
  refine q0 rfl rfl rfl (xA (cs' := [u63]) (us := [u63]) (v := (.agg [u63].toArray)) sz32 rfl rfl rfl (yR hone71) hX68.pins hb69 (Nat.le_of_ble_eq_true rfl) rfl (fun w72 hb73 hp74 hg75 hz76 => ?_))
  have hX77 := hX68.write hp74 hg75 ((yL hlo21))
  have hd78 := hd66.kept hg75 (Or.inr hb56.lt)
  have hs79 := Nat.le_trans (Nat.le_refl w65.heap.size) hg75.size
  refine qD rfl (zC (v := (.bool (fitB (pd q47 z41)))) rfl) ?_
  refine qe (zA ?_)
  refine wp_ret ?_
  refine zT ?_
  refine xW (cs := [u63]) (v := (.bool (fitB (pd q47 z41)))) rfl rfl rfl rfl rfl ag32 sz32 (fun j u hj => by rw [Nat.zero_add]; exact hb73.cell hj) ?_
  have hnm := nm_num h62
  have e1 : nmF t z = frmG (dyG z.toNat t) := by unfold nmF frmG; rw [if_pos h62, if_pos hnm.2.2]
  rw [e1, h62, ← hpp.2]
  exact ⟨_, _, by rw [hpp.2, hnm.2.2], (hd78.wide hX55.size hs79), hX77⟩
 refine zD (zG ?_)
 refine qD rfl (xE [(.slice none 0 0)] [(.slice none 0 0)] [] Tryz.underlying32 zr32 rfl pl32 rfl (fun _ h => by cases h) rfl) ?_
 refine q0 rfl rfl rfl (xA (cs' := [(.slice none 0 0)]) (us := [(.slice none 0 0)]) (v := (.agg [(.slice none 0 0)].toArray)) sz32 rfl rfl rfl (yR (by rfl)) hX55.pins hb56 (Nat.le_of_ble_eq_true rfl) rfl (fun w81 hb82 hp83 hg84 hz85 => ?_))
 have hX86 := hX55.write hp83 hg84 ((yL hlo21))
 refine qD rfl (zC (v := (.bool false)) rfl) ?_
 refine qe (zA ?_)
 refine wp_ret ?_
 refine zT ?_
 refine xW (cs := [(.slice none 0 0)]) (v := (.bool false)) rfl rfl rfl rfl rfl ag32 sz32 (fun j u hj => by rw [Nat.zero_add]; exact hb82.cell hj) ?_
 have e1 : nmF t z = [] := by unfold nmF; rw [h62]; rfl
 rw [e1, h62]
 exact ⟨_, _, rfl, DForm.nil, hX86⟩

end NB3
end Go.Proofs.YtfnginkcmcfdfaaGreatDoor

set_option maxRecDepth 20000
set_option maxHeartbeats 2000000
namespace Go.Proofs.YtfnginkcmcfdfaaGreatDoor
namespace NU3
open Go.RowKit Go.GL Go.Proofs
open Go.Proofs.YtfnginkcmcfdfaaGreatDoor.B1
open Go.Proofs.YtfnginkcmcfdfaaGreatDoor.C1
open Go.Proofs.YtfnginkcmcfdfaaGreatDoor.D1
open Go.Proofs.YtfnginkcmcfdfaaGreatDoor.E1
open Go.Proofs.YtfnginkcmcfdfaaGreatDoor.K1
open Go.Proofs.YtfnginkcmcfdfaaGreatDoor.PO1
open Go.Proofs.YtfnginkcmcfdfaaGreatDoor.PL1
open Go.Proofs.YtfnginkcmcfdfaaGreatDoor.NU1

theorem pl34 : (Tryz.prog.underlying 34).bind (placesD Tryz.prog) = some [(0, 1), (1, 1)] := by kernel_rfl


theorem l2Make_spec {w : World} {G : Pin} {t : Int} {p : Nat} (hP : Pins G w) (hb : -1000000000000000 ≤ t ∧ t ≤ 1000000000000000) (hp : p ≤ 64) :
  Calls Tryz.prog 167 [(.int .i64 t), (.int .i64 (p : Int))].toArray w fun e w' => ∃ G', e = .returned (.agg [.int .i64 (lowD p t).1, .int .i64 (((lowD p t).2 : Nat) : Int)].toArray) ∧ Ext noS G w G' w' := by
 refine zZ (n := 19) Tryz.func167 Tryz.ntmps167 rfl rfl ?_
 have hX0 : Ext noS G w G w := Ext.refl hP
 refine zD (zG ?_)
 refine qI rfl (yY [(.int .i64 0), (.int .i64 0)] zr34 rfl hX0.pins (fun b1 w2 hk3 hb4 hp5 hl6 => ?_))
 have hX7 := hX0.step hp5 hl6
 have hlo8 : w.heap.size ≤ b1 := by have := hX0.size; omega
 refine qe (zA (zD ?_))
 refine yD ?_
 refine yU (fun (k : Nat) (en : Nat → Value) (W : World) => ∃ (env1 : Nat → Value) (a : Int) (zp : Int) (GL1 : Pin), en = (upd (upd (upd env1 0 (.int .i64 a)) 1 (.int .i64 zp)) 4 (.pointer (some ⟨b1, 0, none⟩))) ∧ k = zp.toNat ∧ Ext noS G w GL1 W ∧ Pin.le G GL1 ∧ (lowD p t = lowD zp.toNat a) ∧ (0 ≤ zp ∧ zp ≤ 64) ∧ (-1000000000000000 ≤ a ∧ a ≤ 1000000000000000) ∧ (Bx GL1 W b1 [(.int .i64 0), (.int .i64 0)])) _ ⟨_, t, (p : Int), G, (zF (x := 4) (zF (x := 1) (zW (x := 0) rfl) rfl) rfl), rfl, hX7, Pin.le_refl _, (by rw [Int.toNat_natCast]), (by omega), hb, hb4⟩ ?_
 rintro k9 _ w10 ⟨env1, a, zp, GL1, rfl, hk11, hX12, hlek9, hr, hz, hab, hw13⟩
 refine zD (zD (zG ?_))
 refine qD rfl (zB (v := (.int .i64 zp)) rfl) ?_
 refine qD rfl (r_gtr rfl rfl) ?_
 refine qD rfl (zB (v := (.bool (decide ((0 : Int) < zp)))) rfl) ?_
 refine qbd (p := (0 : Int) < zp) (t := 7) rfl (fun h14 => ?_) (fun h14 => ?_)
 ·skip
  refine qdg rfl rfl rfl rfl rfl rfl (zB (v := (.int .i64 a)) rfl) ?_
  refine qdg rfl rfl rfl rfl rfl rfl (r_rem2 rfl rfl) ?_
  refine qdg rfl rfl rfl rfl rfl rfl (r_eql rfl rfl) ?_
  refine qD rfl (xD (v := (.bool (decide ((a.tmod 2 : Int) = 0)))) rfl rfl) ?_
  refine qe (zA ?_)
  refine yB (p := (a.tmod 2 : Int) = 0) rfl rfl (fun h15 => ?_) (fun h15 => ?_)
  ·skip
   refine wp_skip ?_
   refine zA ?_
   refine yD ?_
   refine zD (zG ?_)
   refine qD rfl (zB (v := (.int .i64 a)) rfl) ?_
   refine qD rfl (r_quo2 rfl rfl ((tmod2 _).1 h15) (by omega)) ?_
   refine qD rfl (zC (v := (.int .i64 (a / 2))) rfl) ?_
   refine qe (zA (zG ?_))
   refine qD rfl (zB (v := (.int .i64 zp)) rfl) ?_
   refine qD rfl (r_sub rfl rfl (by omega)) ?_
   refine qD rfl (zC (v := (.int .i64 (zp - 1))) rfl) ?_
   refine qe ?_
   refine yJ ?_
   refine yM ?_
   refine ⟨_, ?_, _, rfl, _, a / 2, zp - 1, GL1, (zF (x := 4) (zF (x := 1) (zW (x := 0) rfl) rfl) rfl), rfl, hX12, hlek9, (hr.trans (low_even (by omega) h15)), (by omega), (by omega), hw13⟩
   omega
  refine wp_exit ?_
  refine yC ?_
  refine yN ?_
  refine yK ?_
  refine zA (zD (zG ?_))
  refine qD rfl (zB (v := (.int .i64 a)) rfl) ?_
  refine qD rfl (zB (v := (.int .i64 zp)) rfl) ?_
  refine qD rfl (xE [(.int .i64 0), (.int .i64 0)] [(.int .i64 a), (.int .i64 zp)] [(0, (.int .i64 a), [(.int .i64 a)]), (1, (.int .i64 zp), [(.int .i64 zp)])] Tryz.underlying34 zr34 rfl pl34 rfl (List.forall_mem_cons.2 ⟨rfl, (List.forall_mem_cons.2 ⟨rfl, (fun _ h => by cases h)⟩)⟩) rfl) ?_
  refine q0 rfl rfl rfl (xA (cs' := [(.int .i64 a), (.int .i64 zp)]) (us := [(.int .i64 a), (.int .i64 zp)]) (v := (.agg [(.int .i64 a), (.int .i64 zp)].toArray)) sz34 rfl rfl rfl (qB (by rfl) (by rfl)) hX12.pins hw13 (Nat.le_of_ble_eq_true rfl) rfl (fun w16 hb17 hp18 hg19 hz20 => ?_))
  have hX21 := hX12.write hp18 hg19 ((yL hlo8))
  refine qe (zA ?_)
  refine wp_ret ?_
  refine zT ?_
  refine c_retc (cs := [(.int .i64 a), (.int .i64 zp)]) rfl rfl rfl ag34 sz34 (fun j u hj => by rw [Nat.zero_add]; exact hb17.cell hj) ?_
  have hst := hr.trans (low_stop hz.1 (by first | exact Or.inl h15 | exact Or.inr h15))
  have hz3 : ((zp.toNat : Nat) : Int) = zp := Int.toNat_of_nonneg hz.1
  exact ⟨_, by rw [hst]; simp only [hz3], hX21⟩
 refine qs rfl rfl rfl rfl rfl rfl ?_
 refine qs rfl rfl rfl rfl rfl rfl ?_
 refine qs rfl rfl rfl rfl rfl rfl ?_
 refine qD rfl (yO (v := (.bool false)) rfl rfl) ?_
 refine qe (zA ?_)
 refine qE rfl rfl ?_
 refine wp_exit ?_
 refine yC ?_
 refine yN ?_
 refine yK ?_
 refine zA (zD (zG ?_))
 refine qD rfl (zB (v := (.int .i64 a)) rfl) ?_
 refine qD rfl (zB (v := (.int .i64 zp)) rfl) ?_
 refine qD rfl (xE [(.int .i64 0), (.int .i64 0)] [(.int .i64 a), (.int .i64 zp)] [(0, (.int .i64 a), [(.int .i64 a)]), (1, (.int .i64 zp), [(.int .i64 zp)])] Tryz.underlying34 zr34 rfl pl34 rfl (List.forall_mem_cons.2 ⟨rfl, (List.forall_mem_cons.2 ⟨rfl, (fun _ h => by cases h)⟩)⟩) rfl) ?_
 refine q0 rfl rfl rfl (xA (cs' := [(.int .i64 a), (.int .i64 zp)]) (us := [(.int .i64 a), (.int .i64 zp)]) (v := (.agg [(.int .i64 a), (.int .i64 zp)].toArray)) sz34 rfl rfl rfl (qB (by rfl) (by rfl)) hX12.pins hw13 (Nat.le_of_ble_eq_true rfl) rfl (fun w22 hb23 hp24 hg25 hz26 => ?_))
 have hX27 := hX12.write hp24 hg25 ((yL hlo8))
 refine qe (zA ?_)
 refine wp_ret ?_
 refine zT ?_
 refine c_retc (cs := [(.int .i64 a), (.int .i64 zp)]) rfl rfl rfl ag34 sz34 (fun j u hj => by rw [Nat.zero_add]; exact hb23.cell hj) ?_
 have hst := hr.trans (low_stop hz.1 (by first | exact Or.inl h14 | exact Or.inr h14))
 have hz3 : ((zp.toNat : Nat) : Int) = zp := Int.toNat_of_nonneg hz.1
 exact ⟨_, by rw [hst]; simp only [hz3], hX27⟩

end NU3
end Go.Proofs.YtfnginkcmcfdfaaGreatDoor

set_option maxRecDepth 20000
set_option maxHeartbeats 2000000
namespace Go.Proofs.YtfnginkcmcfdfaaGreatDoor
namespace NB4
open Go.RowKit Go.GL Go.Proofs
open Go.Proofs.YtfnginkcmcfdfaaGreatDoor.B1
open Go.Proofs.YtfnginkcmcfdfaaGreatDoor.C1
open Go.Proofs.YtfnginkcmcfdfaaGreatDoor.D1
open Go.Proofs.YtfnginkcmcfdfaaGreatDoor.E1
open Go.Proofs.YtfnginkcmcfdfaaGreatDoor.NU1
open Go.Proofs.YtfnginkcmcfdfaaGreatDoor.NU3







theorem pl34 : (Tryz.prog.underlying 34).bind (placesD Tryz.prog) = some [(0, 1), (1, 1)] := by kernel_rfl



theorem l2Scaled_spec {w : World} {G : Pin} {t z : Int} (hP : Pins G w) (ht : -10000000 ≤ t ∧ t ≤ 10000000) (hz : 0 ≤ z ∧ z ≤ 24) :
  Calls Tryz.prog 128 [(.agg [(.int .i64 t), (.int .i64 z)].toArray)].toArray w fun e w' => ∃ G', e = .returned (.int .i64 (scI 24 t z)) ∧ Ext noS G w G' w' := by
 refine zZ (n := 10) Tryz.func128 Tryz.ntmps128 rfl rfl ?_
 have hX0 : Ext noS G w G w := Ext.refl hP
 have hsl := shl_lim (t := t) (k := (24 - z).toNat) ht (by omega)
 refine zD (zG ?_)
 refine qI rfl (xT [(.int .i64 t), (.int .i64 z)] (v := (.agg [(.int .i64 t), (.int .i64 z)].toArray)) rfl rfl hX0.pins (fun b1 w2 hk3 hb4 hp5 hl6 => ?_))
 have hX7 := hX0.step hp5 hl6
 have hlo8 : w.heap.size ≤ b1 := by have := hX0.size; omega
 obtain ⟨G9, hle10, hX11, hbp12, hf13⟩ := hb4.shut hX7 hlo8
 refine qD rfl (zC (v := (.int .i64 0)) rfl) ?_
 refine qe (zA (zD (zG ?_)))
 refine qD rfl (zN (k := 0) rfl Tryz.underlying34 rfl nz3 rfl) ?_
 refine qD rfl (zO (u := (.int .i64 t)) ag3 rfl (hX11.pins _ _ _ (hbp12 0 _ rfl))) ?_
 refine qD rfl (zN (k := 1) rfl Tryz.underlying34 rfl nz3 rfl) ?_
 refine qD rfl (zO (u := (.int .i64 z)) ag3 rfl (hX11.pins _ _ _ (hbp12 1 _ rfl))) ?_
 refine qD rfl (r_sub rfl rfl (by omega)) ?_
 refine qD rfl (r_conv (j := 24 - z) Tryz.underlying3 Tryz.underlying155 rfl (wrapU (by omega))) ?_
 refine qD rfl (r_shlI rfl rfl (by omega) (by omega)) ?_
 refine qD rfl (zC (v := (.int .i64 (t * 2 ^ (24 - z : Int).toNat))) rfl) ?_
 refine qe (zA ?_)
 refine wp_ret ?_
 refine zT ?_
 refine zQ (v := (.int .i64 (t * 2 ^ (24 - z : Int).toNat))) rfl rfl rfl ?_
 exact ⟨_, rfl, hX11⟩

theorem l2Neg_spec {w : World} {G : Pin} {t z : Int} (hP : Pins G w) (ht : -1000000000000 ≤ t ∧ t ≤ 1000000000000) :
  Calls Tryz.prog 147 [(.agg [(.int .i64 t), (.int .i64 z)].toArray)].toArray w fun e w' => ∃ G', e = .returned (.agg [.int .i64 (-t), .int .i64 z].toArray) ∧ Ext noS G w G' w' := by
 refine zZ (n := 9) Tryz.func147 Tryz.ntmps147 rfl rfl ?_
 have hX0 : Ext noS G w G w := Ext.refl hP
 refine zD (zG ?_)
 refine qI rfl (xT [(.int .i64 t), (.int .i64 z)] (v := (.agg [(.int .i64 t), (.int .i64 z)].toArray)) rfl rfl hX0.pins (fun b1 w2 hk3 hb4 hp5 hl6 => ?_))
 have hX7 := hX0.step hp5 hl6
 have hlo8 : w.heap.size ≤ b1 := by have := hX0.size; omega
 obtain ⟨G9, hle10, hX11, hbp12, hf13⟩ := hb4.shut hX7 hlo8
 refine qI rfl (yY [(.int .i64 0), (.int .i64 0)] zr34 rfl hX11.pins (fun b14 w15 hk16 hb17 hp18 hl19 => ?_))
 have hX20 := hX11.step hp18 hl19
 have hlo21 : w.heap.size ≤ b14 := by have := hX11.size; omega
 refine qe (zA (zD (zG ?_)))
 refine qD rfl (zN (k := 0) rfl Tryz.underlying34 rfl nz3 rfl) ?_
 refine qD rfl (zO (u := (.int .i64 t)) ag3 rfl (hX20.pins _ _ _ (hbp12 0 _ rfl))) ?_
 refine qD rfl (r_neg rfl (by omega)) ?_
 refine qD rfl (zN (k := 1) rfl Tryz.underlying34 rfl nz3 rfl) ?_
 refine qD rfl (zO (u := (.int .i64 z)) ag3 rfl (hX20.pins _ _ _ (hbp12 1 _ rfl))) ?_
 refine qD rfl (xE [(.int .i64 0), (.int .i64 0)] [(.int .i64 (-t)), (.int .i64 z)] [(0, (.int .i64 (-t)), [(.int .i64 (-t))]), (1, (.int .i64 z), [(.int .i64 z)])] Tryz.underlying34 zr34 rfl pl34 rfl (List.forall_mem_cons.2 ⟨rfl, (List.forall_mem_cons.2 ⟨rfl, (fun _ h => by cases h)⟩)⟩) rfl) ?_
 refine q0 rfl rfl rfl (xA (cs' := [(.int .i64 (-t)), (.int .i64 z)]) (us := [(.int .i64 (-t)), (.int .i64 z)]) (v := (.agg [(.int .i64 (-t)), (.int .i64 z)].toArray)) sz34 rfl rfl rfl (qB (by rfl) (by rfl)) hX20.pins hb17 (Nat.le_of_ble_eq_true rfl) rfl (fun w22 hb23 hp24 hg25 hz26 => ?_))
 have hX27 := hX20.write hp24 hg25 ((yL hlo21))
 refine qe (zA ?_)
 refine wp_ret ?_
 refine zT ?_
 refine c_retc (cs := [(.int .i64 (-t)), (.int .i64 z)]) rfl rfl rfl ag34 sz34 (fun j u hj => by rw [Nat.zero_add]; exact hb23.cell hj) ?_
 exact ⟨_, rfl, hX27⟩

theorem l2Add_spec {w : World} {G : Pin} {t z s y : Int} (hP : Pins G w) (ht : -10000000 ≤ t ∧ t ≤ 10000000) (hz : 0 ≤ z ∧ z ≤ 24) (hs : -10000000 ≤ s ∧ s ≤ 10000000) (hy : 0 ≤ y ∧ y ≤ 24) :
  Calls Tryz.prog 146 [(.agg [(.int .i64 t), (.int .i64 z)].toArray), (.agg [(.int .i64 s), (.int .i64 y)].toArray)].toArray w fun e w' => ∃ G', e = .returned (.agg [.int .i64 (lowD 24 (scI 24 t z + scI 24 s y)).1, .int .i64 (((lowD 24 (scI 24 t z + scI 24 s y)).2 : Nat) : Int)].toArray) ∧ Ext noS G w G' w' := by
 refine zZ (n := 11) Tryz.func146 Tryz.ntmps146 rfl rfl ?_
 have hX0 : Ext noS G w G w := Ext.refl hP
 have hl1 := scI_lim (D := 24) (t := t) (z := z) ht (by omega)
 have hl2 := scI_lim (D := 24) (t := s) (z := y) hs (by omega)
 refine zD (zG ?_)
 refine qI rfl (xT [(.int .i64 t), (.int .i64 z)] (v := (.agg [(.int .i64 t), (.int .i64 z)].toArray)) rfl rfl hX0.pins (fun b1 w2 hk3 hb4 hp5 hl6 => ?_))
 have hX7 := hX0.step hp5 hl6
 have hlo8 : w.heap.size ≤ b1 := by have := hX0.size; omega
 obtain ⟨G9, hle10, hX11, hbp12, hf13⟩ := hb4.shut hX7 hlo8
 refine qI rfl (xT [(.int .i64 s), (.int .i64 y)] (v := (.agg [(.int .i64 s), (.int .i64 y)].toArray)) rfl rfl hX11.pins (fun b14 w15 hk16 hb17 hp18 hl19 => ?_))
 have hX20 := hX11.step hp18 hl19
 have hlo21 : w.heap.size ≤ b14 := by have := hX11.size; omega
 obtain ⟨G22, hle23, hX24, hbp25, hf26⟩ := hb17.shut hX20 hlo21
 refine qI rfl (yY [(.int .i64 0), (.int .i64 0)] zr34 rfl hX24.pins (fun b27 w28 hk29 hb30 hp31 hl32 => ?_))
 have hX33 := hX24.step hp31 hl32
 have hlo34 : w.heap.size ≤ b27 := by have := hX24.size; omega
 refine qe (zA (zD ?_))
 refine xJ (S := fun wz => Pins G22 wz) (last := 6) (by kernel_rfl) rfl ?_
 have hl35 : Below w28.heap.size w28 w28.drew := (Below.refl _ _).drew
 have hp36 := hX33.pins.below hl35
 have hX37 := hX33.step hp36 hl35
 have hb38 := hb30.below hl35
 refine dT (i := 0) rfl rfl (by kernel_rfl) (fun _ hS => yP (cs := [(.int .i64 t), (.int .i64 z)]) ag34 sz34 rfl (fun j u hj => (Pins.of_le hS hle23) _ _ _ (hbp12 _ _ (by simpa using hj)))) hX37.pins ?_
 refine dT (i := 2) rfl rfl (by kernel_rfl) (fun _ hS => yP (cs := [(.int .i64 s), (.int .i64 y)]) ag34 sz34 rfl (fun j u hj => hS _ _ _ (hbp25 _ _ (by simpa using hj)))) hX37.pins ?_
 refine zR (i := 1) (by kernel_rfl) (zU (i := 1) rfl rfl rfl (zH rfl _) (zM (vs := [(.agg [(.int .i64 t), (.int .i64 z)].toArray)]) Tryz.func128 nm128 rfl rfl rfl ?_))
 refine Calls.mono (l2Scaled_spec (t := t) (z := z) hX37.pins (by omega) (by omega)) ?_
 rintro _ w40 ⟨G39, rfl, hx41⟩
 refine ⟨_, rfl, ?_⟩
 have hX42 := hX37.tr hx41
 have hb43 := hb38.ext hx41
 refine ⟨fun _ => (Pins.of_le hX42.pins hx41.le), ?_⟩
 refine zR (i := 3) (by kernel_rfl) (zU (i := 3) rfl rfl rfl (zH rfl _) (zM (vs := [(.agg [(.int .i64 s), (.int .i64 y)].toArray)]) Tryz.func128 nm128 rfl rfl rfl ?_))
 refine Calls.mono (l2Scaled_spec (t := s) (z := y) hX42.pins (by omega) (by omega)) ?_
 rintro _ w45 ⟨G44, rfl, hx46⟩
 refine ⟨_, rfl, ?_⟩
 have hX47 := hX42.tr hx46
 have hb48 := hb43.ext hx46
 refine ⟨fun _ => (Pins.of_le hX47.pins (Pin.le_trans hx41.le hx46.le)), ?_⟩
 refine dT (i := 4) rfl rfl (by kernel_rfl) (fun _ _ => yQ rfl rfl (by omega)) (Pins.of_le hX47.pins (Pin.le_trans hx41.le hx46.le)) ?_
 refine zR (i := 5) (by kernel_rfl) (zU (i := 5) rfl rfl rfl (zH rfl _) (zM (vs := [(.int .i64 ((scI 24 t z) + (scI 24 s y))), (.int .i64 24)]) Tryz.func167 nm167 rfl rfl rfl ?_))
 refine Calls.mono (l2Make_spec (p := 24) hX47.pins (by omega) (by omega)) ?_
 rintro _ w50 ⟨G49, rfl, hx51⟩
 refine ⟨_, rfl, ?_⟩
 have hX52 := hX47.tr hx51
 have hb53 := hb48.ext hx51
 refine ⟨fun _ => (Pins.of_le hX52.pins (Pin.le_trans (Pin.le_trans hx41.le hx46.le) hx51.le)), ?_⟩
 refine zR (i := 6) (by kernel_rfl) (drOp0 (i := 6) rfl rfl rfl (zH rfl _) (xA (cs' := [(.int .i64 ((lowD 24 ((scI 24 t z) + (scI 24 s y))).1)), (.int .i64 (((lowD 24 ((scI 24 t z) + (scI 24 s y))).2 : Nat) : Int))]) (us := [(.int .i64 ((lowD 24 ((scI 24 t z) + (scI 24 s y))).1)), (.int .i64 (((lowD 24 ((scI 24 t z) + (scI 24 s y))).2 : Nat) : Int))]) (v := (.agg [(.int .i64 ((lowD 24 ((scI 24 t z) + (scI 24 s y))).1)), (.int .i64 (((lowD 24 ((scI 24 t z) + (scI 24 s y))).2 : Nat) : Int))].toArray)) sz34 rfl rfl rfl (qB (by rfl) (by rfl)) hX52.pins hb53 (Nat.le_of_ble_eq_true rfl) rfl (fun w54 hb55 hp56 hg57 hz58 => ?_)))
 have hX59 := hX52.write hp56 hg57 ((yL hlo34))
 refine ⟨fun h => absurd rfl h, ?_⟩
 refine yS (by kernel_rfl) ?_
 refine zA ?_
 refine wp_ret ?_
 refine zT ?_
 refine c_retc (cs := [(.int .i64 ((lowD 24 ((scI 24 t z) + (scI 24 s y))).1)), (.int .i64 (((lowD 24 ((scI 24 t z) + (scI 24 s y))).2 : Nat) : Int))]) rfl rfl rfl ag34 sz34 (fun j u hj => by rw [Nat.zero_add]; exact hb55.cell hj) ?_
 exact ⟨_, rfl, hX59⟩

theorem l2AddS_spec {w : World} {G : Pin} {t u s : Int} {p : Nat} (hP : Pins G w) (hs : t + u = s) (ht : -10000000 ≤ t ∧ t ≤ 10000000) (hu : -10000000 ≤ u ∧ u ≤ 10000000) (hp : p ≤ 24) :
  Calls Tryz.prog 146 [(.agg [.int .i64 t, .int .i64 (p : Int)].toArray), (.agg [.int .i64 u, .int .i64 (p : Int)].toArray)].toArray w fun e w' => ∃ G', e = .returned (.agg [.int .i64 (lowD p s).1, .int .i64 (((lowD p s).2 : Nat) : Int)].toArray) ∧ Ext noS G w G' w' := by
 refine (l2Add_spec (t := t) (s := u) (z := (p : Int)) (y := (p : Int)) hP ht (by omega) hu (by omega)).mono ?_
 rintro e w' ⟨G', rfl, hx⟩
 exact ⟨G', by rw [low_add24 hp, hs], hx⟩

theorem l2Floor_spec {w : World} {G : Pin} {t z : Int} (hP : Pins G w) (ht : -10000000 ≤ t ∧ t ≤ 10000000) (hz : 0 ≤ z ∧ z ≤ 24) :
  Calls Tryz.prog 145 [(.agg [(.int .i64 t), (.int .i64 z)].toArray)].toArray w fun e w' => ∃ G', e = .returned (.int .i64 (Int.fdiv (scI 24 t z) (2 ^ (min (24 : Int).toNat 64)))) ∧ Ext noS G w G' w' := by
 refine zZ (n := 6) Tryz.func145 Tryz.ntmps145 rfl rfl ?_
 have hX0 : Ext noS G w G w := Ext.refl hP
 refine zD (zG ?_)
 refine qI rfl (xT [(.int .i64 t), (.int .i64 z)] (v := (.agg [(.int .i64 t), (.int .i64 z)].toArray)) rfl rfl hX0.pins (fun b1 w2 hk3 hb4 hp5 hl6 => ?_))
 have hX7 := hX0.step hp5 hl6
 have hlo8 : w.heap.size ≤ b1 := by have := hX0.size; omega
 obtain ⟨G9, hle10, hX11, hbp12, hf13⟩ := hb4.shut hX7 hlo8
 refine qD rfl (zC (v := (.int .i64 0)) rfl) ?_
 refine qe (zA (zD (zG ?_)))
 refine qD rfl (yP (cs := [(.int .i64 t), (.int .i64 z)]) ag34 sz34 rfl (fun j u hj => hX11.pins _ _ _ (hbp12 _ _ (by simpa using hj)))) ?_
 refine qI rfl (zM (vs := [(.agg [(.int .i64 t), (.int .i64 z)].toArray)]) Tryz.func128 nm128 rfl rfl rfl ?_)
 refine Calls.mono (l2Scaled_spec (t := t) (z := z) hX11.pins (by omega) (by omega)) ?_
 rintro _ w15 ⟨G14, rfl, hx16⟩
 refine ⟨_, rfl, ?_⟩
 have hX17 := hX11.tr hx16
 refine qD rfl (r_shrI rfl rfl (by omega)) ?_
 refine qD rfl (zC (v := (.int .i64 (Int.fdiv (scI 24 t z) (2 ^ (min (24 : Int).toNat 64))))) rfl) ?_
 refine qe (zA ?_)
 refine wp_ret ?_
 refine zT ?_
 refine zQ (v := (.int .i64 (Int.fdiv (scI 24 t z) (2 ^ (min (24 : Int).toNat 64))))) rfl rfl rfl ?_
 exact ⟨_, rfl, hX17⟩

theorem l2FloorP_spec {w : World} {G : Pin} {t : Int} {p : Nat} (hP : Pins G w) (ht : 0 ≤ t ∧ t ≤ 10000000) (hp : p ≤ 24) :
  Calls Tryz.prog 145 [(.agg [.int .i64 t, .int .i64 (p : Int)].toArray)].toArray w fun e w' => ∃ G', e = .returned (.int .i64 ((t.natAbs / 2 ^ p : Nat) : Int)) ∧ Ext noS G w G' w' := by
 refine (l2Floor_spec (t := t) (z := (p : Int)) hP (by omega) (by omega)).mono ?_
 rintro e w' ⟨G', rfl, hx⟩
 exact ⟨G', by rw [floor_nat ht.1 hp], hx⟩

theorem l2Born_spec {w : World} {G : Pin} {t : Int} {dp : Nat} (hP : Pins G w) (ht : -10000000 ≤ t ∧ t ≤ 10000000) (hd : dp ≤ 16) :
  Calls Tryz.prog 106 [(.agg [(.int .i64 t), (.int .i64 (dp : Int))].toArray)].toArray w fun e w' => ∃ G', e = .returned (.int .i64 ((bornD dp t : Nat) : Int)) ∧ Ext noS G w G' w' := by
 refine zZ (n := 21) Tryz.func106 Tryz.ntmps106 rfl rfl ?_
 have hX0 : Ext noS G w G w := Ext.refl hP
 refine zD (zG ?_)
 refine qI rfl (xT [(.int .i64 t), (.int .i64 (dp : Int))] (v := (.agg [(.int .i64 t), (.int .i64 (dp : Int))].toArray)) rfl rfl hX0.pins (fun b1 w2 hk3 hb4 hp5 hl6 => ?_))
 have hX7 := hX0.step hp5 hl6
 have hlo8 : w.heap.size ≤ b1 := by have := hX0.size; omega
 refine qD rfl (zC (v := (.int .i64 0)) rfl) ?_
 refine qe (zA (zD (zD (zG ?_))))
 refine qD rfl (zN (k := 0) rfl Tryz.underlying34 rfl nz3 rfl) ?_
 refine qD rfl (zO (u := (.int .i64 t)) ag3 rfl (hb4.cell (o := 0) rfl)) ?_
 refine qD rfl (yV rfl rfl) ?_
 refine qe (zA ?_)
 refine yB (p := (t : Int) < 0) rfl rfl (fun h9 => ?_) (fun h9 => ?_)
 ·skip
  refine zG ?_
  refine qD rfl (zN (k := 0) rfl Tryz.underlying34 rfl nz3 rfl) ?_
  refine qD rfl (zO (u := (.int .i64 t)) ag3 rfl (hb4.cell (o := 0) rfl)) ?_
  refine qD rfl (r_neg rfl (by omega)) ?_
  refine qD rfl (zN (k := 0) rfl Tryz.underlying34 rfl nz3 rfl) ?_
  refine q0 rfl rfl rfl (xA (cs' := [(.int .i64 (-t)), (.int .i64 (dp : Int))]) (us := [(.int .i64 (-t))]) (v := (.int .i64 (-t))) sz3 rfl rfl rfl (yR (by rfl)) hX7.pins hb4 (Nat.le_of_ble_eq_true rfl) rfl (fun w10 hb11 hp12 hg13 hz14 => ?_))
  have hX15 := hX7.write hp12 hg13 ((yL hlo8))
  refine qe (zA (zD (zD (zG ?_))))
  refine qD rfl (zN (k := 1) rfl Tryz.underlying34 rfl nz3 rfl) ?_
  refine qD rfl (zO (u := (.int .i64 (dp : Int))) ag3 rfl (hb11.cell (o := 1) rfl)) ?_
  refine qD rfl (r_eql rfl rfl) ?_
  refine qe (zA ?_)
  refine yB (p := ((dp : Int) : Int) = 0) rfl rfl (fun h16 => ?_) (fun h16 => ?_)
  ·skip
   refine zD (zG ?_)
   refine qD rfl (zN (k := 0) rfl Tryz.underlying34 rfl nz3 rfl) ?_
   refine qD rfl (zO (u := (.int .i64 (-t))) ag3 rfl (hb11.cell (o := 0) rfl)) ?_
   refine qD rfl (zC (v := (.int .i64 (-t))) rfl) ?_
   refine qe (zA ?_)
   refine wp_ret ?_
   refine zT ?_
   refine zQ (v := (.int .i64 (-t))) rfl rfl rfl ?_
   exact ⟨_, congrArg (fun z => Ending.returned (Value.int .i64 z)) (by first | (rw [show dp = 0 by omega]; show _ = ((t.natAbs : Nat) : Int); omega) | (rw [show bornD dp t = t.natAbs / 2 ^ dp + dp + 1 from if_neg (by omega)]; (try rw [Int.natAbs_neg]); omega)), hX15⟩
  refine wp_skip ?_
  refine zA (zD ?_)
  refine xJ (S := fun wz => BxR wz b1 [(.int .i64 (-t)), (.int .i64 (dp : Int))]) (last := 7) (by kernel_rfl) rfl ?_
  have hl17 : Below w10.heap.size w10 w10.drew := (Below.refl _ _).drew
  have hp18 := hX15.pins.below hl17
  have hX19 := hX15.step hp18 hl17
  have hb20 := hb11.below hl17
  refine dT (i := 0) rfl rfl (by kernel_rfl) (fun _ hS => yP (cs := [(.int .i64 (-t)), (.int .i64 (dp : Int))]) ag34 sz34 rfl (fun j u hj => hS _ _ (by simpa using hj))) hb20.reads ?_
  refine dT (i := 2) rfl rfl (by kernel_rfl) (fun _ _ => zN (k := 1) rfl Tryz.underlying34 rfl nz3 rfl) hb20.reads ?_
  refine dT (i := 3) rfl rfl (by kernel_rfl) (fun _ hS => zO (u := (.int .i64 (dp : Int))) ag3 rfl (hS 1 _ rfl)) hb20.reads ?_
  have hfn24 : 0 ≤ (((-t).natAbs / 2 ^ dp : Nat) : Int) := Int.natCast_nonneg _
  have hfb25 := Nat.div_le_self (-t).natAbs (2 ^ dp)
  refine zR (i := 1) (by kernel_rfl) (zU (i := 1) rfl rfl rfl (zH rfl _) (zM (vs := [(.agg [(.int .i64 (-t)), (.int .i64 (dp : Int))].toArray)]) Tryz.func145 nm145 rfl rfl rfl ?_))
  refine Calls.mono (l2FloorP_spec (t := -t) (p := dp) hX19.pins (by omega) (by omega)) ?_
  rintro _ w22 ⟨G21, rfl, hx23⟩
  refine ⟨_, rfl, ?_⟩
  have hX26 := hX19.tr hx23
  have hb27 := hb20.ext hx23
  refine ⟨fun _ => hb27.reads, ?_⟩
  refine dT (i := 4) rfl rfl (by kernel_rfl) (fun _ _ => yQ rfl rfl (by omega)) hb27.reads ?_
  refine dT (i := 5) rfl rfl (by kernel_rfl) (fun _ _ => yQ rfl rfl (by omega)) hb27.reads ?_
  refine dT (i := 6) rfl rfl (by kernel_rfl) (fun _ _ => zC (v := (.int .i64 (((((-t).natAbs / 2 ^ dp : Nat) : Int) + (dp : Int)) + 1))) rfl) hb27.reads ?_
  refine yS (by kernel_rfl) ?_
  refine zA ?_
  refine wp_ret ?_
  refine zT ?_
  refine zQ (v := (.int .i64 (((((-t).natAbs / 2 ^ dp : Nat) : Int) + (dp : Int)) + 1))) rfl rfl rfl ?_
  exact ⟨_, congrArg (fun z => Ending.returned (Value.int .i64 z)) (by first | (rw [show dp = 0 by omega]; show _ = ((t.natAbs : Nat) : Int); omega) | (rw [show bornD dp t = t.natAbs / 2 ^ dp + dp + 1 from if_neg (by omega)]; (try rw [Int.natAbs_neg]); omega)), hX26⟩
 refine wp_skip ?_
 refine zA (zD (zD (zG ?_)))
 refine qD rfl (zN (k := 1) rfl Tryz.underlying34 rfl nz3 rfl) ?_
 refine qD rfl (zO (u := (.int .i64 (dp : Int))) ag3 rfl (hb4.cell (o := 1) rfl)) ?_
 refine qD rfl (r_eql rfl rfl) ?_
 refine qe (zA ?_)
 refine yB (p := ((dp : Int) : Int) = 0) rfl rfl (fun h28 => ?_) (fun h28 => ?_)
 ·skip
  refine zD (zG ?_)
  refine qD rfl (zN (k := 0) rfl Tryz.underlying34 rfl nz3 rfl) ?_
  refine qD rfl (zO (u := (.int .i64 t)) ag3 rfl (hb4.cell (o := 0) rfl)) ?_
  refine qD rfl (zC (v := (.int .i64 t)) rfl) ?_
  refine qe (zA ?_)
  refine wp_ret ?_
  refine zT ?_
  refine zQ (v := (.int .i64 t)) rfl rfl rfl ?_
  exact ⟨_, congrArg (fun z => Ending.returned (Value.int .i64 z)) (by first | (rw [show dp = 0 by omega]; show _ = ((t.natAbs : Nat) : Int); omega) | (rw [show bornD dp t = t.natAbs / 2 ^ dp + dp + 1 from if_neg (by omega)]; (try rw [Int.natAbs_neg]); omega)), hX7⟩
 refine wp_skip ?_
 refine zA (zD ?_)
 refine xJ (S := fun wz => BxR wz b1 [(.int .i64 t), (.int .i64 (dp : Int))]) (last := 7) (by kernel_rfl) rfl ?_
 have hl29 : Below w2.heap.size w2 w2.drew := (Below.refl _ _).drew
 have hp30 := hX7.pins.below hl29
 have hX31 := hX7.step hp30 hl29
 have hb32 := hb4.below hl29
 refine dT (i := 0) rfl rfl (by kernel_rfl) (fun _ hS => yP (cs := [(.int .i64 t), (.int .i64 (dp : Int))]) ag34 sz34 rfl (fun j u hj => hS _ _ (by simpa using hj))) hb32.reads ?_
 refine dT (i := 2) rfl rfl (by kernel_rfl) (fun _ _ => zN (k := 1) rfl Tryz.underlying34 rfl nz3 rfl) hb32.reads ?_
 refine dT (i := 3) rfl rfl (by kernel_rfl) (fun _ hS => zO (u := (.int .i64 (dp : Int))) ag3 rfl (hS 1 _ rfl)) hb32.reads ?_
 have hfn36 : 0 ≤ ((t.natAbs / 2 ^ dp : Nat) : Int) := Int.natCast_nonneg _
 have hfb37 := Nat.div_le_self t.natAbs (2 ^ dp)
 refine zR (i := 1) (by kernel_rfl) (zU (i := 1) rfl rfl rfl (zH rfl _) (zM (vs := [(.agg [(.int .i64 t), (.int .i64 (dp : Int))].toArray)]) Tryz.func145 nm145 rfl rfl rfl ?_))
 refine Calls.mono (l2FloorP_spec (t := t) (p := dp) hX31.pins (by omega) (by omega)) ?_
 rintro _ w34 ⟨G33, rfl, hx35⟩
 refine ⟨_, rfl, ?_⟩
 have hX38 := hX31.tr hx35
 have hb39 := hb32.ext hx35
 refine ⟨fun _ => hb39.reads, ?_⟩
 refine dT (i := 4) rfl rfl (by kernel_rfl) (fun _ _ => yQ rfl rfl (by omega)) hb39.reads ?_
 refine dT (i := 5) rfl rfl (by kernel_rfl) (fun _ _ => yQ rfl rfl (by omega)) hb39.reads ?_
 refine dT (i := 6) rfl rfl (by kernel_rfl) (fun _ _ => zC (v := (.int .i64 ((((t.natAbs / 2 ^ dp : Nat) : Int) + (dp : Int)) + 1))) rfl) hb39.reads ?_
 refine yS (by kernel_rfl) ?_
 refine zA ?_
 refine wp_ret ?_
 refine zT ?_
 refine zQ (v := (.int .i64 ((((t.natAbs / 2 ^ dp : Nat) : Int) + (dp : Int)) + 1))) rfl rfl rfl ?_
 exact ⟨_, congrArg (fun z => Ending.returned (Value.int .i64 z)) (by first | (rw [show dp = 0 by omega]; show _ = ((t.natAbs : Nat) : Int); omega) | (rw [show bornD dp t = t.natAbs / 2 ^ dp + dp + 1 from if_neg (by omega)]; (try rw [Int.natAbs_neg]); omega)), hX38⟩

theorem l2Good_spec {w : World} {G : Pin} {t z : Int} (hP : Pins G w) :
  Calls Tryz.prog 56 [(.agg [(.int .i64 t), (.int .i64 z)].toArray)].toArray w fun e w' => ∃ G', e = .returned (.bool (decP (GoodD t z))) ∧ Ext noS G w G' w' := by
 refine zZ (n := 22) Tryz.func56 Tryz.ntmps56 rfl rfl ?_
 have hX0 : Ext noS G w G w := Ext.refl hP
 refine zD (zG ?_)
 refine qI rfl (xT [(.int .i64 t), (.int .i64 z)] (v := (.agg [(.int .i64 t), (.int .i64 z)].toArray)) rfl rfl hX0.pins (fun b1 w2 hk3 hb4 hp5 hl6 => ?_))
 have hX7 := hX0.step hp5 hl6
 have hlo8 : w.heap.size ≤ b1 := by have := hX0.size; omega
 obtain ⟨G9, hle10, hX11, hbp12, hf13⟩ := hb4.shut hX7 hlo8
 refine qD rfl (zC (v := (.bool false)) rfl) ?_
 refine qe (zA (zD (zG ?_)))
 refine qD rfl (zN (k := 0) rfl Tryz.underlying34 rfl nz3 rfl) ?_
 refine qD rfl (zO (u := (.int .i64 t)) ag3 rfl (hX11.pins _ _ _ (hbp12 0 _ rfl))) ?_
 refine qI rfl (zM (vs := [(.int .i64 t), (.int .i64 (-1000000)), (.int .i64 1000000)]) Tryz.func74 nm74 rfl rfl rfl ?_)
 refine Calls.mono (l1In_spec hX11.pins) ?_
 rintro _ _ ⟨rfl, rfl⟩
 refine ⟨_, rfl, ?_⟩
 refine qD rfl (zB (v := (.bool (decide (((-1000000) : Int) ≤ t ∧ (t : Int) ≤ 1000000)))) rfl) ?_
 refine qbd (p := (((-1000000) : Int) ≤ t ∧ (t : Int) ≤ 1000000)) (t := 6) rfl (fun h14 => ?_) (fun h14 => ?_)
 ·skip
  refine qdg rfl rfl rfl rfl rfl rfl (zN (k := 1) rfl Tryz.underlying34 rfl nz3 rfl) ?_
  refine qdg rfl rfl rfl rfl rfl rfl (zO (u := (.int .i64 z)) ag3 rfl (hX11.pins _ _ _ (hbp12 1 _ rfl))) ?_
  refine q1g rfl rfl rfl rfl rfl rfl (zM (vs := [(.int .i64 z), (.int .i64 0), (.int .i64 16)]) Tryz.func74 nm74 rfl rfl rfl ?_)
  refine Calls.mono (l1In_spec hX11.pins) ?_
  rintro _ _ ⟨rfl, rfl⟩
  refine ⟨_, rfl, ?_⟩
  refine qD rfl (xD (v := (.bool (decide ((0 : Int) ≤ z ∧ (z : Int) ≤ 16)))) rfl rfl) ?_
  refine qD rfl (zB (v := (.bool (decide ((0 : Int) ≤ z ∧ (z : Int) ≤ 16)))) rfl) ?_
  refine qbd (p := ((0 : Int) ≤ z ∧ (z : Int) ≤ 16)) (t := 11) rfl (fun h15 => ?_) (fun h15 => ?_)
  ·skip
   refine qdg rfl rfl rfl rfl rfl rfl (zN (k := 1) rfl Tryz.underlying34 rfl nz3 rfl) ?_
   refine qdg rfl rfl rfl rfl rfl rfl (zO (u := (.int .i64 z)) ag3 rfl (hX11.pins _ _ _ (hbp12 1 _ rfl))) ?_
   refine qdg rfl rfl rfl rfl rfl rfl (r_eql rfl rfl) ?_
   refine qdg rfl rfl rfl rfl rfl rfl (zB (v := (.bool (decide ((z : Int) = 0)))) rfl) ?_
   refine qbd (p := (z : Int) = 0) (t := 15) rfl (fun h16 => ?_) (fun h16 => ?_)
   ·skip
    refine qs rfl rfl rfl rfl rfl rfl ?_
    refine qs rfl rfl rfl rfl rfl rfl ?_
    refine qs rfl rfl rfl rfl rfl rfl ?_
    refine qs rfl rfl rfl rfl rfl rfl ?_
    refine qdg rfl rfl rfl rfl rfl rfl (xD (v := (.bool true)) rfl rfl) ?_
    refine qD rfl (xD (v := (.bool true)) rfl rfl) ?_
    refine qD rfl (zC (v := (.bool true)) rfl) ?_
    refine qe (zA ?_)
    refine wp_ret ?_
    refine zT ?_
    refine zQ (v := (.bool true)) rfl rfl rfl ?_
    exact ⟨_, congrArg (fun z => Ending.returned (Value.bool z)) (decP_true.2 ⟨by omega, by omega, by omega⟩).symm, hX11⟩
   refine qdg rfl rfl rfl rfl rfl rfl (zN (k := 0) rfl Tryz.underlying34 rfl nz3 rfl) ?_
   refine qdg rfl rfl rfl rfl rfl rfl (zO (u := (.int .i64 t)) ag3 rfl (hX11.pins _ _ _ (hbp12 0 _ rfl))) ?_
   refine qdg rfl rfl rfl rfl rfl rfl (r_rem2 rfl rfl) ?_
   refine qdg rfl rfl rfl rfl rfl rfl (r_neq rfl rfl) ?_
   refine qdg rfl rfl rfl rfl rfl rfl (yO (v := (.bool (decide ((t.tmod 2 : Int) ≠ 0)))) rfl rfl) ?_
   refine qD rfl (xD (v := (.bool (decide ((t.tmod 2 : Int) ≠ 0)))) rfl rfl) ?_
   refine qD rfl (zC (v := (.bool (decide ((t.tmod 2 : Int) ≠ 0)))) rfl) ?_
   refine qe (zA ?_)
   refine wp_ret ?_
   refine zT ?_
   refine zQ (v := (.bool (decide ((t.tmod 2 : Int) ≠ 0)))) rfl rfl rfl ?_
   exact ⟨_, congrArg (fun z => Ending.returned (Value.bool z)) (decP_dec.symm.trans (decP_iff ⟨fun h => ⟨by omega, by omega, by omega⟩, fun g => by have h1 := g.top; have h2 := g.pow; have h3 := g.odd; omega⟩)), hX11⟩
  refine qs rfl rfl rfl rfl rfl rfl ?_
  refine qs rfl rfl rfl rfl rfl rfl ?_
  refine qs rfl rfl rfl rfl rfl rfl ?_
  refine qs rfl rfl rfl rfl rfl rfl ?_
  refine qsu rfl rfl rfl rfl rfl ?_
  refine qsu rfl rfl rfl rfl rfl ?_
  refine qsu rfl rfl rfl rfl rfl ?_
  refine qsu rfl rfl rfl rfl rfl ?_
  refine qs rfl rfl rfl rfl rfl rfl ?_
  refine qD rfl (yO (v := (.bool false)) rfl rfl) ?_
  refine qD rfl (zC (v := (.bool false)) rfl) ?_
  refine qe (zA ?_)
  refine wp_ret ?_
  refine zT ?_
  refine zQ (v := (.bool false)) rfl rfl rfl ?_
  exact ⟨_, congrArg (fun z => Ending.returned (Value.bool z)) (decP_false.2 (fun g => by have h1 := g.top; have h2 := g.pow; have h3 := g.odd; omega)).symm, hX11⟩
 refine qs rfl rfl rfl rfl rfl rfl ?_
 refine qs rfl rfl rfl rfl rfl rfl ?_
 refine qs rfl rfl rfl rfl rfl rfl ?_
 refine qD rfl (yO (v := (.bool false)) rfl rfl) ?_
 refine qD rfl (zB (v := (.bool false)) rfl) ?_
 refine qs rfl rfl rfl rfl rfl rfl ?_
 refine qs rfl rfl rfl rfl rfl rfl ?_
 refine qs rfl rfl rfl rfl rfl rfl ?_
 refine qs rfl rfl rfl rfl rfl rfl ?_
 refine qsu rfl rfl rfl rfl rfl ?_
 refine qsu rfl rfl rfl rfl rfl ?_
 refine qsu rfl rfl rfl rfl rfl ?_
 refine qsu rfl rfl rfl rfl rfl ?_
 refine qs rfl rfl rfl rfl rfl rfl ?_
 refine qD rfl (yO (v := (.bool false)) rfl rfl) ?_
 refine qD rfl (zC (v := (.bool false)) rfl) ?_
 refine qe (zA ?_)
 refine wp_ret ?_
 refine zT ?_
 refine zQ (v := (.bool false)) rfl rfl rfl ?_
 exact ⟨_, congrArg (fun z => Ending.returned (Value.bool z)) (decP_false.2 (fun g => by have h1 := g.top; have h2 := g.pow; have h3 := g.odd; omega)).symm, hX11⟩

end NB4
end Go.Proofs.YtfnginkcmcfdfaaGreatDoor

set_option maxRecDepth 20000
set_option maxHeartbeats 2000000
namespace Go.Proofs.YtfnginkcmcfdfaaGreatDoor
namespace NB5
open Go.RowKit Go.GL Go.Proofs
open Go.Proofs.YtfnginkcmcfdfaaGreatDoor.B1
open Go.Proofs.YtfnginkcmcfdfaaGreatDoor.C1
open Go.Proofs.YtfnginkcmcfdfaaGreatDoor.D1
open Go.Proofs.YtfnginkcmcfdfaaGreatDoor.E1
open Go.Proofs.YtfnginkcmcfdfaaGreatDoor.NU1
open Go.Proofs.YtfnginkcmcfdfaaGreatDoor.NU3
open Go.Proofs.YtfnginkcmcfdfaaGreatDoor.NB4







theorem pl34 : (Tryz.prog.underlying 34).bind (placesD Tryz.prog) = some [(0, 1), (1, 1)] := by kernel_rfl




def PutP (m : Nat) : Prop := ∀ {w : World} {G : Pin} {b : Nat} {bu bv : Value} {ns : List Nd} {bs : List Int} {t : Int} {dp : Nat} (_ : Pins G w) (_ : Bk 99 3 G w b bu bv ns bs) (_ : PoolOk (bkq ns bs)) (_ : NumOk dp t) (_ : ns.length + cntD dp t ≤ 1048575), muD dp t < m → Calls Tryz.prog 107 [(.pointer (some ⟨b, 0, none⟩)), (.agg [.int .i64 t, .int .i64 (dp : Int)].toArray)].toArray w fun e w' => ∃ (z : Int) (u' v' : Value) (ns' : List Nd) (bs' : List Int) (G' : Pin), e = .returned (.int .i64 z) ∧ Bk 99 3 G' w' b u' v' ns' bs' ∧ Ext (inS b bu bv) G w G' w' ∧ Lo w (inS b bu bv) u'.ownBlock ∧ Lo w (inS b bu bv) v'.ownBlock ∧ PoolOk (bkq ns' bs') ∧ PX (bkq ns bs) (bkq ns' bs') ∧ PlaceOk (bkq ns' bs') z ∧ pd (bkq ns' bs') z = dyG dp t ∧ ns'.length ≤ ns.length + cntD dp t

theorem l7Put_step {w : World} {G : Pin} {b : Nat} {bu bv : Value} {ns : List Nd} {bs : List Int} {t : Int} {dp : Nat} (hP : Pins G w) (hB : Bk 99 3 G w b bu bv ns bs) (hokp : PoolOk (bkq ns bs)) (hn : NumOk dp t) (hl : ns.length + cntD dp t ≤ 1048575) {m : Nat} (ih : PutP m) (hm : muD dp t < m + 1) :
  Calls Tryz.prog 107 [(.pointer (some ⟨b, 0, none⟩)), (.agg [(.int .i64 t), (.int .i64 (dp : Int))].toArray)].toArray w fun e w' => ∃ (z : Int) (u' v' : Value) (ns' : List Nd) (bs' : List Int) (G' : Pin), e = .returned (.int .i64 z) ∧ Bk 99 3 G' w' b u' v' ns' bs' ∧ Ext (inS b bu bv) G w G' w' ∧ Lo w (inS b bu bv) u'.ownBlock ∧ Lo w (inS b bu bv) v'.ownBlock ∧ PoolOk (bkq ns' bs') ∧ PX (bkq ns bs) (bkq ns' bs') ∧ PlaceOk (bkq ns' bs') z ∧ pd (bkq ns' bs') z = dyG dp t ∧ ns'.length ≤ ns.length + cntD dp t := by
 refine zZ (n := 59) Tryz.func107 Tryz.ntmps107 rfl rfl ?_
 have hX0 : Ext (inS b bu bv) G w G w := Ext.refl hP
 have hok := hokp.ar.ok
 have htp := hn.top
 have hpw := hn.pow
 have hod := hn.odd
 have hbx := hB.bx
 have hou := hB.ou
 have hov := hB.ov
 have habu := hB.abu
 have habv := hB.abv
 have hauv := hB.auv
 have hlob : Lo w (inS b bu bv) (some b) := lo_b
 have hlou : Lo w (inS b bu bv) bu.ownBlock := lo_u
 have hlov : Lo w (inS b bu bv) bv.ownBlock := lo_v
 have hlen := hok.len
 have hlim := hok.lim
 refine zD (zG ?_)
 refine qI rfl (xT [(.int .i64 t), (.int .i64 (dp : Int))] (v := (.agg [(.int .i64 t), (.int .i64 (dp : Int))].toArray)) rfl rfl hX0.pins (fun b1 w2 hk3 hb4 hp5 hl6 => ?_))
 have hX7 := hX0.step hp5 hl6
 have ho8 := hou.below hl6
 have ho9 := hov.below hl6
 have hb10 := hbx.below hl6
 have ha11 : Apart (some b1) bu.ownBlock := zJ (congrArg some hk3) hou.lt
 have ha12 : Apart (some b1) bv.ownBlock := zJ (congrArg some hk3) hov.lt
 have ha13 : Apart (some b1) (some b) := zK (congrArg some hk3) hbx.lt
 have hlo14 : w.heap.size ≤ b1 := by have := hX0.size; omega
 obtain ⟨G15, hle16, hX17, hbp18, hf19⟩ := hb4.shut hX7 hlo14
 have ho20 := ho8.moreA hle16 hf19 ha11.symm
 have ho21 := ho9.moreA hle16 hf19 ha12.symm
 have hb22 := hb10.moreA hf19 ha13.symm
 refine qD rfl (zC (v := (.int .i64 0)) rfl) ?_
 refine qe (zA (zD (zG ?_)))
 refine qD rfl (zN (k := 1) rfl Tryz.underlying34 rfl nz3 rfl) ?_
 refine qD rfl (zO (u := (.int .i64 (dp : Int))) ag3 rfl (hX17.pins _ _ _ (hbp18 1 _ rfl))) ?_
 refine qD rfl (xE [(.int .i64 0), (.int .i64 0)] [(.int .i64 1), (.int .i64 (dp : Int))] [(0, (.int .i64 1), [(.int .i64 1)]), (1, (.int .i64 (dp : Int)), [(.int .i64 (dp : Int))])] Tryz.underlying34 zr34 rfl pl34 rfl (List.forall_mem_cons.2 ⟨rfl, (List.forall_mem_cons.2 ⟨rfl, (fun _ h => by cases h)⟩)⟩) rfl) ?_
 refine qI rfl (yY [(.int .i64 0), (.int .i64 0)] zr34 rfl hX17.pins (fun b23 w24 hk25 hb26 hp27 hl28 => ?_))
 have hX29 := hX17.step hp27 hl28
 have ho30 := ho20.below hl28
 have ho31 := ho21.below hl28
 have hb32 := hb22.below hl28
 have ha33 : Apart (some b23) bu.ownBlock := zJ (congrArg some hk25) ho20.lt
 have ha34 : Apart (some b23) bv.ownBlock := zJ (congrArg some hk25) ho21.lt
 have ha35 : Apart (some b23) (some b) := zK (congrArg some hk25) hb22.lt
 have hlo36 : w.heap.size ≤ b23 := by have := hX17.size; omega
 refine q0 rfl rfl rfl (xA (cs' := [(.int .i64 1), (.int .i64 (dp : Int))]) (us := [(.int .i64 1), (.int .i64 (dp : Int))]) (v := (.agg [(.int .i64 1), (.int .i64 (dp : Int))].toArray)) sz34 rfl rfl rfl (qB (by rfl) (by rfl)) hX29.pins hb26 (Nat.le_of_ble_eq_true rfl) rfl (fun w37 hb38 hp39 hg40 hz41 => ?_))
 have hX42 := hX29.write hp39 hg40 ((yL hlo36))
 have ho43 := ho30.keptA hg40 ha33.symm
 have ho44 := ho31.keptA hg40 ha34.symm
 have hb45 := hb32.keptA hg40 ha35.symm
 obtain ⟨G46, hle47, hX48, hbp49, hf50⟩ := hb38.shut hX42 hlo36
 have ho51 := ho43.moreA hle47 hf50 ha33.symm
 have ho52 := ho44.moreA hle47 hf50 ha34.symm
 have hb53 := hb45.moreA hf50 ha35.symm
 refine qe (zA (zD ?_))
 refine yD ?_
 refine zD (zG ?_)
 refine qD rfl (zN (k := 0) rfl Tryz.underlying34 rfl nz3 rfl) ?_
 refine qD rfl (zO (u := (.int .i64 t)) ag3 rfl ((Pins.of_le hX48.pins hle47) _ _ _ (hbp18 0 _ rfl))) ?_
 refine qD rfl (r_eql rfl rfl) ?_
 refine qD rfl (zC (v := (.bool (decide ((t : Int) = 0)))) rfl) ?_
 refine qe (zA ?_)
 refine yB (p := (t : Int) = 0) rfl rfl (fun h54 => ?_) (fun h54 => ?_)
 ·skip
  refine zD (zG ?_)
  refine qD rfl (zB (v := (.pointer (some ⟨b, 0, none⟩))) rfl) ?_
  have hpt := bk_put (xs := []) (ys := []) hokp (by omega) ⟨by simp, by simp⟩ (fun z hz => absurd hz (by simp)) (fun z hz => absurd hz (by simp))
  have hng55 := hpt.pd.trans (show _ = mkG [] [] from rfl)
  refine qI rfl (zM (vs := [(.pointer (some ⟨b, 0, none⟩)), (.slice none 0 0), (.slice none 0 0)]) Tryz.func112 nm112 rfl rfl rfl ?_)
  refine Calls.mono (put_spec hX48.pins ⟨hb53, ho51, ho52, habu, habv, hauv⟩ hokp.ar.ok (xL _ _) (xL _ _) ⟨by simp, by simp⟩ (fun i hi => absurd hi (Nat.not_lt_zero i)) (fun i hi => absurd hi (Nat.not_lt_zero i))) ?_
  rintro _ w59 ⟨u56, v57, G58, rfl, hbk60, hx61, hlu62, hlv63⟩
  refine ⟨_, rfl, ?_⟩
  have hin66 : ∀ i, inS b bu bv i → w.heap.size ≤ i ∨ (inS b bu bv) i := inS_lo hlob hlou hlov
  have hX67 := hX48.trans hx61 hin66
  have hb68 := hbk60.bx
  have ho69 := hbk60.ou
  have ho70 := hbk60.ov
  have ha71 := hbk60.abu
  have ha72 := hbk60.abv
  have ha73 := hbk60.auv
  have hlo74 := xR hlu62 hin66 hX48.size
  have hlo75 := xR hlv63 hin66 hX48.size
  refine qD rfl (zC (v := (.int .i64 (putK ns bs ([]) ([])))) rfl) ?_
  refine qe (zA ?_)
  refine wp_ret ?_
  refine zT ?_
  refine zQ (v := (.int .i64 (putK ns bs ([]) ([])))) rfl rfl rfl ?_
  have hcp := cnt_pos dp t
  exact ⟨_, u56, v57, _, _, _, rfl, ⟨hb68, ho69, ho70, ha71, ha72, ha73⟩, hX67, hlo74, hlo75, hpt.ok, hpt.px, hpt.pl, (hng55.trans (dy_zero (by have := hn.odd; omega) (by omega)).symm), (by have := hpt.len; omega)⟩
 refine zD (zG ?_)
 refine qD rfl (zN (k := 1) rfl Tryz.underlying34 rfl nz3 rfl) ?_
 refine qD rfl (zO (u := (.int .i64 (dp : Int))) ag3 rfl ((Pins.of_le hX48.pins hle47) _ _ _ (hbp18 1 _ rfl))) ?_
 refine qD rfl (r_gtr rfl rfl) ?_
 refine qD rfl (zC (v := (.bool (decide ((0 : Int) < (dp : Int))))) rfl) ?_
 refine qe (zA ?_)
 refine yB (p := (0 : Int) < (dp : Int)) rfl rfl (fun h76 => ?_) (fun h76 => ?_)
 ·skip
  refine zD ?_
  have hdp1 : 1 ≤ dp := by omega
  have hk1 := (hn.kid hdp1 (s := t - 1) (Or.inl rfl))
  have hk2 := (hn.kid hdp1 (s := t + 1) (Or.inr rfl))
  have hm1 := mu_kid hn hdp1 (s := t - 1) (Or.inl rfl)
  have hm2 := mu_kid hn hdp1 (s := t + 1) (Or.inr rfl)
  have hct := cnt_two hn hdp1
  have hdk := dy_kids hdp1 (hn.odd.resolve_left (by omega))
  refine xJ (S := fun wz => Pins G46 wz) (last := 7) (by kernel_rfl) rfl ?_
  have hl77 : Below w37.heap.size w37 w37.drew := (Below.refl _ _).drew
  have hp78 := hX48.pins.below hl77
  have hX79 := hX48.step hp78 hl77
  have ho80 := ho51.below hl77
  have ho81 := ho52.below hl77
  have hb82 := hb53.below hl77
  refine dT (i := 0) rfl rfl (by kernel_rfl) (fun _ _ => zB (v := (.pointer (some ⟨b, 0, none⟩))) rfl) hX79.pins ?_
  refine dT (i := 1) rfl rfl (by kernel_rfl) (fun _ hS => yP (cs := [(.int .i64 t), (.int .i64 (dp : Int))]) ag34 sz34 rfl (fun j u hj => (Pins.of_le hS hle47) _ _ _ (hbp18 _ _ (by simpa using hj)))) hX79.pins ?_
  refine dT (i := 2) rfl rfl (by kernel_rfl) (fun _ hS => yP (cs := [(.int .i64 1), (.int .i64 (dp : Int))]) ag34 sz34 rfl (fun j u hj => hS _ _ _ (hbp49 _ _ (by simpa using hj)))) hX79.pins ?_
  refine zR (i := 3) (by kernel_rfl) (zU (i := 3) rfl rfl rfl (zH rfl _) (zM (vs := [(.agg [(.int .i64 1), (.int .i64 (dp : Int))].toArray)]) Tryz.func147 nm147 rfl rfl rfl ?_))
  refine Calls.mono (l2Neg_spec (t := 1) (z := (dp : Int)) hX79.pins (by omega)) ?_
  rintro _ w84 ⟨G83, rfl, hx85⟩
  refine ⟨_, rfl, ?_⟩
  have hX86 := hX79.tr hx85
  have ho87 := ho80.ext hx85
  have ho88 := ho81.ext hx85
  have hb89 := hb82.ext hx85
  refine ⟨fun _ => (Pins.of_le hX86.pins hx85.le), ?_⟩
  refine zR (i := 4) (by kernel_rfl) (zU (i := 4) rfl rfl rfl (zH rfl _) (zM (vs := [(.agg [(.int .i64 t), (.int .i64 (dp : Int))].toArray), (.agg [(.int .i64 (-1)), (.int .i64 (dp : Int))].toArray)]) Tryz.func146 nm146 rfl rfl rfl ?_))
  refine Calls.mono (l2AddS_spec (t := t) (u := -1) (s := t - 1) (p := dp) hX86.pins (by omega) (by omega) (by omega) (by omega)) ?_
  rintro _ w91 ⟨G90, rfl, hx92⟩
  refine ⟨_, rfl, ?_⟩
  have hX93 := hX86.tr hx92
  have ho94 := ho87.ext hx92
  have ho95 := ho88.ext hx92
  have hb96 := hb89.ext hx92
  refine ⟨fun _ => (Pins.of_le hX93.pins (Pin.le_trans hx85.le hx92.le)), ?_⟩
  refine zR (i := 5) (by kernel_rfl) (zU (i := 5) rfl rfl rfl (zH rfl _) (zM (vs := [(.pointer (some ⟨b, 0, none⟩)), (.agg [(.int .i64 ((lowD dp (t - 1)).1)), (.int .i64 (((lowD dp (t - 1)).2 : Nat) : Int))].toArray)]) Tryz.func107 nm107 rfl rfl rfl ?_))
  refine Calls.mono (ih hX93.pins ⟨hb96, ho94, ho95, habu, habv, hauv⟩ hokp hk1.1 (by omega) (by omega)) ?_
  rintro _ w108 ⟨z97, u105, v106, ns98, bs99, G107, rfl, hbk109, hx110, hlu111, hlv112, hok100, hpx101, hpl102, hpd103, hcl104⟩
  refine ⟨_, rfl, ?_⟩
  have hin115 : ∀ i, inS b bu bv i → w.heap.size ≤ i ∨ (inS b bu bv) i := inS_lo hlob hlou hlov
  have hX116 := hX93.trans hx110 hin115
  have hb117 := hbk109.bx
  have ho118 := hbk109.ou
  have ho119 := hbk109.ov
  have ha120 := hbk109.abu
  have ha121 := hbk109.abv
  have ha122 := hbk109.auv
  have hlo123 := xR hlu111 hin115 hX93.size
  have hlo124 := xR hlv112 hin115 hX93.size
  have hpx125 := hpx101
  refine ⟨fun _ => (Pins.of_le hX116.pins (Pin.le_trans (Pin.le_trans hx85.le hx92.le) hx110.le)), ?_⟩
  refine dT (i := 6) rfl rfl (by kernel_rfl) (fun _ _ => zC (v := (.int .i64 z97)) rfl) (Pins.of_le hX116.pins (Pin.le_trans (Pin.le_trans hx85.le hx92.le) hx110.le)) ?_
  refine yS (by kernel_rfl) ?_
  refine zA (zD (zG ?_))
  refine qD rfl (zB (v := (.pointer (some ⟨b, 0, none⟩))) rfl) ?_
  refine qD rfl (yP (cs := [(.int .i64 t), (.int .i64 (dp : Int))]) ag34 sz34 rfl (fun j u hj => (Pins.of_le hX116.pins (Pin.le_trans (Pin.le_trans (Pin.le_trans hle47 hx85.le) hx92.le) hx110.le)) _ _ _ (hbp18 _ _ (by simpa using hj)))) ?_
  refine qD rfl (yP (cs := [(.int .i64 1), (.int .i64 (dp : Int))]) ag34 sz34 rfl (fun j u hj => (Pins.of_le hX116.pins (Pin.le_trans (Pin.le_trans hx85.le hx92.le) hx110.le)) _ _ _ (hbp49 _ _ (by simpa using hj)))) ?_
  refine qI rfl (zM (vs := [(.agg [(.int .i64 t), (.int .i64 (dp : Int))].toArray), (.agg [(.int .i64 1), (.int .i64 (dp : Int))].toArray)]) Tryz.func146 nm146 rfl rfl rfl ?_)
  refine Calls.mono (l2AddS_spec (t := t) (u := 1) (s := t + 1) (p := dp) hX116.pins (by omega) (by omega) (by omega) (by omega)) ?_
  rintro _ w127 ⟨G126, rfl, hx128⟩
  refine ⟨_, rfl, ?_⟩
  have hX129 := hX116.tr hx128
  have ho130 := ho118.ext hx128
  have ho131 := ho119.ext hx128
  have hb132 := hb117.ext hx128
  refine qI rfl (zM (vs := [(.pointer (some ⟨b, 0, none⟩)), (.agg [(.int .i64 ((lowD dp (t + 1)).1)), (.int .i64 (((lowD dp (t + 1)).2 : Nat) : Int))].toArray)]) Tryz.func107 nm107 rfl rfl rfl ?_)
  refine Calls.mono (ih hX129.pins ⟨hb132, ho130, ho131, ha120, ha121, ha122⟩ hok100 hk2.1 (by omega) (by omega)) ?_
  rintro _ w144 ⟨z133, u141, v142, ns134, bs135, G143, rfl, hbk145, hx146, hlu147, hlv148, hok136, hpx137, hpl138, hpd139, hcl140⟩
  refine ⟨_, rfl, ?_⟩
  have hin151 : ∀ i, inS b u105 v106 i → w.heap.size ≤ i ∨ (inS b bu bv) i := inS_lo hlob hlo123 hlo124
  have hX152 := hX129.trans hx146 hin151
  have hb153 := hbk145.bx
  have ho154 := hbk145.ou
  have ho155 := hbk145.ov
  have ha156 := hbk145.abu
  have ha157 := hbk145.abv
  have ha158 := hbk145.auv
  have hlo159 := xR hlu147 hin151 hX129.size
  have hlo160 := xR hlv148 hin151 hX129.size
  have hpx161 := PX.trans hpx125 hpx137
  refine qD rfl (zC (v := (.int .i64 z133)) rfl) ?_
  refine qe (zA (zD (zG ?_)))
  refine qD rfl (zB (v := (.pointer (some ⟨b, 0, none⟩))) rfl) ?_
  refine qD rfl (zB (v := (.int .i64 z97)) rfl) ?_
  refine qI rfl (yH (E := eInt) (e := 3) [(.int .i64 z97)] [z97] Tryz.underlying65 sz3 zr3 (by exact xO (by rfl)) (yR (by rfl)) rfl rfl rfl rfl (by decide) hX152.pins (fun u162 w163 ho164 hp165 hl166 hk167 => ?_))
  have hX168 := hX152.step hp165 hl166
  have ho169 := ho154.below hl166
  have ho170 := ho155.below hl166
  have hb171 := hb153.below hl166
  have ha172 : Apart u162.ownBlock u141.ownBlock := zJ hk167 ho154.lt
  have ha173 : Apart u162.ownBlock v142.ownBlock := zJ hk167 ho155.lt
  have ha174 : Apart u162.ownBlock (some b) := zK hk167 hb153.lt
  have ho175 : Own eInt 3 G143 w163 w.heap.size u162 ([z97]) := ho164.weaken hX152.size
  refine qD rfl (zB (v := (.int .i64 z133)) rfl) ?_
  refine qI rfl (yH (E := eInt) (e := 3) [(.int .i64 z133)] [z133] Tryz.underlying65 sz3 zr3 (by exact xO (by rfl)) (yR (by rfl)) rfl rfl rfl rfl (by decide) hX168.pins (fun u176 w177 ho178 hp179 hl180 hk181 => ?_))
  have hX182 := hX168.step hp179 hl180
  have ho183 := ho169.below hl180
  have ho184 := ho170.below hl180
  have ho185 := ho175.below hl180
  have hb186 := hb171.below hl180
  have ha187 : Apart u176.ownBlock u141.ownBlock := zJ hk181 ho169.lt
  have ha188 : Apart u176.ownBlock v142.ownBlock := zJ hk181 ho170.lt
  have ha189 : Apart u176.ownBlock u162.ownBlock := zJ hk181 ho175.lt
  have ha190 : Apart u176.ownBlock (some b) := zK hk181 hb171.lt
  have ho191 : Own eInt 3 G143 w177 w.heap.size u176 ([z133]) := ho178.weaken hX168.size
  obtain ⟨G192, hle195, hX194, hr193, hf196⟩ := ho185.sealed hX182
  have ho197 := ho183.moreO hle195 hf196 ha172.symm
  have ho198 := ho184.moreO hle195 hf196 ha173.symm
  have ho199 := ho191.moreO hle195 hf196 ha189
  have hb200 := hb186.moreO hf196 ha174.symm
  obtain ⟨G201, hle204, hX203, hr202, hf205⟩ := ho199.sealed hX194
  have ho206 := ho197.moreO hle204 hf205 ha187.symm
  have ho207 := ho198.moreO hle204 hf205 ha188.symm
  have hb208 := hb200.moreO hf205 ha190.symm
  have hpt := bk_put (xs := [z97]) (ys := [z133]) hok136 (by omega) ⟨by simp, by simp⟩ (fun z hz => by rw [List.mem_singleton.1 hz]; exact (hpx137.place hpl102)) (fun z hz => by rw [List.mem_singleton.1 hz]; exact hpl138)
  have hng209 := hpt.pd.trans (show _ = mkG [pd (bkq ns134 bs135) z97] [pd (bkq ns134 bs135) z133] from rfl)
  rw [((hpx137.pd hok100 hok136 hpl102).trans hpd103)] at hng209
  rw [hpd139] at hng209
  refine qI rfl (zM (vs := [(.pointer (some ⟨b, 0, none⟩)), u162, u176]) Tryz.func112 nm112 rfl rfl rfl ?_)
  refine Calls.mono (put_spec hX203.pins ⟨hb208, ho206, ho207, ha156, ha157, ha158⟩ hok136.ar.ok (hr193.mono hle204) hr202 ⟨by simp, by simp⟩ (one_at (hpx137.place hpl102)) (one_at hpl138)) ?_
  rintro _ w213 ⟨u210, v211, G212, rfl, hbk214, hx215, hlu216, hlv217⟩
  refine ⟨_, rfl, ?_⟩
  have hin220 : ∀ i, inS b u141 v142 i → w.heap.size ≤ i ∨ (inS b bu bv) i := inS_lo hlob hlo159 hlo160
  have hX221 := hX203.trans hx215 hin220
  have hb222 := hbk214.bx
  have ho223 := hbk214.ou
  have ho224 := hbk214.ov
  have ha225 := hbk214.abu
  have ha226 := hbk214.abv
  have ha227 := hbk214.auv
  have hlo228 := xR hlu216 hin220 hX203.size
  have hlo229 := xR hlv217 hin220 hX203.size
  refine qD rfl (zC (v := (.int .i64 (putK ns134 bs135 ([z97]) ([z133])))) rfl) ?_
  refine qe (zA ?_)
  refine wp_ret ?_
  refine zT ?_
  refine zQ (v := (.int .i64 (putK ns134 bs135 ([z97]) ([z133])))) rfl rfl rfl ?_
  have hcp := cnt_pos dp t
  exact ⟨_, u210, v211, _, _, _, rfl, ⟨hb222, ho223, ho224, ha225, ha226, ha227⟩, hX221, hlo228, hlo229, hpt.ok, (PX.trans hpx161 hpt.px), hpt.pl, (hng209.trans hdk.symm), (by have := hpt.len; omega)⟩
 refine zD (zG ?_)
 refine qD rfl (zN (k := 0) rfl Tryz.underlying34 rfl nz3 rfl) ?_
 refine qD rfl (zO (u := (.int .i64 t)) ag3 rfl ((Pins.of_le hX48.pins hle47) _ _ _ (hbp18 0 _ rfl))) ?_
 refine qD rfl (r_gtr rfl rfl) ?_
 refine qD rfl (zC (v := (.bool (decide ((0 : Int) < t)))) rfl) ?_
 refine qe (zA ?_)
 refine yB (p := (0 : Int) < t) rfl rfl (fun h230 => ?_) (fun h230 => ?_)
 ·skip
  refine zD ?_
  have hd0 : dp = 0 := by omega
  have hk1 := hn.kid0 hd0 (s := t - 1) (by omega)
  have hm1 := hk1.2.1
  have hm2 := hk1.2.2.1
  refine xJ (S := fun wz => Pins G46 wz) (last := 10) (by kernel_rfl) rfl ?_
  have hl231 : Below w37.heap.size w37 w37.drew := (Below.refl _ _).drew
  have hp232 := hX48.pins.below hl231
  have hX233 := hX48.step hp232 hl231
  have ho234 := ho51.below hl231
  have ho235 := ho52.below hl231
  have hb236 := hb53.below hl231
  refine dT (i := 0) rfl rfl (by kernel_rfl) (fun _ _ => zB (v := (.pointer (some ⟨b, 0, none⟩))) rfl) hX233.pins ?_
  refine dT (i := 1) rfl rfl (by kernel_rfl) (fun _ _ => zB (v := (.pointer (some ⟨b, 0, none⟩))) rfl) hX233.pins ?_
  refine dT (i := 2) rfl rfl (by kernel_rfl) (fun _ hS => yP (cs := [(.int .i64 t), (.int .i64 (dp : Int))]) ag34 sz34 rfl (fun j u hj => (Pins.of_le hS hle47) _ _ _ (hbp18 _ _ (by simpa using hj)))) hX233.pins ?_
  refine dT (i := 3) rfl rfl (by kernel_rfl) (fun _ hS => yP (cs := [(.int .i64 1), (.int .i64 (dp : Int))]) ag34 sz34 rfl (fun j u hj => hS _ _ _ (hbp49 _ _ (by simpa using hj)))) hX233.pins ?_
  refine zR (i := 4) (by kernel_rfl) (zU (i := 4) rfl rfl rfl (zH rfl _) (zM (vs := [(.agg [(.int .i64 1), (.int .i64 (dp : Int))].toArray)]) Tryz.func147 nm147 rfl rfl rfl ?_))
  refine Calls.mono (l2Neg_spec (t := 1) (z := (dp : Int)) hX233.pins (by omega)) ?_
  rintro _ w238 ⟨G237, rfl, hx239⟩
  refine ⟨_, rfl, ?_⟩
  have hX240 := hX233.tr hx239
  have ho241 := ho234.ext hx239
  have ho242 := ho235.ext hx239
  have hb243 := hb236.ext hx239
  refine ⟨fun _ => (Pins.of_le hX240.pins hx239.le), ?_⟩
  refine zR (i := 5) (by kernel_rfl) (zU (i := 5) rfl rfl rfl (zH rfl _) (zM (vs := [(.agg [(.int .i64 t), (.int .i64 (dp : Int))].toArray), (.agg [(.int .i64 (-1)), (.int .i64 (dp : Int))].toArray)]) Tryz.func146 nm146 rfl rfl rfl ?_))
  refine Calls.mono (l2AddS_spec (t := t) (u := -1) (s := t - 1) (p := dp) hX240.pins (by omega) (by omega) (by omega) (by omega)) ?_
  rintro _ w245 ⟨G244, rfl, hx246⟩
  refine ⟨_, rfl, ?_⟩
  have hX247 := hX240.tr hx246
  have ho248 := ho241.ext hx246
  have ho249 := ho242.ext hx246
  have hb250 := hb243.ext hx246
  refine ⟨fun _ => (Pins.of_le hX247.pins (Pin.le_trans hx239.le hx246.le)), ?_⟩
  refine zR (i := 6) (by kernel_rfl) (zU (i := 6) rfl rfl rfl (zH rfl _) (zM (vs := [(.pointer (some ⟨b, 0, none⟩)), (.agg [(.int .i64 ((lowD dp (t - 1)).1)), (.int .i64 (((lowD dp (t - 1)).2 : Nat) : Int))].toArray)]) Tryz.func107 nm107 rfl rfl rfl ?_))
  refine Calls.mono (ih hX247.pins ⟨hb250, ho248, ho249, habu, habv, hauv⟩ hokp hk1.1 (by omega) (by omega)) ?_
  rintro _ w262 ⟨z251, u259, v260, ns252, bs253, G261, rfl, hbk263, hx264, hlu265, hlv266, hok254, hpx255, hpl256, hpd257, hcl258⟩
  refine ⟨_, rfl, ?_⟩
  have hin269 : ∀ i, inS b bu bv i → w.heap.size ≤ i ∨ (inS b bu bv) i := inS_lo hlob hlou hlov
  have hX270 := hX247.trans hx264 hin269
  have hb271 := hbk263.bx
  have ho272 := hbk263.ou
  have ho273 := hbk263.ov
  have ha274 := hbk263.abu
  have ha275 := hbk263.abv
  have ha276 := hbk263.auv
  have hlo277 := xR hlu265 hin269 hX247.size
  have hlo278 := xR hlv266 hin269 hX247.size
  have hpx279 := hpx255
  refine ⟨fun _ => (Pins.of_le hX270.pins (Pin.le_trans (Pin.le_trans hx239.le hx246.le) hx264.le)), ?_⟩
  refine zR (i := 7) (by kernel_rfl) (zU (i := 7) rfl rfl rfl (zH rfl _) (yH (E := eInt) (e := 3) [(.int .i64 z251)] [z251] Tryz.underlying65 sz3 zr3 (by exact xO (by rfl)) (yR (by rfl)) rfl rfl rfl rfl (by decide) hX270.pins (fun u280 w281 ho282 hp283 hl284 hk285 => ?_)))
  have hX286 := hX270.step hp283 hl284
  have ho287 := ho272.below hl284
  have ho288 := ho273.below hl284
  have hb289 := hb271.below hl284
  have ha290 : Apart u280.ownBlock u259.ownBlock := zJ hk285 ho272.lt
  have ha291 : Apart u280.ownBlock v260.ownBlock := zJ hk285 ho273.lt
  have ha292 : Apart u280.ownBlock (some b) := zK hk285 hb271.lt
  have ho293 : Own eInt 3 G261 w281 w.heap.size u280 ([z251]) := ho282.weaken hX270.size
  refine ⟨fun _ => (Pins.of_le hX286.pins (Pin.le_trans (Pin.le_trans hx239.le hx246.le) hx264.le)), ?_⟩
  obtain ⟨G294, hle297, hX296, hr295, hf298⟩ := ho293.sealed hX286
  have ho299 := ho287.moreO hle297 hf298 ha290.symm
  have ho300 := ho288.moreO hle297 hf298 ha291.symm
  have hb301 := hb289.moreO hf298 ha292.symm
  have hpt := bk_put (xs := [z251]) (ys := []) hok254 (by omega) ⟨by simp, by simp⟩ (fun z hz => by rw [List.mem_singleton.1 hz]; exact hpl256) (fun z hz => absurd hz (by simp))
  have hng302 := hpt.pd.trans (show _ = mkG [pd (bkq ns252 bs253) z251] [] from rfl)
  rw [hpd257] at hng302
  refine zR (i := 8) (by kernel_rfl) (zU (i := 8) rfl rfl rfl (zH rfl _) (zM (vs := [(.pointer (some ⟨b, 0, none⟩)), u280, (.slice none 0 0)]) Tryz.func112 nm112 rfl rfl rfl ?_))
  refine Calls.mono (put_spec hX296.pins ⟨hb301, ho299, ho300, ha274, ha275, ha276⟩ hok254.ar.ok hr295 (xL _ _) ⟨by simp, by simp⟩ (one_at hpl256) (fun i hi => absurd hi (Nat.not_lt_zero i))) ?_
  rintro _ w306 ⟨u303, v304, G305, rfl, hbk307, hx308, hlu309, hlv310⟩
  refine ⟨_, rfl, ?_⟩
  have hin313 : ∀ i, inS b u259 v260 i → w.heap.size ≤ i ∨ (inS b bu bv) i := inS_lo hlob hlo277 hlo278
  have hX314 := hX296.trans hx308 hin313
  have hb315 := hbk307.bx
  have ho316 := hbk307.ou
  have ho317 := hbk307.ov
  have ha318 := hbk307.abu
  have ha319 := hbk307.abv
  have ha320 := hbk307.auv
  have hlo321 := xR hlu309 hin313 hX296.size
  have hlo322 := xR hlv310 hin313 hX296.size
  refine ⟨fun _ => (Pins.of_le hX314.pins (Pin.le_trans (Pin.le_trans (Pin.le_trans (Pin.le_trans hx239.le hx246.le) hx264.le) hle297) hx308.le)), ?_⟩
  refine dT (i := 9) rfl rfl (by kernel_rfl) (fun _ _ => zC (v := (.int .i64 (putK ns252 bs253 ([z251]) ([])))) rfl) (Pins.of_le hX314.pins (Pin.le_trans (Pin.le_trans (Pin.le_trans (Pin.le_trans hx239.le hx246.le) hx264.le) hle297) hx308.le)) ?_
  refine yS (by kernel_rfl) ?_
  refine zA ?_
  refine wp_ret ?_
  refine zT ?_
  refine zQ (v := (.int .i64 (putK ns252 bs253 ([z251]) ([])))) rfl rfl rfl ?_
  have hcp := cnt_pos dp t
  exact ⟨_, u303, v304, _, _, _, rfl, ⟨hb315, ho316, ho317, ha318, ha319, ha320⟩, hX314, hlo321, hlo322, hpt.ok, (PX.trans hpx279 hpt.px), hpt.pl, (hng302.trans (by first | rw [hk1.2.2.2]; exact (dy_pos hd0 (by omega)).symm | rw [hk2.2.2.2]; exact (dy_neg hd0 (by omega)).symm)), (by have := hpt.len; omega)⟩
 refine wp_skip ?_
 refine yJ ?_
 refine zA (zD (zG ?_))
 have hd0 : dp = 0 := by omega
 have hk2 := hn.kid0 hd0 (s := t + 1) (by omega)
 have hm1 := hk2.2.1
 have hm2 := hk2.2.2.1
 refine qD rfl (zB (v := (.pointer (some ⟨b, 0, none⟩))) rfl) ?_
 refine qD rfl (zB (v := (.pointer (some ⟨b, 0, none⟩))) rfl) ?_
 refine qD rfl (yP (cs := [(.int .i64 t), (.int .i64 (dp : Int))]) ag34 sz34 rfl (fun j u hj => (Pins.of_le hX48.pins hle47) _ _ _ (hbp18 _ _ (by simpa using hj)))) ?_
 refine qD rfl (yP (cs := [(.int .i64 1), (.int .i64 (dp : Int))]) ag34 sz34 rfl (fun j u hj => hX48.pins _ _ _ (hbp49 _ _ (by simpa using hj)))) ?_
 refine qI rfl (zM (vs := [(.agg [(.int .i64 t), (.int .i64 (dp : Int))].toArray), (.agg [(.int .i64 1), (.int .i64 (dp : Int))].toArray)]) Tryz.func146 nm146 rfl rfl rfl ?_)
 refine Calls.mono (l2AddS_spec (t := t) (u := 1) (s := t + 1) (p := dp) hX48.pins (by omega) (by omega) (by omega) (by omega)) ?_
 rintro _ w324 ⟨G323, rfl, hx325⟩
 refine ⟨_, rfl, ?_⟩
 have hX326 := hX48.tr hx325
 have ho327 := ho51.ext hx325
 have ho328 := ho52.ext hx325
 have hb329 := hb53.ext hx325
 refine qI rfl (zM (vs := [(.pointer (some ⟨b, 0, none⟩)), (.agg [(.int .i64 ((lowD dp (t + 1)).1)), (.int .i64 (((lowD dp (t + 1)).2 : Nat) : Int))].toArray)]) Tryz.func107 nm107 rfl rfl rfl ?_)
 refine Calls.mono (ih hX326.pins ⟨hb329, ho327, ho328, habu, habv, hauv⟩ hokp hk2.1 (by omega) (by omega)) ?_
 rintro _ w341 ⟨z330, u338, v339, ns331, bs332, G340, rfl, hbk342, hx343, hlu344, hlv345, hok333, hpx334, hpl335, hpd336, hcl337⟩
 refine ⟨_, rfl, ?_⟩
 have hin348 : ∀ i, inS b bu bv i → w.heap.size ≤ i ∨ (inS b bu bv) i := inS_lo hlob hlou hlov
 have hX349 := hX326.trans hx343 hin348
 have hb350 := hbk342.bx
 have ho351 := hbk342.ou
 have ho352 := hbk342.ov
 have ha353 := hbk342.abu
 have ha354 := hbk342.abv
 have ha355 := hbk342.auv
 have hlo356 := xR hlu344 hin348 hX326.size
 have hlo357 := xR hlv345 hin348 hX326.size
 have hpx358 := hpx334
 refine qI rfl (yH (E := eInt) (e := 3) [(.int .i64 z330)] [z330] Tryz.underlying65 sz3 zr3 (by exact xO (by rfl)) (yR (by rfl)) rfl rfl rfl rfl (by decide) hX349.pins (fun u359 w360 ho361 hp362 hl363 hk364 => ?_))
 have hX365 := hX349.step hp362 hl363
 have ho366 := ho351.below hl363
 have ho367 := ho352.below hl363
 have hb368 := hb350.below hl363
 have ha369 : Apart u359.ownBlock u338.ownBlock := zJ hk364 ho351.lt
 have ha370 : Apart u359.ownBlock v339.ownBlock := zJ hk364 ho352.lt
 have ha371 : Apart u359.ownBlock (some b) := zK hk364 hb350.lt
 have ho372 : Own eInt 3 G340 w360 w.heap.size u359 ([z330]) := ho361.weaken hX349.size
 obtain ⟨G373, hle376, hX375, hr374, hf377⟩ := ho372.sealed hX365
 have ho378 := ho366.moreO hle376 hf377 ha369.symm
 have ho379 := ho367.moreO hle376 hf377 ha370.symm
 have hb380 := hb368.moreO hf377 ha371.symm
 have hpt := bk_put (xs := []) (ys := [z330]) hok333 (by omega) ⟨by simp, by simp⟩ (fun z hz => absurd hz (by simp)) (fun z hz => by rw [List.mem_singleton.1 hz]; exact hpl335)
 have hng381 := hpt.pd.trans (show _ = mkG [] [pd (bkq ns331 bs332) z330] from rfl)
 rw [hpd336] at hng381
 refine qI rfl (zM (vs := [(.pointer (some ⟨b, 0, none⟩)), (.slice none 0 0), u359]) Tryz.func112 nm112 rfl rfl rfl ?_)
 refine Calls.mono (put_spec hX375.pins ⟨hb380, ho378, ho379, ha353, ha354, ha355⟩ hok333.ar.ok (xL _ _) hr374 ⟨by simp, by simp⟩ (fun i hi => absurd hi (Nat.not_lt_zero i)) (one_at hpl335)) ?_
 rintro _ w385 ⟨u382, v383, G384, rfl, hbk386, hx387, hlu388, hlv389⟩
 refine ⟨_, rfl, ?_⟩
 have hin392 : ∀ i, inS b u338 v339 i → w.heap.size ≤ i ∨ (inS b bu bv) i := inS_lo hlob hlo356 hlo357
 have hX393 := hX375.trans hx387 hin392
 have hb394 := hbk386.bx
 have ho395 := hbk386.ou
 have ho396 := hbk386.ov
 have ha397 := hbk386.abu
 have ha398 := hbk386.abv
 have ha399 := hbk386.auv
 have hlo400 := xR hlu388 hin392 hX375.size
 have hlo401 := xR hlv389 hin392 hX375.size
 refine qD rfl (zC (v := (.int .i64 (putK ns331 bs332 ([]) ([z330])))) rfl) ?_
 refine qe (zA ?_)
 refine wp_ret ?_
 refine zT ?_
 refine zQ (v := (.int .i64 (putK ns331 bs332 ([]) ([z330])))) rfl rfl rfl ?_
 have hcp := cnt_pos dp t
 exact ⟨_, u382, v383, _, _, _, rfl, ⟨hb394, ho395, ho396, ha397, ha398, ha399⟩, hX393, hlo400, hlo401, hpt.ok, (PX.trans hpx358 hpt.px), hpt.pl, (hng381.trans (by first | rw [hk1.2.2.2]; exact (dy_pos hd0 (by omega)).symm | rw [hk2.2.2.2]; exact (dy_neg hd0 (by omega)).symm)), (by have := hpt.len; omega)⟩

theorem put_all : ∀ m, PutP m
 | 0 => fun _ _ _ _ _ h => absurd h (Nat.not_lt_zero _)
 | m + 1 => fun hP hB hok hn hl hm => l7Put_step hP hB hok hn hl (put_all m) hm
theorem l7Put_spec {w : World} {G : Pin} {b : Nat} {bu bv : Value} {ns : List Nd} {bs : List Int} {t : Int} {dp : Nat} (hP : Pins G w) (hB : Bk 99 3 G w b bu bv ns bs) (hokp : PoolOk (bkq ns bs)) (hn : NumOk dp t) (hl : ns.length + cntD dp t ≤ 1048575) :
  Calls Tryz.prog 107 [(.pointer (some ⟨b, 0, none⟩)), (.agg [.int .i64 t, .int .i64 (dp : Int)].toArray)].toArray w fun e w' => ∃ (z : Int) (u' v' : Value) (ns' : List Nd) (bs' : List Int) (G' : Pin), e = .returned (.int .i64 z) ∧ Bk 99 3 G' w' b u' v' ns' bs' ∧ Ext (inS b bu bv) G w G' w' ∧ Lo w (inS b bu bv) u'.ownBlock ∧ Lo w (inS b bu bv) v'.ownBlock ∧ PoolOk (bkq ns' bs') ∧ PX (bkq ns bs) (bkq ns' bs') ∧ PlaceOk (bkq ns' bs') z ∧ pd (bkq ns' bs') z = dyG dp t ∧ ns'.length ≤ ns.length + cntD dp t :=
 put_all _ hP hB hokp hn hl (Nat.lt_succ_self _)

end NB5
end Go.Proofs.YtfnginkcmcfdfaaGreatDoor
