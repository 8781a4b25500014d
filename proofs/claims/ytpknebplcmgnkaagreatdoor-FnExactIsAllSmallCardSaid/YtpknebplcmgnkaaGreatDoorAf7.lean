/- Texts of this claim in one file: PA1, DI1, RI1, CN1, CN2, CN3, CN4, AS2, LA1. -/
import Derived.Test.YtpknebplcmgnkaaGreatDoorAf6
import Derived.Test.YtpknebplcmgnkaaGreatDoorChecked
set_option maxRecDepth 20000
set_option maxHeartbeats 2000000
namespace Go.Proofs.YtpknebplcmgnkaaGreatDoor
namespace PA1
open Go.RowKit Go.GL Go.Proofs










theorem parts_spec {w : World} {G : Pin} {p : Nat} {L R B : Value} {mm : PM} {q : PSt} (hP : Pins G w) (hpk : Pk 67 3 G w p L R B mm q) (hok : PoolOk q) {x : Value} {xs : List Int} (hx : RSl eInt G x xs) (hr : ∀ i, i < xs.length → PlaceOk q (xs.getD i 0)) (hxl : xs.length ≤ 1048576) :
  Calls Tryz.prog 62 [(.pointer (some ⟨p, 0, none⟩)), x].toArray w fun e w' => ∃ (u : Value) (zs : List Int) (G' : Pin), e = .returned u ∧ Own eInt 3 G' w' w.heap.size u zs ∧ PtOk q xs zs zs.length ∧ Ext noS G w G' w' := by
 refine yD (n := 82) Tryz.func62 Tryz.ntmps62 rfl rfl ?_
 have hX0 : Ext noS G w G w := Ext.refl hP
 have hpin : PIn w (inP p L R B mm) p L R B mm := PIn.self
 have hml1 : (q.ns.map Nd.l).length = q.ns.length ∧ (q.ns.map Nd.r).length = q.ns.length := ⟨List.length_map .., List.length_map ..⟩
 have hml2 : q.bs.length = q.ns.length ∧ q.ns.length ≤ 1048576 := ⟨hok.ar.ok.len, hok.ar.ok.lim⟩
 have hm := hx.max
 refine zE (zF ?_)
 refine qD rfl (zD (v := (.slice none 0 0)) rfl) ?_
 refine qe (zB (zE (zF ?_)))
 refine qI rfl (jB (fun k : Int => Value.int .i64 k) (fun v : Bool => Value.bool v) hX0.pins (fun m3 w4 hk5 hm6 hp7 hl8 => ?_))
 have hX9 := hX0.step hp7 hl8
 have hpk10 := hpk.below hl8 hp7
 have hnp11 := hpk.new (x := some m3) (fun k hk => by cases hk; omega)
 have hlo12 : w.heap.size ≤ m3 := by have := hX0.size; omega
 refine qD rfl (zD (v := (.map (some m3))) rfl) ?_
 refine qe (zB (zE (zF ?_)))
 refine qI rfl (yZ (E := eInt) (e := 3) Tryz.underlying67 sz3 hX9.pins (fun u13 w14 ho15 hp16 hl17 hk18 => ?_))
 have hX19 := hX9.step hp16 hl17
 have hm20 := hm6.below hl17
 have hpk21 := hpk10.below hl17 hp16
 have ha26 := hpk10.new (x := u13.ownBlock) (fun k hk => by rw [hk18] at hk; cases hk; exact Nat.le_refl _)
 have ho27 : Own eInt 3 G w14 w.heap.size u13 ([]) := ho15.weaken hX9.size
 refine qD rfl (zD (v := u13) rfl) ?_
 refine qe (zB (zE (zE (zF ?_))))
 refine qD rfl (zA (v := x) rfl) ?_
 refine qD rfl (zL Tryz.underlying67 (v := x) rfl hx) ?_
 refine qD rfl (zA (v := (.int .i64 0)) rfl) ?_
 refine qe (zB ?_)
 refine zZ ?_
 refine yM (fun (k : Nat) (en : Nat → Value) (W : World) => ∃ (env1 : Nat → Value) (i : Nat) (lv : Value) (ls : List Int) (sn : List (Int × Bool)) (GL1 : Pin), en = (upd (upd (upd (upd (upd (upd (upd env1 0 (.pointer (some ⟨p, 0, none⟩))) 4 (.slice none 0 0)) 5 (.map (some m3))) 6 lv) 16 x) 17 (.int .i64 (xs.length : Int))) 18 (.int .i64 (i : Int))) ∧ k = xs.length - i ∧ Ext noS G w GL1 W ∧ Pin.le G GL1 ∧ (i ≤ xs.length) ∧ (PtOk q (xs.take i) ls 0) ∧ (SnOk sn ls) ∧ (Own eInt 3 GL1 W w.heap.size lv (ls)) ∧ (Mp (fun k : Int => Value.int .i64 k) (fun v : Bool => Value.bool v) W m3 (sn)) ∧ (Pk 67 3 GL1 W p L R B mm q) ∧ (NP p L R B mm lv.ownBlock)) _ ⟨_, 0, u13, [], [], G, (zC (x := 18) (zC (x := 17) (zC (x := 16) (zC (x := 6) (zC (x := 5) (zC (x := 4) (zN (x := 0) rfl) rfl) rfl) rfl) rfl) rfl) rfl), rfl, hX19, Pin.le_refl _, Nat.zero_le _, PtOk.start, SnOk.start, ho27, hm20, hpk21, ha26⟩ ?_
 rintro k32 _ w33 ⟨env1, i, lv, ls, sn, GL1, rfl, hk34, hX35, hlek32, hi, hpt, hsn, hw36, hm37, hpk38, hnp39⟩
 have hpl0 := hpt.len
 refine zE (zF ?_)
 refine qD rfl (yN rfl rfl) ?_
 refine qe (zB (zE ?_))
 refine yE (p := ((i : Int) : Int) < (xs.length : Int)) rfl rfl (fun h40 => ?_) (fun h40 => ?_)
 ·skip
  refine wp_skip ?_
  refine zB (zE ?_)
  refine zZ ?_
  refine zE (zF ?_)
  refine qD rfl (zJ Tryz.underlying67 sz3 (v := x) rfl rfl hx (by omega) (by omega)) ?_
  refine qD rfl (zI (r := xs.getD i 0) rfl ag3 (z := (i : Int)) rfl hx (Pins.of_le hX35.pins hlek32) (by omega) (by omega)) ?_
  refine qD rfl (zD (v := (.int .i64 (xs.getD i 0))) rfl) ?_
  refine qe (zB (zE (zF ?_)))
  refine qD rfl (zA (v := (.map (some m3))) rfl) ?_
  refine qD rfl (zA (v := (.int .i64 (xs.getD i 0))) rfl) ?_
  refine qD rfl (run_look1_bool (k := (xs.getD i 0)) (key_int Tryz.underlying3) Tryz.underlying120 zr4 hm37 rfl rfl) ?_
  refine qD rfl (xS rfl) ?_
  refine qe (zB ?_)
  refine qW rfl rfl (fun h41 => ?_) (fun h41 => ?_)
  ·skip
   refine wp_skip ?_
   refine yA ?_
   refine zB (zF ?_)
   refine qD rfl (yJ rfl rfl (by omega)) ?_
   refine qD rfl (zA (v := (.int .i64 ((i : Int) + 1))) rfl) ?_
   refine qe ?_
   refine zY ?_
   refine ⟨_, ?_, _, rfl, _, i + 1, lv, ls, sn, GL1, (zC (x := 18) (zC (x := 17) (zC (x := 16) (zC (x := 6) (zC (x := 5) (zC (x := 4) (zN (x := 0) rfl) rfl) rfl) rfl) rfl) rfl) rfl), rfl, hX35, hlek32, (by omega), (hpt.rseen (by omega) (hsn.yes h41)), hsn, hw36, hm37, hpk38, hnp39⟩
   omega
  refine zE (zF ?_)
  refine qD rfl (zA (v := (.map (some m3))) rfl) ?_
  refine qD rfl (zA (v := (.int .i64 (xs.getD i 0))) rfl) ?_
  refine q0 rfl rfl rfl (xV (val := (fun v : Bool => Value.bool v)) (k := (xs.getD i 0)) (v := true) (key_int Tryz.underlying3) Tryz.underlying120 rfl rfl rfl hX35.pins hm37 (fun w42 hm43 hp44 hg45 hz46 => ?_))
  have hX47 := hX35.write hp44 hg45 ((xJ hlo12))
  have ho48 := hw36.keptA hg45 (yK hm37 hw36).symm
  have hpk49 := hpk38.kept hg45 hp44 hnp11
  refine qe (zB (zF ?_))
  refine qD rfl (zA (v := lv) rfl) ?_
  refine qD rfl (zA (v := (.int .i64 (xs.getD i 0))) rfl) ?_
  refine qI rfl (yQ (E := eInt) (e := 3) [(.int .i64 (xs.getD i 0))] [xs.getD i 0] Tryz.underlying67 sz3 zr3 (by exact xO (by rfl)) (xG (by rfl)) rfl rfl rfl rfl (by decide) hX47.pins (fun u50 w51 ho52 hp53 hl54 hk55 => ?_))
  have hX56 := hX47.step hp53 hl54
  have ho57 := ho48.below hl54
  have hm58 := hm43.below hl54
  have hpk59 := hpk49.below hl54 hp53
  have ho66 : Own eInt 3 GL1 w51 w.heap.size u50 ([xs.getD i 0]) := ho52.weaken hX47.size
  refine qI rfl (yB (E := eInt) (v := lv) (u := u50) 8 Tryz.underlying67 ap3 (by decide) rfl rfl hX56.pins ho57 ho66.src (by first | omega | (rw [List.nil_append]; omega) | (rw [List.length_nil]; omega) | (rw [List.length_append]; omega) | (simp; done) | (simp; omega) | (simp only [List.length_append, List.length_cons, List.length_nil]; omega)) (by first | omega | (rw [List.nil_append]; omega) | (rw [List.length_nil]; omega) | (rw [List.length_append]; omega) | (simp; done) | (simp; omega) | (simp only [List.length_append, List.length_cons, List.length_nil]; omega)) (hX56.size) (fun u67 w68 ho69 hp70 hg71 hw72 => ?_))
  have hX73 := hX56.write hp70 hg71 ((yI ho57))
  have hm75 := hm58.kept hg71 (yK hm58 ho57)
  have hpk76 := hpk59.kept hg71 hp70 hnp39
  have hnp78 := qT hnp39 hpk59 hw72
  have hm79 : (ls ++ ([xs.getD i 0])).length = ls.length + 1 := List.length_append
  refine qD rfl (zD (v := u67) rfl) ?_
  refine qe ?_
  refine yA ?_
  refine zB (zF ?_)
  refine qD rfl (yJ rfl rfl (by omega)) ?_
  refine qD rfl (zA (v := (.int .i64 ((i : Int) + 1))) rfl) ?_
  refine qe ?_
  refine zY ?_
  refine ⟨_, ?_, _, rfl, _, i + 1, u67, ls ++ ([xs.getD i 0]), putE sn (xs.getD i 0) true, GL1, (zC (x := 18) (zC (x := 17) (zC (x := 16) (zC (x := 6) (zC (x := 5) (zC (x := 4) (zN (x := 0) rfl) rfl) rfl) rfl) rfl) rfl) rfl), rfl, hX73, hlek32, (by omega), (hpt.rnew (by omega) (hsn.no h41) (hr i (by omega))), hsn.put, ho69, hm75, hpk76, hnp78⟩
  omega
 refine wp_exit ?_
 refine zX ?_
 refine yL ?_
 refine yF ?_
 refine zB (zE (zE (zF ?_)))
 refine qD rfl (zD (v := (.int .i64 0)) rfl) ?_
 refine qe (zB ?_)
 refine zZ ?_
 have hin : i = xs.length := by omega
 rw [hin, take_all (Nat.le_refl _)] at hpt
 refine yM (fun (k : Nat) (en : Nat → Value) (W : World) => ∃ (env1 : Nat → Value) (k2 : Nat) (lv2 : Value) (ls2 : List Int) (sn2 : List (Int × Bool)) (GL2 : Pin), en = (upd (upd (upd (upd (upd env1 0 (.pointer (some ⟨p, 0, none⟩))) 4 (.slice none 0 0)) 5 (.map (some m3))) 6 lv2) 9 (.int .i64 (k2 : Int))) ∧ k = q.ns.length - k2 ∧ Ext noS G w GL2 W ∧ Pin.le GL1 GL2 ∧ (PtOk q xs ls2 k2) ∧ (SnOk sn2 ls2) ∧ (Own eInt 3 GL2 W w.heap.size lv2 (ls2)) ∧ (Mp (fun k : Int => Value.int .i64 k) (fun v : Bool => Value.bool v) W m3 (sn2)) ∧ (Pk 67 3 GL2 W p L R B mm q) ∧ (NP p L R B mm lv2.ownBlock)) _ ⟨_, 0, lv, ls, sn, GL1, (zC (x := 9) (zC (x := 6) (zC (x := 5) (zC (x := 4) (zN (x := 0) rfl) rfl) rfl) rfl) rfl), rfl, hX35, Pin.le_refl _, hpt, hsn, hw36, hm37, hpk38, hnp39⟩ ?_
 rintro k84 _ w85 ⟨env1, k2, lv2, ls2, sn2, GL2, rfl, hk86, hX87, hlek84, hpt2, hsn2, hw88, hm89, hpk90, hnp91⟩
 have hpl2 := hpt2.len
 have hkl2 := hpt2.kl
 refine zE (zE (zF ?_))
 refine qD rfl (zA (v := (.int .i64 (k2 : Int))) rfl) ?_
 refine qD rfl (zA (v := lv2) rfl) ?_
 refine qD rfl (zL Tryz.underlying67 (v := lv2) rfl hw88.read) ?_
 refine qD rfl (yN rfl rfl) ?_
 refine qe (zB ?_)
 refine yE (p := ((k2 : Int) : Int) < (ls2.length : Int)) rfl rfl (fun h92 => ?_) (fun h92 => ?_)
 ·skip
  have hzp := hpt2.pl _ (yG (d := (0 : Int)) (show k2 < ls2.length by omega))
  have hz0 := hzp.1
  have hz1 := hzp.2
  have holl := hok.ar.ok.lens (ls2.getD k2 0).toNat (by omega)
  refine wp_skip ?_
  refine zB (zE ?_)
  refine zZ ?_
  refine zE ?_
  have hq93 := Gadd.pins hX87.pins lv2
  have hq94 := Gadd.pins hX87.pins L
  have hq95 := Gadd.pins hX87.pins R
  have hr96 := hw88.read
  have hr97 := hpk90.ol.read
  have hr98 := hpk90.rr.read
  refine xE (S := fun wz => BxR wz p [L, R, B, (.map (some mm.f)), (.map (some mm.o)), (.map (some mm.c)), (.map (some mm.s)), (.map (some mm.n))] ∧ Pins (Gadd GL2 w85 lv2) wz ∧ Pins (Gadd GL2 w85 L) wz ∧ Pins (Gadd GL2 w85 R) wz) (last := 22) (by kernel_rfl) rfl ?_
  have hl99 : Below w85.heap.size w85 w85.drew := (Below.refl _ _).drew
  have hp100 := hX87.pins.below hl99
  have hX101 := hX87.step hp100 hl99
  have ho102 := hw88.below hl99
  have hm103 := hm89.below hl99
  have hpk104 := hpk90.below hl99 hp100
  have hq105 := hq93.below hl99
  have hq106 := hq94.below hl99
  have hq107 := hq95.below hl99
  refine dT (i := 0) rfl rfl (by kernel_rfl) (fun _ _ => zA (v := (.pointer (some ⟨p, 0, none⟩))) rfl) ⟨hpk104.bx.reads, hq105, hq106, hq107⟩ ?_
  refine dT (i := 1) rfl rfl (by kernel_rfl) (fun _ _ => yP rfl) ⟨hpk104.bx.reads, hq105, hq106, hq107⟩ ?_
  refine dT (i := 2) rfl rfl (by kernel_rfl) (fun _ _ => zM (k := 0) rfl Tryz.underlying74 rfl nz68 rfl) ⟨hpk104.bx.reads, hq105, hq106, hq107⟩ ?_
  refine dT (i := 3) rfl rfl (by kernel_rfl) (fun _ hS => zO (u := L) ag68 rfl (hS.1 0 _ rfl)) ⟨hpk104.bx.reads, hq105, hq106, hq107⟩ ?_
  refine dT (i := 4) rfl rfl (by kernel_rfl) (fun _ _ => zA (v := lv2) rfl) ⟨hpk104.bx.reads, hq105, hq106, hq107⟩ ?_
  refine dT (i := 5) rfl rfl (by kernel_rfl) (fun _ _ => zA (v := (.int .i64 (k2 : Int))) rfl) ⟨hpk104.bx.reads, hq105, hq106, hq107⟩ ?_
  refine dT (i := 6) rfl rfl (by kernel_rfl) (fun _ _ => zJ Tryz.underlying67 sz3 (v := lv2) rfl rfl hr96 (by omega) (by omega)) ⟨hpk104.bx.reads, hq105, hq106, hq107⟩ ?_
  refine dT (i := 7) rfl rfl (by kernel_rfl) (fun _ hS => zI (r := ls2.getD k2 0) rfl ag3 (z := (k2 : Int)) rfl hr96 hS.2.1 (by omega) (by omega)) ⟨hpk104.bx.reads, hq105, hq106, hq107⟩ ?_
  refine dT (i := 8) rfl rfl (by kernel_rfl) (fun _ _ => zJ Tryz.underlying68 sz67 (v := L) rfl rfl hr97 (by omega) (by omega)) ⟨hpk104.bx.reads, hq105, hq106, hq107⟩ ?_
  obtain ⟨u108, hr109, hl110⟩ := nm_sl (hpk90.ol.at (z := (ls2.getD k2 0)) (by omega) (by omega)) (j := (ls2.getD k2 0).toNat) rfl
  rw [mapl_getD] at hr109
  have hm111 := hr109.max
  refine dT (i := 9) rfl rfl (by kernel_rfl) (fun _ hS => hl110 ag67 rfl hS.2.2.1) ⟨hpk104.bx.reads, hq105, hq106, hq107⟩ ?_
  refine dT (i := 10) rfl rfl (by kernel_rfl) (fun _ _ => zA (v := (.pointer (some ⟨p, 0, none⟩))) rfl) ⟨hpk104.bx.reads, hq105, hq106, hq107⟩ ?_
  refine dT (i := 11) rfl rfl (by kernel_rfl) (fun _ _ => yP rfl) ⟨hpk104.bx.reads, hq105, hq106, hq107⟩ ?_
  refine dT (i := 12) rfl rfl (by kernel_rfl) (fun _ _ => zM (k := 1) rfl Tryz.underlying74 rfl nz68 rfl) ⟨hpk104.bx.reads, hq105, hq106, hq107⟩ ?_
  refine dT (i := 13) rfl rfl (by kernel_rfl) (fun _ hS => zO (u := R) ag68 rfl (hS.1 1 _ rfl)) ⟨hpk104.bx.reads, hq105, hq106, hq107⟩ ?_
  refine dT (i := 14) rfl rfl (by kernel_rfl) (fun _ _ => zA (v := lv2) rfl) ⟨hpk104.bx.reads, hq105, hq106, hq107⟩ ?_
  refine dT (i := 15) rfl rfl (by kernel_rfl) (fun _ _ => zA (v := (.int .i64 (k2 : Int))) rfl) ⟨hpk104.bx.reads, hq105, hq106, hq107⟩ ?_
  refine dT (i := 16) rfl rfl (by kernel_rfl) (fun _ _ => zJ Tryz.underlying67 sz3 (v := lv2) rfl rfl hr96 (by omega) (by omega)) ⟨hpk104.bx.reads, hq105, hq106, hq107⟩ ?_
  refine dT (i := 17) rfl rfl (by kernel_rfl) (fun _ hS => zI (r := ls2.getD k2 0) rfl ag3 (z := (k2 : Int)) rfl hr96 hS.2.1 (by omega) (by omega)) ⟨hpk104.bx.reads, hq105, hq106, hq107⟩ ?_
  refine dT (i := 18) rfl rfl (by kernel_rfl) (fun _ _ => zJ Tryz.underlying68 sz67 (v := R) rfl rfl hr98 (by omega) (by omega)) ⟨hpk104.bx.reads, hq105, hq106, hq107⟩ ?_
  obtain ⟨u112, hr113, hl114⟩ := nm_sl (hpk90.rr.at (z := (ls2.getD k2 0)) (by omega) (by omega)) (j := (ls2.getD k2 0).toNat) rfl
  rw [mapr_getD] at hr113
  have hm115 := hr113.max
  refine dT (i := 19) rfl rfl (by kernel_rfl) (fun _ hS => hl114 ag67 rfl hS.2.2.2) ⟨hpk104.bx.reads, hq105, hq106, hq107⟩ ?_
  refine dT (i := 20) rfl rfl (by kernel_rfl) (fun _ _ => r_buildA (m := 1) [(.slice none 0 0), (.slice none 0 0)] [u108, u112] [(0, u108, [u108]), (1, u112, [u112])] Tryz.underlying96 zr96 rfl sz67 rfl (List.forall_mem_cons.2 ⟨(xI hr109.one), (List.forall_mem_cons.2 ⟨(xI hr113.one), (fun _ h => by cases h)⟩)⟩) rfl) ⟨hpk104.bx.reads, hq105, hq106, hq107⟩ ?_
  refine dT (i := 21) rfl rfl (by kernel_rfl) (fun _ _ => zA (v := (.int .i64 0)) rfl) ⟨hpk104.bx.reads, hq105, hq106, hq107⟩ ?_
  refine yT (by kernel_rfl) ?_
  refine zB ?_
  refine zZ ?_
  refine yM (fun (k : Nat) (en : Nat → Value) (W : World) => ∃ (env1 : Nat → Value) (s : Nat) (lv3 : Value) (ls3 : List Int) (sn3 : List (Int × Bool)) (GL3 : Pin), en = (upd (upd (upd (upd (upd (upd (upd env1 0 (.pointer (some ⟨p, 0, none⟩))) 4 (.slice none 0 0)) 5 (.map (some m3))) 6 lv3) 9 (.int .i64 (k2 : Int))) 59 (.agg [u108, u112].toArray)) 60 (.int .i64 (s : Int))) ∧ k = 2 - s ∧ Ext noS G w GL3 W ∧ Pin.le GL2 GL3 ∧ (s ≤ 2) ∧ (PtIn q xs ls3 k2 (ls2.getD k2 0) (dzL (q.ns.getD (ls2.getD k2 0).toNat default).l (q.ns.getD (ls2.getD k2 0).toNat default).r s)) ∧ (SnOk sn3 ls3) ∧ (Own eInt 3 GL3 W w.heap.size lv3 (ls3)) ∧ (Mp (fun k : Int => Value.int .i64 k) (fun v : Bool => Value.bool v) W m3 (sn3)) ∧ (Pk 67 3 GL3 W p L R B mm q) ∧ (NP p L R B mm lv3.ownBlock)) _ ⟨_, 0, lv2, ls2, sn2, GL2, (zC (x := 60) (zC (x := 59) (zC (x := 9) (zC (x := 6) (zC (x := 5) (zC (x := 4) (zN (x := 0) rfl) rfl) rfl) rfl) rfl) rfl) rfl), rfl, hX101, Pin.le_refl _, Nat.zero_le _, (PtIn.start hpt2 (by omega)), hsn2, ho102, hm103, hpk104, hnp91⟩ ?_
  rintro k120 _ w121 ⟨env1, s, lv3, ls3, sn3, GL3, rfl, hk122, hX123, hlek120, hs, hin3, hsn3, hw124, hm125, hpk126, hnp127⟩
  have hpl3 := hin3.ok.len
  refine zE (zF ?_)
  refine qD rfl (yN rfl rfl) ?_
  refine qe (zB (zE ?_))
  refine yE (p := ((s : Int) : Int) < 2) rfl rfl (fun h128 => ?_) (fun h128 => ?_)
  ·skip
   refine wp_skip ?_
   refine zB (zE ?_)
   refine zZ ?_
   refine zE (zF ?_)
   obtain ⟨u129, hr130, hl131⟩ := name_index2 (hr109.mono hlek120) (hr113.mono hlek120) (z := (s : Int)) s (by omega) (by omega) rfl
   have hm132 := hr130.max
   refine qD rfl (hl131 Tryz.underlying96 rfl sz67 ag67 rfl rfl) ?_
   refine qD rfl (zD (v := u129) rfl) ?_
   refine qe (zB (zE (zF ?_)))
   refine qD rfl (zA (v := u129) rfl) ?_
   refine qD rfl (zL Tryz.underlying67 (v := u129) rfl hr130) ?_
   refine qD rfl (zA (v := (.int .i64 0)) rfl) ?_
   refine qe (zB ?_)
   refine zZ ?_
   refine yM (fun (k : Nat) (en : Nat → Value) (W : World) => ∃ (env1 : Nat → Value) (j : Nat) (lv4 : Value) (ls4 : List Int) (sn4 : List (Int × Bool)) (GL4 : Pin), en = (upd (upd (upd (upd (upd (upd (upd (upd (upd (upd env1 0 (.pointer (some ⟨p, 0, none⟩))) 4 (.slice none 0 0)) 5 (.map (some m3))) 6 lv4) 9 (.int .i64 (k2 : Int))) 59 (.agg [u108, u112].toArray)) 60 (.int .i64 (s : Int))) 63 u129) 64 (.int .i64 ((pick2 s ((q.ns.getD (ls2.getD k2 0).toNat default).l) ((q.ns.getD (ls2.getD k2 0).toNat default).r)).length : Int))) 65 (.int .i64 (j : Int))) ∧ k = (pick2 s (q.ns.getD (ls2.getD k2 0).toNat default).l (q.ns.getD (ls2.getD k2 0).toNat default).r).length - j ∧ Ext noS G w GL4 W ∧ Pin.le GL3 GL4 ∧ (j ≤ (pick2 s (q.ns.getD (ls2.getD k2 0).toNat default).l (q.ns.getD (ls2.getD k2 0).toNat default).r).length) ∧ (PtIn q xs ls4 k2 (ls2.getD k2 0) (dzL (q.ns.getD (ls2.getD k2 0).toNat default).l (q.ns.getD (ls2.getD k2 0).toNat default).r s ++ (pick2 s (q.ns.getD (ls2.getD k2 0).toNat default).l (q.ns.getD (ls2.getD k2 0).toNat default).r).take j)) ∧ (SnOk sn4 ls4) ∧ (Own eInt 3 GL4 W w.heap.size lv4 (ls4)) ∧ (Mp (fun k : Int => Value.int .i64 k) (fun v : Bool => Value.bool v) W m3 (sn4)) ∧ (Pk 67 3 GL4 W p L R B mm q) ∧ (NP p L R B mm lv4.ownBlock)) _ ⟨_, 0, lv3, ls3, sn3, GL3, (zC (x := 65) (zC (x := 64) (zC (x := 63) (zC (x := 60) (zC (x := 59) (zC (x := 9) (zC (x := 6) (zC (x := 5) (zC (x := 4) (zN (x := 0) rfl) rfl) rfl) rfl) rfl) rfl) rfl) rfl) rfl) rfl), rfl, hX123, Pin.le_refl _, Nat.zero_le _, (by rw [List.take_zero, List.append_nil]; exact hin3), hsn3, hw124, hm125, hpk126, hnp127⟩ ?_
   rintro k137 _ w138 ⟨env1, j, lv4, ls4, sn4, GL4, rfl, hk139, hX140, hlek137, hj, hin4, hsn4, hw141, hm142, hpk143, hnp144⟩
   have hpl5 := hin4.ok.len
   refine zE (zF ?_)
   refine qD rfl (yN rfl rfl) ?_
   refine qe (zB (zE ?_))
   refine yE (p := ((j : Int) : Int) < ((pick2 s ((q.ns.getD (ls2.getD k2 0).toNat default).l) ((q.ns.getD (ls2.getD k2 0).toNat default).r)).length : Int)) rfl rfl (fun h145 => ?_) (fun h145 => ?_)
   ·skip
    refine wp_skip ?_
    refine zB (zE ?_)
    refine zZ ?_
    refine zE (zF ?_)
    refine qD rfl (zJ Tryz.underlying67 sz3 (v := u129) rfl rfl hr130 (by omega) (by omega)) ?_
    refine qD rfl (zI (r := (pick2 s ((q.ns.getD (ls2.getD k2 0).toNat default).l) ((q.ns.getD (ls2.getD k2 0).toNat default).r)).getD j 0) rfl ag3 (z := (j : Int)) rfl hr130 (Pins.of_le hX140.pins hlek137) (by omega) (by omega)) ?_
    refine qD rfl (zD (v := (.int .i64 ((pick2 s ((q.ns.getD (ls2.getD k2 0).toNat default).l) ((q.ns.getD (ls2.getD k2 0).toNat default).r)).getD j 0))) rfl) ?_
    refine qe (zB (zE (zF ?_)))
    refine qD rfl (zA (v := (.map (some m3))) rfl) ?_
    refine qD rfl (zA (v := (.int .i64 ((pick2 s ((q.ns.getD (ls2.getD k2 0).toNat default).l) ((q.ns.getD (ls2.getD k2 0).toNat default).r)).getD j 0))) rfl) ?_
    refine qD rfl (run_look1_bool (k := ((pick2 s ((q.ns.getD (ls2.getD k2 0).toNat default).l) ((q.ns.getD (ls2.getD k2 0).toNat default).r)).getD j 0)) (key_int Tryz.underlying3) Tryz.underlying120 zr4 hm142 rfl rfl) ?_
    refine qD rfl (xS rfl) ?_
    refine qe (zB ?_)
    refine qW rfl rfl (fun h146 => ?_) (fun h146 => ?_)
    ·skip
     refine wp_skip ?_
     refine yA ?_
     refine zB (zF ?_)
     refine qD rfl (yJ rfl rfl (by omega)) ?_
     refine qD rfl (zA (v := (.int .i64 ((j : Int) + 1))) rfl) ?_
     refine qe ?_
     refine zY ?_
     refine ⟨_, ?_, _, rfl, _, j + 1, lv4, ls4, sn4, GL4, (zC (x := 65) (zC (x := 64) (zC (x := 63) (zC (x := 60) (zC (x := 59) (zC (x := 9) (zC (x := 6) (zC (x := 5) (zC (x := 4) (zN (x := 0) rfl) rfl) rfl) rfl) rfl) rfl) rfl) rfl) rfl) rfl), rfl, hX140, hlek137, (by omega), (by rw [xX _ 0 (show j < (pick2 s (q.ns.getD (ls2.getD k2 0).toNat default).l (q.ns.getD (ls2.getD k2 0).toNat default).r).length by omega), ← List.append_assoc]; exact hin4.seen (hsn4.yes h146)), hsn4, hw141, hm142, hpk143, hnp144⟩
     omega
    refine zE (zF ?_)
    refine qD rfl (zA (v := (.map (some m3))) rfl) ?_
    refine qD rfl (zA (v := (.int .i64 ((pick2 s ((q.ns.getD (ls2.getD k2 0).toNat default).l) ((q.ns.getD (ls2.getD k2 0).toNat default).r)).getD j 0))) rfl) ?_
    refine q0 rfl rfl rfl (xV (val := (fun v : Bool => Value.bool v)) (k := ((pick2 s ((q.ns.getD (ls2.getD k2 0).toNat default).l) ((q.ns.getD (ls2.getD k2 0).toNat default).r)).getD j 0)) (v := true) (key_int Tryz.underlying3) Tryz.underlying120 rfl rfl rfl hX140.pins hm142 (fun w147 hm148 hp149 hg150 hz151 => ?_))
    have hX152 := hX140.write hp149 hg150 ((xJ hlo12))
    have ho153 := hw141.keptA hg150 (yK hm142 hw141).symm
    have hpk154 := hpk143.kept hg150 hp149 hnp11
    refine qe (zB (zF ?_))
    refine qD rfl (zA (v := lv4) rfl) ?_
    refine qD rfl (zA (v := (.int .i64 ((pick2 s ((q.ns.getD (ls2.getD k2 0).toNat default).l) ((q.ns.getD (ls2.getD k2 0).toNat default).r)).getD j 0))) rfl) ?_
    refine qI rfl (yQ (E := eInt) (e := 3) [(.int .i64 ((pick2 s ((q.ns.getD (ls2.getD k2 0).toNat default).l) ((q.ns.getD (ls2.getD k2 0).toNat default).r)).getD j 0))] [(pick2 s ((q.ns.getD (ls2.getD k2 0).toNat default).l) ((q.ns.getD (ls2.getD k2 0).toNat default).r)).getD j 0] Tryz.underlying67 sz3 zr3 (by exact xO (by rfl)) (xG (by rfl)) rfl rfl rfl rfl (by decide) hX152.pins (fun u155 w156 ho157 hp158 hl159 hk160 => ?_))
    have hX161 := hX152.step hp158 hl159
    have ho162 := ho153.below hl159
    have hm163 := hm148.below hl159
    have hpk164 := hpk154.below hl159 hp158
    have ho171 : Own eInt 3 GL4 w156 w.heap.size u155 ([(pick2 s ((q.ns.getD (ls2.getD k2 0).toNat default).l) ((q.ns.getD (ls2.getD k2 0).toNat default).r)).getD j 0]) := ho157.weaken hX152.size
    refine qI rfl (yB (E := eInt) (v := lv4) (u := u155) 8 Tryz.underlying67 ap3 (by decide) rfl rfl hX161.pins ho162 ho171.src (by first | omega | (rw [List.nil_append]; omega) | (rw [List.length_nil]; omega) | (rw [List.length_append]; omega) | (simp; done) | (simp; omega) | (simp only [List.length_append, List.length_cons, List.length_nil]; omega)) (by first | omega | (rw [List.nil_append]; omega) | (rw [List.length_nil]; omega) | (rw [List.length_append]; omega) | (simp; done) | (simp; omega) | (simp only [List.length_append, List.length_cons, List.length_nil]; omega)) (hX161.size) (fun u172 w173 ho174 hp175 hg176 hw177 => ?_))
    have hX178 := hX161.write hp175 hg176 ((yI ho162))
    have hm180 := hm163.kept hg176 (yK hm163 ho162)
    have hpk181 := hpk164.kept hg176 hp175 hnp144
    have hnp183 := qT hnp144 hpk164 hw177
    have hm184 : (ls4 ++ ([(pick2 s ((q.ns.getD (ls2.getD k2 0).toNat default).l) ((q.ns.getD (ls2.getD k2 0).toNat default).r)).getD j 0])).length = ls4.length + 1 := List.length_append
    refine qD rfl (zD (v := u172) rfl) ?_
    refine qe ?_
    refine yA ?_
    refine zB (zF ?_)
    refine qD rfl (yJ rfl rfl (by omega)) ?_
    refine qD rfl (zA (v := (.int .i64 ((j : Int) + 1))) rfl) ?_
    refine qe ?_
    refine zY ?_
    refine ⟨_, ?_, _, rfl, _, j + 1, u172, ls4 ++ ([(pick2 s ((q.ns.getD (ls2.getD k2 0).toNat default).l) ((q.ns.getD (ls2.getD k2 0).toNat default).r)).getD j 0]), putE sn4 ((pick2 s ((q.ns.getD (ls2.getD k2 0).toNat default).l) ((q.ns.getD (ls2.getD k2 0).toNat default).r)).getD j 0) true, GL4, (zC (x := 65) (zC (x := 64) (zC (x := 63) (zC (x := 60) (zC (x := 59) (zC (x := 9) (zC (x := 6) (zC (x := 5) (zC (x := 4) (zN (x := 0) rfl) rfl) rfl) rfl) rfl) rfl) rfl) rfl) rfl) rfl), rfl, hX178, hlek137, (by omega), (by rw [xX _ 0 (show j < (pick2 s (q.ns.getD (ls2.getD k2 0).toNat default).l (q.ns.getD (ls2.getD k2 0).toNat default).r).length by omega), ← List.append_assoc]; exact hin4.new hok (hsn4.no h146) (dz_in (by omega) (by omega))), hsn4.put, ho174, hm180, hpk181, hnp183⟩
    omega
   have hjn : j = (pick2 s (q.ns.getD (ls2.getD k2 0).toNat default).l (q.ns.getD (ls2.getD k2 0).toNat default).r).length := by omega
   rw [hjn, take_all (Nat.le_refl _)] at hin4
   have hin5 : PtIn q xs ls4 k2 (ls2.getD k2 0) (dzL (q.ns.getD (ls2.getD k2 0).toNat default).l (q.ns.getD (ls2.getD k2 0).toNat default).r (s + 1)) := by rw [dz_next (by omega)]; exact hin4
   refine wp_exit ?_
   refine zX ?_
   refine yL ?_
   refine yF ?_
   refine yA ?_
   refine zB (zF ?_)
   refine qD rfl (yJ rfl rfl (by omega)) ?_
   refine qD rfl (zA (v := (.int .i64 ((s : Int) + 1))) rfl) ?_
   refine qe ?_
   refine zY ?_
   refine ⟨_, ?_, _, rfl, _, s + 1, lv4, ls4, sn4, GL4, (zC (x := 60) (zC (x := 59) (zC (x := 9) (zC (x := 6) (zC (x := 5) (zC (x := 4) (zN (x := 0) rfl) rfl) rfl) rfl) rfl) rfl) rfl), rfl, hX140, (Pin.le_trans hlek120 hlek137), (by omega), hin5, hsn4, hw141, hm142, hpk143, hnp144⟩
   omega
  have hs2 : s = 2 := by omega
  rw [hs2] at hin3
  have hdone := hin3.done (fun o ho => ho)
  have hpl4 := hdone.kl
  refine wp_exit ?_
  refine zX ?_
  refine yL ?_
  refine yF ?_
  refine yA ?_
  refine zB (zF ?_)
  refine qD rfl (zA (v := (.int .i64 (k2 : Int))) rfl) ?_
  refine qD rfl (yJ rfl rfl (by omega)) ?_
  refine qD rfl (zD (v := (.int .i64 ((k2 : Int) + 1))) rfl) ?_
  refine qe ?_
  refine zY ?_
  refine ⟨_, ?_, _, rfl, _, k2 + 1, lv3, ls3, sn3, GL3, (zC (x := 9) (zC (x := 6) (zC (x := 5) (zC (x := 4) (zN (x := 0) rfl) rfl) rfl) rfl) rfl), rfl, hX123, (Pin.le_trans hlek84 hlek120), hdone, hsn3, hw124, hm125, hpk126, hnp127⟩
  omega
 refine wp_exit ?_
 refine zX ?_
 refine yL ?_
 refine yF ?_
 refine zB (zE (zF ?_))
 refine qD rfl (zA (v := lv2) rfl) ?_
 refine qD rfl (zD (v := lv2) rfl) ?_
 refine qe (zB ?_)
 refine wp_ret ?_
 refine zW ?_
 refine zS (v := lv2) rfl rfl rfl ?_
 have hkk : k2 = ls2.length := by omega
 rw [hkk] at hpt2
 exact ⟨_, _, _, rfl, hw88, hpt2, hX87⟩

end PA1
end Go.Proofs.YtpknebplcmgnkaaGreatDoor

set_option maxRecDepth 20000
set_option maxHeartbeats 2000000
namespace Go.Proofs.YtpknebplcmgnkaaGreatDoor
namespace DI1
open Go.RowKit Go.GL Go.Proofs
open Go.Proofs.YtpknebplcmgnkaaGreatDoor.B1
open Go.Proofs.YtpknebplcmgnkaaGreatDoor.K1
open Go.Proofs.YtpknebplcmgnkaaGreatDoor.PO1
open Go.Proofs.YtpknebplcmgnkaaGreatDoor.PL1





theorem idominated_spec {p : Nat} {L R B : Value} {mm : PM} {w : World} {G : Pin} {q : PSt} {x : Value} {xs : List Int} {lf : Bool} (hP : Pins G w) (hpk : Pk 67 3 G w p L R B mm q) (hok : PoolOk q) (hx : RSl eInt G x xs) (hxl : xs.length ≤ 1048576) (hpl : ∀ i, i < xs.length → PlaceOk q (xs.getD i 0)) :
  Calls Tryz.prog 164 [(.pointer (some ⟨p, 0, none⟩)), x, (.bool lf)].toArray w fun e w' => ∃ (u : Value) (q' : PSt) (G' : Pin), e = .returned u ∧ Own eInt 3 G' w' w.heap.size u (domL (gX q xs) lf xs.length xs.length) ∧ Pk 67 3 G' w' p L R B mm q' ∧ PoolOk q' ∧ PX q q' ∧ (q'.ns = q.ns ∧ q'.bs = q.bs) ∧ Ext (inO (some mm.o)) G w G' w' := by
 refine yD (n := 61) Tryz.func164 Tryz.ntmps164 rfl rfl ?_
 have hX0 : Ext (inO (some mm.o)) G w G w := Ext.refl hP
 have hpin : PIn w (inP p L R B mm) p L R B mm := PIn.self
 have hml1 : (q.ns.map Nd.l).length = q.ns.length ∧ (q.ns.map Nd.r).length = q.ns.length := ⟨List.length_map .., List.length_map ..⟩
 have hml2 : q.bs.length = q.ns.length ∧ q.ns.length ≤ 1048576 := ⟨hok.ar.ok.len, hok.ar.ok.lim⟩
 refine zE (zF ?_)
 refine qD rfl (zD (v := (.slice none 0 0)) rfl) ?_
 refine qe (zB (zE (zF ?_)))
 refine qI rfl (yZ (E := eInt) (e := 3) Tryz.underlying67 sz3 hX0.pins (fun u3 w4 ho5 hp6 hl7 hk8 => ?_))
 have hX9 := hX0.step hp6 hl7
 have hpk10 := hpk.below hl7 hp6
 have ha15 := hpk.new (x := u3.ownBlock) (fun k hk => by rw [hk8] at hk; cases hk; exact Nat.le_refl _)
 have ho16 : Own eInt 3 G w4 w.heap.size u3 ([]) := ho5.weaken hX0.size
 refine qD rfl (zD (v := u3) rfl) ?_
 refine qe (zB (zE (zE (zF ?_))))
 refine qD rfl (zA (v := x) rfl) ?_
 refine qD rfl (zL Tryz.underlying67 (v := x) rfl hx) ?_
 refine qD rfl (zA (v := (.int .i64 0)) rfl) ?_
 refine qe (zB ?_)
 refine zZ ?_
 refine yM (fun (k : Nat) (en : Nat → Value) (W : World) => ∃ (env1 : Nat → Value) (i : Nat) (ov : Value) (out : List Int) (q20 : PSt) (GL1 : Pin), en = (upd (upd (upd (upd (upd (upd (upd (upd env1 0 (.pointer (some ⟨p, 0, none⟩))) 1 x) 2 (.bool lf)) 6 (.slice none 0 0)) 7 ov) 15 x) 16 (.int .i64 (xs.length : Int))) 17 (.int .i64 (i : Int))) ∧ k = xs.length - i ∧ Ext (inO (some mm.o)) G w GL1 W ∧ Pin.le G GL1 ∧ (i ≤ xs.length) ∧ (out = domL (gX q xs) lf xs.length i) ∧ (Own eInt 3 GL1 W w.heap.size ov (out)) ∧ (Pk 67 3 GL1 W p L R B mm q20) ∧ (PoolOk q20) ∧ (PX q q20) ∧ (q20.ns = q.ns ∧ q20.bs = q.bs) ∧ (NP p L R B mm ov.ownBlock)) _ ⟨_, 0, u3, [], q, G, (zC (x := 17) (zC (x := 16) (zC (x := 15) (zC (x := 7) (zC (x := 6) (zC (x := 2) (zC (x := 1) (zN (x := 0) rfl) rfl) rfl) rfl) rfl) rfl) rfl) rfl), rfl, hX9, Pin.le_refl _, Nat.zero_le _, rfl, ho16, hpk10, hok, (PX.refl _), ⟨rfl, rfl⟩, ha15⟩ ?_
 rintro k21 _ w22 ⟨env1, i, ov, out, q20, GL1, rfl, hk23, hX24, hlek21, hi, hout, hw25, hpk26, hok27, hpx28, hqn29, hnp30⟩
 have hql31 := hpx28.len
 have hml32 : (q20.ns.map Nd.l).length = q20.ns.length ∧ (q20.ns.map Nd.r).length = q20.ns.length := ⟨List.length_map .., List.length_map ..⟩
 have hml33 : q20.bs.length = q20.ns.length ∧ q20.ns.length ≤ 1048576 := ⟨hok27.ar.ok.len, hok27.ar.ok.lim⟩
 have hol : out.length ≤ i := by rw [hout]; exact (dom_len i).1
 refine zE (zF ?_)
 refine qD rfl (yN rfl rfl) ?_
 refine qe (zB (zE ?_))
 refine yE (p := ((i : Int) : Int) < (xs.length : Int)) rfl rfl (fun h34 => ?_) (fun h34 => ?_)
 ·skip
  refine wp_skip ?_
  refine zB (zE ?_)
  refine zZ ?_
  refine zE (zF ?_)
  refine qD rfl (zA (v := (.int .i64 (i : Int))) rfl) ?_
  refine qD rfl (zJ Tryz.underlying67 sz3 (v := x) rfl rfl hx (by omega) (by omega)) ?_
  refine qD rfl (zI (r := xs.getD i 0) rfl ag3 (z := (i : Int)) rfl hx (Pins.of_le hX24.pins hlek21) (by omega) (by omega)) ?_
  refine qD rfl (zD (v := (.int .i64 (i : Int))) rfl) ?_
  refine qD rfl (zD (v := (.int .i64 (xs.getD i 0))) rfl) ?_
  refine qe (zB (zE (zF ?_)))
  refine qD rfl (zA (v := x) rfl) ?_
  refine qD rfl (zL Tryz.underlying67 (v := x) rfl hx) ?_
  refine qD rfl (zA (v := (.int .i64 0)) rfl) ?_
  refine qe (zB ?_)
  refine zZ ?_
  refine yM (fun (k : Nat) (en : Nat → Value) (W : World) => ∃ (env1 : Nat → Value) (j : Nat) (q38 : PSt) (GL2 : Pin), en = (upd (upd (upd (upd (upd (upd (upd (upd (upd (upd (upd (upd (upd env1 0 (.pointer (some ⟨p, 0, none⟩))) 1 x) 2 (.bool lf)) 6 (.slice none 0 0)) 7 ov) 8 (.int .i64 (i : Int))) 9 (.int .i64 (xs.getD i 0))) 15 x) 16 (.int .i64 (xs.length : Int))) 17 (.int .i64 (i : Int))) 22 x) 23 (.int .i64 (xs.length : Int))) 24 (.int .i64 (j : Int))) ∧ k = xs.length - j ∧ Ext (inO (some mm.o)) G w GL2 W ∧ Pin.le GL1 GL2 ∧ (j ≤ xs.length) ∧ (∀ x, x < j → ¬ domP (gX q xs) lf i x) ∧ (Own eInt 3 GL2 W w.heap.size ov (out)) ∧ (Pk 67 3 GL2 W p L R B mm q38) ∧ (PoolOk q38) ∧ (PX q20 q38) ∧ (q38.ns = q20.ns ∧ q38.bs = q20.bs)) _ ⟨_, 0, q20, GL1, (zC (x := 24) (zC (x := 23) (zC (x := 22) (zC (x := 17) (zC (x := 16) (zC (x := 15) (zC (x := 9) (zC (x := 8) (zC (x := 7) (zC (x := 6) (zC (x := 2) (zC (x := 1) (zN (x := 0) rfl) rfl) rfl) rfl) rfl) rfl) rfl) rfl) rfl) rfl) rfl) rfl) rfl), rfl, hX24, Pin.le_refl _, Nat.zero_le _, (fun x h => absurd h (Nat.not_lt_zero x)), hw25, hpk26, hok27, (PX.refl _), ⟨rfl, rfl⟩⟩ ?_
  rintro k39 _ w40 ⟨env1, j, q38, GL2, rfl, hk41, hX42, hlek39, hj, hnd, hw43, hpk44, hok45, hpx46, hqn47⟩
  have hql48 := hpx46.len
  have hml49 : (q38.ns.map Nd.l).length = q38.ns.length ∧ (q38.ns.map Nd.r).length = q38.ns.length := ⟨List.length_map .., List.length_map ..⟩
  have hml50 : q38.bs.length = q38.ns.length ∧ q38.ns.length ≤ 1048576 := ⟨hok45.ar.ok.len, hok45.ar.ok.lim⟩
  refine zE (zF ?_)
  refine qD rfl (yN rfl rfl) ?_
  refine qe (zB (zE ?_))
  refine yE (p := ((j : Int) : Int) < (xs.length : Int)) rfl rfl (fun h51 => ?_) (fun h51 => ?_)
  ·skip
   refine wp_skip ?_
   refine zB (zE ?_)
   refine zZ ?_
   refine zE (zF ?_)
   refine qD rfl (zA (v := (.int .i64 (j : Int))) rfl) ?_
   refine qD rfl (zJ Tryz.underlying67 sz3 (v := x) rfl rfl hx (by omega) (by omega)) ?_
   refine qD rfl (zI (r := xs.getD j 0) rfl ag3 (z := (j : Int)) rfl hx (Pins.of_le hX42.pins (Pin.le_trans hlek21 hlek39)) (by omega) (by omega)) ?_
   refine qD rfl (zD (v := (.int .i64 (j : Int))) rfl) ?_
   refine qD rfl (zD (v := (.int .i64 (xs.getD j 0))) rfl) ?_
   refine qe (zB (zE (zE (zF ?_))))
   refine qD rfl (zA (v := (.int .i64 (j : Int))) rfl) ?_
   refine qD rfl (zA (v := (.int .i64 (i : Int))) rfl) ?_
   refine qD rfl (r_eql rfl rfl) ?_
   refine qe (zB ?_)
   refine yE (p := ((j : Int) : Int) = (i : Int)) rfl rfl (fun h52 => ?_) (fun h52 => ?_)
   ·skip
    refine wp_exit ?_
    refine zX ?_
    refine yF ?_
    refine zB (zF ?_)
    refine qD rfl (yJ rfl rfl (by omega)) ?_
    refine qD rfl (zA (v := (.int .i64 ((j : Int) + 1))) rfl) ?_
    refine qe ?_
    refine zY ?_
    refine ⟨_, ?_, _, rfl, _, j + 1, q38, GL2, (zC (x := 24) (zC (x := 23) (zC (x := 22) (zC (x := 17) (zC (x := 16) (zC (x := 15) (zC (x := 9) (zC (x := 8) (zC (x := 7) (zC (x := 6) (zC (x := 2) (zC (x := 1) (zN (x := 0) rfl) rfl) rfl) rfl) rfl) rfl) rfl) rfl) rfl) rfl) rfl) rfl) rfl), rfl, hX42, hlek39, (by omega), (fun x h2 => if h3 : x = j then h3 ▸ (fun p => p.1 h52) else hnd x (by omega)), hw43, hpk44, hok45, hpx46, hqn47⟩
    omega
   refine wp_skip ?_
   refine zB (zE (zF ?_))
   refine qD rfl (zA (v := (.pointer (some ⟨p, 0, none⟩))) rfl) ?_
   refine qD rfl (zA (v := (.int .i64 (xs.getD j 0))) rfl) ?_
   refine qD rfl (zA (v := (.int .i64 (xs.getD i 0))) rfl) ?_
   refine qI rfl (zP (vs := [(.pointer (some ⟨p, 0, none⟩)), (.int .i64 (xs.getD j 0)), (.int .i64 (xs.getD i 0))]) Tryz.func58 nm58 rfl rfl rfl ?_)
   refine Calls.mono (ge_spec hX42.pins hpk44 hok45 ((hpl j (by omega)).same (zT hqn29 hqn47)) ((hpl i (by omega)).same (zT hqn29 hqn47))) ?_
   rintro _ w55 ⟨q53, G54, rfl, hpk56, hok57, hpx58, hqn59, hx60⟩
   refine ⟨_, rfl, ?_⟩
   have hX61 := hX42.trans hx60 (fun i hi => xP i hi)
   have ho62 := hw43.extS hx60 (notO (NP.ho hnp30))
   have hql63 := hpx58.len
   have hml64 : (q53.ns.map Nd.l).length = q53.ns.length ∧ (q53.ns.map Nd.r).length = q53.ns.length := ⟨List.length_map .., List.length_map ..⟩
   have hml65 : q53.bs.length = q53.ns.length ∧ q53.ns.length ≤ 1048576 := ⟨hok57.ar.ok.len, hok57.ar.ok.lim⟩
   have hql66 := congrArg List.length hqn59.1
   refine qD rfl (zA (v := (.pointer (some ⟨p, 0, none⟩))) rfl) ?_
   refine qD rfl (zA (v := (.int .i64 (xs.getD i 0))) rfl) ?_
   refine qD rfl (zA (v := (.int .i64 (xs.getD j 0))) rfl) ?_
   refine qI rfl (zP (vs := [(.pointer (some ⟨p, 0, none⟩)), (.int .i64 (xs.getD i 0)), (.int .i64 (xs.getD j 0))]) Tryz.func58 nm58 rfl rfl rfl ?_)
   refine Calls.mono (ge_spec hX61.pins hpk56 hok57 ((hpl i (by omega)).same (zT (zT hqn29 hqn47) hqn59)) ((hpl j (by omega)).same (zT (zT hqn29 hqn47) hqn59))) ?_
   rintro _ w69 ⟨q67, G68, rfl, hpk70, hok71, hpx72, hqn73, hx74⟩
   refine ⟨_, rfl, ?_⟩
   have hX75 := hX61.trans hx74 (fun i hi => xP i hi)
   have ho76 := ho62.extS hx74 (notO (NP.ho hnp30))
   have hql77 := hpx72.len
   have hml78 : (q67.ns.map Nd.l).length = q67.ns.length ∧ (q67.ns.map Nd.r).length = q67.ns.length := ⟨List.length_map .., List.length_map ..⟩
   have hml79 : q67.bs.length = q67.ns.length ∧ q67.ns.length ≤ 1048576 := ⟨hok71.ar.ok.len, hok71.ar.ok.lim⟩
   have hql80 := congrArg List.length hqn73.1
   refine qD rfl (zD (v := (.bool (geB q38.ns (xs.getD j 0) (xs.getD i 0)))) rfl) ?_
   refine qD rfl (zD (v := (.bool (geB q53.ns (xs.getD i 0) (xs.getD j 0)))) rfl) ?_
   refine qe (zB (zE (zE (zF ?_))))
   refine qD rfl (zA (v := (.bool lf)) rfl) ?_
   refine qD rfl (xS rfl) ?_
   refine qe (zB ?_)
   refine qW rfl rfl (fun h81 => ?_) (fun h81 => ?_)
   ·skip
    refine wp_skip ?_
    refine zB (zE (zF ?_))
    refine qD rfl (zA (v := (.bool (geB q38.ns (xs.getD j 0) (xs.getD i 0)))) rfl) ?_
    refine qD rfl (zA (v := (.bool (geB q38.ns (xs.getD j 0) (xs.getD i 0)))) rfl) ?_
    refine qb (t := 45) rfl (fun h82 => ?_) (fun h82 => ?_)
    ·skip
     refine qdg rfl rfl rfl rfl rfl rfl (zA (v := (.bool (geB q53.ns (xs.getD i 0) (xs.getD j 0)))) rfl) ?_
     refine qdg rfl rfl rfl rfl rfl rfl (xS rfl) ?_
     refine qdg rfl rfl rfl rfl rfl rfl (zA (v := (.bool (!(geB q53.ns (xs.getD i 0) (xs.getD j 0))))) rfl) ?_
     refine qbn (t := 48) rfl (fun h83 => ?_) (fun h83 => ?_)
     ·skip
      refine qdg rfl rfl rfl rfl rfl rfl (zA (v := (.int .i64 (j : Int))) rfl) ?_
      refine qdg rfl rfl rfl rfl rfl rfl (zA (v := (.int .i64 (i : Int))) rfl) ?_
      refine qdg rfl rfl rfl rfl rfl rfl (yN rfl rfl) ?_
      refine qdg rfl rfl rfl rfl rfl rfl (yV (v := (.bool (decide (((j : Int) : Int) < (i : Int))))) rfl rfl) ?_
      refine qD rfl (yX (v := (.bool (decide (((j : Int) : Int) < (i : Int))))) rfl rfl) ?_
      refine qe (zB ?_)
      refine yE (p := ((j : Int) : Int) < (i : Int)) rfl rfl (fun h84 => ?_) (fun h84 => ?_)
      ·skip
       refine zE (zF ?_)
       refine qD rfl (zA (v := ov) rfl) ?_
       refine qD rfl (zA (v := (.int .i64 (i : Int))) rfl) ?_
       refine qI rfl (yQ (E := eInt) (e := 3) [(.int .i64 (i : Int))] [(i : Int)] Tryz.underlying67 sz3 zr3 (by exact xO (by rfl)) (xG (by rfl)) rfl rfl rfl rfl (by decide) hX75.pins (fun u85 w86 ho87 hp88 hl89 hk90 => ?_))
       have hX91 := hX75.step hp88 hl89
       have ho92 := ho76.below hl89
       have hpk93 := hpk70.below hl89 hp88
       have ho100 : Own eInt 3 G68 w86 w.heap.size u85 ([(i : Int)]) := ho87.weaken hX75.size
       refine qI rfl (yB (E := eInt) (v := ov) (u := u85) 8 Tryz.underlying67 ap3 (by decide) rfl rfl hX91.pins ho92 ho100.src (by first | omega | (rw [List.nil_append]; omega) | (rw [List.length_nil]; omega) | (rw [List.length_append]; omega) | (simp; done) | (simp; omega) | (simp only [List.length_append, List.length_cons, List.length_nil]; omega)) (by first | omega | (rw [List.nil_append]; omega) | (rw [List.length_nil]; omega) | (rw [List.length_append]; omega) | (simp; done) | (simp; omega) | (simp only [List.length_append, List.length_cons, List.length_nil]; omega)) (hX91.size) (fun u101 w102 ho103 hp104 hg105 hw106 => ?_))
       have hX107 := hX91.write hp104 hg105 ((yI ho92))
       have hpk109 := hpk93.kept hg105 hp104 hnp30
       have hnp111 := qT hnp30 hpk93 hw106
       have hm112 : (out ++ ([(i : Int)])).length = out.length + 1 := List.length_append
       refine qD rfl (zD (v := u101) rfl) ?_
       refine qe (zB ?_)
       refine wp_exit ?_
       refine s_blkO rfl ?_
       refine zX ?_
       refine yL ?_
       refine yF ?_
       refine yA ?_
       refine zB (zF ?_)
       refine qD rfl (yJ rfl rfl (by omega)) ?_
       refine qD rfl (zA (v := (.int .i64 ((i : Int) + 1))) rfl) ?_
       refine qe ?_
       refine zY ?_
       refine ⟨_, ?_, _, rfl, _, i + 1, u101, out ++ ([(i : Int)]), q67, G68, (zC (x := 17) (zC (x := 16) (zC (x := 15) (zC (x := 7) (zC (x := 6) (zC (x := 2) (zC (x := 1) (zN (x := 0) rfl) rfl) rfl) rfl) rfl) rfl) rfl) rfl), rfl, hX107, (Pin.le_trans (Pin.le_trans (Pin.le_trans hlek21 hlek39) hx60.le) hx74.le), (by omega), (by rw [dom_hit (g := gX q xs) (lf := lf) (show j < xs.length by omega) ⟨h52, (geD_t h81).2 (decP_true.1 ((xN (zT hqn29 hqn47)).symm.trans h82)), Or.inr h84⟩, hout]), ho103, hpk109, hok71, (PX.trans (PX.trans (PX.trans hpx28 hpx46) hpx58) hpx72), (zT (zT (zT hqn29 hqn47) hqn59) hqn73), hnp111⟩
       omega
      refine wp_skip ?_
      refine yA ?_
      refine zB (zF ?_)
      refine qD rfl (yJ rfl rfl (by omega)) ?_
      refine qD rfl (zA (v := (.int .i64 ((j : Int) + 1))) rfl) ?_
      refine qe ?_
      refine zY ?_
      refine ⟨_, ?_, _, rfl, _, j + 1, q67, G68, (zC (x := 24) (zC (x := 23) (zC (x := 22) (zC (x := 17) (zC (x := 16) (zC (x := 15) (zC (x := 9) (zC (x := 8) (zC (x := 7) (zC (x := 6) (zC (x := 2) (zC (x := 1) (zN (x := 0) rfl) rfl) rfl) rfl) rfl) rfl) rfl) rfl) rfl) rfl) rfl) rfl) rfl), rfl, hX75, (Pin.le_trans (Pin.le_trans hlek39 hx60.le) hx74.le), (by omega), (fun x h2 => if h3 : x = j then h3 ▸ (fun p => p.2.2.elim (fun h => h ((geD_t h81).2 (decP_true.1 ((xN (zT (zT hqn29 hqn47) hqn59)).symm.trans h83)))) h84) else hnd x (by omega)), ho76, hpk70, hok71, (PX.trans (PX.trans hpx46 hpx58) hpx72), (zT (zT hqn47 hqn59) hqn73)⟩
      omega
     refine qs rfl rfl rfl rfl rfl rfl ?_
     refine qs rfl rfl rfl rfl rfl rfl ?_
     refine qs rfl rfl rfl rfl rfl rfl ?_
     refine qdg rfl rfl rfl rfl rfl rfl (yX (v := (.bool true)) rfl rfl) ?_
     refine qD rfl (yX (v := (.bool true)) rfl rfl) ?_
     refine qe (zB ?_)
     refine c_ifT rfl rfl ?_
     refine zE (zF ?_)
     refine qD rfl (zA (v := ov) rfl) ?_
     refine qD rfl (zA (v := (.int .i64 (i : Int))) rfl) ?_
     refine qI rfl (yQ (E := eInt) (e := 3) [(.int .i64 (i : Int))] [(i : Int)] Tryz.underlying67 sz3 zr3 (by exact xO (by rfl)) (xG (by rfl)) rfl rfl rfl rfl (by decide) hX75.pins (fun u113 w114 ho115 hp116 hl117 hk118 => ?_))
     have hX119 := hX75.step hp116 hl117
     have ho120 := ho76.below hl117
     have hpk121 := hpk70.below hl117 hp116
     have ho128 : Own eInt 3 G68 w114 w.heap.size u113 ([(i : Int)]) := ho115.weaken hX75.size
     refine qI rfl (yB (E := eInt) (v := ov) (u := u113) 8 Tryz.underlying67 ap3 (by decide) rfl rfl hX119.pins ho120 ho128.src (by first | omega | (rw [List.nil_append]; omega) | (rw [List.length_nil]; omega) | (rw [List.length_append]; omega) | (simp; done) | (simp; omega) | (simp only [List.length_append, List.length_cons, List.length_nil]; omega)) (by first | omega | (rw [List.nil_append]; omega) | (rw [List.length_nil]; omega) | (rw [List.length_append]; omega) | (simp; done) | (simp; omega) | (simp only [List.length_append, List.length_cons, List.length_nil]; omega)) (hX119.size) (fun u129 w130 ho131 hp132 hg133 hw134 => ?_))
     have hX135 := hX119.write hp132 hg133 ((yI ho120))
     have hpk137 := hpk121.kept hg133 hp132 hnp30
     have hnp139 := qT hnp30 hpk121 hw134
     have hm140 : (out ++ ([(i : Int)])).length = out.length + 1 := List.length_append
     refine qD rfl (zD (v := u129) rfl) ?_
     refine qe (zB ?_)
     refine wp_exit ?_
     refine s_blkO rfl ?_
     refine zX ?_
     refine yL ?_
     refine yF ?_
     refine yA ?_
     refine zB (zF ?_)
     refine qD rfl (yJ rfl rfl (by omega)) ?_
     refine qD rfl (zA (v := (.int .i64 ((i : Int) + 1))) rfl) ?_
     refine qe ?_
     refine zY ?_
     refine ⟨_, ?_, _, rfl, _, i + 1, u129, out ++ ([(i : Int)]), q67, G68, (zC (x := 17) (zC (x := 16) (zC (x := 15) (zC (x := 7) (zC (x := 6) (zC (x := 2) (zC (x := 1) (zN (x := 0) rfl) rfl) rfl) rfl) rfl) rfl) rfl) rfl), rfl, hX135, (Pin.le_trans (Pin.le_trans (Pin.le_trans hlek21 hlek39) hx60.le) hx74.le), (by omega), (by rw [dom_hit (g := gX q xs) (lf := lf) (show j < xs.length by omega) ⟨h52, (geD_t h81).2 (decP_true.1 ((xN (zT hqn29 hqn47)).symm.trans h82)), Or.inl (fun h => (decP_false.1 ((xN (zT (zT hqn29 hqn47) hqn59)).symm.trans h83)) ((geD_t h81).1 h))⟩, hout]), ho131, hpk137, hok71, (PX.trans (PX.trans (PX.trans hpx28 hpx46) hpx58) hpx72), (zT (zT (zT hqn29 hqn47) hqn59) hqn73), hnp139⟩
     omega
    refine qs rfl rfl rfl rfl rfl rfl ?_
    refine qs rfl rfl rfl rfl rfl rfl ?_
    refine qs rfl rfl rfl rfl rfl rfl ?_
    refine qsu rfl rfl rfl rfl rfl ?_
    refine qsu rfl rfl rfl rfl rfl ?_
    refine qsu rfl rfl rfl rfl rfl ?_
    refine qs rfl rfl rfl rfl rfl rfl ?_
    refine qD rfl (yV (v := (.bool false)) rfl rfl) ?_
    refine qe (zB ?_)
    refine qE rfl rfl ?_
    refine wp_skip ?_
    refine yA ?_
    refine zB (zF ?_)
    refine qD rfl (yJ rfl rfl (by omega)) ?_
    refine qD rfl (zA (v := (.int .i64 ((j : Int) + 1))) rfl) ?_
    refine qe ?_
    refine zY ?_
    refine ⟨_, ?_, _, rfl, _, j + 1, q67, G68, (zC (x := 24) (zC (x := 23) (zC (x := 22) (zC (x := 17) (zC (x := 16) (zC (x := 15) (zC (x := 9) (zC (x := 8) (zC (x := 7) (zC (x := 6) (zC (x := 2) (zC (x := 1) (zN (x := 0) rfl) rfl) rfl) rfl) rfl) rfl) rfl) rfl) rfl) rfl) rfl) rfl) rfl), rfl, hX75, (Pin.le_trans (Pin.le_trans hlek39 hx60.le) hx74.le), (by omega), (fun x h2 => if h3 : x = j then h3 ▸ (fun p => (decP_false.1 ((xN (zT hqn29 hqn47)).symm.trans h82)) ((geD_t h81).1 p.2.1)) else hnd x (by omega)), ho76, hpk70, hok71, (PX.trans (PX.trans hpx46 hpx58) hpx72), (zT (zT hqn47 hqn59) hqn73)⟩
    omega
   refine zF ?_
   refine qD rfl (zA (v := (.bool (geB q53.ns (xs.getD i 0) (xs.getD j 0)))) rfl) ?_
   refine qD rfl (zA (v := (.bool (geB q38.ns (xs.getD j 0) (xs.getD i 0)))) rfl) ?_
   refine qD rfl (zD (v := (.bool (geB q53.ns (xs.getD i 0) (xs.getD j 0)))) rfl) ?_
   refine qD rfl (zD (v := (.bool (geB q38.ns (xs.getD j 0) (xs.getD i 0)))) rfl) ?_
   refine qe (zB (zE (zF ?_)))
   refine qD rfl (zA (v := (.bool (geB q53.ns (xs.getD i 0) (xs.getD j 0)))) rfl) ?_
   refine qD rfl (zA (v := (.bool (geB q53.ns (xs.getD i 0) (xs.getD j 0)))) rfl) ?_
   refine qb (t := 45) rfl (fun h141 => ?_) (fun h141 => ?_)
   ·skip
    refine qdg rfl rfl rfl rfl rfl rfl (zA (v := (.bool (geB q38.ns (xs.getD j 0) (xs.getD i 0)))) rfl) ?_
    refine qdg rfl rfl rfl rfl rfl rfl (xS rfl) ?_
    refine qdg rfl rfl rfl rfl rfl rfl (zA (v := (.bool (!(geB q38.ns (xs.getD j 0) (xs.getD i 0))))) rfl) ?_
    refine qbn (t := 48) rfl (fun h142 => ?_) (fun h142 => ?_)
    ·skip
     refine qdg rfl rfl rfl rfl rfl rfl (zA (v := (.int .i64 (j : Int))) rfl) ?_
     refine qdg rfl rfl rfl rfl rfl rfl (zA (v := (.int .i64 (i : Int))) rfl) ?_
     refine qdg rfl rfl rfl rfl rfl rfl (yN rfl rfl) ?_
     refine qdg rfl rfl rfl rfl rfl rfl (yV (v := (.bool (decide (((j : Int) : Int) < (i : Int))))) rfl rfl) ?_
     refine qD rfl (yX (v := (.bool (decide (((j : Int) : Int) < (i : Int))))) rfl rfl) ?_
     refine qe (zB ?_)
     refine yE (p := ((j : Int) : Int) < (i : Int)) rfl rfl (fun h143 => ?_) (fun h143 => ?_)
     ·skip
      refine zE (zF ?_)
      refine qD rfl (zA (v := ov) rfl) ?_
      refine qD rfl (zA (v := (.int .i64 (i : Int))) rfl) ?_
      refine qI rfl (yQ (E := eInt) (e := 3) [(.int .i64 (i : Int))] [(i : Int)] Tryz.underlying67 sz3 zr3 (by exact xO (by rfl)) (xG (by rfl)) rfl rfl rfl rfl (by decide) hX75.pins (fun u144 w145 ho146 hp147 hl148 hk149 => ?_))
      have hX150 := hX75.step hp147 hl148
      have ho151 := ho76.below hl148
      have hpk152 := hpk70.below hl148 hp147
      have ho159 : Own eInt 3 G68 w145 w.heap.size u144 ([(i : Int)]) := ho146.weaken hX75.size
      refine qI rfl (yB (E := eInt) (v := ov) (u := u144) 8 Tryz.underlying67 ap3 (by decide) rfl rfl hX150.pins ho151 ho159.src (by first | omega | (rw [List.nil_append]; omega) | (rw [List.length_nil]; omega) | (rw [List.length_append]; omega) | (simp; done) | (simp; omega) | (simp only [List.length_append, List.length_cons, List.length_nil]; omega)) (by first | omega | (rw [List.nil_append]; omega) | (rw [List.length_nil]; omega) | (rw [List.length_append]; omega) | (simp; done) | (simp; omega) | (simp only [List.length_append, List.length_cons, List.length_nil]; omega)) (hX150.size) (fun u160 w161 ho162 hp163 hg164 hw165 => ?_))
      have hX166 := hX150.write hp163 hg164 ((yI ho151))
      have hpk168 := hpk152.kept hg164 hp163 hnp30
      have hnp170 := qT hnp30 hpk152 hw165
      have hm171 : (out ++ ([(i : Int)])).length = out.length + 1 := List.length_append
      refine qD rfl (zD (v := u160) rfl) ?_
      refine qe (zB ?_)
      refine wp_exit ?_
      refine s_blkO rfl ?_
      refine zX ?_
      refine yL ?_
      refine yF ?_
      refine yA ?_
      refine zB (zF ?_)
      refine qD rfl (yJ rfl rfl (by omega)) ?_
      refine qD rfl (zA (v := (.int .i64 ((i : Int) + 1))) rfl) ?_
      refine qe ?_
      refine zY ?_
      refine ⟨_, ?_, _, rfl, _, i + 1, u160, out ++ ([(i : Int)]), q67, G68, (zC (x := 17) (zC (x := 16) (zC (x := 15) (zC (x := 7) (zC (x := 6) (zC (x := 2) (zC (x := 1) (zN (x := 0) rfl) rfl) rfl) rfl) rfl) rfl) rfl) rfl), rfl, hX166, (Pin.le_trans (Pin.le_trans (Pin.le_trans hlek21 hlek39) hx60.le) hx74.le), (by omega), (by rw [dom_hit (g := gX q xs) (lf := lf) (show j < xs.length by omega) ⟨h52, (geD_f h81).2 (decP_true.1 ((xN (zT (zT hqn29 hqn47) hqn59)).symm.trans h141)), Or.inr h143⟩, hout]), ho162, hpk168, hok71, (PX.trans (PX.trans (PX.trans hpx28 hpx46) hpx58) hpx72), (zT (zT (zT hqn29 hqn47) hqn59) hqn73), hnp170⟩
      omega
     refine wp_skip ?_
     refine yA ?_
     refine zB (zF ?_)
     refine qD rfl (yJ rfl rfl (by omega)) ?_
     refine qD rfl (zA (v := (.int .i64 ((j : Int) + 1))) rfl) ?_
     refine qe ?_
     refine zY ?_
     refine ⟨_, ?_, _, rfl, _, j + 1, q67, G68, (zC (x := 24) (zC (x := 23) (zC (x := 22) (zC (x := 17) (zC (x := 16) (zC (x := 15) (zC (x := 9) (zC (x := 8) (zC (x := 7) (zC (x := 6) (zC (x := 2) (zC (x := 1) (zN (x := 0) rfl) rfl) rfl) rfl) rfl) rfl) rfl) rfl) rfl) rfl) rfl) rfl) rfl), rfl, hX75, (Pin.le_trans (Pin.le_trans hlek39 hx60.le) hx74.le), (by omega), (fun x h2 => if h3 : x = j then h3 ▸ (fun p => p.2.2.elim (fun h => h ((geD_f h81).2 (decP_true.1 ((xN (zT hqn29 hqn47)).symm.trans h142)))) h143) else hnd x (by omega)), ho76, hpk70, hok71, (PX.trans (PX.trans hpx46 hpx58) hpx72), (zT (zT hqn47 hqn59) hqn73)⟩
     omega
    refine qs rfl rfl rfl rfl rfl rfl ?_
    refine qs rfl rfl rfl rfl rfl rfl ?_
    refine qs rfl rfl rfl rfl rfl rfl ?_
    refine qdg rfl rfl rfl rfl rfl rfl (yX (v := (.bool true)) rfl rfl) ?_
    refine qD rfl (yX (v := (.bool true)) rfl rfl) ?_
    refine qe (zB ?_)
    refine c_ifT rfl rfl ?_
    refine zE (zF ?_)
    refine qD rfl (zA (v := ov) rfl) ?_
    refine qD rfl (zA (v := (.int .i64 (i : Int))) rfl) ?_
    refine qI rfl (yQ (E := eInt) (e := 3) [(.int .i64 (i : Int))] [(i : Int)] Tryz.underlying67 sz3 zr3 (by exact xO (by rfl)) (xG (by rfl)) rfl rfl rfl rfl (by decide) hX75.pins (fun u172 w173 ho174 hp175 hl176 hk177 => ?_))
    have hX178 := hX75.step hp175 hl176
    have ho179 := ho76.below hl176
    have hpk180 := hpk70.below hl176 hp175
    have ho187 : Own eInt 3 G68 w173 w.heap.size u172 ([(i : Int)]) := ho174.weaken hX75.size
    refine qI rfl (yB (E := eInt) (v := ov) (u := u172) 8 Tryz.underlying67 ap3 (by decide) rfl rfl hX178.pins ho179 ho187.src (by first | omega | (rw [List.nil_append]; omega) | (rw [List.length_nil]; omega) | (rw [List.length_append]; omega) | (simp; done) | (simp; omega) | (simp only [List.length_append, List.length_cons, List.length_nil]; omega)) (by first | omega | (rw [List.nil_append]; omega) | (rw [List.length_nil]; omega) | (rw [List.length_append]; omega) | (simp; done) | (simp; omega) | (simp only [List.length_append, List.length_cons, List.length_nil]; omega)) (hX178.size) (fun u188 w189 ho190 hp191 hg192 hw193 => ?_))
    have hX194 := hX178.write hp191 hg192 ((yI ho179))
    have hpk196 := hpk180.kept hg192 hp191 hnp30
    have hnp198 := qT hnp30 hpk180 hw193
    have hm199 : (out ++ ([(i : Int)])).length = out.length + 1 := List.length_append
    refine qD rfl (zD (v := u188) rfl) ?_
    refine qe (zB ?_)
    refine wp_exit ?_
    refine s_blkO rfl ?_
    refine zX ?_
    refine yL ?_
    refine yF ?_
    refine yA ?_
    refine zB (zF ?_)
    refine qD rfl (yJ rfl rfl (by omega)) ?_
    refine qD rfl (zA (v := (.int .i64 ((i : Int) + 1))) rfl) ?_
    refine qe ?_
    refine zY ?_
    refine ⟨_, ?_, _, rfl, _, i + 1, u188, out ++ ([(i : Int)]), q67, G68, (zC (x := 17) (zC (x := 16) (zC (x := 15) (zC (x := 7) (zC (x := 6) (zC (x := 2) (zC (x := 1) (zN (x := 0) rfl) rfl) rfl) rfl) rfl) rfl) rfl) rfl), rfl, hX194, (Pin.le_trans (Pin.le_trans (Pin.le_trans hlek21 hlek39) hx60.le) hx74.le), (by omega), (by rw [dom_hit (g := gX q xs) (lf := lf) (show j < xs.length by omega) ⟨h52, (geD_f h81).2 (decP_true.1 ((xN (zT (zT hqn29 hqn47) hqn59)).symm.trans h141)), Or.inl (fun h => (decP_false.1 ((xN (zT hqn29 hqn47)).symm.trans h142)) ((geD_f h81).1 h))⟩, hout]), ho190, hpk196, hok71, (PX.trans (PX.trans (PX.trans hpx28 hpx46) hpx58) hpx72), (zT (zT (zT hqn29 hqn47) hqn59) hqn73), hnp198⟩
    omega
   refine qs rfl rfl rfl rfl rfl rfl ?_
   refine qs rfl rfl rfl rfl rfl rfl ?_
   refine qs rfl rfl rfl rfl rfl rfl ?_
   refine qsu rfl rfl rfl rfl rfl ?_
   refine qsu rfl rfl rfl rfl rfl ?_
   refine qsu rfl rfl rfl rfl rfl ?_
   refine qs rfl rfl rfl rfl rfl rfl ?_
   refine qD rfl (yV (v := (.bool false)) rfl rfl) ?_
   refine qe (zB ?_)
   refine qE rfl rfl ?_
   refine wp_skip ?_
   refine yA ?_
   refine zB (zF ?_)
   refine qD rfl (yJ rfl rfl (by omega)) ?_
   refine qD rfl (zA (v := (.int .i64 ((j : Int) + 1))) rfl) ?_
   refine qe ?_
   refine zY ?_
   refine ⟨_, ?_, _, rfl, _, j + 1, q67, G68, (zC (x := 24) (zC (x := 23) (zC (x := 22) (zC (x := 17) (zC (x := 16) (zC (x := 15) (zC (x := 9) (zC (x := 8) (zC (x := 7) (zC (x := 6) (zC (x := 2) (zC (x := 1) (zN (x := 0) rfl) rfl) rfl) rfl) rfl) rfl) rfl) rfl) rfl) rfl) rfl) rfl) rfl), rfl, hX75, (Pin.le_trans (Pin.le_trans hlek39 hx60.le) hx74.le), (by omega), (fun x h2 => if h3 : x = j then h3 ▸ (fun p => (decP_false.1 ((xN (zT (zT hqn29 hqn47) hqn59)).symm.trans h141)) ((geD_f h81).1 p.2.1)) else hnd x (by omega)), ho76, hpk70, hok71, (PX.trans (PX.trans hpx46 hpx58) hpx72), (zT (zT hqn47 hqn59) hqn73)⟩
   omega
  refine wp_exit ?_
  refine zX ?_
  refine yL ?_
  refine yF ?_
  refine yA ?_
  refine zB (zF ?_)
  refine qD rfl (yJ rfl rfl (by omega)) ?_
  refine qD rfl (zA (v := (.int .i64 ((i : Int) + 1))) rfl) ?_
  refine qe ?_
  refine zY ?_
  refine ⟨_, ?_, _, rfl, _, i + 1, ov, out, q38, GL2, (zC (x := 17) (zC (x := 16) (zC (x := 15) (zC (x := 7) (zC (x := 6) (zC (x := 2) (zC (x := 1) (zN (x := 0) rfl) rfl) rfl) rfl) rfl) rfl) rfl) rfl), rfl, hX42, (Pin.le_trans hlek21 hlek39), (by omega), (by rw [dom_miss (fun x h => hnd x (by omega)), hout]), hw43, hpk44, hok45, (PX.trans hpx28 hpx46), (zT hqn29 hqn47), hnp30⟩
  omega
 refine wp_exit ?_
 refine zX ?_
 refine yL ?_
 refine yF ?_
 refine zB (zE (zF ?_))
 refine qD rfl (zA (v := ov) rfl) ?_
 refine qD rfl (zD (v := ov) rfl) ?_
 refine qe (zB ?_)
 refine wp_ret ?_
 refine zW ?_
 refine zS (v := ov) rfl rfl rfl ?_
 have hin : i = xs.length := by omega
 rw [hin] at hout
 exact ⟨_, q20, _, rfl, (by rw [← hout]; exact hw25), hpk26, hok27, hpx28, hqn29, hX24⟩

end DI1
end Go.Proofs.YtpknebplcmgnkaaGreatDoor

set_option maxRecDepth 20000
set_option maxHeartbeats 2000000
namespace Go.Proofs.YtpknebplcmgnkaaGreatDoor
namespace RI1
open Go.RowKit Go.GL Go.Proofs
open Go.Proofs.YtpknebplcmgnkaaGreatDoor.B1
open Go.Proofs.YtpknebplcmgnkaaGreatDoor.K1
open Go.Proofs.YtpknebplcmgnkaaGreatDoor.PO1
open Go.Proofs.YtpknebplcmgnkaaGreatDoor.PL1



theorem through_spec {p : Nat} {L R B : Value} {mm : PM} {w : World} {G : Pin} {q : PSt} {f c : Int} {x : Value} {xs : List Int} {lf : Bool} (hP : Pins G w) (hpk : Pk 67 3 G w p L R B mm q) (hok : PoolOk q) (hf : PlaceOk q f) (hc : PlaceOk q c) (hx : RSl eInt G x xs) (hxs : xs = (if lf = true then (q.ns.getD (c).toNat default).r else (q.ns.getD (c).toNat default).l)) (hxp : ∀ z ∈ xs, PlaceOk q z) :
  Calls Tryz.prog 162 [(.pointer (some ⟨p, 0, none⟩)), (.int .i64 f), (.int .i64 c), (.bool lf), x].toArray w fun e w' => ∃ (t : Int) (q' : PSt) (G' : Pin), e = .returned (.int .i64 t) ∧ thrP q.ns lf f c t ∧ Pk 67 3 G' w' p L R B mm q' ∧ PoolOk q' ∧ PX q q' ∧ (q'.ns = q.ns ∧ q'.bs = q.bs) ∧ Ext (inO (some mm.o)) G w G' w' := by
 refine yD (n := 38) Tryz.func162 Tryz.ntmps162 rfl rfl ?_
 have hX0 : Ext (inO (some mm.o)) G w G w := Ext.refl hP
 have hpin : PIn w (inP p L R B mm) p L R B mm := PIn.self
 have hml1 : (q.ns.map Nd.l).length = q.ns.length ∧ (q.ns.map Nd.r).length = q.ns.length := ⟨List.length_map .., List.length_map ..⟩
 have hml2 : q.bs.length = q.ns.length ∧ q.ns.length ≤ 1048576 := ⟨hok.ar.ok.len, hok.ar.ok.lim⟩
 have hm := hx.max
 refine zE (zF ?_)
 refine qD rfl (zD (v := (.int .i64 0)) rfl) ?_
 refine qe (zB (zE (zE (zF ?_))))
 refine qD rfl (zA (v := x) rfl) ?_
 refine qD rfl (zL Tryz.underlying67 (v := x) rfl hx) ?_
 refine qD rfl (zA (v := (.int .i64 0)) rfl) ?_
 refine qe (zB ?_)
 refine zZ ?_
 refine yM (fun (k : Nat) (en : Nat → Value) (W : World) => ∃ (env1 : Nat → Value) (i : Nat) (q6 : PSt) (GL1 : Pin), en = (upd (upd (upd (upd (upd (upd env1 0 (.pointer (some ⟨p, 0, none⟩))) 1 (.int .i64 f)) 3 (.bool lf)) 13 x) 14 (.int .i64 (xs.length : Int))) 15 (.int .i64 (i : Int))) ∧ k = xs.length - i ∧ Ext (inO (some mm.o)) G w GL1 W ∧ Pin.le G GL1 ∧ (i ≤ xs.length) ∧ (lf = true → ∀ x, x < i → geB q.ns f (xs.getD x 0) = false) ∧ (lf = false → ∀ x, x < i → geB q.ns (xs.getD x 0) f = false) ∧ (Pk 67 3 GL1 W p L R B mm q6) ∧ (PoolOk q6) ∧ (PX q q6) ∧ (q6.ns = q.ns ∧ q6.bs = q.bs)) _ ⟨_, 0, q, G, (zC (x := 15) (zC (x := 14) (zC (x := 13) (zC (x := 3) (zC (x := 1) (zN (x := 0) rfl) rfl) rfl) rfl) rfl) rfl), rfl, hX0, Pin.le_refl _, Nat.zero_le _, (fun _ x h => absurd h (Nat.not_lt_zero x)), (fun _ x h => absurd h (Nat.not_lt_zero x)), hpk, hok, (PX.refl _), ⟨rfl, rfl⟩⟩ ?_
 rintro k7 _ w8 ⟨env1, i, q6, GL1, rfl, hk9, hX10, hlek7, hi, hpt, hpf, hpk11, hok12, hpx13, hqn14⟩
 have hql15 := hpx13.len
 have hml16 : (q6.ns.map Nd.l).length = q6.ns.length ∧ (q6.ns.map Nd.r).length = q6.ns.length := ⟨List.length_map .., List.length_map ..⟩
 have hml17 : q6.bs.length = q6.ns.length ∧ q6.ns.length ≤ 1048576 := ⟨hok12.ar.ok.len, hok12.ar.ok.lim⟩
 refine zE (zF ?_)
 refine qD rfl (yN rfl rfl) ?_
 refine qe (zB (zE ?_))
 refine yE (p := ((i : Int) : Int) < (xs.length : Int)) rfl rfl (fun h18 => ?_) (fun h18 => ?_)
 ·skip
  refine wp_skip ?_
  refine zB (zE ?_)
  refine zZ ?_
  refine zE (zF ?_)
  refine qD rfl (zJ Tryz.underlying67 sz3 (v := x) rfl rfl hx (by omega) (by omega)) ?_
  refine qD rfl (zI (r := xs.getD i 0) rfl ag3 (z := (i : Int)) rfl hx (Pins.of_le hX10.pins hlek7) (by omega) (by omega)) ?_
  refine qD rfl (zD (v := (.int .i64 (xs.getD i 0))) rfl) ?_
  refine qe (zB (zE (zF ?_)))
  refine qD rfl (zA (v := (.bool lf)) rfl) ?_
  refine qD rfl (zA (v := (.bool lf)) rfl) ?_
  refine qb (t := 20) rfl (fun h19 => ?_) (fun h19 => ?_)
  ·skip
   refine qdg rfl rfl rfl rfl rfl rfl (zA (v := (.pointer (some ⟨p, 0, none⟩))) rfl) ?_
   refine qdg rfl rfl rfl rfl rfl rfl (zA (v := (.int .i64 f)) rfl) ?_
   refine qdg rfl rfl rfl rfl rfl rfl (zA (v := (.int .i64 (xs.getD i 0))) rfl) ?_
   refine q1g rfl rfl rfl rfl rfl rfl (zP (vs := [(.pointer (some ⟨p, 0, none⟩)), (.int .i64 f), (.int .i64 (xs.getD i 0))]) Tryz.func58 nm58 rfl rfl rfl ?_)
   refine Calls.mono (ge_spec hX10.pins hpk11 hok12 (hf.same hqn14) ((hxp _ (yG (d := (0 : Int)) (show i < xs.length by omega))).same hqn14)) ?_
   rintro _ w22 ⟨q20, G21, rfl, hpk23, hok24, hpx25, hqn26, hx27⟩
   refine ⟨_, rfl, ?_⟩
   have hX28 := hX10.trans hx27 (fun i hi => xP i hi)
   have hql29 := hpx25.len
   have hml30 : (q20.ns.map Nd.l).length = q20.ns.length ∧ (q20.ns.map Nd.r).length = q20.ns.length := ⟨List.length_map .., List.length_map ..⟩
   have hml31 : q20.bs.length = q20.ns.length ∧ q20.ns.length ≤ 1048576 := ⟨hok24.ar.ok.len, hok24.ar.ok.lim⟩
   have hql32 := congrArg List.length hqn26.1
   refine qD rfl (yX (v := (.bool (geB q6.ns f (xs.getD i 0)))) rfl rfl) ?_
   refine qD rfl (zA (v := (.bool (geB q6.ns f (xs.getD i 0)))) rfl) ?_
   refine qb (t := 26) rfl (fun h33 => ?_) (fun h33 => ?_)
   ·skip
    refine qs rfl rfl rfl rfl rfl rfl ?_
    refine qs rfl rfl rfl rfl rfl rfl ?_
    refine qs rfl rfl rfl rfl rfl rfl ?_
    refine qsu rfl rfl rfl rfl rfl ?_
    refine qsu rfl rfl rfl rfl rfl ?_
    refine qsu rfl rfl rfl rfl rfl ?_
    refine qsu rfl rfl rfl rfl rfl ?_
    refine qs rfl rfl rfl rfl rfl rfl ?_
    refine qD rfl (yX (v := (.bool true)) rfl rfl) ?_
    refine qe (zB ?_)
    refine c_ifT rfl rfl ?_
    refine zE (zF ?_)
    refine qD rfl (zA (v := (.int .i64 (xs.getD i 0))) rfl) ?_
    refine qD rfl (zD (v := (.int .i64 (xs.getD i 0))) rfl) ?_
    refine qe (zB ?_)
    refine wp_ret ?_
    refine zW ?_
    refine zS (v := (.int .i64 (xs.getD i 0))) rfl rfl rfl ?_
    have hmem : xs.getD i 0 ∈ xs := yG (show i < xs.length by omega)
    rw [h19, if_pos rfl] at hxs
    exact ⟨_, q20, _, rfl, thr_hit hok.ar.opts hc (Or.inl ⟨h19, hxs ▸ hmem, ((xN hqn14).symm.trans h33)⟩), hpk23, hok24, (PX.trans hpx13 hpx25), (zT hqn14 hqn26), hX28⟩
   refine qdg rfl rfl rfl rfl rfl rfl (zA (v := (.bool lf)) rfl) ?_
   refine qdg rfl rfl rfl rfl rfl rfl (xS rfl) ?_
   refine qdg rfl rfl rfl rfl rfl rfl (zA (v := (.bool (!lf))) rfl) ?_
   refine qbn (t := 29) rfl (fun h34 => ?_) (fun h34 => ?_)
   ·skip
    refine qs rfl rfl rfl rfl rfl rfl ?_
    refine qs rfl rfl rfl rfl rfl rfl ?_
    refine qs rfl rfl rfl rfl rfl rfl ?_
    refine qs rfl rfl rfl rfl rfl rfl ?_
    refine qdg rfl rfl rfl rfl rfl rfl (yV (v := (.bool false)) rfl rfl) ?_
    refine qD rfl (yV (v := (.bool false)) rfl rfl) ?_
    refine qe (zB ?_)
    refine qE rfl rfl ?_
    refine wp_skip ?_
    refine yA ?_
    refine zB (zF ?_)
    refine qD rfl (yJ rfl rfl (by omega)) ?_
    refine qD rfl (zA (v := (.int .i64 ((i : Int) + 1))) rfl) ?_
    refine qe ?_
    refine zY ?_
    refine ⟨_, ?_, _, rfl, _, i + 1, q20, G21, (zC (x := 15) (zC (x := 14) (zC (x := 13) (zC (x := 3) (zC (x := 1) (zN (x := 0) rfl) rfl) rfl) rfl) rfl) rfl), rfl, hX28, (Pin.le_trans hlek7 hx27.le), (by omega), (fun hl x h2 => if h3 : x = i then h3 ▸ ((xN hqn14).symm.trans h33) else hpt hl x (by omega)), (fun hl => absurd (h19.symm.trans hl) (by decide)), hpk23, hok24, (PX.trans hpx13 hpx25), (zT hqn14 hqn26)⟩
    omega
   refine qdg rfl rfl rfl rfl rfl rfl (zA (v := (.pointer (some ⟨p, 0, none⟩))) rfl) ?_
   refine qdg rfl rfl rfl rfl rfl rfl (zA (v := (.int .i64 (xs.getD i 0))) rfl) ?_
   refine qdg rfl rfl rfl rfl rfl rfl (zA (v := (.int .i64 f)) rfl) ?_
   refine q1g rfl rfl rfl rfl rfl rfl (zP (vs := [(.pointer (some ⟨p, 0, none⟩)), (.int .i64 (xs.getD i 0)), (.int .i64 f)]) Tryz.func58 nm58 rfl rfl rfl ?_)
   refine Calls.mono (ge_spec hX28.pins hpk23 hok24 ((hxp _ (yG (d := (0 : Int)) (show i < xs.length by omega))).same (zT hqn14 hqn26)) (hf.same (zT hqn14 hqn26))) ?_
   rintro _ w37 ⟨q35, G36, rfl, hpk38, hok39, hpx40, hqn41, hx42⟩
   refine ⟨_, rfl, ?_⟩
   have hX43 := hX28.trans hx42 (fun i hi => xP i hi)
   have hql44 := hpx40.len
   have hml45 : (q35.ns.map Nd.l).length = q35.ns.length ∧ (q35.ns.map Nd.r).length = q35.ns.length := ⟨List.length_map .., List.length_map ..⟩
   have hml46 : q35.bs.length = q35.ns.length ∧ q35.ns.length ≤ 1048576 := ⟨hok39.ar.ok.len, hok39.ar.ok.lim⟩
   have hql47 := congrArg List.length hqn41.1
   refine qdg rfl rfl rfl rfl rfl rfl (yX (v := (.bool (geB q20.ns (xs.getD i 0) f))) rfl rfl) ?_
   refine qD rfl (yV (v := (.bool (geB q20.ns (xs.getD i 0) f))) rfl rfl) ?_
   refine qe (zB ?_)
   refine c_if rfl rfl (fun h48 => ?_) (fun h48 => ?_)
   ·skip
    refine zE (zF ?_)
    refine qD rfl (zA (v := (.int .i64 (xs.getD i 0))) rfl) ?_
    refine qD rfl (zD (v := (.int .i64 (xs.getD i 0))) rfl) ?_
    refine qe (zB ?_)
    refine wp_ret ?_
    refine zW ?_
    refine zS (v := (.int .i64 (xs.getD i 0))) rfl rfl rfl ?_
    exact (absurd (h34.symm.trans h19) Bool.false_ne_true)
   refine wp_skip ?_
   refine yA ?_
   refine zB (zF ?_)
   refine qD rfl (yJ rfl rfl (by omega)) ?_
   refine qD rfl (zA (v := (.int .i64 ((i : Int) + 1))) rfl) ?_
   refine qe ?_
   refine zY ?_
   refine ⟨_, ?_, _, rfl, _, i + 1, q35, G36, (zC (x := 15) (zC (x := 14) (zC (x := 13) (zC (x := 3) (zC (x := 1) (zN (x := 0) rfl) rfl) rfl) rfl) rfl) rfl), rfl, hX43, (Pin.le_trans (Pin.le_trans hlek7 hx27.le) hx42.le), (by omega), (absurd (h34.symm.trans h19) Bool.false_ne_true), (absurd (h34.symm.trans h19) Bool.false_ne_true), hpk38, hok39, (PX.trans (PX.trans hpx13 hpx25) hpx40), (zT (zT hqn14 hqn26) hqn41)⟩
   omega
  refine qs rfl rfl rfl rfl rfl rfl ?_
  refine qs rfl rfl rfl rfl rfl rfl ?_
  refine qs rfl rfl rfl rfl rfl rfl ?_
  refine qs rfl rfl rfl rfl rfl rfl ?_
  refine qD rfl (yV (v := (.bool false)) rfl rfl) ?_
  refine qD rfl (zA (v := (.bool false)) rfl) ?_
  refine qdg rfl rfl rfl rfl rfl rfl (zA (v := (.bool lf)) rfl) ?_
  refine qdg rfl rfl rfl rfl rfl rfl (xS rfl) ?_
  refine qdg rfl rfl rfl rfl rfl rfl (zA (v := (.bool (!lf))) rfl) ?_
  refine qbn (t := 29) rfl (fun h49 => ?_) (fun h49 => ?_)
  ·skip
   refine qs rfl rfl rfl rfl rfl rfl ?_
   refine qs rfl rfl rfl rfl rfl rfl ?_
   refine qs rfl rfl rfl rfl rfl rfl ?_
   refine qs rfl rfl rfl rfl rfl rfl ?_
   refine qdg rfl rfl rfl rfl rfl rfl (yV (v := (.bool false)) rfl rfl) ?_
   refine qD rfl (yV (v := (.bool false)) rfl rfl) ?_
   refine qe (zB ?_)
   refine qE rfl rfl ?_
   refine wp_skip ?_
   refine yA ?_
   refine zB (zF ?_)
   refine qD rfl (yJ rfl rfl (by omega)) ?_
   refine qD rfl (zA (v := (.int .i64 ((i : Int) + 1))) rfl) ?_
   refine qe ?_
   refine zY ?_
   refine ⟨_, ?_, _, rfl, _, i + 1, q6, GL1, (zC (x := 15) (zC (x := 14) (zC (x := 13) (zC (x := 3) (zC (x := 1) (zN (x := 0) rfl) rfl) rfl) rfl) rfl) rfl), rfl, hX10, hlek7, (by omega), (absurd (h19.symm.trans h49) Bool.false_ne_true), (absurd (h19.symm.trans h49) Bool.false_ne_true), hpk11, hok12, hpx13, hqn14⟩
   omega
  refine qdg rfl rfl rfl rfl rfl rfl (zA (v := (.pointer (some ⟨p, 0, none⟩))) rfl) ?_
  refine qdg rfl rfl rfl rfl rfl rfl (zA (v := (.int .i64 (xs.getD i 0))) rfl) ?_
  refine qdg rfl rfl rfl rfl rfl rfl (zA (v := (.int .i64 f)) rfl) ?_
  refine q1g rfl rfl rfl rfl rfl rfl (zP (vs := [(.pointer (some ⟨p, 0, none⟩)), (.int .i64 (xs.getD i 0)), (.int .i64 f)]) Tryz.func58 nm58 rfl rfl rfl ?_)
  refine Calls.mono (ge_spec hX10.pins hpk11 hok12 ((hxp _ (yG (d := (0 : Int)) (show i < xs.length by omega))).same hqn14) (hf.same hqn14)) ?_
  rintro _ w52 ⟨q50, G51, rfl, hpk53, hok54, hpx55, hqn56, hx57⟩
  refine ⟨_, rfl, ?_⟩
  have hX58 := hX10.trans hx57 (fun i hi => xP i hi)
  have hql59 := hpx55.len
  have hml60 : (q50.ns.map Nd.l).length = q50.ns.length ∧ (q50.ns.map Nd.r).length = q50.ns.length := ⟨List.length_map .., List.length_map ..⟩
  have hml61 : q50.bs.length = q50.ns.length ∧ q50.ns.length ≤ 1048576 := ⟨hok54.ar.ok.len, hok54.ar.ok.lim⟩
  have hql62 := congrArg List.length hqn56.1
  refine qdg rfl rfl rfl rfl rfl rfl (yX (v := (.bool (geB q6.ns (xs.getD i 0) f))) rfl rfl) ?_
  refine qD rfl (yV (v := (.bool (geB q6.ns (xs.getD i 0) f))) rfl rfl) ?_
  refine qe (zB ?_)
  refine c_if rfl rfl (fun h63 => ?_) (fun h63 => ?_)
  ·skip
   refine zE (zF ?_)
   refine qD rfl (zA (v := (.int .i64 (xs.getD i 0))) rfl) ?_
   refine qD rfl (zD (v := (.int .i64 (xs.getD i 0))) rfl) ?_
   refine qe (zB ?_)
   refine wp_ret ?_
   refine zW ?_
   refine zS (v := (.int .i64 (xs.getD i 0))) rfl rfl rfl ?_
   have hmem : xs.getD i 0 ∈ xs := yG (show i < xs.length by omega)
   rw [h19, if_neg Bool.false_ne_true] at hxs
   exact ⟨_, q50, _, rfl, thr_hit hok.ar.opts hc (Or.inr ⟨h19, hxs ▸ hmem, ((xN hqn14).symm.trans h63)⟩), hpk53, hok54, (PX.trans hpx13 hpx55), (zT hqn14 hqn56), hX58⟩
  refine wp_skip ?_
  refine yA ?_
  refine zB (zF ?_)
  refine qD rfl (yJ rfl rfl (by omega)) ?_
  refine qD rfl (zA (v := (.int .i64 ((i : Int) + 1))) rfl) ?_
  refine qe ?_
  refine zY ?_
  refine ⟨_, ?_, _, rfl, _, i + 1, q50, G51, (zC (x := 15) (zC (x := 14) (zC (x := 13) (zC (x := 3) (zC (x := 1) (zN (x := 0) rfl) rfl) rfl) rfl) rfl) rfl), rfl, hX58, (Pin.le_trans hlek7 hx57.le), (by omega), (fun hl => absurd (h19.symm.trans hl) (by decide)), (fun hl x h2 => if h3 : x = i then h3 ▸ ((xN hqn14).symm.trans h63) else hpf hl x (by omega)), hpk53, hok54, (PX.trans hpx13 hpx55), (zT hqn14 hqn56)⟩
  omega
 refine wp_exit ?_
 refine zX ?_
 refine yL ?_
 refine yF ?_
 refine zB (zE (zF ?_))
 refine qD rfl (zD (v := (.int .i64 (-1))) rfl) ?_
 refine qe (zB ?_)
 refine wp_ret ?_
 refine zW ?_
 refine zS (v := (.int .i64 (-1))) rfl rfl rfl ?_
 have hii : i = xs.length := by omega
 refine ⟨_, q6, _, rfl, ?_, hpk11, hok12, hpx13, hqn14, hX10⟩
 cases hlf : lf
 ·rw [hlf, if_neg Bool.false_ne_true] at hxs
  exact thr_none_f hok.ar.opts hc (fun k hk => by rw [← hxs] at hk ⊢; exact hpf hlf k (by omega))
 ·rw [hlf, if_pos rfl] at hxs
  exact thr_none_t hok.ar.opts hc (fun k hk => by rw [← hxs] at hk ⊢; exact hpt hlf k (by omega))

end RI1
end Go.Proofs.YtpknebplcmgnkaaGreatDoor

set_option maxRecDepth 20000
set_option maxHeartbeats 2000000
namespace Go.Proofs.YtpknebplcmgnkaaGreatDoor
namespace CN1
open Go.RowKit Go.GL Go.Proofs
open Go.Proofs.YtpknebplcmgnkaaGreatDoor.B1
open Go.Proofs.YtpknebplcmgnkaaGreatDoor.K1
open Go.Proofs.YtpknebplcmgnkaaGreatDoor.PO1
open Go.Proofs.YtpknebplcmgnkaaGreatDoor.PL1
open Go.Proofs.YtpknebplcmgnkaaGreatDoor.DI1
open Go.Proofs.YtpknebplcmgnkaaGreatDoor.RI1




theorem without_spec {w : World} {G : Pin} {x y : Value} {xs D : List Int} (hP : Pins G w) (hx : RSl eInt G x xs) (hy : RSl eInt G y D) (hxl : xs.length ≤ 1048576) (hpw : D.Pairwise (· < ·)) (hD0 : ∀ z ∈ D, 0 ≤ z) :
  Calls Tryz.prog 163 [x, y].toArray w fun e w' => ∃ (u : Value) (G' : Pin), e = .returned u ∧ Own eInt 3 G' w' w.heap.size u (woL xs D xs.length) ∧ Ext noS G w G' w' := by
 refine yD (n := 34) Tryz.func163 Tryz.ntmps163 rfl rfl ?_
 have hX0 : Ext noS G w G w := Ext.refl hP
 have hm := hx.max
 have hm2 := hy.max
 refine zE (zF ?_)
 refine qD rfl (zD (v := (.slice none 0 0)) rfl) ?_
 refine qe (zB (zE (zF ?_)))
 refine qI rfl (yZ (E := eInt) (e := 3) Tryz.underlying67 sz3 hX0.pins (fun u1 w2 ho3 hp4 hl5 hk6 => ?_))
 have hX7 := hX0.step hp4 hl5
 have ho8 : Own eInt 3 G w2 w.heap.size u1 ([]) := ho3.weaken hX0.size
 refine qD rfl (zD (v := u1) rfl) ?_
 refine qe (zB (zE (zE (zF ?_))))
 refine qD rfl (zA (v := x) rfl) ?_
 refine qD rfl (zL Tryz.underlying67 (v := x) rfl hx) ?_
 refine qD rfl (zA (v := (.int .i64 0)) rfl) ?_
 refine qe (zB ?_)
 refine zZ ?_
 refine yM (fun (k : Nat) (en : Nat → Value) (W : World) => ∃ (env1 : Nat → Value) (i : Nat) (pv : Value) (ds : List Int) (ov : Value) (out : List Int) (GL1 : Pin), en = (upd (upd (upd (upd (upd (upd env1 1 pv) 4 (.slice none 0 0)) 5 ov) 9 x) 10 (.int .i64 (xs.length : Int))) 11 (.int .i64 (i : Int))) ∧ k = xs.length - i ∧ Ext noS G w GL1 W ∧ Pin.le G GL1 ∧ (i ≤ xs.length) ∧ (WoOk D ds i) ∧ (out = woL xs D i) ∧ (Own eInt 3 GL1 W w.heap.size ov (out)) ∧ (RSl eInt GL1 pv (ds))) _ ⟨_, 0, y, D, u1, [], G, (zC (x := 11) (zC (x := 10) (zC (x := 9) (zC (x := 5) (zC (x := 4) (zN (x := 1) rfl) rfl) rfl) rfl) rfl) rfl), rfl, hX7, Pin.le_refl _, Nat.zero_le _, (WoOk.start hpw hD0), rfl, ho8, hy⟩ ?_
 rintro k9 _ w10 ⟨env1, i, pv, ds, ov, out, GL1, rfl, hk11, hX12, hlek9, hi, hwo, hout, hw13, hr14⟩
 have hol : out.length ≤ i := by rw [hout]; exact wo_len i
 refine zE (zF ?_)
 refine qD rfl (yN rfl rfl) ?_
 refine qe (zB (zE ?_))
 refine yE (p := ((i : Int) : Int) < (xs.length : Int)) rfl rfl (fun h15 => ?_) (fun h15 => ?_)
 ·skip
  refine wp_skip ?_
  refine zB (zE ?_)
  refine zZ ?_
  refine zE (zF ?_)
  refine qD rfl (zA (v := (.int .i64 (i : Int))) rfl) ?_
  refine qD rfl (zJ Tryz.underlying67 sz3 (v := x) rfl rfl hx (by omega) (by omega)) ?_
  refine qD rfl (zI (r := xs.getD i 0) rfl ag3 (z := (i : Int)) rfl hx (Pins.of_le hX12.pins hlek9) (by omega) (by omega)) ?_
  refine qD rfl (zD (v := (.int .i64 (i : Int))) rfl) ?_
  refine qD rfl (zD (v := (.int .i64 (xs.getD i 0))) rfl) ?_
  refine qe (zB (zE (zE (zF ?_))))
  refine qD rfl (zA (v := pv) rfl) ?_
  refine qD rfl (zL Tryz.underlying67 (v := pv) rfl hr14) ?_
  refine qD rfl (r_gtr rfl rfl) ?_
  refine qD rfl (zA (v := (.bool (decide ((0 : Int) < (ds.length : Int))))) rfl) ?_
  refine qbd (p := (0 : Int) < (ds.length : Int)) (t := 19) rfl (fun h16 => ?_) (fun h16 => ?_)
  ·skip
   refine qdg rfl rfl rfl rfl rfl rfl (zA (v := pv) rfl) ?_
   refine qdg rfl rfl rfl rfl rfl rfl (zJ Tryz.underlying67 sz3 (v := pv) rfl rfl hr14 (by omega) (by omega)) ?_
   refine qdg rfl rfl rfl rfl rfl rfl (zI (r := ds.getD 0 0) rfl ag3 (z := 0) rfl hr14 hX12.pins (by omega) (by omega)) ?_
   refine qdg rfl rfl rfl rfl rfl rfl (zA (v := (.int .i64 (i : Int))) rfl) ?_
   refine qdg rfl rfl rfl rfl rfl rfl (r_eql rfl rfl) ?_
   refine qD rfl (yX (v := (.bool (decide ((ds.getD 0 0 : Int) = (i : Int))))) rfl rfl) ?_
   refine qe (zB ?_)
   refine yE (p := (ds.getD 0 0 : Int) = (i : Int)) rfl rfl (fun h17 => ?_) (fun h17 => ?_)
   ·skip
    refine zE (zF ?_)
    refine qD rfl (zA (v := pv) rfl) ?_
    obtain ⟨u18, hr19, hl20⟩ := qK hr14 (lo := (some (1))) (hi := none) (1) (ds.length) (Or.inr ⟨_, rfl, (by omega), rfl⟩) (Or.inl ⟨rfl, rfl⟩) (by omega) (by omega)
    refine qD rfl (hl20 Tryz.underlying67 sz3 rfl rfl rfl) ?_
    refine qD rfl (zD (v := u18) rfl) ?_
    refine qe (zB ?_)
    refine wp_exit ?_
    refine zX ?_
    refine yF ?_
    refine zB (zF ?_)
    refine qD rfl (yJ rfl rfl (by omega)) ?_
    refine qD rfl (zA (v := (.int .i64 ((i : Int) + 1))) rfl) ?_
    refine qe ?_
    refine zY ?_
    refine ⟨_, ?_, _, rfl, _, i + 1, u18, (ds.take ds.length).drop 1, ov, out, GL1, (zC (x := 11) (zC (x := 10) (zC (x := 9) (zC (x := 5) (zC (x := 4) (zN (x := 1) rfl) rfl) rfl) rfl) rfl) rfl), rfl, hX12, hlek9, (by omega), (by rw [List.take_length]; exact (hwo.hit (by omega) h17).1), (by rw [show woL xs D (i + 1) = woL xs D i from if_pos (hwo.hit (by omega) h17).2, hout]), hw13, hr19⟩
    omega
   refine wp_skip ?_
   refine zB (zF ?_)
   refine qD rfl (zA (v := ov) rfl) ?_
   refine qD rfl (zA (v := (.int .i64 (xs.getD i 0))) rfl) ?_
   refine qI rfl (yQ (E := eInt) (e := 3) [(.int .i64 (xs.getD i 0))] [xs.getD i 0] Tryz.underlying67 sz3 zr3 (by exact xO (by rfl)) (xG (by rfl)) rfl rfl rfl rfl (by decide) hX12.pins (fun u21 w22 ho23 hp24 hl25 hk26 => ?_))
   have hX27 := hX12.step hp24 hl25
   have ho28 := hw13.below hl25
   have ho30 : Own eInt 3 GL1 w22 w.heap.size u21 ([xs.getD i 0]) := ho23.weaken hX12.size
   refine qI rfl (yB (E := eInt) (v := ov) (u := u21) 8 Tryz.underlying67 ap3 (by decide) rfl rfl hX27.pins ho28 ho30.src (by first | omega | (rw [List.nil_append]; omega) | (rw [List.length_nil]; omega) | (rw [List.length_append]; omega) | (simp; done) | (simp; omega) | (simp only [List.length_append, List.length_cons, List.length_nil]; omega)) (by first | omega | (rw [List.nil_append]; omega) | (rw [List.length_nil]; omega) | (rw [List.length_append]; omega) | (simp; done) | (simp; omega) | (simp only [List.length_append, List.length_cons, List.length_nil]; omega)) (hX27.size) (fun u31 w32 ho33 hp34 hg35 hw36 => ?_))
   have hX37 := hX27.write hp34 hg35 ((yI ho28))
   have hm40 : (out ++ ([xs.getD i 0])).length = out.length + 1 := List.length_append
   refine qD rfl (zD (v := u31) rfl) ?_
   refine qe ?_
   refine yA ?_
   refine zB (zF ?_)
   refine qD rfl (yJ rfl rfl (by omega)) ?_
   refine qD rfl (zA (v := (.int .i64 ((i : Int) + 1))) rfl) ?_
   refine qe ?_
   refine zY ?_
   refine ⟨_, ?_, _, rfl, _, i + 1, pv, ds, u31, out ++ ([xs.getD i 0]), GL1, (zC (x := 11) (zC (x := 10) (zC (x := 9) (zC (x := 5) (zC (x := 4) (zN (x := 1) rfl) rfl) rfl) rfl) rfl) rfl), rfl, hX37, hlek9, (by omega), (hwo.miss (Or.inr h17)).1, (by rw [show woL xs D (i + 1) = woL xs D i ++ [xs.getD i 0] from if_neg (hwo.miss (Or.inr h17)).2, hout]), ho33, hr14⟩
   omega
  refine qs rfl rfl rfl rfl rfl rfl ?_
  refine qs rfl rfl rfl rfl rfl rfl ?_
  refine qs rfl rfl rfl rfl rfl rfl ?_
  refine qs rfl rfl rfl rfl rfl rfl ?_
  refine qs rfl rfl rfl rfl rfl rfl ?_
  refine qD rfl (yV (v := (.bool false)) rfl rfl) ?_
  refine qe (zB ?_)
  refine qE rfl rfl ?_
  refine wp_skip ?_
  refine zB (zF ?_)
  refine qD rfl (zA (v := ov) rfl) ?_
  refine qD rfl (zA (v := (.int .i64 (xs.getD i 0))) rfl) ?_
  refine qI rfl (yQ (E := eInt) (e := 3) [(.int .i64 (xs.getD i 0))] [xs.getD i 0] Tryz.underlying67 sz3 zr3 (by exact xO (by rfl)) (xG (by rfl)) rfl rfl rfl rfl (by decide) hX12.pins (fun u41 w42 ho43 hp44 hl45 hk46 => ?_))
  have hX47 := hX12.step hp44 hl45
  have ho48 := hw13.below hl45
  have ho50 : Own eInt 3 GL1 w42 w.heap.size u41 ([xs.getD i 0]) := ho43.weaken hX12.size
  refine qI rfl (yB (E := eInt) (v := ov) (u := u41) 8 Tryz.underlying67 ap3 (by decide) rfl rfl hX47.pins ho48 ho50.src (by first | omega | (rw [List.nil_append]; omega) | (rw [List.length_nil]; omega) | (rw [List.length_append]; omega) | (simp; done) | (simp; omega) | (simp only [List.length_append, List.length_cons, List.length_nil]; omega)) (by first | omega | (rw [List.nil_append]; omega) | (rw [List.length_nil]; omega) | (rw [List.length_append]; omega) | (simp; done) | (simp; omega) | (simp only [List.length_append, List.length_cons, List.length_nil]; omega)) (hX47.size) (fun u51 w52 ho53 hp54 hg55 hw56 => ?_))
  have hX57 := hX47.write hp54 hg55 ((yI ho48))
  have hm60 : (out ++ ([xs.getD i 0])).length = out.length + 1 := List.length_append
  refine qD rfl (zD (v := u51) rfl) ?_
  refine qe ?_
  refine yA ?_
  refine zB (zF ?_)
  refine qD rfl (yJ rfl rfl (by omega)) ?_
  refine qD rfl (zA (v := (.int .i64 ((i : Int) + 1))) rfl) ?_
  refine qe ?_
  refine zY ?_
  refine ⟨_, ?_, _, rfl, _, i + 1, pv, ds, u51, out ++ ([xs.getD i 0]), GL1, (zC (x := 11) (zC (x := 10) (zC (x := 9) (zC (x := 5) (zC (x := 4) (zN (x := 1) rfl) rfl) rfl) rfl) rfl) rfl), rfl, hX57, hlek9, (by omega), (hwo.miss (Or.inl (by omega))).1, (by rw [show woL xs D (i + 1) = woL xs D i ++ [xs.getD i 0] from if_neg (hwo.miss (Or.inl (by omega))).2, hout]), ho53, hr14⟩
  omega
 refine wp_exit ?_
 refine zX ?_
 refine yL ?_
 refine yF ?_
 refine zB (zE (zF ?_))
 refine qD rfl (zA (v := ov) rfl) ?_
 refine qD rfl (zD (v := ov) rfl) ?_
 refine qe (zB ?_)
 refine wp_ret ?_
 refine zW ?_
 refine zS (v := ov) rfl rfl rfl ?_
 have hin : i = xs.length := by omega
 rw [hin] at hout
 exact ⟨_, _, rfl, (by rw [← hout]; exact hw13), hX12⟩

def CanP (N m p : Nat) (mm : PM) : Prop := ∀ {w : World} {G : Pin} {L R B : Value} {q : PSt} {f : Int} (_ : Pins G w) (_ : Pk 67 3 G w p L R B mm q) (_ : PoolOk q) (_ : PlaceOk q f) (_ : f < (N : Int)) (_ : q.ns.length + unc q N < 1048576), f.toNat < m →
  Calls Tryz.prog 107 [(.pointer (some ⟨p, 0, none⟩)), (.int .i64 f)].toArray w fun e w' => ∃ (z : Int) (L' R' B' : Value) (q' : PSt) (G' : Pin), e = .returned (.int .i64 z) ∧ Pk 67 3 G' w' p L' R' B' mm q' ∧ PoolOk q' ∧ PX q q' ∧ PLo w p L R B mm L' R' B' ∧ Ext (inP p L R B mm) G w G' w' ∧ PlaceOk q' z ∧ CanonG (pd q' z) ∧ eqG (pd q' z) (pd q' f) ∧ q'.ns.length + unc q' N ≤ q.ns.length + unc q N

end CN1
end Go.Proofs.YtpknebplcmgnkaaGreatDoor

set_option maxRecDepth 20000
set_option maxHeartbeats 2000000
namespace Go.Proofs.YtpknebplcmgnkaaGreatDoor
namespace CN2
open Go.RowKit Go.GL Go.Proofs
open Go.Proofs.YtpknebplcmgnkaaGreatDoor.B1
open Go.Proofs.YtpknebplcmgnkaaGreatDoor.K1
open Go.Proofs.YtpknebplcmgnkaaGreatDoor.PO1
open Go.Proofs.YtpknebplcmgnkaaGreatDoor.PL1
open Go.Proofs.YtpknebplcmgnkaaGreatDoor.DI1
open Go.Proofs.YtpknebplcmgnkaaGreatDoor.RI1
open Go.Proofs.YtpknebplcmgnkaaGreatDoor.CN1













theorem reduced_t {w : World} {G : Pin} {L R B : Value} {q : PSt} {f : Int} {p : Nat} {mm : PM} {N m : Nat} (hP : Pins G w) (hpk : Pk 67 3 G w p L R B mm q) (hok : PoolOk q) (hf : PlaceOk q f) (hfN : f < (N : Int)) (hbud : q.ns.length + unc q N < 1048576) (ih : CanP N m p mm) (hm : f.toNat < m + 1) :
  Calls Tryz.prog 144 [(.pointer (some ⟨p, 0, none⟩)), (.int .i64 f), (.bool true)].toArray w fun e w' => ∃ (u : Value) (zs : List Int) (L' R' B' : Value) (q' : PSt) (G' : Pin), e = .returned u ∧ Pk 67 3 G' w' p L' R' B' mm q' ∧ PoolOk q' ∧ PX q q' ∧ PLo w p L R B mm L' R' B' ∧ Ext (inP p L R B mm) G w G' w' ∧ Own eInt 3 G' w' w.heap.size u zs ∧ NP p L' R' B' mm u.ownBlock ∧ ReOk q' true f zs ∧ q'.ns.length + unc q' N ≤ q.ns.length + unc q N := by
 refine yD (n := 120) Tryz.func144 Tryz.ntmps144 rfl rfl ?_
 have hX0 : Ext (inP p L R B mm) G w G w := Ext.refl hP
 have hpin : PIn w (inP p L R B mm) p L R B mm := PIn.self
 have hml1 : (q.ns.map Nd.l).length = q.ns.length ∧ (q.ns.map Nd.r).length = q.ns.length := ⟨List.length_map .., List.length_map ..⟩
 have hml2 : q.bs.length = q.ns.length ∧ q.ns.length ≤ 1048576 := ⟨hok.ar.ok.len, hok.ar.ok.lim⟩
 have hf0 := hf.1
 have hf1 := hf.2
 have hol0 := ol_len hok (lf := true) hf
 have hol1 : (q.ns.getD (f).toNat default).l.length ≤ 1048576 := hol0
 refine zE (zF ?_)
 refine qD rfl (zD (v := (.slice none 0 0)) rfl) ?_
 refine qe (zB (zE (zF ?_)))
 refine qI rfl (yZ (E := eInt) (e := 3) Tryz.underlying67 sz3 hX0.pins (fun u3 w4 ho5 hp6 hl7 hk8 => ?_))
 have hX9 := hX0.step hp6 hl7
 have hpk10 := hpk.below hl7 hp6
 have ha15 := hpk.new (x := u3.ownBlock) (fun k hk => by rw [hk8] at hk; cases hk; exact Nat.le_refl _)
 have ho16 : Own eInt 3 G w4 w.heap.size u3 ([]) := ho5.weaken hX0.size
 refine qI rfl (jB (fun k : Int => Value.int .i64 k) (fun v : Bool => Value.bool v) hX9.pins (fun m17 w18 hk19 hm20 hp21 hl22 => ?_))
 have hX23 := hX9.step hp21 hl22
 have ho24 := ho16.below hl22
 have hpk25 := hpk10.below hl22 hp21
 have hnp26 := hpk10.new (x := some m17) (fun k hk => by cases hk; omega)
 have hlo27 : w.heap.size ≤ m17 := by have := hX9.size; omega
 refine qI rfl (yZ (E := eInt) (e := 3) Tryz.underlying67 sz3 hX23.pins (fun u28 w29 ho30 hp31 hl32 hk33 => ?_))
 have hX34 := hX23.step hp31 hl32
 have ho35 := ho24.below hl32
 have hm36 := hm20.below hl32
 have hpk37 := hpk25.below hl32 hp31
 have ha38 : Apart u28.ownBlock u3.ownBlock := zK hk33 ho24.lt
 have ha43 := hpk25.new (x := u28.ownBlock) (fun k hk => by rw [hk33] at hk; cases hk; exact Nat.le_refl _)
 have ho44 : Own eInt 3 G w29 w.heap.size u28 ([]) := ho30.weaken hX23.size
 refine qD rfl (zD (v := u3) rfl) ?_
 refine qD rfl (zD (v := (.map (some m17))) rfl) ?_
 refine qD rfl (zD (v := u28) rfl) ?_
 refine qe (zB (zE (zF ?_)))
 refine qD rfl (zA (v := (.pointer (some ⟨p, 0, none⟩))) rfl) ?_
 refine qD rfl (yP rfl) ?_
 refine qD rfl (zM (k := 1) rfl Tryz.underlying74 rfl nz68 rfl) ?_
 refine qD rfl (zO (u := R) ag68 rfl (hpk37.bx.cell (o := 1) rfl)) ?_
 refine qD rfl (zA (v := (.int .i64 f)) rfl) ?_
 refine qD rfl (zJ Tryz.underlying68 sz67 (v := R) rfl rfl hpk37.rr.read (by omega) (by omega)) ?_
 obtain ⟨u45, hr46, hl47⟩ := nm_sl (hpk37.rr.at (z := f) (by omega) (by omega)) (j := (f).toNat) rfl
 rw [mapr_getD] at hr46
 have hm48 := hr46.max
 refine qD rfl (hl47 ag67 rfl (Gadd.pins hX34.pins R)) ?_
 refine qD rfl (zD (v := u45) rfl) ?_
 refine qe (zB (zE (zE (zF ?_))))
 refine qD rfl (zA (v := (.bool true)) rfl) ?_
 refine qe (zB ?_)
 refine c_ifT rfl rfl ?_
 refine zF ?_
 refine qD rfl (zA (v := (.pointer (some ⟨p, 0, none⟩))) rfl) ?_
 refine qD rfl (yP rfl) ?_
 refine qD rfl (zM (k := 0) rfl Tryz.underlying74 rfl nz68 rfl) ?_
 refine qD rfl (zO (u := L) ag68 rfl (hpk37.bx.cell (o := 0) rfl)) ?_
 refine qD rfl (zA (v := (.int .i64 f)) rfl) ?_
 refine qD rfl (zJ Tryz.underlying68 sz67 (v := L) rfl rfl hpk37.ol.read (by omega) (by omega)) ?_
 obtain ⟨u49, hr50, hl51⟩ := nm_sl (hpk37.ol.at (z := f) (by omega) (by omega)) (j := (f).toNat) rfl
 rw [mapl_getD] at hr50
 have hm52 := hr50.max
 refine qD rfl (hl51 ag67 rfl (Gadd.pins hX34.pins L)) ?_
 refine qD rfl (zD (v := u49) rfl) ?_
 refine qe (zB (zE (zE (zF ?_))))
 refine qD rfl (zA (v := u49) rfl) ?_
 refine qD rfl (zL Tryz.underlying67 (v := u49) rfl hr50) ?_
 refine qD rfl (zA (v := (.int .i64 0)) rfl) ?_
 refine qe (zB ?_)
 refine zZ ?_
 refine yM (fun (k : Nat) (en : Nat → Value) (W : World) => ∃ (env1 : Nat → Value) (j : Nat) (qv : Value) (qs : List Int) (L53 : Value) (R54 : Value) (B55 : Value) (q56 : PSt) (GL1 : Pin), en = (upd (upd (upd (upd (upd (upd (upd (upd (upd (upd env1 0 (.pointer (some ⟨p, 0, none⟩))) 1 (.int .i64 f)) 2 (.bool true)) 6 (.slice none 0 0)) 7 qv) 8 (.map (some m17))) 9 u28) 34 u49) 35 (.int .i64 (((q.ns.getD (f).toNat default).l).length : Int))) 36 (.int .i64 (j : Int))) ∧ k = (q.ns.getD (f).toNat default).l.length - j ∧ Ext (inP p L R B mm) G w GL1 W ∧ Pin.le G GL1 ∧ (j ≤ (q.ns.getD (f).toNat default).l.length) ∧ (QOk q q56 (q.ns.getD (f).toNat default).l qs j) ∧ (q56.ns.length + unc q56 N ≤ q.ns.length + unc q N) ∧ (Own eInt 3 GL1 W w.heap.size qv (qs)) ∧ (Own eInt 3 GL1 W w.heap.size u28 ([])) ∧ (Apart qv.ownBlock u28.ownBlock) ∧ (Mp (fun k : Int => Value.int .i64 k) (fun v : Bool => Value.bool v) W m17 ([])) ∧ (Pk 67 3 GL1 W p L53 R54 B55 mm q56) ∧ (PIn w ((inP p L R B mm)) p L53 R54 B55 mm) ∧ (PoolOk q56) ∧ (PX q q56) ∧ (NP p L53 R54 B55 mm qv.ownBlock) ∧ (NP p L53 R54 B55 mm u28.ownBlock) ∧ (NP p L53 R54 B55 mm (some m17))) _ ⟨_, 0, u3, [], L, R, B, q, G, (zC (x := 36) (zC (x := 35) (zC (x := 34) (zC (x := 9) (zC (x := 8) (zC (x := 7) (zC (x := 6) (zC (x := 2) (zC (x := 1) (zN (x := 0) rfl) rfl) rfl) rfl) rfl) rfl) rfl) rfl) rfl) rfl), rfl, hX34, Pin.le_refl _, Nat.zero_le _, QOk.start, Nat.le_refl _, ho35, ho44, ha38.symm, hm36, hpk37, hpin, hok, (PX.refl _), ha15, ha43, hnp26⟩ ?_
 rintro k57 _ w58 ⟨env1, j, qv, qs, L53, R54, B55, q56, GL1, rfl, hk59, hX60, hlek57, hj, hqo, hbu, hw61, hw62, ha63, hm64, hpk65, hpin66, hok67, hpx68, hnp69, hnp70, hnp71⟩
 have hql72 := hpx68.len
 have hml73 : (q56.ns.map Nd.l).length = q56.ns.length ∧ (q56.ns.map Nd.r).length = q56.ns.length := ⟨List.length_map .., List.length_map ..⟩
 have hml74 : q56.bs.length = q56.ns.length ∧ q56.ns.length ≤ 1048576 := ⟨hok67.ar.ok.len, hok67.ar.ok.lim⟩
 have hql1 := hqo.len
 refine zE (zF ?_)
 refine qD rfl (yN rfl rfl) ?_
 refine qe (zB (zE ?_))
 refine yE (p := ((j : Int) : Int) < (((q.ns.getD (f).toNat default).l).length : Int)) rfl rfl (fun h75 => ?_) (fun h75 => ?_)
 ·skip
  have hmj : (q.ns.getD (f).toNat default).l.getD j 0 ∈ (q.ns.getD (f).toNat default).l := yG (show j < (q.ns.getD (f).toNat default).l.length by omega)
  have hoj := (qY hok hf).1 _ hmj
  have hoj1 := hoj.1
  have hoz := ((xD hok.ar.opts (show (f).toNat < q.ns.length by omega)).1 _ hmj).2
  refine wp_skip ?_
  refine zB (zE ?_)
  refine zZ ?_
  refine zE (zF ?_)
  refine qD rfl (zJ Tryz.underlying67 sz3 (v := u49) rfl rfl hr50 (by omega) (by omega)) ?_
  refine qD rfl (zI (r := ((q.ns.getD (f).toNat default).l).getD j 0) rfl ag3 (z := (j : Int)) rfl hr50 (Pins.of_le hX60.pins hlek57) (by omega) (by omega)) ?_
  refine qD rfl (zD (v := (.int .i64 (((q.ns.getD (f).toNat default).l).getD j 0))) rfl) ?_
  refine qe (zB (zF ?_))
  refine qD rfl (zA (v := qv) rfl) ?_
  refine qD rfl (zA (v := (.pointer (some ⟨p, 0, none⟩))) rfl) ?_
  refine qD rfl (zA (v := (.int .i64 (((q.ns.getD (f).toNat default).l).getD j 0))) rfl) ?_
  refine qI rfl (zP (vs := [(.pointer (some ⟨p, 0, none⟩)), (.int .i64 (((q.ns.getD (f).toNat default).l).getD j 0))]) Tryz.func107 nm107 rfl rfl rfl ?_)
  refine Calls.mono (ih hX60.pins hpk65 hok67 (hpx68.place hoj) (by omega) (by omega) (by omega)) ?_
  rintro _ w86 ⟨z76, L81, R82, B83, q84, G85, rfl, hpk87, hok88, hpx89, hlo90, hx91, hpl77, hcg78, heq79, hbu80⟩
  refine ⟨_, rfl, ?_⟩
  have hX92 := hX60.trans hx91 hpin66
  have ho93 := hw61.extS hx91 hnp69
  have hnp94 := NP.call hnp69 hlo90 (qS hw61)
  have ho95 := hw62.extS hx91 hnp70
  have hnp96 := NP.call hnp70 hlo90 (qS hw62)
  have hm97 := hm64.extS hx91 (NP.notb hnp71)
  have hnp98 := NP.call hnp71 hlo90 (fun j hj => by cases hj; exact hm64.lt)
  have hpin99 := PIn.call hpin66 hlo90 hX60.size
  have hql100 := hpx89.len
  have hml101 : (q84.ns.map Nd.l).length = q84.ns.length ∧ (q84.ns.map Nd.r).length = q84.ns.length := ⟨List.length_map .., List.length_map ..⟩
  have hml102 : q84.bs.length = q84.ns.length ∧ q84.ns.length ≤ 1048576 := ⟨hok88.ar.ok.len, hok88.ar.ok.lim⟩
  refine qI rfl (yQ (E := eInt) (e := 3) [(.int .i64 z76)] [z76] Tryz.underlying67 sz3 zr3 (by exact xO (by rfl)) (xG (by rfl)) rfl rfl rfl rfl (by decide) hX92.pins (fun u103 w104 ho105 hp106 hl107 hk108 => ?_))
  have hX109 := hX92.step hp106 hl107
  have ho110 := ho93.below hl107
  have ho111 := ho95.below hl107
  have hm112 := hm97.below hl107
  have hpk113 := hpk87.below hl107 hp106
  have ho121 : Own eInt 3 G85 w104 w.heap.size u103 ([z76]) := ho105.weaken hX92.size
  refine qI rfl (yB (E := eInt) (v := qv) (u := u103) 8 Tryz.underlying67 ap3 (by decide) rfl rfl hX109.pins ho110 ho121.src (by first | omega | (rw [List.nil_append]; omega) | (rw [List.length_nil]; omega) | (rw [List.length_append]; omega) | (simp; done) | (simp; omega) | (simp only [List.length_append, List.length_cons, List.length_nil]; omega)) (by first | omega | (rw [List.nil_append]; omega) | (rw [List.length_nil]; omega) | (rw [List.length_append]; omega) | (simp; done) | (simp; omega) | (simp only [List.length_append, List.length_cons, List.length_nil]; omega)) (hX109.size) (fun u122 w123 ho124 hp125 hg126 hw127 => ?_))
  have hX128 := hX109.write hp125 hg126 ((yI ho110))
  have ho129 := ho111.keptA hg126 ha63.symm
  have hm131 := hm112.kept hg126 (yK hm112 ho110)
  have hpk132 := hpk113.kept hg126 hp125 hnp94
  have ha133 : Apart u28.ownBlock u122.ownBlock := zH ha63.symm hw127 ho111.lt
  have hnp135 := qT hnp94 hpk113 hw127
  have hm136 : (qs ++ ([z76])).length = qs.length + 1 := List.length_append
  refine qD rfl (zD (v := u122) rfl) ?_
  refine qe ?_
  refine yA ?_
  refine zB (zF ?_)
  refine qD rfl (yJ rfl rfl (by omega)) ?_
  refine qD rfl (zA (v := (.int .i64 ((j : Int) + 1))) rfl) ?_
  refine qe ?_
  refine zY ?_
  refine ⟨_, ?_, _, rfl, _, j + 1, u122, qs ++ ([z76]), L81, R82, B83, q84, G85, (zC (x := 36) (zC (x := 35) (zC (x := 34) (zC (x := 9) (zC (x := 8) (zC (x := 7) (zC (x := 6) (zC (x := 2) (zC (x := 1) (zN (x := 0) rfl) rfl) rfl) rfl) rfl) rfl) rfl) rfl) rfl) rfl), rfl, hX128, (Pin.le_trans hlek57 hx91.le), (by omega), (hqo.step hok hok67 hok88 hpx68 hpx89 hoj hpl77 hcg78 heq79), (by have := hbu80; omega), ho124, ho129, ha133.symm, hm131, hpk132, hpin99, hok88, (PX.trans hpx68 hpx89), hnp135, hnp96, hnp98⟩
  omega
 refine wp_exit ?_
 refine zX ?_
 refine yL ?_
 refine yF ?_
 refine zB (zE ?_)
 refine zZ ?_
 have hjn : j = (q.ns.getD (f).toNat default).l.length := by omega
 rw [hjn] at hqo
 have hrd0 : RdW q56 true (pd q56 f) qs [] [] := by rw [hpx68.pd hok hok67 hf]; exact hqo.rd (lf := true) hok hf (by unfold ol; rw [if_pos rfl])
 have hq2l := hqo.len
 have hf2 := hpx68.place hf
 refine yM (fun (k : Nat) (en : Nat → Value) (W : World) => ∃ (env1 : Nat → Value) (wv : Value) (wl : List Int) (kv : Value) (kept : List Int) (sn : List (Int × Bool)) (ss : List Int) (q140 : PSt) (GL2 : Pin), en = (upd (upd (upd (upd (upd (upd (upd env1 0 (.pointer (some ⟨p, 0, none⟩))) 1 (.int .i64 f)) 2 (.bool true)) 6 (.slice none 0 0)) 7 wv) 8 (.map (some m17))) 9 kv) ∧ k = (q56.ns.length - ss.length) * 1048577 + wl.length ∧ Ext (inP p L R B mm) G w GL2 W ∧ Pin.le GL1 GL2 ∧ (RdW q56 true (pd q56 f) wl ss kept) ∧ (SnOk sn ss) ∧ (wl.length ≤ 1048576 + 1048576 * ss.length) ∧ (Own eInt 3 GL2 W w.heap.size wv (wl)) ∧ (Own eInt 3 GL2 W w.heap.size kv (kept)) ∧ (Apart wv.ownBlock kv.ownBlock) ∧ (Mp (fun k : Int => Value.int .i64 k) (fun v : Bool => Value.bool v) W m17 (sn)) ∧ (Pk 67 3 GL2 W p L53 R54 B55 mm q140) ∧ (PoolOk q140) ∧ (PX q56 q140) ∧ (q140.ns = q56.ns ∧ q140.bs = q56.bs) ∧ (NP p L53 R54 B55 mm wv.ownBlock) ∧ (NP p L53 R54 B55 mm kv.ownBlock)) _ ⟨_, qv, qs, u28, [], [], [], q56, GL1, (zC (x := 9) (zC (x := 8) (zC (x := 7) (zC (x := 6) (zC (x := 2) (zC (x := 1) (zN (x := 0) rfl) rfl) rfl) rfl) rfl) rfl) rfl), rfl, hX60, Pin.le_refl _, hrd0, SnOk.start, (by simp; omega), hw61, hw62, ha63, hm64, hpk65, hok67, (PX.refl _), ⟨rfl, rfl⟩, hnp69, hnp70⟩ ?_
 rintro k141 _ w142 ⟨env1, wv, wl, kv, kept, sn, ss, q140, GL2, rfl, hk143, hX144, hlek141, hrd, hsn, hwl, hw145, hw146, ha147, hm148, hpk149, hok150, hpx151, hqn152, hnp153, hnp154⟩
 have hql155 := hpx151.len
 have hml156 : (q140.ns.map Nd.l).length = q140.ns.length ∧ (q140.ns.map Nd.r).length = q140.ns.length := ⟨List.length_map .., List.length_map ..⟩
 have hml157 : q140.bs.length = q140.ns.length ∧ q140.ns.length ≤ 1048576 := ⟨hok150.ar.ok.len, hok150.ar.ok.lim⟩
 have hrl := hrd.len
 refine zE (zE (zF ?_))
 refine qD rfl (zA (v := wv) rfl) ?_
 refine qD rfl (zL Tryz.underlying67 (v := wv) rfl hw145.read) ?_
 refine qD rfl (r_gtr rfl rfl) ?_
 refine qe (zB ?_)
 refine yE (p := (0 : Int) < (wl.length : Int)) rfl rfl (fun h158 => ?_) (fun h158 => ?_)
 ·skip
  have hpm : ((wl.length : Int) - 1).toNat + 1 = wl.length := by omega
  have hpa := hrd.at_ hpm
  have hpa1 := hpa.1
  have hpa2 := hpa.2
  refine wp_skip ?_
  refine zB ?_
  refine zZ ?_
  refine zE (zF ?_)
  refine qD rfl (zA (v := wv) rfl) ?_
  refine qD rfl (zA (v := wv) rfl) ?_
  refine qD rfl (zL Tryz.underlying67 (v := wv) rfl hw145.read) ?_
  refine qD rfl (qP rfl rfl (by omega)) ?_
  refine qD rfl (zJ Tryz.underlying67 sz3 (v := wv) rfl rfl hw145.read (by omega) (by omega)) ?_
  refine qD rfl (zI (r := wl.getD ((wl.length : Int) - 1).toNat 0) rfl ag3 (z := ((wl.length : Int) - 1)) rfl hw145.read (Gadd.pins hX144.pins wv) (by omega) (by omega)) ?_
  refine qD rfl (zD (v := (.int .i64 (wl.getD ((wl.length : Int) - 1).toNat 0))) rfl) ?_
  refine qe (zB (zE (zF ?_)))
  refine qD rfl (zA (v := wv) rfl) ?_
  refine qD rfl (zA (v := wv) rfl) ?_
  refine qD rfl (zL Tryz.underlying67 (v := wv) rfl hw145.read) ?_
  refine qD rfl (qP rfl rfl (by omega)) ?_
  obtain ⟨u159, ho160, hb161, hl162⟩ := own_cut hw145 (((wl.length : Int) - 1).toNat) ((wl.length : Int) - 1) (by omega) rfl (by omega) (by omega)
  have ha163 : Apart u159.ownBlock kv.ownBlock := by rw [hb161]; exact ha147
  have hnp164 := (show NP _ _ _ _ _ u159.ownBlock by rw [hb161]; exact hnp153)
  refine qD rfl (hl162 Tryz.underlying67 sz3 rfl rfl rfl) ?_
  refine qD rfl (zD (v := u159) rfl) ?_
  refine qe (zB (zE (zE (zF ?_))))
  refine qD rfl (zA (v := (.map (some m17))) rfl) ?_
  refine qD rfl (zA (v := (.int .i64 (wl.getD ((wl.length : Int) - 1).toNat 0))) rfl) ?_
  refine qD rfl (run_look1_bool (k := (wl.getD ((wl.length : Int) - 1).toNat 0)) (key_int Tryz.underlying3) Tryz.underlying120 zr4 hm148 rfl rfl) ?_
  refine qe (zB ?_)
  refine c_if rfl rfl (fun h165 => ?_) (fun h165 => ?_)
  ·skip
   refine wp_exit ?_
   refine zX ?_
   refine yF ?_
   refine zY ?_
   have htl : (wl.take ((wl.length : Int) - 1).toNat).length = ((wl.length : Int) - 1).toNat := by rw [List.length_take]; omega
   refine ⟨_, ?_, _, rfl, _, u159, wl.take ((wl.length : Int) - 1).toNat, kv, kept, sn, ss, q140, GL2, (zC (x := 9) (zC (x := 8) (zC (x := 7) (zC (x := 6) (zC (x := 2) (zC (x := 1) (zN (x := 0) rfl) rfl) rfl) rfl) rfl) rfl) rfl), rfl, hX144, hlek141, ((hrd.pop hpm).seen (hsn.yes h165)), hsn, (by omega), ho160, hw146, ha163, hm148, hpk149, hok150, hpx151, hqn152, hnp164, hnp154⟩
   omega
  refine wp_skip ?_
  refine zB (zE (zF ?_))
  refine qD rfl (zA (v := (.map (some m17))) rfl) ?_
  refine qD rfl (zA (v := (.int .i64 (wl.getD ((wl.length : Int) - 1).toNat 0))) rfl) ?_
  refine q0 rfl rfl rfl (xV (val := (fun v : Bool => Value.bool v)) (k := (wl.getD ((wl.length : Int) - 1).toNat 0)) (v := true) (key_int Tryz.underlying3) Tryz.underlying120 rfl rfl rfl hX144.pins hm148 (fun w166 hm167 hp168 hg169 hz170 => ?_))
  have hX171 := hX144.write hp168 hg169 ((xJ hlo27))
  have ho172 := hw146.keptA hg169 (yK hm148 hw146).symm
  have ho173 := ho160.keptA hg169 (yK hm148 ho160).symm
  have hpk174 := hpk149.kept hg169 hp168 hnp71
  refine qe (zB (zE (zF ?_)))
  refine qD rfl (zA (v := (.pointer (some ⟨p, 0, none⟩))) rfl) ?_
  refine qD rfl (yP rfl) ?_
  refine qD rfl (zM (k := 0) rfl Tryz.underlying74 rfl nz68 rfl) ?_
  refine qD rfl (zO (u := L53) ag68 rfl (hpk174.bx.cell (o := 0) rfl)) ?_
  refine qD rfl (zA (v := (.int .i64 (wl.getD ((wl.length : Int) - 1).toNat 0))) rfl) ?_
  refine qD rfl (zJ Tryz.underlying68 sz67 (v := L53) rfl rfl hpk174.ol.read (by omega) (by omega)) ?_
  obtain ⟨u175, hr176, hl177⟩ := nm_sl (hpk174.ol.at (z := (wl.getD ((wl.length : Int) - 1).toNat 0)) (by omega) (by omega)) (j := (wl.getD ((wl.length : Int) - 1).toNat 0).toNat) rfl
  rw [mapl_getD] at hr176
  have hm178 := hr176.max
  refine qD rfl (hl177 ag67 rfl (Gadd.pins hX171.pins L53)) ?_
  refine qD rfl (zD (v := u175) rfl) ?_
  refine qe (zB (zE (zE (zF ?_))))
  refine qD rfl (zA (v := (.bool true)) rfl) ?_
  refine qe (zB ?_)
  refine c_ifT rfl rfl ?_
  refine zF ?_
  refine qD rfl (zA (v := (.pointer (some ⟨p, 0, none⟩))) rfl) ?_
  refine qD rfl (yP rfl) ?_
  refine qD rfl (zM (k := 1) rfl Tryz.underlying74 rfl nz68 rfl) ?_
  refine qD rfl (zO (u := R54) ag68 rfl (hpk174.bx.cell (o := 1) rfl)) ?_
  refine qD rfl (zA (v := (.int .i64 (wl.getD ((wl.length : Int) - 1).toNat 0))) rfl) ?_
  refine qD rfl (zJ Tryz.underlying68 sz67 (v := R54) rfl rfl hpk174.rr.read (by omega) (by omega)) ?_
  obtain ⟨u179, hr180, hl181⟩ := nm_sl (hpk174.rr.at (z := (wl.getD ((wl.length : Int) - 1).toNat 0)) (by omega) (by omega)) (j := (wl.getD ((wl.length : Int) - 1).toNat 0).toNat) rfl
  rw [mapr_getD] at hr180
  have hm182 := hr180.max
  refine qD rfl (hl181 ag67 rfl (Gadd.pins hX171.pins R54)) ?_
  refine qD rfl (zD (v := u179) rfl) ?_
  refine qe (zB (zE (zF ?_)))
  refine qD rfl (zA (v := (.pointer (some ⟨p, 0, none⟩))) rfl) ?_
  refine qD rfl (zA (v := (.int .i64 f)) rfl) ?_
  refine qD rfl (zA (v := (.int .i64 (wl.getD ((wl.length : Int) - 1).toNat 0))) rfl) ?_
  refine qD rfl (zA (v := (.bool true)) rfl) ?_
  refine qD rfl (zA (v := u179) rfl) ?_
  refine qI rfl (zP (vs := [(.pointer (some ⟨p, 0, none⟩)), (.int .i64 f), (.int .i64 (wl.getD ((wl.length : Int) - 1).toNat 0)), (.bool true), u179]) Tryz.func162 nm162 rfl rfl rfl ?_)
  refine Calls.mono (through_spec hX171.pins hpk174 hok150 (lf := true) (hf2.same hqn152) (hpa.same hqn152) hr180 (by rw [if_pos rfl]) (qY hok150 (hpa.same hqn152)).2) ?_
  rintro _ w186 ⟨t183, q184, G185, rfl, hthr187, hpk188, hok189, hpx190, hqn191, hx192⟩
  refine ⟨_, rfl, ?_⟩
  have hX193 := hX171.trans hx192 (fun i hi => (PIn.o hpin66) i hi)
  have ho194 := ho172.extS hx192 (notO (NP.ho hnp154))
  have ho195 := ho173.extS hx192 (notO (NP.ho hnp164))
  have hm196 := hm167.extS hx192 (qG (NP.ho hnp71))
  have hql197 := hpx190.len
  have hml198 : (q184.ns.map Nd.l).length = q184.ns.length ∧ (q184.ns.map Nd.r).length = q184.ns.length := ⟨List.length_map .., List.length_map ..⟩
  have hml199 : q184.bs.length = q184.ns.length ∧ q184.ns.length ≤ 1048576 := ⟨hok189.ar.ok.len, hok189.ar.ok.lim⟩
  have hql200 := congrArg List.length hqn191.1
  have hthr201 := thr_same hqn152 hthr187
  refine qD rfl (zD (v := (.int .i64 t183)) rfl) ?_
  refine qe (zB ?_)
  refine zZ ?_
  refine zE (zF ?_)
  refine qD rfl (zA (v := (.int .i64 t183)) rfl) ?_
  refine qD rfl (yN rfl rfl) ?_
  refine qD rfl (zD (v := (.bool (decide ((t183 : Int) < 0)))) rfl) ?_
  refine qe (zB ?_)
  refine yE (p := (t183 : Int) < 0) rfl rfl (fun h202 => ?_) (fun h202 => ?_)
  ·skip
   refine zF ?_
   refine qD rfl (zA (v := kv) rfl) ?_
   refine qD rfl (zA (v := (.int .i64 (wl.getD ((wl.length : Int) - 1).toNat 0))) rfl) ?_
   refine qI rfl (yQ (E := eInt) (e := 3) [(.int .i64 (wl.getD ((wl.length : Int) - 1).toNat 0))] [wl.getD ((wl.length : Int) - 1).toNat 0] Tryz.underlying67 sz3 zr3 (by exact xO (by rfl)) (xG (by rfl)) rfl rfl rfl rfl (by decide) hX193.pins (fun u203 w204 ho205 hp206 hl207 hk208 => ?_))
   have hX209 := hX193.step hp206 hl207
   have ho210 := ho194.below hl207
   have ho211 := ho195.below hl207
   have hm212 := hm196.below hl207
   have hpk213 := hpk188.below hl207 hp206
   have ho221 : Own eInt 3 G185 w204 w.heap.size u203 ([wl.getD ((wl.length : Int) - 1).toNat 0]) := ho205.weaken hX193.size
   refine qI rfl (yB (E := eInt) (v := kv) (u := u203) 8 Tryz.underlying67 ap3 (by decide) rfl rfl hX209.pins ho210 ho221.src (by first | omega | (rw [List.nil_append]; omega) | (rw [List.length_nil]; omega) | (rw [List.length_append]; omega) | (simp; done) | (simp; omega) | (simp only [List.length_append, List.length_cons, List.length_nil]; omega)) (by first | omega | (rw [List.nil_append]; omega) | (rw [List.length_nil]; omega) | (rw [List.length_append]; omega) | (simp; done) | (simp; omega) | (simp only [List.length_append, List.length_cons, List.length_nil]; omega)) (hX209.size) (fun u222 w223 ho224 hp225 hg226 hw227 => ?_))
   have hX228 := hX209.write hp225 hg226 ((yI ho210))
   have ho229 := ho211.keptA hg226 ha163
   have hm231 := hm212.kept hg226 (yK hm212 ho210)
   have hpk232 := hpk213.kept hg226 hp225 hnp154
   have ha233 : Apart u159.ownBlock u222.ownBlock := zH ha163 hw227 ho211.lt
   have hnp235 := qT hnp154 hpk213 hw227
   have hm236 : (kept ++ ([wl.getD ((wl.length : Int) - 1).toNat 0])).length = kept.length + 1 := List.length_append
   refine qD rfl (zD (v := u222) rfl) ?_
   refine qe ?_
   refine yA ?_
   refine yA ?_
   refine zY ?_
   have htl : (wl.take ((wl.length : Int) - 1).toNat).length = ((wl.length : Int) - 1).toNat := by rw [List.length_take]; omega
   have hrd2 := (hrd.pop hpm).kept (hsn.no h165) (thr_no hthr201 h202)
   have hcl := hrd2.len
   have hsl : (ss ++ [(wl.getD ((wl.length : Int) - 1).toNat 0)]).length = ss.length + 1 := by rw [List.length_append]; rfl
   refine ⟨_, ?_, _, rfl, _, u159, wl.take ((wl.length : Int) - 1).toNat, u222, kept ++ [(wl.getD ((wl.length : Int) - 1).toNat 0)], putE sn (wl.getD ((wl.length : Int) - 1).toNat 0) true, ss ++ [(wl.getD ((wl.length : Int) - 1).toNat 0)], q184, G185, (zC (x := 9) (zC (x := 8) (zC (x := 7) (zC (x := 6) (zC (x := 2) (zC (x := 1) (zN (x := 0) rfl) rfl) rfl) rfl) rfl) rfl) rfl), rfl, hX228, (Pin.le_trans hlek141 hx192.le), hrd2, hsn.put, (by omega), ho229, ho224, ha233, hm231, hpk232, hok189, (PX.trans hpx151 hpx190), (zT hqn152 hqn191), hnp164, hnp235⟩
   omega
  refine zE (zF ?_)
  refine qD rfl (zA (v := (.bool true)) rfl) ?_
  refine qD rfl (zD (v := (.bool true)) rfl) ?_
  refine qe (zB ?_)
  refine c_ifT rfl rfl ?_
  refine zF ?_
  have hti := thr_info hok67 hpa hthr201 (by omega)
  have hti1 := hti.1.1
  have hti2 := hti.1.2
  have hot := ol_len hok67 (lf := true) hti.1
  have hoe : (q184.ns.getD (t183).toNat default).l = ol q56 true t183 := by rw [(zT hqn152 hqn191).1]; unfold ol; rw [if_pos rfl]
  have hot2 : (q184.ns.getD (t183).toNat default).l.length ≤ 1048576 := by rw [hoe]; exact hot
  have htl0 : (wl.take ((wl.length : Int) - 1).toNat).length = ((wl.length : Int) - 1).toNat := by rw [List.length_take]; omega
  refine qD rfl (zA (v := u159) rfl) ?_
  refine qD rfl (zA (v := (.pointer (some ⟨p, 0, none⟩))) rfl) ?_
  refine qD rfl (yP rfl) ?_
  refine qD rfl (zM (k := 0) rfl Tryz.underlying74 rfl nz68 rfl) ?_
  refine qD rfl (zO (u := L53) ag68 rfl (hpk188.bx.cell (o := 0) rfl)) ?_
  refine qD rfl (zA (v := (.int .i64 t183)) rfl) ?_
  refine qD rfl (zJ Tryz.underlying68 sz67 (v := L53) rfl rfl hpk188.ol.read (by omega) (by omega)) ?_
  obtain ⟨u237, hr238, hl239⟩ := nm_sl (hpk188.ol.at (z := t183) (by omega) (by omega)) (j := (t183).toNat) rfl
  rw [mapl_getD] at hr238
  have hm240 := hr238.max
  refine qD rfl (hl239 ag67 rfl (Gadd.pins hX193.pins L53)) ?_
  refine qI rfl (yB (E := eInt) (v := u159) (u := u237) 8 Tryz.underlying67 ap3 (by decide) rfl rfl hX193.pins ho195 ((hr238.mono (Pin.le_refl _)).src hX193.pins (by decide)) (by first | omega | (rw [List.nil_append]; omega) | (rw [List.length_nil]; omega) | (rw [List.length_append]; omega) | (simp; done) | (simp; omega) | (simp only [List.length_append, List.length_cons, List.length_nil]; omega)) (by first | omega | (rw [List.nil_append]; omega) | (rw [List.length_nil]; omega) | (rw [List.length_append]; omega) | (simp; done) | (simp; omega) | (simp only [List.length_append, List.length_cons, List.length_nil]; omega)) (hX193.size) (fun u241 w242 ho243 hp244 hg245 hw246 => ?_))
  have hX247 := hX193.write hp244 hg245 ((yI ho195))
  have ho248 := ho194.keptA hg245 ha163.symm
  have hm249 := hm196.kept hg245 (yK hm196 ho195)
  have hpk250 := hpk188.kept hg245 hp244 hnp164
  have ha251 : Apart kv.ownBlock u241.ownBlock := zH ha163.symm hw246 ho194.lt
  have hnp252 := qT hnp164 hpk188 hw246
  have hm253 : ((wl.take (((wl.length : Int) - 1).toNat)) ++ ((q184.ns.getD (t183).toNat default).l)).length = (wl.take (((wl.length : Int) - 1).toNat)).length + ((q184.ns.getD (t183).toNat default).l).length := List.length_append
  refine qD rfl (zD (v := u241) rfl) ?_
  refine qe ?_
  refine yA ?_
  refine yA ?_
  refine zY ?_
  have htl : (wl.take ((wl.length : Int) - 1).toNat).length = ((wl.length : Int) - 1).toNat := by rw [List.length_take]; omega
  have hrd2 := (hrd.pop hpm).pass_on hok67 (hsn.no h165) hti.1 hti.2.1 hti.2.2
  have hcl := hrd2.len
  have hsl : (ss ++ [(wl.getD ((wl.length : Int) - 1).toNat 0)]).length = ss.length + 1 := by rw [List.length_append]; rfl
  have hal : ((wl.take (((wl.length : Int) - 1).toNat)) ++ ((q184.ns.getD (t183).toNat default).l)).length = ((wl.length : Int) - 1).toNat + (q184.ns.getD (t183).toNat default).l.length := by rw [List.length_append, htl]
  rw [← hoe] at hrd2
  refine ⟨_, ?_, _, rfl, _, u241, (wl.take (((wl.length : Int) - 1).toNat)) ++ ((q184.ns.getD (t183).toNat default).l), kv, kept, putE sn (wl.getD ((wl.length : Int) - 1).toNat 0) true, ss ++ [(wl.getD ((wl.length : Int) - 1).toNat 0)], q184, G185, (zC (x := 9) (zC (x := 8) (zC (x := 7) (zC (x := 6) (zC (x := 2) (zC (x := 1) (zN (x := 0) rfl) rfl) rfl) rfl) rfl) rfl) rfl), rfl, hX247, (Pin.le_trans hlek141 hx192.le), hrd2, hsn.put, (by omega), ho243, ho248, ha251.symm, hm249, hpk250, hok189, (PX.trans hpx151 hpx190), (zT hqn152 hqn191), hnp252, hnp154⟩
  omega
 refine wp_exit ?_
 refine zX ?_
 refine yL ?_
 refine yF ?_
 refine zB (zE (zF ?_))
 refine qD rfl (zA (v := kv) rfl) ?_
 refine qD rfl (zA (v := (.pointer (some ⟨p, 0, none⟩))) rfl) ?_
 refine qD rfl (zA (v := kv) rfl) ?_
 refine qD rfl (zA (v := (.bool true)) rfl) ?_
 obtain ⟨G254, hle257, hX256, hr255, hf258⟩ := hw146.sealed hX144
 have hpk260 := hpk149.moreO hle257 hf258 hnp154
 refine qI rfl (zP (vs := [(.pointer (some ⟨p, 0, none⟩)), kv, (.bool true)]) Tryz.func164 nm164 rfl rfl rfl ?_)
 refine Calls.mono (idominated_spec hX256.pins hpk260 hok150 (lf := true) hr255 (by omega) (fun i hi => ((hrd.all _ (Or.inr ((hrd.keep _).1 (yG hi)).1)).1).same hqn152)) ?_
 rintro _ w264 ⟨u261, q262, G263, rfl, ho265, hpk266, hok267, hpx268, hqn269, hx270⟩
 refine ⟨_, rfl, ?_⟩
 have hnp271 := hpk260.new (x := u261.ownBlock) (fun k hk => (ho265.lt k hk).1)
 have hX272 := hX256.trans hx270 (fun i hi => (PIn.o hpin66) i hi)
 have hql275 := hpx268.len
 have hml276 : (q262.ns.map Nd.l).length = q262.ns.length ∧ (q262.ns.map Nd.r).length = q262.ns.length := ⟨List.length_map .., List.length_map ..⟩
 have hml277 : q262.bs.length = q262.ns.length ∧ q262.ns.length ≤ 1048576 := ⟨hok267.ar.ok.len, hok267.ar.ok.lim⟩
 have hql278 := congrArg List.length hqn269.1
 have ho280 := ho265.weaken hX256.size
 obtain ⟨G281, hle284, hX283, hr282, hf285⟩ := ho280.sealed hX272
 have hpk287 := hpk266.moreO hle284 hf285 hnp271
 refine qI rfl (zP (vs := [kv, u261]) Tryz.func163 nm163 rfl rfl rfl ?_)
 refine Calls.mono (without_spec hX283.pins (hr255.mono (Pin.le_trans hx270.le hle284)) hr282 (by omega) (dom_pw _) (fun z hz => by obtain ⟨k, _, e, _⟩ := (dom_mem _).1 hz; omega)) ?_
 rintro _ w290 ⟨u288, G289, rfl, ho291, hx292⟩
 refine ⟨_, rfl, ?_⟩
 have hX293 := hX283.tr hx292
 have hpk296 := hpk287.ext hx292
 have hnp298 := hpk287.new (x := u288.ownBlock) (fun k hk => (ho291.lt k hk).1)
 have ho299 : Own eInt 3 G289 w290 w.heap.size u288 (woL kept (domL (gX q140 kept) true kept.length kept.length) kept.length) := ho291.weaken hX283.size
 refine qD rfl (zD (v := u288) rfl) ?_
 refine qe (zB ?_)
 refine wp_ret ?_
 refine zW ?_
 refine zS (v := u288) rfl rfl rfl ?_
 have hwz : wl = [] := List.eq_nil_of_length_eq_zero (by omega)
 rw [hwz] at hrd
 have hre := (re_done hok150 (hrd.same hqn152) (qR hqn152).symm).same hqn269
 have hul := unc_px (PX.trans hpx151 hpx268) N
 exact ⟨u288, _, L53, R54, B55, q262, G289, rfl, hpk296, hok267, (PX.trans (PX.trans hpx68 hpx151) hpx268), PIn.lo hpin66 rfl, hX293, ho299, hnp298, hre, (by have := congrArg List.length ((zT hqn152 hqn269)).1; omega)⟩

end CN2
end Go.Proofs.YtpknebplcmgnkaaGreatDoor

set_option maxRecDepth 20000
set_option maxHeartbeats 2000000
namespace Go.Proofs.YtpknebplcmgnkaaGreatDoor
namespace CN3
open Go.RowKit Go.GL Go.Proofs
open Go.Proofs.YtpknebplcmgnkaaGreatDoor.B1
open Go.Proofs.YtpknebplcmgnkaaGreatDoor.K1
open Go.Proofs.YtpknebplcmgnkaaGreatDoor.PO1
open Go.Proofs.YtpknebplcmgnkaaGreatDoor.PL1
open Go.Proofs.YtpknebplcmgnkaaGreatDoor.DI1
open Go.Proofs.YtpknebplcmgnkaaGreatDoor.RI1
open Go.Proofs.YtpknebplcmgnkaaGreatDoor.CN1













theorem reduced_f {w : World} {G : Pin} {L R B : Value} {q : PSt} {f : Int} {p : Nat} {mm : PM} {N m : Nat} (hP : Pins G w) (hpk : Pk 67 3 G w p L R B mm q) (hok : PoolOk q) (hf : PlaceOk q f) (hfN : f < (N : Int)) (hbud : q.ns.length + unc q N < 1048576) (ih : CanP N m p mm) (hm : f.toNat < m + 1) :
  Calls Tryz.prog 144 [(.pointer (some ⟨p, 0, none⟩)), (.int .i64 f), (.bool false)].toArray w fun e w' => ∃ (u : Value) (zs : List Int) (L' R' B' : Value) (q' : PSt) (G' : Pin), e = .returned u ∧ Pk 67 3 G' w' p L' R' B' mm q' ∧ PoolOk q' ∧ PX q q' ∧ PLo w p L R B mm L' R' B' ∧ Ext (inP p L R B mm) G w G' w' ∧ Own eInt 3 G' w' w.heap.size u zs ∧ NP p L' R' B' mm u.ownBlock ∧ ReOk q' false f zs ∧ q'.ns.length + unc q' N ≤ q.ns.length + unc q N := by
 refine yD (n := 120) Tryz.func144 Tryz.ntmps144 rfl rfl ?_
 have hX0 : Ext (inP p L R B mm) G w G w := Ext.refl hP
 have hpin : PIn w (inP p L R B mm) p L R B mm := PIn.self
 have hml1 : (q.ns.map Nd.l).length = q.ns.length ∧ (q.ns.map Nd.r).length = q.ns.length := ⟨List.length_map .., List.length_map ..⟩
 have hml2 : q.bs.length = q.ns.length ∧ q.ns.length ≤ 1048576 := ⟨hok.ar.ok.len, hok.ar.ok.lim⟩
 have hf0 := hf.1
 have hf1 := hf.2
 have hol0 := ol_len hok (lf := false) hf
 have hol1 : (q.ns.getD (f).toNat default).r.length ≤ 1048576 := hol0
 refine zE (zF ?_)
 refine qD rfl (zD (v := (.slice none 0 0)) rfl) ?_
 refine qe (zB (zE (zF ?_)))
 refine qI rfl (yZ (E := eInt) (e := 3) Tryz.underlying67 sz3 hX0.pins (fun u3 w4 ho5 hp6 hl7 hk8 => ?_))
 have hX9 := hX0.step hp6 hl7
 have hpk10 := hpk.below hl7 hp6
 have ha15 := hpk.new (x := u3.ownBlock) (fun k hk => by rw [hk8] at hk; cases hk; exact Nat.le_refl _)
 have ho16 : Own eInt 3 G w4 w.heap.size u3 ([]) := ho5.weaken hX0.size
 refine qI rfl (jB (fun k : Int => Value.int .i64 k) (fun v : Bool => Value.bool v) hX9.pins (fun m17 w18 hk19 hm20 hp21 hl22 => ?_))
 have hX23 := hX9.step hp21 hl22
 have ho24 := ho16.below hl22
 have hpk25 := hpk10.below hl22 hp21
 have hnp26 := hpk10.new (x := some m17) (fun k hk => by cases hk; omega)
 have hlo27 : w.heap.size ≤ m17 := by have := hX9.size; omega
 refine qI rfl (yZ (E := eInt) (e := 3) Tryz.underlying67 sz3 hX23.pins (fun u28 w29 ho30 hp31 hl32 hk33 => ?_))
 have hX34 := hX23.step hp31 hl32
 have ho35 := ho24.below hl32
 have hm36 := hm20.below hl32
 have hpk37 := hpk25.below hl32 hp31
 have ha38 : Apart u28.ownBlock u3.ownBlock := zK hk33 ho24.lt
 have ha43 := hpk25.new (x := u28.ownBlock) (fun k hk => by rw [hk33] at hk; cases hk; exact Nat.le_refl _)
 have ho44 : Own eInt 3 G w29 w.heap.size u28 ([]) := ho30.weaken hX23.size
 refine qD rfl (zD (v := u3) rfl) ?_
 refine qD rfl (zD (v := (.map (some m17))) rfl) ?_
 refine qD rfl (zD (v := u28) rfl) ?_
 refine qe (zB (zE (zF ?_)))
 refine qD rfl (zA (v := (.pointer (some ⟨p, 0, none⟩))) rfl) ?_
 refine qD rfl (yP rfl) ?_
 refine qD rfl (zM (k := 1) rfl Tryz.underlying74 rfl nz68 rfl) ?_
 refine qD rfl (zO (u := R) ag68 rfl (hpk37.bx.cell (o := 1) rfl)) ?_
 refine qD rfl (zA (v := (.int .i64 f)) rfl) ?_
 refine qD rfl (zJ Tryz.underlying68 sz67 (v := R) rfl rfl hpk37.rr.read (by omega) (by omega)) ?_
 obtain ⟨u45, hr46, hl47⟩ := nm_sl (hpk37.rr.at (z := f) (by omega) (by omega)) (j := (f).toNat) rfl
 rw [mapr_getD] at hr46
 have hm48 := hr46.max
 refine qD rfl (hl47 ag67 rfl (Gadd.pins hX34.pins R)) ?_
 refine qD rfl (zD (v := u45) rfl) ?_
 refine qe (zB (zE (zE (zF ?_))))
 refine qD rfl (zA (v := (.bool false)) rfl) ?_
 refine qe (zB ?_)
 refine qE rfl rfl ?_
 refine wp_skip ?_
 refine zB (zE (zE (zF ?_)))
 refine qD rfl (zA (v := u45) rfl) ?_
 refine qD rfl (zL Tryz.underlying67 (v := u45) rfl hr46) ?_
 refine qD rfl (zA (v := (.int .i64 0)) rfl) ?_
 refine qe (zB ?_)
 refine zZ ?_
 refine yM (fun (k : Nat) (en : Nat → Value) (W : World) => ∃ (env1 : Nat → Value) (j : Nat) (qv : Value) (qs : List Int) (L49 : Value) (R50 : Value) (B51 : Value) (q52 : PSt) (GL1 : Pin), en = (upd (upd (upd (upd (upd (upd (upd (upd (upd (upd env1 0 (.pointer (some ⟨p, 0, none⟩))) 1 (.int .i64 f)) 2 (.bool false)) 6 (.slice none 0 0)) 7 qv) 8 (.map (some m17))) 9 u28) 34 u45) 35 (.int .i64 (((q.ns.getD (f).toNat default).r).length : Int))) 36 (.int .i64 (j : Int))) ∧ k = (q.ns.getD (f).toNat default).r.length - j ∧ Ext (inP p L R B mm) G w GL1 W ∧ Pin.le G GL1 ∧ (j ≤ (q.ns.getD (f).toNat default).r.length) ∧ (QOk q q52 (q.ns.getD (f).toNat default).r qs j) ∧ (q52.ns.length + unc q52 N ≤ q.ns.length + unc q N) ∧ (Own eInt 3 GL1 W w.heap.size qv (qs)) ∧ (Own eInt 3 GL1 W w.heap.size u28 ([])) ∧ (Apart qv.ownBlock u28.ownBlock) ∧ (Mp (fun k : Int => Value.int .i64 k) (fun v : Bool => Value.bool v) W m17 ([])) ∧ (Pk 67 3 GL1 W p L49 R50 B51 mm q52) ∧ (PIn w ((inP p L R B mm)) p L49 R50 B51 mm) ∧ (PoolOk q52) ∧ (PX q q52) ∧ (NP p L49 R50 B51 mm qv.ownBlock) ∧ (NP p L49 R50 B51 mm u28.ownBlock) ∧ (NP p L49 R50 B51 mm (some m17))) _ ⟨_, 0, u3, [], L, R, B, q, G, (zC (x := 36) (zC (x := 35) (zC (x := 34) (zC (x := 9) (zC (x := 8) (zC (x := 7) (zC (x := 6) (zC (x := 2) (zC (x := 1) (zN (x := 0) rfl) rfl) rfl) rfl) rfl) rfl) rfl) rfl) rfl) rfl), rfl, hX34, Pin.le_refl _, Nat.zero_le _, QOk.start, Nat.le_refl _, ho35, ho44, ha38.symm, hm36, hpk37, hpin, hok, (PX.refl _), ha15, ha43, hnp26⟩ ?_
 rintro k53 _ w54 ⟨env1, j, qv, qs, L49, R50, B51, q52, GL1, rfl, hk55, hX56, hlek53, hj, hqo, hbu, hw57, hw58, ha59, hm60, hpk61, hpin62, hok63, hpx64, hnp65, hnp66, hnp67⟩
 have hql68 := hpx64.len
 have hml69 : (q52.ns.map Nd.l).length = q52.ns.length ∧ (q52.ns.map Nd.r).length = q52.ns.length := ⟨List.length_map .., List.length_map ..⟩
 have hml70 : q52.bs.length = q52.ns.length ∧ q52.ns.length ≤ 1048576 := ⟨hok63.ar.ok.len, hok63.ar.ok.lim⟩
 have hql1 := hqo.len
 refine zE (zF ?_)
 refine qD rfl (yN rfl rfl) ?_
 refine qe (zB (zE ?_))
 refine yE (p := ((j : Int) : Int) < (((q.ns.getD (f).toNat default).r).length : Int)) rfl rfl (fun h71 => ?_) (fun h71 => ?_)
 ·skip
  have hmj : (q.ns.getD (f).toNat default).r.getD j 0 ∈ (q.ns.getD (f).toNat default).r := yG (show j < (q.ns.getD (f).toNat default).r.length by omega)
  have hoj := (qY hok hf).2 _ hmj
  have hoj1 := hoj.1
  have hoz := ((xD hok.ar.opts (show (f).toNat < q.ns.length by omega)).2 _ hmj).2
  refine wp_skip ?_
  refine zB (zE ?_)
  refine zZ ?_
  refine zE (zF ?_)
  refine qD rfl (zJ Tryz.underlying67 sz3 (v := u45) rfl rfl hr46 (by omega) (by omega)) ?_
  refine qD rfl (zI (r := ((q.ns.getD (f).toNat default).r).getD j 0) rfl ag3 (z := (j : Int)) rfl hr46 (Pins.of_le hX56.pins hlek53) (by omega) (by omega)) ?_
  refine qD rfl (zD (v := (.int .i64 (((q.ns.getD (f).toNat default).r).getD j 0))) rfl) ?_
  refine qe (zB (zF ?_))
  refine qD rfl (zA (v := qv) rfl) ?_
  refine qD rfl (zA (v := (.pointer (some ⟨p, 0, none⟩))) rfl) ?_
  refine qD rfl (zA (v := (.int .i64 (((q.ns.getD (f).toNat default).r).getD j 0))) rfl) ?_
  refine qI rfl (zP (vs := [(.pointer (some ⟨p, 0, none⟩)), (.int .i64 (((q.ns.getD (f).toNat default).r).getD j 0))]) Tryz.func107 nm107 rfl rfl rfl ?_)
  refine Calls.mono (ih hX56.pins hpk61 hok63 (hpx64.place hoj) (by omega) (by omega) (by omega)) ?_
  rintro _ w82 ⟨z72, L77, R78, B79, q80, G81, rfl, hpk83, hok84, hpx85, hlo86, hx87, hpl73, hcg74, heq75, hbu76⟩
  refine ⟨_, rfl, ?_⟩
  have hX88 := hX56.trans hx87 hpin62
  have ho89 := hw57.extS hx87 hnp65
  have hnp90 := NP.call hnp65 hlo86 (qS hw57)
  have ho91 := hw58.extS hx87 hnp66
  have hnp92 := NP.call hnp66 hlo86 (qS hw58)
  have hm93 := hm60.extS hx87 (NP.notb hnp67)
  have hnp94 := NP.call hnp67 hlo86 (fun j hj => by cases hj; exact hm60.lt)
  have hpin95 := PIn.call hpin62 hlo86 hX56.size
  have hql96 := hpx85.len
  have hml97 : (q80.ns.map Nd.l).length = q80.ns.length ∧ (q80.ns.map Nd.r).length = q80.ns.length := ⟨List.length_map .., List.length_map ..⟩
  have hml98 : q80.bs.length = q80.ns.length ∧ q80.ns.length ≤ 1048576 := ⟨hok84.ar.ok.len, hok84.ar.ok.lim⟩
  refine qI rfl (yQ (E := eInt) (e := 3) [(.int .i64 z72)] [z72] Tryz.underlying67 sz3 zr3 (by exact xO (by rfl)) (xG (by rfl)) rfl rfl rfl rfl (by decide) hX88.pins (fun u99 w100 ho101 hp102 hl103 hk104 => ?_))
  have hX105 := hX88.step hp102 hl103
  have ho106 := ho89.below hl103
  have ho107 := ho91.below hl103
  have hm108 := hm93.below hl103
  have hpk109 := hpk83.below hl103 hp102
  have ho117 : Own eInt 3 G81 w100 w.heap.size u99 ([z72]) := ho101.weaken hX88.size
  refine qI rfl (yB (E := eInt) (v := qv) (u := u99) 8 Tryz.underlying67 ap3 (by decide) rfl rfl hX105.pins ho106 ho117.src (by first | omega | (rw [List.nil_append]; omega) | (rw [List.length_nil]; omega) | (rw [List.length_append]; omega) | (simp; done) | (simp; omega) | (simp only [List.length_append, List.length_cons, List.length_nil]; omega)) (by first | omega | (rw [List.nil_append]; omega) | (rw [List.length_nil]; omega) | (rw [List.length_append]; omega) | (simp; done) | (simp; omega) | (simp only [List.length_append, List.length_cons, List.length_nil]; omega)) (hX105.size) (fun u118 w119 ho120 hp121 hg122 hw123 => ?_))
  have hX124 := hX105.write hp121 hg122 ((yI ho106))
  have ho125 := ho107.keptA hg122 ha59.symm
  have hm127 := hm108.kept hg122 (yK hm108 ho106)
  have hpk128 := hpk109.kept hg122 hp121 hnp90
  have ha129 : Apart u28.ownBlock u118.ownBlock := zH ha59.symm hw123 ho107.lt
  have hnp131 := qT hnp90 hpk109 hw123
  have hm132 : (qs ++ ([z72])).length = qs.length + 1 := List.length_append
  refine qD rfl (zD (v := u118) rfl) ?_
  refine qe ?_
  refine yA ?_
  refine zB (zF ?_)
  refine qD rfl (yJ rfl rfl (by omega)) ?_
  refine qD rfl (zA (v := (.int .i64 ((j : Int) + 1))) rfl) ?_
  refine qe ?_
  refine zY ?_
  refine ⟨_, ?_, _, rfl, _, j + 1, u118, qs ++ ([z72]), L77, R78, B79, q80, G81, (zC (x := 36) (zC (x := 35) (zC (x := 34) (zC (x := 9) (zC (x := 8) (zC (x := 7) (zC (x := 6) (zC (x := 2) (zC (x := 1) (zN (x := 0) rfl) rfl) rfl) rfl) rfl) rfl) rfl) rfl) rfl) rfl), rfl, hX124, (Pin.le_trans hlek53 hx87.le), (by omega), (hqo.step hok hok63 hok84 hpx64 hpx85 hoj hpl73 hcg74 heq75), (by have := hbu76; omega), ho120, ho125, ha129.symm, hm127, hpk128, hpin95, hok84, (PX.trans hpx64 hpx85), hnp131, hnp92, hnp94⟩
  omega
 refine wp_exit ?_
 refine zX ?_
 refine yL ?_
 refine yF ?_
 refine zB (zE ?_)
 refine zZ ?_
 have hjn : j = (q.ns.getD (f).toNat default).r.length := by omega
 rw [hjn] at hqo
 have hrd0 : RdW q52 false (pd q52 f) qs [] [] := by rw [hpx64.pd hok hok63 hf]; exact hqo.rd (lf := false) hok hf (by unfold ol; rw [if_neg Bool.false_ne_true])
 have hq2l := hqo.len
 have hf2 := hpx64.place hf
 refine yM (fun (k : Nat) (en : Nat → Value) (W : World) => ∃ (env1 : Nat → Value) (wv : Value) (wl : List Int) (kv : Value) (kept : List Int) (sn : List (Int × Bool)) (ss : List Int) (q136 : PSt) (GL2 : Pin), en = (upd (upd (upd (upd (upd (upd (upd env1 0 (.pointer (some ⟨p, 0, none⟩))) 1 (.int .i64 f)) 2 (.bool false)) 6 (.slice none 0 0)) 7 wv) 8 (.map (some m17))) 9 kv) ∧ k = (q52.ns.length - ss.length) * 1048577 + wl.length ∧ Ext (inP p L R B mm) G w GL2 W ∧ Pin.le GL1 GL2 ∧ (RdW q52 false (pd q52 f) wl ss kept) ∧ (SnOk sn ss) ∧ (wl.length ≤ 1048576 + 1048576 * ss.length) ∧ (Own eInt 3 GL2 W w.heap.size wv (wl)) ∧ (Own eInt 3 GL2 W w.heap.size kv (kept)) ∧ (Apart wv.ownBlock kv.ownBlock) ∧ (Mp (fun k : Int => Value.int .i64 k) (fun v : Bool => Value.bool v) W m17 (sn)) ∧ (Pk 67 3 GL2 W p L49 R50 B51 mm q136) ∧ (PoolOk q136) ∧ (PX q52 q136) ∧ (q136.ns = q52.ns ∧ q136.bs = q52.bs) ∧ (NP p L49 R50 B51 mm wv.ownBlock) ∧ (NP p L49 R50 B51 mm kv.ownBlock)) _ ⟨_, qv, qs, u28, [], [], [], q52, GL1, (zC (x := 9) (zC (x := 8) (zC (x := 7) (zC (x := 6) (zC (x := 2) (zC (x := 1) (zN (x := 0) rfl) rfl) rfl) rfl) rfl) rfl) rfl), rfl, hX56, Pin.le_refl _, hrd0, SnOk.start, (by simp; omega), hw57, hw58, ha59, hm60, hpk61, hok63, (PX.refl _), ⟨rfl, rfl⟩, hnp65, hnp66⟩ ?_
 rintro k137 _ w138 ⟨env1, wv, wl, kv, kept, sn, ss, q136, GL2, rfl, hk139, hX140, hlek137, hrd, hsn, hwl, hw141, hw142, ha143, hm144, hpk145, hok146, hpx147, hqn148, hnp149, hnp150⟩
 have hql151 := hpx147.len
 have hml152 : (q136.ns.map Nd.l).length = q136.ns.length ∧ (q136.ns.map Nd.r).length = q136.ns.length := ⟨List.length_map .., List.length_map ..⟩
 have hml153 : q136.bs.length = q136.ns.length ∧ q136.ns.length ≤ 1048576 := ⟨hok146.ar.ok.len, hok146.ar.ok.lim⟩
 have hrl := hrd.len
 refine zE (zE (zF ?_))
 refine qD rfl (zA (v := wv) rfl) ?_
 refine qD rfl (zL Tryz.underlying67 (v := wv) rfl hw141.read) ?_
 refine qD rfl (r_gtr rfl rfl) ?_
 refine qe (zB ?_)
 refine yE (p := (0 : Int) < (wl.length : Int)) rfl rfl (fun h154 => ?_) (fun h154 => ?_)
 ·skip
  have hpm : ((wl.length : Int) - 1).toNat + 1 = wl.length := by omega
  have hpa := hrd.at_ hpm
  have hpa1 := hpa.1
  have hpa2 := hpa.2
  refine wp_skip ?_
  refine zB ?_
  refine zZ ?_
  refine zE (zF ?_)
  refine qD rfl (zA (v := wv) rfl) ?_
  refine qD rfl (zA (v := wv) rfl) ?_
  refine qD rfl (zL Tryz.underlying67 (v := wv) rfl hw141.read) ?_
  refine qD rfl (qP rfl rfl (by omega)) ?_
  refine qD rfl (zJ Tryz.underlying67 sz3 (v := wv) rfl rfl hw141.read (by omega) (by omega)) ?_
  refine qD rfl (zI (r := wl.getD ((wl.length : Int) - 1).toNat 0) rfl ag3 (z := ((wl.length : Int) - 1)) rfl hw141.read (Gadd.pins hX140.pins wv) (by omega) (by omega)) ?_
  refine qD rfl (zD (v := (.int .i64 (wl.getD ((wl.length : Int) - 1).toNat 0))) rfl) ?_
  refine qe (zB (zE (zF ?_)))
  refine qD rfl (zA (v := wv) rfl) ?_
  refine qD rfl (zA (v := wv) rfl) ?_
  refine qD rfl (zL Tryz.underlying67 (v := wv) rfl hw141.read) ?_
  refine qD rfl (qP rfl rfl (by omega)) ?_
  obtain ⟨u155, ho156, hb157, hl158⟩ := own_cut hw141 (((wl.length : Int) - 1).toNat) ((wl.length : Int) - 1) (by omega) rfl (by omega) (by omega)
  have ha159 : Apart u155.ownBlock kv.ownBlock := by rw [hb157]; exact ha143
  have hnp160 := (show NP _ _ _ _ _ u155.ownBlock by rw [hb157]; exact hnp149)
  refine qD rfl (hl158 Tryz.underlying67 sz3 rfl rfl rfl) ?_
  refine qD rfl (zD (v := u155) rfl) ?_
  refine qe (zB (zE (zE (zF ?_))))
  refine qD rfl (zA (v := (.map (some m17))) rfl) ?_
  refine qD rfl (zA (v := (.int .i64 (wl.getD ((wl.length : Int) - 1).toNat 0))) rfl) ?_
  refine qD rfl (run_look1_bool (k := (wl.getD ((wl.length : Int) - 1).toNat 0)) (key_int Tryz.underlying3) Tryz.underlying120 zr4 hm144 rfl rfl) ?_
  refine qe (zB ?_)
  refine c_if rfl rfl (fun h161 => ?_) (fun h161 => ?_)
  ·skip
   refine wp_exit ?_
   refine zX ?_
   refine yF ?_
   refine zY ?_
   have htl : (wl.take ((wl.length : Int) - 1).toNat).length = ((wl.length : Int) - 1).toNat := by rw [List.length_take]; omega
   refine ⟨_, ?_, _, rfl, _, u155, wl.take ((wl.length : Int) - 1).toNat, kv, kept, sn, ss, q136, GL2, (zC (x := 9) (zC (x := 8) (zC (x := 7) (zC (x := 6) (zC (x := 2) (zC (x := 1) (zN (x := 0) rfl) rfl) rfl) rfl) rfl) rfl) rfl), rfl, hX140, hlek137, ((hrd.pop hpm).seen (hsn.yes h161)), hsn, (by omega), ho156, hw142, ha159, hm144, hpk145, hok146, hpx147, hqn148, hnp160, hnp150⟩
   omega
  refine wp_skip ?_
  refine zB (zE (zF ?_))
  refine qD rfl (zA (v := (.map (some m17))) rfl) ?_
  refine qD rfl (zA (v := (.int .i64 (wl.getD ((wl.length : Int) - 1).toNat 0))) rfl) ?_
  refine q0 rfl rfl rfl (xV (val := (fun v : Bool => Value.bool v)) (k := (wl.getD ((wl.length : Int) - 1).toNat 0)) (v := true) (key_int Tryz.underlying3) Tryz.underlying120 rfl rfl rfl hX140.pins hm144 (fun w162 hm163 hp164 hg165 hz166 => ?_))
  have hX167 := hX140.write hp164 hg165 ((xJ hlo27))
  have ho168 := hw142.keptA hg165 (yK hm144 hw142).symm
  have ho169 := ho156.keptA hg165 (yK hm144 ho156).symm
  have hpk170 := hpk145.kept hg165 hp164 hnp67
  refine qe (zB (zE (zF ?_)))
  refine qD rfl (zA (v := (.pointer (some ⟨p, 0, none⟩))) rfl) ?_
  refine qD rfl (yP rfl) ?_
  refine qD rfl (zM (k := 0) rfl Tryz.underlying74 rfl nz68 rfl) ?_
  refine qD rfl (zO (u := L49) ag68 rfl (hpk170.bx.cell (o := 0) rfl)) ?_
  refine qD rfl (zA (v := (.int .i64 (wl.getD ((wl.length : Int) - 1).toNat 0))) rfl) ?_
  refine qD rfl (zJ Tryz.underlying68 sz67 (v := L49) rfl rfl hpk170.ol.read (by omega) (by omega)) ?_
  obtain ⟨u171, hr172, hl173⟩ := nm_sl (hpk170.ol.at (z := (wl.getD ((wl.length : Int) - 1).toNat 0)) (by omega) (by omega)) (j := (wl.getD ((wl.length : Int) - 1).toNat 0).toNat) rfl
  rw [mapl_getD] at hr172
  have hm174 := hr172.max
  refine qD rfl (hl173 ag67 rfl (Gadd.pins hX167.pins L49)) ?_
  refine qD rfl (zD (v := u171) rfl) ?_
  refine qe (zB (zE (zE (zF ?_))))
  refine qD rfl (zA (v := (.bool false)) rfl) ?_
  refine qe (zB ?_)
  refine qE rfl rfl ?_
  refine wp_skip ?_
  refine zB (zE (zF ?_))
  refine qD rfl (zA (v := (.pointer (some ⟨p, 0, none⟩))) rfl) ?_
  refine qD rfl (zA (v := (.int .i64 f)) rfl) ?_
  refine qD rfl (zA (v := (.int .i64 (wl.getD ((wl.length : Int) - 1).toNat 0))) rfl) ?_
  refine qD rfl (zA (v := (.bool false)) rfl) ?_
  refine qD rfl (zA (v := u171) rfl) ?_
  refine qI rfl (zP (vs := [(.pointer (some ⟨p, 0, none⟩)), (.int .i64 f), (.int .i64 (wl.getD ((wl.length : Int) - 1).toNat 0)), (.bool false), u171]) Tryz.func162 nm162 rfl rfl rfl ?_)
  refine Calls.mono (through_spec hX167.pins hpk170 hok146 (lf := false) (hf2.same hqn148) (hpa.same hqn148) hr172 (by rw [if_neg Bool.false_ne_true]) (qY hok146 (hpa.same hqn148)).1) ?_
  rintro _ w178 ⟨t175, q176, G177, rfl, hthr179, hpk180, hok181, hpx182, hqn183, hx184⟩
  refine ⟨_, rfl, ?_⟩
  have hX185 := hX167.trans hx184 (fun i hi => (PIn.o hpin62) i hi)
  have ho186 := ho168.extS hx184 (notO (NP.ho hnp150))
  have ho187 := ho169.extS hx184 (notO (NP.ho hnp160))
  have hm188 := hm163.extS hx184 (qG (NP.ho hnp67))
  have hql189 := hpx182.len
  have hml190 : (q176.ns.map Nd.l).length = q176.ns.length ∧ (q176.ns.map Nd.r).length = q176.ns.length := ⟨List.length_map .., List.length_map ..⟩
  have hml191 : q176.bs.length = q176.ns.length ∧ q176.ns.length ≤ 1048576 := ⟨hok181.ar.ok.len, hok181.ar.ok.lim⟩
  have hql192 := congrArg List.length hqn183.1
  have hthr193 := thr_same hqn148 hthr179
  refine qD rfl (zD (v := (.int .i64 t175)) rfl) ?_
  refine qe (zB ?_)
  refine zZ ?_
  refine zE (zF ?_)
  refine qD rfl (zA (v := (.int .i64 t175)) rfl) ?_
  refine qD rfl (yN rfl rfl) ?_
  refine qD rfl (zD (v := (.bool (decide ((t175 : Int) < 0)))) rfl) ?_
  refine qe (zB ?_)
  refine yE (p := (t175 : Int) < 0) rfl rfl (fun h194 => ?_) (fun h194 => ?_)
  ·skip
   refine zF ?_
   refine qD rfl (zA (v := kv) rfl) ?_
   refine qD rfl (zA (v := (.int .i64 (wl.getD ((wl.length : Int) - 1).toNat 0))) rfl) ?_
   refine qI rfl (yQ (E := eInt) (e := 3) [(.int .i64 (wl.getD ((wl.length : Int) - 1).toNat 0))] [wl.getD ((wl.length : Int) - 1).toNat 0] Tryz.underlying67 sz3 zr3 (by exact xO (by rfl)) (xG (by rfl)) rfl rfl rfl rfl (by decide) hX185.pins (fun u195 w196 ho197 hp198 hl199 hk200 => ?_))
   have hX201 := hX185.step hp198 hl199
   have ho202 := ho186.below hl199
   have ho203 := ho187.below hl199
   have hm204 := hm188.below hl199
   have hpk205 := hpk180.below hl199 hp198
   have ho213 : Own eInt 3 G177 w196 w.heap.size u195 ([wl.getD ((wl.length : Int) - 1).toNat 0]) := ho197.weaken hX185.size
   refine qI rfl (yB (E := eInt) (v := kv) (u := u195) 8 Tryz.underlying67 ap3 (by decide) rfl rfl hX201.pins ho202 ho213.src (by first | omega | (rw [List.nil_append]; omega) | (rw [List.length_nil]; omega) | (rw [List.length_append]; omega) | (simp; done) | (simp; omega) | (simp only [List.length_append, List.length_cons, List.length_nil]; omega)) (by first | omega | (rw [List.nil_append]; omega) | (rw [List.length_nil]; omega) | (rw [List.length_append]; omega) | (simp; done) | (simp; omega) | (simp only [List.length_append, List.length_cons, List.length_nil]; omega)) (hX201.size) (fun u214 w215 ho216 hp217 hg218 hw219 => ?_))
   have hX220 := hX201.write hp217 hg218 ((yI ho202))
   have ho221 := ho203.keptA hg218 ha159
   have hm223 := hm204.kept hg218 (yK hm204 ho202)
   have hpk224 := hpk205.kept hg218 hp217 hnp150
   have ha225 : Apart u155.ownBlock u214.ownBlock := zH ha159 hw219 ho203.lt
   have hnp227 := qT hnp150 hpk205 hw219
   have hm228 : (kept ++ ([wl.getD ((wl.length : Int) - 1).toNat 0])).length = kept.length + 1 := List.length_append
   refine qD rfl (zD (v := u214) rfl) ?_
   refine qe ?_
   refine yA ?_
   refine yA ?_
   refine zY ?_
   have htl : (wl.take ((wl.length : Int) - 1).toNat).length = ((wl.length : Int) - 1).toNat := by rw [List.length_take]; omega
   have hrd2 := (hrd.pop hpm).kept (hsn.no h161) (thr_no hthr193 h194)
   have hcl := hrd2.len
   have hsl : (ss ++ [(wl.getD ((wl.length : Int) - 1).toNat 0)]).length = ss.length + 1 := by rw [List.length_append]; rfl
   refine ⟨_, ?_, _, rfl, _, u155, wl.take ((wl.length : Int) - 1).toNat, u214, kept ++ [(wl.getD ((wl.length : Int) - 1).toNat 0)], putE sn (wl.getD ((wl.length : Int) - 1).toNat 0) true, ss ++ [(wl.getD ((wl.length : Int) - 1).toNat 0)], q176, G177, (zC (x := 9) (zC (x := 8) (zC (x := 7) (zC (x := 6) (zC (x := 2) (zC (x := 1) (zN (x := 0) rfl) rfl) rfl) rfl) rfl) rfl) rfl), rfl, hX220, (Pin.le_trans hlek137 hx184.le), hrd2, hsn.put, (by omega), ho221, ho216, ha225, hm223, hpk224, hok181, (PX.trans hpx147 hpx182), (zT hqn148 hqn183), hnp160, hnp227⟩
   omega
  refine zE (zF ?_)
  refine qD rfl (zA (v := (.bool false)) rfl) ?_
  refine qD rfl (zD (v := (.bool false)) rfl) ?_
  refine qe (zB ?_)
  refine qE rfl rfl ?_
  refine zF ?_
  have hti := thr_info hok63 hpa hthr193 (by omega)
  have hti1 := hti.1.1
  have hti2 := hti.1.2
  have hot := ol_len hok63 (lf := false) hti.1
  have hoe : (q176.ns.getD (t175).toNat default).r = ol q52 false t175 := by rw [(zT hqn148 hqn183).1]; unfold ol; rw [if_neg Bool.false_ne_true]
  have hot2 : (q176.ns.getD (t175).toNat default).r.length ≤ 1048576 := by rw [hoe]; exact hot
  have htl0 : (wl.take ((wl.length : Int) - 1).toNat).length = ((wl.length : Int) - 1).toNat := by rw [List.length_take]; omega
  refine qD rfl (zA (v := u155) rfl) ?_
  refine qD rfl (zA (v := (.pointer (some ⟨p, 0, none⟩))) rfl) ?_
  refine qD rfl (yP rfl) ?_
  refine qD rfl (zM (k := 1) rfl Tryz.underlying74 rfl nz68 rfl) ?_
  refine qD rfl (zO (u := R50) ag68 rfl (hpk180.bx.cell (o := 1) rfl)) ?_
  refine qD rfl (zA (v := (.int .i64 t175)) rfl) ?_
  refine qD rfl (zJ Tryz.underlying68 sz67 (v := R50) rfl rfl hpk180.rr.read (by omega) (by omega)) ?_
  obtain ⟨u229, hr230, hl231⟩ := nm_sl (hpk180.rr.at (z := t175) (by omega) (by omega)) (j := (t175).toNat) rfl
  rw [mapr_getD] at hr230
  have hm232 := hr230.max
  refine qD rfl (hl231 ag67 rfl (Gadd.pins hX185.pins R50)) ?_
  refine qI rfl (yB (E := eInt) (v := u155) (u := u229) 8 Tryz.underlying67 ap3 (by decide) rfl rfl hX185.pins ho187 ((hr230.mono (Pin.le_refl _)).src hX185.pins (by decide)) (by first | omega | (rw [List.nil_append]; omega) | (rw [List.length_nil]; omega) | (rw [List.length_append]; omega) | (simp; done) | (simp; omega) | (simp only [List.length_append, List.length_cons, List.length_nil]; omega)) (by first | omega | (rw [List.nil_append]; omega) | (rw [List.length_nil]; omega) | (rw [List.length_append]; omega) | (simp; done) | (simp; omega) | (simp only [List.length_append, List.length_cons, List.length_nil]; omega)) (hX185.size) (fun u233 w234 ho235 hp236 hg237 hw238 => ?_))
  have hX239 := hX185.write hp236 hg237 ((yI ho187))
  have ho240 := ho186.keptA hg237 ha159.symm
  have hm241 := hm188.kept hg237 (yK hm188 ho187)
  have hpk242 := hpk180.kept hg237 hp236 hnp160
  have ha243 : Apart kv.ownBlock u233.ownBlock := zH ha159.symm hw238 ho186.lt
  have hnp244 := qT hnp160 hpk180 hw238
  have hm245 : ((wl.take (((wl.length : Int) - 1).toNat)) ++ ((q176.ns.getD (t175).toNat default).r)).length = (wl.take (((wl.length : Int) - 1).toNat)).length + ((q176.ns.getD (t175).toNat default).r).length := List.length_append
  refine qD rfl (zD (v := u233) rfl) ?_
  refine qe ?_
  refine yA ?_
  refine yA ?_
  refine zY ?_
  have htl : (wl.take ((wl.length : Int) - 1).toNat).length = ((wl.length : Int) - 1).toNat := by rw [List.length_take]; omega
  have hrd2 := (hrd.pop hpm).pass_on hok63 (hsn.no h161) hti.1 hti.2.1 hti.2.2
  have hcl := hrd2.len
  have hsl : (ss ++ [(wl.getD ((wl.length : Int) - 1).toNat 0)]).length = ss.length + 1 := by rw [List.length_append]; rfl
  have hal : ((wl.take (((wl.length : Int) - 1).toNat)) ++ ((q176.ns.getD (t175).toNat default).r)).length = ((wl.length : Int) - 1).toNat + (q176.ns.getD (t175).toNat default).r.length := by rw [List.length_append, htl]
  rw [← hoe] at hrd2
  refine ⟨_, ?_, _, rfl, _, u233, (wl.take (((wl.length : Int) - 1).toNat)) ++ ((q176.ns.getD (t175).toNat default).r), kv, kept, putE sn (wl.getD ((wl.length : Int) - 1).toNat 0) true, ss ++ [(wl.getD ((wl.length : Int) - 1).toNat 0)], q176, G177, (zC (x := 9) (zC (x := 8) (zC (x := 7) (zC (x := 6) (zC (x := 2) (zC (x := 1) (zN (x := 0) rfl) rfl) rfl) rfl) rfl) rfl) rfl), rfl, hX239, (Pin.le_trans hlek137 hx184.le), hrd2, hsn.put, (by omega), ho235, ho240, ha243.symm, hm241, hpk242, hok181, (PX.trans hpx147 hpx182), (zT hqn148 hqn183), hnp244, hnp150⟩
  omega
 refine wp_exit ?_
 refine zX ?_
 refine yL ?_
 refine yF ?_
 refine zB (zE (zF ?_))
 refine qD rfl (zA (v := kv) rfl) ?_
 refine qD rfl (zA (v := (.pointer (some ⟨p, 0, none⟩))) rfl) ?_
 refine qD rfl (zA (v := kv) rfl) ?_
 refine qD rfl (zA (v := (.bool false)) rfl) ?_
 obtain ⟨G246, hle249, hX248, hr247, hf250⟩ := hw142.sealed hX140
 have hpk252 := hpk145.moreO hle249 hf250 hnp150
 refine qI rfl (zP (vs := [(.pointer (some ⟨p, 0, none⟩)), kv, (.bool false)]) Tryz.func164 nm164 rfl rfl rfl ?_)
 refine Calls.mono (idominated_spec hX248.pins hpk252 hok146 (lf := false) hr247 (by omega) (fun i hi => ((hrd.all _ (Or.inr ((hrd.keep _).1 (yG hi)).1)).1).same hqn148)) ?_
 rintro _ w256 ⟨u253, q254, G255, rfl, ho257, hpk258, hok259, hpx260, hqn261, hx262⟩
 refine ⟨_, rfl, ?_⟩
 have hnp263 := hpk252.new (x := u253.ownBlock) (fun k hk => (ho257.lt k hk).1)
 have hX264 := hX248.trans hx262 (fun i hi => (PIn.o hpin62) i hi)
 have hql267 := hpx260.len
 have hml268 : (q254.ns.map Nd.l).length = q254.ns.length ∧ (q254.ns.map Nd.r).length = q254.ns.length := ⟨List.length_map .., List.length_map ..⟩
 have hml269 : q254.bs.length = q254.ns.length ∧ q254.ns.length ≤ 1048576 := ⟨hok259.ar.ok.len, hok259.ar.ok.lim⟩
 have hql270 := congrArg List.length hqn261.1
 have ho272 := ho257.weaken hX248.size
 obtain ⟨G273, hle276, hX275, hr274, hf277⟩ := ho272.sealed hX264
 have hpk279 := hpk258.moreO hle276 hf277 hnp263
 refine qI rfl (zP (vs := [kv, u253]) Tryz.func163 nm163 rfl rfl rfl ?_)
 refine Calls.mono (without_spec hX275.pins (hr247.mono (Pin.le_trans hx262.le hle276)) hr274 (by omega) (dom_pw _) (fun z hz => by obtain ⟨k, _, e, _⟩ := (dom_mem _).1 hz; omega)) ?_
 rintro _ w282 ⟨u280, G281, rfl, ho283, hx284⟩
 refine ⟨_, rfl, ?_⟩
 have hX285 := hX275.tr hx284
 have hpk288 := hpk279.ext hx284
 have hnp290 := hpk279.new (x := u280.ownBlock) (fun k hk => (ho283.lt k hk).1)
 have ho291 : Own eInt 3 G281 w282 w.heap.size u280 (woL kept (domL (gX q136 kept) false kept.length kept.length) kept.length) := ho283.weaken hX275.size
 refine qD rfl (zD (v := u280) rfl) ?_
 refine qe (zB ?_)
 refine wp_ret ?_
 refine zW ?_
 refine zS (v := u280) rfl rfl rfl ?_
 have hwz : wl = [] := List.eq_nil_of_length_eq_zero (by omega)
 rw [hwz] at hrd
 have hre := (re_done hok146 (hrd.same hqn148) (qR hqn148).symm).same hqn261
 have hul := unc_px (PX.trans hpx147 hpx260) N
 exact ⟨u280, _, L49, R50, B51, q254, G281, rfl, hpk288, hok259, (PX.trans (PX.trans hpx64 hpx147) hpx260), PIn.lo hpin62 rfl, hX285, ho291, hnp290, hre, (by have := congrArg List.length ((zT hqn148 hqn261)).1; omega)⟩

end CN3
end Go.Proofs.YtpknebplcmgnkaaGreatDoor

set_option maxRecDepth 20000
set_option maxHeartbeats 2000000
namespace Go.Proofs.YtpknebplcmgnkaaGreatDoor
namespace CN4
open Go.RowKit Go.GL Go.Proofs
open Go.Proofs.YtpknebplcmgnkaaGreatDoor.B1
open Go.Proofs.YtpknebplcmgnkaaGreatDoor.K1
open Go.Proofs.YtpknebplcmgnkaaGreatDoor.PO1
open Go.Proofs.YtpknebplcmgnkaaGreatDoor.PL1
open Go.Proofs.YtpknebplcmgnkaaGreatDoor.DI1
open Go.Proofs.YtpknebplcmgnkaaGreatDoor.RI1
open Go.Proofs.YtpknebplcmgnkaaGreatDoor.CN1
open Go.Proofs.YtpknebplcmgnkaaGreatDoor.CN2
open Go.Proofs.YtpknebplcmgnkaaGreatDoor.CN3





theorem canon_step {w : World} {G : Pin} {L R B : Value} {q : PSt} {f : Int} {p : Nat} {mm : PM} {N m : Nat} (hP : Pins G w) (hpk : Pk 67 3 G w p L R B mm q) (hok : PoolOk q) (hf : PlaceOk q f) (hfN : f < (N : Int)) (hbud : q.ns.length + unc q N < 1048576) (ih : CanP N m p mm) (hm : f.toNat < m + 1) :
  Calls Tryz.prog 107 [(.pointer (some ⟨p, 0, none⟩)), (.int .i64 f)].toArray w fun e w' => ∃ (z : Int) (L' R' B' : Value) (q' : PSt) (G' : Pin), e = .returned (.int .i64 z) ∧ Pk 67 3 G' w' p L' R' B' mm q' ∧ PoolOk q' ∧ PX q q' ∧ PLo w p L R B mm L' R' B' ∧ Ext (inP p L R B mm) G w G' w' ∧ PlaceOk q' z ∧ CanonG (pd q' z) ∧ eqG (pd q' z) (pd q' f) ∧ q'.ns.length + unc q' N ≤ q.ns.length + unc q N := by
 refine yD (n := 40) Tryz.func107 Tryz.ntmps107 rfl rfl ?_
 have hX0 : Ext (inP p L R B mm) G w G w := Ext.refl hP
 have hpin : PIn w (inP p L R B mm) p L R B mm := PIn.self
 have hml1 : (q.ns.map Nd.l).length = q.ns.length ∧ (q.ns.map Nd.r).length = q.ns.length := ⟨List.length_map .., List.length_map ..⟩
 have hml2 : q.bs.length = q.ns.length ∧ q.ns.length ≤ 1048576 := ⟨hok.ar.ok.len, hok.ar.ok.lim⟩
 have hf0 := hf.1
 have hf1 := hf.2
 refine zE (zF ?_)
 refine qD rfl (zD (v := (.int .i64 0)) rfl) ?_
 refine qe (zB (zE (zE (zF ?_))))
 refine qD rfl (zA (v := (.pointer (some ⟨p, 0, none⟩))) rfl) ?_
 refine qD rfl (yP rfl) ?_
 refine qD rfl (zM (k := 5) rfl Tryz.underlying74 rfl nz71 rfl) ?_
 refine qD rfl (zO (u := (.map (some mm.c))) ag71 rfl (hpk.bx.cell (o := 5) rfl)) ?_
 refine qD rfl (zA (v := (.int .i64 f)) rfl) ?_
 refine qD rfl (run_lookv_int (k := f) (key_int Tryz.underlying3) Tryz.underlying71 zr3 hpk.fc rfl rfl) ?_
 refine qD rfl (zA (v := (.tuple #[(.int .i64 ((Go.GL.look q.cm f).getD 0)), (.bool ((Go.GL.look q.cm f).isSome))])) rfl) ?_
 refine qD rfl (qA (v := (.int .i64 ((Go.GL.look q.cm f).getD 0))) rfl rfl) ?_
 refine qD rfl (qA (v := (.bool ((Go.GL.look q.cm f).isSome))) rfl rfl) ?_
 refine qD rfl (zD (v := (.int .i64 ((Go.GL.look q.cm f).getD 0))) rfl) ?_
 refine qD rfl (zD (v := (.bool ((Go.GL.look q.cm f).isSome))) rfl) ?_
 refine qe (zB (zE (zF ?_)))
 refine qD rfl (zA (v := (.bool ((Go.GL.look q.cm f).isSome))) rfl) ?_
 refine qe (zB ?_)
 refine c_if rfl rfl (fun h3 => ?_) (fun h3 => ?_)
 ·skip
  refine zE (zF ?_)
  refine qD rfl (zA (v := (.int .i64 ((Go.GL.look q.cm f).getD 0))) rfl) ?_
  refine qD rfl (zD (v := (.int .i64 ((Go.GL.look q.cm f).getD 0))) rfl) ?_
  refine qe (zB ?_)
  refine wp_ret ?_
  refine zW ?_
  refine zS (v := (.int .i64 ((Go.GL.look q.cm f).getD 0))) rfl rfl rfl ?_
  obtain ⟨z, hz⟩ := Option.isSome_iff_exists.1 h3
  obtain ⟨_, f1, f2, f3⟩ := hok.can f z hz
  rw [hz]
  exact ⟨z, L, R, B, q, G, rfl, hpk, hok, (PX.refl _), PIn.lo hpin rfl, hX0, f1, f2, f3, Nat.le_refl _⟩
 refine wp_skip ?_
 refine zB (zE (zF ?_))
 refine qD rfl (zA (v := (.pointer (some ⟨p, 0, none⟩))) rfl) ?_
 refine qD rfl (zA (v := (.pointer (some ⟨p, 0, none⟩))) rfl) ?_
 refine qD rfl (zA (v := (.int .i64 f)) rfl) ?_
 refine qI rfl (zP (vs := [(.pointer (some ⟨p, 0, none⟩)), (.int .i64 f), (.bool true)]) Tryz.func144 nm144 rfl rfl rfl ?_)
 refine Calls.mono (reduced_t (N := N) (m := m) hX0.pins hpk hok ((PX.refl _).place hf) hfN (by omega) ih hm) ?_
 rintro _ w11 ⟨u4, zs5, L6, R7, B8, q9, G10, rfl, hpk13, hok14, hpx15, hlo16, hx17, ho12, hnp19, hre18, hbu20⟩
 refine ⟨_, rfl, ?_⟩
 have hX21 := hX0.trans hx17 hpin
 have hpin22 := PIn.call hpin hlo16 hX0.size
 have hql23 := hpx15.len
 have hml24 : (q9.ns.map Nd.l).length = q9.ns.length ∧ (q9.ns.map Nd.r).length = q9.ns.length := ⟨List.length_map .., List.length_map ..⟩
 have hml25 : q9.bs.length = q9.ns.length ∧ q9.ns.length ≤ 1048576 := ⟨hok14.ar.ok.len, hok14.ar.ok.lim⟩
 have ho26 := ho12.weaken hX0.size
 have hzl27 := hre18.len
 refine qD rfl (zA (v := (.pointer (some ⟨p, 0, none⟩))) rfl) ?_
 refine qD rfl (zA (v := (.int .i64 f)) rfl) ?_
 refine qI rfl (zP (vs := [(.pointer (some ⟨p, 0, none⟩)), (.int .i64 f), (.bool false)]) Tryz.func144 nm144 rfl rfl rfl ?_)
 refine Calls.mono (reduced_f (N := N) (m := m) hX21.pins hpk13 hok14 (hpx15.place hf) hfN (by omega) ih hm) ?_
 rintro _ w35 ⟨u28, zs29, L30, R31, B32, q33, G34, rfl, hpk37, hok38, hpx39, hlo40, hx41, ho36, hnp43, hre42, hbu44⟩
 refine ⟨_, rfl, ?_⟩
 have hX45 := hX21.trans hx41 hpin22
 have ho46 := ho26.extS hx41 hnp19
 have hnp47 := NP.call hnp19 hlo40 (qS ho26)
 have hpin48 := PIn.call hpin22 hlo40 hX21.size
 have hql49 := hpx39.len
 have hml50 : (q33.ns.map Nd.l).length = q33.ns.length ∧ (q33.ns.map Nd.r).length = q33.ns.length := ⟨List.length_map .., List.length_map ..⟩
 have hml51 : q33.bs.length = q33.ns.length ∧ q33.ns.length ≤ 1048576 := ⟨hok38.ar.ok.len, hok38.ar.ok.lim⟩
 have ha52 : Apart u28.ownBlock u4.ownBlock := zU ho36.lt ho26.lt
 have ho53 := ho36.weaken hX21.size
 have hzl54 := hre42.len
 obtain ⟨G55, hle58, hX57, hr56, hf59⟩ := ho46.sealed hX45
 have ho60 := ho53.moreO hle58 hf59 ha52
 have hpk61 := hpk37.moreO hle58 hf59 hnp47
 obtain ⟨G62, hle65, hX64, hr63, hf66⟩ := ho60.sealed hX57
 have hpk67 := hpk61.moreO hle65 hf66 hnp43
 have hr1 := hre18.px (hpx15.place hf) hpx39 hok14 hok38
 have hr2 := hre42
 refine qI rfl (zP (vs := [(.pointer (some ⟨p, 0, none⟩)), u4, u28]) Tryz.func87 nm87 rfl rfl rfl ?_)
 refine Calls.mono (node_spec hX64.pins hpk67 hok38 (hr56.mono hle65) hr63 (by omega) ⟨hr1.len, hr2.len⟩ (jA hr1.pl) (jA hr2.pl)) ?_
 rintro _ w78 ⟨z68, L73, R74, B75, q76, G77, rfl, hpk79, hok80, hpx81, hlo82, hx83, hpl69, hpd70, hqn71, hcm72⟩
 refine ⟨_, rfl, ?_⟩
 have hX84 := hX64.trans hx83 hpin48
 have hpin85 := PIn.call hpin48 hlo82 hX64.size
 have hql86 := hpx81.len
 have hml87 : (q76.ns.map Nd.l).length = q76.ns.length ∧ (q76.ns.map Nd.r).length = q76.ns.length := ⟨List.length_map .., List.length_map ..⟩
 have hml88 : q76.bs.length = q76.ns.length ∧ q76.ns.length ≤ 1048576 := ⟨hok80.ar.ok.len, hok80.ar.ok.lim⟩
 have hcd := canon_done hr1 hr2 hpd70
 have hf3 := (PX.trans hpx15 hpx39).place hf
 have hf4 := hpx81.place hf3
 have hcd2 : eqG (pd q76 z68) (pd q76 f) := by rw [hpx81.pd hok38 hok80 hf3]; exact hcd.2
 have hgrow : q76.ns.length + unc { q76 with cm := putE q76.cm f z68 } N ≤ q33.ns.length + unc q33 N := by
  cases hlf : Go.GL.look q33.cm f with
  | none =>
   have h1 := unc_put (q := q76) (z := z68) hf.1 (by rw [hcm72.1]; exact hlf) N hfN
   have h2 := unc_px hpx81 N
   have := hqn71
   omega
  | some y =>
   obtain ⟨_, h2, h3, h4⟩ := hok38.can f y hlf
   have h5 : pd q76 y = pd q76 z68 := by
    rw [hpx81.pd hok38 hok80 h2]
    exact canon_unique h3 hcd.1 ⟨xR h4.1 hcd.2.2, xR hcd.2.1 h4.2⟩
   have h6 := hpx81.place h2
   have h7 := h2.1; have h8 := h2.2; have h9 := h6.2; have h10 := hpl69.1; have h11 := hpl69.2
   have h12 := hok80.ar.inj (i := y.toNat) (j := z68.toNat) (by omega) (by omega) h5
   have h13 := unc_px (PX.trans hpx81 (PX.put (q := q76) (a := f) (z := z68))) N
   rcases hcm72.2 with h14 | h14 <;> omega
 refine qD rfl (zD (v := (.int .i64 z68)) rfl) ?_
 refine qe (zB (zE (zF ?_)))
 refine qD rfl (zA (v := (.pointer (some ⟨p, 0, none⟩))) rfl) ?_
 refine qD rfl (yP rfl) ?_
 refine qD rfl (zM (k := 5) rfl Tryz.underlying74 rfl nz71 rfl) ?_
 refine qD rfl (zO (u := (.map (some mm.c))) ag71 rfl (hpk79.bx.cell (o := 5) rfl)) ?_
 refine qD rfl (zA (v := (.int .i64 f)) rfl) ?_
 refine qD rfl (zA (v := (.int .i64 z68)) rfl) ?_
 refine q0 rfl rfl rfl (xV (val := (fun v : Int => Value.int .i64 v)) (k := f) (v := z68) (key_int Tryz.underlying3) Tryz.underlying71 rfl rfl rfl hX84.pins hpk79.fc (fun w89 hm90 hp91 hg92 hz93 => ?_))
 have hX95 := hX84.trans (Ext.one hp91 hg92) (fun i hi => (PIn.c hpin85) i hi)
 have hpk94 := hpk79.setC (Ext.one hp91 hg92) hm90
 have hok98 := PoolOk.setC hok80 (hf4.same ⟨rfl, rfl⟩) (hpl69.same ⟨rfl, rfl⟩) (by rw [qR ⟨rfl, rfl⟩]; exact hcd.1) (by rw [qR ⟨rfl, rfl⟩, qR ⟨rfl, rfl⟩]; exact hcd2)
 obtain ⟨q96, hq97⟩ : ∃ q, q = ({ q76 with cm := putE q76.cm f z68 } : PSt) := ⟨_, rfl⟩
 rw [← hq97] at hpk94 hok98
 have hq97n : q96.ns = q76.ns ∧ q96.bs = q76.bs := by rw [hq97]; exact ⟨rfl, rfl⟩
 have hq97x : PX q76 q96 := by rw [hq97]; exact PX.put
 have hml99 : (q96.ns.map Nd.l).length = q96.ns.length ∧ (q96.ns.map Nd.r).length = q96.ns.length := ⟨List.length_map .., List.length_map ..⟩
 have hml100 : q96.bs.length = q96.ns.length ∧ q96.ns.length ≤ 1048576 := ⟨hok98.ar.ok.len, hok98.ar.ok.lim⟩
 have hql101 := hq97x.len
 refine qe (zB (zE (zF ?_)))
 refine qD rfl (zA (v := (.pointer (some ⟨p, 0, none⟩))) rfl) ?_
 refine qD rfl (yP rfl) ?_
 refine qD rfl (zM (k := 5) rfl Tryz.underlying74 rfl nz71 rfl) ?_
 refine qD rfl (zO (u := (.map (some mm.c))) ag71 rfl (hpk94.bx.cell (o := 5) rfl)) ?_
 refine qD rfl (zA (v := (.int .i64 z68)) rfl) ?_
 refine qD rfl (zA (v := (.int .i64 z68)) rfl) ?_
 refine q0 rfl rfl rfl (xV (val := (fun v : Int => Value.int .i64 v)) (k := z68) (v := z68) (key_int Tryz.underlying3) Tryz.underlying71 rfl rfl rfl hX95.pins hpk94.fc (fun w102 hm103 hp104 hg105 hz106 => ?_))
 have hX108 := hX95.trans (Ext.one hp104 hg105) (fun i hi => (PIn.c hpin85) i hi)
 have hpk107 := hpk94.setC (Ext.one hp104 hg105) hm103
 have hok111 := PoolOk.setC hok98 (hpl69.same hq97n) (hpl69.same hq97n) (by rw [qR hq97n]; exact hcd.1) ⟨ge_refl _, ge_refl _⟩
 obtain ⟨q109, hq110⟩ : ∃ q, q = ({ q96 with cm := putE q96.cm z68 z68 } : PSt) := ⟨_, rfl⟩
 rw [← hq110] at hpk107 hok111
 have hq110n : q109.ns = q96.ns ∧ q109.bs = q96.bs := by rw [hq110]; exact ⟨rfl, rfl⟩
 have hq110x : PX q96 q109 := by rw [hq110]; exact PX.put
 have hml112 : (q109.ns.map Nd.l).length = q109.ns.length ∧ (q109.ns.map Nd.r).length = q109.ns.length := ⟨List.length_map .., List.length_map ..⟩
 have hml113 : q109.bs.length = q109.ns.length ∧ q109.ns.length ≤ 1048576 := ⟨hok111.ar.ok.len, hok111.ar.ok.lim⟩
 have hql114 := hq110x.len
 refine qe (zB (zE (zF ?_)))
 refine qD rfl (zA (v := (.int .i64 z68)) rfl) ?_
 refine qD rfl (zD (v := (.int .i64 z68)) rfl) ?_
 refine qe (zB ?_)
 refine wp_ret ?_
 refine zW ?_
 refine zS (v := (.int .i64 z68)) rfl rfl rfl ?_
 have hlast := unc_px hq110x N
 have hln := congrArg List.length ((zT hq97n hq110n)).1
 have hnew : q109.ns.length + unc q109 N ≤ q.ns.length + unc q N := by rw [hq97] at hlast; omega
 exact ⟨_, L73, R74, B75, q109, G77, rfl, hpk107, hok111, (PX.trans (PX.trans (PX.trans (PX.trans hpx15 hpx39) hpx81) hq97x) hq110x), PIn.lo hpin85 rfl, hX108, hpl69.same (zT hq97n hq110n), (by rw [qR (zT hq97n hq110n)]; exact hcd.1), (by rw [qR (zT hq97n hq110n), qR (zT hq97n hq110n)]; exact hcd2), hnew⟩

theorem canon_all {p N : Nat} {mm : PM} : ∀ m, CanP N m p mm
 | 0 => fun _ _ _ _ _ _ h => absurd h (Nat.not_lt_zero _)
 | m + 1 => fun hP hpk hok hf hfN hb hm => canon_step hP hpk hok hf hfN hb (canon_all m) hm
theorem canon_spec {w : World} {G : Pin} {L R B : Value} {q : PSt} {f : Int} {p : Nat} {mm : PM} {N : Nat} (hP : Pins G w) (hpk : Pk 67 3 G w p L R B mm q) (hok : PoolOk q) (hf : PlaceOk q f) (hfN : f < (N : Int)) (hbud : q.ns.length + unc q N < 1048576) :
  Calls Tryz.prog 107 [(.pointer (some ⟨p, 0, none⟩)), (.int .i64 f)].toArray w fun e w' => ∃ (z : Int) (L' R' B' : Value) (q' : PSt) (G' : Pin), e = .returned (.int .i64 z) ∧ Pk 67 3 G' w' p L' R' B' mm q' ∧ PoolOk q' ∧ PX q q' ∧ PLo w p L R B mm L' R' B' ∧ Ext (inP p L R B mm) G w G' w' ∧ PlaceOk q' z ∧ CanonG (pd q' z) ∧ eqG (pd q' z) (pd q' f) ∧ q'.ns.length + unc q' N ≤ q.ns.length + unc q N :=
 canon_all _ hP hpk hok hf hfN hbud (Nat.lt_succ_self _)

end CN4
end Go.Proofs.YtpknebplcmgnkaaGreatDoor

set_option maxRecDepth 20000
set_option maxHeartbeats 2000000
namespace Go.Proofs.YtpknebplcmgnkaaGreatDoor
namespace AS2
open Go.RowKit Go.GL Go.Proofs
open Go.Proofs.YtpknebplcmgnkaaGreatDoor.B1
open Go.Proofs.YtpknebplcmgnkaaGreatDoor.K1
open Go.Proofs.YtpknebplcmgnkaaGreatDoor.PO1
open Go.Proofs.YtpknebplcmgnkaaGreatDoor.PL1
open Go.Proofs.YtpknebplcmgnkaaGreatDoor.PA1
open Go.Proofs.YtpknebplcmgnkaaGreatDoor.DI1
open Go.Proofs.YtpknebplcmgnkaaGreatDoor.RI1
open Go.Proofs.YtpknebplcmgnkaaGreatDoor.CN1
open Go.Proofs.YtpknebplcmgnkaaGreatDoor.CN2
open Go.Proofs.YtpknebplcmgnkaaGreatDoor.CN3
open Go.Proofs.YtpknebplcmgnkaaGreatDoor.CN4















theorem canonOf_spec {w : World} {G : Pin} {p : Nat} {L R B : Value} {mm : PM} {q : PSt} (hP : Pins G w) (hpk : Pk 67 3 G w p L R B mm q) (hok : PoolOk q) {x : Value} {fs : List Nd} (hx : RSl eNode G x fs) (hf : FormOk fs) (hl : 2 * (q.ns.length + fs.length) < 1048576) (hf1 : 1 ≤ fs.length) :
  Calls Tryz.prog 63 [(.pointer (some ⟨p, 0, none⟩)), (.agg [x].toArray)].toArray w fun e w' => ∃ (z : Int) (L' R' B' : Value) (q' : PSt) (G' : Pin), e = .returned (.int .i64 z) ∧ Pk 67 3 G' w' p L' R' B' mm q' ∧ PoolOk q' ∧ PX q q' ∧ PLo w p L R B mm L' R' B' ∧ Ext (inP p L R B mm) G w G' w' ∧ PlaceOk q' z ∧ CanonG (pd q' z) ∧ eqG (pd q' z) (gOf fs) ∧ q'.ns.length ≤ 2 * (q.ns.length + fs.length) := by
 refine yD (n := 10) Tryz.func63 Tryz.ntmps63 rfl rfl ?_
 have hX0 : Ext (inP p L R B mm) G w G w := Ext.refl hP
 have hpin : PIn w (inP p L R B mm) p L R B mm := PIn.self
 have hml1 : (q.ns.map Nd.l).length = q.ns.length ∧ (q.ns.map Nd.r).length = q.ns.length := ⟨List.length_map .., List.length_map ..⟩
 have hml2 : q.bs.length = q.ns.length ∧ q.ns.length ≤ 1048576 := ⟨hok.ar.ok.len, hok.ar.ok.lim⟩
 have hfl := hf.len
 refine zE (zF ?_)
 refine qI rfl (qC [x] (v := (.agg [x].toArray)) rfl rfl hX0.pins (fun b3 w4 hk5 hb6 hp7 hl8 => ?_))
 have hX9 := hX0.step hp7 hl8
 have hpk10 := hpk.below hl8 hp7
 have ha15 := hpk.new (x := (some b3)) (fun k hk => by rw [(congrArg some hk5)] at hk; cases hk; exact Nat.le_refl _)
 have hlo16 : w.heap.size ≤ b3 := by have := hX0.size; omega
 obtain ⟨G17, hle18, hX19, hbp20, hf21⟩ := hb6.shut hX9 hlo16
 have hpk22 := hpk10.more hle18 hf21 ha15
 refine qD rfl (zD (v := (.int .i64 0)) rfl) ?_
 refine qe (zB (zE (zF ?_)))
 refine qD rfl (zA (v := (.pointer (some ⟨p, 0, none⟩))) rfl) ?_
 refine qD rfl (zA (v := (.pointer (some ⟨p, 0, none⟩))) rfl) ?_
 refine qD rfl (xQ (cs := [x]) ag32 sz32 rfl (fun j u hj => hX19.pins _ _ _ (hbp20 _ _ (by simpa using hj)))) ?_
 refine qI rfl (zP (vs := [(.pointer (some ⟨p, 0, none⟩)), (.agg [x].toArray)]) Tryz.func57 nm57 rfl rfl rfl ?_)
 refine Calls.mono (root_spec hX19.pins hpk22 hok (hx.mono hle18) hf (by omega) hf1) ?_
 rintro _ w32 ⟨z23, L27, R28, B29, q30, G31, rfl, hpk33, hok34, hpx35, hlo36, hx37, hpl24, hpd25, hqn26⟩
 refine ⟨_, rfl, ?_⟩
 have hX38 := hX19.trans hx37 hpin
 have hpin39 := PIn.call hpin hlo36 hX19.size
 have hql40 := hpx35.len
 have hml41 : (q30.ns.map Nd.l).length = q30.ns.length ∧ (q30.ns.map Nd.r).length = q30.ns.length := ⟨List.length_map .., List.length_map ..⟩
 have hml42 : q30.bs.length = q30.ns.length ∧ q30.ns.length ≤ 1048576 := ⟨hok34.ar.ok.len, hok34.ar.ok.lim⟩
 refine qI rfl (zP (vs := [(.pointer (some ⟨p, 0, none⟩)), (.int .i64 z23)]) Tryz.func107 nm107 rfl rfl rfl ?_)
 refine Calls.mono (canon_spec hX38.pins hpk33 hok34 (N := q30.ns.length) hpl24 hpl24.2 (by have := unc_le (q := q30) q30.ns.length; omega)) ?_
 rintro _ w53 ⟨z43, L48, R49, B50, q51, G52, rfl, hpk54, hok55, hpx56, hlo57, hx58, hpl44, hcg45, heq46, hbu47⟩
 refine ⟨_, rfl, ?_⟩
 have hX59 := hX38.trans hx58 hpin39
 have hpin60 := PIn.call hpin39 hlo57 hX38.size
 have hql61 := hpx56.len
 have hml62 : (q51.ns.map Nd.l).length = q51.ns.length ∧ (q51.ns.map Nd.r).length = q51.ns.length := ⟨List.length_map .., List.length_map ..⟩
 have hml63 : q51.bs.length = q51.ns.length ∧ q51.ns.length ≤ 1048576 := ⟨hok55.ar.ok.len, hok55.ar.ok.lim⟩
 refine qD rfl (zD (v := (.int .i64 z43)) rfl) ?_
 refine qe (zB ?_)
 refine wp_ret ?_
 refine zW ?_
 refine zS (v := (.int .i64 z43)) rfl rfl rfl ?_
 have hce := heq46
 rw [((hpx56.pd hok34 hok55 hpl24).trans hpd25)] at hce
 have hun := unc_le (q := q30) q30.ns.length
 exact ⟨_, L48, R49, B50, q51, G52, rfl, hpk54, hok55, (PX.trans hpx35 hpx56), PIn.lo hpin60 rfl, hX59, hpl44, hcg45, hce, (by omega)⟩

theorem iIsAllSmall_spec {w : World} {G : Pin} {v : Value} {fs : List Nd} (hP : Pins G w) (hv : RSl eNode G v fs) :
  Calls Tryz.prog 22 [(.agg [v].toArray)].toArray w fun e w' => ∃ G', e = .returned (.tuple #[.bool (alF fs), .bool (goodB fs)]) ∧ Ext noS G w G' w' := by
 refine yD (n := 42) Tryz.func22 Tryz.ntmps22 rfl rfl ?_
 have hX0 : Ext noS G w G w := Ext.refl hP
 refine zE (zF ?_)
 refine qI rfl (qC [v] (v := (.agg [v].toArray)) rfl rfl hX0.pins (fun b1 w2 hk3 hb4 hp5 hl6 => ?_))
 have hX7 := hX0.step hp5 hl6
 have hlo8 : w.heap.size ≤ b1 := by have := hX0.size; omega
 obtain ⟨G9, hle10, hX11, hbp12, hf13⟩ := hb4.shut hX7 hlo8
 refine qD rfl (zD (v := (.bool false)) rfl) ?_
 refine qD rfl (zD (v := (.bool false)) rfl) ?_
 refine qe (zB (zE (zE (zF ?_))))
 refine qD rfl (xQ (cs := [v]) ag32 sz32 rfl (fun j u hj => hX11.pins _ _ _ (hbp12 _ _ (by simpa using hj)))) ?_
 refine qI rfl (zP (vs := [(.agg [v].toArray)]) Tryz.func54 nm54 rfl rfl rfl ?_)
 refine Calls.mono (goodForm_spec hX11.pins (hv.mono hle10)) ?_
 rintro _ w15 ⟨G14, rfl, hx16⟩
 refine ⟨_, rfl, ?_⟩
 have hX17 := hX11.tr hx16
 refine qD rfl (xS rfl) ?_
 refine qe (zB ?_)
 refine qW rfl rfl (fun h18 => ?_) (fun h18 => ?_)
 ·skip
  refine wp_skip ?_
  refine zB (zE (zF ?_))
  have hgb : goodB fs = true := h18
  have hga : GoodP fs := goodB_true.1 hgb
  have hla := hga.lo
  have hha := hga.hi
  have hlb := last_bounds hga
  refine qI rfl (zP (vs := []) Tryz.func55 nm55 rfl rfl rfl ?_)
  refine Calls.mono (newPool_spec hX17.pins) ?_
  rintro _ w22 ⟨p19, mm20, G21, rfl, hpk23, hfr24, hx25⟩
  refine ⟨_, rfl, ?_⟩
  have hX29 := hX17.tr hx25
  have hpin30 : PIn w (noS) p19 (.slice none 0 0) (.slice none 0 0) (.slice none 0 0) mm20 := PIn.fresh hfr24 hX17.size
  obtain ⟨q26, hq27⟩ : ∃ q, q = (⟨[], [], [], [], [], [], []⟩ : PSt) := ⟨_, rfl⟩
  rw [← hq27] at hpk23
  have hok28 : PoolOk q26 := by rw [hq27]; exact PoolOk.empty
  have hq27l : q26.ns.length = 0 := by rw [hq27]; rfl
  obtain ⟨L31, R32, B33, eL31, eR32, eB33⟩ : ∃ (l r b : Value), l = .slice none 0 0 ∧ r = .slice none 0 0 ∧ b = .slice none 0 0 := ⟨_, _, _, rfl, rfl, rfl⟩
  have hpk232 : Pk 67 3 G21 w22 p19 L31 R32 B33 mm20 q26 := by rw [eL31, eR32, eB33]; exact hpk23
  have hpin302 : PIn w (noS) p19 L31 R32 B33 mm20 := by rw [eL31, eR32, eB33]; exact hpin30
  have hml34 : (q26.ns.map Nd.l).length = q26.ns.length ∧ (q26.ns.map Nd.r).length = q26.ns.length := ⟨List.length_map .., List.length_map ..⟩
  have hml35 : q26.bs.length = q26.ns.length ∧ q26.ns.length ≤ 1048576 := ⟨hok28.ar.ok.len, hok28.ar.ok.lim⟩
  refine qD rfl (zD (v := (.pointer (some ⟨p19, 0, none⟩))) rfl) ?_
  refine qe (zB (zE (zE (zF ?_))))
  refine qD rfl (zA (v := (.pointer (some ⟨p19, 0, none⟩))) rfl) ?_
  refine qD rfl (zA (v := (.pointer (some ⟨p19, 0, none⟩))) rfl) ?_
  refine qD rfl (xQ (cs := [v]) ag32 sz32 rfl (fun j u hj => (Pins.of_le hX29.pins (Pin.le_trans hx16.le hx25.le)) _ _ _ (hbp12 _ _ (by simpa using hj)))) ?_
  refine qI rfl (zP (vs := [(.pointer (some ⟨p19, 0, none⟩)), (.agg [v].toArray)]) Tryz.func63 nm63 rfl rfl rfl ?_)
  refine Calls.mono (canonOf_spec hX29.pins hpk232 hok28 (hv.mono (Pin.le_trans (Pin.le_trans hle10 hx16.le) hx25.le)) (good_form hga) (by omega) hla) ?_
  rintro _ w46 ⟨z36, L41, R42, B43, q44, G45, rfl, hpk47, hok48, hpx49, hlo50, hx51, hpl37, hcg38, hce39, hqn40⟩
  refine ⟨_, rfl, ?_⟩
  have hX52 := hX29.trans hx51 hpin302
  have hpin53 := PIn.call hpin302 hlo50 hX29.size
  have hql54 := hpx49.len
  have hml55 : (q44.ns.map Nd.l).length = q44.ns.length ∧ (q44.ns.map Nd.r).length = q44.ns.length := ⟨List.length_map .., List.length_map ..⟩
  have hml56 : q44.bs.length = q44.ns.length ∧ q44.ns.length ≤ 1048576 := ⟨hok48.ar.ok.len, hok48.ar.ok.lim⟩
  refine qI rfl (yQ (E := eInt) (e := 3) [(.int .i64 z36)] [z36] Tryz.underlying67 sz3 zr3 (by exact xO (by rfl)) (xG (by rfl)) rfl rfl rfl rfl (by decide) hX52.pins (fun u57 w58 ho59 hp60 hl61 hk62 => ?_))
  have hX63 := hX52.step hp60 hl61
  have hpk64 := hpk47.below hl61 hp60
  have ha69 := hpk47.new (x := u57.ownBlock) (fun k hk => by rw [hk62] at hk; cases hk; exact Nat.le_refl _)
  have ho70 : Own eInt 3 G45 w58 w.heap.size u57 ([z36]) := ho59.weaken hX52.size
  obtain ⟨G78, hle81, hX80, hr79, hf82⟩ := ho70.sealed hX63
  have hpk83 := hpk64.moreO hle81 hf82 ha69
  refine qI rfl (zP (vs := [(.pointer (some ⟨p19, 0, none⟩)), u57]) Tryz.func62 nm62 rfl rfl rfl ?_)
  refine Calls.mono (parts_spec hX80.pins hpk83 hok48 hr79 (place_one hpl37) (by simp)) ?_
  rintro _ w74 ⟨u71, zs72, G73, rfl, ho75, hpt76, hx77⟩
  refine ⟨_, rfl, ?_⟩
  have hX84 := hX80.tr hx77
  have hpk85 := hpk83.ext hx77
  have ho87 : Own eInt 3 G73 w74 w.heap.size u71 zs72 := ho75.weaken hX80.size
  have hql88 := hpt76.len
  refine qD rfl (zL Tryz.underlying67 (v := u71) rfl ho87.read) ?_
  refine qD rfl (zA (v := (.int .i64 0)) rfl) ?_
  refine qe (zB ?_)
  refine zZ ?_
  refine yM (fun (k : Nat) (en : Nat → Value) (W : World) => ∃ (env1 : Nat → Value) (k1 : Nat) (GL1 : Pin), en = (upd (upd (upd (upd env1 4 (.pointer (some ⟨p19, 0, none⟩))) 16 u71) 17 (.int .i64 (zs72.length : Int))) 18 (.int .i64 (k1 : Int))) ∧ k = zs72.length - k1 ∧ Ext noS G w GL1 W ∧ Pin.le G73 GL1 ∧ (k1 ≤ zs72.length) ∧ (∀ i, i < k1 → SmN (q44.ns.getD (zs72.getD i 0).toNat default)) ∧ (Own eInt 3 GL1 W w.heap.size u71 (zs72)) ∧ (Pk 67 3 GL1 W p19 L41 R42 B43 mm20 q44)) _ ⟨_, 0, G73, (zC (x := 18) (zC (x := 17) (zC (x := 16) (zN (x := 4) rfl) rfl) rfl) rfl), rfl, hX84, Pin.le_refl _, Nat.zero_le _, (fun i hi => absurd hi (Nat.not_lt_zero i)), ho87, hpk85⟩ ?_
  rintro k93 _ w94 ⟨env1, k1, GL1, rfl, hk95, hX96, hlek93, hk1, hall, hw97, hpk98⟩
  refine zE (zF ?_)
  refine qD rfl (yN rfl rfl) ?_
  refine qe (zB (zE ?_))
  refine yE (p := ((k1 : Int) : Int) < (zs72.length : Int)) rfl rfl (fun h99 => ?_) (fun h99 => ?_)
  ·skip
   have hzp := hpt76.pl _ (yG (d := (0 : Int)) (show k1 < zs72.length by omega))
   have hz0 := hzp.1
   have hz1 := hzp.2
   have holl := hok48.ar.ok.lens (zs72.getD k1 0).toNat (by omega)
   refine wp_skip ?_
   refine zB (zE ?_)
   refine zZ ?_
   refine zE (zF ?_)
   refine qD rfl (zJ Tryz.underlying67 sz3 (v := u71) rfl rfl hw97.read (by omega) (by omega)) ?_
   refine qD rfl (zI (r := zs72.getD k1 0) rfl ag3 (z := (k1 : Int)) rfl hw97.read (Gadd.pins hX96.pins u71) (by omega) (by omega)) ?_
   refine qD rfl (zD (v := (.int .i64 (zs72.getD k1 0))) rfl) ?_
   refine qe (zB (zE ?_))
   have hq100 := Gadd.pins hX96.pins L41
   have hq101 := Gadd.pins hX96.pins R42
   have hr102 := hpk98.ol.read
   have hr103 := hpk98.rr.read
   refine xE (S := fun wz => BxR wz p19 [L41, R42, B43, (.map (some mm20.f)), (.map (some mm20.o)), (.map (some mm20.c)), (.map (some mm20.s)), (.map (some mm20.n))] ∧ Pins (Gadd GL1 w94 L41) wz ∧ Pins (Gadd GL1 w94 R42) wz) (last := 19) (by kernel_rfl) rfl ?_
   have hl104 : Below w94.heap.size w94 w94.drew := (Below.refl _ _).drew
   have hp105 := hX96.pins.below hl104
   have hX106 := hX96.step hp105 hl104
   have ho107 := hw97.below hl104
   have hpk108 := hpk98.below hl104 hp105
   have hq109 := hq100.below hl104
   have hq110 := hq101.below hl104
   refine dT (i := 0) rfl rfl (by kernel_rfl) (fun _ _ => zA (v := (.pointer (some ⟨p19, 0, none⟩))) rfl) ⟨hpk108.bx.reads, hq109, hq110⟩ ?_
   refine dT (i := 1) rfl rfl (by kernel_rfl) (fun _ _ => yP rfl) ⟨hpk108.bx.reads, hq109, hq110⟩ ?_
   refine dT (i := 2) rfl rfl (by kernel_rfl) (fun _ _ => zM (k := 0) rfl Tryz.underlying74 rfl nz68 rfl) ⟨hpk108.bx.reads, hq109, hq110⟩ ?_
   refine dT (i := 3) rfl rfl (by kernel_rfl) (fun _ hS => zO (u := L41) ag68 rfl (hS.1 0 _ rfl)) ⟨hpk108.bx.reads, hq109, hq110⟩ ?_
   refine dT (i := 4) rfl rfl (by kernel_rfl) (fun _ _ => zA (v := (.int .i64 (zs72.getD k1 0))) rfl) ⟨hpk108.bx.reads, hq109, hq110⟩ ?_
   refine dT (i := 5) rfl rfl (by kernel_rfl) (fun _ _ => zJ Tryz.underlying68 sz67 (v := L41) rfl rfl hr102 (by omega) (by omega)) ⟨hpk108.bx.reads, hq109, hq110⟩ ?_
   obtain ⟨u111, hr112, hl113⟩ := nm_sl (hpk98.ol.at (z := (zs72.getD k1 0)) (by omega) (by omega)) (j := (zs72.getD k1 0).toNat) rfl
   rw [mapl_getD] at hr112
   have hm114 := hr112.max
   refine dT (i := 6) rfl rfl (by kernel_rfl) (fun _ hS => hl113 ag67 rfl hS.2.1) ⟨hpk108.bx.reads, hq109, hq110⟩ ?_
   refine dT (i := 7) rfl rfl (by kernel_rfl) (fun _ _ => zL Tryz.underlying67 (v := u111) rfl hr112) ⟨hpk108.bx.reads, hq109, hq110⟩ ?_
   refine dT (i := 8) rfl rfl (by kernel_rfl) (fun _ _ => r_eql rfl rfl) ⟨hpk108.bx.reads, hq109, hq110⟩ ?_
   refine dT (i := 9) rfl rfl (by kernel_rfl) (fun _ _ => zA (v := (.pointer (some ⟨p19, 0, none⟩))) rfl) ⟨hpk108.bx.reads, hq109, hq110⟩ ?_
   refine dT (i := 10) rfl rfl (by kernel_rfl) (fun _ _ => yP rfl) ⟨hpk108.bx.reads, hq109, hq110⟩ ?_
   refine dT (i := 11) rfl rfl (by kernel_rfl) (fun _ _ => zM (k := 1) rfl Tryz.underlying74 rfl nz68 rfl) ⟨hpk108.bx.reads, hq109, hq110⟩ ?_
   refine dT (i := 12) rfl rfl (by kernel_rfl) (fun _ hS => zO (u := R42) ag68 rfl (hS.1 1 _ rfl)) ⟨hpk108.bx.reads, hq109, hq110⟩ ?_
   refine dT (i := 13) rfl rfl (by kernel_rfl) (fun _ _ => zA (v := (.int .i64 (zs72.getD k1 0))) rfl) ⟨hpk108.bx.reads, hq109, hq110⟩ ?_
   refine dT (i := 14) rfl rfl (by kernel_rfl) (fun _ _ => zJ Tryz.underlying68 sz67 (v := R42) rfl rfl hr103 (by omega) (by omega)) ⟨hpk108.bx.reads, hq109, hq110⟩ ?_
   obtain ⟨u115, hr116, hl117⟩ := nm_sl (hpk98.rr.at (z := (zs72.getD k1 0)) (by omega) (by omega)) (j := (zs72.getD k1 0).toNat) rfl
   rw [mapr_getD] at hr116
   have hm118 := hr116.max
   refine dT (i := 15) rfl rfl (by kernel_rfl) (fun _ hS => hl117 ag67 rfl hS.2.2) ⟨hpk108.bx.reads, hq109, hq110⟩ ?_
   refine dT (i := 16) rfl rfl (by kernel_rfl) (fun _ _ => zL Tryz.underlying67 (v := u115) rfl hr116) ⟨hpk108.bx.reads, hq109, hq110⟩ ?_
   refine dT (i := 17) rfl rfl (by kernel_rfl) (fun _ _ => r_eql rfl rfl) ⟨hpk108.bx.reads, hq109, hq110⟩ ?_
   refine dT (i := 18) rfl rfl (by kernel_rfl) (fun _ _ => r_neqB Tryz.underlying4 rfl rfl) ⟨hpk108.bx.reads, hq109, hq110⟩ ?_
   refine yT (by kernel_rfl) ?_
   refine zB ?_
   refine c_if rfl rfl (fun h119 => ?_) (fun h119 => ?_)
   ·skip
    refine zE (zF ?_)
    refine qD rfl (zD (v := (.bool false)) rfl) ?_
    refine qD rfl (zD (v := (.bool true)) rfl) ?_
    refine qe (zB ?_)
    refine wp_ret ?_
    refine zW ?_
    refine c_ret2 (v := (.bool false)) (u := (.bool true)) rfl rfl rfl rfl rfl ?_
    rw [hgb, al_good hgb, as_eq hcg38 hce39, decP_false.2 (fun g => ne_dec_t h119 ((smP_parts hok48 hpl37 hpt76).2 g k1 (by omega)))]
    exact ⟨_, rfl, hX106⟩
   refine wp_skip ?_
   refine yA ?_
   refine zB (zF ?_)
   refine qD rfl (yJ rfl rfl (by omega)) ?_
   refine qD rfl (zA (v := (.int .i64 ((k1 : Int) + 1))) rfl) ?_
   refine qe ?_
   refine zY ?_
   refine ⟨_, ?_, _, rfl, _, k1 + 1, GL1, (zC (x := 18) (zC (x := 17) (zC (x := 16) (zN (x := 4) rfl) rfl) rfl) rfl), rfl, hX106, hlek93, (by omega), (fun i hi => if h3 : i = k1 then h3 ▸ ne_dec_f h119 else hall i (by omega)), ho107, hpk108⟩
   omega
  refine wp_exit ?_
  refine zX ?_
  refine yL ?_
  refine yF ?_
  refine zB (zE (zF ?_))
  refine qD rfl (zD (v := (.bool true)) rfl) ?_
  refine qD rfl (zD (v := (.bool true)) rfl) ?_
  refine qe (zB ?_)
  refine wp_ret ?_
  refine zW ?_
  refine c_ret2 (v := (.bool true)) (u := (.bool true)) rfl rfl rfl rfl rfl ?_
  rw [hgb, al_good hgb, as_eq hcg38 hce39, decP_true.2 ((smP_parts hok48 hpl37 hpt76).1 (fun i hi => hall i (by omega)))]
  exact ⟨_, rfl, hX96⟩
 refine zE (zF ?_)
 refine qD rfl (zD (v := (.bool false)) rfl) ?_
 refine qD rfl (zD (v := (.bool false)) rfl) ?_
 refine qe (zB ?_)
 refine wp_ret ?_
 refine zW ?_
 refine c_ret2 (v := (.bool false)) (u := (.bool false)) rfl rfl rfl rfl rfl ?_
 have hgb : goodB fs = false := h18
 rw [hgb, al_bad hgb]
 exact ⟨_, rfl, hX17⟩

end AS2
end Go.Proofs.YtpknebplcmgnkaaGreatDoor

set_option maxRecDepth 20000
set_option maxHeartbeats 2000000
namespace Go.Proofs.YtpknebplcmgnkaaGreatDoor
namespace LA1
open Go.RowKit Go.GL Go.Proofs
open Go.Proofs.YtpknebplcmgnkaaGreatDoor.B1
open Go.Proofs.YtpknebplcmgnkaaGreatDoor.C1
open Go.Proofs.YtpknebplcmgnkaaGreatDoor.D1
open Go.Proofs.YtpknebplcmgnkaaGreatDoor.E1
open Go.Proofs.YtpknebplcmgnkaaGreatDoor.L1
open Go.Proofs.YtpknebplcmgnkaaGreatDoor.AS1
open Go.Proofs.YtpknebplcmgnkaaGreatDoor.AS2










theorem law {w : World} {G : Pin} {v : Value} {ns : List Nd} (hP : Pins G w) (hv : RSl eNode G v ns) :
  Calls Tryz.prog 4 [(.agg [v].toArray)].toArray w fun e w' => ∃ G', e = .returned (.bool true) ∧ Ext noS G w G' w' := by
 refine yD (n := 40) Tryz.func4 Tryz.ntmps4 rfl rfl ?_
 have hX0 : Ext noS G w G w := Ext.refl hP
 refine zE (zF ?_)
 refine qI rfl (qC [v] (v := (.agg [v].toArray)) rfl rfl hX0.pins (fun b1 w2 hk3 hb4 hp5 hl6 => ?_))
 have hX7 := hX0.step hp5 hl6
 have hlo8 : w.heap.size ≤ b1 := by have := hX0.size; omega
 obtain ⟨G9, hle10, hX11, hbp12, hf13⟩ := hb4.shut hX7 hlo8
 refine qD rfl (zD (v := (.bool false)) rfl) ?_
 refine qe (zB (zE (zF ?_)))
 refine qD rfl (zD (v := (.int .i64 1048576)) rfl) ?_
 refine qe (zB (zE (zF ?_)))
 refine qD rfl (xQ (cs := [v]) ag24 sz24 rfl (fun j u hj => hX11.pins _ _ _ (hbp12 _ _ (by simpa using hj)))) ?_
 refine qD rfl (zA (v := (.int .i64 1048576)) rfl) ?_
 refine qI rfl (zP (vs := [(.agg [v].toArray), (.int .i64 1048576)]) Tryz.func15 nm15 rfl rfl rfl ?_)
 refine Calls.mono (szForm_spec hX11.pins (hv.mono hle10) (by omega)) ?_
 rintro _ w16 ⟨z14, G15, rfl, hz17, hx18⟩
 refine ⟨_, rfl, ?_⟩
 have hX19 := hX11.tr hx18
 refine qD rfl (zD (v := (.int .i64 z14)) rfl) ?_
 refine qe (zB (zE (zE (zF ?_))))
 refine qD rfl (zA (v := (.int .i64 z14)) rfl) ?_
 refine qD rfl (yN rfl rfl) ?_
 refine qe (zB ?_)
 refine yE (p := (z14 : Int) < 0) rfl rfl (fun h20 => ?_) (fun h20 => ?_)
 ·skip
  refine zE (zF ?_)
  refine qD rfl (zD (v := (.bool true)) rfl) ?_
  refine qe (zB ?_)
  refine wp_ret ?_
  refine zW ?_
  refine zS (v := (.bool true)) rfl rfl rfl ?_
  exact ⟨_, rfl, hX19⟩
 refine wp_skip ?_
 refine zB (zE (zF ?_))
 have hsm : Small ns := small_of (by omega)
 refine qD rfl (xQ (cs := [v]) ag24 sz24 rfl (fun j u hj => (Pins.of_le hX19.pins hx18.le) _ _ _ (hbp12 _ _ (by simpa using hj)))) ?_
 refine qI rfl (zP (vs := [(.agg [v].toArray)]) Tryz.func17 nm17 rfl rfl rfl ?_)
 refine Calls.mono (toForm_spec hX19.pins (hv.mono (Pin.le_trans hle10 hx18.le)) hsm) ?_
 rintro _ w23 ⟨u21, G22, rfl, hr24, hx25⟩
 refine ⟨_, rfl, ?_⟩
 have hX26 := hX19.tr hx25
 refine qI rfl (zP (vs := [(.agg [u21].toArray)]) Tryz.func21 nm21 rfl rfl rfl ?_)
 refine Calls.mono (sIsAllSmall_spec hX26.pins hr24) ?_
 rintro _ w28 ⟨G27, rfl, hx29⟩
 refine ⟨_, rfl, ?_⟩
 have hX30 := hX26.tr hx29
 refine qD rfl (zA (v := (.tuple #[(.bool (alF ns)), (.bool (goodB ns))])) rfl) ?_
 refine qD rfl (qA (v := (.bool (alF ns))) rfl rfl) ?_
 refine qD rfl (qA (v := (.bool (goodB ns))) rfl rfl) ?_
 refine qD rfl (zD (v := (.bool (alF ns))) rfl) ?_
 refine qD rfl (zD (v := (.bool (goodB ns))) rfl) ?_
 refine qe (zB (zE (zF ?_)))
 refine qD rfl (xQ (cs := [v]) ag24 sz24 rfl (fun j u hj => (Pins.of_le hX30.pins (Pin.le_trans (Pin.le_trans hx18.le hx25.le) hx29.le)) _ _ _ (hbp12 _ _ (by simpa using hj)))) ?_
 refine qI rfl (zP (vs := [(.agg [v].toArray)]) Tryz.func17 nm17 rfl rfl rfl ?_)
 refine Calls.mono (toForm_spec hX30.pins (hv.mono (Pin.le_trans (Pin.le_trans (Pin.le_trans hle10 hx18.le) hx25.le) hx29.le)) hsm) ?_
 rintro _ w33 ⟨u31, G32, rfl, hr34, hx35⟩
 refine ⟨_, rfl, ?_⟩
 have hX36 := hX30.tr hx35
 refine qI rfl (xM [(.slice none 0 0)] zr32 rfl hX36.pins (fun b37 w38 hk39 hb40 hp41 hl42 => ?_))
 have hX43 := hX36.step hp41 hl42
 have hlo44 : w.heap.size ≤ b37 := by have := hX36.size; omega
 refine q0 rfl rfl rfl (xZ (cs' := [u31]) (us := [u31]) (v := (.agg [u31].toArray)) sz32 rfl rfl rfl (xG hr34.one) hX43.pins hb40 (Nat.le_of_ble_eq_true rfl) rfl (fun w45 hb46 hp47 hg48 hz49 => ?_))
 have hX50 := hX43.write hp47 hg48 ((xJ hlo44))
 obtain ⟨G51, hle52, hX53, hbp54, hf55⟩ := hb46.shut hX50 hlo44
 refine qe (zB (zE (zF ?_)))
 refine qD rfl (xQ (cs := [u31]) ag32 sz32 rfl (fun j u hj => hX53.pins _ _ _ (hbp54 _ _ (by simpa using hj)))) ?_
 refine qI rfl (zP (vs := [(.agg [u31].toArray)]) Tryz.func22 nm22 rfl rfl rfl ?_)
 refine Calls.mono (iIsAllSmall_spec hX53.pins (hr34.mono hle52)) ?_
 rintro _ w57 ⟨G56, rfl, hx58⟩
 refine ⟨_, rfl, ?_⟩
 have hX59 := hX53.tr hx58
 refine qD rfl (zA (v := (.tuple #[(.bool (alF ns)), (.bool (goodB ns))])) rfl) ?_
 refine qD rfl (qA (v := (.bool (alF ns))) rfl rfl) ?_
 refine qD rfl (qA (v := (.bool (goodB ns))) rfl rfl) ?_
 refine qD rfl (zD (v := (.bool (alF ns))) rfl) ?_
 refine qD rfl (zD (v := (.bool (goodB ns))) rfl) ?_
 refine qe (zB (zE (zE (zF ?_))))
 refine qD rfl (zA (v := (.bool (alF ns))) rfl) ?_
 refine qD rfl (zA (v := (.bool (alF ns))) rfl) ?_
 refine qD rfl (r_neqB_same Tryz.underlying4 rfl rfl) ?_
 refine qD rfl (zA (v := (.bool false)) rfl) ?_
 refine qdg rfl rfl rfl rfl rfl rfl (zA (v := (.bool (goodB ns))) rfl) ?_
 refine qdg rfl rfl rfl rfl rfl rfl (zA (v := (.bool (goodB ns))) rfl) ?_
 refine qdg rfl rfl rfl rfl rfl rfl (r_neqB_same Tryz.underlying4 rfl rfl) ?_
 refine qD rfl (yV (v := (.bool false)) rfl rfl) ?_
 refine qe (zB ?_)
 refine qE rfl rfl ?_
 refine wp_skip ?_
 refine zB (zE (zE ?_))
 refine xE (S := fun wz => Pins G56 wz) (last := 5) (by kernel_rfl) rfl ?_
 have hl60 : Below w57.heap.size w57 w57.drew := (Below.refl _ _).drew
 have hp61 := hX59.pins.below hl60
 have hX62 := hX59.step hp61 hl60
 refine dT (i := 0) rfl rfl (by kernel_rfl) (fun _ hS => xQ (cs := [u31]) ag32 sz32 rfl (fun j u hj => (Pins.of_le hS hx58.le) _ _ _ (hbp54 _ _ (by simpa using hj)))) hX62.pins ?_
 refine dT (i := 1) rfl rfl (by kernel_rfl) (fun _ hS => xQ (cs := [v]) ag24 sz24 rfl (fun j u hj => (Pins.of_le hS (Pin.le_trans (Pin.le_trans (Pin.le_trans (Pin.le_trans (Pin.le_trans hx18.le hx25.le) hx29.le) hx35.le) hle52) hx58.le)) _ _ _ (hbp12 _ _ (by simpa using hj)))) hX62.pins ?_
 refine zV (i := 2) (by kernel_rfl) (yC (i := 2) rfl rfl rfl (zG rfl _) (zP (vs := [(.agg [v].toArray)]) Tryz.func17 nm17 rfl rfl rfl ?_))
 refine Calls.mono (toForm_spec hX62.pins (hv.mono (Pin.le_trans (Pin.le_trans (Pin.le_trans (Pin.le_trans (Pin.le_trans (Pin.le_trans hle10 hx18.le) hx25.le) hx29.le) hx35.le) hle52) hx58.le)) hsm) ?_
 rintro _ w65 ⟨u63, G64, rfl, hr66, hx67⟩
 refine ⟨_, rfl, ?_⟩
 have hX68 := hX62.tr hx67
 refine ⟨fun _ => (Pins.of_le hX68.pins hx67.le), ?_⟩
 refine zV (i := 3) (by kernel_rfl) (yC (i := 3) rfl rfl rfl (zG rfl _) (zP (vs := [(.agg [u31].toArray), (.agg [u63].toArray)]) Tryz.func20 nm20 rfl rfl rfl ?_))
 refine Calls.mono (eqForm_spec hX68.pins (hr34.mono (Pin.le_trans (Pin.le_trans hle52 hx58.le) hx67.le)) hr66) ?_
 rintro _ w70 ⟨G69, rfl, hx71⟩
 refine ⟨_, rfl, ?_⟩
 have hX72 := hX68.tr hx71
 refine ⟨fun _ => (Pins.of_le hX72.pins (Pin.le_trans hx67.le hx71.le)), ?_⟩
 refine dT (i := 4) rfl rfl (by kernel_rfl) (fun _ _ => xS rfl) (Pins.of_le hX72.pins (Pin.le_trans hx67.le hx71.le)) ?_
 refine yT (by kernel_rfl) ?_
 refine zB ?_
 refine qW rfl rfl (fun _ => ?_) (fun h => absurd rfl (of_decide_eq_false h))
 refine wp_skip ?_
 refine zB (zE (zF ?_))
 refine qD rfl (zD (v := (.bool true)) rfl) ?_
 refine qe (zB ?_)
 refine wp_ret ?_
 refine zW ?_
 refine zS (v := (.bool true)) rfl rfl rfl ?_
 exact ⟨_, rfl, hX72⟩

end LA1
end Go.Proofs.YtpknebplcmgnkaaGreatDoor
