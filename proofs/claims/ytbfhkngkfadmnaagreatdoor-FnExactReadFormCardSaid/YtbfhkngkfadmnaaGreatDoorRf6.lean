/- Texts of this claim in one file: PA1, SO1, OD1, FO1, RD1, RD2, RF0, T1, RF1, RS1, RS2, RS3. -/
import Derived.Test.YtbfhkngkfadmnaaGreatDoorRf5
import Derived.Test.YtbfhkngkfadmnaaGreatDoorChecked
set_option maxRecDepth 20000
set_option maxHeartbeats 2000000
namespace Go.Proofs.YtbfhkngkfadmnaaGreatDoor
namespace PA1
open Go.RowKit Go.GL Go.Proofs










theorem parts_spec {w : World} {G : Pin} {p : Nat} {L R B : Value} {mm : PM} {q : PSt} (hP : Pins G w) (hpk : Pk 32 3 G w p L R B mm q) (hok : PoolOk q) {x : Value} {xs : List Int} (hx : RSl eInt G x xs) (hr : ∀ i, i < xs.length → PlaceOk q (xs.getD i 0)) (hxl : xs.length ≤ 1048576) :
  Calls Tryz.prog 31 [(.pointer (some ⟨p, 0, none⟩)), x].toArray w fun e w' => ∃ (u : Value) (zs : List Int) (G' : Pin), e = .returned u ∧ Own eInt 3 G' w' w.heap.size u zs ∧ PtOk q xs zs zs.length ∧ Ext noS G w G' w' := by
 refine s_enter (n := 82) Tryz.func31 Tryz.ntmps31 rfl rfl ?_
 have hX0 : Ext noS G w G w := Ext.refl hP
 have hpin : PIn w (inP p L R B mm) p L R B mm := PIn.self
 have hml1 : (q.ns.map Nd.l).length = q.ns.length ∧ (q.ns.map Nd.r).length = q.ns.length := ⟨List.length_map .., List.length_map ..⟩
 have hml2 : q.bs.length = q.ns.length ∧ q.ns.length ≤ 1048576 := ⟨hok.ar.ok.len, hok.ar.ok.lim⟩
 have hm := hx.max
 refine s_seq (c_reg ?_)
 refine qd rfl rfl rfl (r_assign (v := (.slice none 0 0)) rfl) (qe (s_then (s_seq (c_reg ?_))))
 refine q1 rfl rfl rfl (o_makeMap (fun k : Int => Value.int .i64 k) (fun v : Bool => Value.bool v) hX0.pins (fun m3 w4 hk5 hm6 hp7 hl8 => ?_))
 have hX9 := hX0.step hp7 hl8
 have hpk10 := hpk.below hl8 hp7
 have hnp11 := hpk.new (x := some m3) (fun k hk => by cases hk; omega)
 have hlo12 : w.heap.size ≤ m3 := by have := hX0.size; omega
 refine qd rfl rfl rfl (r_assign (v := (.map (some m3))) rfl) (qe (s_then (s_seq (c_reg ?_))))
 refine q1 rfl rfl rfl (o_build0 (E := eInt) (e := 3) Tryz.underlying32 sz3 hX9.pins (fun u13 w14 ho15 hp16 hl17 hk18 => ?_))
 have hX19 := hX9.step hp16 hl17
 have hm20 := hm6.below hl17
 have hpk21 := hpk10.below hl17 hp16
 have ha26 := hpk10.new (x := u13.ownBlock) (fun k hk => by rw [hk18] at hk; cases hk; exact Nat.le_refl _)
 have ho27 : Own eInt 3 G w14 w.heap.size u13 ([]) := ho15.weaken hX9.size
 refine qd rfl rfl rfl (r_assign (v := u13) rfl) (qe (s_then (s_seq (s_seq (c_reg ?_)))))
 refine qd rfl rfl rfl (r_move (v := x) rfl) (qd rfl rfl rfl (run_len Tryz.underlying32 (v := x) rfl hx) (qd rfl rfl rfl (r_move (v := (.int .i64 0)) rfl) (qe (s_then ?_))))
 refine s_blk (s_loop (fun (k : Nat) (en : Nat → Value) (W : World) => ∃ (env1 : Nat → Value) (i : Nat) (lv : Value) (ls : List Int) (sn : List (Int × Bool)) (GL1 : Pin), en = (upd (upd (upd (upd (upd (upd (upd env1 0 (.pointer (some ⟨p, 0, none⟩))) 4 (.slice none 0 0)) 5 (.map (some m3))) 6 lv) 16 x) 17 (.int .i64 (xs.length : Int))) 18 (.int .i64 (i : Int))) ∧ k = xs.length - i ∧ Ext noS G w GL1 W ∧ Pin.le G GL1 ∧ (i ≤ xs.length) ∧ (PtOk q (xs.take i) ls 0) ∧ (SnOk sn ls) ∧ (Own eInt 3 GL1 W w.heap.size lv (ls)) ∧ (Mp (fun k : Int => Value.int .i64 k) (fun v : Bool => Value.bool v) W m3 (sn)) ∧ (Pk 32 3 GL1 W p L R B mm q) ∧ (NP p L R B mm lv.ownBlock)) _ ⟨_, 0, u13, [], [], G, (packS (x := 18) (packS (x := 17) (packS (x := 16) (packS (x := 6) (packS (x := 5) (packS (x := 4) (pack1 (x := 0) rfl) rfl) rfl) rfl) rfl) rfl) rfl), rfl, hX19, Pin.le_refl _, Nat.zero_le _, PtOk.start, SnOk.start, ho27, hm20, hpk21, ha26⟩ ?_)
 rintro k32 _ w33 ⟨env1, i, lv, ls, sn, GL1, rfl, hk34, hX35, hlek32, hi, hpt, hsn, hw36, hm37, hpk38, hnp39⟩
 have hpl0 := hpt.len
 refine s_seq (c_reg ?_)
 refine qd rfl rfl rfl (r_lss rfl rfl) (qe (s_then (s_seq ?_)))
 refine c_ifd (p := ((i : Int) : Int) < (xs.length : Int)) rfl rfl (fun h40 => ?_) (fun h40 => ?_)
 refine wp_skip (s_then (s_seq ?_))
 refine s_blk (s_seq (c_reg ?_))
 refine qd rfl rfl rfl (run_idx Tryz.underlying32 sz3 (v := x) rfl rfl hx (by omega) (by omega)) (qd rfl rfl rfl (run_load_int (r := xs.getD i 0) rfl ag3 (z := (i : Int)) rfl hx (Pins.of_le hX35.pins hlek32) (by omega) (by omega)) (qd rfl rfl rfl (r_assign (v := (.int .i64 (xs.getD i 0))) rfl) (qe (s_then (s_seq (c_reg ?_))))))
 refine qd rfl rfl rfl (r_move (v := (.map (some m3))) rfl) (qd rfl rfl rfl (r_move (v := (.int .i64 (xs.getD i 0))) rfl) (qd rfl rfl rfl (run_look1_bool (k := (xs.getD i 0)) (key_int Tryz.underlying3) Tryz.underlying84 zr4 hm37 rfl rfl) (qd rfl rfl rfl (r_not rfl) (qe (s_then ?_)))))
 refine c_ifn rfl rfl (fun h41 => ?_) (fun h41 => ?_)
 refine wp_skip (s_blkN (s_then (c_reg ?_)))
 refine qd rfl rfl rfl (r_add rfl rfl (by omega)) (qd rfl rfl rfl (r_move (v := (.int .i64 ((i : Int) + 1))) rfl) (qe (s_lopN (⟨_, ?_, _, rfl, _, i + 1, lv, ls, sn, GL1, (packS (x := 18) (packS (x := 17) (packS (x := 16) (packS (x := 6) (packS (x := 5) (packS (x := 4) (pack1 (x := 0) rfl) rfl) rfl) rfl) rfl) rfl) rfl), rfl, hX35, hlek32, (by omega), (hpt.rseen (by omega) (hsn.yes h41)), hsn, hw36, hm37, hpk38, hnp39⟩))))
 omega
 refine s_seq (c_reg ?_)
 refine qd rfl rfl rfl (r_move (v := (.map (some m3))) rfl) (qd rfl rfl rfl (r_move (v := (.int .i64 (xs.getD i 0))) rfl) (q0 rfl rfl rfl (o_mapUpdate (val := (fun v : Bool => Value.bool v)) (k := (xs.getD i 0)) (v := true) (key_int Tryz.underlying3) Tryz.underlying84 rfl rfl rfl hX35.pins hm37 (fun w42 hm43 hp44 hg45 hz46 => ?_))))
 have hX47 := hX35.write hp44 hg45 ((lo_box hlo12))
 have ho48 := hw36.keptA hg45 (map_ne_own hm37 hw36).symm
 have hpk49 := hpk38.kept hg45 hp44 hnp11
 refine qe (s_then (c_reg ?_))
 refine qd rfl rfl rfl (r_move (v := lv) rfl) (qd rfl rfl rfl (r_move (v := (.int .i64 (xs.getD i 0))) rfl) (q1 rfl rfl rfl (o_buildF (E := eInt) (e := 3) [(.int .i64 (xs.getD i 0))] [xs.getD i 0] Tryz.underlying32 sz3 zr3 (by exact reps1 (by rfl)) (ones1 (by rfl)) rfl rfl rfl rfl (by decide) hX47.pins (fun u50 w51 ho52 hp53 hl54 hk55 => ?_))))
 have hX56 := hX47.step hp53 hl54
 have ho57 := ho48.below hl54
 have hm58 := hm43.below hl54
 have hpk59 := hpk49.below hl54 hp53
 have ho66 : Own eInt 3 GL1 w51 w.heap.size u50 ([xs.getD i 0]) := ho52.weaken hX47.size
 refine q1 rfl rfl rfl (o_append (E := eInt) (v := lv) (u := u50) 8 Tryz.underlying32 ap3 (by decide) rfl rfl hX56.pins ho57 ho66.src (by first | omega | (rw [List.nil_append]; omega) | (rw [List.length_nil]; omega) | (rw [List.length_append]; omega) | (simp; done) | (simp; omega) | (simp only [List.length_append, List.length_cons, List.length_nil]; omega)) (by first | omega | (rw [List.nil_append]; omega) | (rw [List.length_nil]; omega) | (rw [List.length_append]; omega) | (simp; done) | (simp; omega) | (simp only [List.length_append, List.length_cons, List.length_nil]; omega)) (hX56.size) (fun u67 w68 ho69 hp70 hg71 hw72 => ?_))
 have hX73 := hX56.write hp70 hg71 ((lo_own ho57))
 have hm75 := hm58.kept hg71 (map_ne_own hm58 ho57)
 have hpk76 := hpk59.kept hg71 hp70 hnp39
 have hnp78 := np_app hnp39 hpk59 hw72
 have hm79 : (ls ++ ([xs.getD i 0])).length = ls.length + 1 := List.length_append
 refine qd rfl rfl rfl (r_assign (v := u67) rfl) (qe (s_blkN (s_then (c_reg ?_))))
 refine qd rfl rfl rfl (r_add rfl rfl (by omega)) (qd rfl rfl rfl (r_move (v := (.int .i64 ((i : Int) + 1))) rfl) (qe (s_lopN (⟨_, ?_, _, rfl, _, i + 1, u67, ls ++ ([xs.getD i 0]), putE sn (xs.getD i 0) true, GL1, (packS (x := 18) (packS (x := 17) (packS (x := 16) (packS (x := 6) (packS (x := 5) (packS (x := 4) (pack1 (x := 0) rfl) rfl) rfl) rfl) rfl) rfl) rfl), rfl, hX73, hlek32, (by omega), (hpt.rnew (by omega) (hsn.no h41) (hr i (by omega))), hsn.put, ho69, hm75, hpk76, hnp78⟩))))
 omega
 refine wp_exit (s_thenE (s_lopE (s_blkE (s_then (s_seq (s_seq (c_reg ?_)))))))
 refine qd rfl rfl rfl (r_assign (v := (.int .i64 0)) rfl) (qe (s_then ?_))
 refine s_blk ?_
 have hin : i = xs.length := by omega
 rw [hin, take_all (Nat.le_refl _)] at hpt
 refine s_loop (fun (k : Nat) (en : Nat → Value) (W : World) => ∃ (env1 : Nat → Value) (k2 : Nat) (lv2 : Value) (ls2 : List Int) (sn2 : List (Int × Bool)) (GL2 : Pin), en = (upd (upd (upd (upd (upd env1 0 (.pointer (some ⟨p, 0, none⟩))) 4 (.slice none 0 0)) 5 (.map (some m3))) 6 lv2) 9 (.int .i64 (k2 : Int))) ∧ k = q.ns.length - k2 ∧ Ext noS G w GL2 W ∧ Pin.le GL1 GL2 ∧ (PtOk q xs ls2 k2) ∧ (SnOk sn2 ls2) ∧ (Own eInt 3 GL2 W w.heap.size lv2 (ls2)) ∧ (Mp (fun k : Int => Value.int .i64 k) (fun v : Bool => Value.bool v) W m3 (sn2)) ∧ (Pk 32 3 GL2 W p L R B mm q) ∧ (NP p L R B mm lv2.ownBlock)) _ ⟨_, 0, lv, ls, sn, GL1, (packS (x := 9) (packS (x := 6) (packS (x := 5) (packS (x := 4) (pack1 (x := 0) rfl) rfl) rfl) rfl) rfl), rfl, hX35, Pin.le_refl _, hpt, hsn, hw36, hm37, hpk38, hnp39⟩ ?_
 rintro k84 _ w85 ⟨env1, k2, lv2, ls2, sn2, GL2, rfl, hk86, hX87, hlek84, hpt2, hsn2, hw88, hm89, hpk90, hnp91⟩
 have hpl2 := hpt2.len
 have hkl2 := hpt2.kl
 refine s_seq (s_seq (c_reg ?_))
 refine qd rfl rfl rfl (r_move (v := (.int .i64 (k2 : Int))) rfl) (qd rfl rfl rfl (r_move (v := lv2) rfl) (qd rfl rfl rfl (run_len Tryz.underlying32 (v := lv2) rfl hw88.read) (qd rfl rfl rfl (r_lss rfl rfl) (qe (s_then ?_)))))
 refine c_ifd (p := ((k2 : Int) : Int) < (ls2.length : Int)) rfl rfl (fun h92 => ?_) (fun h92 => ?_)
 have hzp := hpt2.pl _ (getD_mem (d := (0 : Int)) (show k2 < ls2.length by omega))
 have hz0 := hzp.1
 have hz1 := hzp.2
 have holl := hok.ar.ok.lens (ls2.getD k2 0).toNat (by omega)
 refine wp_skip (s_then (s_seq ?_))
 refine s_blk (s_seq ?_)
 have hq93 := Gadd.pins hX87.pins lv2
 have hq94 := Gadd.pins hX87.pins L
 have hq95 := Gadd.pins hX87.pins R
 have hr96 := hw88.read
 have hr97 := hpk90.ol.read
 have hr98 := hpk90.rr.read
 refine c_draw (S := fun wz => BxR wz p [L, R, B, (.map (some mm.f)), (.map (some mm.o)), (.map (some mm.c)), (.map (some mm.s)), (.map (some mm.n))] ∧ Pins (Gadd GL2 w85 lv2) wz ∧ Pins (Gadd GL2 w85 L) wz ∧ Pins (Gadd GL2 w85 R) wz) (last := 22) (by kernel_rfl) rfl ?_
 have hl99 : Below w85.heap.size w85 w85.drew := (Below.refl _ _).drew
 have hp100 := hX87.pins.below hl99
 have hX101 := hX87.step hp100 hl99
 have ho102 := hw88.below hl99
 have hm103 := hm89.below hl99
 have hpk104 := hpk90.below hl99 hp100
 have hq105 := hq93.below hl99
 have hq106 := hq94.below hl99
 have hq107 := hq95.below hl99
 refine dr_take (i := 0) rfl rfl rfl (want_none rfl _) (by kernel_rfl) (fun _ _ => r_move (v := (.pointer (some ⟨p, 0, none⟩))) rfl) ⟨hpk104.bx.reads, hq105, hq106, hq107⟩ (dr_take (i := 1) rfl rfl rfl (want_none rfl _) (by kernel_rfl) (fun _ _ => r_nil rfl) ⟨hpk104.bx.reads, hq105, hq106, hq107⟩ (dr_take (i := 2) rfl rfl rfl (want_none rfl _) (by kernel_rfl) (fun _ _ => r_fldp (k := 0) rfl Tryz.underlying69 rfl nz67 rfl) ⟨hpk104.bx.reads, hq105, hq106, hq107⟩ (dr_take (i := 3) rfl rfl rfl (want_none rfl _) (by kernel_rfl) (fun _ hS => r_ldp1 (u := L) ag67 rfl (hS.1 0 _ rfl)) ⟨hpk104.bx.reads, hq105, hq106, hq107⟩ (dr_take (i := 4) rfl rfl rfl (want_none rfl _) (by kernel_rfl) (fun _ _ => r_move (v := lv2) rfl) ⟨hpk104.bx.reads, hq105, hq106, hq107⟩ (dr_take (i := 5) rfl rfl rfl (want_none rfl _) (by kernel_rfl) (fun _ _ => r_move (v := (.int .i64 (k2 : Int))) rfl) ⟨hpk104.bx.reads, hq105, hq106, hq107⟩ (dr_take (i := 6) rfl rfl rfl (want_none rfl _) (by kernel_rfl) (fun _ _ => run_idx Tryz.underlying32 sz3 (v := lv2) rfl rfl hr96 (by omega) (by omega)) ⟨hpk104.bx.reads, hq105, hq106, hq107⟩ (dr_take (i := 7) rfl rfl rfl (want_none rfl _) (by kernel_rfl) (fun _ hS => run_load_int (r := ls2.getD k2 0) rfl ag3 (z := (k2 : Int)) rfl hr96 hS.2.1 (by omega) (by omega)) ⟨hpk104.bx.reads, hq105, hq106, hq107⟩ (dr_take (i := 8) rfl rfl rfl (want_none rfl _) (by kernel_rfl) (fun _ _ => run_idx Tryz.underlying67 sz32 (v := L) rfl rfl hr97 (by omega) (by omega)) ⟨hpk104.bx.reads, hq105, hq106, hq107⟩ ?_))))))))
 obtain ⟨u108, hr109, hl110⟩ := nm_sl (hpk90.ol.at (z := (ls2.getD k2 0)) (by omega) (by omega)) (j := (ls2.getD k2 0).toNat) rfl
 rw [mapl_getD] at hr109
 have hm111 := hr109.max
 refine dr_take (i := 9) rfl rfl rfl (want_none rfl _) (by kernel_rfl) (fun _ hS => hl110 ag32 rfl hS.2.2.1) ⟨hpk104.bx.reads, hq105, hq106, hq107⟩ (dr_take (i := 10) rfl rfl rfl (want_none rfl _) (by kernel_rfl) (fun _ _ => r_move (v := (.pointer (some ⟨p, 0, none⟩))) rfl) ⟨hpk104.bx.reads, hq105, hq106, hq107⟩ (dr_take (i := 11) rfl rfl rfl (want_none rfl _) (by kernel_rfl) (fun _ _ => r_nil rfl) ⟨hpk104.bx.reads, hq105, hq106, hq107⟩ (dr_take (i := 12) rfl rfl rfl (want_none rfl _) (by kernel_rfl) (fun _ _ => r_fldp (k := 1) rfl Tryz.underlying69 rfl nz67 rfl) ⟨hpk104.bx.reads, hq105, hq106, hq107⟩ (dr_take (i := 13) rfl rfl rfl (want_none rfl _) (by kernel_rfl) (fun _ hS => r_ldp1 (u := R) ag67 rfl (hS.1 1 _ rfl)) ⟨hpk104.bx.reads, hq105, hq106, hq107⟩ (dr_take (i := 14) rfl rfl rfl (want_none rfl _) (by kernel_rfl) (fun _ _ => r_move (v := lv2) rfl) ⟨hpk104.bx.reads, hq105, hq106, hq107⟩ (dr_take (i := 15) rfl rfl rfl (want_none rfl _) (by kernel_rfl) (fun _ _ => r_move (v := (.int .i64 (k2 : Int))) rfl) ⟨hpk104.bx.reads, hq105, hq106, hq107⟩ (dr_take (i := 16) rfl rfl rfl (want_none rfl _) (by kernel_rfl) (fun _ _ => run_idx Tryz.underlying32 sz3 (v := lv2) rfl rfl hr96 (by omega) (by omega)) ⟨hpk104.bx.reads, hq105, hq106, hq107⟩ (dr_take (i := 17) rfl rfl rfl (want_none rfl _) (by kernel_rfl) (fun _ hS => run_load_int (r := ls2.getD k2 0) rfl ag3 (z := (k2 : Int)) rfl hr96 hS.2.1 (by omega) (by omega)) ⟨hpk104.bx.reads, hq105, hq106, hq107⟩ (dr_take (i := 18) rfl rfl rfl (want_none rfl _) (by kernel_rfl) (fun _ _ => run_idx Tryz.underlying67 sz32 (v := R) rfl rfl hr98 (by omega) (by omega)) ⟨hpk104.bx.reads, hq105, hq106, hq107⟩ ?_)))))))))
 obtain ⟨u112, hr113, hl114⟩ := nm_sl (hpk90.rr.at (z := (ls2.getD k2 0)) (by omega) (by omega)) (j := (ls2.getD k2 0).toNat) rfl
 rw [mapr_getD] at hr113
 have hm115 := hr113.max
 refine dr_take (i := 19) rfl rfl rfl (want_none rfl _) (by kernel_rfl) (fun _ hS => hl114 ag32 rfl hS.2.2.2) ⟨hpk104.bx.reads, hq105, hq106, hq107⟩ (dr_take (i := 20) rfl rfl rfl (want_none rfl _) (by kernel_rfl) (fun _ _ => r_buildA (m := 1) [(.slice none 0 0), (.slice none 0 0)] [u108, u112] [(0, u108, [u108]), (1, u112, [u112])] Tryz.underlying74 zr74 rfl sz32 rfl (List.forall_mem_cons.2 ⟨(cells_one hr109.one), (List.forall_mem_cons.2 ⟨(cells_one hr113.one), (fun _ h => by cases h)⟩)⟩) rfl) ⟨hpk104.bx.reads, hq105, hq106, hq107⟩ (dr_take (i := 21) rfl rfl rfl (want_none rfl _) (by kernel_rfl) (fun _ _ => r_move (v := (.int .i64 0)) rfl) ⟨hpk104.bx.reads, hq105, hq106, hq107⟩ (dr_end (by kernel_rfl) (s_then (s_blk (s_loop (fun (k : Nat) (en : Nat → Value) (W : World) => ∃ (env1 : Nat → Value) (s : Nat) (lv3 : Value) (ls3 : List Int) (sn3 : List (Int × Bool)) (GL3 : Pin), en = (upd (upd (upd (upd (upd (upd (upd env1 0 (.pointer (some ⟨p, 0, none⟩))) 4 (.slice none 0 0)) 5 (.map (some m3))) 6 lv3) 9 (.int .i64 (k2 : Int))) 59 (.agg [u108, u112].toArray)) 60 (.int .i64 (s : Int))) ∧ k = 2 - s ∧ Ext noS G w GL3 W ∧ Pin.le GL2 GL3 ∧ (s ≤ 2) ∧ (PtIn q xs ls3 k2 (ls2.getD k2 0) (dzL (q.ns.getD (ls2.getD k2 0).toNat default).l (q.ns.getD (ls2.getD k2 0).toNat default).r s)) ∧ (SnOk sn3 ls3) ∧ (Own eInt 3 GL3 W w.heap.size lv3 (ls3)) ∧ (Mp (fun k : Int => Value.int .i64 k) (fun v : Bool => Value.bool v) W m3 (sn3)) ∧ (Pk 32 3 GL3 W p L R B mm q) ∧ (NP p L R B mm lv3.ownBlock)) _ ⟨_, 0, lv2, ls2, sn2, GL2, (packS (x := 60) (packS (x := 59) (packS (x := 9) (packS (x := 6) (packS (x := 5) (packS (x := 4) (pack1 (x := 0) rfl) rfl) rfl) rfl) rfl) rfl) rfl), rfl, hX101, Pin.le_refl _, Nat.zero_le _, (PtIn.start hpt2 (by omega)), hsn2, ho102, hm103, hpk104, hnp91⟩ ?_))))))
 rintro k120 _ w121 ⟨env1, s, lv3, ls3, sn3, GL3, rfl, hk122, hX123, hlek120, hs, hin3, hsn3, hw124, hm125, hpk126, hnp127⟩
 have hpl3 := hin3.ok.len
 refine s_seq (c_reg ?_)
 refine qd rfl rfl rfl (r_lss rfl rfl) (qe (s_then (s_seq ?_)))
 refine c_ifd (p := ((s : Int) : Int) < 2) rfl rfl (fun h128 => ?_) (fun h128 => ?_)
 refine wp_skip (s_then (s_seq ?_))
 refine s_blk (s_seq (c_reg ?_))
 obtain ⟨u129, hr130, hl131⟩ := name_index2 (hr109.mono hlek120) (hr113.mono hlek120) (z := (s : Int)) s (by omega) (by omega) rfl
 have hm132 := hr130.max
 refine qd rfl rfl rfl (hl131 Tryz.underlying74 rfl sz32 ag32 rfl rfl) (qd rfl rfl rfl (r_assign (v := u129) rfl) (qe (s_then (s_seq (c_reg ?_)))))
 refine qd rfl rfl rfl (r_move (v := u129) rfl) (qd rfl rfl rfl (run_len Tryz.underlying32 (v := u129) rfl hr130) (qd rfl rfl rfl (r_move (v := (.int .i64 0)) rfl) (qe (s_then ?_))))
 refine s_blk (s_loop (fun (k : Nat) (en : Nat → Value) (W : World) => ∃ (env1 : Nat → Value) (j : Nat) (lv4 : Value) (ls4 : List Int) (sn4 : List (Int × Bool)) (GL4 : Pin), en = (upd (upd (upd (upd (upd (upd (upd (upd (upd (upd env1 0 (.pointer (some ⟨p, 0, none⟩))) 4 (.slice none 0 0)) 5 (.map (some m3))) 6 lv4) 9 (.int .i64 (k2 : Int))) 59 (.agg [u108, u112].toArray)) 60 (.int .i64 (s : Int))) 63 u129) 64 (.int .i64 ((pick2 s ((q.ns.getD (ls2.getD k2 0).toNat default).l) ((q.ns.getD (ls2.getD k2 0).toNat default).r)).length : Int))) 65 (.int .i64 (j : Int))) ∧ k = (pick2 s (q.ns.getD (ls2.getD k2 0).toNat default).l (q.ns.getD (ls2.getD k2 0).toNat default).r).length - j ∧ Ext noS G w GL4 W ∧ Pin.le GL3 GL4 ∧ (j ≤ (pick2 s (q.ns.getD (ls2.getD k2 0).toNat default).l (q.ns.getD (ls2.getD k2 0).toNat default).r).length) ∧ (PtIn q xs ls4 k2 (ls2.getD k2 0) (dzL (q.ns.getD (ls2.getD k2 0).toNat default).l (q.ns.getD (ls2.getD k2 0).toNat default).r s ++ (pick2 s (q.ns.getD (ls2.getD k2 0).toNat default).l (q.ns.getD (ls2.getD k2 0).toNat default).r).take j)) ∧ (SnOk sn4 ls4) ∧ (Own eInt 3 GL4 W w.heap.size lv4 (ls4)) ∧ (Mp (fun k : Int => Value.int .i64 k) (fun v : Bool => Value.bool v) W m3 (sn4)) ∧ (Pk 32 3 GL4 W p L R B mm q) ∧ (NP p L R B mm lv4.ownBlock)) _ ⟨_, 0, lv3, ls3, sn3, GL3, (packS (x := 65) (packS (x := 64) (packS (x := 63) (packS (x := 60) (packS (x := 59) (packS (x := 9) (packS (x := 6) (packS (x := 5) (packS (x := 4) (pack1 (x := 0) rfl) rfl) rfl) rfl) rfl) rfl) rfl) rfl) rfl) rfl), rfl, hX123, Pin.le_refl _, Nat.zero_le _, (by rw [List.take_zero, List.append_nil]; exact hin3), hsn3, hw124, hm125, hpk126, hnp127⟩ ?_)
 rintro k137 _ w138 ⟨env1, j, lv4, ls4, sn4, GL4, rfl, hk139, hX140, hlek137, hj, hin4, hsn4, hw141, hm142, hpk143, hnp144⟩
 have hpl5 := hin4.ok.len
 refine s_seq (c_reg ?_)
 refine qd rfl rfl rfl (r_lss rfl rfl) (qe (s_then (s_seq ?_)))
 refine c_ifd (p := ((j : Int) : Int) < ((pick2 s ((q.ns.getD (ls2.getD k2 0).toNat default).l) ((q.ns.getD (ls2.getD k2 0).toNat default).r)).length : Int)) rfl rfl (fun h145 => ?_) (fun h145 => ?_)
 refine wp_skip (s_then (s_seq ?_))
 refine s_blk (s_seq (c_reg ?_))
 refine qd rfl rfl rfl (run_idx Tryz.underlying32 sz3 (v := u129) rfl rfl hr130 (by omega) (by omega)) (qd rfl rfl rfl (run_load_int (r := (pick2 s ((q.ns.getD (ls2.getD k2 0).toNat default).l) ((q.ns.getD (ls2.getD k2 0).toNat default).r)).getD j 0) rfl ag3 (z := (j : Int)) rfl hr130 (Pins.of_le hX140.pins hlek137) (by omega) (by omega)) (qd rfl rfl rfl (r_assign (v := (.int .i64 ((pick2 s ((q.ns.getD (ls2.getD k2 0).toNat default).l) ((q.ns.getD (ls2.getD k2 0).toNat default).r)).getD j 0))) rfl) (qe (s_then (s_seq (c_reg ?_))))))
 refine qd rfl rfl rfl (r_move (v := (.map (some m3))) rfl) (qd rfl rfl rfl (r_move (v := (.int .i64 ((pick2 s ((q.ns.getD (ls2.getD k2 0).toNat default).l) ((q.ns.getD (ls2.getD k2 0).toNat default).r)).getD j 0))) rfl) (qd rfl rfl rfl (run_look1_bool (k := ((pick2 s ((q.ns.getD (ls2.getD k2 0).toNat default).l) ((q.ns.getD (ls2.getD k2 0).toNat default).r)).getD j 0)) (key_int Tryz.underlying3) Tryz.underlying84 zr4 hm142 rfl rfl) (qd rfl rfl rfl (r_not rfl) (qe (s_then ?_)))))
 refine c_ifn rfl rfl (fun h146 => ?_) (fun h146 => ?_)
 refine wp_skip (s_blkN (s_then (c_reg ?_)))
 refine qd rfl rfl rfl (r_add rfl rfl (by omega)) (qd rfl rfl rfl (r_move (v := (.int .i64 ((j : Int) + 1))) rfl) (qe (s_lopN (⟨_, ?_, _, rfl, _, j + 1, lv4, ls4, sn4, GL4, (packS (x := 65) (packS (x := 64) (packS (x := 63) (packS (x := 60) (packS (x := 59) (packS (x := 9) (packS (x := 6) (packS (x := 5) (packS (x := 4) (pack1 (x := 0) rfl) rfl) rfl) rfl) rfl) rfl) rfl) rfl) rfl) rfl), rfl, hX140, hlek137, (by omega), (by rw [take_snoc _ 0 (show j < (pick2 s (q.ns.getD (ls2.getD k2 0).toNat default).l (q.ns.getD (ls2.getD k2 0).toNat default).r).length by omega), ← List.append_assoc]; exact hin4.seen (hsn4.yes h146)), hsn4, hw141, hm142, hpk143, hnp144⟩))))
 omega
 refine s_seq (c_reg ?_)
 refine qd rfl rfl rfl (r_move (v := (.map (some m3))) rfl) (qd rfl rfl rfl (r_move (v := (.int .i64 ((pick2 s ((q.ns.getD (ls2.getD k2 0).toNat default).l) ((q.ns.getD (ls2.getD k2 0).toNat default).r)).getD j 0))) rfl) (q0 rfl rfl rfl (o_mapUpdate (val := (fun v : Bool => Value.bool v)) (k := ((pick2 s ((q.ns.getD (ls2.getD k2 0).toNat default).l) ((q.ns.getD (ls2.getD k2 0).toNat default).r)).getD j 0)) (v := true) (key_int Tryz.underlying3) Tryz.underlying84 rfl rfl rfl hX140.pins hm142 (fun w147 hm148 hp149 hg150 hz151 => ?_))))
 have hX152 := hX140.write hp149 hg150 ((lo_box hlo12))
 have ho153 := hw141.keptA hg150 (map_ne_own hm142 hw141).symm
 have hpk154 := hpk143.kept hg150 hp149 hnp11
 refine qe (s_then (c_reg ?_))
 refine qd rfl rfl rfl (r_move (v := lv4) rfl) (qd rfl rfl rfl (r_move (v := (.int .i64 ((pick2 s ((q.ns.getD (ls2.getD k2 0).toNat default).l) ((q.ns.getD (ls2.getD k2 0).toNat default).r)).getD j 0))) rfl) (q1 rfl rfl rfl (o_buildF (E := eInt) (e := 3) [(.int .i64 ((pick2 s ((q.ns.getD (ls2.getD k2 0).toNat default).l) ((q.ns.getD (ls2.getD k2 0).toNat default).r)).getD j 0))] [(pick2 s ((q.ns.getD (ls2.getD k2 0).toNat default).l) ((q.ns.getD (ls2.getD k2 0).toNat default).r)).getD j 0] Tryz.underlying32 sz3 zr3 (by exact reps1 (by rfl)) (ones1 (by rfl)) rfl rfl rfl rfl (by decide) hX152.pins (fun u155 w156 ho157 hp158 hl159 hk160 => ?_))))
 have hX161 := hX152.step hp158 hl159
 have ho162 := ho153.below hl159
 have hm163 := hm148.below hl159
 have hpk164 := hpk154.below hl159 hp158
 have ho171 : Own eInt 3 GL4 w156 w.heap.size u155 ([(pick2 s ((q.ns.getD (ls2.getD k2 0).toNat default).l) ((q.ns.getD (ls2.getD k2 0).toNat default).r)).getD j 0]) := ho157.weaken hX152.size
 refine q1 rfl rfl rfl (o_append (E := eInt) (v := lv4) (u := u155) 8 Tryz.underlying32 ap3 (by decide) rfl rfl hX161.pins ho162 ho171.src (by first | omega | (rw [List.nil_append]; omega) | (rw [List.length_nil]; omega) | (rw [List.length_append]; omega) | (simp; done) | (simp; omega) | (simp only [List.length_append, List.length_cons, List.length_nil]; omega)) (by first | omega | (rw [List.nil_append]; omega) | (rw [List.length_nil]; omega) | (rw [List.length_append]; omega) | (simp; done) | (simp; omega) | (simp only [List.length_append, List.length_cons, List.length_nil]; omega)) (hX161.size) (fun u172 w173 ho174 hp175 hg176 hw177 => ?_))
 have hX178 := hX161.write hp175 hg176 ((lo_own ho162))
 have hm180 := hm163.kept hg176 (map_ne_own hm163 ho162)
 have hpk181 := hpk164.kept hg176 hp175 hnp144
 have hnp183 := np_app hnp144 hpk164 hw177
 have hm184 : (ls4 ++ ([(pick2 s ((q.ns.getD (ls2.getD k2 0).toNat default).l) ((q.ns.getD (ls2.getD k2 0).toNat default).r)).getD j 0])).length = ls4.length + 1 := List.length_append
 refine qd rfl rfl rfl (r_assign (v := u172) rfl) (qe (s_blkN (s_then (c_reg ?_))))
 refine qd rfl rfl rfl (r_add rfl rfl (by omega)) (qd rfl rfl rfl (r_move (v := (.int .i64 ((j : Int) + 1))) rfl) (qe (s_lopN (⟨_, ?_, _, rfl, _, j + 1, u172, ls4 ++ ([(pick2 s ((q.ns.getD (ls2.getD k2 0).toNat default).l) ((q.ns.getD (ls2.getD k2 0).toNat default).r)).getD j 0]), putE sn4 ((pick2 s ((q.ns.getD (ls2.getD k2 0).toNat default).l) ((q.ns.getD (ls2.getD k2 0).toNat default).r)).getD j 0) true, GL4, (packS (x := 65) (packS (x := 64) (packS (x := 63) (packS (x := 60) (packS (x := 59) (packS (x := 9) (packS (x := 6) (packS (x := 5) (packS (x := 4) (pack1 (x := 0) rfl) rfl) rfl) rfl) rfl) rfl) rfl) rfl) rfl) rfl), rfl, hX178, hlek137, (by omega), (by rw [take_snoc _ 0 (show j < (pick2 s (q.ns.getD (ls2.getD k2 0).toNat default).l (q.ns.getD (ls2.getD k2 0).toNat default).r).length by omega), ← List.append_assoc]; exact hin4.new hok (hsn4.no h146) (dz_in (by omega) (by omega))), hsn4.put, ho174, hm180, hpk181, hnp183⟩))))
 omega
 have hjn : j = (pick2 s (q.ns.getD (ls2.getD k2 0).toNat default).l (q.ns.getD (ls2.getD k2 0).toNat default).r).length := by omega
 rw [hjn, take_all (Nat.le_refl _)] at hin4
 have hin5 : PtIn q xs ls4 k2 (ls2.getD k2 0) (dzL (q.ns.getD (ls2.getD k2 0).toNat default).l (q.ns.getD (ls2.getD k2 0).toNat default).r (s + 1)) := by rw [dz_next (by omega)]; exact hin4
 refine wp_exit (s_thenE (s_lopE (s_blkE (s_blkN (s_then (c_reg ?_))))))
 refine qd rfl rfl rfl (r_add rfl rfl (by omega)) (qd rfl rfl rfl (r_move (v := (.int .i64 ((s : Int) + 1))) rfl) (qe (s_lopN (⟨_, ?_, _, rfl, _, s + 1, lv4, ls4, sn4, GL4, (packS (x := 60) (packS (x := 59) (packS (x := 9) (packS (x := 6) (packS (x := 5) (packS (x := 4) (pack1 (x := 0) rfl) rfl) rfl) rfl) rfl) rfl) rfl), rfl, hX140, (Pin.le_trans hlek120 hlek137), (by omega), hin5, hsn4, hw141, hm142, hpk143, hnp144⟩))))
 omega
 have hs2 : s = 2 := by omega
 rw [hs2] at hin3
 have hdone := hin3.done (fun o ho => ho)
 have hpl4 := hdone.kl
 refine wp_exit (s_thenE (s_lopE (s_blkE (s_blkN (s_then (c_reg ?_))))))
 refine qd rfl rfl rfl (r_move (v := (.int .i64 (k2 : Int))) rfl) (qd rfl rfl rfl (r_add rfl rfl (by omega)) (qd rfl rfl rfl (r_assign (v := (.int .i64 ((k2 : Int) + 1))) rfl) (qe (s_lopN (⟨_, ?_, _, rfl, _, k2 + 1, lv3, ls3, sn3, GL3, (packS (x := 9) (packS (x := 6) (packS (x := 5) (packS (x := 4) (pack1 (x := 0) rfl) rfl) rfl) rfl) rfl), rfl, hX123, (Pin.le_trans hlek84 hlek120), hdone, hsn3, hw124, hm125, hpk126, hnp127⟩)))))
 omega
 refine wp_exit (s_thenE (s_lopE (s_blkE (s_then (s_seq (c_reg ?_))))))
 refine qd rfl rfl rfl (r_move (v := lv2) rfl) (qd rfl rfl rfl (r_assign (v := lv2) rfl) (qe (s_then ?_)))
 refine wp_ret (s_ret (c_ret1 (v := lv2) rfl rfl rfl ?_))
 have hkk : k2 = ls2.length := by omega
 rw [hkk] at hpt2
 exact ⟨_, _, _, rfl, hw88, hpt2, hX87⟩

end PA1
end Go.Proofs.YtbfhkngkfadmnaaGreatDoor

set_option maxRecDepth 20000
set_option maxHeartbeats 2000000
namespace Go.Proofs.YtbfhkngkfadmnaaGreatDoor
namespace SO1
open Go.RowKit Go.GL Go.Proofs
open B1










theorem cmpB_spec {w : World} {G : Pin} {p : Nat} {L R B : Value} {mm : PM} {q : PSt} (hP : Pins G w) (hpk : Pk 32 3 G w p L R B mm q) (hok : PoolOk q) {bx : Nat} (hbx : BxP G bx [.pointer (some ⟨p, 0, none⟩)]) {a b : Int} (ha : PlaceOk q a) (hb : PlaceOk q b) :
  Calls Tryz.prog 45 [(.int .i64 a), (.int .i64 b), (.pointer (some ⟨bx, 0, none⟩))].toArray w fun e w' => e = .returned (.int .i64 (cmpI (bn q a) (bn q b))) ∧ ∃ n os, w' = Go.Sort.grow (w.drewN n) os := by
 refine s_enter (n := 21) Tryz.func45 Tryz.ntmps45 rfl rfl ?_
 have hX0 : Ext noS G w G w := Ext.refl hP
 have hpin : PIn w (inP p L R B mm) p L R B mm := PIn.self
 have hml1 : (q.ns.map Nd.l).length = q.ns.length ∧ (q.ns.map Nd.r).length = q.ns.length := ⟨List.length_map .., List.length_map ..⟩
 have hml2 : q.bs.length = q.ns.length ∧ q.ns.length ≤ 1048576 := ⟨hok.ar.ok.len, hok.ar.ok.lim⟩
 have ha0 := ha.1
 have ha1 := ha.2
 have hb0 := hb.1
 have hb1 := hb.2
 refine s_seq (c_reg ?_)
 refine qd rfl rfl rfl (r_assign (v := (.int .i64 0)) rfl) (qe (s_then (s_seq ?_)))
 have hq3 := Gadd.pins hX0.pins B
 have hr4 := hpk.ob.read
 refine c_draw (S := fun wz => Pins G wz ∧ BxR wz p [L, R, B, (.map (some mm.f)), (.map (some mm.o)), (.map (some mm.c)), (.map (some mm.s)), (.map (some mm.n))] ∧ Pins (Gadd G w B) wz) (last := 16) (by kernel_rfl) rfl ?_
 have hl5 : Below w.heap.size w w.drew := (Below.refl _ _).drew
 have hp6 := hX0.pins.below hl5
 have hdr7 : w.drew.drawn = w.drawn + 1 := rfl
 have hX8 := hX0.step hp6 hl5
 have hpk9 := hpk.below hl5 hp6
 have hq10 := hq3.below hl5
 refine dr_take (i := 0) rfl rfl rfl (want_none rfl _) (by kernel_rfl) (fun _ hS => r_ldp1 (u := (.pointer (some ⟨p, 0, none⟩))) ag41 rfl (hS.1 _ _ _ (hbx 0 _ rfl))) ⟨hX8.pins, hpk9.bx.reads, hq10⟩ (dr_take (i := 1) rfl rfl rfl (want_none rfl _) (by kernel_rfl) (fun _ _ => r_nil rfl) ⟨hX8.pins, hpk9.bx.reads, hq10⟩ (dr_take (i := 2) rfl rfl rfl (want_none rfl _) (by kernel_rfl) (fun _ _ => r_fldp (k := 2) rfl Tryz.underlying69 rfl nz32 rfl) ⟨hX8.pins, hpk9.bx.reads, hq10⟩ (dr_take (i := 3) rfl rfl rfl (want_none rfl _) (by kernel_rfl) (fun _ hS => r_ldp1 (u := B) ag32 rfl (hS.2.1 2 _ rfl)) ⟨hX8.pins, hpk9.bx.reads, hq10⟩ (dr_take (i := 4) rfl rfl rfl (want_none rfl _) (by kernel_rfl) (fun _ _ => r_move (v := (.int .i64 a)) rfl) ⟨hX8.pins, hpk9.bx.reads, hq10⟩ (dr_take (i := 5) rfl rfl rfl (want_none rfl _) (by kernel_rfl) (fun _ _ => run_idx Tryz.underlying32 sz3 (v := B) rfl rfl hr4 (by omega) (by omega)) ⟨hX8.pins, hpk9.bx.reads, hq10⟩ (dr_take (i := 6) rfl rfl rfl (want_none rfl _) (by kernel_rfl) (fun _ hS => run_load_int (r := q.bs.getD (a).toNat 0) rfl ag3 (z := a) rfl hr4 hS.2.2 (by omega) (by omega)) ⟨hX8.pins, hpk9.bx.reads, hq10⟩ (dr_take (i := 7) rfl rfl rfl (want_none rfl _) (by kernel_rfl) (fun _ hS => r_ldp1 (u := (.pointer (some ⟨p, 0, none⟩))) ag41 rfl (hS.1 _ _ _ (hbx 0 _ rfl))) ⟨hX8.pins, hpk9.bx.reads, hq10⟩ (dr_take (i := 8) rfl rfl rfl (want_none rfl _) (by kernel_rfl) (fun _ _ => r_nil rfl) ⟨hX8.pins, hpk9.bx.reads, hq10⟩ (dr_take (i := 9) rfl rfl rfl (want_none rfl _) (by kernel_rfl) (fun _ _ => r_fldp (k := 2) rfl Tryz.underlying69 rfl nz32 rfl) ⟨hX8.pins, hpk9.bx.reads, hq10⟩ (dr_take (i := 10) rfl rfl rfl (want_none rfl _) (by kernel_rfl) (fun _ hS => r_ldp1 (u := B) ag32 rfl (hS.2.1 2 _ rfl)) ⟨hX8.pins, hpk9.bx.reads, hq10⟩ (dr_take (i := 11) rfl rfl rfl (want_none rfl _) (by kernel_rfl) (fun _ _ => r_move (v := (.int .i64 b)) rfl) ⟨hX8.pins, hpk9.bx.reads, hq10⟩ (dr_take (i := 12) rfl rfl rfl (want_none rfl _) (by kernel_rfl) (fun _ _ => run_idx Tryz.underlying32 sz3 (v := B) rfl rfl hr4 (by omega) (by omega)) ⟨hX8.pins, hpk9.bx.reads, hq10⟩ (dr_take (i := 13) rfl rfl rfl (want_none rfl _) (by kernel_rfl) (fun _ hS => run_load_int (r := q.bs.getD (b).toNat 0) rfl ag3 (z := b) rfl hr4 hS.2.2 (by omega) (by omega)) ⟨hX8.pins, hpk9.bx.reads, hq10⟩ (dr_one (i := 14) (by kernel_rfl) (drOp1 (i := 14) rfl rfl rfl (want_none rfl _) (o_call (vs := [(.int .i64 (q.bs.getD (a).toNat 0)), (.int .i64 (q.bs.getD (b).toNat 0))]) Tryz.func46 nm46 rfl rfl rfl ?_))))))))))))))))
 refine Calls.mono (cmpCompare_spec hX8.pins) ?_
 rintro _ _ ⟨rfl, rfl⟩
 refine ⟨_, rfl, ?_⟩
 refine ⟨fun _ => ⟨hX8.pins, hpk9.bx.reads, hq10⟩, ?_⟩
 exact dr_take (i := 15) rfl rfl rfl (want_none rfl _) (by kernel_rfl) (fun _ _ => r_assign (v := (.int .i64 (cmpI (q.bs.getD (a).toNat 0) (q.bs.getD (b).toNat 0)))) rfl) ⟨hX8.pins, hpk9.bx.reads, hq10⟩ (dr_end (by kernel_rfl) (s_then (wp_ret (s_ret (c_ret1 (v := (.int .i64 (cmpI (q.bs.getD (a).toNat 0) (q.bs.getD (b).toNat 0)))) rfl rfl rfl (⟨rfl, grow_of hX8.below (by omega)⟩))))))

theorem cmpE_spec {w : World} {G : Pin} {x y : Ent} (hP : Pins G w) (hx : EntOk G x) (hy : EntOk G y) :
  Calls Tryz.prog 49 [(.agg [(.int .i64 x.id), x.l, x.r].toArray), (.agg [(.int .i64 y.id), y.l, y.r].toArray)].toArray w fun e w' => e = .returned (.int .i64 (orL [cmpL x.nd.l y.nd.l, cmpL x.nd.r y.nd.r])) ∧ ∃ n os, w' = Go.Sort.grow (w.drewN n) os := by
 refine s_enter (n := 21) Tryz.func49 Tryz.ntmps49 rfl rfl ?_
 have hX0 : Ext noS G w G w := Ext.refl hP
 refine s_seq (c_reg ?_)
 refine q1 rfl rfl rfl (o_boxd [(.int .i64 x.id), x.l, x.r] (v := (.agg [(.int .i64 x.id), x.l, x.r].toArray)) rfl rfl hX0.pins (fun b1 w2 hdn7 hk3 hb4 hp5 hl6 => ?_))
 have hX8 := hX0.step hp5 hl6
 have hlo9 : w.heap.size ≤ b1 := by have := hX0.size; omega
 obtain ⟨G10, hle11, hX12, hbp13, hf14⟩ := hb4.shut hX8 hlo9
 refine q1 rfl rfl rfl (o_boxd [(.int .i64 y.id), y.l, y.r] (v := (.agg [(.int .i64 y.id), y.l, y.r].toArray)) rfl rfl hX12.pins (fun b15 w16 hdn21 hk17 hb18 hp19 hl20 => ?_))
 have hX22 := hX12.step hp19 hl20
 have hlo23 : w.heap.size ≤ b15 := by have := hX12.size; omega
 obtain ⟨G24, hle25, hX26, hbp27, hf28⟩ := hb18.shut hX22 hlo23
 refine qd rfl rfl rfl (r_assign (v := (.int .i64 0)) rfl) (qe (s_then (s_seq ?_)))
 refine c_draw (S := fun wz => Pins G24 wz) (last := 17) (by kernel_rfl) rfl ?_
 have hl29 : Below w16.heap.size w16 w16.drew := (Below.refl _ _).drew
 have hp30 := hX26.pins.below hl29
 have hdr31 : w16.drew.drawn = w16.drawn + 1 := rfl
 have hX32 := hX26.step hp30 hl29
 refine dr_take (i := 0) rfl rfl rfl (want_none rfl _) (by kernel_rfl) (fun _ _ => r_fldp (k := 1) rfl Tryz.underlying89 rfl nz58 rfl) hX32.pins (dr_take (i := 1) rfl rfl rfl (want_none rfl _) (by kernel_rfl) (fun _ _ => r_fldp (k := 1) rfl Tryz.underlying58 rfl nz32 rfl) hX32.pins (dr_take (i := 2) rfl rfl rfl (want_none rfl _) (by kernel_rfl) (fun _ hS => r_ldp1 (u := x.l) ag32 rfl ((Pins.of_le hS hle25) _ _ _ (hbp13 1 _ rfl))) hX32.pins (dr_take (i := 3) rfl rfl rfl (want_none rfl _) (by kernel_rfl) (fun _ _ => r_fldp (k := 1) rfl Tryz.underlying89 rfl nz58 rfl) hX32.pins (dr_take (i := 4) rfl rfl rfl (want_none rfl _) (by kernel_rfl) (fun _ _ => r_fldp (k := 1) rfl Tryz.underlying58 rfl nz32 rfl) hX32.pins (dr_take (i := 5) rfl rfl rfl (want_none rfl _) (by kernel_rfl) (fun _ hS => r_ldp1 (u := y.l) ag32 rfl (hS _ _ _ (hbp27 1 _ rfl))) hX32.pins (dr_take (i := 7) rfl rfl rfl (want_none rfl _) (by kernel_rfl) (fun _ _ => r_fldp (k := 1) rfl Tryz.underlying89 rfl nz58 rfl) hX32.pins (dr_take (i := 8) rfl rfl rfl (want_none rfl _) (by kernel_rfl) (fun _ _ => r_fldp (k := 2) rfl Tryz.underlying58 rfl nz32 rfl) hX32.pins (dr_take (i := 9) rfl rfl rfl (want_none rfl _) (by kernel_rfl) (fun _ hS => r_ldp1 (u := x.r) ag32 rfl ((Pins.of_le hS hle25) _ _ _ (hbp13 2 _ rfl))) hX32.pins (dr_take (i := 10) rfl rfl rfl (want_none rfl _) (by kernel_rfl) (fun _ _ => r_fldp (k := 1) rfl Tryz.underlying89 rfl nz58 rfl) hX32.pins (dr_take (i := 11) rfl rfl rfl (want_none rfl _) (by kernel_rfl) (fun _ _ => r_fldp (k := 2) rfl Tryz.underlying58 rfl nz32 rfl) hX32.pins (dr_take (i := 12) rfl rfl rfl (want_none rfl _) (by kernel_rfl) (fun _ hS => r_ldp1 (u := y.r) ag32 rfl (hS _ _ _ (hbp27 2 _ rfl))) hX32.pins (dr_one (i := 6) (by kernel_rfl) (drOp1 (i := 6) rfl rfl rfl (want_none rfl _) (o_call (vs := [x.l, y.l]) Tryz.func51 nm51 rfl rfl rfl ?_))))))))))))))
 refine Calls.mono (slCompare_spec hX32.pins (hx.1.mono (Pin.le_trans hle11 hle25)) (hy.1.mono (Pin.le_trans hle11 hle25))) ?_
 rintro _ _ ⟨rfl, rfl⟩
 refine ⟨_, rfl, ?_⟩
 refine ⟨fun _ => hX32.pins, ?_⟩
 refine dr_one (i := 13) (by kernel_rfl) (drOp1 (i := 13) rfl rfl rfl (want_none rfl _) (o_call (vs := [x.r, y.r]) Tryz.func51 nm51 rfl rfl rfl ?_))
 refine Calls.mono (slCompare_spec hX32.pins (hx.2.1.mono (Pin.le_trans hle11 hle25)) (hy.2.1.mono (Pin.le_trans hle11 hle25))) ?_
 rintro _ _ ⟨rfl, rfl⟩
 refine ⟨_, rfl, ?_⟩
 refine ⟨fun _ => hX32.pins, ?_⟩
 refine dr_one (i := 14) (by kernel_rfl) (drOp1 (i := 14) rfl rfl rfl (want_none rfl _) (o_buildFd (E := eInt) (e := 3) [(.int .i64 (cmpL x.nd.l y.nd.l)), (.int .i64 (cmpL x.nd.r y.nd.r))] [cmpL x.nd.l y.nd.l, cmpL x.nd.r y.nd.r] Tryz.underlying32 sz3 zr3 (by exact reps2 (by rfl) (by rfl)) (ones2 (by rfl) (by rfl)) rfl rfl rfl rfl (by decide) hX32.pins (fun u33 w34 hdn39 ho35 hp36 hl37 hk38 => ?_)))
 have hX40 := hX32.step hp36 hl37
 have ho41 : Own eInt 3 G24 w34 w.heap.size u33 ([cmpL x.nd.l y.nd.l, cmpL x.nd.r y.nd.r]) := ho35.weaken hX32.size
 refine ⟨fun _ => hX40.pins, ?_⟩
 obtain ⟨G42, hle45, hX44, hr43, hf46⟩ := ho41.sealed hX40
 refine dr_one (i := 15) (by kernel_rfl) (drOp1 (i := 15) rfl rfl rfl (want_none rfl _) (o_call (vs := [u33]) Tryz.func50 nm50 rfl rfl rfl ?_))
 refine Calls.mono (cmpOr_spec hX44.pins hr43) ?_
 rintro _ _ ⟨rfl, rfl⟩
 refine ⟨_, rfl, ?_⟩
 refine ⟨fun _ => (Pins.of_le hX44.pins hle45), ?_⟩
 exact dr_take (i := 16) rfl rfl rfl (want_none rfl _) (by kernel_rfl) (fun _ _ => r_assign (v := (.int .i64 (orL ([cmpL x.nd.l y.nd.l, cmpL x.nd.r y.nd.r])))) rfl) (Pins.of_le hX44.pins hle45) (dr_end (by kernel_rfl) (s_then (wp_ret (s_ret (c_ret1 (v := (.int .i64 (orL ([cmpL x.nd.l y.nd.l, cmpL x.nd.r y.nd.r])))) rfl rfl rfl (⟨rfl, grow_of hX44.below (by omega)⟩))))))

theorem sortB_spec {w : World} {G : Pin} {p : Nat} {L R B : Value} {mm : PM} {q : PSt} (hP : Pins G w) (hpk : Pk 32 3 G w p L R B mm q) (hok : PoolOk q) {bx base : Nat} (hbx : BxP G bx [.pointer (some ⟨p, 0, none⟩)]) {v : Value} {zs : List Int} (hv : Own eInt 3 G w base v zs) (hz : ∀ z ∈ zs, PlaceOk q z) (hnp : NP p L R B mm v.ownBlock) (hl : zs.length ≤ 1048576) :
  Calls Tryz.prog 44 [v, (.func (.func 45) #[] #[(.pointer (some ⟨bx, 0, none⟩))])].toArray w fun en w' => ∃ ys : List Int, en = .returned (.tuple #[]) ∧ Own eInt 3 G w' base v ys ∧ ys.Perm zs ∧ (∀ i j, i < j → j < ys.length → bn q (ys.getD i 0) ≤ bn q (ys.getD j 0)) ∧ Ext (inO v.ownBlock) G w G w' := by
 have hnone : ∀ a cap, v = .slice a 0 cap → zs = [] → Calls Tryz.prog 44 [v, (.func (.func 45) #[] #[(.pointer (some ⟨bx, 0, none⟩))])].toArray w fun en w' => ∃ ys : List Int, en = .returned (.tuple #[]) ∧ Own eInt 3 G w' base v ys ∧ ys.Perm zs ∧ (∀ i j, i < j → j < ys.length → bn q (ys.getD i 0) ≤ bn q (ys.getD j 0)) ∧ Ext (inO v.ownBlock) G w G w' := by
  rintro a cap rfl rfl
  refine (Tryz.slices_SortFunc_none (α := Int) a cap _ w).mono ?_
  rintro en w' ⟨rfl, rfl⟩
  exact ⟨[], rfl, hv, List.Perm.refl _, fun i j _ hj => absurd hj (Nat.not_lt_zero j), Ext.refl hP⟩
 rcases own_cases hv with ⟨hv0, hz0⟩ | ⟨g, cap, hvg⟩
 ·exact hnone _ _ hv0 hz0
 by_cases h0 : zs.length = 0
 ·exact hnone _ _ (by rw [hvg, h0]) (List.eq_nil_of_length_eq_zero h0)
 subst hvg
 letI : Inhabited (Plc q) := ⟨⟨zs.getD 0 0, hz _ (getD_mem (by omega))⟩⟩
 obtain ⟨_, h1, h2, h3⟩ := own_holds hv
 obtain ⟨d, hd⟩ : ∃ d, d = (plcs q zs hz).toArray := ⟨_, rfl⟩
 have hdm : d.map (·.1) = zs.toArray := by rw [hd]; simp only [List.map_toArray]; rw [plcs_val hz]
 have hds : d.size = zs.length := by have := congrArg Array.size hdm; simpa using this
 have hH : Go.Sort.Holds (fun x : Plc q => Value.int .i64 x.1) w g 0 d := holds_map (enc' := Value.int .i64) (f := fun x : Plc q => x.1) (fun _ => rfl) (by rw [hdm]; exact h3)
 have hcmp : Go.Proofs.CmpLays1 Tryz.prog 45 #[(.pointer (some ⟨bx, 0, none⟩))] (fun x : Plc q => Value.int .i64 x.1) (cfB q) g 0 d.size w := fun m os dk hs x y => by
  have hgr : w.grownBy (Go.Proofs.sortWorld (fun x : Plc q => Value.int .i64 x.1) w g 0 m dk os) (some g) := by
   unfold Go.Proofs.sortWorld
   rw [putRow_map (enc := fun x : Plc q => Value.int .i64 x.1) (enc' := id) (f := fun x : Plc q => Value.int .i64 x.1) (fun _ => rfl)]
   exact grownBy_put
  have hx := Ext.one (hP.grown hgr (fun k hk => by cases hk; exact hv.free g rfl)) hgr
  exact cmpB_spec hx.pins (hpk.extS hx fun k hk hs => hnp k hs hk) hok hbx x.2 y.2
 have hcon := Tryz.slices_SortFunc (fun x : Plc q => Value.int .i64 x.1) (fun _ => rfl) (cfB q) (swoB q) 45 #[(.pointer (some ⟨bx, 0, none⟩))] g 0 cap d w (Go.Proofs.enters_of Tryz.func45 (by kernel_rfl) rfl) hcmp hH h1 (by omega)
 rw [hds] at hcon
 refine hcon.mono ?_
 rintro en w' ⟨rfl, d', n, os, hp, hs, hw⟩
 rw [← hds] at hp hs
 obtain ⟨hsz, hpl⟩ := perm_list hp
 have hyl : (d'.map (·.1)).toList.length = zs.length := by simp [hsz, hds]
 obtain ⟨a, b, c⟩ := own_put (w' := w') (ys := (d'.map (·.1)).toList) (d := d'.map (·.1)) (os := os) (m := n) hv hP (by rw [hw]; unfold Go.Proofs.sortWorld; rw [putRow_map (enc := fun x : Plc q => Value.int .i64 x.1) (enc' := Value.int .i64) (f := fun x : Plc q => x.1) (fun _ => rfl)]) (by simp [hsz, hds]) (List.take_length ..)
 rw [hyl] at a
 refine ⟨_, rfl, a, ?_, fun i j hij hj => ?_, Ext.one b c⟩
 ·have h5 := hpl.map (·.1)
  have e2 : d.toList.map (·.1) = zs := by rw [hd]; exact plcs_val hz
  rw [e2] at h5; simpa using h5
 ·rw [hyl] at hj
  have h5 := hs i j (Nat.zero_le _) hij (by omega)
  rw [ltB] at h5
  have g1 : ∀ i, i < zs.length → (d'.map (·.1)).toList.getD i 0 = (d'[i]!).1 := fun i hi => by
   rw [getElem!_pos d' i (by omega)]
   simp [List.getD, show i < d'.size by omega]
  rw [g1 i (by omega), g1 j hj]
  have := of_decide_eq_false h5
  omega

theorem sortE_spec {w : World} {G : Pin} {base lo hi : Nat} {v : Value} {es : List Ent} {LV : List Leaf} (hP : Pins G w) (hv : Own eEnt 89 G w base v es) (hL : Lvs 3 G w lo hi LV) (hm : ∀ x ∈ es, (x.l, x.nd.l) ∈ LV ∧ (x.r, x.nd.r) ∈ LV) (hap : ApL LV v.ownBlock) (hl : es.length ≤ 1048576) :
  Calls Tryz.prog 48 [v, (.func (.func 49) #[] #[])].toArray w fun en w' => ∃ ys : List Ent, en = .returned (.tuple #[]) ∧ Own eEnt 89 G w' base v ys ∧ ys.Perm es ∧ (∀ i j, i < j → j < ys.length → ¬ aheadI (ys.getD j default).nd (ys.getD i default).nd < 0) ∧ Ext (inO v.ownBlock) G w G w' := by
 have hnone : ∀ a cap, v = .slice a 0 cap → es = [] → Calls Tryz.prog 48 [v, (.func (.func 49) #[] #[])].toArray w fun en w' => ∃ ys : List Ent, en = .returned (.tuple #[]) ∧ Own eEnt 89 G w' base v ys ∧ ys.Perm es ∧ (∀ i j, i < j → j < ys.length → ¬ aheadI (ys.getD j default).nd (ys.getD i default).nd < 0) ∧ Ext (inO v.ownBlock) G w G w' := by
  rintro a cap rfl rfl
  refine (Tryz.slices_SortFunc_ent_none (α := Int) a cap _ w).mono ?_
  rintro en w' ⟨rfl, rfl⟩
  exact ⟨[], rfl, hv, List.Perm.refl _, fun i j _ hj => absurd hj (Nat.not_lt_zero j), Ext.refl hP⟩
 rcases own_casesF hv with ⟨hv0, hz0⟩ | ⟨g, cap, hvg⟩
 ·exact hnone _ _ hv0 hz0
 by_cases h0 : es.length = 0
 ·exact hnone _ _ (by rw [hvg, h0]) (List.eq_nil_of_length_eq_zero h0)
 subst hvg
 have hz : ∀ x ∈ es, EntOk (GLv G w LV) x := fun x hx => ⟨hL.read (hm x hx).1, hL.read (hm x hx).2, (hL.own _ (hm x hx).1).one, (hL.own _ (hm x hx).2).one⟩
 letI : Inhabited (EntS (GLv G w LV)) := ⟨⟨es.getD 0 default, hz _ (getD_mem (by omega))⟩⟩
 obtain ⟨_, h1, cells, hcl, hr, hH0⟩ := own_cellsF hv
 obtain ⟨d, hd⟩ : ∃ d, d = (ents (GLv G w LV) es hz).toArray := ⟨_, rfl⟩
 have hdm : d.toList.map (·.1) = es := by rw [hd]; exact ents_val hz
 have hds : d.size = es.length := by have := congrArg List.length hdm; simpa using this
 have hdi : ∀ i, i < d.size → (d[i]!).1 = es.getD i default := fun i hi => by
  rw [getElem!_pos d i hi]
  have := congrArg (fun l : List Ent => l[i]?) hdm
  simp only [List.getElem?_map, Array.getElem?_toList, Array.getElem?_eq_getElem hi, Option.map_some] at this
  simp [List.getD, ← this]
 have hflat : Go.Sort.flatK (encE (G := GLv G w LV)) 3 d = cells.toArray := flatK_cells (by rw [hds]; exact hcl) fun i hi => by
  have h4 := hr i (es.getD i default) (by simp [List.getD, show i < es.length by omega])
  have h5 : (cells.drop (i * 3)).take 3 = [.int .i64 (es.getD i default).id, (es.getD i default).l, (es.getD i default).r] := h4.1
  rw [h5, ← hdi i hi]; rfl
 have hH : Go.Sort.HoldsK (encE (G := GLv G w LV)) 3 w g 0 d := by unfold Go.Sort.HoldsK; rw [hflat]; exact hH0
 have hcmp : Go.Proofs.CmpLays Tryz.prog 49 #[] (encE (G := GLv G w LV)) 3 cfE g 0 d.size w := fun m os dk hs x y => by
  have hgr : w.grownBy (Go.Proofs.sortWorldK (encE (G := GLv G w LV)) 3 w g 0 m dk os) (some g) := by
   unfold Go.Proofs.sortWorldK Go.Sort.putRowK
   exact grownBy_put
  have hpp : Pins (GLv G w LV) (Go.Proofs.sortWorldK (encE (G := GLv G w LV)) 3 w g 0 m dk os) := (GLv.pins hP).grown hgr fun k hk o u hG => by
   cases hk
   rcases hG with hG | ⟨⟨p, hp, hpo⟩, _⟩
   ·exact hv.free g rfl o u hG
   ·exact hap p hp g hpo rfl
  exact cmpE_spec hpp x.2 y.2
 have hcon := Tryz.slices_SortFunc_ent 3 (Go.GL.run_isAgg (by kernel_rfl)) (Go.GL.run_sizeOf (by kernel_rfl)) (encE (G := GLv G w LV)) (fun _ => rfl) (fun x u hu => by
  simp only [encE, List.mem_cons, List.not_mem_nil, or_false] at hu
  rcases hu with rfl | rfl | rfl
  ·rfl
  ·exact x.2.2.2.1
  ·exact x.2.2.2.2) cfE (swoE _) 49 #[] g 0 cap d w (Go.Proofs.enters_of Tryz.func49 (by kernel_rfl) rfl) hcmp hH h1 (by omega)
 rw [hds] at hcon
 refine hcon.mono ?_
 rintro en w' ⟨rfl, d', n, os, hp, hs, hw⟩
 rw [← hds] at hp hs
 obtain ⟨hsz, hpl⟩ := perm_list hp
 have hyl : (d'.toList.map (·.1)).length = es.length := by simp [hsz, hds]
 have g1 : ∀ i, i < es.length → (d'.toList.map (·.1)).getD i default = (d'[i]!).1 := fun i hi => by
  rw [getElem!_pos d' i (by omega)]
  simp [List.getD, show i < d'.size by omega]
 obtain ⟨a, b, c⟩ := own_putF (ys := d'.toList.map (·.1)) (F := Go.Sort.flatK (encE (G := GLv G w LV)) 3 d') (os := os) (m := n) hv hP hw (by rw [Go.Sort.size_flatK, hsz, hds]; rfl) hyl (fun i y hy => by
  have hi : i < es.length := by have := (List.getElem?_eq_some_iff.1 hy).1; omega
  have e1 := g1 i hi
  have e0 : (d'.toList.map (·.1)).getD i default = y := by rw [List.getD_eq_getElem?_getD, hy]; rfl
  have e2 : y = (d'[i]!).1 := e0.symm.trans e1
  have h5 := chunkK (enc := encE (G := GLv G w LV)) (k := 3) (fun _ => rfl) (d := d') (i := i) (by omega)
  refine ⟨h5.trans ?_, ?_, ?_⟩
  ·rw [e2]; rfl
  ·rw [e2]; exact (d'[i]!).2.2.2.1
  ·rw [e2]; exact (d'[i]!).2.2.2.2)
 refine ⟨_, rfl, a, ?_, fun i j hij hj => ?_, Ext.one b c⟩
 ·have h5 := hpl.map (·.1)
  rw [hdm] at h5; exact h5
 ·rw [hyl] at hj
  have h5 := hs i j (Nat.zero_le _) hij (by omega)
  rw [ltE] at h5
  rw [g1 i (by omega), g1 j hj]
  exact of_decide_eq_false h5

end SO1
end Go.Proofs.YtbfhkngkfadmnaaGreatDoor

set_option maxRecDepth 20000
set_option maxHeartbeats 2000000
namespace Go.Proofs.YtbfhkngkfadmnaaGreatDoor
namespace OD1
open Go.RowKit Go.GL Go.Proofs
open B1 PO1 PA1 SO1








theorem mk3 : (Tryz.prog.info? 3).map (fun i => (i.size, i.bytes, i.zero)) = some (1, 8, some (.int .i64 0)) := by kernel_rfl
theorem mk58 : (Tryz.prog.info? 58).map (fun i => (i.size, i.bytes, i.zero)) = some (2, 48, some (.agg #[(.slice none 0 0), (.slice none 0 0)])) := by kernel_rfl









theorem pl58 : (Tryz.prog.underlying 58).bind (placesD Tryz.prog) = some [(0, 1), (1, 1)] := by kernel_rfl
theorem pl89 : (Tryz.prog.underlying 89).bind (placesD Tryz.prog) = some [(0, 1), (1, 2)] := by kernel_rfl







theorem ranked_spec {w : World} {G : Pin} {v : Value} {xs : List Int} {m : Nat} {rk : List (Int × Int)} (hP : Pins G w) (hv : RSl eInt G v xs) (hmp : Mp (fun k : Int => Value.int .i64 k) (fun v : Int => Value.int .i64 v) w m rk) (hs : xs.length ≤ 1048576) :
  Calls Tryz.prog 47 [v, (.map (some m))].toArray w fun e w' => ∃ (u : Value) (G' : Pin), e = .returned u ∧ Own eInt 3 G' w' w.heap.size u (sortM (xs.map (rkI rk))) ∧ Ext noS G w G' w' := by
 refine s_enter (n := 28) Tryz.func47 Tryz.ntmps47 rfl rfl ?_
 have hX0 : Ext noS G w G w := Ext.refl hP
 have hm := hv.max
 have hal : (xs.map (rkI rk)).length = xs.length := List.length_map ..
 have hrl : (List.replicate xs.length (0 : Int)).length = xs.length := List.length_replicate
 refine s_seq (c_reg ?_)
 refine qd rfl rfl rfl (r_assign (v := (.slice none 0 0)) rfl) (qe (s_then (s_seq (c_reg ?_))))
 refine qd rfl rfl rfl (r_move (v := v) rfl) (qd rfl rfl rfl (run_len Tryz.underlying32 (v := v) rfl hv) (q1 rfl rfl rfl (o_make (E := eInt) 0 8 (.int .i64 0) Tryz.underlying32 mk3 (fun _ => rfl) rfl rfl hX0.pins (by omega) (by omega) (by omega) (fun u1 w2 ho3 hp4 hl5 hk6 => ?_))))
 have hX7 := hX0.step hp4 hl5
 have hm8 := hmp.below hl5
 have ho9 : Own eInt 3 G w2 w.heap.size u1 (List.replicate xs.length 0) := ho3.weaken hX0.size
 have hm10 : (List.replicate xs.length 0).length = xs.length := List.length_replicate ..
 refine qd rfl rfl rfl (r_assign (v := u1) rfl) (qe (s_then (s_seq (s_seq (c_reg ?_)))))
 refine qd rfl rfl rfl (r_move (v := v) rfl) (qd rfl rfl rfl (run_len Tryz.underlying32 (v := v) rfl hv) (qd rfl rfl rfl (r_move (v := (.int .i64 0)) rfl) (qe (s_then ?_))))
 refine s_blk (s_loop (fun (k : Nat) (en : Nat → Value) (W : World) => ∃ (env1 : Nat → Value) (j : Nat) (os : List Int), en = (upd (upd (upd (upd (upd (upd env1 1 (.map (some m))) 4 (.slice none 0 0)) 5 u1) 11 v) 12 (.int .i64 (xs.length : Int))) 13 (.int .i64 (j : Int))) ∧ k = xs.length - j ∧ Ext noS G w G W ∧ (j ≤ xs.length) ∧ (os = (xs.map (rkI rk)).take j ++ (List.replicate xs.length 0).drop j) ∧ (os.length = xs.length) ∧ (Own eInt 3 G W w.heap.size u1 (os)) ∧ (Mp (fun k : Int => Value.int .i64 k) (fun v : Int => Value.int .i64 v) W m (rk))) _ ⟨_, 0, List.replicate xs.length 0, (packS (x := 13) (packS (x := 12) (packS (x := 11) (packS (x := 5) (packS (x := 4) (pack1 (x := 1) rfl) rfl) rfl) rfl) rfl) rfl), rfl, hX7, Nat.zero_le _, rfl, hrl, ho9, hm8⟩ ?_)
 rintro k11 _ w12 ⟨env1, j, os, rfl, hk13, hX14, hj, hr, hol, hw15, hm16⟩
 refine s_seq (c_reg ?_)
 refine qd rfl rfl rfl (r_lss rfl rfl) (qe (s_then (s_seq ?_)))
 refine c_ifd (p := ((j : Int) : Int) < (xs.length : Int)) rfl rfl (fun h17 => ?_) (fun h17 => ?_)
 refine wp_skip (s_then (s_seq ?_))
 refine s_blk (s_seq (c_reg ?_))
 refine qd rfl rfl rfl (r_move (v := (.int .i64 (j : Int))) rfl) (qd rfl rfl rfl (run_idx Tryz.underlying32 sz3 (v := v) rfl rfl hv (by omega) (by omega)) (qd rfl rfl rfl (run_load_int (r := xs.getD j 0) rfl ag3 (z := (j : Int)) rfl hv hX14.pins (by omega) (by omega)) (qd rfl rfl rfl (r_assign (v := (.int .i64 (j : Int))) rfl) (qd rfl rfl rfl (r_assign (v := (.int .i64 (xs.getD j 0))) rfl) (qe (s_then (c_reg ?_)))))))
 refine qd rfl rfl rfl (r_move (v := u1) rfl) (qd rfl rfl rfl (r_move (v := (.int .i64 (j : Int))) rfl) (qd rfl rfl rfl (r_move (v := (.map (some m))) rfl) (qd rfl rfl rfl (r_move (v := (.int .i64 (xs.getD j 0))) rfl) (qd rfl rfl rfl (run_look1_int (k := (xs.getD j 0)) (key_int Tryz.underlying3) Tryz.underlying65 zr3 hm16 rfl rfl) (qd rfl rfl rfl (run_idx Tryz.underlying32 sz3 (v := u1) rfl rfl hw15.read (by omega) (by omega)) (q0 rfl rfl rfl (o_set (E := eInt) (v := u1) (u := (.int .i64 ((Go.GL.look rk (xs.getD j 0)).getD 0))) (z := (j : Int)) ((Go.GL.look rk (xs.getD j 0)).getD 0) sz3 rfl rfl rfl rfl hX14.pins hw15 (by omega) (by omega) (fun w18 ho19 hp20 hg21 hz22 => ?_))))))))
 have hX23 := hX14.write hp20 hg21 ((lo_own hw15))
 have hm24 := hm16.kept hg21 (map_ne_own hm16 hw15)
 refine qe (s_blkN (s_then (c_reg ?_)))
 refine qd rfl rfl rfl (r_add rfl rfl (by omega)) (qd rfl rfl rfl (r_move (v := (.int .i64 ((j : Int) + 1))) rfl) (qe (s_lopN (⟨_, ?_, _, rfl, _, j + 1, (os).set j ((Go.GL.look rk (xs.getD j 0)).getD 0), (packS (x := 13) (packS (x := 12) (packS (x := 11) (packS (x := 5) (packS (x := 4) (pack1 (x := 1) rfl) rfl) rfl) rfl) rfl) rfl), rfl, hX23, (by omega), (by rw [hr]; exact cur_set 0 (by omega) (by omega) (rk_getD (by omega))), ((List.length_set ..).trans hol), ho19, hm24⟩))))
 omega
 refine wp_exit (s_thenE (s_lopE (s_blkE (s_then (s_seq (c_reg ?_))))))
 refine qd rfl rfl rfl (r_move (v := u1) rfl) (q1 rfl rfl rfl (o_call (vs := [u1]) Tryz.func61 nm61 rfl rfl rfl ?_))
 refine Calls.mono (sortI_spec hX14.pins hw15 (by omega)) ?_
 rintro _ w26 ⟨G25, rfl, ho27, hx28⟩
 refine ⟨_, rfl, ?_⟩
 have hX29 := hX14.trans hx28 (fun i hi => (lo_own hw15) i hi)
 have hm31 := sortM_length os
 refine qe (s_then (s_seq (c_reg ?_)))
 refine qd rfl rfl rfl (r_move (v := u1) rfl) (qd rfl rfl rfl (r_assign (v := u1) rfl) (qe (s_then ?_)))
 refine wp_ret (s_ret (c_ret1 (v := u1) rfl rfl rfl ?_))
 rw [cur_end (by omega) (by omega)] at hr
 exact ⟨_, _, rfl, (by rw [← hr]; exact ho27), hX29⟩

theorem order_spec {w : World} {G : Pin} {p : Nat} {L R B : Value} {mm : PM} {q : PSt} (hP : Pins G w) (hpk : Pk 32 3 G w p L R B mm q) (hok : PoolOk q) {x : Value} {xs : List Int} (hx : RSl eInt G x xs) (hr : ∀ i, i < xs.length → PlaceOk q (xs.getD i 0)) (hxl : xs.length ≤ 1048576) :
  Calls Tryz.prog 32 [(.pointer (some ⟨p, 0, none⟩)), x].toArray w fun e w' => ∃ (u v : Value) (ls : List Int) (ns : List Nd) (zs : List Int) (G' : Pin), e = .returned (.tuple #[u, v]) ∧ Own eInt 3 G' w' w.heap.size u ls ∧ DForm 58 3 G' w' w.heap.size w'.heap.size v ns ∧ OrI q zs ls ls.length ns ∧ PtOk q xs zs zs.length ∧ Ext noS G w G' w' := by
 refine s_enter (n := 122) Tryz.func32 Tryz.ntmps32 rfl rfl ?_
 have hX0 : Ext noS G w G w := Ext.refl hP
 have hpin : PIn w (inP p L R B mm) p L R B mm := PIn.self
 have hml1 : (q.ns.map Nd.l).length = q.ns.length ∧ (q.ns.map Nd.r).length = q.ns.length := ⟨List.length_map .., List.length_map ..⟩
 have hml2 : q.bs.length = q.ns.length ∧ q.ns.length ≤ 1048576 := ⟨hok.ar.ok.len, hok.ar.ok.lim⟩
 have hlv0 : Lvs 3 G w w.heap.size w.heap.size [] := Lvs.nil
 have hm := hx.max
 refine s_seq (c_reg ?_)
 refine q1 rfl rfl rfl (o_box [(.pointer (some ⟨p, 0, none⟩))] (v := (.pointer (some ⟨p, 0, none⟩))) rfl rfl hX0.pins (fun b3 w4 hk5 hb6 hp7 hl8 => ?_))
 have hX9 := hX0.step hp7 hl8
 have hlv10 := (hlv0.below hl8).top
 have hpk11 := hpk.below hl8 hp7
 have ha16 : ApL [] (some b3) := ApL.fresh hlv0 (fun k hk => by rw [(congrArg some hk5)] at hk; cases hk; exact Nat.le_refl _)
 have ha17 := hpk.new (x := (some b3)) (fun k hk => by rw [(congrArg some hk5)] at hk; cases hk; exact Nat.le_refl _)
 have hlo18 : w.heap.size ≤ b3 := by have := hX0.size; omega
 obtain ⟨G19, hle20, hX21, hbp22, hf23⟩ := hb6.shut hX9 hlo18
 have hlv24 := hlv10.more hle20 hf23 ha16
 have hpk25 := hpk11.more hle20 hf23 ha17
 refine qd rfl rfl rfl (r_assign (v := (.slice none 0 0)) rfl) (qd rfl rfl rfl (r_assign (v := (.slice none 0 0)) rfl) (qe (s_then (s_seq (c_reg ?_)))))
 refine qd rfl rfl rfl (r_ldp1 (u := (.pointer (some ⟨p, 0, none⟩))) ag41 rfl (hX21.pins _ _ _ (hbp22 0 _ rfl))) (qd rfl rfl rfl (r_move (v := x) rfl) (q1 rfl rfl rfl (o_call (vs := [(.pointer (some ⟨p, 0, none⟩)), x]) Tryz.func31 nm31 rfl rfl rfl ?_)))
 refine Calls.mono (parts_spec hX21.pins hpk25 hok (hx.mono hle20) hr hxl) ?_
 rintro _ w29 ⟨u26, zs27, G28, rfl, ho30, hpt31, hx32⟩
 refine ⟨_, rfl, ?_⟩
 have hX33 := hX21.tr hx32
 have hlv34 := (hlv24.ext hx32).top
 have hpk35 := hpk25.ext hx32
 have ha36 : ApL [] u26.ownBlock := ApL.fresh hlv24 (fun k hk => (ho30.lt k hk).1)
 have hnp37 := hpk25.new (x := u26.ownBlock) (fun k hk => (ho30.lt k hk).1)
 have ho38 : Own eInt 3 G28 w29 w.heap.size u26 zs27 := ho30.weaken hX21.size
 have hql39 := hpt31.len
 refine qd rfl rfl rfl (r_assign (v := u26) rfl) (qe (s_then (s_seq (c_reg ?_))))
 refine qd rfl rfl rfl (r_move (v := u26) rfl) (qd rfl rfl rfl (r_makeFunc [(.pointer (some ⟨b3, 0, none⟩))] rfl) (q1 rfl rfl rfl (o_call (vs := [u26, (.func (.func 45) #[] #[(.pointer (some ⟨b3, 0, none⟩))])]) Tryz.func44 nm44 rfl rfl rfl ?_)))
 refine Calls.mono (sortB_spec hX33.pins hpk35 hok (hbp22.mono hx32.le) ho38 hpt31.pl hnp37 (by omega)) ?_
 rintro _ w41 ⟨ys40, rfl, ho42, hperm43, hsrt44, hx45⟩
 refine ⟨_, rfl, ?_⟩
 have hX46 := hX33.trans hx45 (fun i hi => (lo_own ho38) i hi)
 have hlv47 := Lvs.turned hlv34 hx45 ha36
 have hpk48 := hpk35.extS hx45 (fun k hk hx => hnp37 k hx hk)
 have hm49 := hperm43.length_eq
 refine qe (s_then (s_seq (c_reg ?_)))
 refine q1 rfl rfl rfl (o_makeMap (fun k : Int => Value.int .i64 k) (fun v : Int => Value.int .i64 v) hX46.pins (fun m50 w51 hk52 hm53 hp54 hl55 => ?_))
 have hX56 := hX46.step hp54 hl55
 have ho57 := ho42.below hl55
 have hlv58 := (hlv47.below hl55).top
 have hpk59 := hpk48.below hl55 hp54
 have hnp60 := hpk48.new (x := some m50) (fun k hk => by cases hk; omega)
 have hlo61 : w.heap.size ≤ m50 := by have := hX46.size; omega
 refine qd rfl rfl rfl (r_assign (v := (.map (some m50))) rfl) (qe (s_then (s_seq (c_reg ?_))))
 refine qd rfl rfl rfl (r_move (v := u26) rfl) (qd rfl rfl rfl (run_len Tryz.underlying32 (v := u26) rfl ho57.read) (q1 rfl rfl rfl (o_make0 (E := eVal2) Tryz.underlying22 mk58 rfl rfl hX56.pins (by omega) (by omega) (by omega) (fun u62 w63 ho64 hp65 hl66 hk67 => ?_))))
 have hX68 := hX56.step hp65 hl66
 have ho69 := ho57.below hl66
 have hlv70 := (hlv58.below hl66).top
 have hm71 := hm53.below hl66
 have hpk72 := hpk59.below hl66 hp65
 have ha73 : Apart u62.ownBlock u26.ownBlock := new_ne_own hk67 ho57.lt
 have ha78 : ApL [] u62.ownBlock := ApL.fresh hlv58 (fun k hk => by rw [hk67] at hk; cases hk; exact Nat.le_refl _)
 have ha79 := hpk59.new (x := u62.ownBlock) (fun k hk => by rw [hk67] at hk; cases hk; exact Nat.le_refl _)
 have ho80 : Own eVal2 58 G28 w63 w.heap.size u62 ([]) := ho64.weaken hX56.size
 refine qd rfl rfl rfl (r_assign (v := u62) rfl) (qe (s_then (s_seq (s_seq (c_reg ?_)))))
 refine qd rfl rfl rfl (r_assign (v := (.int .i64 0)) rfl) (qe (s_then ?_))
 refine s_blk (s_loop (fun (k : Nat) (en : Nat → Value) (W : World) => ∃ (env1 : Nat → Value) (n : Nat) (nv : Value) (done : List Ent) (ps : List (Value × Value)) (rk : List (Int × Int)) (LV : List Leaf) (ls : List Int) (GL1 : Pin), en = (upd (upd (upd (upd (upd (upd (upd env1 2 (.pointer (some ⟨b3, 0, none⟩))) 4 (.slice none 0 0)) 5 (.slice none 0 0)) 6 u26) 7 (.map (some m50))) 8 nv) 9 (.int .i64 (n : Int))) ∧ k = ls.length - n ∧ Ext noS G w GL1 W ∧ Pin.le G28 GL1 ∧ (OrI q zs27 ls n (done.map Ent.nd)) ∧ (RkOk ls n rk) ∧ (LV.Perm (lvE done)) ∧ (ps = done.map Ent.pr) ∧ (Own eInt 3 GL1 W w.heap.size u26 (ls)) ∧ (Own eVal2 58 GL1 W w.heap.size nv (ps)) ∧ (Apart u26.ownBlock nv.ownBlock) ∧ (Lvs 3 GL1 W w.heap.size W.heap.size LV) ∧ (ApL LV u26.ownBlock) ∧ (ApL LV nv.ownBlock) ∧ (Mp (fun k : Int => Value.int .i64 k) (fun v : Int => Value.int .i64 v) W m50 (rk)) ∧ (Pk 32 3 GL1 W p L R B mm q) ∧ (NP p L R B mm nv.ownBlock)) _ ⟨_, 0, u62, [], [], [], [], ys40, G28, (packS (x := 9) (packS (x := 8) (packS (x := 7) (packS (x := 6) (packS (x := 5) (packS (x := 4) (pack1 (x := 2) rfl) rfl) rfl) rfl) rfl) rfl) rfl), rfl, hX68, Pin.le_refl _, (OrI.start hperm43 hsrt44), (fun i hi => absurd hi (Nat.not_lt_zero i)), (List.Perm.refl _), rfl, ho69, ho80, ha73.symm, hlv70, ha36, ha78, hm71, hpk72, ha79⟩ ?_)
 rintro k85 _ w86 ⟨env1, n, nv, done, ps, rk, LV, ls, GL1, rfl, hk87, hX88, hlek85, hor, hrk, hLV, hps, hw89, hw90, ha91, hlv92, ha93, ha94, hm95, hpk96, hnp97⟩
 have hll := hor.perm.length_eq
 have hnl := hor.nl
 have hdl : done.length = n := by have := hor.len; simpa using this
 have hpsl : ps.length = n := by rw [hps, List.length_map]; exact hdl
 have hplk : ∀ i, i < ls.length → 0 ≤ ls.getD i 0 ∧ ls.getD i 0 < q.ns.length := fun i hi => hpt31.pl _ (hor.mem.1 (getD_mem hi))
 refine s_seq (s_seq (c_reg ?_))
 refine qd rfl rfl rfl (r_move (v := (.int .i64 (n : Int))) rfl) (qd rfl rfl rfl (r_move (v := u26) rfl) (qd rfl rfl rfl (run_len Tryz.underlying32 (v := u26) rfl hw89.read) (qd rfl rfl rfl (r_lss rfl rfl) (qe (s_then ?_)))))
 refine c_ifd (p := ((n : Int) : Int) < (ls.length : Int)) rfl rfl (fun h98 => ?_) (fun h98 => ?_)
 have hzn := hplk n (by omega)
 refine wp_skip (s_then (s_blk (s_seq (c_reg ?_))))
 refine q1 rfl rfl rfl (o_build0 (E := eEnt) (e := 89) Tryz.underlying86 sz89 hX88.pins (fun u99 w100 ho101 hp102 hl103 hk104 => ?_))
 have hX105 := hX88.step hp102 hl103
 have ho106 := hw89.below hl103
 have ho107 := hw90.below hl103
 have hlv108 := (hlv92.below hl103).top
 have hm109 := hm95.below hl103
 have hpk110 := hpk96.below hl103 hp102
 have ha111 : Apart u99.ownBlock u26.ownBlock := new_ne_own hk104 hw89.lt
 have ha112 : Apart u99.ownBlock nv.ownBlock := new_ne_own hk104 hw90.lt
 have ha117 : ApL LV u99.ownBlock := ApL.fresh hlv92 (fun k hk => by rw [hk104] at hk; cases hk; exact Nat.le_refl _)
 have ha118 := hpk96.new (x := u99.ownBlock) (fun k hk => by rw [hk104] at hk; cases hk; exact Nat.le_refl _)
 have ho119 : Own eEnt 89 GL1 w100 w.heap.size u99 ([]) := ho101.weaken hX88.size
 refine qd rfl rfl rfl (r_assign (v := u99) rfl) (qe (s_then (s_seq (s_seq (c_reg ?_)))))
 refine qd rfl rfl rfl (r_move (v := (.int .i64 (n : Int))) rfl) (qd rfl rfl rfl (r_assign (v := (.int .i64 (n : Int))) rfl) (qe (s_then ?_)))
 refine s_blk (c_cutE (fun (en : Nat → Value) (W : World) => ∃ (env1 : Nat → Value) (kk : Nat) (gv : Value) (gs : List Ent) (LV2 : List Leaf) (GL2 : Pin), en = (upd (upd (upd (upd (upd (upd (upd (upd (upd env1 2 (.pointer (some ⟨b3, 0, none⟩))) 4 (.slice none 0 0)) 5 (.slice none 0 0)) 6 u26) 7 (.map (some m50))) 8 nv) 9 (.int .i64 (n : Int))) 10 gv) 11 (.int .i64 (kk : Int))) ∧ Ext noS G w GL2 W ∧ Pin.le GL1 GL2 ∧ (kk = n + gs.length) ∧ (GrI q ls n (gs.map Ent.gn)) ∧ (LV2.Perm (lvE done ++ lvE gs)) ∧ (n + gs.length = ls.length ∨ bn q (ls.getD (n + gs.length) 0) ≠ bn q (ls.getD n 0)) ∧ (Own eEnt 89 GL2 W w.heap.size gv (gs)) ∧ (Own eInt 3 GL2 W w.heap.size u26 (ls)) ∧ (Own eVal2 58 GL2 W w.heap.size nv (ps)) ∧ (Apart gv.ownBlock u26.ownBlock) ∧ (Apart gv.ownBlock nv.ownBlock) ∧ (Lvs 3 GL2 W w.heap.size W.heap.size LV2) ∧ (ApL LV2 gv.ownBlock) ∧ (ApL LV2 u26.ownBlock) ∧ (ApL LV2 nv.ownBlock) ∧ (Mp (fun k : Int => Value.int .i64 k) (fun v : Int => Value.int .i64 v) W m50 (rk)) ∧ (Pk 32 3 GL2 W p L R B mm q) ∧ (NP p L R B mm gv.ownBlock)) 2 ?_ ?_)
 ·rintro _ w125 ⟨env1, kk, gv, gs, LV2, GL2, rfl, hX127, hlek124, hkk, hgr, hLV2, hend, hw128, hw129, hw130, ha131, ha132, hlv133, ha134, ha135, ha136, hm137, hpk138, hnp139⟩
  have hgl := hgr.le
  rw [List.length_map] at hgl
  have hg1 : 0 < gs.length := Nat.pos_of_ne_zero fun h => hend.elim (fun e => by omega) (fun e => by rw [h] at e; exact e rfl)
  refine s_blkE (s_then (s_seq (c_reg ?_)))
  refine qd rfl rfl rfl (r_move (v := gv) rfl) (q1 rfl rfl rfl (o_call (vs := [gv, (.func (.func 49) #[] #[])]) Tryz.func48 nm48 rfl rfl rfl ?_))
  refine Calls.mono (sortE_spec hX127.pins hw128 hlv133 (fun x hx => ⟨hLV2.mem_iff.2 (List.mem_append_right _ (lvE_mem hx).1), hLV2.mem_iff.2 (List.mem_append_right _ (lvE_mem hx).2)⟩) ha134 (by omega)) ?_
  rintro _ w141 ⟨gs140, rfl, ho142, hperm143, hasc144, hx145⟩
  refine ⟨_, rfl, ?_⟩
  have hX146 := hX127.trans hx145 (fun i hi => (lo_own hw128) i hi)
  have ho147 := hw129.extS hx145 (notO ha131.symm)
  have ho148 := hw130.extS hx145 (notO ha132.symm)
  have hlv149 := Lvs.turned hlv133 hx145 ha134
  have hm150 := hm137.extS hx145 (notOb (map_ne_own hm137 hw128))
  have hpk151 := hpk138.extS hx145 (fun k hk hx => hnp139 k hx hk)
  have hm152 := hperm143.length_eq
  refine qe (s_then (s_seq (s_seq (c_reg ?_))))
  refine qd rfl rfl rfl (r_move (v := gv) rfl) (qd rfl rfl rfl (run_len Tryz.underlying86 (v := gv) rfl ho142.read) (qd rfl rfl rfl (r_move (v := (.int .i64 0)) rfl) (qe (s_then ?_))))
  refine s_blk ?_
  have hgp : (gs140.map Ent.gn).Perm (gs.map Ent.gn) := hperm143.map _
  have hgl2 : n + gs140.length ≤ ls.length := by omega
  have hRl : (regroup ls n (gs140.map Ent.gn)).length = ls.length := regroup_length (by rw [List.length_map]; omega)
  have hRn : (regroup ls n (gs140.map Ent.gn)).Nodup := (regroup_perm hgr hgp).nodup_iff.2 (hor.perm.nodup_iff.2 hpt31.nd)
  refine s_loop (fun (k : Nat) (en : Nat → Value) (W : World) => ∃ (env1 : Nat → Value) (j : Nat) (nv3 : Value) (ls3 : List Int) (ps3 : List (Value × Value)) (rk3 : List (Int × Int)) (GL3 : Pin), en = (upd (upd (upd (upd (upd (upd (upd (upd (upd (upd (upd env1 2 (.pointer (some ⟨b3, 0, none⟩))) 4 (.slice none 0 0)) 5 (.slice none 0 0)) 6 u26) 7 (.map (some m50))) 8 nv3) 9 (.int .i64 (n : Int))) 10 gv) 90 gv) 91 (.int .i64 (gs140.length : Int))) 92 (.int .i64 (j : Int))) ∧ k = gs140.length - j ∧ Ext noS G w GL3 W ∧ Pin.le GL2 GL3 ∧ (j ≤ gs140.length) ∧ (ls3 = ls.take n ++ (gs140.take j).map Ent.id ++ ls.drop (n + j)) ∧ (RkOk (regroup ls n (gs140.map Ent.gn)) (n + j) rk3) ∧ (ps3 = (done ++ gs140.take j).map Ent.pr) ∧ (Own eInt 3 GL3 W w.heap.size u26 (ls3)) ∧ (Own eVal2 58 GL3 W w.heap.size nv3 (ps3)) ∧ (Own eEnt 89 GL3 W w.heap.size gv (gs140)) ∧ (Apart u26.ownBlock nv3.ownBlock) ∧ (Apart nv3.ownBlock gv.ownBlock) ∧ (Lvs 3 GL3 W w.heap.size W.heap.size LV2) ∧ (ApL LV2 u26.ownBlock) ∧ (ApL LV2 nv3.ownBlock) ∧ (ApL LV2 gv.ownBlock) ∧ (Mp (fun k : Int => Value.int .i64 k) (fun v : Int => Value.int .i64 v) W m50 (rk3)) ∧ (Pk 32 3 GL3 W p L R B mm q) ∧ (NP p L R B mm nv3.ownBlock)) _ ⟨_, 0, nv, ls, ps, rk, GL2, (packS (x := 92) (packS (x := 91) (packS (x := 90) (packS (x := 10) (packS (x := 9) (packS (x := 8) (packS (x := 7) (packS (x := 6) (packS (x := 5) (packS (x := 4) (pack1 (x := 2) rfl) rfl) rfl) rfl) rfl) rfl) rfl) rfl) rfl) rfl) rfl), rfl, hX146, Pin.le_refl _, Nat.zero_le _, (by simp), (hrk.reg hgl2), (by rw [List.take_zero, List.append_nil]; exact hps), ho147, ho148, ho142, ha91, ha132.symm, hlv149, ha135, ha136, ha134, hm150, hpk151, hnp97⟩ ?_
  rintro k157 _ w158 ⟨env1, j, nv3, ls3, ps3, rk3, GL3, rfl, hk159, hX160, hlek157, hj, hls3, hrk3, hps3, hw161, hw162, hw163, ha164, ha165, hlv166, ha167, ha168, ha169, hm170, hpk171, hnp172⟩
  have hl3 : ls3.length = ls.length := by rw [hls3]; simp; omega
  have hps3l : ps3.length = n + j := by rw [hps3]; simp; omega
  refine s_seq (c_reg ?_)
  refine qd rfl rfl rfl (r_lss rfl rfl) (qe (s_then (s_seq ?_)))
  refine c_ifd (p := ((j : Int) : Int) < (gs140.length : Int)) rfl rfl (fun h173 => ?_) (fun h173 => ?_)
  refine wp_skip (s_then (s_seq ?_))
  refine s_blk (s_seq (c_reg ?_))
  refine qd rfl rfl rfl (r_move (v := (.int .i64 (j : Int))) rfl) (qd rfl rfl rfl (run_idx Tryz.underlying86 sz89 (v := gv) rfl rfl hw163.read (by omega) (by omega)) ?_)
  obtain ⟨cs174, hrep175, hagg176, hcell177⟩ := nm_el (j := j) default (hw163.at (z := (j : Int)) (by omega) (by omega)) rfl
  obtain ⟨rfl, hone178, hone179⟩ := hrep175
  refine qd rfl rfl rfl (hagg176 ag89 sz89 rfl (Gadd.pins hX160.pins gv)) (q1 rfl rfl rfl (o_alloc [(.int .i64 0), (.slice none 0 0), (.slice none 0 0)] zr89 rfl hX160.pins (fun b180 w181 hk182 hb183 hp184 hl185 => ?_)))
  have hX186 := hX160.step hp184 hl185
  have ho187 := hw161.below hl185
  have ho188 := hw162.below hl185
  have ho189 := hw163.below hl185
  have hlv190 := (hlv166.below hl185).top
  have hm191 := hm170.below hl185
  have hpk192 := hpk171.below hl185 hp184
  have ha193 : Apart (some b180) u26.ownBlock := new_ne_own (congrArg some hk182) hw161.lt
  have ha194 : Apart (some b180) nv3.ownBlock := new_ne_own (congrArg some hk182) hw162.lt
  have ha195 : Apart (some b180) gv.ownBlock := new_ne_own (congrArg some hk182) hw163.lt
  have ha200 : ApL LV2 (some b180) := ApL.fresh hlv166 (fun k hk => by rw [(congrArg some hk182)] at hk; cases hk; exact Nat.le_refl _)
  have ha201 := hpk171.new (x := (some b180)) (fun k hk => by rw [(congrArg some hk182)] at hk; cases hk; exact Nat.le_refl _)
  have hlo202 : w.heap.size ≤ b180 := by have := hX160.size; omega
  refine qd rfl rfl rfl (r_assign (v := (.int .i64 (j : Int))) rfl) (q0 rfl rfl rfl (o_stp (cs' := [(.int .i64 ((gs140.getD j default).id)), (gs140.getD j default).l, (gs140.getD j default).r]) (us := [(.int .i64 ((gs140.getD j default).id)), (gs140.getD j default).l, (gs140.getD j default).r]) (v := (.agg [(.int .i64 ((gs140.getD j default).id)), (gs140.getD j default).l, (gs140.getD j default).r].toArray)) sz89 rfl rfl rfl (ones3 (by rfl) hone178 hone179) hX186.pins hb183 (Nat.le_of_ble_eq_true rfl) rfl (fun w203 hb204 hp205 hg206 hz207 => ?_)))
  have hX208 := hX186.write hp205 hg206 ((lo_box hlo202))
  have ho209 := ho187.keptA hg206 ha193.symm
  have ho210 := ho188.keptA hg206 ha194.symm
  have ho211 := ho189.keptA hg206 ha195.symm
  have hlv212 := (hlv190.kept hg206 ha200).top
  have hm213 := hm191.kept hg206 (map_ne_box hm191 hb183)
  have hpk214 := hpk192.kept hg206 hp205 ha201
  obtain ⟨G215, hle216, hX217, hbp218, hf219⟩ := hb204.shut hX208 hlo202
  have ho220 := ho209.moreA hle216 hf219 ha193.symm
  have ho221 := ho210.moreA hle216 hf219 ha194.symm
  have ho222 := ho211.moreA hle216 hf219 ha195.symm
  have hlv223 := hlv212.more hle216 hf219 ha200
  have hpk224 := hpk214.more hle216 hf219 ha201
  refine qe (s_then (s_seq (c_reg ?_)))
  refine qd rfl rfl rfl (r_move (v := u26) rfl) (qd rfl rfl rfl (r_move (v := (.int .i64 (n : Int))) rfl) (qd rfl rfl rfl (r_move (v := (.int .i64 (j : Int))) rfl) (qd rfl rfl rfl (r_add rfl rfl (by omega)) (qd rfl rfl rfl (r_fldp (k := 0) rfl Tryz.underlying89 rfl nz3 rfl) (qd rfl rfl rfl (r_ldp1 (u := (.int .i64 ((gs140.getD j default).id))) ag3 rfl (hX217.pins _ _ _ (hbp218 0 _ rfl))) (qd rfl rfl rfl (run_idx Tryz.underlying32 sz3 (v := u26) rfl rfl ho220.read (by omega) (by omega)) (q0 rfl rfl rfl (o_set (E := eInt) (v := u26) (u := (.int .i64 ((gs140.getD j default).id))) (z := ((n : Int) + (j : Int))) ((gs140.getD j default).id) sz3 rfl rfl rfl rfl hX217.pins ho220 (by omega) (by omega) (fun w225 ho226 hp227 hg228 hz229 => ?_)))))))))
  have hX230 := hX217.write hp227 hg228 ((lo_own ho220))
  have ho231 := ho221.keptA hg228 ha164.symm
  have ho232 := ho222.keptA hg228 ha131
  have hlv233 := (hlv223.kept hg228 ha167).top
  have hm234 := hm213.kept hg228 (map_ne_own hm213 ho220)
  have hpk235 := hpk224.kept hg228 hp227 hnp37
  refine qe (s_then (s_seq (c_reg ?_)))
  refine qd rfl rfl rfl (r_move (v := (.map (some m50))) rfl) (qd rfl rfl rfl (r_fldp (k := 0) rfl Tryz.underlying89 rfl nz3 rfl) (qd rfl rfl rfl (r_ldp1 (u := (.int .i64 ((gs140.getD j default).id))) ag3 rfl (hX230.pins _ _ _ (hbp218 0 _ rfl))) (qd rfl rfl rfl (r_move (v := (.int .i64 (n : Int))) rfl) (qd rfl rfl rfl (r_move (v := (.int .i64 (j : Int))) rfl) (qd rfl rfl rfl (r_add rfl rfl (by omega)) (q0 rfl rfl rfl (o_mapUpdate (val := (fun v : Int => Value.int .i64 v)) (k := ((gs140.getD j default).id)) (v := ((n : Int) + (j : Int))) (key_int Tryz.underlying3) Tryz.underlying65 rfl rfl rfl hX230.pins hm234 (fun w236 hm237 hp238 hg239 hz240 => ?_))))))))
  have hX241 := hX230.write hp238 hg239 ((lo_box hlo61))
  have ho242 := ho226.keptA hg239 (map_ne_own hm234 ho226).symm
  have ho243 := ho231.keptA hg239 (map_ne_own hm234 ho231).symm
  have ho244 := ho232.keptA hg239 (map_ne_own hm234 ho232).symm
  have hlv245 := (hlv233.kept hg239 (fun p hp => (map_ne_own hm234 (hlv233.own p hp)).symm)).top
  have hpk246 := hpk235.kept hg239 hp238 hnp60
  refine qe (s_then (c_reg ?_))
  refine qd rfl rfl rfl (r_move (v := nv3) rfl) (qd rfl rfl rfl (r_fldp (k := 1) rfl Tryz.underlying89 rfl nz58 rfl) (qd rfl rfl rfl (r_ldpA (cs := [(gs140.getD j default).l, (gs140.getD j default).r]) ag58 sz58 rfl (fun j u hj => hX241.pins _ _ _ (hbp218 _ _ (by rw [Nat.add_comm]; simpa using hj)))) (q1 rfl rfl rfl (o_build1 (E := eVal2) (e := 58) [(gs140.getD j default).l, (gs140.getD j default).r] (((gs140.getD j default).l, (gs140.getD j default).r) : Value × Value) Tryz.underlying22 sz58 zr58 ⟨rfl, hone178, hone179⟩ rfl (by decide) hX241.pins (fun u247 w248 ho249 hp250 hl251 hk252 => ?_)))))
  have hX253 := hX241.step hp250 hl251
  have ho254 := ho242.below hl251
  have ho255 := ho243.below hl251
  have ho256 := ho244.below hl251
  have hlv257 := (hlv245.below hl251).top
  have hm258 := hm237.below hl251
  have hpk259 := hpk246.below hl251 hp250
  have ho269 : Own eVal2 58 G215 w248 w.heap.size u247 ([(((gs140.getD j default).l, (gs140.getD j default).r) : Value × Value)]) := ho249.weaken hX241.size
  refine q1 rfl rfl rfl (o_append (E := eVal2) (v := nv3) (u := u247) 48 Tryz.underlying22 ap58 (by decide) rfl rfl hX253.pins ho255 ho269.src (by first | omega | (rw [List.nil_append]; omega) | (rw [List.length_nil]; omega) | (rw [List.length_append]; omega) | (simp; done) | (simp; omega) | (simp only [List.length_append, List.length_cons, List.length_nil]; omega)) (by first | omega | (rw [List.nil_append]; omega) | (rw [List.length_nil]; omega) | (rw [List.length_append]; omega) | (simp; done) | (simp; omega) | (simp only [List.length_append, List.length_cons, List.length_nil]; omega)) (hX253.size) (fun u270 w271 ho272 hp273 hg274 hw275 => ?_))
  have hX276 := hX253.write hp273 hg274 ((lo_own ho255))
  have ho277 := ho254.keptA hg274 ha164
  have ho278 := ho256.keptA hg274 ha165.symm
  have hlv280 := (hlv257.kept hg274 ha168).top
  have hm281 := hm258.kept hg274 (map_ne_own hm258 ho255)
  have hpk282 := hpk259.kept hg274 hp273 hnp172
  have ha283 : Apart u26.ownBlock u270.ownBlock := app_ne_own ha164 hw275 ho254.lt
  have ha284 : Apart gv.ownBlock u270.ownBlock := app_ne_own ha165.symm hw275 ho256.lt
  have ha286 : ApL LV2 u270.ownBlock := ApL.app hlv257 ha168 hw275
  have hnp287 := np_app hnp172 hpk259 hw275
  have hm288 : (ps3 ++ ([(((gs140.getD j default).l, (gs140.getD j default).r) : Value × Value)])).length = ps3.length + 1 := List.length_append
  refine qd rfl rfl rfl (r_assign (v := u270) rfl) (qe (s_blkN (s_then (c_reg ?_))))
  refine qd rfl rfl rfl (r_add rfl rfl (by omega)) (qd rfl rfl rfl (r_move (v := (.int .i64 ((j : Int) + 1))) rfl) (qe (s_lopN (⟨_, ?_, _, rfl, _, j + 1, u270, (ls3).set ((n : Int) + (j : Int)).toNat ((gs140.getD j default).id), ps3 ++ ([(((gs140.getD j default).l, (gs140.getD j default).r) : Value × Value)]), putE rk3 ((gs140.getD j default).id) ((n : Int) + (j : Int)), G215, (packS (x := 92) (packS (x := 91) (packS (x := 90) (packS (x := 10) (packS (x := 9) (packS (x := 8) (packS (x := 7) (packS (x := 6) (packS (x := 5) (packS (x := 4) (pack1 (x := 2) rfl) rfl) rfl) rfl) rfl) rfl) rfl) rfl) rfl) rfl) rfl), rfl, hX276, (Pin.le_trans hlek157 hle216), (by omega), (by rw [hls3, show ((n : Int) + (j : Int)).toNat = n + j by omega]; exact reg_step (by omega) (by omega)), (hrk3.ent hRn hgl2 (by omega)), (by rw [hps3, take_snoc _ default (by omega), ← List.append_assoc, List.map_append (l₁ := done ++ _)]; rfl), ho277, ho272, ho278, ha283, ha284.symm, hlv280, ha167, ha286, ha169, hm281, hpk282, hnp287⟩))))
  omega
  refine wp_exit (s_thenE (s_lopE (s_blkE (s_then (c_reg ?_)))))
  refine qd rfl rfl rfl (r_move (v := (.int .i64 (n : Int))) rfl) (qd rfl rfl rfl (r_move (v := gv) rfl) (qd rfl rfl rfl (run_len Tryz.underlying86 (v := gv) rfl hw163.read) (qd rfl rfl rfl (r_add rfl rfl (by omega)) (qd rfl rfl rfl (r_assign (v := (.int .i64 ((n : Int) + (gs140.length : Int)))) rfl) (qe (s_blkN (s_lopN ?_)))))))
  have hjn : j = gs140.length := by omega
  rw [hjn, reg_end] at hls3
  rw [hjn] at hrk3 hps3
  rw [List.take_length] at hps3
  have hls3l : ls3.length = ls.length := by rw [hls3]; exact hRl
  refine ⟨_, ?_, _, rfl, _, n + gs140.length, nv3, done ++ gs140, ps3, rk3, LV2, ls3, GL3, (packS (x := 9) (packS (x := 8) (packS (x := 7) (packS (x := 6) (packS (x := 5) (packS (x := 4) (pack1 (x := 2) rfl) rfl) rfl) rfl) rfl) rfl) rfl), rfl, hX160, (Pin.le_trans (Pin.le_trans hlek85 hlek124) hlek157), (by rw [hls3]; exact hor.ents hok hpt31 hgr (by omega) hend hperm143 hasc144), (by rw [hls3]; exact hrk3), (hLV2.trans (by rw [lvE_app]; exact List.Perm.append_left _ (lvE_perm hperm143.symm))), hps3, hw161, hw162, ha164, hlv166, ha167, ha168, hm170, hpk171, hnp172⟩
  omega
 refine s_loop (fun (k : Nat) (en : Nat → Value) (W : World) => ∃ (env1 : Nat → Value) (kk : Nat) (gv : Value) (gs : List Ent) (LV2 : List Leaf) (GL2 : Pin), en = (upd (upd (upd (upd (upd (upd (upd (upd (upd env1 2 (.pointer (some ⟨b3, 0, none⟩))) 4 (.slice none 0 0)) 5 (.slice none 0 0)) 6 u26) 7 (.map (some m50))) 8 nv) 9 (.int .i64 (n : Int))) 10 gv) 11 (.int .i64 (kk : Int))) ∧ k = ls.length - kk ∧ Ext noS G w GL2 W ∧ Pin.le GL1 GL2 ∧ (kk = n + gs.length) ∧ (GrI q ls n (gs.map Ent.gn)) ∧ (LV2.Perm (lvE done ++ lvE gs)) ∧ (Own eEnt 89 GL2 W w.heap.size gv (gs)) ∧ (Own eInt 3 GL2 W w.heap.size u26 (ls)) ∧ (Own eVal2 58 GL2 W w.heap.size nv (ps)) ∧ (Apart gv.ownBlock u26.ownBlock) ∧ (Apart gv.ownBlock nv.ownBlock) ∧ (Lvs 3 GL2 W w.heap.size W.heap.size LV2) ∧ (ApL LV2 gv.ownBlock) ∧ (ApL LV2 u26.ownBlock) ∧ (ApL LV2 nv.ownBlock) ∧ (Mp (fun k : Int => Value.int .i64 k) (fun v : Int => Value.int .i64 v) W m50 (rk)) ∧ (Pk 32 3 GL2 W p L R B mm q) ∧ (NP p L R B mm gv.ownBlock)) _ ⟨_, n, u99, [], LV, GL1, (packS (x := 11) (packS (x := 10) (packS (x := 9) (packS (x := 8) (packS (x := 7) (packS (x := 6) (packS (x := 5) (packS (x := 4) (pack1 (x := 2) rfl) rfl) rfl) rfl) rfl) rfl) rfl) rfl) rfl), rfl, hX105, Pin.le_refl _, rfl, (GrI.start hor), (by simpa [lvE] using hLV), ho119, ho106, ho107, ha111, ha112, hlv108, ha117, ha93, ha94, hm109, hpk110, ha118⟩ ?_
 rintro k124 _ w125 ⟨env1, kk, gv, gs, LV2, GL2, rfl, hk126, hX127, hlek124, hkk, hgr, hLV2, hw128, hw129, hw130, ha131, ha132, hlv133, ha134, ha135, ha136, hm137, hpk138, hnp139⟩
 have hgl := hgr.le
 rw [List.length_map] at hgl
 refine s_seq (s_seq ?_)
 have hq289 := Gadd.pins hX127.pins u26
 have hq290 := Gadd.pins hX127.pins B
 have hr291 := hw129.read
 have hr292 := hpk138.ob.read
 refine c_draw (S := fun wz => Pins (Gadd GL2 w125 u26) wz ∧ Pins GL2 wz ∧ BxR wz p [L, R, B, (.map (some mm.f)), (.map (some mm.o)), (.map (some mm.c)), (.map (some mm.s)), (.map (some mm.n))] ∧ Pins (Gadd GL2 w125 B) wz) (last := 27) (by kernel_rfl) rfl ?_
 have hl293 : Below w125.heap.size w125 w125.drew := (Below.refl _ _).drew
 have hp294 := hX127.pins.below hl293
 have hX295 := hX127.step hp294 hl293
 have ho296 := hw128.below hl293
 have ho297 := hw129.below hl293
 have ho298 := hw130.below hl293
 have hlv299 := (hlv133.below hl293).top
 have hm300 := hm137.below hl293
 have hpk301 := hpk138.below hl293 hp294
 have hq302 := hq289.below hl293
 have hq303 := hq290.below hl293
 refine dr_take (i := 0) rfl rfl rfl (want_none rfl _) (by kernel_rfl) (fun _ _ => r_move (v := (.int .i64 (kk : Int))) rfl) ⟨hq302, hX295.pins, hpk301.bx.reads, hq303⟩ (dr_take (i := 1) rfl rfl rfl (want_none rfl _) (by kernel_rfl) (fun _ _ => r_move (v := u26) rfl) ⟨hq302, hX295.pins, hpk301.bx.reads, hq303⟩ (dr_take (i := 2) rfl rfl rfl (want_none rfl _) (by kernel_rfl) (fun _ _ => run_len Tryz.underlying32 (v := u26) rfl hr291) ⟨hq302, hX295.pins, hpk301.bx.reads, hq303⟩ (dr_take (i := 3) rfl rfl rfl (want_none rfl _) (by kernel_rfl) (fun _ _ => r_lss rfl rfl) ⟨hq302, hX295.pins, hpk301.bx.reads, hq303⟩ (dr_take (i := 4) rfl rfl rfl (want_none rfl _) (by kernel_rfl) (fun _ _ => r_move (v := (.bool (decide (((kk : Int) : Int) < (ls.length : Int))))) rfl) ⟨hq302, hX295.pins, hpk301.bx.reads, hq303⟩ (drbd (p := ((kk : Int) : Int) < (ls.length : Int)) (t := 35) rfl (fun h304 => ?_) (fun h304 => ?_))))))
 have hzk := hplk kk (by omega)
 have hollk := hok.ar.ok.lens (ls.getD kk 0).toNat (by omega)
 refine dr_take (i := 5) rfl rfl rfl (want_yes rfl rfl rfl rfl) (by kernel_rfl) (fun _ hS => r_ldp1 (u := (.pointer (some ⟨p, 0, none⟩))) ag41 rfl ((Pins.of_le hS.2.1 (Pin.le_trans (Pin.le_trans hx32.le hlek85) hlek124)) _ _ _ (hbp22 0 _ rfl))) ⟨hq302, hX295.pins, hpk301.bx.reads, hq303⟩ (dr_take (i := 6) rfl rfl rfl (want_yes rfl rfl rfl rfl) (by kernel_rfl) (fun _ _ => r_nil rfl) ⟨hq302, hX295.pins, hpk301.bx.reads, hq303⟩ (dr_take (i := 7) rfl rfl rfl (want_yes rfl rfl rfl rfl) (by kernel_rfl) (fun _ _ => r_fldp (k := 2) rfl Tryz.underlying69 rfl nz32 rfl) ⟨hq302, hX295.pins, hpk301.bx.reads, hq303⟩ (dr_take (i := 8) rfl rfl rfl (want_yes rfl rfl rfl rfl) (by kernel_rfl) (fun _ hS => r_ldp1 (u := B) ag32 rfl (hS.2.2.1 2 _ rfl)) ⟨hq302, hX295.pins, hpk301.bx.reads, hq303⟩ (dr_take (i := 9) rfl rfl rfl (want_yes rfl rfl rfl rfl) (by kernel_rfl) (fun _ _ => r_move (v := u26) rfl) ⟨hq302, hX295.pins, hpk301.bx.reads, hq303⟩ (dr_take (i := 10) rfl rfl rfl (want_yes rfl rfl rfl rfl) (by kernel_rfl) (fun _ _ => r_move (v := (.int .i64 (kk : Int))) rfl) ⟨hq302, hX295.pins, hpk301.bx.reads, hq303⟩ (dr_take (i := 11) rfl rfl rfl (want_yes rfl rfl rfl rfl) (by kernel_rfl) (fun _ _ => run_idx Tryz.underlying32 sz3 (v := u26) rfl rfl hr291 (by omega) (by omega)) ⟨hq302, hX295.pins, hpk301.bx.reads, hq303⟩ (dr_take (i := 12) rfl rfl rfl (want_yes rfl rfl rfl rfl) (by kernel_rfl) (fun _ hS => run_load_int (r := ls.getD kk 0) rfl ag3 (z := (kk : Int)) rfl hr291 hS.1 (by omega) (by omega)) ⟨hq302, hX295.pins, hpk301.bx.reads, hq303⟩ (dr_take (i := 13) rfl rfl rfl (want_yes rfl rfl rfl rfl) (by kernel_rfl) (fun _ _ => run_idx Tryz.underlying32 sz3 (v := B) rfl rfl hr292 (by omega) (by omega)) ⟨hq302, hX295.pins, hpk301.bx.reads, hq303⟩ (dr_take (i := 14) rfl rfl rfl (want_yes rfl rfl rfl rfl) (by kernel_rfl) (fun _ hS => run_load_int (r := q.bs.getD (ls.getD kk 0).toNat 0) rfl ag3 (z := (ls.getD kk 0)) rfl hr292 hS.2.2.2 (by omega) (by omega)) ⟨hq302, hX295.pins, hpk301.bx.reads, hq303⟩ (dr_take (i := 15) rfl rfl rfl (want_yes rfl rfl rfl rfl) (by kernel_rfl) (fun _ hS => r_ldp1 (u := (.pointer (some ⟨p, 0, none⟩))) ag41 rfl ((Pins.of_le hS.2.1 (Pin.le_trans (Pin.le_trans hx32.le hlek85) hlek124)) _ _ _ (hbp22 0 _ rfl))) ⟨hq302, hX295.pins, hpk301.bx.reads, hq303⟩ (dr_take (i := 16) rfl rfl rfl (want_yes rfl rfl rfl rfl) (by kernel_rfl) (fun _ _ => r_nil rfl) ⟨hq302, hX295.pins, hpk301.bx.reads, hq303⟩ (dr_take (i := 17) rfl rfl rfl (want_yes rfl rfl rfl rfl) (by kernel_rfl) (fun _ _ => r_fldp (k := 2) rfl Tryz.underlying69 rfl nz32 rfl) ⟨hq302, hX295.pins, hpk301.bx.reads, hq303⟩ (dr_take (i := 18) rfl rfl rfl (want_yes rfl rfl rfl rfl) (by kernel_rfl) (fun _ hS => r_ldp1 (u := B) ag32 rfl (hS.2.2.1 2 _ rfl)) ⟨hq302, hX295.pins, hpk301.bx.reads, hq303⟩ (dr_take (i := 19) rfl rfl rfl (want_yes rfl rfl rfl rfl) (by kernel_rfl) (fun _ _ => r_move (v := u26) rfl) ⟨hq302, hX295.pins, hpk301.bx.reads, hq303⟩ ?_))))))))))))))
 refine dr_take (i := 20) rfl rfl rfl (want_yes rfl rfl rfl rfl) (by kernel_rfl) (fun _ _ => r_move (v := (.int .i64 (n : Int))) rfl) ⟨hq302, hX295.pins, hpk301.bx.reads, hq303⟩ (dr_take (i := 21) rfl rfl rfl (want_yes rfl rfl rfl rfl) (by kernel_rfl) (fun _ _ => run_idx Tryz.underlying32 sz3 (v := u26) rfl rfl hr291 (by omega) (by omega)) ⟨hq302, hX295.pins, hpk301.bx.reads, hq303⟩ (dr_take (i := 22) rfl rfl rfl (want_yes rfl rfl rfl rfl) (by kernel_rfl) (fun _ hS => run_load_int (r := ls.getD n 0) rfl ag3 (z := (n : Int)) rfl hr291 hS.1 (by omega) (by omega)) ⟨hq302, hX295.pins, hpk301.bx.reads, hq303⟩ (dr_take (i := 23) rfl rfl rfl (want_yes rfl rfl rfl rfl) (by kernel_rfl) (fun _ _ => run_idx Tryz.underlying32 sz3 (v := B) rfl rfl hr292 (by omega) (by omega)) ⟨hq302, hX295.pins, hpk301.bx.reads, hq303⟩ (dr_take (i := 24) rfl rfl rfl (want_yes rfl rfl rfl rfl) (by kernel_rfl) (fun _ hS => run_load_int (r := q.bs.getD (ls.getD n 0).toNat 0) rfl ag3 (z := (ls.getD n 0)) rfl hr292 hS.2.2.2 (by omega) (by omega)) ⟨hq302, hX295.pins, hpk301.bx.reads, hq303⟩ (dr_take (i := 25) rfl rfl rfl (want_yes rfl rfl rfl rfl) (by kernel_rfl) (fun _ _ => r_eql rfl rfl) ⟨hq302, hX295.pins, hpk301.bx.reads, hq303⟩ (dr_take (i := 26) rfl rfl rfl (want_none rfl _) (by kernel_rfl) (fun _ _ => r_pickT (v := (.bool (decide ((q.bs.getD (ls.getD kk 0).toNat 0 : Int) = (q.bs.getD (ls.getD n 0).toNat 0))))) rfl rfl) ⟨hq302, hX295.pins, hpk301.bx.reads, hq303⟩ (dr_end (by kernel_rfl) (s_then (c_ifd (p := (q.bs.getD (ls.getD kk 0).toNat 0 : Int) = (q.bs.getD (ls.getD n 0).toNat 0)) rfl rfl (fun h305 => ?_) (fun h305 => ?_))))))))))
 refine wp_skip (s_then (s_seq ?_))
 refine s_blk (s_seq (c_reg ?_))
 refine qd rfl rfl rfl (r_move (v := u26) rfl) (qd rfl rfl rfl (r_move (v := (.int .i64 (kk : Int))) rfl) (qd rfl rfl rfl (run_idx Tryz.underlying32 sz3 (v := u26) rfl rfl ho297.read (by omega) (by omega)) (qd rfl rfl rfl (run_load_int (r := ls.getD kk 0) rfl ag3 (z := (kk : Int)) rfl ho297.read (Gadd.pins hX295.pins u26) (by omega) (by omega)) (qd rfl rfl rfl (r_assign (v := (.int .i64 (ls.getD kk 0))) rfl) (qe (s_then ?_))))))
 have hq306 := Gadd.pins hX295.pins L
 have hq307 := Gadd.pins hX295.pins R
 have hr308 := hpk301.ol.read
 have hr309 := hpk301.rr.read
 refine c_draw (S := fun wz => Pins GL2 wz ∧ BxR wz p [L, R, B, (.map (some mm.f)), (.map (some mm.o)), (.map (some mm.c)), (.map (some mm.s)), (.map (some mm.n))] ∧ Pins (Gadd GL2 w125.drew L) wz ∧ Pins (Gadd GL2 w125.drew R) wz) (last := 25) (by kernel_rfl) rfl ?_
 have hl310 : Below w125.drew.heap.size w125.drew w125.drew.drew := (Below.refl _ _).drew
 have hp311 := hX295.pins.below hl310
 have hX312 := hX295.step hp311 hl310
 have ho313 := ho296.below hl310
 have ho314 := ho297.below hl310
 have ho315 := ho298.below hl310
 have hlv316 := (hlv299.below hl310).top
 have hm317 := hm300.below hl310
 have hpk318 := hpk301.below hl310 hp311
 have hq319 := hq306.below hl310
 have hq320 := hq307.below hl310
 refine dr_take (i := 0) rfl rfl rfl (want_none rfl _) (by kernel_rfl) (fun _ _ => r_move (v := gv) rfl) ⟨hX312.pins, hpk318.bx.reads, hq319, hq320⟩ (dr_take (i := 1) rfl rfl rfl (want_none rfl _) (by kernel_rfl) (fun _ _ => r_move (v := (.int .i64 (ls.getD kk 0))) rfl) ⟨hX312.pins, hpk318.bx.reads, hq319, hq320⟩ (dr_take (i := 2) rfl rfl rfl (want_none rfl _) (by kernel_rfl) (fun _ hS => r_ldp1 (u := (.pointer (some ⟨p, 0, none⟩))) ag41 rfl ((Pins.of_le hS.1 (Pin.le_trans (Pin.le_trans hx32.le hlek85) hlek124)) _ _ _ (hbp22 0 _ rfl))) ⟨hX312.pins, hpk318.bx.reads, hq319, hq320⟩ (dr_take (i := 3) rfl rfl rfl (want_none rfl _) (by kernel_rfl) (fun _ _ => r_nil rfl) ⟨hX312.pins, hpk318.bx.reads, hq319, hq320⟩ (dr_take (i := 4) rfl rfl rfl (want_none rfl _) (by kernel_rfl) (fun _ _ => r_fldp (k := 0) rfl Tryz.underlying69 rfl nz67 rfl) ⟨hX312.pins, hpk318.bx.reads, hq319, hq320⟩ (dr_take (i := 5) rfl rfl rfl (want_none rfl _) (by kernel_rfl) (fun _ hS => r_ldp1 (u := L) ag67 rfl (hS.2.1 0 _ rfl)) ⟨hX312.pins, hpk318.bx.reads, hq319, hq320⟩ (dr_take (i := 6) rfl rfl rfl (want_none rfl _) (by kernel_rfl) (fun _ _ => r_move (v := (.int .i64 (ls.getD kk 0))) rfl) ⟨hX312.pins, hpk318.bx.reads, hq319, hq320⟩ (dr_take (i := 7) rfl rfl rfl (want_none rfl _) (by kernel_rfl) (fun _ _ => run_idx Tryz.underlying67 sz32 (v := L) rfl rfl hr308 (by omega) (by omega)) ⟨hX312.pins, hpk318.bx.reads, hq319, hq320⟩ ?_)))))))
 obtain ⟨u321, hr322, hl323⟩ := nm_sl (hpk301.ol.at (z := (ls.getD kk 0)) (by omega) (by omega)) (j := (ls.getD kk 0).toNat) rfl
 rw [mapl_getD] at hr322
 have hm324 := hr322.max
 refine dr_take (i := 8) rfl rfl rfl (want_none rfl _) (by kernel_rfl) (fun _ hS => hl323 ag32 rfl hS.2.2.1) ⟨hX312.pins, hpk318.bx.reads, hq319, hq320⟩ (dr_take (i := 9) rfl rfl rfl (want_none rfl _) (by kernel_rfl) (fun _ _ => r_move (v := (.map (some m50))) rfl) ⟨hX312.pins, hpk318.bx.reads, hq319, hq320⟩ (dr_take (i := 11) rfl rfl rfl (want_none rfl _) (by kernel_rfl) (fun _ hS => r_ldp1 (u := (.pointer (some ⟨p, 0, none⟩))) ag41 rfl ((Pins.of_le hS.1 (Pin.le_trans (Pin.le_trans hx32.le hlek85) hlek124)) _ _ _ (hbp22 0 _ rfl))) ⟨hX312.pins, hpk318.bx.reads, hq319, hq320⟩ (dr_take (i := 12) rfl rfl rfl (want_none rfl _) (by kernel_rfl) (fun _ _ => r_nil rfl) ⟨hX312.pins, hpk318.bx.reads, hq319, hq320⟩ (dr_take (i := 13) rfl rfl rfl (want_none rfl _) (by kernel_rfl) (fun _ _ => r_fldp (k := 1) rfl Tryz.underlying69 rfl nz67 rfl) ⟨hX312.pins, hpk318.bx.reads, hq319, hq320⟩ (dr_take (i := 14) rfl rfl rfl (want_none rfl _) (by kernel_rfl) (fun _ hS => r_ldp1 (u := R) ag67 rfl (hS.2.1 1 _ rfl)) ⟨hX312.pins, hpk318.bx.reads, hq319, hq320⟩ (dr_take (i := 15) rfl rfl rfl (want_none rfl _) (by kernel_rfl) (fun _ _ => r_move (v := (.int .i64 (ls.getD kk 0))) rfl) ⟨hX312.pins, hpk318.bx.reads, hq319, hq320⟩ (dr_take (i := 16) rfl rfl rfl (want_none rfl _) (by kernel_rfl) (fun _ _ => run_idx Tryz.underlying67 sz32 (v := R) rfl rfl hr309 (by omega) (by omega)) ⟨hX312.pins, hpk318.bx.reads, hq319, hq320⟩ ?_)))))))
 obtain ⟨u325, hr326, hl327⟩ := nm_sl (hpk301.rr.at (z := (ls.getD kk 0)) (by omega) (by omega)) (j := (ls.getD kk 0).toNat) rfl
 rw [mapr_getD] at hr326
 have hm328 := hr326.max
 refine dr_take (i := 17) rfl rfl rfl (want_none rfl _) (by kernel_rfl) (fun _ hS => hl327 ag32 rfl hS.2.2.2) ⟨hX312.pins, hpk318.bx.reads, hq319, hq320⟩ (dr_take (i := 18) rfl rfl rfl (want_none rfl _) (by kernel_rfl) (fun _ _ => r_move (v := (.map (some m50))) rfl) ⟨hX312.pins, hpk318.bx.reads, hq319, hq320⟩ (dr_one (i := 10) (by kernel_rfl) (drOp1 (i := 10) rfl rfl rfl (want_none rfl _) (o_call (vs := [u321, (.map (some m50))]) Tryz.func47 nm47 rfl rfl rfl ?_))))
 refine Calls.mono (ranked_spec hX312.pins hr322 hm317 (by omega)) ?_
 rintro _ w331 ⟨u329, G330, rfl, ho332, hx333⟩
 refine ⟨_, rfl, ?_⟩
 have hX334 := hX312.tr hx333
 have ho335 := ho313.ext hx333
 have ho336 := ho314.ext hx333
 have ho337 := ho315.ext hx333
 have hlv338 := (hlv316.ext hx333).top
 have hm339 := hm317.below hx333.below
 have hpk340 := hpk318.ext hx333
 have ha341 : Apart u329.ownBlock gv.ownBlock := made_ne_own ho332.lt ho313.lt
 have ha342 : Apart u329.ownBlock u26.ownBlock := made_ne_own ho332.lt ho314.lt
 have ha343 : Apart u329.ownBlock nv.ownBlock := made_ne_own ho332.lt ho315.lt
 have ha344 : ApL LV2 u329.ownBlock := ApL.fresh hlv316 (fun k hk => (ho332.lt k hk).1)
 have ho346 : Own eInt 3 G330 w331 w.heap.size u329 (sortM (((q.ns.getD (ls.getD kk 0).toNat default).l).map (rkI rk))) := ho332.weaken hX312.size
 have hq347 := hq319.below hx333.below
 have hq348 := hq320.below hx333.below
 refine ⟨fun _ => ⟨(Pins.of_le hX334.pins hx333.le), hpk340.bx.reads, hq347, hq348⟩, ?_⟩
 refine dr_one (i := 19) (by kernel_rfl) (drOp1 (i := 19) rfl rfl rfl (want_none rfl _) (o_call (vs := [u325, (.map (some m50))]) Tryz.func47 nm47 rfl rfl rfl ?_))
 refine Calls.mono (ranked_spec hX334.pins (hr326.mono hx333.le) hm339 (by omega)) ?_
 rintro _ w351 ⟨u349, G350, rfl, ho352, hx353⟩
 refine ⟨_, rfl, ?_⟩
 have hX354 := hX334.tr hx353
 have ho355 := ho335.ext hx353
 have ho356 := ho336.ext hx353
 have ho357 := ho337.ext hx353
 have ho358 := ho346.ext hx353
 have hlv359 := (hlv338.ext hx353).top
 have hm360 := hm339.below hx353.below
 have hpk361 := hpk340.ext hx353
 have ha362 : Apart u349.ownBlock gv.ownBlock := made_ne_own ho352.lt ho335.lt
 have ha363 : Apart u349.ownBlock u26.ownBlock := made_ne_own ho352.lt ho336.lt
 have ha364 : Apart u349.ownBlock nv.ownBlock := made_ne_own ho352.lt ho337.lt
 have ha365 : Apart u349.ownBlock u329.ownBlock := made_ne_own ho352.lt ho346.lt
 have ha366 : ApL LV2 u349.ownBlock := ApL.fresh hlv338 (fun k hk => (ho352.lt k hk).1)
 have ho368 : Own eInt 3 G350 w351 w.heap.size u349 (sortM (((q.ns.getD (ls.getD kk 0).toNat default).r).map (rkI rk))) := ho352.weaken hX334.size
 have hq369 := hq347.below hx353.below
 have hq370 := hq348.below hx353.below
 refine ⟨fun _ => ⟨(Pins.of_le hX354.pins (Pin.le_trans hx333.le hx353.le)), hpk361.bx.reads, hq369, hq370⟩, ?_⟩
 refine dr_take (i := 20) rfl rfl rfl (want_none rfl _) (by kernel_rfl) (fun _ _ => r_build [(.slice none 0 0), (.slice none 0 0)] [u329, u349] [(0, u329, [u329]), (1, u349, [u349])] Tryz.underlying58 zr58 rfl pl58 rfl (List.forall_mem_cons.2 ⟨(cells_one ho358.one), (List.forall_mem_cons.2 ⟨(cells_one ho368.one), (fun _ h => by cases h)⟩)⟩) rfl) ⟨(Pins.of_le hX354.pins (Pin.le_trans hx333.le hx353.le)), hpk361.bx.reads, hq369, hq370⟩ (dr_take (i := 21) rfl rfl rfl (want_none rfl _) (by kernel_rfl) (fun _ _ => r_build [(.int .i64 0), (.slice none 0 0), (.slice none 0 0)] [(.int .i64 (ls.getD kk 0)), u329, u349] [(0, (.int .i64 (ls.getD kk 0)), [(.int .i64 (ls.getD kk 0))]), (1, (.agg [u329, u349].toArray), [u329, u349])] Tryz.underlying89 zr89 rfl pl89 rfl (List.forall_mem_cons.2 ⟨rfl, (List.forall_mem_cons.2 ⟨rfl, (fun _ h => by cases h)⟩)⟩) rfl) ⟨(Pins.of_le hX354.pins (Pin.le_trans hx333.le hx353.le)), hpk361.bx.reads, hq369, hq370⟩ (dr_one (i := 22) (by kernel_rfl) (drOp1 (i := 22) rfl rfl rfl (want_none rfl _) (o_build1 (E := eEnt) (e := 89) [(.int .i64 (ls.getD kk 0)), u329, u349] (⟨ls.getD kk 0, u329, u349, ⟨sortM (((q.ns.getD (ls.getD kk 0).toNat default).l).map (rkI rk)), sortM (((q.ns.getD (ls.getD kk 0).toNat default).r).map (rkI rk))⟩⟩ : Ent) Tryz.underlying86 sz89 zr89 ⟨rfl, ho358.one, ho368.one⟩ rfl (by decide) hX354.pins (fun u371 w372 ho373 hp374 hl375 hk376 => ?_)))))
 have hX377 := hX354.step hp374 hl375
 have ho378 := ho355.below hl375
 have ho379 := ho356.below hl375
 have ho380 := ho357.below hl375
 have ho381 := ho358.below hl375
 have ho382 := ho368.below hl375
 have hlv383 := (hlv359.below hl375).top
 have hm384 := hm360.below hl375
 have hpk385 := hpk361.below hl375 hp374
 have ho397 : Own eEnt 89 G350 w372 w.heap.size u371 ([(⟨ls.getD kk 0, u329, u349, ⟨sortM (((q.ns.getD (ls.getD kk 0).toNat default).l).map (rkI rk)), sortM (((q.ns.getD (ls.getD kk 0).toNat default).r).map (rkI rk))⟩⟩ : Ent)]) := ho373.weaken hX354.size
 have hq398 := hq369.below hl375
 have hq399 := hq370.below hl375
 refine ⟨fun _ => ⟨(Pins.of_le hX377.pins (Pin.le_trans hx333.le hx353.le)), hpk385.bx.reads, hq398, hq399⟩, ?_⟩
 refine dr_one (i := 23) (by kernel_rfl) (drOp1 (i := 23) rfl rfl rfl (want_none rfl _) (o_append (E := eEnt) (v := gv) (u := u371) 56 Tryz.underlying86 ap89 (by decide) rfl rfl hX377.pins ho378 ho397.src (by first | omega | (rw [List.nil_append]; omega) | (rw [List.length_nil]; omega) | (rw [List.length_append]; omega) | (simp; done) | (simp; omega) | (simp only [List.length_append, List.length_cons, List.length_nil]; omega)) (by first | omega | (rw [List.nil_append]; omega) | (rw [List.length_nil]; omega) | (rw [List.length_append]; omega) | (simp; done) | (simp; omega) | (simp only [List.length_append, List.length_cons, List.length_nil]; omega)) (hX377.size) (fun u400 w401 ho402 hp403 hg404 hw405 => ?_)))
 have hX406 := hX377.write hp403 hg404 ((lo_own ho378))
 have ho407 := ho379.keptA hg404 ha131.symm
 have ho408 := ho380.keptA hg404 ha132.symm
 have ho409 := ho381.keptA hg404 ha341
 have ho410 := ho382.keptA hg404 ha362
 have hlv412 := (hlv383.kept hg404 ha134).top
 have hm413 := hm384.kept hg404 (map_ne_own hm384 ho378)
 have hpk414 := hpk385.kept hg404 hp403 hnp139
 have ha415 : Apart u26.ownBlock u400.ownBlock := app_ne_own ha131.symm hw405 ho379.lt
 have ha416 : Apart nv.ownBlock u400.ownBlock := app_ne_own ha132.symm hw405 ho380.lt
 have ha417 : Apart u329.ownBlock u400.ownBlock := app_ne_own ha341 hw405 ho381.lt
 have ha418 : Apart u349.ownBlock u400.ownBlock := app_ne_own ha362 hw405 ho382.lt
 have ha420 : ApL LV2 u400.ownBlock := ApL.app hlv383 ha134 hw405
 have hnp421 := np_app hnp139 hpk385 hw405
 have hm422 : (gs ++ ([(⟨ls.getD kk 0, u329, u349, ⟨sortM (((q.ns.getD (ls.getD kk 0).toNat default).l).map (rkI rk)), sortM (((q.ns.getD (ls.getD kk 0).toNat default).r).map (rkI rk))⟩⟩ : Ent)])).length = gs.length + 1 := List.length_append
 have hq423 := Gadd.turn hq398 (Pins.of_le hX406.pins (Pin.le_trans hx333.le hx353.le)) (Ext.one hp403 hg404) (notO (NP.hl hnp139).symm)
 have hq424 := Gadd.turn hq399 (Pins.of_le hX406.pins (Pin.le_trans hx333.le hx353.le)) (Ext.one hp403 hg404) (notO (NP.hr hnp139).symm)
 refine ⟨fun _ => ⟨(Pins.of_le hX406.pins (Pin.le_trans hx333.le hx353.le)), hpk414.bx.reads, hq423, hq424⟩, ?_⟩
 refine dr_take (i := 24) rfl rfl rfl (want_none rfl _) (by kernel_rfl) (fun _ _ => r_assign (v := u400) rfl) ⟨(Pins.of_le hX406.pins (Pin.le_trans hx333.le hx353.le)), hpk414.bx.reads, hq423, hq424⟩ (dr_end (by kernel_rfl) (s_blkN (s_then (c_reg ?_))))
 refine qd rfl rfl rfl (r_move (v := (.int .i64 (kk : Int))) rfl) (qd rfl rfl rfl (r_add rfl rfl (by omega)) (qd rfl rfl rfl (r_assign (v := (.int .i64 ((kk : Int) + 1))) rfl) (qe (s_lopN ?_))))
 have hlv425 := hlv412.add ho409 ha344
 have ha426 : ApL (LV2 ++ [(u329, sortM (((q.ns.getD (ls.getD kk 0).toNat default).l).map (rkI rk)))]) u26.ownBlock := ha135.add ha342
 have ha427 : ApL (LV2 ++ [(u329, sortM (((q.ns.getD (ls.getD kk 0).toNat default).l).map (rkI rk)))]) nv.ownBlock := ha136.add ha343
 have ha428 : ApL (LV2 ++ [(u329, sortM (((q.ns.getD (ls.getD kk 0).toNat default).l).map (rkI rk)))]) u349.ownBlock := ha366.add ha365.symm
 have ha429 : ApL (LV2 ++ [(u329, sortM (((q.ns.getD (ls.getD kk 0).toNat default).l).map (rkI rk)))]) u400.ownBlock := ha420.add ha417
 have hlv430 := hlv425.add ho410 ha428
 have ha431 : ApL ((LV2 ++ [(u329, sortM (((q.ns.getD (ls.getD kk 0).toNat default).l).map (rkI rk)))]) ++ [(u349, sortM (((q.ns.getD (ls.getD kk 0).toNat default).r).map (rkI rk)))]) u26.ownBlock := ha426.add ha363
 have ha432 : ApL ((LV2 ++ [(u329, sortM (((q.ns.getD (ls.getD kk 0).toNat default).l).map (rkI rk)))]) ++ [(u349, sortM (((q.ns.getD (ls.getD kk 0).toNat default).r).map (rkI rk)))]) nv.ownBlock := ha427.add ha364
 have ha433 : ApL ((LV2 ++ [(u329, sortM (((q.ns.getD (ls.getD kk 0).toNat default).l).map (rkI rk)))]) ++ [(u349, sortM (((q.ns.getD (ls.getD kk 0).toNat default).r).map (rkI rk)))]) u400.ownBlock := ha429.add ha418
 refine ⟨_, ?_, _, rfl, _, kk + 1, u400, gs ++ ([(⟨ls.getD kk 0, u329, u349, ⟨sortM (((q.ns.getD (ls.getD kk 0).toNat default).l).map (rkI rk)), sortM (((q.ns.getD (ls.getD kk 0).toNat default).r).map (rkI rk))⟩⟩ : Ent)]), (LV2 ++ [(u329, sortM (((q.ns.getD (ls.getD kk 0).toNat default).l).map (rkI rk)))]) ++ [(u349, sortM (((q.ns.getD (ls.getD kk 0).toNat default).r).map (rkI rk)))], G350, (packS (x := 11) (packS (x := 10) (packS (x := 9) (packS (x := 8) (packS (x := 7) (packS (x := 6) (packS (x := 5) (packS (x := 4) (pack1 (x := 2) rfl) rfl) rfl) rfl) rfl) rfl) rfl) rfl) rfl), rfl, hX406, (Pin.le_trans (Pin.le_trans hlek124 hx333.le) hx353.le), (by rw [List.length_append]; simp; omega), (hgr.ent hor hok hpt31 hrk hkk (by omega) h305), (by rw [lvE_app, ← List.append_assoc, List.append_assoc LV2]; exact hLV2.append_right _), ho402, ho407, ho408, ha415.symm, ha416.symm, hlv430, ha433, ha431, ha432, hm413, hpk414, hnp421⟩
 omega
 exact wp_exit (s_thenE (s_lopE (cutE_in ⟨_, kk, gv, gs, LV2, GL2, (packS (x := 11) (packS (x := 10) (packS (x := 9) (packS (x := 8) (packS (x := 7) (packS (x := 6) (packS (x := 5) (packS (x := 4) (pack1 (x := 2) rfl) rfl) rfl) rfl) rfl) rfl) rfl) rfl) rfl), hX295, hlek124, hkk, hgr, hLV2, (Or.inr (by rw [← hkk]; exact h305)), ho296, ho297, ho298, ha131, ha132, hlv299, ha134, ha135, ha136, hm300, hpk301, hnp139⟩)))
 exact dr_skip (i := 5) rfl rfl (want_no rfl rfl rfl rfl rfl) (by kernel_rfl) ⟨hq302, hX295.pins, hpk301.bx.reads, hq303⟩ (dr_skip (i := 6) rfl rfl (want_no rfl rfl rfl rfl rfl) (by kernel_rfl) ⟨hq302, hX295.pins, hpk301.bx.reads, hq303⟩ (dr_skip (i := 7) rfl rfl (want_no rfl rfl rfl rfl rfl) (by kernel_rfl) ⟨hq302, hX295.pins, hpk301.bx.reads, hq303⟩ (dr_skip (i := 8) rfl rfl (want_no rfl rfl rfl rfl rfl) (by kernel_rfl) ⟨hq302, hX295.pins, hpk301.bx.reads, hq303⟩ (dr_skip (i := 9) rfl rfl (want_no rfl rfl rfl rfl rfl) (by kernel_rfl) ⟨hq302, hX295.pins, hpk301.bx.reads, hq303⟩ (dr_skip (i := 10) rfl rfl (want_no rfl rfl rfl rfl rfl) (by kernel_rfl) ⟨hq302, hX295.pins, hpk301.bx.reads, hq303⟩ (dr_skip (i := 11) rfl rfl (want_no rfl rfl rfl rfl rfl) (by kernel_rfl) ⟨hq302, hX295.pins, hpk301.bx.reads, hq303⟩ (dr_skip (i := 12) rfl rfl (want_no rfl rfl rfl rfl rfl) (by kernel_rfl) ⟨hq302, hX295.pins, hpk301.bx.reads, hq303⟩ (dr_skip (i := 13) rfl rfl (want_no rfl rfl rfl rfl rfl) (by kernel_rfl) ⟨hq302, hX295.pins, hpk301.bx.reads, hq303⟩ (dr_skip (i := 14) rfl rfl (want_no rfl rfl rfl rfl rfl) (by kernel_rfl) ⟨hq302, hX295.pins, hpk301.bx.reads, hq303⟩ (dr_skip (i := 15) rfl rfl (want_no rfl rfl rfl rfl rfl) (by kernel_rfl) ⟨hq302, hX295.pins, hpk301.bx.reads, hq303⟩ (dr_skip (i := 16) rfl rfl (want_no rfl rfl rfl rfl rfl) (by kernel_rfl) ⟨hq302, hX295.pins, hpk301.bx.reads, hq303⟩ (dr_skip (i := 17) rfl rfl (want_no rfl rfl rfl rfl rfl) (by kernel_rfl) ⟨hq302, hX295.pins, hpk301.bx.reads, hq303⟩ (dr_skip (i := 18) rfl rfl (want_no rfl rfl rfl rfl rfl) (by kernel_rfl) ⟨hq302, hX295.pins, hpk301.bx.reads, hq303⟩ (dr_skip (i := 19) rfl rfl (want_no rfl rfl rfl rfl rfl) (by kernel_rfl) ⟨hq302, hX295.pins, hpk301.bx.reads, hq303⟩ (dr_skip (i := 20) rfl rfl (want_no rfl rfl rfl rfl rfl) (by kernel_rfl) ⟨hq302, hX295.pins, hpk301.bx.reads, hq303⟩ (dr_skip (i := 21) rfl rfl (want_no rfl rfl rfl rfl rfl) (by kernel_rfl) ⟨hq302, hX295.pins, hpk301.bx.reads, hq303⟩ (dr_skip (i := 22) rfl rfl (want_no rfl rfl rfl rfl rfl) (by kernel_rfl) ⟨hq302, hX295.pins, hpk301.bx.reads, hq303⟩ (dr_skip (i := 23) rfl rfl (want_no rfl rfl rfl rfl rfl) (by kernel_rfl) ⟨hq302, hX295.pins, hpk301.bx.reads, hq303⟩ (dr_skip (i := 24) rfl rfl (want_no rfl rfl rfl rfl rfl) (by kernel_rfl) ⟨hq302, hX295.pins, hpk301.bx.reads, hq303⟩ (dr_skip (i := 25) rfl rfl (want_no rfl rfl rfl rfl rfl) (by kernel_rfl) ⟨hq302, hX295.pins, hpk301.bx.reads, hq303⟩ (dr_take (i := 26) rfl rfl rfl (want_none rfl _) (by kernel_rfl) (fun _ _ => r_pickF (v := (.bool false)) rfl rfl) ⟨hq302, hX295.pins, hpk301.bx.reads, hq303⟩ (dr_end (by kernel_rfl) (s_then (c_ifF rfl rfl (wp_exit (s_thenE (s_lopE (cutE_in ⟨_, kk, gv, gs, LV2, GL2, (packS (x := 11) (packS (x := 10) (packS (x := 9) (packS (x := 8) (packS (x := 7) (packS (x := 6) (packS (x := 5) (packS (x := 4) (pack1 (x := 2) rfl) rfl) rfl) rfl) rfl) rfl) rfl) rfl) rfl), hX295, hlek124, hkk, hgr, hLV2, (Or.inl (by omega)), ho296, ho297, ho298, ha131, ha132, hlv299, ha134, ha135, ha136, hm300, hpk301, hnp139⟩))))))))))))))))))))))))))))
 refine wp_exit (s_thenE (s_lopE (s_blkE (s_then (s_seq (c_reg ?_))))))
 refine qd rfl rfl rfl (r_move (v := u26) rfl) (qd rfl rfl rfl (r_move (v := nv) rfl) (qd rfl rfl rfl (r_assign (v := u26) rfl) (qd rfl rfl rfl (r_assign (v := nv) rfl) (qe (s_then ?_)))))
 refine wp_ret (s_ret (c_ret2 (v := u26) (u := nv) rfl rfl rfl rfl rfl ?_))
 have hnn : n = ls.length := by omega
 rw [hnn] at hor
 have hon := hw90
 rw [hps] at hon
 have hlv := hlv92.perm hLV
 have hap := ha94.perm hLV
 rw [lvE_lvN] at hlv hap
 exact ⟨_, _, ls, done.map Ent.nd, zs27, _, rfl, hw89, ⟨done.map Ent.pr, by rw [List.length_map, List.length_map], hon, fun k hk => (hon.lt k hk).2, hlv, hap⟩, hor, hpt31, hX88⟩

end OD1
end Go.Proofs.YtbfhkngkfadmnaaGreatDoor

set_option maxRecDepth 20000
set_option maxHeartbeats 2000000
namespace Go.Proofs.YtbfhkngkfadmnaaGreatDoor
namespace FO1
open Go.RowKit Go.GL Go.Proofs
open B1 PO1 PA1 SO1 OD1






theorem pl24 : (Tryz.prog.underlying 24).bind (placesD Tryz.prog) = some [(0, 1)] := by kernel_rfl






theorem form_spec {w : World} {G : Pin} {p : Nat} {L R B : Value} {mm : PM} {q : PSt} (hP : Pins G w) (hpk : Pk 32 3 G w p L R B mm q) (hok : PoolOk q) {i : Int} (hi : PlaceOk q i) :
  Calls Tryz.prog 15 [(.pointer (some ⟨p, 0, none⟩)), (.int .i64 i)].toArray w fun e w' => ∃ (u : Value) (G' : Pin), e = .returned (.tuple #[(.agg [u].toArray), .bool (fitB (pd q i))]) ∧ DForm 58 3 G' w' w.heap.size w'.heap.size u (frmG (pd q i)) ∧ Ext noS G w G' w' := by
 refine s_enter (n := 44) Tryz.func15 Tryz.ntmps15 rfl rfl ?_
 have hX0 : Ext noS G w G w := Ext.refl hP
 have hpin : PIn w (inP p L R B mm) p L R B mm := PIn.self
 have hml1 : (q.ns.map Nd.l).length = q.ns.length ∧ (q.ns.map Nd.r).length = q.ns.length := ⟨List.length_map .., List.length_map ..⟩
 have hml2 : q.bs.length = q.ns.length ∧ q.ns.length ≤ 1048576 := ⟨hok.ar.ok.len, hok.ar.ok.lim⟩
 have hi0 := hi.1
 have hi1 := hi.2
 have hone1 := place_one hi
 refine s_seq (c_reg ?_)
 refine q1 rfl rfl rfl (o_alloc [(.slice none 0 0)] zr24 rfl hX0.pins (fun b3 w4 hk5 hb6 hp7 hl8 => ?_))
 have hX9 := hX0.step hp7 hl8
 have hpk10 := hpk.below hl8 hp7
 have hlo16 : w.heap.size ≤ b3 := by have := hX0.size; omega
 refine qd rfl rfl rfl (r_assign (v := (.bool false)) rfl) (qe (s_then (s_seq (s_seq (c_reg ?_)))))
 refine qd rfl rfl rfl (r_move (v := (.pointer (some ⟨p, 0, none⟩))) rfl) (qd rfl rfl rfl (r_move (v := (.int .i64 i)) rfl) (q1 rfl rfl rfl (o_buildF (E := eInt) (e := 3) [(.int .i64 i)] [i] Tryz.underlying32 sz3 zr3 (by exact reps1 (by rfl)) (ones1 (by rfl)) rfl rfl rfl rfl (by decide) hX9.pins (fun u17 w18 ho19 hp20 hl21 hk22 => ?_))))
 have hX23 := hX9.step hp20 hl21
 have hb24 := hb6.below hl21
 have hpk25 := hpk10.below hl21 hp20
 have ha30 : Apart u17.ownBlock (some b3) := new_ne_box hk22 hb6.lt
 have ha31 := hpk10.new (x := u17.ownBlock) (fun k hk => by rw [hk22] at hk; cases hk; exact Nat.le_refl _)
 have ho32 : Own eInt 3 G w18 w.heap.size u17 ([i]) := ho19.weaken hX9.size
 obtain ⟨G40, hle43, hX42, hr41, hf44⟩ := ho32.sealed hX23
 have hb45 := hb24.moreO hf44 ha30.symm
 have hpk46 := hpk25.moreO hle43 hf44 ha31
 refine q1 rfl rfl rfl (o_call (vs := [(.pointer (some ⟨p, 0, none⟩)), u17]) Tryz.func31 nm31 rfl rfl rfl ?_)
 refine Calls.mono (parts_spec hX42.pins hpk46 hok hr41 hone1 (by simp)) ?_
 rintro _ w36 ⟨u33, zs34, G35, rfl, ho37, hpt38, hx39⟩
 refine ⟨_, rfl, ?_⟩
 have hX47 := hX42.tr hx39
 have hb48 := hb45.ext hx39
 have hpk49 := hpk46.ext hx39
 have ho52 : Own eInt 3 G35 w36 w.heap.size u33 zs34 := ho37.weaken hX42.size
 have hql53 := hpt38.len
 have hfl := form_len hok hi hpt38
 refine qd rfl rfl rfl (run_len Tryz.underlying32 (v := u33) rfl ho52.read) (qd rfl rfl rfl (r_gtr rfl rfl) (qe (s_then ?_)))
 refine c_ifd (p := (120 : Int) < (zs34.length : Int)) rfl rfl (fun h54 => ?_) (fun h54 => ?_)
 refine s_seq (c_reg ?_)
 refine qd rfl rfl rfl (r_build [(.slice none 0 0)] [(.slice none 0 0)] [] Tryz.underlying24 zr24 rfl pl24 rfl (fun _ h => by cases h) rfl) (q0 rfl rfl rfl (o_stp (cs' := [(.slice none 0 0)]) (us := [(.slice none 0 0)]) (v := (.agg [(.slice none 0 0)].toArray)) sz24 rfl rfl rfl (ones1 (by rfl)) hX47.pins hb48 (Nat.le_of_ble_eq_true rfl) rfl (fun w55 hb56 hp57 hg58 hz59 => ?_)))
 have hX60 := hX47.write hp57 hg58 ((lo_box hlo16))
 refine qd rfl rfl rfl (r_assign (v := (.bool false)) rfl) (qe (s_then ?_))
 refine wp_ret (s_ret (c_retct (cs := [(.slice none 0 0)]) (v := (.bool false)) rfl rfl rfl rfl rfl ag24 sz24 (fun j u hj => by rw [Nat.zero_add]; exact hb56.cell hj) ?_))
 have hfb : fitB (pd q i) = false := fit_long (by omega)
 rw [hfb, frm_no hfb]
 exact ⟨_, _, rfl, DForm.nil, hX60⟩
 refine wp_skip (s_then (s_seq (c_reg ?_)))
 refine qd rfl rfl rfl (r_move (v := (.pointer (some ⟨p, 0, none⟩))) rfl) (qd rfl rfl rfl (r_move (v := (.int .i64 i)) rfl) (q1 rfl rfl rfl (o_buildF (E := eInt) (e := 3) [(.int .i64 i)] [i] Tryz.underlying32 sz3 zr3 (by exact reps1 (by rfl)) (ones1 (by rfl)) rfl rfl rfl rfl (by decide) hX47.pins (fun u63 w64 ho65 hp66 hl67 hk68 => ?_))))
 have hX69 := hX47.step hp66 hl67
 have hb71 := hb48.below hl67
 have hpk72 := hpk49.below hl67 hp66
 have ha77 : Apart u63.ownBlock (some b3) := new_ne_box hk68 hb48.lt
 have ha79 := hpk49.new (x := u63.ownBlock) (fun k hk => by rw [hk68] at hk; cases hk; exact Nat.le_refl _)
 have ho80 : Own eInt 3 G35 w64 w.heap.size u63 ([i]) := ho65.weaken hX47.size
 obtain ⟨G99, hle102, hX101, hr100, hf103⟩ := ho80.sealed hX69
 have hb105 := hb71.moreO hf103 ha77.symm
 have hpk106 := hpk72.moreO hle102 hf103 ha79
 refine q1 rfl rfl rfl (o_call (vs := [(.pointer (some ⟨p, 0, none⟩)), u63]) Tryz.func32 nm32 rfl rfl rfl ?_)
 refine Calls.mono (order_spec hX101.pins hpk106 hok hr100 hone1 (by simp)) ?_
 rintro _ w87 ⟨u81, v82, ls83, ns84, zs85, G86, rfl, ho88, hd89, hor90, hpt91, hx92⟩
 refine ⟨_, rfl, ?_⟩
 have hX107 := hX101.tr hx92
 have hb109 := hb105.ext hx92
 have hpk110 := hpk106.ext hx92
 have hfo := hor90.form hok hpt91
 obtain ⟨ps93, hpl94, ho95, hlt96, hlv97, hap98⟩ := hd89.ex
 have ho116 := ho95.weaken hX101.size
 have hlv117 := (hlv97.weaken hX101.size (Nat.le_refl _)).top
 have ha118 : Apart (some b3) v82.ownBlock := (made_ne_box ho95.lt hb105.lt).symm
 have ha119 : ApL (lvN ps93 ns84) (some b3) := fun p hp => made_ne_box (hlv97.own p hp).lt hb105.lt
 refine qd rfl rfl rfl (r_move (v := (.tuple #[u81, v82])) rfl) (qd rfl rfl rfl (r_extract (v := u81) rfl rfl) (qd rfl rfl rfl (r_extract (v := v82) rfl rfl) (qd rfl rfl rfl (r_assign (v := u81) rfl) (qd rfl rfl rfl (r_assign (v := v82) rfl) (qe (s_then (s_seq (s_seq (c_reg ?_)))))))))
 refine qd rfl rfl rfl (r_move (v := v82) rfl) (qd rfl rfl rfl (run_len Tryz.underlying22 (v := v82) rfl ho116.read) (qd rfl rfl rfl (r_move (v := (.int .i64 0)) rfl) (qe (s_then ?_))))
 refine s_blk ?_
 have hlo := hfo.1.lo
 have hlf := hfo.eq
 rw [hlf] at hfl
 refine s_loop (fun (k : Nat) (en : Nat → Value) (W : World) => ∃ (env1 : Nat → Value) (j : Nat) (GL1 : Pin), en = (upd (upd (upd (upd (upd env1 4 (.pointer (some ⟨b3, 0, none⟩))) 7 v82) 24 v82) 25 (.int .i64 (ps93.length : Int))) 26 (.int .i64 (j : Int))) ∧ k = ns84.length - j ∧ Ext noS G w GL1 W ∧ Pin.le G86 GL1 ∧ (j ≤ ns84.length) ∧ (∀ k, k < j → (ns84.getD k default).l.length ≤ 24 ∧ (ns84.getD k default).r.length ≤ 24) ∧ (Own eVal2 58 GL1 W w.heap.size v82 (ps93)) ∧ (Bx GL1 W b3 [(.slice none 0 0)]) ∧ (Lvs 3 GL1 W w.heap.size W.heap.size (lvN ps93 ns84)) ∧ (ApL (lvN ps93 ns84) v82.ownBlock) ∧ (ApL (lvN ps93 ns84) (some b3)) ∧ (Pk 32 3 GL1 W p L R B mm q)) _ ⟨_, 0, G86, (packS (x := 26) (packS (x := 25) (packS (x := 24) (packS (x := 7) (pack1 (x := 4) rfl) rfl) rfl) rfl) rfl), rfl, hX107, Pin.le_refl _, Nat.zero_le _, (fun k hk => absurd hk (Nat.not_lt_zero k)), ho116, hb109, hlv117, hap98, ha119, hpk110⟩ ?_
 rintro k124 _ w125 ⟨env1, j, GL1, rfl, hk126, hX127, hlek124, hj, hop, hw128, hw129, hlv130, ha131, ha132, hpk133⟩
 refine s_seq (c_reg ?_)
 refine qd rfl rfl rfl (r_lss rfl rfl) (qe (s_then (s_seq ?_)))
 refine c_ifd (p := ((j : Int) : Int) < (ps93.length : Int)) rfl rfl (fun h134 => ?_) (fun h134 => ?_)
 refine wp_skip (s_then (s_seq ?_))
 refine s_blk (s_seq (c_reg ?_))
 refine qd rfl rfl rfl (run_idx Tryz.underlying22 sz58 (v := v82) rfl rfl hw128.read (by omega) (by omega)) ?_
 obtain ⟨cs135, hrep136, hagg137, hcell138⟩ := nm_el (j := j) default (hw128.at (z := (j : Int)) (by omega) (by omega)) rfl
 obtain ⟨rfl, hone139, hone140⟩ := hrep136
 refine qd rfl rfl rfl (hagg137 ag58 sz58 rfl (Gadd.pins hX127.pins v82)) (q1 rfl rfl rfl (o_alloc [(.slice none 0 0), (.slice none 0 0)] zr58 rfl hX127.pins (fun b141 w142 hk143 hb144 hp145 hl146 => ?_)))
 have hX147 := hX127.step hp145 hl146
 have ho148 := hw128.below hl146
 have hb149 := hw129.below hl146
 have hlv150 := (hlv130.below hl146).top
 have hpk151 := hpk133.below hl146 hp145
 have ha152 : Apart (some b141) v82.ownBlock := new_ne_own (congrArg some hk143) hw128.lt
 have ha156 : Apart (some b141) (some b3) := new_ne_box (congrArg some hk143) hw129.lt
 have ha158 : ApL (lvN ps93 ns84) (some b141) := ApL.fresh hlv130 (fun k hk => by rw [(congrArg some hk143)] at hk; cases hk; exact Nat.le_refl _)
 have ha159 := hpk133.new (x := (some b141)) (fun k hk => by rw [(congrArg some hk143)] at hk; cases hk; exact Nat.le_refl _)
 have hlo160 : w.heap.size ≤ b141 := by have := hX127.size; omega
 refine q0 rfl rfl rfl (o_stp (cs' := [(ps93.getD j default).1, (ps93.getD j default).2]) (us := [(ps93.getD j default).1, (ps93.getD j default).2]) (v := (.agg [(ps93.getD j default).1, (ps93.getD j default).2].toArray)) sz58 rfl rfl rfl (ones2 hone139 hone140) hX147.pins hb144 (Nat.le_of_ble_eq_true rfl) rfl (fun w161 hb162 hp163 hg164 hz165 => ?_))
 have hX166 := hX147.write hp163 hg164 ((lo_box hlo160))
 have ho167 := ho148.keptA hg164 ha152.symm
 have hb168 := hb149.keptA hg164 ha156.symm
 have hlv169 := (hlv150.kept hg164 ha158).top
 have hpk170 := hpk151.kept hg164 hp163 ha159
 obtain ⟨G171, hle172, hX173, hbp174, hf175⟩ := hb162.shut hX166 hlo160
 have ho176 := ho167.moreA hle172 hf175 ha152.symm
 have hb177 := hb168.moreA hf175 ha156.symm
 have hlv178 := hlv169.more hle172 hf175 ha158
 have hpk179 := hpk170.more hle172 hf175 ha159
 refine qe (s_then (s_seq (c_reg ?_)))
 have hpj : ps93[j]? = some (ps93.getD j default) := by simp [List.getD, show j < ps93.length by omega]
 have hnj : ns84[j]? = some (ns84.getD j default) := by simp [List.getD, show j < ns84.length by omega]
 have hr180 := (hlv178.own _ (lvN_mem hpj hnj).1).read
 have hr181 := (hlv178.own _ (lvN_mem hpj hnj).2).read
 refine qd rfl rfl rfl (r_fldp (k := 0) rfl Tryz.underlying58 rfl nz32 rfl) (qd rfl rfl rfl (r_ldp1 (u := (ps93.getD j default).1) ag32 rfl (hX173.pins _ _ _ (hbp174 0 _ rfl))) (qd rfl rfl rfl (run_len Tryz.underlying32 (v := (ps93.getD j default).1) rfl hr180) (qd rfl rfl rfl (r_gtr rfl rfl) (qd rfl rfl rfl (r_move (v := (.bool (decide ((24 : Int) < (((ns84.getD j default).l).length : Int))))) rfl) (qbd (p := (24 : Int) < (((ns84.getD j default).l).length : Int)) (t := 34) rfl (fun h182 => ?_) (fun h182 => ?_))))))
 refine qs rfl rfl rfl rfl rfl rfl (qs rfl rfl rfl rfl rfl rfl (qs rfl rfl rfl rfl rfl rfl (qs rfl rfl rfl rfl rfl rfl (qd rfl rfl rfl (r_pickT (v := (.bool true)) rfl rfl) (qe (s_then ?_))))))
 refine c_ifT rfl rfl (s_seq (c_reg ?_))
 refine qd rfl rfl rfl (r_build [(.slice none 0 0)] [(.slice none 0 0)] [] Tryz.underlying24 zr24 rfl pl24 rfl (fun _ h => by cases h) rfl) (q0 rfl rfl rfl (o_stp (cs' := [(.slice none 0 0)]) (us := [(.slice none 0 0)]) (v := (.agg [(.slice none 0 0)].toArray)) sz24 rfl rfl rfl (ones1 (by rfl)) hX173.pins hb177 (Nat.le_of_ble_eq_true rfl) rfl (fun w183 hb184 hp185 hg186 hz187 => ?_)))
 have hX188 := hX173.write hp185 hg186 ((lo_box hlo16))
 refine qd rfl rfl rfl (r_assign (v := (.bool false)) rfl) (qe (s_then ?_))
 refine wp_ret (s_ret (c_retct (cs := [(.slice none 0 0)]) (v := (.bool false)) rfl rfl rfl rfl rfl ag24 sz24 (fun j u hj => by rw [Nat.zero_add]; exact hb184.cell hj) ?_))
 have hfb : fitB (pd q i) = false := fit_opt hfo (k := j) (by omega) (by omega)
 rw [hfb, frm_no hfb]
 exact ⟨_, _, rfl, DForm.nil, hX188⟩
 refine qdg rfl rfl rfl rfl rfl rfl (r_fldp (k := 1) rfl Tryz.underlying58 rfl nz32 rfl) (qdg rfl rfl rfl rfl rfl rfl (r_ldp1 (u := (ps93.getD j default).2) ag32 rfl (hX173.pins _ _ _ (hbp174 1 _ rfl))) (qdg rfl rfl rfl rfl rfl rfl (run_len Tryz.underlying32 (v := (ps93.getD j default).2) rfl hr181) (qdg rfl rfl rfl rfl rfl rfl (r_gtr rfl rfl) (qd rfl rfl rfl (r_pickF (v := (.bool (decide ((24 : Int) < (((ns84.getD j default).r).length : Int))))) rfl rfl) (qe (s_then ?_))))))
 refine c_ifd (p := (24 : Int) < (((ns84.getD j default).r).length : Int)) rfl rfl (fun h192 => ?_) (fun h192 => ?_)
 refine s_seq (c_reg ?_)
 refine qd rfl rfl rfl (r_build [(.slice none 0 0)] [(.slice none 0 0)] [] Tryz.underlying24 zr24 rfl pl24 rfl (fun _ h => by cases h) rfl) (q0 rfl rfl rfl (o_stp (cs' := [(.slice none 0 0)]) (us := [(.slice none 0 0)]) (v := (.agg [(.slice none 0 0)].toArray)) sz24 rfl rfl rfl (ones1 (by rfl)) hX173.pins hb177 (Nat.le_of_ble_eq_true rfl) rfl (fun w193 hb194 hp195 hg196 hz197 => ?_)))
 have hX198 := hX173.write hp195 hg196 ((lo_box hlo16))
 refine qd rfl rfl rfl (r_assign (v := (.bool false)) rfl) (qe (s_then ?_))
 refine wp_ret (s_ret (c_retct (cs := [(.slice none 0 0)]) (v := (.bool false)) rfl rfl rfl rfl rfl ag24 sz24 (fun j u hj => by rw [Nat.zero_add]; exact hb194.cell hj) ?_))
 have hfb : fitB (pd q i) = false := fit_opt hfo (k := j) (by omega) (by omega)
 rw [hfb, frm_no hfb]
 exact ⟨_, _, rfl, DForm.nil, hX198⟩
 refine wp_skip (s_blkN (s_then (c_reg ?_)))
 refine qd rfl rfl rfl (r_add rfl rfl (by omega)) (qd rfl rfl rfl (r_move (v := (.int .i64 ((j : Int) + 1))) rfl) (qe (s_lopN (⟨_, ?_, _, rfl, _, j + 1, G171, (packS (x := 26) (packS (x := 25) (packS (x := 24) (packS (x := 7) (pack1 (x := 4) rfl) rfl) rfl) rfl) rfl), rfl, hX173, (Pin.le_trans hlek124 hle172), (by omega), (fun k hk => if h : k = j then h ▸ (by omega) else hop k (by omega)), ho176, hb177, hlv178, ha131, ha132, hpk179⟩))))
 omega
 refine wp_exit (s_thenE (s_lopE (s_blkE (s_then (s_seq (c_reg ?_))))))
 refine qd rfl rfl rfl (r_move (v := v82) rfl) (qd rfl rfl rfl (r_build [(.slice none 0 0)] [v82] [(0, v82, [v82])] Tryz.underlying24 zr24 rfl pl24 rfl (List.forall_mem_cons.2 ⟨(cells_one hw128.one), (fun _ h => by cases h)⟩) rfl) (q0 rfl rfl rfl (o_stp (cs' := [v82]) (us := [v82]) (v := (.agg [v82].toArray)) sz24 rfl rfl rfl (ones1 hw128.one) hX127.pins hw129 (Nat.le_of_ble_eq_true rfl) rfl (fun w202 hb203 hp204 hg205 hz206 => ?_))))
 have hX207 := hX127.write hp204 hg205 ((lo_box hlo16))
 have ho208 := hw128.keptA hg205 ha118.symm
 have hlv209 := (hlv130.kept hg205 ha132).top
 refine qd rfl rfl rfl (r_assign (v := (.bool true)) rfl) (qe (s_then ?_))
 refine wp_ret (s_ret (c_retct (cs := [v82]) (v := (.bool true)) rfl rfl rfl rfl rfl ag24 sz24 (fun j u hj => by rw [Nat.zero_add]; exact hb203.cell hj) ?_))
 have hfb : fitB (pd q i) = true := fit_yes hfo (by omega) (fun k hk => hop k (by omega))
 rw [hfb, frm_yes hfo hfb]
 exact ⟨_, _, rfl, ⟨ps93, hpl94, ho208, (fun k hk => (ho208.lt k hk).2), hlv209, ha131⟩, hX207⟩

end FO1
end Go.Proofs.YtbfhkngkfadmnaaGreatDoor

set_option maxRecDepth 20000
set_option maxHeartbeats 2000000
namespace Go.Proofs.YtbfhkngkfadmnaaGreatDoor
namespace RD1
open Go.RowKit Go.GL Go.Proofs
open B1 K1 PO1




def BrP (m p : Nat) (mm : PM) (s : ByteArray) : Prop := ∀ {w : World} {G : Pin} {L R B : Value} {q : PSt} {i : Nat} (_ : Pins G w) (_ : Pk 32 3 G w p L R B mm q) (_ : PoolOk q) (_ : q.ns.length + (s.size - i) + 1 ≤ 1048576) (_ : s.size ≤ 1048576) {z0 : Int} (_ : z0 = (i : Int)), s.size - i < m →
  Calls Tryz.prog 14 [(.pointer (some ⟨p, 0, none⟩)), (.string s), (.int .i64 z0)].toArray w fun e w' => ∃ (z n : Int) (a : Option (Nat × Nat)) (L' R' B' : Value) (q' : PSt) (G' : Pin), e = .returned (.tuple #[.int .i64 z, .int .i64 n]) ∧ Pk 32 3 G' w' p L' R' B' mm q' ∧ PoolOk q' ∧ PX q q' ∧ PLo w p L R B mm L' R' B' ∧ Ext (inP p L R B mm) G w G' w' ∧ RdG s i a ∧ -1 ≤ n ∧ (n < 0 → a = none) ∧ (0 ≤ n → BrY s i q q' z n a)

def BlP (m p : Nat) (mm : PM) (s : ByteArray) : Prop := ∀ {w : World} {G : Pin} {L R B : Value} {q : PSt} {i : Nat} (_ : Pins G w) (_ : Pk 32 3 G w p L R B mm q) (_ : PoolOk q) (_ : q.ns.length + (s.size - i) + 1 ≤ 1048576) (_ : s.size ≤ 1048576) {z0 : Int} (_ : z0 = (i : Int)) {b : Nat}, s.size - i < m →
  Calls Tryz.prog 29 [(.pointer (some ⟨p, 0, none⟩)), (.string s), (.int .i64 z0), (.int .u8 (b : Int))].toArray w fun e w' => ∃ (v : Value) (n : Int) (a : Option (List Nat × Nat)) (xs : List Int) (L' R' B' : Value) (q' : PSt) (G' : Pin), e = .returned (.tuple #[v, .int .i64 n]) ∧ Pk 32 3 G' w' p L' R' B' mm q' ∧ PoolOk q' ∧ PX q q' ∧ PLo w p L R B mm L' R' B' ∧ Ext (inP p L R B mm) G w G' w' ∧ RdL s i b a ∧ -1 ≤ n ∧ (n < 0 → a = none) ∧ (0 ≤ n → BlY s i q q' xs n a) ∧ RSl eInt G' v xs

theorem blist_step {w : World} {G : Pin} {p : Nat} {L R B : Value} {mm : PM} {q : PSt} {s : ByteArray} {i : Nat} (hP : Pins G w) (hpk : Pk 32 3 G w p L R B mm q) (hok : PoolOk q) (hrm : q.ns.length + (s.size - i) + 1 ≤ 1048576) (hsz : s.size ≤ 1048576) {m b : Nat} (ih : BrP m p mm s) (hm : s.size - i < m) :
  Calls Tryz.prog 29 [(.pointer (some ⟨p, 0, none⟩)), (.string s), (.int .i64 (i : Int)), (.int .u8 (b : Int))].toArray w fun e w' => ∃ (v : Value) (n : Int) (a : Option (List Nat × Nat)) (xs : List Int) (L' R' B' : Value) (q' : PSt) (G' : Pin), e = .returned (.tuple #[v, .int .i64 n]) ∧ Pk 32 3 G' w' p L' R' B' mm q' ∧ PoolOk q' ∧ PX q q' ∧ PLo w p L R B mm L' R' B' ∧ Ext (inP p L R B mm) G w G' w' ∧ RdL s i b a ∧ -1 ≤ n ∧ (n < 0 → a = none) ∧ (0 ≤ n → BlY s i q q' xs n a) ∧ RSl eInt G' v xs := by
 refine s_enter (n := 61) Tryz.func29 Tryz.ntmps29 rfl rfl ?_
 have hX0 : Ext (inP p L R B mm) G w G w := Ext.refl hP
 have hpin : PIn w (inP p L R B mm) p L R B mm := PIn.self
 have hml1 : (q.ns.map Nd.l).length = q.ns.length ∧ (q.ns.map Nd.r).length = q.ns.length := ⟨List.length_map .., List.length_map ..⟩
 have hml2 : q.bs.length = q.ns.length ∧ q.ns.length ≤ 1048576 := ⟨hok.ar.ok.len, hok.ar.ok.lim⟩
 refine s_seq (c_reg ?_)
 refine qd rfl rfl rfl (r_assign (v := (.slice none 0 0)) rfl) (qd rfl rfl rfl (r_assign (v := (.int .i64 0)) rfl) (qe (s_then (s_seq (c_reg ?_)))))
 refine q1 rfl rfl rfl (o_build0 (E := eInt) (e := 3) Tryz.underlying32 sz3 hX0.pins (fun u3 w4 ho5 hp6 hl7 hk8 => ?_))
 have hX9 := hX0.step hp6 hl7
 have hpk10 := hpk.below hl7 hp6
 have ha15 := hpk.new (x := u3.ownBlock) (fun k hk => by rw [hk8] at hk; cases hk; exact Nat.le_refl _)
 have ho16 : Own eInt 3 G w4 w.heap.size u3 ([]) := ho5.weaken hX0.size
 refine qd rfl rfl rfl (r_assign (v := u3) rfl) (qe (s_then (s_seq (s_seq (c_reg ?_)))))
 refine qd rfl rfl rfl (r_move (v := (.int .i64 (i : Int))) rfl) (qd rfl rfl rfl (r_move (v := (.string s)) rfl) (qd rfl rfl rfl (r_lenS Tryz.underlying9 rfl) (qd rfl rfl rfl (r_lss rfl rfl) (qd rfl rfl rfl (r_move (v := (.bool (decide (((i : Int) : Int) < (s.size : Int))))) rfl) (qbd (p := ((i : Int) : Int) < (s.size : Int)) (t := 18) rfl (fun h17 => ?_) (fun h17 => ?_))))))
 refine qdg rfl rfl rfl rfl rfl rfl (r_move (v := (.string s)) rfl) (qdg rfl rfl rfl rfl rfl rfl (r_move (v := (.int .i64 (i : Int))) rfl) (qdg rfl rfl rfl rfl rfl rfl (r_idxB Tryz.underlying9 rfl rfl (by omega) (by omega)) (qdg rfl rfl rfl rfl rfl rfl (r_move (v := (.int .u8 (b : Int))) rfl) (qdg rfl rfl rfl rfl rfl rfl (r_eql rfl rfl) (qd rfl rfl rfl (r_pickT (v := (.bool (decide ((((sB s i).toNat : Int) : Int) = (b : Int))))) rfl rfl) (qe (s_then ?_)))))))
 refine c_ifd (p := (((sB s i).toNat : Int) : Int) = (b : Int)) rfl rfl (fun h18 => ?_) (fun h18 => ?_)
 refine s_seq (c_reg ?_)
 refine qd rfl rfl rfl (r_move (v := u3) rfl) (qd rfl rfl rfl (r_move (v := (.int .i64 (i : Int))) rfl) (qd rfl rfl rfl (r_add rfl rfl (by omega)) (qd rfl rfl rfl (r_assign (v := u3) rfl) (qd rfl rfl rfl (r_assign (v := (.int .i64 ((i : Int) + 1))) rfl) (qe (s_then ?_))))))
 refine wp_ret (s_ret (c_ret2 (v := u3) (u := (.int .i64 ((i : Int) + 1))) rfl rfl rfl rfl rfl ?_))
 obtain ⟨G19, hle22, hX21, hr20, hf23⟩ := ho16.sealed hX9
 have hpk24 := hpk10.moreO hle22 hf23 ha15
 exact ⟨_, _, some ([], i + 1), [], L, R, B, q, G19, rfl, hpk24, hok, (PX.refl _), PIn.lo hpin rfl, hX21, RdL.nil (isB_yes (by omega) h18), (by omega), (fun h => absurd h (by omega)), (fun _ => ⟨⟨[], by rw [show ((i : Int) + 1).toNat = i + 1 by omega], GsOk.nil⟩, by omega, by omega, by omega, (by show ((0 : Nat) : Int) ≤ _; omega)⟩), hr20⟩
 refine wp_skip (s_then (s_blk (s_loop (fun (k : Nat) (en : Nat → Value) (W : World) => ∃ (env1 : Nat → Value) (iz : Int) (lv : Value) (ls : List Int) (gs : List Nat) (L25 : Value) (R26 : Value) (B27 : Value) (q28 : PSt) (GL1 : Pin), en = (upd (upd (upd (upd (upd env1 0 (.pointer (some ⟨p, 0, none⟩))) 1 (.string s)) 2 (.int .i64 iz)) 3 (.int .u8 (b : Int))) 10 lv) ∧ k = s.size + 1 - iz.toNat ∧ Ext (inP p L R B mm) G w GL1 W ∧ Pin.le G GL1 ∧ (i : Int) ≤ iz ∧ (AccM s i b gs iz.toNat) ∧ (GsOk q28 ls gs) ∧ (q28.ns.length : Int) + i ≤ q.ns.length + iz ∧ (ls.length : Int) + i ≤ iz ∧ (iz ≤ s.size ∨ iz = i) ∧ (Own eInt 3 GL1 W w.heap.size lv (ls)) ∧ (Pk 32 3 GL1 W p L25 R26 B27 mm q28) ∧ (PIn w ((inP p L R B mm)) p L25 R26 B27 mm) ∧ (PoolOk q28) ∧ (PX q q28) ∧ (NP p L25 R26 B27 mm lv.ownBlock)) _ ⟨_, (i : Int), u3, [], [], L, R, B, q, G, (packS (x := 10) (packS (x := 3) (packS (x := 2) (packS (x := 1) (pack1 (x := 0) rfl) rfl) rfl) rfl) rfl), rfl, hX9, Pin.le_refl _, (by omega), AccM.start, GsOk.nil, (by omega), (by simp), (Or.inr rfl), ho16, hpk10, hpin, hok, (PX.refl _), ha15⟩ ?_)))
 rintro k29 _ w30 ⟨env1, iz, lv, ls, gs, L25, R26, B27, q28, GL1, rfl, hk31, hX32, hlek29, hi2, hac, hgs, hqs, hll, hi3, hw33, hpk34, hpin35, hok36, hpx37, hnp38⟩
 have hql39 := hpx37.len
 have hml40 : (q28.ns.map Nd.l).length = q28.ns.length ∧ (q28.ns.map Nd.r).length = q28.ns.length := ⟨List.length_map .., List.length_map ..⟩
 have hml41 : q28.bs.length = q28.ns.length ∧ q28.ns.length ≤ 1048576 := ⟨hok36.ar.ok.len, hok36.ar.ok.lim⟩
 refine s_blk (s_seq (c_reg ?_))
 refine qd rfl rfl rfl (r_move (v := (.pointer (some ⟨p, 0, none⟩))) rfl) (qd rfl rfl rfl (r_move (v := (.string s)) rfl) (qd rfl rfl rfl (r_move (v := (.int .i64 iz)) rfl) (q1 rfl rfl rfl (o_call (vs := [(.pointer (some ⟨p, 0, none⟩)), (.string s), (.int .i64 iz)]) Tryz.func14 nm14 rfl rfl rfl ?_))))
 refine Calls.mono (ih hX32.pins hpk34 hok36 (i := (iz).toNat) (by omega) hsz (z0 := iz) (by omega) (by omega)) ?_
 rintro _ w54 ⟨z42, n43, a44, L49, R50, B51, q52, G53, rfl, hpk55, hok56, hpx57, hlo58, hx59, hrd45, hge46, hno47, hys48⟩
 refine ⟨_, rfl, ?_⟩
 have hX60 := hX32.trans hx59 hpin35
 have ho61 := hw33.extS hx59 hnp38
 have hnp62 := NP.call hnp38 hlo58 (own_lt hw33)
 have hpin63 := PIn.call hpin35 hlo58 hX32.size
 have hql64 := hpx57.len
 have hml65 : (q52.ns.map Nd.l).length = q52.ns.length ∧ (q52.ns.map Nd.r).length = q52.ns.length := ⟨List.length_map .., List.length_map ..⟩
 have hml66 : q52.bs.length = q52.ns.length ∧ q52.ns.length ≤ 1048576 := ⟨hok56.ar.ok.len, hok56.ar.ok.lim⟩
 refine qd rfl rfl rfl (r_move (v := (.tuple #[(.int .i64 z42), (.int .i64 n43)])) rfl) (qd rfl rfl rfl (r_extract (v := (.int .i64 z42)) rfl rfl) (qd rfl rfl rfl (r_extract (v := (.int .i64 n43)) rfl rfl) (qd rfl rfl rfl (r_assign (v := (.int .i64 z42)) rfl) (qd rfl rfl rfl (r_assign (v := (.int .i64 n43)) rfl) (qe (s_then (s_seq (s_seq (c_reg ?_)))))))))
 refine qd rfl rfl rfl (r_move (v := (.int .i64 n43)) rfl) (qd rfl rfl rfl (r_lss rfl rfl) (qd rfl rfl rfl (r_move (v := (.bool (decide ((n43 : Int) < 0)))) rfl) (qbd (p := (n43 : Int) < 0) (t := 37) rfl (fun h67 => ?_) (fun h67 => ?_))))
 refine qs rfl rfl rfl rfl rfl rfl (qs rfl rfl rfl rfl rfl rfl (qs rfl rfl rfl rfl rfl rfl (qs rfl rfl rfl rfl rfl rfl (qd rfl rfl rfl (r_pickT (v := (.bool true)) rfl rfl) (qe (s_then ?_))))))
 refine c_ifT rfl rfl (s_seq (c_reg ?_))
 refine qd rfl rfl rfl (r_assign (v := (.slice none 0 0)) rfl) (qd rfl rfl rfl (r_assign (v := (.int .i64 (-1))) rfl) (qe (s_then ?_)))
 exact wp_ret (s_ret (c_ret2 (v := (.slice none 0 0)) (u := (.int .i64 (-1))) rfl rfl rfl rfl rfl (⟨_, _, none, [], L49, R50, B51, q52, G53, rfl, hpk55, hok56, (PX.trans hpx37 hpx57), PIn.lo hpin63 rfl, hX60, RdL.go (isB_no h18) (hac.no (hno47 h67 ▸ hrd45)), (by omega), (fun _ => rfl), (fun h => absurd h (by omega)), nil_reads _ _⟩)))
 refine qdg rfl rfl rfl rfl rfl rfl (r_move (v := (.int .i64 n43)) rfl) (qdg rfl rfl rfl rfl rfl rfl (r_move (v := (.string s)) rfl) (qdg rfl rfl rfl rfl rfl rfl (r_lenS Tryz.underlying9 rfl) (qdg rfl rfl rfl rfl rfl rfl (r_geq rfl rfl) (qd rfl rfl rfl (r_pickF (v := (.bool (decide (((s.size : Int) : Int) ≤ n43)))) rfl rfl) (qe (s_then ?_))))))
 refine c_ifd (p := ((s.size : Int) : Int) ≤ n43) rfl rfl (fun h68 => ?_) (fun h68 => ?_)
 refine s_seq (c_reg ?_)
 refine qd rfl rfl rfl (r_assign (v := (.slice none 0 0)) rfl) (qd rfl rfl rfl (r_assign (v := (.int .i64 (-1))) rfl) (qe (s_then ?_)))
 refine wp_ret (s_ret (c_ret2 (v := (.slice none 0 0)) (u := (.int .i64 (-1))) rfl rfl rfl rfl rfl ?_))
 obtain ⟨g9, ea9, eg9⟩ := (hys48 (by omega)).ex
 exact ⟨_, _, none, [], L49, R50, B51, q52, G53, rfl, hpk55, hok56, (PX.trans hpx37 hpx57), PIn.lo hpin63 rfl, hX60, RdL.go (isB_no h18) (hac.bad (ea9 ▸ hrd45) (isB_out (by omega)) (isB_out (by omega))), (by omega), (fun _ => rfl), (fun h => absurd h (by omega)), nil_reads _ _⟩
 refine wp_skip (s_then (s_seq (c_reg ?_)))
 have hy := hys48 (by omega)
 obtain ⟨g9, ea9, eg9⟩ := hy.ex
 have hylt := hy.lt
 have hyle := hy.le
 have hysz := hy.sz
 refine qd rfl rfl rfl (r_move (v := lv) rfl) (qd rfl rfl rfl (r_move (v := (.int .i64 z42)) rfl) (q1 rfl rfl rfl (o_buildF (E := eInt) (e := 3) [(.int .i64 z42)] [z42] Tryz.underlying32 sz3 zr3 (by exact reps1 (by rfl)) (ones1 (by rfl)) rfl rfl rfl rfl (by decide) hX60.pins (fun u69 w70 ho71 hp72 hl73 hk74 => ?_))))
 have hX75 := hX60.step hp72 hl73
 have ho76 := ho61.below hl73
 have hpk77 := hpk55.below hl73 hp72
 have ho84 : Own eInt 3 G53 w70 w.heap.size u69 ([z42]) := ho71.weaken hX60.size
 refine q1 rfl rfl rfl (o_append (E := eInt) (v := lv) (u := u69) 8 Tryz.underlying32 ap3 (by decide) rfl rfl hX75.pins ho76 ho84.src (by first | omega | (rw [List.nil_append]; omega) | (rw [List.length_nil]; omega) | (rw [List.length_append]; omega) | (simp; done) | (simp; omega) | (simp only [List.length_append, List.length_cons, List.length_nil]; omega)) (by first | omega | (rw [List.nil_append]; omega) | (rw [List.length_nil]; omega) | (rw [List.length_append]; omega) | (simp; done) | (simp; omega) | (simp only [List.length_append, List.length_cons, List.length_nil]; omega)) (hX75.size) (fun u85 w86 ho87 hp88 hg89 hw90 => ?_))
 have hX91 := hX75.write hp88 hg89 ((lo_own ho76))
 have hpk93 := hpk77.kept hg89 hp88 hnp62
 have hnp95 := np_app hnp62 hpk77 hw90
 have hm96 : (ls ++ ([z42])).length = ls.length + 1 := List.length_append
 refine qd rfl rfl rfl (r_assign (v := u85) rfl) (qe (s_then (s_seq (s_seq (c_reg ?_)))))
 refine qd rfl rfl rfl (r_move (v := (.string s)) rfl) (qd rfl rfl rfl (r_move (v := (.int .i64 n43)) rfl) (qd rfl rfl rfl (r_idxB Tryz.underlying9 rfl rfl (by omega) (by omega)) (qd rfl rfl rfl (r_move (v := (.int .u8 (b : Int))) rfl) (qd rfl rfl rfl (r_eql rfl rfl) (qe (s_then ?_))))))
 refine c_ifd (p := (((sB s (n43).toNat).toNat : Int) : Int) = (b : Int)) rfl rfl (fun h97 => ?_) (fun h97 => ?_)
 refine s_seq (c_reg ?_)
 refine qd rfl rfl rfl (r_move (v := u85) rfl) (qd rfl rfl rfl (r_move (v := (.int .i64 n43)) rfl) (qd rfl rfl rfl (r_add rfl rfl (by omega)) (qd rfl rfl rfl (r_assign (v := u85) rfl) (qd rfl rfl rfl (r_assign (v := (.int .i64 (n43 + 1))) rfl) (qe (s_then ?_))))))
 refine wp_ret (s_ret (c_ret2 (v := u85) (u := (.int .i64 (n43 + 1))) rfl rfl rfl rfl rfl ?_))
 have hgn := (hgs.px hpx57 hok36 hok56).snoc hy.pl eg9
 obtain ⟨G98, hle101, hX100, hr99, hf102⟩ := ho87.sealed hX91
 have hpk103 := hpk93.moreO hle101 hf102 hnp95
 exact ⟨_, _, some (gs ++ [g9], (n43).toNat + 1), _, L49, R50, B51, q52, G98, rfl, hpk103, hok56, (PX.trans hpx37 hpx57), PIn.lo hpin63 rfl, hX100, RdL.go (isB_no h18) (hac.last (ea9 ▸ hrd45) (isB_yes (by omega) h97)), (by omega), (fun h => absurd h (by omega)), (fun _ => ⟨⟨gs ++ [g9], by rw [show (n43 + 1).toNat = (n43).toNat + 1 by omega], hgn⟩, by omega, by omega, by omega, by simp; omega⟩), hr99⟩
 refine wp_skip (s_then (s_seq (s_seq (c_reg ?_))))
 refine qd rfl rfl rfl (r_move (v := (.string s)) rfl) (qd rfl rfl rfl (r_move (v := (.int .i64 n43)) rfl) (qd rfl rfl rfl (r_idxB Tryz.underlying9 rfl rfl (by omega) (by omega)) (qd rfl rfl rfl (r_neq rfl rfl) (qe (s_then ?_)))))
 refine c_ifd (p := (((sB s (n43).toNat).toNat : Int) : Int) ≠ 44) rfl rfl (fun h104 => ?_) (fun h104 => ?_)
 refine s_seq (c_reg ?_)
 refine qd rfl rfl rfl (r_assign (v := (.slice none 0 0)) rfl) (qd rfl rfl rfl (r_assign (v := (.int .i64 (-1))) rfl) (qe (s_then ?_)))
 exact wp_ret (s_ret (c_ret2 (v := (.slice none 0 0)) (u := (.int .i64 (-1))) rfl rfl rfl rfl rfl (⟨_, _, none, [], L49, R50, B51, q52, G53, rfl, hpk93, hok56, (PX.trans hpx37 hpx57), PIn.lo hpin63 rfl, hX91, RdL.go (isB_no h18) (hac.bad (ea9 ▸ hrd45) (isB_no h97) (isB_no (b := 44) h104)), (by omega), (fun _ => rfl), (fun h => absurd h (by omega)), nil_reads _ _⟩)))
 refine wp_skip (s_then (c_reg ?_))
 refine qd rfl rfl rfl (r_move (v := (.int .i64 n43)) rfl) (qd rfl rfl rfl (r_add rfl rfl (by omega)) (qd rfl rfl rfl (r_assign (v := (.int .i64 (n43 + 1))) rfl) (qe (s_blkN (s_lopN (⟨_, ?_, _, rfl, _, n43 + 1, u85, ls ++ ([z42]), gs ++ [g9], L49, R50, B51, q52, G53, (packS (x := 10) (packS (x := 3) (packS (x := 2) (packS (x := 1) (pack1 (x := 0) rfl) rfl) rfl) rfl) rfl), rfl, hX91, (Pin.le_trans hlek29 hx59.le), (by omega), (by rw [show (n43 + 1).toNat = (n43).toNat + 1 by omega]; exact hac.next (ea9 ▸ hrd45) (isB_no h97) (isB_yes (by omega) (by simpa using h104))), ((hgs.px hpx57 hok36 hok56).snoc hy.pl eg9), (by omega), (by simp; omega), (Or.inl (by omega)), ho87, hpk93, hpin63, hok56, (PX.trans hpx37 hpx57), hnp95⟩))))))
 omega
 refine qs rfl rfl rfl rfl rfl rfl (qs rfl rfl rfl rfl rfl rfl (qs rfl rfl rfl rfl rfl rfl (qs rfl rfl rfl rfl rfl rfl (qs rfl rfl rfl rfl rfl rfl (qd rfl rfl rfl (r_pickF (v := (.bool false)) rfl rfl) (qe (s_then ?_)))))))
 refine c_ifF rfl rfl (wp_skip (s_then (s_blk (s_loop (fun (k : Nat) (en : Nat → Value) (W : World) => ∃ (env1 : Nat → Value) (iz : Int) (lv : Value) (ls : List Int) (gs : List Nat) (L105 : Value) (R106 : Value) (B107 : Value) (q108 : PSt) (GL1 : Pin), en = (upd (upd (upd (upd (upd env1 0 (.pointer (some ⟨p, 0, none⟩))) 1 (.string s)) 2 (.int .i64 iz)) 3 (.int .u8 (b : Int))) 10 lv) ∧ k = s.size + 1 - iz.toNat ∧ Ext (inP p L R B mm) G w GL1 W ∧ Pin.le G GL1 ∧ (i : Int) ≤ iz ∧ (AccM s i b gs iz.toNat) ∧ (GsOk q108 ls gs) ∧ (q108.ns.length : Int) + i ≤ q.ns.length + iz ∧ (ls.length : Int) + i ≤ iz ∧ (iz ≤ s.size ∨ iz = i) ∧ (Own eInt 3 GL1 W w.heap.size lv (ls)) ∧ (Pk 32 3 GL1 W p L105 R106 B107 mm q108) ∧ (PIn w ((inP p L R B mm)) p L105 R106 B107 mm) ∧ (PoolOk q108) ∧ (PX q q108) ∧ (NP p L105 R106 B107 mm lv.ownBlock)) _ ⟨_, (i : Int), u3, [], [], L, R, B, q, G, (packS (x := 10) (packS (x := 3) (packS (x := 2) (packS (x := 1) (pack1 (x := 0) rfl) rfl) rfl) rfl) rfl), rfl, hX9, Pin.le_refl _, (by omega), AccM.start, GsOk.nil, (by omega), (by simp), (Or.inr rfl), ho16, hpk10, hpin, hok, (PX.refl _), ha15⟩ ?_))))
 rintro k109 _ w110 ⟨env1, iz, lv, ls, gs, L105, R106, B107, q108, GL1, rfl, hk111, hX112, hlek109, hi2, hac, hgs, hqs, hll, hi3, hw113, hpk114, hpin115, hok116, hpx117, hnp118⟩
 have hql119 := hpx117.len
 have hml120 : (q108.ns.map Nd.l).length = q108.ns.length ∧ (q108.ns.map Nd.r).length = q108.ns.length := ⟨List.length_map .., List.length_map ..⟩
 have hml121 : q108.bs.length = q108.ns.length ∧ q108.ns.length ≤ 1048576 := ⟨hok116.ar.ok.len, hok116.ar.ok.lim⟩
 refine s_blk (s_seq (c_reg ?_))
 refine qd rfl rfl rfl (r_move (v := (.pointer (some ⟨p, 0, none⟩))) rfl) (qd rfl rfl rfl (r_move (v := (.string s)) rfl) (qd rfl rfl rfl (r_move (v := (.int .i64 iz)) rfl) (q1 rfl rfl rfl (o_call (vs := [(.pointer (some ⟨p, 0, none⟩)), (.string s), (.int .i64 iz)]) Tryz.func14 nm14 rfl rfl rfl ?_))))
 refine Calls.mono (ih hX112.pins hpk114 hok116 (i := (iz).toNat) (by omega) hsz (z0 := iz) (by omega) (by omega)) ?_
 rintro _ w134 ⟨z122, n123, a124, L129, R130, B131, q132, G133, rfl, hpk135, hok136, hpx137, hlo138, hx139, hrd125, hge126, hno127, hys128⟩
 refine ⟨_, rfl, ?_⟩
 have hX140 := hX112.trans hx139 hpin115
 have ho141 := hw113.extS hx139 hnp118
 have hnp142 := NP.call hnp118 hlo138 (own_lt hw113)
 have hpin143 := PIn.call hpin115 hlo138 hX112.size
 have hql144 := hpx137.len
 have hml145 : (q132.ns.map Nd.l).length = q132.ns.length ∧ (q132.ns.map Nd.r).length = q132.ns.length := ⟨List.length_map .., List.length_map ..⟩
 have hml146 : q132.bs.length = q132.ns.length ∧ q132.ns.length ≤ 1048576 := ⟨hok136.ar.ok.len, hok136.ar.ok.lim⟩
 refine qd rfl rfl rfl (r_move (v := (.tuple #[(.int .i64 z122), (.int .i64 n123)])) rfl) (qd rfl rfl rfl (r_extract (v := (.int .i64 z122)) rfl rfl) (qd rfl rfl rfl (r_extract (v := (.int .i64 n123)) rfl rfl) (qd rfl rfl rfl (r_assign (v := (.int .i64 z122)) rfl) (qd rfl rfl rfl (r_assign (v := (.int .i64 n123)) rfl) (qe (s_then (s_seq (s_seq (c_reg ?_)))))))))
 refine qd rfl rfl rfl (r_move (v := (.int .i64 n123)) rfl) (qd rfl rfl rfl (r_lss rfl rfl) (qd rfl rfl rfl (r_move (v := (.bool (decide ((n123 : Int) < 0)))) rfl) (qbd (p := (n123 : Int) < 0) (t := 37) rfl (fun h147 => ?_) (fun h147 => ?_))))
 refine qs rfl rfl rfl rfl rfl rfl (qs rfl rfl rfl rfl rfl rfl (qs rfl rfl rfl rfl rfl rfl (qs rfl rfl rfl rfl rfl rfl (qd rfl rfl rfl (r_pickT (v := (.bool true)) rfl rfl) (qe (s_then ?_))))))
 refine c_ifT rfl rfl (s_seq (c_reg ?_))
 refine qd rfl rfl rfl (r_assign (v := (.slice none 0 0)) rfl) (qd rfl rfl rfl (r_assign (v := (.int .i64 (-1))) rfl) (qe (s_then ?_)))
 exact wp_ret (s_ret (c_ret2 (v := (.slice none 0 0)) (u := (.int .i64 (-1))) rfl rfl rfl rfl rfl (⟨_, _, none, [], L129, R130, B131, q132, G133, rfl, hpk135, hok136, (PX.trans hpx117 hpx137), PIn.lo hpin143 rfl, hX140, RdL.go (isB_out (by omega)) (hac.no (hno127 h147 ▸ hrd125)), (by omega), (fun _ => rfl), (fun h => absurd h (by omega)), nil_reads _ _⟩)))
 refine qdg rfl rfl rfl rfl rfl rfl (r_move (v := (.int .i64 n123)) rfl) (qdg rfl rfl rfl rfl rfl rfl (r_move (v := (.string s)) rfl) (qdg rfl rfl rfl rfl rfl rfl (r_lenS Tryz.underlying9 rfl) (qdg rfl rfl rfl rfl rfl rfl (r_geq rfl rfl) (qd rfl rfl rfl (r_pickF (v := (.bool (decide (((s.size : Int) : Int) ≤ n123)))) rfl rfl) (qe (s_then ?_))))))
 refine c_ifd (p := ((s.size : Int) : Int) ≤ n123) rfl rfl (fun h148 => ?_) (fun h148 => ?_)
 refine s_seq (c_reg ?_)
 refine qd rfl rfl rfl (r_assign (v := (.slice none 0 0)) rfl) (qd rfl rfl rfl (r_assign (v := (.int .i64 (-1))) rfl) (qe (s_then ?_)))
 refine wp_ret (s_ret (c_ret2 (v := (.slice none 0 0)) (u := (.int .i64 (-1))) rfl rfl rfl rfl rfl ?_))
 obtain ⟨g9, ea9, eg9⟩ := (hys128 (by omega)).ex
 exact ⟨_, _, none, [], L129, R130, B131, q132, G133, rfl, hpk135, hok136, (PX.trans hpx117 hpx137), PIn.lo hpin143 rfl, hX140, RdL.go (isB_out (by omega)) (hac.bad (ea9 ▸ hrd125) (isB_out (by omega)) (isB_out (by omega))), (by omega), (fun _ => rfl), (fun h => absurd h (by omega)), nil_reads _ _⟩
 refine wp_skip (s_then (s_seq (c_reg ?_)))
 have hy := hys128 (by omega)
 obtain ⟨g9, ea9, eg9⟩ := hy.ex
 have hylt := hy.lt
 have hyle := hy.le
 have hysz := hy.sz
 refine qd rfl rfl rfl (r_move (v := lv) rfl) (qd rfl rfl rfl (r_move (v := (.int .i64 z122)) rfl) (q1 rfl rfl rfl (o_buildF (E := eInt) (e := 3) [(.int .i64 z122)] [z122] Tryz.underlying32 sz3 zr3 (by exact reps1 (by rfl)) (ones1 (by rfl)) rfl rfl rfl rfl (by decide) hX140.pins (fun u149 w150 ho151 hp152 hl153 hk154 => ?_))))
 have hX155 := hX140.step hp152 hl153
 have ho156 := ho141.below hl153
 have hpk157 := hpk135.below hl153 hp152
 have ho164 : Own eInt 3 G133 w150 w.heap.size u149 ([z122]) := ho151.weaken hX140.size
 refine q1 rfl rfl rfl (o_append (E := eInt) (v := lv) (u := u149) 8 Tryz.underlying32 ap3 (by decide) rfl rfl hX155.pins ho156 ho164.src (by first | omega | (rw [List.nil_append]; omega) | (rw [List.length_nil]; omega) | (rw [List.length_append]; omega) | (simp; done) | (simp; omega) | (simp only [List.length_append, List.length_cons, List.length_nil]; omega)) (by first | omega | (rw [List.nil_append]; omega) | (rw [List.length_nil]; omega) | (rw [List.length_append]; omega) | (simp; done) | (simp; omega) | (simp only [List.length_append, List.length_cons, List.length_nil]; omega)) (hX155.size) (fun u165 w166 ho167 hp168 hg169 hw170 => ?_))
 have hX171 := hX155.write hp168 hg169 ((lo_own ho156))
 have hpk173 := hpk157.kept hg169 hp168 hnp142
 have hnp175 := np_app hnp142 hpk157 hw170
 have hm176 : (ls ++ ([z122])).length = ls.length + 1 := List.length_append
 refine qd rfl rfl rfl (r_assign (v := u165) rfl) (qe (s_then (s_seq (s_seq (c_reg ?_)))))
 refine qd rfl rfl rfl (r_move (v := (.string s)) rfl) (qd rfl rfl rfl (r_move (v := (.int .i64 n123)) rfl) (qd rfl rfl rfl (r_idxB Tryz.underlying9 rfl rfl (by omega) (by omega)) (qd rfl rfl rfl (r_move (v := (.int .u8 (b : Int))) rfl) (qd rfl rfl rfl (r_eql rfl rfl) (qe (s_then ?_))))))
 refine c_ifd (p := (((sB s (n123).toNat).toNat : Int) : Int) = (b : Int)) rfl rfl (fun h177 => ?_) (fun h177 => ?_)
 refine s_seq (c_reg ?_)
 refine qd rfl rfl rfl (r_move (v := u165) rfl) (qd rfl rfl rfl (r_move (v := (.int .i64 n123)) rfl) (qd rfl rfl rfl (r_add rfl rfl (by omega)) (qd rfl rfl rfl (r_assign (v := u165) rfl) (qd rfl rfl rfl (r_assign (v := (.int .i64 (n123 + 1))) rfl) (qe (s_then ?_))))))
 refine wp_ret (s_ret (c_ret2 (v := u165) (u := (.int .i64 (n123 + 1))) rfl rfl rfl rfl rfl ?_))
 have hgn := (hgs.px hpx137 hok116 hok136).snoc hy.pl eg9
 obtain ⟨G178, hle181, hX180, hr179, hf182⟩ := ho167.sealed hX171
 have hpk183 := hpk173.moreO hle181 hf182 hnp175
 exact ⟨_, _, some (gs ++ [g9], (n123).toNat + 1), _, L129, R130, B131, q132, G178, rfl, hpk183, hok136, (PX.trans hpx117 hpx137), PIn.lo hpin143 rfl, hX180, RdL.go (isB_out (by omega)) (hac.last (ea9 ▸ hrd125) (isB_yes (by omega) h177)), (by omega), (fun h => absurd h (by omega)), (fun _ => ⟨⟨gs ++ [g9], by rw [show (n123 + 1).toNat = (n123).toNat + 1 by omega], hgn⟩, by omega, by omega, by omega, by simp; omega⟩), hr179⟩
 refine wp_skip (s_then (s_seq (s_seq (c_reg ?_))))
 refine qd rfl rfl rfl (r_move (v := (.string s)) rfl) (qd rfl rfl rfl (r_move (v := (.int .i64 n123)) rfl) (qd rfl rfl rfl (r_idxB Tryz.underlying9 rfl rfl (by omega) (by omega)) (qd rfl rfl rfl (r_neq rfl rfl) (qe (s_then ?_)))))
 refine c_ifd (p := (((sB s (n123).toNat).toNat : Int) : Int) ≠ 44) rfl rfl (fun h184 => ?_) (fun h184 => ?_)
 refine s_seq (c_reg ?_)
 refine qd rfl rfl rfl (r_assign (v := (.slice none 0 0)) rfl) (qd rfl rfl rfl (r_assign (v := (.int .i64 (-1))) rfl) (qe (s_then ?_)))
 exact wp_ret (s_ret (c_ret2 (v := (.slice none 0 0)) (u := (.int .i64 (-1))) rfl rfl rfl rfl rfl (⟨_, _, none, [], L129, R130, B131, q132, G133, rfl, hpk173, hok136, (PX.trans hpx117 hpx137), PIn.lo hpin143 rfl, hX171, RdL.go (isB_out (by omega)) (hac.bad (ea9 ▸ hrd125) (isB_no h177) (isB_no (b := 44) h184)), (by omega), (fun _ => rfl), (fun h => absurd h (by omega)), nil_reads _ _⟩)))
 refine wp_skip (s_then (c_reg ?_))
 refine qd rfl rfl rfl (r_move (v := (.int .i64 n123)) rfl) (qd rfl rfl rfl (r_add rfl rfl (by omega)) (qd rfl rfl rfl (r_assign (v := (.int .i64 (n123 + 1))) rfl) (qe (s_blkN (s_lopN (⟨_, ?_, _, rfl, _, n123 + 1, u165, ls ++ ([z122]), gs ++ [g9], L129, R130, B131, q132, G133, (packS (x := 10) (packS (x := 3) (packS (x := 2) (packS (x := 1) (pack1 (x := 0) rfl) rfl) rfl) rfl) rfl), rfl, hX171, (Pin.le_trans hlek109 hx139.le), (by omega), (by rw [show (n123 + 1).toNat = (n123).toNat + 1 by omega]; exact hac.next (ea9 ▸ hrd125) (isB_no h177) (isB_yes (by omega) (by simpa using h184))), ((hgs.px hpx137 hok116 hok136).snoc hy.pl eg9), (by omega), (by simp; omega), (Or.inl (by omega)), ho167, hpk173, hpin143, hok136, (PX.trans hpx117 hpx137), hnp175⟩))))))
 omega

end RD1
end Go.Proofs.YtbfhkngkfadmnaaGreatDoor

set_option maxRecDepth 20000
set_option maxHeartbeats 2000000
namespace Go.Proofs.YtbfhkngkfadmnaaGreatDoor
namespace RD2
open Go.RowKit Go.GL Go.Proofs
open B1 K1 PO1 RD1


theorem brack_step {w : World} {G : Pin} {p : Nat} {L R B : Value} {mm : PM} {q : PSt} {s : ByteArray} {i : Nat} (hP : Pins G w) (hpk : Pk 32 3 G w p L R B mm q) (hok : PoolOk q) (hrm : q.ns.length + (s.size - i) + 1 ≤ 1048576) (hsz : s.size ≤ 1048576) {m : Nat} (ihl : BlP m p mm s) (hm : s.size - i < m + 1) :
  Calls Tryz.prog 14 [(.pointer (some ⟨p, 0, none⟩)), (.string s), (.int .i64 (i : Int))].toArray w fun e w' => ∃ (z n : Int) (a : Option (Nat × Nat)) (L' R' B' : Value) (q' : PSt) (G' : Pin), e = .returned (.tuple #[.int .i64 z, .int .i64 n]) ∧ Pk 32 3 G' w' p L' R' B' mm q' ∧ PoolOk q' ∧ PX q q' ∧ PLo w p L R B mm L' R' B' ∧ Ext (inP p L R B mm) G w G' w' ∧ RdG s i a ∧ -1 ≤ n ∧ (n < 0 → a = none) ∧ (0 ≤ n → BrY s i q q' z n a) := by
 refine s_enter (n := 45) Tryz.func14 Tryz.ntmps14 rfl rfl ?_
 have hX0 : Ext (inP p L R B mm) G w G w := Ext.refl hP
 have hpin : PIn w (inP p L R B mm) p L R B mm := PIn.self
 have hml1 : (q.ns.map Nd.l).length = q.ns.length ∧ (q.ns.map Nd.r).length = q.ns.length := ⟨List.length_map .., List.length_map ..⟩
 have hml2 : q.bs.length = q.ns.length ∧ q.ns.length ≤ 1048576 := ⟨hok.ar.ok.len, hok.ar.ok.lim⟩
 refine s_seq (c_reg ?_)
 refine qd rfl rfl rfl (r_assign (v := (.int .i64 0)) rfl) (qd rfl rfl rfl (r_assign (v := (.int .i64 0)) rfl) (qe (s_then (s_seq (s_seq (c_reg ?_))))))
 refine qd rfl rfl rfl (r_move (v := (.int .i64 (i : Int))) rfl) (qd rfl rfl rfl (r_move (v := (.string s)) rfl) (qd rfl rfl rfl (r_lenS Tryz.underlying9 rfl) (qd rfl rfl rfl (r_geq rfl rfl) (qd rfl rfl rfl (r_move (v := (.bool (decide (((s.size : Int) : Int) ≤ (i : Int))))) rfl) (qbd (p := ((s.size : Int) : Int) ≤ (i : Int)) (t := 15) rfl (fun h3 => ?_) (fun h3 => ?_))))))
 refine qs rfl rfl rfl rfl rfl rfl (qs rfl rfl rfl rfl rfl rfl (qs rfl rfl rfl rfl rfl rfl (qs rfl rfl rfl rfl rfl rfl (qd rfl rfl rfl (r_pickT (v := (.bool true)) rfl rfl) (qe (s_then ?_))))))
 refine c_ifT rfl rfl (s_seq (c_reg ?_))
 refine qd rfl rfl rfl (r_assign (v := (.int .i64 0)) rfl) (qd rfl rfl rfl (r_assign (v := (.int .i64 (-1))) rfl) (qe (s_then ?_)))
 exact wp_ret (s_ret (c_ret2 (v := (.int .i64 0)) (u := (.int .i64 (-1))) rfl rfl rfl rfl rfl (⟨_, _, none, L, R, B, q, G, rfl, hpk, hok, (PX.refl _), PIn.lo hpin rfl, hX0, RdG.no (isB_out (by omega)), (by omega), (fun _ => rfl), (fun h => absurd h (by omega))⟩)))
 refine qdg rfl rfl rfl rfl rfl rfl (r_move (v := (.string s)) rfl) (qdg rfl rfl rfl rfl rfl rfl (r_move (v := (.int .i64 (i : Int))) rfl) (qdg rfl rfl rfl rfl rfl rfl (r_idxB Tryz.underlying9 rfl rfl (by omega) (by omega)) (qdg rfl rfl rfl rfl rfl rfl (r_neq rfl rfl) (qd rfl rfl rfl (r_pickF (v := (.bool (decide ((((sB s i).toNat : Int) : Int) ≠ 123)))) rfl rfl) (qe (s_then ?_))))))
 refine c_ifd (p := (((sB s i).toNat : Int) : Int) ≠ 123) rfl rfl (fun h4 => ?_) (fun h4 => ?_)
 refine s_seq (c_reg ?_)
 refine qd rfl rfl rfl (r_assign (v := (.int .i64 0)) rfl) (qd rfl rfl rfl (r_assign (v := (.int .i64 (-1))) rfl) (qe (s_then ?_)))
 exact wp_ret (s_ret (c_ret2 (v := (.int .i64 0)) (u := (.int .i64 (-1))) rfl rfl rfl rfl rfl (⟨_, _, none, L, R, B, q, G, rfl, hpk, hok, (PX.refl _), PIn.lo hpin rfl, hX0, RdG.no (isB_no (b := 123) h4), (by omega), (fun _ => rfl), (fun h => absurd h (by omega))⟩)))
 refine wp_skip (s_then (s_seq (c_reg ?_)))
 refine qd rfl rfl rfl (r_move (v := (.pointer (some ⟨p, 0, none⟩))) rfl) (qd rfl rfl rfl (r_move (v := (.string s)) rfl) (qd rfl rfl rfl (r_move (v := (.int .i64 (i : Int))) rfl) (qd rfl rfl rfl (r_add rfl rfl (by omega)) (q1 rfl rfl rfl (o_call (vs := [(.pointer (some ⟨p, 0, none⟩)), (.string s), (.int .i64 ((i : Int) + 1)), (.int .u8 124)]) Tryz.func29 nm29 rfl rfl rfl ?_)))))
 refine Calls.mono (ihl hX0.pins hpk hok (i := ((i : Int) + 1).toNat) (by omega) hsz (z0 := ((i : Int) + 1)) (by omega) (b := 124) (by omega)) ?_
 rintro _ w19 ⟨v5, n6, a7, xs8, L14, R15, B16, q17, G18, rfl, hpk20, hok21, hpx22, hlo23, hx24, hrd9, hge10, hno11, hys12, hv13⟩
 refine ⟨_, rfl, ?_⟩
 have hX25 := hX0.trans hx24 hpin
 have hpin26 := PIn.call hpin hlo23 hX0.size
 have hql27 := hpx22.len
 have hml28 : (q17.ns.map Nd.l).length = q17.ns.length ∧ (q17.ns.map Nd.r).length = q17.ns.length := ⟨List.length_map .., List.length_map ..⟩
 have hml29 : q17.bs.length = q17.ns.length ∧ q17.ns.length ≤ 1048576 := ⟨hok21.ar.ok.len, hok21.ar.ok.lim⟩
 refine qd rfl rfl rfl (r_move (v := (.tuple #[v5, (.int .i64 n6)])) rfl) (qd rfl rfl rfl (r_extract (v := v5) rfl rfl) (qd rfl rfl rfl (r_extract (v := (.int .i64 n6)) rfl rfl) (qd rfl rfl rfl (r_assign (v := v5) rfl) (qd rfl rfl rfl (r_assign (v := (.int .i64 n6)) rfl) (qe (s_then (s_seq (s_seq (c_reg ?_)))))))))
 refine qd rfl rfl rfl (r_move (v := (.int .i64 n6)) rfl) (qd rfl rfl rfl (r_lss rfl rfl) (qe (s_then ?_)))
 refine c_ifd (p := (n6 : Int) < 0) rfl rfl (fun h30 => ?_) (fun h30 => ?_)
 refine s_seq (c_reg ?_)
 refine qd rfl rfl rfl (r_assign (v := (.int .i64 0)) rfl) (qd rfl rfl rfl (r_assign (v := (.int .i64 (-1))) rfl) (qe (s_then ?_)))
 exact wp_ret (s_ret (c_ret2 (v := (.int .i64 0)) (u := (.int .i64 (-1))) rfl rfl rfl rfl rfl (⟨_, _, none, L14, R15, B16, q17, G18, rfl, hpk20, hok21, hpx22, PIn.lo hpin26 rfl, hX25, RdG.noL (isB_yes (b := 123) (by omega) (by simpa using h4)) (hno11 h30 ▸ (show RdL s (i + 1) 124 _ from (show ((i : Int) + 1).toNat = i + 1 by omega) ▸ hrd9)), (by omega), (fun _ => rfl), (fun h => absurd h (by omega))⟩)))
 refine wp_skip (s_then (s_seq (c_reg ?_)))
 have hy := hys12 (by omega)
 obtain ⟨gs1, ea1, eg1⟩ := hy.ex
 have hylt := hy.lt
 have hyle := hy.le
 have hysz := hy.sz
 have hylen := hy.len
 refine qd rfl rfl rfl (r_move (v := (.pointer (some ⟨p, 0, none⟩))) rfl) (qd rfl rfl rfl (r_move (v := (.string s)) rfl) (qd rfl rfl rfl (r_move (v := (.int .i64 n6)) rfl) (q1 rfl rfl rfl (o_call (vs := [(.pointer (some ⟨p, 0, none⟩)), (.string s), (.int .i64 n6), (.int .u8 125)]) Tryz.func29 nm29 rfl rfl rfl ?_))))
 refine Calls.mono (ihl hX25.pins hpk20 hok21 (i := (n6).toNat) (by omega) hsz (z0 := n6) (by omega) (b := 125) (by omega)) ?_
 rintro _ w45 ⟨v31, n32, a33, xs34, L40, R41, B42, q43, G44, rfl, hpk46, hok47, hpx48, hlo49, hx50, hrd35, hge36, hno37, hys38, hv39⟩
 refine ⟨_, rfl, ?_⟩
 have hX51 := hX25.trans hx50 hpin26
 have hpin52 := PIn.call hpin26 hlo49 hX25.size
 have hql53 := hpx48.len
 have hml54 : (q43.ns.map Nd.l).length = q43.ns.length ∧ (q43.ns.map Nd.r).length = q43.ns.length := ⟨List.length_map .., List.length_map ..⟩
 have hml55 : q43.bs.length = q43.ns.length ∧ q43.ns.length ≤ 1048576 := ⟨hok47.ar.ok.len, hok47.ar.ok.lim⟩
 refine qd rfl rfl rfl (r_move (v := (.tuple #[v31, (.int .i64 n32)])) rfl) (qd rfl rfl rfl (r_extract (v := v31) rfl rfl) (qd rfl rfl rfl (r_extract (v := (.int .i64 n32)) rfl rfl) (qd rfl rfl rfl (r_assign (v := v31) rfl) (qd rfl rfl rfl (r_assign (v := (.int .i64 n32)) rfl) (qe (s_then (s_seq (s_seq (c_reg ?_)))))))))
 refine qd rfl rfl rfl (r_move (v := (.int .i64 n32)) rfl) (qd rfl rfl rfl (r_lss rfl rfl) (qe (s_then ?_)))
 refine c_ifd (p := (n32 : Int) < 0) rfl rfl (fun h56 => ?_) (fun h56 => ?_)
 refine s_seq (c_reg ?_)
 refine qd rfl rfl rfl (r_assign (v := (.int .i64 0)) rfl) (qd rfl rfl rfl (r_assign (v := (.int .i64 (-1))) rfl) (qe (s_then ?_)))
 exact wp_ret (s_ret (c_ret2 (v := (.int .i64 0)) (u := (.int .i64 (-1))) rfl rfl rfl rfl rfl (⟨_, _, none, L40, R41, B42, q43, G44, rfl, hpk46, hok47, (PX.trans hpx22 hpx48), PIn.lo hpin52 rfl, hX51, RdG.noR (isB_yes (b := 123) (by omega) (by simpa using h4)) (ea1 ▸ (show RdL s (i + 1) 124 _ from (show ((i : Int) + 1).toNat = i + 1 by omega) ▸ hrd9)) (hno37 h56 ▸ hrd35), (by omega), (fun _ => rfl), (fun h => absurd h (by omega))⟩)))
 refine wp_skip (s_then (s_seq (c_reg ?_)))
 have hz := hys38 (by omega)
 obtain ⟨gs2, ea2, eg2⟩ := hz.ex
 have hzlt := hz.lt
 have hzle := hz.le
 have hzsz := hz.sz
 have hzlen := hz.len
 have eg3 := eg1.px hpx48 hok21 hok47
 have hl3 := eg3.len
 refine qd rfl rfl rfl (r_move (v := (.pointer (some ⟨p, 0, none⟩))) rfl) (qd rfl rfl rfl (r_move (v := v5) rfl) (qd rfl rfl rfl (r_move (v := v31) rfl) (q1 rfl rfl rfl (o_call (vs := [(.pointer (some ⟨p, 0, none⟩)), v5, v31]) Tryz.func30 nm30 rfl rfl rfl ?_))))
 refine Calls.mono (node_spec hX51.pins hpk46 hok47 (hv13.mono hx50.le) hv39 (by omega) ⟨by omega, by omega⟩ (places_of eg3.pl) (places_of eg2.pl)) ?_
 rintro _ w67 ⟨z57, L62, R63, B64, q65, G66, rfl, hpk68, hok69, hpx70, hlo71, hx72, hpl58, hpd59, hqn60, hcm61⟩
 refine ⟨_, rfl, ?_⟩
 have hX73 := hX51.trans hx72 hpin52
 have hpin74 := PIn.call hpin52 hlo71 hX51.size
 have hql75 := hpx70.len
 have hml76 : (q65.ns.map Nd.l).length = q65.ns.length ∧ (q65.ns.map Nd.r).length = q65.ns.length := ⟨List.length_map .., List.length_map ..⟩
 have hml77 : q65.bs.length = q65.ns.length ∧ q65.ns.length ≤ 1048576 := ⟨hok69.ar.ok.len, hok69.ar.ok.lim⟩
 refine qd rfl rfl rfl (r_move (v := (.int .i64 n32)) rfl) (qd rfl rfl rfl (r_assign (v := (.int .i64 z57)) rfl) (qd rfl rfl rfl (r_assign (v := (.int .i64 n32)) rfl) (qe (s_then ?_))))
 refine wp_ret (s_ret (c_ret2 (v := (.int .i64 z57)) (u := (.int .i64 n32)) rfl rfl rfl rfl rfl ?_))
 have hpd9 : pd q65 z57 = mkG gs1 gs2 := by rw [hpd59, eg3.eq, eg2.eq]
 exact ⟨_, _, _, L62, R63, B64, q65, G66, rfl, hpk68, hok69, (PX.trans (PX.trans hpx22 hpx48) hpx70), PIn.lo hpin74 rfl, hX73, RdG.yes (isB_yes (b := 123) (by omega) (by simpa using h4)) (ea1 ▸ (show RdL s (i + 1) 124 _ from (show ((i : Int) + 1).toNat = i + 1 by omega) ▸ hrd9)) (ea2 ▸ hrd35), (by omega), (fun h => absurd h (by omega)), (fun _ => ⟨⟨_, rfl, hpd9⟩, hpl58, by omega, by omega, by omega⟩)⟩

end RD2
end Go.Proofs.YtbfhkngkfadmnaaGreatDoor

set_option maxRecDepth 20000
set_option maxHeartbeats 2000000
namespace Go.Proofs.YtbfhkngkfadmnaaGreatDoor
namespace RF0
open Go.RowKit Go.GL Go.Proofs
open B1 C1 D1 E1 K1 PO1 PL1 RD1 RD2

theorem br_all {p : Nat} {mm : PM} {s : ByteArray} : ∀ m, BrP m p mm s ∧ BlP m p mm s
 | 0 => have h : BrP 0 p mm s := fun _ _ _ _ _ _ _ h => absurd h (Nat.not_lt_zero _)
  ⟨h, fun hP hpk hok hrm hsz _ hz _ hm => by subst hz; exact blist_step hP hpk hok hrm hsz h hm⟩
 | m + 1 => have h : BrP (m + 1) p mm s := fun hP hpk hok hrm hsz _ hz hm => by subst hz; exact brack_step hP hpk hok hrm hsz (br_all m).2 hm
  ⟨h, fun hP hpk hok hrm hsz _ hz _ hm => by subst hz; exact blist_step hP hpk hok hrm hsz h hm⟩
theorem bracket_spec {w : World} {G : Pin} {p : Nat} {L R B : Value} {mm : PM} {q : PSt} {s : ByteArray} {i : Nat} (hP : Pins G w) (hpk : Pk 32 3 G w p L R B mm q) (hok : PoolOk q) (hrm : q.ns.length + (s.size - i) + 1 ≤ 1048576) (hsz : s.size ≤ 1048576) {z0 : Int} (hz : z0 = (i : Int)) :
  Calls Tryz.prog 14 [(.pointer (some ⟨p, 0, none⟩)), (.string s), (.int .i64 z0)].toArray w fun e w' => ∃ (z n : Int) (a : Option (Nat × Nat)) (L' R' B' : Value) (q' : PSt) (G' : Pin), e = .returned (.tuple #[.int .i64 z, .int .i64 n]) ∧ Pk 32 3 G' w' p L' R' B' mm q' ∧ PoolOk q' ∧ PX q q' ∧ PLo w p L R B mm L' R' B' ∧ Ext (inP p L R B mm) G w G' w' ∧ RdG s i a ∧ -1 ≤ n ∧ (n < 0 → a = none) ∧ (0 ≤ n → BrY s i q q' z n a) :=
 (br_all _).1 hP hpk hok hrm hsz hz (Nat.lt_succ_self _)

end RF0
end Go.Proofs.YtbfhkngkfadmnaaGreatDoor

set_option maxRecDepth 20000
set_option maxHeartbeats 2000000
namespace Go.Proofs.YtbfhkngkfadmnaaGreatDoor
namespace T1
open Go.RowKit Go.GL Go.Proofs
open B1 C1 D1 E1







theorem mk3 : (Tryz.prog.info? 3).map (fun i => (i.size, i.bytes, i.zero)) = some (1, 8, some (.int .i64 0)) := by kernel_rfl
theorem mk9 : (Tryz.prog.info? 9).map (fun i => (i.size, i.bytes, i.zero)) = some (1, 16, some (.string ByteArray.empty)) := by kernel_rfl















theorem join_spec {w : World} {G : Pin} {v : Value} {xs : List ByteArray} (hP : Pins G w) (hv : RSl eStr G v xs) (hs : (joinW xs).size ≤ 140737488355328 ∧ xs.length ≤ 1048576) :
  Calls Tryz.prog 34 [v, .string (⟨#[44]⟩ : ByteArray)].toArray w fun e w' => e = .returned (.string (joinW xs)) ∧ Ext noS G w G w' := by
 have hX : Ext noS G w G w := Ext.refl hP
 match xs, hv, hs with
 | [], hv, _ =>
  obtain ⟨a, c, rfl, _⟩ := hv.sl
  refine (Tryz.strings_Join_none a c _ w).mono ?_
  rintro e w' ⟨rfl, rfl⟩
  exact ⟨rfl, hX⟩
 | x :: r, hv, hs =>
  obtain ⟨b, o, c, rfl, hc, hb, hcells⟩ := hv.strs hP (by simp)
  refine (Tryz.strings_Join b o c (x :: r) _ w hcells hb (by omega) hc ?_).mono ?_
  ·have := hs.1
   unfold joinW at this
   simpa [ByteArray.size] using this
  ·rintro e w' ⟨rfl, hbl⟩
   exact ⟨rfl, hX.step (hP.below hbl) hbl⟩

theorem l3Join_spec {w : World} {G Gr : Pin} {u v : Value} {ts : List ByteArray} {l : List Int} (hP : Pins G w) (hPr : Pins Gr w) (hu : RSl eStr Gr u ts) (hv : RSl eInt G v l) (hk : ∀ i, i < l.length → 0 ≤ l.getD i 0 ∧ l.getD i 0 < ts.length) (ht : Texts ts) (hn : l.length ≤ 24) :
  Calls Tryz.prog 28 [u, v].toArray w fun e w' => e = .returned (.string (joinP ts l)) ∧ w' = w := by
 refine s_enter (n := 27) Tryz.func28 Tryz.ntmps28 rfl rfl ?_
 have hX0 : Ext noS G w G w := Ext.refl hP
 refine s_seq (c_reg ?_)
 refine qd rfl rfl rfl (r_assign (v := (.string (⟨#[]⟩ : ByteArray))) rfl) (qe (s_then (s_seq (c_reg ?_))))
 refine qd rfl rfl rfl (r_assign (v := (.string (⟨#[]⟩ : ByteArray))) rfl) (qe (s_then (s_seq (s_seq (c_reg ?_)))))
 refine qd rfl rfl rfl (r_assign (v := (.int .i64 0)) rfl) (qe (s_then ?_))
 refine s_blk (s_loop (fun (k : Nat) (en : Nat → Value) (W : World) => ∃ (env1 : Nat → Value) (j : Nat) (s : ByteArray), en = (upd (upd (upd (upd (upd env1 0 u) 1 v) 4 (.string (⟨#[]⟩ : ByteArray))) 5 (.string s)) 6 (.int .i64 (j : Int))) ∧ k = l.length - j ∧ Ext noS G w G W ∧ (j ≤ l.length) ∧ (W = w) ∧ (s = joinN ts l j)) _ ⟨_, 0, (⟨#[]⟩ : ByteArray), (packS (x := 6) (packS (x := 5) (packS (x := 4) (packS (x := 1) (pack1 (x := 0) rfl) rfl) rfl) rfl) rfl), rfl, hX0, Nat.zero_le _, rfl, rfl⟩ ?_)
 rintro k1 _ w2 ⟨env1, j, s, rfl, hk3, hX4, hj, hw, hq⟩
 subst hw
 have hqs := joinN_size ht l j
 rw [← hq] at hqs
 refine s_seq (s_seq (c_reg ?_))
 refine qd rfl rfl rfl (r_move (v := (.int .i64 (j : Int))) rfl) (qd rfl rfl rfl (r_move (v := v) rfl) (qd rfl rfl rfl (run_len Tryz.underlying32 (v := v) rfl hv) (qd rfl rfl rfl (r_lss rfl rfl) (qe (s_then ?_)))))
 refine c_ifd (p := ((j : Int) : Int) < (l.length : Int)) rfl rfl (fun h5 => ?_) (fun h5 => ?_)
 have hkj := hk j (by omega)
 have hsj := ht (l.getD j 0).toNat
 refine wp_skip (s_then (s_seq ?_))
 refine s_blk (s_seq (s_seq (c_reg ?_)))
 refine qd rfl rfl rfl (r_move (v := (.int .i64 (j : Int))) rfl) (qd rfl rfl rfl (r_gtr rfl rfl) (qe (s_then ?_)))
 refine c_ifd (p := (0 : Int) < (j : Int)) rfl rfl (fun h6 => ?_) (fun h6 => ?_)
 refine c_reg (qd rfl rfl rfl (r_move (v := (.string s)) rfl) ?_)
 have hm7 : (⟨#[44]⟩ : ByteArray).size = 1 := rfl
 have hm8 : (s ++ (⟨#[44]⟩ : ByteArray)).size = s.size + (⟨#[44]⟩ : ByteArray).size := ByteArray.size_append
 refine qd rfl rfl rfl (r_addS rfl rfl (by omega)) (qd rfl rfl rfl (r_assign (v := (.string (s ++ (⟨#[44]⟩ : ByteArray)))) rfl) (qe (s_then (c_reg ?_))))
 refine qd rfl rfl rfl (r_move (v := (.string (s ++ (⟨#[44]⟩ : ByteArray)))) rfl) (qd rfl rfl rfl (r_move (v := u) rfl) (qd rfl rfl rfl (r_move (v := v) rfl) (qd rfl rfl rfl (r_move (v := (.int .i64 (j : Int))) rfl) (qd rfl rfl rfl (run_idx Tryz.underlying32 sz3 (v := v) rfl rfl hv (by omega) (by omega)) (qd rfl rfl rfl (run_load_int (r := l.getD j 0) rfl ag3 (z := (j : Int)) rfl hv hX4.pins (by omega) (by omega)) (qd rfl rfl rfl (run_idx Tryz.underlying61 sz9 (v := u) rfl rfl hu (by omega) (by omega)) (qd rfl rfl rfl (run_load_str (r := ts.getD (l.getD j 0).toNat ByteArray.empty) rfl ag9 (z := (l.getD j 0)) rfl hu (hPr.ext0 hX4) (by omega) (by omega)) ?_)))))))
 have hm9 : ((s ++ (⟨#[44]⟩ : ByteArray)) ++ (ts.getD (l.getD j 0).toNat ByteArray.empty)).size = (s ++ (⟨#[44]⟩ : ByteArray)).size + (ts.getD (l.getD j 0).toNat ByteArray.empty).size := ByteArray.size_append
 refine qd rfl rfl rfl (r_addS rfl rfl (by omega)) (qd rfl rfl rfl (r_assign (v := (.string ((s ++ (⟨#[44]⟩ : ByteArray)) ++ (ts.getD (l.getD j 0).toNat ByteArray.empty)))) rfl) (qe (s_blkN (s_then (c_reg ?_)))))
 refine qd rfl rfl rfl (r_move (v := (.int .i64 (j : Int))) rfl) (qd rfl rfl rfl (r_add rfl rfl (by omega)) (qd rfl rfl rfl (r_assign (v := (.int .i64 ((j : Int) + 1))) rfl) (qe (s_lopN (⟨_, ?_, _, rfl, _, j + 1, (s ++ (⟨#[44]⟩ : ByteArray)) ++ (ts.getD (l.getD j 0).toNat ByteArray.empty), (packS (x := 6) (packS (x := 5) (packS (x := 4) (packS (x := 1) (pack1 (x := 0) rfl) rfl) rfl) rfl) rfl), rfl, hX4, (by omega), rfl, (by unfold joinN; rw [if_pos (by omega), ← hq])⟩)))))
 omega
 refine wp_skip (s_then (c_reg ?_))
 refine qd rfl rfl rfl (r_move (v := (.string s)) rfl) (qd rfl rfl rfl (r_move (v := u) rfl) (qd rfl rfl rfl (r_move (v := v) rfl) (qd rfl rfl rfl (r_move (v := (.int .i64 (j : Int))) rfl) (qd rfl rfl rfl (run_idx Tryz.underlying32 sz3 (v := v) rfl rfl hv (by omega) (by omega)) (qd rfl rfl rfl (run_load_int (r := l.getD j 0) rfl ag3 (z := (j : Int)) rfl hv hX4.pins (by omega) (by omega)) (qd rfl rfl rfl (run_idx Tryz.underlying61 sz9 (v := u) rfl rfl hu (by omega) (by omega)) (qd rfl rfl rfl (run_load_str (r := ts.getD (l.getD j 0).toNat ByteArray.empty) rfl ag9 (z := (l.getD j 0)) rfl hu (hPr.ext0 hX4) (by omega) (by omega)) ?_)))))))
 have hm10 : (s ++ (ts.getD (l.getD j 0).toNat ByteArray.empty)).size = s.size + (ts.getD (l.getD j 0).toNat ByteArray.empty).size := ByteArray.size_append
 refine qd rfl rfl rfl (r_addS rfl rfl (by omega)) (qd rfl rfl rfl (r_assign (v := (.string (s ++ (ts.getD (l.getD j 0).toNat ByteArray.empty)))) rfl) (qe (s_blkN (s_then (c_reg ?_)))))
 refine qd rfl rfl rfl (r_move (v := (.int .i64 (j : Int))) rfl) (qd rfl rfl rfl (r_add rfl rfl (by omega)) (qd rfl rfl rfl (r_assign (v := (.int .i64 ((j : Int) + 1))) rfl) (qe (s_lopN (⟨_, ?_, _, rfl, _, j + 1, s ++ (ts.getD (l.getD j 0).toNat ByteArray.empty), (packS (x := 6) (packS (x := 5) (packS (x := 4) (packS (x := 1) (pack1 (x := 0) rfl) rfl) rfl) rfl) rfl), rfl, hX4, (by omega), rfl, (by unfold joinN; rw [if_neg (by omega), ← hq])⟩)))))
 omega
 refine wp_exit (s_thenE (s_lopE (s_blkE (s_then (s_seq (c_reg ?_))))))
 refine qd rfl rfl rfl (r_move (v := (.string s)) rfl) (qd rfl rfl rfl (r_assign (v := (.string s)) rfl) (qe (s_then ?_)))
 exact wp_ret (s_ret (c_ret1 (v := (.string s)) rfl rfl rfl (⟨congrArg (fun z => Ending.returned (Value.string z)) (by rw [hq, show j = l.length by omega]; rfl), rfl⟩)))

theorem l3Text_spec {w : World} {G : Pin} {v : Value} {ns : List Nd} (hP : Pins G w) (hv : RSl eNode G v ns) (hg : GoodP ns) :
  Calls Tryz.prog 12 [(.agg [v].toArray)].toArray w fun e w' => ∃ G', e = .returned (.string (textOf ns)) ∧ Ext noS G w G' w' := by
 refine s_enter (n := 49) Tryz.func12 Tryz.ntmps12 rfl rfl ?_
 have hX0 : Ext noS G w G w := Ext.refl hP
 have hm := hv.max
 have hlo := hg.lo
 have hhi := hg.hi
 refine s_seq (c_reg ?_)
 refine q1 rfl rfl rfl (o_box [v] (v := (.agg [v].toArray)) rfl rfl hX0.pins (fun b1 w2 hk3 hb4 hp5 hl6 => ?_))
 have hX7 := hX0.step hp5 hl6
 have hlo8 : w.heap.size ≤ b1 := by have := hX0.size; omega
 obtain ⟨G9, hle10, hX11, hbp12, hf13⟩ := hb4.shut hX7 hlo8
 refine qd rfl rfl rfl (r_assign (v := (.string (⟨#[]⟩ : ByteArray))) rfl) (qe (s_then (s_seq (c_reg ?_))))
 refine q1 rfl rfl rfl (o_build0 (E := eStr) (e := 9) Tryz.underlying61 sz9 hX11.pins (fun u14 w15 ho16 hp17 hl18 hk19 => ?_))
 have hX20 := hX11.step hp17 hl18
 have ho21 : Own eStr 9 G9 w15 w.heap.size u14 ([]) := ho16.weaken hX11.size
 refine qd rfl rfl rfl (r_assign (v := u14) rfl) (qe (s_then (s_seq (s_seq (c_reg ?_)))))
 refine qd rfl rfl rfl (r_assign (v := (.int .i64 0)) rfl) (qe (s_then ?_))
 refine s_blk (s_loop (fun (k : Nat) (en : Nat → Value) (W : World) => ∃ (env1 : Nat → Value) (j : Nat) (o : Value) (ts : List ByteArray) (GL1 : Pin), en = (upd (upd (upd (upd env1 1 (.pointer (some ⟨b1, 0, none⟩))) 2 (.string (⟨#[]⟩ : ByteArray))) 3 o) 4 (.int .i64 (j : Int))) ∧ k = ns.length - j ∧ Ext noS G w GL1 W ∧ Pin.le G9 GL1 ∧ (j ≤ ns.length) ∧ (ts = txts ns j) ∧ (ts.length = j) ∧ (Own eStr 9 GL1 W w.heap.size o (ts))) _ ⟨_, 0, u14, [], G9, (packS (x := 4) (packS (x := 3) (packS (x := 2) (pack1 (x := 1) rfl) rfl) rfl) rfl), rfl, hX20, Pin.le_refl _, Nat.zero_le _, rfl, rfl, ho21⟩ ?_)
 rintro k22 _ w23 ⟨env1, j, o, ts, GL1, rfl, hk24, hX25, hlek22, hj, ht, htl, hw26⟩
 refine s_seq (s_seq (c_reg ?_))
 refine qd rfl rfl rfl (r_move (v := (.int .i64 (j : Int))) rfl) (qd rfl rfl rfl (r_fldp (k := 0) rfl Tryz.underlying24 rfl nz22 rfl) (qd rfl rfl rfl (r_ldp1 (u := v) ag22 rfl ((Pins.of_le hX25.pins hlek22) _ _ _ (hbp12 0 _ rfl))) (qd rfl rfl rfl (run_len Tryz.underlying22 (v := v) rfl hv) (qd rfl rfl rfl (r_lss rfl rfl) (qe (s_then ?_))))))
 refine c_ifd (p := ((j : Int) : Int) < (ns.length : Int)) rfl rfl (fun h27 => ?_) (fun h27 => ?_)
 have hjl := joinP_size (Texts.of ht) (hg.lenl (i := j) (by omega))
 have hjr := joinP_size (Texts.of ht) (hg.lenr (i := j) (by omega))
 refine wp_skip (s_then (s_seq ?_))
 refine s_blk (s_seq (c_draw (S := fun wz => Pins GL1 wz) (last := 21) (by kernel_rfl) rfl ?_))
 have hl28 : Below w23.heap.size w23 w23.drew := (Below.refl _ _).drew
 have hp29 := hX25.pins.below hl28
 have hX30 := hX25.step hp29 hl28
 have ho31 := hw26.below hl28
 refine dr_take (i := 0) rfl rfl rfl (want_none rfl _) (by kernel_rfl) (fun _ _ => r_move (v := o) rfl) hX30.pins (dr_take (i := 1) rfl rfl rfl (want_none rfl _) (by kernel_rfl) (fun _ _ => r_fldp (k := 0) rfl Tryz.underlying24 rfl nz22 rfl) hX30.pins (dr_take (i := 2) rfl rfl rfl (want_none rfl _) (by kernel_rfl) (fun _ hS => r_ldp1 (u := v) ag22 rfl ((Pins.of_le hS hlek22) _ _ _ (hbp12 0 _ rfl))) hX30.pins (dr_take (i := 3) rfl rfl rfl (want_none rfl _) (by kernel_rfl) (fun _ _ => r_move (v := (.int .i64 (j : Int))) rfl) hX30.pins (dr_take (i := 4) rfl rfl rfl (want_none rfl _) (by kernel_rfl) (fun _ _ => run_idx Tryz.underlying22 sz58 (v := v) rfl rfl hv (by omega) (by omega)) hX30.pins (dr_take (i := 5) rfl rfl rfl (want_none rfl _) (by kernel_rfl) (fun _ _ => run_fld (off := 0) Tryz.underlying58 rfl rfl nz32 (z := (j : Int)) (k := 0) rfl hv (by omega) (by omega)) hX30.pins ?_)))))
 obtain ⟨u32, hr33, hl34⟩ := nm_nl (hv.at (z := (j : Int)) (by omega) (by omega)) (j := j) rfl
 have hm35 := hr33.max
 refine dr_take (i := 6) rfl rfl rfl (want_none rfl _) (by kernel_rfl) (fun _ hS => hl34 ag32 rfl (Pins.of_le hS (Pin.le_trans hle10 hlek22))) hX30.pins (dr_take (i := 10) rfl rfl rfl (want_none rfl _) (by kernel_rfl) (fun _ _ => r_move (v := o) rfl) hX30.pins (dr_take (i := 11) rfl rfl rfl (want_none rfl _) (by kernel_rfl) (fun _ _ => r_fldp (k := 0) rfl Tryz.underlying24 rfl nz22 rfl) hX30.pins (dr_take (i := 12) rfl rfl rfl (want_none rfl _) (by kernel_rfl) (fun _ hS => r_ldp1 (u := v) ag22 rfl ((Pins.of_le hS hlek22) _ _ _ (hbp12 0 _ rfl))) hX30.pins (dr_take (i := 13) rfl rfl rfl (want_none rfl _) (by kernel_rfl) (fun _ _ => r_move (v := (.int .i64 (j : Int))) rfl) hX30.pins (dr_take (i := 14) rfl rfl rfl (want_none rfl _) (by kernel_rfl) (fun _ _ => run_idx Tryz.underlying22 sz58 (v := v) rfl rfl hv (by omega) (by omega)) hX30.pins (dr_take (i := 15) rfl rfl rfl (want_none rfl _) (by kernel_rfl) (fun _ _ => run_fld (off := 1) Tryz.underlying58 rfl rfl nz32 (z := (j : Int)) (k := 0) rfl hv (by omega) (by omega)) hX30.pins ?_))))))
 obtain ⟨u36, hr37, hl38⟩ := nm_nr (hv.at (z := (j : Int)) (by omega) (by omega)) (j := j) rfl
 have hm39 := hr37.max
 refine dr_take (i := 16) rfl rfl rfl (want_none rfl _) (by kernel_rfl) (fun _ hS => hl38 ag32 rfl (Pins.of_le hS (Pin.le_trans hle10 hlek22))) hX30.pins (dr_one (i := 7) (by kernel_rfl) (drOp1 (i := 7) rfl rfl rfl (want_none rfl _) (o_call (vs := [o, u32]) Tryz.func28 nm28 rfl rfl rfl ?_)))
 refine Calls.mono (l3Join_spec hX30.pins (Gadd.pins hX30.pins o) ho31.read (hr33.mono (Pin.le_trans hle10 hlek22)) (hg.atl (by omega) htl) (Texts.of ht) (hg.lenl (by omega))) ?_
 rintro _ _ ⟨rfl, rfl⟩
 refine ⟨_, rfl, ?_⟩
 refine ⟨fun _ => hX30.pins, ?_⟩
 have hm40 : (⟨#[123]⟩ : ByteArray).size = 1 := rfl
 have hm41 : ((⟨#[123]⟩ : ByteArray) ++ (joinP ts ((ns.getD j default).l))).size = (⟨#[123]⟩ : ByteArray).size + (joinP ts ((ns.getD j default).l)).size := ByteArray.size_append
 refine dr_take (i := 8) rfl rfl rfl (want_none rfl _) (by kernel_rfl) (fun _ _ => r_addS rfl rfl (by omega)) hX30.pins ?_
 have hm42 : (⟨#[124]⟩ : ByteArray).size = 1 := rfl
 have hm43 : (((⟨#[123]⟩ : ByteArray) ++ (joinP ts ((ns.getD j default).l))) ++ (⟨#[124]⟩ : ByteArray)).size = ((⟨#[123]⟩ : ByteArray) ++ (joinP ts ((ns.getD j default).l))).size + (⟨#[124]⟩ : ByteArray).size := ByteArray.size_append
 refine dr_take (i := 9) rfl rfl rfl (want_none rfl _) (by kernel_rfl) (fun _ _ => r_addS rfl rfl (by omega)) hX30.pins (dr_one (i := 17) (by kernel_rfl) (drOp1 (i := 17) rfl rfl rfl (want_none rfl _) (o_call (vs := [o, u36]) Tryz.func28 nm28 rfl rfl rfl ?_)))
 refine Calls.mono (l3Join_spec hX30.pins (Gadd.pins hX30.pins o) ho31.read (hr37.mono (Pin.le_trans hle10 hlek22)) (hg.atr (by omega) htl) (Texts.of ht) (hg.lenr (by omega))) ?_
 rintro _ _ ⟨rfl, rfl⟩
 refine ⟨_, rfl, ?_⟩
 refine ⟨fun _ => hX30.pins, ?_⟩
 have hm44 : ((((⟨#[123]⟩ : ByteArray) ++ (joinP ts ((ns.getD j default).l))) ++ (⟨#[124]⟩ : ByteArray)) ++ (joinP ts ((ns.getD j default).r))).size = (((⟨#[123]⟩ : ByteArray) ++ (joinP ts ((ns.getD j default).l))) ++ (⟨#[124]⟩ : ByteArray)).size + (joinP ts ((ns.getD j default).r)).size := ByteArray.size_append
 refine dr_take (i := 18) rfl rfl rfl (want_none rfl _) (by kernel_rfl) (fun _ _ => r_addS rfl rfl (by omega)) hX30.pins ?_
 have hm45 : (⟨#[125]⟩ : ByteArray).size = 1 := rfl
 have hm46 : (((((⟨#[123]⟩ : ByteArray) ++ (joinP ts ((ns.getD j default).l))) ++ (⟨#[124]⟩ : ByteArray)) ++ (joinP ts ((ns.getD j default).r))) ++ (⟨#[125]⟩ : ByteArray)).size = ((((⟨#[123]⟩ : ByteArray) ++ (joinP ts ((ns.getD j default).l))) ++ (⟨#[124]⟩ : ByteArray)) ++ (joinP ts ((ns.getD j default).r))).size + (⟨#[125]⟩ : ByteArray).size := ByteArray.size_append
 refine dr_take (i := 19) rfl rfl rfl (want_none rfl _) (by kernel_rfl) (fun _ _ => r_addS rfl rfl (by omega)) hX30.pins (dr_take (i := 20) rfl rfl rfl (want_none rfl _) (by kernel_rfl) (fun _ _ => r_assign (v := (.string (((((⟨#[123]⟩ : ByteArray) ++ (joinP ts ((ns.getD j default).l))) ++ (⟨#[124]⟩ : ByteArray)) ++ (joinP ts ((ns.getD j default).r))) ++ (⟨#[125]⟩ : ByteArray)))) rfl) hX30.pins (dr_end (by kernel_rfl) (s_then (s_seq (s_seq (c_reg ?_))))))
 refine qd rfl rfl rfl (r_move (v := (.string (((((⟨#[123]⟩ : ByteArray) ++ (joinP ts ((ns.getD j default).l))) ++ (⟨#[124]⟩ : ByteArray)) ++ (joinP ts ((ns.getD j default).r))) ++ (⟨#[125]⟩ : ByteArray)))) rfl) (qd rfl rfl rfl (r_lenS Tryz.underlying9 rfl) (qd rfl rfl rfl (r_gtr rfl rfl) (qe (s_then ?_))))
 refine c_ifd (p := (4001 : Int) < ((((((⟨#[123]⟩ : ByteArray) ++ (joinP ts ((ns.getD j default).l))) ++ (⟨#[124]⟩ : ByteArray)) ++ (joinP ts ((ns.getD j default).r))) ++ (⟨#[125]⟩ : ByteArray)).size : Int)) rfl rfl (fun h47 => ?_) (fun h47 => ?_)
 refine c_reg (qd rfl rfl rfl (r_move (v := (.string (((((⟨#[123]⟩ : ByteArray) ++ (joinP ts ((ns.getD j default).l))) ++ (⟨#[124]⟩ : ByteArray)) ++ (joinP ts ((ns.getD j default).r))) ++ (⟨#[125]⟩ : ByteArray)))) rfl) (qd rfl rfl rfl (r_cutS Tryz.underlying9 rfl rfl (by omega) (by omega)) (qd rfl rfl rfl (r_assign (v := (.string ((((((⟨#[123]⟩ : ByteArray) ++ (joinP ts ((ns.getD j default).l))) ++ (⟨#[124]⟩ : ByteArray)) ++ (joinP ts ((ns.getD j default).r))) ++ (⟨#[125]⟩ : ByteArray)).extract 0 4001))) rfl) (qe (s_then (c_reg ?_))))))
 refine qd rfl rfl rfl (r_move (v := o) rfl) (qd rfl rfl rfl (r_move (v := (.string ((((((⟨#[123]⟩ : ByteArray) ++ (joinP ts ((ns.getD j default).l))) ++ (⟨#[124]⟩ : ByteArray)) ++ (joinP ts ((ns.getD j default).r))) ++ (⟨#[125]⟩ : ByteArray)).extract 0 4001))) rfl) (q1 rfl rfl rfl (o_buildF (E := eStr) (e := 9) [(.string ((((((⟨#[123]⟩ : ByteArray) ++ (joinP ts ((ns.getD j default).l))) ++ (⟨#[124]⟩ : ByteArray)) ++ (joinP ts ((ns.getD j default).r))) ++ (⟨#[125]⟩ : ByteArray)).extract 0 4001))] [(((((⟨#[123]⟩ : ByteArray) ++ (joinP ts ((ns.getD j default).l))) ++ (⟨#[124]⟩ : ByteArray)) ++ (joinP ts ((ns.getD j default).r))) ++ (⟨#[125]⟩ : ByteArray)).extract 0 4001] Tryz.underlying61 sz9 zr9 (by exact reps1 (by rfl)) (ones1 (by rfl)) rfl rfl rfl rfl (by decide) hX30.pins (fun u48 w49 ho50 hp51 hl52 hk53 => ?_))))
 have hX54 := hX30.step hp51 hl52
 have ho55 := ho31.below hl52
 have ho57 : Own eStr 9 GL1 w49 w.heap.size u48 ([(((((⟨#[123]⟩ : ByteArray) ++ (joinP ts ((ns.getD j default).l))) ++ (⟨#[124]⟩ : ByteArray)) ++ (joinP ts ((ns.getD j default).r))) ++ (⟨#[125]⟩ : ByteArray)).extract 0 4001]) := ho50.weaken hX30.size
 refine q1 rfl rfl rfl (o_append (E := eStr) (v := o) (u := u48) 16 Tryz.underlying61 ap9 (by decide) rfl rfl hX54.pins ho55 ho57.src (by first | omega | (rw [List.nil_append]; omega) | (rw [List.length_nil]; omega) | (rw [List.length_append]; omega) | (simp; done) | (simp; omega) | (simp only [List.length_append, List.length_cons, List.length_nil]; omega)) (by first | omega | (rw [List.nil_append]; omega) | (rw [List.length_nil]; omega) | (rw [List.length_append]; omega) | (simp; done) | (simp; omega) | (simp only [List.length_append, List.length_cons, List.length_nil]; omega)) (hX54.size) (fun u58 w59 ho60 hp61 hg62 hw63 => ?_))
 have hX64 := hX54.write hp61 hg62 ((lo_own ho55))
 have hm67 : (ts ++ ([(((((⟨#[123]⟩ : ByteArray) ++ (joinP ts ((ns.getD j default).l))) ++ (⟨#[124]⟩ : ByteArray)) ++ (joinP ts ((ns.getD j default).r))) ++ (⟨#[125]⟩ : ByteArray)).extract 0 4001])).length = ts.length + 1 := List.length_append
 refine qd rfl rfl rfl (r_assign (v := u58) rfl) (qe (s_blkN (s_then (c_reg ?_))))
 refine qd rfl rfl rfl (r_move (v := (.int .i64 (j : Int))) rfl) (qd rfl rfl rfl (r_add rfl rfl (by omega)) (qd rfl rfl rfl (r_assign (v := (.int .i64 ((j : Int) + 1))) rfl) (qe (s_lopN (⟨_, ?_, _, rfl, _, j + 1, u58, ts ++ [(((((⟨#[123]⟩ : ByteArray) ++ (joinP ts ((ns.getD j default).l))) ++ (⟨#[124]⟩ : ByteArray)) ++ (joinP ts ((ns.getD j default).r))) ++ (⟨#[125]⟩ : ByteArray)).extract 0 4001], GL1, (packS (x := 4) (packS (x := 3) (packS (x := 2) (pack1 (x := 1) rfl) rfl) rfl) rfl), rfl, hX64, hlek22, (by omega), (txts_cut ht h47), (by simp; omega), ho60⟩)))))
 omega
 refine wp_skip (s_then (c_reg ?_))
 refine qd rfl rfl rfl (r_move (v := o) rfl) (qd rfl rfl rfl (r_move (v := (.string (((((⟨#[123]⟩ : ByteArray) ++ (joinP ts ((ns.getD j default).l))) ++ (⟨#[124]⟩ : ByteArray)) ++ (joinP ts ((ns.getD j default).r))) ++ (⟨#[125]⟩ : ByteArray)))) rfl) (q1 rfl rfl rfl (o_buildF (E := eStr) (e := 9) [(.string (((((⟨#[123]⟩ : ByteArray) ++ (joinP ts ((ns.getD j default).l))) ++ (⟨#[124]⟩ : ByteArray)) ++ (joinP ts ((ns.getD j default).r))) ++ (⟨#[125]⟩ : ByteArray)))] [((((⟨#[123]⟩ : ByteArray) ++ (joinP ts ((ns.getD j default).l))) ++ (⟨#[124]⟩ : ByteArray)) ++ (joinP ts ((ns.getD j default).r))) ++ (⟨#[125]⟩ : ByteArray)] Tryz.underlying61 sz9 zr9 (by exact reps1 (by rfl)) (ones1 (by rfl)) rfl rfl rfl rfl (by decide) hX30.pins (fun u68 w69 ho70 hp71 hl72 hk73 => ?_))))
 have hX74 := hX30.step hp71 hl72
 have ho75 := ho31.below hl72
 have ho77 : Own eStr 9 GL1 w69 w.heap.size u68 ([((((⟨#[123]⟩ : ByteArray) ++ (joinP ts ((ns.getD j default).l))) ++ (⟨#[124]⟩ : ByteArray)) ++ (joinP ts ((ns.getD j default).r))) ++ (⟨#[125]⟩ : ByteArray)]) := ho70.weaken hX30.size
 refine q1 rfl rfl rfl (o_append (E := eStr) (v := o) (u := u68) 16 Tryz.underlying61 ap9 (by decide) rfl rfl hX74.pins ho75 ho77.src (by first | omega | (rw [List.nil_append]; omega) | (rw [List.length_nil]; omega) | (rw [List.length_append]; omega) | (simp; done) | (simp; omega) | (simp only [List.length_append, List.length_cons, List.length_nil]; omega)) (by first | omega | (rw [List.nil_append]; omega) | (rw [List.length_nil]; omega) | (rw [List.length_append]; omega) | (simp; done) | (simp; omega) | (simp only [List.length_append, List.length_cons, List.length_nil]; omega)) (hX74.size) (fun u78 w79 ho80 hp81 hg82 hw83 => ?_))
 have hX84 := hX74.write hp81 hg82 ((lo_own ho75))
 have hm87 : (ts ++ ([((((⟨#[123]⟩ : ByteArray) ++ (joinP ts ((ns.getD j default).l))) ++ (⟨#[124]⟩ : ByteArray)) ++ (joinP ts ((ns.getD j default).r))) ++ (⟨#[125]⟩ : ByteArray)])).length = ts.length + 1 := List.length_append
 refine qd rfl rfl rfl (r_assign (v := u78) rfl) (qe (s_blkN (s_then (c_reg ?_))))
 refine qd rfl rfl rfl (r_move (v := (.int .i64 (j : Int))) rfl) (qd rfl rfl rfl (r_add rfl rfl (by omega)) (qd rfl rfl rfl (r_assign (v := (.int .i64 ((j : Int) + 1))) rfl) (qe (s_lopN (⟨_, ?_, _, rfl, _, j + 1, u78, ts ++ [((((⟨#[123]⟩ : ByteArray) ++ (joinP ts ((ns.getD j default).l))) ++ (⟨#[124]⟩ : ByteArray)) ++ (joinP ts ((ns.getD j default).r))) ++ (⟨#[125]⟩ : ByteArray)], GL1, (packS (x := 4) (packS (x := 3) (packS (x := 2) (pack1 (x := 1) rfl) rfl) rfl) rfl), rfl, hX84, hlek22, (by omega), (txts_no ht h47), (by simp; omega), ho80⟩)))))
 omega
 refine wp_exit (s_thenE (s_lopE (s_blkE (s_then (s_seq (c_reg ?_))))))
 refine qd rfl rfl rfl (r_move (v := o) rfl) (qd rfl rfl rfl (r_move (v := o) rfl) (qd rfl rfl rfl (run_len Tryz.underlying61 (v := o) rfl hw26.read) (qd rfl rfl rfl (r_sub rfl rfl (by omega)) (qd rfl rfl rfl (run_idx Tryz.underlying61 sz9 (v := o) rfl rfl hw26.read (by omega) (by omega)) (qd rfl rfl rfl (run_load_str (r := ts.getD ((ts.length : Int) - 1).toNat ByteArray.empty) rfl ag9 (z := ((ts.length : Int) - 1)) rfl hw26.read (Gadd.pins hX25.pins o) (by omega) (by omega)) (qd rfl rfl rfl (r_assign (v := (.string (ts.getD ((ts.length : Int) - 1).toNat ByteArray.empty))) rfl) (qe (s_then ?_))))))))
 exact wp_ret (s_ret (c_ret1 (v := (.string (ts.getD ((ts.length : Int) - 1).toNat ByteArray.empty))) rfl rfl rfl (⟨_, congrArg (fun z => Ending.returned (Value.string z)) (text_done ht (by omega) (by omega)), hX25⟩)))

theorem iFormText_spec {w : World} {G : Pin} {v : Value} {ns : List Nd} (hP : Pins G w) (hv : RSl eNode G v ns) :
  Calls Tryz.prog 16 [(.agg [v].toArray)].toArray w fun e w' => ∃ G', e = .returned (.tuple #[.string (ftS ns), .bool (ftOk ns)]) ∧ Ext noS G w G' w' := by
 refine s_enter (n := 132) Tryz.func16 Tryz.ntmps16 rfl rfl ?_
 have hX0 : Ext noS G w G w := Ext.refl hP
 refine s_seq (c_reg ?_)
 refine q1 rfl rfl rfl (o_box [v] (v := (.agg [v].toArray)) rfl rfl hX0.pins (fun b1 w2 hk3 hb4 hp5 hl6 => ?_))
 have hX7 := hX0.step hp5 hl6
 have hlo8 : w.heap.size ≤ b1 := by have := hX0.size; omega
 obtain ⟨G9, hle10, hX11, hbp12, hf13⟩ := hb4.shut hX7 hlo8
 refine qd rfl rfl rfl (r_assign (v := (.string (⟨#[]⟩ : ByteArray))) rfl) (qd rfl rfl rfl (r_assign (v := (.bool false)) rfl) (qe (s_then (s_seq (s_seq (c_reg ?_))))))
 refine qd rfl rfl rfl (r_ldpA (cs := [v]) ag24 sz24 rfl (fun j u hj => hX11.pins _ _ _ (hbp12 _ _ (by simpa using hj)))) (q1 rfl rfl rfl (o_call (vs := [(.agg [v].toArray)]) Tryz.func33 nm33 rfl rfl rfl ?_))
 refine Calls.mono (goodForm_spec hX11.pins (hv.mono hle10)) ?_
 rintro _ w15 ⟨G14, rfl, hx16⟩
 refine ⟨_, rfl, ?_⟩
 have hX17 := hX11.tr hx16
 refine qd rfl rfl rfl (r_not rfl) (qe (s_then ?_))
 refine c_ifn rfl rfl (fun h18 => ?_) (fun h18 => ?_)
 refine wp_skip (s_then (s_seq (c_reg ?_)))
 have hg : GoodP ns := goodB_true.1 h18
 have hlo := hg.lo
 have hhi := hg.hi
 refine qd rfl rfl rfl (r_fldp (k := 0) rfl Tryz.underlying24 rfl nz22 rfl) (qd rfl rfl rfl (r_ldp1 (u := v) ag22 rfl ((Pins.of_le hX17.pins hx16.le) _ _ _ (hbp12 0 _ rfl))) (qd rfl rfl rfl (run_len Tryz.underlying22 (v := v) rfl hv) (q1 rfl rfl rfl (o_make (E := eInt) 0 8 (.int .i64 0) Tryz.underlying32 mk3 (fun _ => rfl) rfl rfl hX17.pins (by omega) (by omega) (by omega) (fun u19 w20 ho21 hp22 hl23 hk24 => ?_)))))
 have hX25 := hX17.step hp22 hl23
 have ho26 : Own eInt 3 G14 w20 w.heap.size u19 (List.replicate ns.length 0) := ho21.weaken hX17.size
 have hm27 : (List.replicate ns.length 0).length = ns.length := List.length_replicate ..
 refine qd rfl rfl rfl (r_assign (v := u19) rfl) (qe (s_then (s_seq (c_reg ?_))))
 refine qd rfl rfl rfl (r_fldp (k := 0) rfl Tryz.underlying24 rfl nz22 rfl) (qd rfl rfl rfl (r_ldp1 (u := v) ag22 rfl ((Pins.of_le hX25.pins hx16.le) _ _ _ (hbp12 0 _ rfl))) (qd rfl rfl rfl (run_len Tryz.underlying22 (v := v) rfl hv) (q1 rfl rfl rfl (o_make (E := eStr) ByteArray.empty 16 (.string ByteArray.empty) Tryz.underlying61 mk9 (fun _ => rfl) rfl rfl hX25.pins (by omega) (by omega) (by omega) (fun u28 w29 ho30 hp31 hl32 hk33 => ?_)))))
 have hX34 := hX25.step hp31 hl32
 have ho35 := ho26.below hl32
 have ha36 : Apart u28.ownBlock u19.ownBlock := new_ne_own hk33 ho26.lt
 have ho37 : Own eStr 9 G14 w29 w.heap.size u28 (List.replicate ns.length ByteArray.empty) := ho30.weaken hX25.size
 have hm38 : (List.replicate ns.length ByteArray.empty).length = ns.length := List.length_replicate ..
 refine qd rfl rfl rfl (r_assign (v := u28) rfl) (qe (s_then (s_seq (s_seq (c_reg ?_)))))
 refine qd rfl rfl rfl (r_fldp (k := 0) rfl Tryz.underlying24 rfl nz22 rfl) (qd rfl rfl rfl (r_ldp1 (u := v) ag22 rfl ((Pins.of_le hX34.pins hx16.le) _ _ _ (hbp12 0 _ rfl))) (qd rfl rfl rfl (run_len Tryz.underlying22 (v := v) rfl hv) (qd rfl rfl rfl (r_move (v := (.int .i64 0)) rfl) (qe (s_then ?_)))))
 refine s_blk (s_loop (fun (k : Nat) (en : Nat → Value) (W : World) => ∃ (env1 : Nat → Value) (j : Nat) (ss : List Int) (ts : List ByteArray) (GL1 : Pin), en = (upd (upd (upd (upd (upd env1 4 u19) 5 u28) 30 v) 31 (.int .i64 (ns.length : Int))) 32 (.int .i64 (j : Int))) ∧ k = ns.length - j ∧ Ext noS G w GL1 W ∧ Pin.le G14 GL1 ∧ (j ≤ ns.length) ∧ (ss.length = ns.length) ∧ (ts.length = ns.length) ∧ (∀ i, i < j → ss.getD i 0 = ((txtA ns i).size : Int)) ∧ (∀ i, i < j → ts.getD i ByteArray.empty = txtA ns i) ∧ (∀ i, i < j → (txtA ns i).size ≤ 4000) ∧ (Own eInt 3 GL1 W w.heap.size u19 (ss)) ∧ (Own eStr 9 GL1 W w.heap.size u28 (ts))) _ ⟨_, 0, List.replicate ns.length 0, List.replicate ns.length ByteArray.empty, G14, (packS (x := 32) (packS (x := 31) (packS (x := 30) (packS (x := 5) (pack1 (x := 4) rfl) rfl) rfl) rfl) rfl), rfl, hX34, Pin.le_refl _, Nat.zero_le _, (by simp), (by simp), (fun i hi => absurd hi (Nat.not_lt_zero i)), (fun i hi => absurd hi (Nat.not_lt_zero i)), (fun i hi => absurd hi (Nat.not_lt_zero i)), ho35, ho37⟩ ?_)
 rintro k39 _ w40 ⟨env1, j, ss, ts, GL1, rfl, hk41, hX42, hlek39, hj, hsl, htl, hsv, htv, hsm, hw43, hw44⟩
 refine s_seq (c_reg ?_)
 refine qd rfl rfl rfl (r_lss rfl rfl) (qe (s_then (s_seq ?_)))
 refine c_ifd (p := ((j : Int) : Int) < (ns.length : Int)) rfl rfl (fun h45 => ?_) (fun h45 => ?_)
 refine wp_skip (s_then (s_seq ?_))
 refine s_blk (s_seq (c_reg ?_))
 refine qd rfl rfl rfl (r_move (v := (.int .i64 (j : Int))) rfl) (qd rfl rfl rfl (run_idx Tryz.underlying22 sz58 (v := v) rfl rfl hv (by omega) (by omega)) ?_)
 obtain ⟨u46, u47, hr48, hr49, hl50⟩ := nm_node (hv.at (z := (j : Int)) (by omega) (by omega)) (j := j) rfl
 have hm51 := hr48.max
 have hm52 := hr49.max
 refine qd rfl rfl rfl (hl50 ag58 sz58 rfl (Pins.of_le hX42.pins (Pin.le_trans (Pin.le_trans hle10 hx16.le) hlek39))) (q1 rfl rfl rfl (o_alloc [(.slice none 0 0), (.slice none 0 0)] zr58 rfl hX42.pins (fun b53 w54 hk55 hb56 hp57 hl58 => ?_)))
 have hX59 := hX42.step hp57 hl58
 have ho60 := hw43.below hl58
 have ho61 := hw44.below hl58
 have ha62 : Apart (some b53) u19.ownBlock := new_ne_own (congrArg some hk55) hw43.lt
 have ha63 : Apart (some b53) u28.ownBlock := new_ne_own (congrArg some hk55) hw44.lt
 have hlo64 : w.heap.size ≤ b53 := by have := hX42.size; omega
 refine qd rfl rfl rfl (r_assign (v := (.int .i64 (j : Int))) rfl) (q0 rfl rfl rfl (o_stp (cs' := [u46, u47]) (us := [u46, u47]) (v := (.agg [u46, u47].toArray)) sz58 rfl rfl rfl (ones2 hr48.one hr49.one) hX59.pins hb56 (Nat.le_of_ble_eq_true rfl) rfl (fun w65 hb66 hp67 hg68 hz69 => ?_)))
 have hX70 := hX59.write hp67 hg68 ((lo_box hlo64))
 have ho71 := ho60.keptA hg68 ha62.symm
 have ho72 := ho61.keptA hg68 ha63.symm
 obtain ⟨G73, hle74, hX75, hbp76, hf77⟩ := hb66.shut hX70 hlo64
 have ho78 := ho71.moreA hle74 hf77 ha62.symm
 have ho79 := ho72.moreA hle74 hf77 ha63.symm
 refine qe (s_then (s_seq (c_reg ?_)))
 refine qd rfl rfl rfl (r_move (v := u19) rfl) (qd rfl rfl rfl (r_move (v := (.int .i64 (j : Int))) rfl) (qd rfl rfl rfl (run_idx Tryz.underlying32 sz3 (v := u19) rfl rfl ho78.read (by omega) (by omega)) (q0 rfl rfl rfl (o_set (E := eInt) (v := u19) (u := (.int .i64 3)) (z := (j : Int)) (3) sz3 rfl rfl rfl rfl hX75.pins ho78 (by omega) (by omega) (fun w80 ho81 hp82 hg83 hz84 => ?_)))))
 have hX85 := hX75.write hp82 hg83 ((lo_own ho78))
 have ho86 := ho79.keptA hg83 ha36
 refine qe (s_then (s_seq (s_seq (c_reg ?_))))
 refine qd rfl rfl rfl (r_fldp (k := 0) rfl Tryz.underlying58 rfl nz32 rfl) (qd rfl rfl rfl (r_ldp1 (u := u46) ag32 rfl (hX85.pins _ _ _ (hbp76 0 _ rfl))) (qd rfl rfl rfl (r_fldp (k := 1) rfl Tryz.underlying58 rfl nz32 rfl) (qd rfl rfl rfl (r_ldp1 (u := u47) ag32 rfl (hX85.pins _ _ _ (hbp76 1 _ rfl))) (qd rfl rfl rfl (r_buildA (m := 1) [(.slice none 0 0), (.slice none 0 0)] [u46, u47] [(0, u46, [u46]), (1, u47, [u47])] Tryz.underlying74 zr74 rfl sz32 rfl (List.forall_mem_cons.2 ⟨(cells_one hr48.one), (List.forall_mem_cons.2 ⟨(cells_one hr49.one), (fun _ h => by cases h)⟩)⟩) rfl) (qd rfl rfl rfl (r_move (v := (.int .i64 0)) rfl) (qe (s_then ?_)))))))
 refine s_blk (s_loop (fun (k : Nat) (en : Nat → Value) (W : World) => ∃ (env1 : Nat → Value) (s : Nat) (s2 : List Int) (c : Int), en = (upd (upd (upd (upd (upd (upd (upd (upd (upd env1 4 u19) 5 u28) 6 (.int .i64 (j : Int))) 7 (.pointer (some ⟨b53, 0, none⟩))) 30 v) 31 (.int .i64 (ns.length : Int))) 32 (.int .i64 (j : Int))) 44 (.agg [u46, u47].toArray)) 45 (.int .i64 (s : Int))) ∧ k = 2 - s ∧ Ext noS G w G73 W ∧ (s ≤ 2) ∧ (s2 = ss.set j c) ∧ (0 ≤ c ∧ c ≤ 4001) ∧ (c = sz2 ns (ns.getD j default) s) ∧ (Own eInt 3 G73 W w.heap.size u19 (s2)) ∧ (Own eStr 9 G73 W w.heap.size u28 (ts))) _ ⟨_, 0, (ss).set j 3, 3, (packS (x := 45) (packS (x := 44) (packS (x := 32) (packS (x := 31) (packS (x := 30) (packS (x := 7) (packS (x := 6) (packS (x := 5) (pack1 (x := 4) rfl) rfl) rfl) rfl) rfl) rfl) rfl) rfl) rfl), rfl, hX85, Nat.zero_le _, rfl, (by omega), rfl, ho81, ho86⟩ ?_)
 rintro k87 _ w88 ⟨env1, s, s2, c, rfl, hk89, hX90, hs, hs2, hcb, hcv, hw91, hw92⟩
 have h2l : s2.length = ns.length := by rw [hs2]; simp [hsl]
 have e0 : s2.getD j 0 = c := set_self hs2 (by omega)
 refine s_seq (c_reg ?_)
 refine qd rfl rfl rfl (r_lss rfl rfl) (qe (s_then (s_seq ?_)))
 refine c_ifd (p := ((s : Int) : Int) < 2) rfl rfl (fun h93 => ?_) (fun h93 => ?_)
 have hpl := pick2_len hg s (j := j) (by omega)
 refine wp_skip (s_then (s_seq ?_))
 refine s_blk (s_seq (c_reg ?_))
 obtain ⟨u94, hr95, hl96⟩ := name_index2 (hr48.mono (Pin.le_trans (Pin.le_trans (Pin.le_trans hle10 hx16.le) hlek39) hle74)) (hr49.mono (Pin.le_trans (Pin.le_trans (Pin.le_trans hle10 hx16.le) hlek39) hle74)) (z := (s : Int)) s (by omega) (by omega) rfl
 have hm97 := hr95.max
 refine qd rfl rfl rfl (hl96 Tryz.underlying74 rfl sz32 ag32 rfl rfl) (qd rfl rfl rfl (r_assign (v := u94) rfl) (qe (s_then (s_seq (c_reg ?_)))))
 refine qd rfl rfl rfl (r_move (v := u19) rfl) (qd rfl rfl rfl (r_move (v := (.int .i64 (j : Int))) rfl) (qd rfl rfl rfl (run_idx Tryz.underlying32 sz3 (v := u19) rfl rfl hw91.read (by omega) (by omega)) (qd rfl rfl rfl (run_load_int (r := s2.getD j 0) rfl ag3 (z := (j : Int)) rfl hw91.read (Gadd.pins hX90.pins u19) (by omega) (by omega)) (qd rfl rfl rfl (r_move (v := u94) rfl) (qd rfl rfl rfl (run_len Tryz.underlying32 (v := u94) rfl hr95) (qd rfl rfl rfl (r_sub rfl rfl (by omega)) (qd rfl rfl rfl (r_max rfl rfl) (qd rfl rfl rfl (r_add rfl rfl (by omega)) (qd rfl rfl rfl (run_idx Tryz.underlying32 sz3 (v := u19) rfl rfl hw91.read (by omega) (by omega)) (q0 rfl rfl rfl (o_set (E := eInt) (v := u19) (u := (.int .i64 ((s2.getD j 0) + (max 0 (((pick2 s ((ns.getD j default).l) ((ns.getD j default).r)).length : Int) - 1))))) (z := (j : Int)) ((s2.getD j 0) + (max 0 (((pick2 s ((ns.getD j default).l) ((ns.getD j default).r)).length : Int) - 1))) sz3 rfl rfl rfl rfl hX90.pins hw91 (by omega) (by omega) (fun w98 ho99 hp100 hg101 hz102 => ?_))))))))))))
 have hX103 := hX90.write hp100 hg101 ((lo_own hw91))
 have ho104 := hw92.keptA hg101 ha36
 refine qe (s_then (s_seq (c_reg ?_)))
 refine qd rfl rfl rfl (r_move (v := u94) rfl) (qd rfl rfl rfl (run_len Tryz.underlying32 (v := u94) rfl hr95) (qd rfl rfl rfl (r_move (v := (.int .i64 0)) rfl) (qe (s_then ?_))))
 refine s_blk (s_loop (fun (k : Nat) (en : Nat → Value) (W : World) => ∃ (env1 : Nat → Value) (q : Nat) (s3 : List Int) (c3 : Int), en = (upd (upd (upd (upd (upd (upd (upd (upd (upd (upd (upd (upd env1 4 u19) 5 u28) 6 (.int .i64 (j : Int))) 7 (.pointer (some ⟨b53, 0, none⟩))) 30 v) 31 (.int .i64 (ns.length : Int))) 32 (.int .i64 (j : Int))) 44 (.agg [u46, u47].toArray)) 45 (.int .i64 (s : Int))) 58 u94) 59 (.int .i64 ((pick2 s ((ns.getD j default).l) ((ns.getD j default).r)).length : Int))) 60 (.int .i64 (q : Int))) ∧ k = (pick2 s (ns.getD j default).l (ns.getD j default).r).length - q ∧ Ext noS G w G73 W ∧ (q ≤ (pick2 s (ns.getD j default).l (ns.getD j default).r).length) ∧ (s3 = ss.set j c3) ∧ (0 ≤ c3 ∧ (c3 ≤ 4001 ∨ c3 ≤ 4030 ∧ q = 0 ∧ 0 < (pick2 s (ns.getD j default).l (ns.getD j default).r).length)) ∧ (szL ns (s2.getD j 0 + max 0 (((pick2 s (ns.getD j default).l (ns.getD j default).r).length : Int) - 1)) (pick2 s (ns.getD j default).l (ns.getD j default).r) = szL ns c3 ((pick2 s (ns.getD j default).l (ns.getD j default).r).drop q)) ∧ (Own eInt 3 G73 W w.heap.size u19 (s3)) ∧ (Own eStr 9 G73 W w.heap.size u28 (ts))) _ ⟨_, 0, (s2).set j ((s2.getD j 0) + (max 0 (((pick2 s ((ns.getD j default).l) ((ns.getD j default).r)).length : Int) - 1))), s2.getD j 0 + max 0 (((pick2 s (ns.getD j default).l (ns.getD j default).r).length : Int) - 1), (packS (x := 60) (packS (x := 59) (packS (x := 58) (packS (x := 45) (packS (x := 44) (packS (x := 32) (packS (x := 31) (packS (x := 30) (packS (x := 7) (packS (x := 6) (packS (x := 5) (pack1 (x := 4) rfl) rfl) rfl) rfl) rfl) rfl) rfl) rfl) rfl) rfl) rfl) rfl), rfl, hX103, Nat.zero_le _, (by rw [hs2, List.set_set]), (by omega), rfl, ho99, ho104⟩ ?_)
 rintro k105 _ w106 ⟨env1, q, s3, c3, rfl, hk107, hX108, hq, hs3, hc3, hcr, hw109, hw110⟩
 have h3l : s3.length = ns.length := by rw [hs3]; simp [hsl]
 have e1 : s3.getD j 0 = c3 := set_self hs3 (by omega)
 refine s_seq (c_reg ?_)
 refine qd rfl rfl rfl (r_lss rfl rfl) (qe (s_then (s_seq ?_)))
 refine c_ifd (p := ((q : Int) : Int) < ((pick2 s ((ns.getD j default).l) ((ns.getD j default).r)).length : Int)) rfl rfl (fun h111 => ?_) (fun h111 => ?_)
 have hkq := pick2_at hg (s := s) (j := j) (by omega) (q := q) (by omega)
 have e2 : s3.getD ((pick2 s (ns.getD j default).l (ns.getD j default).r).getD q 0).toNat 0 = ((txtA ns ((pick2 s (ns.getD j default).l (ns.getD j default).r).getD q 0).toNat).size : Int) := (set_other hs3 (by omega)).trans (hsv _ (by omega))
 have e3 := txtA_size ns ((pick2 s (ns.getD j default).l (ns.getD j default).r).getD q 0).toNat
 refine wp_skip (s_then (s_seq ?_))
 refine s_blk (s_seq (c_reg ?_))
 refine qd rfl rfl rfl (run_idx Tryz.underlying32 sz3 (v := u94) rfl rfl hr95 (by omega) (by omega)) (qd rfl rfl rfl (run_load_int (r := (pick2 s ((ns.getD j default).l) ((ns.getD j default).r)).getD q 0) rfl ag3 (z := (q : Int)) rfl hr95 hX108.pins (by omega) (by omega)) (qd rfl rfl rfl (r_assign (v := (.int .i64 ((pick2 s ((ns.getD j default).l) ((ns.getD j default).r)).getD q 0))) rfl) (qe (s_then ?_))))
 have hq112 := Gadd.pins hX108.pins u19
 have hr113 := hw109.read
 refine c_draw (S := fun wz => Pins (Gadd G73 w106 u19) wz) (last := 13) (by kernel_rfl) rfl ?_
 have hl114 : Below w106.heap.size w106 w106.drew := (Below.refl _ _).drew
 have hp115 := hX108.pins.below hl114
 have hX116 := hX108.step hp115 hl114
 have ho117 := hw109.below hl114
 have ho118 := hw110.below hl114
 have hq119 := hq112.below hl114
 refine dr_take (i := 0) rfl rfl rfl (want_none rfl _) (by kernel_rfl) (fun _ _ => r_move (v := u19) rfl) hq119 (dr_take (i := 1) rfl rfl rfl (want_none rfl _) (by kernel_rfl) (fun _ _ => r_move (v := (.int .i64 (j : Int))) rfl) hq119 (dr_take (i := 2) rfl rfl rfl (want_none rfl _) (by kernel_rfl) (fun _ _ => r_move (v := u19) rfl) hq119 (dr_take (i := 3) rfl rfl rfl (want_none rfl _) (by kernel_rfl) (fun _ _ => r_move (v := (.int .i64 (j : Int))) rfl) hq119 (dr_take (i := 4) rfl rfl rfl (want_none rfl _) (by kernel_rfl) (fun _ _ => run_idx Tryz.underlying32 sz3 (v := u19) rfl rfl hr113 (by omega) (by omega)) hq119 (dr_take (i := 5) rfl rfl rfl (want_none rfl _) (by kernel_rfl) (fun _ hS => run_load_int (r := s3.getD j 0) rfl ag3 (z := (j : Int)) rfl hr113 hS (by omega) (by omega)) hq119 (dr_take (i := 6) rfl rfl rfl (want_none rfl _) (by kernel_rfl) (fun _ _ => r_move (v := u19) rfl) hq119 (dr_take (i := 7) rfl rfl rfl (want_none rfl _) (by kernel_rfl) (fun _ _ => r_move (v := (.int .i64 ((pick2 s ((ns.getD j default).l) ((ns.getD j default).r)).getD q 0))) rfl) hq119 (dr_take (i := 8) rfl rfl rfl (want_none rfl _) (by kernel_rfl) (fun _ _ => run_idx Tryz.underlying32 sz3 (v := u19) rfl rfl hr113 (by omega) (by omega)) hq119 (dr_take (i := 9) rfl rfl rfl (want_none rfl _) (by kernel_rfl) (fun _ hS => run_load_int (r := s3.getD ((pick2 s ((ns.getD j default).l) ((ns.getD j default).r)).getD q 0).toNat 0) rfl ag3 (z := ((pick2 s ((ns.getD j default).l) ((ns.getD j default).r)).getD q 0)) rfl hr113 hS (by omega) (by omega)) hq119 (dr_take (i := 10) rfl rfl rfl (want_none rfl _) (by kernel_rfl) (fun _ _ => r_add rfl rfl (by omega)) hq119 (dr_take (i := 11) rfl rfl rfl (want_none rfl _) (by kernel_rfl) (fun _ _ => r_min rfl rfl) hq119 (dr_take (i := 12) rfl rfl rfl (want_none rfl _) (by kernel_rfl) (fun _ _ => run_idx Tryz.underlying32 sz3 (v := u19) rfl rfl hr113 (by omega) (by omega)) hq119 (dr_one (i := 13) (by kernel_rfl) (drOp0 (i := 13) rfl rfl rfl (want_none rfl _) (o_set (E := eInt) (v := u19) (u := (.int .i64 (min 4001 ((s3.getD j 0) + (s3.getD ((pick2 s ((ns.getD j default).l) ((ns.getD j default).r)).getD q 0).toNat 0))))) (z := (j : Int)) (min 4001 ((s3.getD j 0) + (s3.getD ((pick2 s ((ns.getD j default).l) ((ns.getD j default).r)).getD q 0).toNat 0))) sz3 rfl rfl rfl rfl hX116.pins ho117 (by omega) (by omega) (fun w120 ho121 hp122 hg123 hz124 => ?_))))))))))))))))
 have hX125 := hX116.write hp122 hg123 ((lo_own ho117))
 have ho126 := ho118.keptA hg123 ha36
 refine ⟨fun h => absurd rfl h, ?_⟩
 refine dr_end (by kernel_rfl) (s_blkN (s_then (c_reg ?_)))
 refine qd rfl rfl rfl (r_add rfl rfl (by omega)) (qd rfl rfl rfl (r_move (v := (.int .i64 ((q : Int) + 1))) rfl) (qe (s_lopN (⟨_, ?_, _, rfl, _, q + 1, (s3).set j (min 4001 ((s3.getD j 0) + (s3.getD ((pick2 s ((ns.getD j default).l) ((ns.getD j default).r)).getD q 0).toNat 0))), min 4001 (s3.getD j 0 + s3.getD ((pick2 s (ns.getD j default).l (ns.getD j default).r).getD q 0).toNat 0), (packS (x := 60) (packS (x := 59) (packS (x := 58) (packS (x := 45) (packS (x := 44) (packS (x := 32) (packS (x := 31) (packS (x := 30) (packS (x := 7) (packS (x := 6) (packS (x := 5) (pack1 (x := 4) rfl) rfl) rfl) rfl) rfl) rfl) rfl) rfl) rfl) rfl) rfl) rfl), rfl, hX125, (by omega), (by rw [hs3, List.set_set]), (by omega), (hcr.trans ((szL_next (by omega)).trans (by rw [e1, e2]; rfl))), ho121, ho126⟩))))
 omega
 refine wp_exit (s_thenE (s_lopE (s_blkE (s_blkN (s_then (c_reg ?_))))))
 refine qd rfl rfl rfl (r_add rfl rfl (by omega)) (qd rfl rfl rfl (r_move (v := (.int .i64 ((s : Int) + 1))) rfl) (qe (s_lopN (⟨_, ?_, _, rfl, _, s + 1, s3, c3, (packS (x := 45) (packS (x := 44) (packS (x := 32) (packS (x := 31) (packS (x := 30) (packS (x := 7) (packS (x := 6) (packS (x := 5) (pack1 (x := 4) rfl) rfl) rfl) rfl) rfl) rfl) rfl) rfl) rfl), rfl, hX108, (by omega), hs3, (by omega), (by rw [szL_end (by omega)] at hcr; exact hcr.symm.trans (by rw [e0, hcv]; rfl)), hw109, hw110⟩))))
 omega
 have hs22 : s = 2 := by omega
 have hcs : c = ((txtA ns j).size : Int) := by rw [hcv, hs22]; exact sz2_size hg (by omega)
 refine wp_exit (s_thenE (s_lopE (s_blkE (s_then (s_seq (s_seq (c_reg ?_)))))))
 refine qd rfl rfl rfl (r_move (v := u19) rfl) (qd rfl rfl rfl (r_move (v := (.int .i64 (j : Int))) rfl) (qd rfl rfl rfl (run_idx Tryz.underlying32 sz3 (v := u19) rfl rfl hw91.read (by omega) (by omega)) (qd rfl rfl rfl (run_load_int (r := s2.getD j 0) rfl ag3 (z := (j : Int)) rfl hw91.read (Gadd.pins hX90.pins u19) (by omega) (by omega)) (qd rfl rfl rfl (r_gtr rfl rfl) (qe (s_then ?_))))))
 refine c_ifd (p := (4000 : Int) < (s2.getD j 0)) rfl rfl (fun h127 => ?_) (fun h127 => ?_)
 refine s_seq (c_reg ?_)
 refine qd rfl rfl rfl (r_assign (v := (.string (⟨#[]⟩ : ByteArray))) rfl) (qd rfl rfl rfl (r_assign (v := (.bool false)) rfl) (qe (s_then ?_)))
 refine wp_ret (s_ret (c_ret2 (v := (.string (⟨#[]⟩ : ByteArray))) (u := (.bool false)) rfl rfl rfl rfl rfl ?_))
 obtain ⟨hf1, hf2⟩ := ft_long (big_up hg (j := j) (by omega) (by omega))
 exact ⟨_, by rw [hf1, hf2]; rfl, hX90⟩
 refine wp_skip (s_then (s_seq (c_reg ?_)))
 refine qd rfl rfl rfl (r_buildA (m := 1) [(.string ByteArray.empty), (.string ByteArray.empty)] [(.string ByteArray.empty), (.string ByteArray.empty)] [] Tryz.underlying75 zr75 rfl sz9 rfl (fun _ h => by cases h) rfl) (q1 rfl rfl rfl (o_alloc [(.string ByteArray.empty), (.string ByteArray.empty)] zr75 rfl hX90.pins (fun b128 w129 hk130 hb131 hp132 hl133 => ?_)))
 have hX134 := hX90.step hp132 hl133
 have ho135 := hw91.below hl133
 have ho136 := hw92.below hl133
 have ha137 : Apart (some b128) u19.ownBlock := new_ne_own (congrArg some hk130) hw91.lt
 have ha138 : Apart (some b128) u28.ownBlock := new_ne_own (congrArg some hk130) hw92.lt
 have hlo139 : w.heap.size ≤ b128 := by have := hX90.size; omega
 refine q0 rfl rfl rfl (o_stp (cs' := [(.string ByteArray.empty), (.string ByteArray.empty)]) (us := [(.string ByteArray.empty), (.string ByteArray.empty)]) (v := (.agg [(.string ByteArray.empty), (.string ByteArray.empty)].toArray)) sz75 rfl rfl rfl (ones2 (by rfl) (by rfl)) hX134.pins hb131 (Nat.le_of_ble_eq_true rfl) rfl (fun w140 hb141 hp142 hg143 hz144 => ?_))
 have hX145 := hX134.write hp142 hg143 ((lo_box hlo139))
 have ho146 := ho135.keptA hg143 ha137.symm
 have ho147 := ho136.keptA hg143 ha138.symm
 refine qe (s_then (s_seq (s_seq (c_reg ?_))))
 refine qd rfl rfl rfl (r_fldp (k := 0) rfl Tryz.underlying58 rfl nz32 rfl) (qd rfl rfl rfl (r_ldp1 (u := u46) ag32 rfl (hX145.pins _ _ _ (hbp76 0 _ rfl))) (qd rfl rfl rfl (r_fldp (k := 1) rfl Tryz.underlying58 rfl nz32 rfl) (qd rfl rfl rfl (r_ldp1 (u := u47) ag32 rfl (hX145.pins _ _ _ (hbp76 1 _ rfl))) (qd rfl rfl rfl (r_buildA (m := 1) [(.slice none 0 0), (.slice none 0 0)] [u46, u47] [(0, u46, [u46]), (1, u47, [u47])] Tryz.underlying74 zr74 rfl sz32 rfl (List.forall_mem_cons.2 ⟨(cells_one hr48.one), (List.forall_mem_cons.2 ⟨(cells_one hr49.one), (fun _ h => by cases h)⟩)⟩) rfl) (qd rfl rfl rfl (r_move (v := (.int .i64 0)) rfl) (qe (s_then ?_)))))))
 refine s_blk (s_loop (fun (k : Nat) (en : Nat → Value) (W : World) => ∃ (env1 : Nat → Value) (s4 : Nat) (a : ByteArray) (b : ByteArray) (GL4 : Pin), en = (upd (upd (upd (upd (upd (upd (upd (upd (upd env1 4 u19) 5 u28) 6 (.int .i64 (j : Int))) 12 (.pointer (some ⟨b128, 0, none⟩))) 30 v) 31 (.int .i64 (ns.length : Int))) 32 (.int .i64 (j : Int))) 89 (.agg [u46, u47].toArray)) 90 (.int .i64 (s4 : Int))) ∧ k = 2 - s4 ∧ Ext noS G w GL4 W ∧ Pin.le G73 GL4 ∧ (s4 ≤ 2) ∧ ((0 < s4 → a = joinP (txts ns j) (ns.getD j default).l) ∧ (1 < s4 → b = joinP (txts ns j) (ns.getD j default).r)) ∧ (Own eInt 3 GL4 W w.heap.size u19 (s2)) ∧ (Own eStr 9 GL4 W w.heap.size u28 (ts)) ∧ (Bx GL4 W b128 [(.string a), (.string b)])) _ ⟨_, 0, ByteArray.empty, ByteArray.empty, G73, (packS (x := 90) (packS (x := 89) (packS (x := 32) (packS (x := 31) (packS (x := 30) (packS (x := 12) (packS (x := 6) (packS (x := 5) (pack1 (x := 4) rfl) rfl) rfl) rfl) rfl) rfl) rfl) rfl) rfl), rfl, hX145, Pin.le_refl _, Nat.zero_le _, ⟨fun h => absurd h (Nat.not_lt_zero _), fun h => absurd h (by omega)⟩, ho146, ho147, hb141⟩ ?_)
 rintro k148 _ w149 ⟨env1, s4, a, b, GL4, rfl, hk150, hX151, hlek148, hs4, ha, hw152, hw153, hw154⟩
 refine s_seq (c_reg ?_)
 refine qd rfl rfl rfl (r_lss rfl rfl) (qe (s_then (s_seq ?_)))
 refine c_ifd (p := ((s4 : Int) : Int) < 2) rfl rfl (fun h155 => ?_) (fun h155 => ?_)
 have hpl4 := pick2_len hg s4 (j := j) (by omega)
 refine wp_skip (s_then (s_seq ?_))
 refine s_blk (s_seq (c_reg ?_))
 refine qd rfl rfl rfl (r_move (v := (.int .i64 (s4 : Int))) rfl) ?_
 obtain ⟨u156, hr157, hl158⟩ := name_index2 (hr48.mono (Pin.le_trans (Pin.le_trans (Pin.le_trans (Pin.le_trans hle10 hx16.le) hlek39) hle74) hlek148)) (hr49.mono (Pin.le_trans (Pin.le_trans (Pin.le_trans (Pin.le_trans hle10 hx16.le) hlek39) hle74) hlek148)) (z := (s4 : Int)) s4 (by omega) (by omega) rfl
 have hm159 := hr157.max
 refine qd rfl rfl rfl (hl158 Tryz.underlying74 rfl sz32 ag32 rfl rfl) (qd rfl rfl rfl (r_assign (v := (.int .i64 (s4 : Int))) rfl) (qd rfl rfl rfl (r_assign (v := u156) rfl) (qe (s_then (s_seq (c_reg ?_))))))
 refine q1 rfl rfl rfl (o_build0 (E := eStr) (e := 9) Tryz.underlying61 sz9 hX151.pins (fun u160 w161 ho162 hp163 hl164 hk165 => ?_))
 have hX166 := hX151.step hp163 hl164
 have ho167 := hw152.below hl164
 have ho168 := hw153.below hl164
 have hb169 := hw154.below hl164
 have ha170 : Apart u160.ownBlock u19.ownBlock := new_ne_own hk165 hw152.lt
 have ha171 : Apart u160.ownBlock u28.ownBlock := new_ne_own hk165 hw153.lt
 have ha172 : Apart u160.ownBlock (some b128) := new_ne_box hk165 hw154.lt
 have ho173 : Own eStr 9 GL4 w161 w.heap.size u160 ([]) := ho162.weaken hX151.size
 refine qd rfl rfl rfl (r_assign (v := u160) rfl) (qe (s_then (s_seq (s_seq (c_reg ?_)))))
 refine qd rfl rfl rfl (r_move (v := u156) rfl) (qd rfl rfl rfl (run_len Tryz.underlying32 (v := u156) rfl hr157) (qd rfl rfl rfl (r_move (v := (.int .i64 0)) rfl) (qe (s_then ?_))))
 refine s_blk (s_loop (fun (k : Nat) (en : Nat → Value) (W : World) => ∃ (env1 : Nat → Value) (q5 : Nat) (o : Value) (os : List ByteArray), en = (upd (upd (upd (upd (upd (upd (upd (upd (upd (upd (upd (upd (upd (upd env1 4 u19) 5 u28) 6 (.int .i64 (j : Int))) 12 (.pointer (some ⟨b128, 0, none⟩))) 13 (.int .i64 (s4 : Int))) 15 o) 30 v) 31 (.int .i64 (ns.length : Int))) 32 (.int .i64 (j : Int))) 89 (.agg [u46, u47].toArray)) 90 (.int .i64 (s4 : Int))) 95 u156) 96 (.int .i64 ((pick2 s4 ((ns.getD j default).l) ((ns.getD j default).r)).length : Int))) 97 (.int .i64 (q5 : Int))) ∧ k = (pick2 s4 (ns.getD j default).l (ns.getD j default).r).length - q5 ∧ Ext noS G w GL4 W ∧ (q5 ≤ (pick2 s4 (ns.getD j default).l (ns.getD j default).r).length) ∧ (os = ((pick2 s4 (ns.getD j default).l (ns.getD j default).r).take q5).map (fA ns)) ∧ (os.length = q5) ∧ (Own eStr 9 GL4 W w.heap.size o (os)) ∧ (Own eInt 3 GL4 W w.heap.size u19 (s2)) ∧ (Own eStr 9 GL4 W w.heap.size u28 (ts)) ∧ (Bx GL4 W b128 [(.string a), (.string b)]) ∧ (Apart o.ownBlock u19.ownBlock) ∧ (Apart o.ownBlock u28.ownBlock) ∧ (Apart o.ownBlock (some b128))) _ ⟨_, 0, u160, [], (packS (x := 97) (packS (x := 96) (packS (x := 95) (packS (x := 90) (packS (x := 89) (packS (x := 32) (packS (x := 31) (packS (x := 30) (packS (x := 15) (packS (x := 13) (packS (x := 12) (packS (x := 6) (packS (x := 5) (pack1 (x := 4) rfl) rfl) rfl) rfl) rfl) rfl) rfl) rfl) rfl) rfl) rfl) rfl) rfl) rfl), rfl, hX166, Nat.zero_le _, rfl, rfl, ho173, ho167, ho168, hb169, ha170, ha171, ha172⟩ ?_)
 rintro k174 _ w175 ⟨env1, q5, o, os, rfl, hk176, hX177, hq5, hos, hol, hw178, hw179, hw180, hw181, ha182, ha183, ha184⟩
 refine s_seq (c_reg ?_)
 refine qd rfl rfl rfl (r_lss rfl rfl) (qe (s_then (s_seq ?_)))
 refine c_ifd (p := ((q5 : Int) : Int) < ((pick2 s4 ((ns.getD j default).l) ((ns.getD j default).r)).length : Int)) rfl rfl (fun h185 => ?_) (fun h185 => ?_)
 have hkq := pick2_at hg (s := s4) (j := j) (by omega) (q := q5) (by omega)
 refine wp_skip (s_then (s_seq ?_))
 refine s_blk (s_seq (c_reg ?_))
 refine qd rfl rfl rfl (run_idx Tryz.underlying32 sz3 (v := u156) rfl rfl hr157 (by omega) (by omega)) (qd rfl rfl rfl (run_load_int (r := (pick2 s4 ((ns.getD j default).l) ((ns.getD j default).r)).getD q5 0) rfl ag3 (z := (q5 : Int)) rfl hr157 hX177.pins (by omega) (by omega)) (qd rfl rfl rfl (r_assign (v := (.int .i64 ((pick2 s4 ((ns.getD j default).l) ((ns.getD j default).r)).getD q5 0))) rfl) (qe (s_then (c_reg ?_)))))
 refine qd rfl rfl rfl (r_move (v := o) rfl) (qd rfl rfl rfl (r_move (v := u28) rfl) (qd rfl rfl rfl (r_move (v := (.int .i64 ((pick2 s4 ((ns.getD j default).l) ((ns.getD j default).r)).getD q5 0))) rfl) (qd rfl rfl rfl (run_idx Tryz.underlying61 sz9 (v := u28) rfl rfl hw180.read (by omega) (by omega)) (qd rfl rfl rfl (run_load_str (r := ts.getD ((pick2 s4 ((ns.getD j default).l) ((ns.getD j default).r)).getD q5 0).toNat ByteArray.empty) rfl ag9 (z := ((pick2 s4 ((ns.getD j default).l) ((ns.getD j default).r)).getD q5 0)) rfl hw180.read (Gadd.pins hX177.pins u28) (by omega) (by omega)) (q1 rfl rfl rfl (o_buildF (E := eStr) (e := 9) [(.string (ts.getD ((pick2 s4 ((ns.getD j default).l) ((ns.getD j default).r)).getD q5 0).toNat ByteArray.empty))] [ts.getD ((pick2 s4 ((ns.getD j default).l) ((ns.getD j default).r)).getD q5 0).toNat ByteArray.empty] Tryz.underlying61 sz9 zr9 (by exact reps1 (by rfl)) (ones1 (by rfl)) rfl rfl rfl rfl (by decide) hX177.pins (fun u186 w187 ho188 hp189 hl190 hk191 => ?_)))))))
 have hX192 := hX177.step hp189 hl190
 have ho193 := hw178.below hl190
 have ho194 := hw179.below hl190
 have ho195 := hw180.below hl190
 have hb196 := hw181.below hl190
 have ho201 : Own eStr 9 GL4 w187 w.heap.size u186 ([ts.getD ((pick2 s4 ((ns.getD j default).l) ((ns.getD j default).r)).getD q5 0).toNat ByteArray.empty]) := ho188.weaken hX177.size
 refine q1 rfl rfl rfl (o_append (E := eStr) (v := o) (u := u186) 16 Tryz.underlying61 ap9 (by decide) rfl rfl hX192.pins ho193 ho201.src (by first | omega | (rw [List.nil_append]; omega) | (rw [List.length_nil]; omega) | (rw [List.length_append]; omega) | (simp; done) | (simp; omega) | (simp only [List.length_append, List.length_cons, List.length_nil]; omega)) (by first | omega | (rw [List.nil_append]; omega) | (rw [List.length_nil]; omega) | (rw [List.length_append]; omega) | (simp; done) | (simp; omega) | (simp only [List.length_append, List.length_cons, List.length_nil]; omega)) (hX192.size) (fun u202 w203 ho204 hp205 hg206 hw207 => ?_))
 have hX208 := hX192.write hp205 hg206 ((lo_own ho193))
 have ho209 := ho194.keptA hg206 ha182.symm
 have ho210 := ho195.keptA hg206 ha183.symm
 have hb212 := hb196.keptA hg206 ha184.symm
 have ha213 : Apart u19.ownBlock u202.ownBlock := app_ne_own ha182.symm hw207 ho194.lt
 have ha214 : Apart u28.ownBlock u202.ownBlock := app_ne_own ha183.symm hw207 ho195.lt
 have ha216 : Apart (some b128) u202.ownBlock := app_ne_box ha184.symm hw207 hb196.lt
 have hm217 : (os ++ ([ts.getD ((pick2 s4 ((ns.getD j default).l) ((ns.getD j default).r)).getD q5 0).toNat ByteArray.empty])).length = os.length + 1 := List.length_append
 refine qd rfl rfl rfl (r_assign (v := u202) rfl) (qe (s_blkN (s_then (c_reg ?_))))
 refine qd rfl rfl rfl (r_add rfl rfl (by omega)) (qd rfl rfl rfl (r_move (v := (.int .i64 ((q5 : Int) + 1))) rfl) (qe (s_lopN (⟨_, ?_, _, rfl, _, q5 + 1, u202, os ++ [ts.getD ((pick2 s4 (ns.getD j default).l (ns.getD j default).r).getD q5 0).toNat ByteArray.empty], (packS (x := 97) (packS (x := 96) (packS (x := 95) (packS (x := 90) (packS (x := 89) (packS (x := 32) (packS (x := 31) (packS (x := 30) (packS (x := 15) (packS (x := 13) (packS (x := 12) (packS (x := 6) (packS (x := 5) (pack1 (x := 4) rfl) rfl) rfl) rfl) rfl) rfl) rfl) rfl) rfl) rfl) rfl) rfl) rfl) rfl), rfl, hX208, (by omega), (by rw [hos, htv _ (by omega)]; exact words_next (by omega)), (by rw [List.length_append, hol]; rfl), ho204, ho209, ho210, hb212, ha213.symm, ha214.symm, ha216.symm⟩))))
 omega
 have hjw : joinW os = joinP (txts ns j) (pick2 s4 (ns.getD j default).l (ns.getD j default).r) := by rw [hos, take_all (by omega)]; exact join_A (by omega) (fun q h => pick2_at hg (by omega) h)
 refine wp_exit (s_thenE (s_lopE (s_blkE (s_then (c_reg ?_)))))
 refine qd rfl rfl rfl (r_move (v := (.int .i64 (s4 : Int))) rfl) (qd rfl rfl rfl (r_move (v := o) rfl) ?_)
 obtain ⟨G218, hle221, hX220, hr219, hf222⟩ := hw178.sealed hX177
 have ho223 := hw179.moreO hle221 hf222 ha182.symm
 have ho224 := hw180.moreO hle221 hf222 ha183.symm
 have hb225 := hw181.moreO hf222 ha184.symm
 refine q1 rfl rfl rfl (o_call (vs := [o, (.string (⟨#[44]⟩ : ByteArray))]) Tryz.func34 nm34 rfl rfl rfl ?_)
 refine Calls.mono (join_spec hX220.pins hr219 ⟨by rw [hjw]; exact Nat.le_trans (joinP_size (txts_ok ns j) (pick2_len hg s4 (by omega))) (by decide), by omega⟩) ?_
 rintro _ w226 ⟨rfl, hx227⟩
 refine ⟨_, rfl, ?_⟩
 have hX228 := hX220.step hx227.pins hx227.below
 have ho229 := ho223.below hx227.below
 have ho230 := ho224.below hx227.below
 have hb231 := hb225.below hx227.below
 refine qd rfl rfl rfl (r_idxb (k := s4) Tryz.underlying75 sz9 rfl rfl (by omega) (by omega) (by omega)) (q0 rfl rfl rfl (o_stp2 (k := s4) sz9 rfl rfl (by omega) hX228.pins hb231 (fun w232 hb233 hp234 hg235 hz236 => ?_)))
 have hX237 := hX228.write hp234 hg235 ((lo_box hlo139))
 have ho238 := ho229.keptA hg235 ha137.symm
 have ho239 := ho230.keptA hg235 ha138.symm
 refine qe (s_blkN (s_then (c_reg ?_)))
 refine qd rfl rfl rfl (r_add rfl rfl (by omega)) (qd rfl rfl rfl (r_move (v := (.int .i64 ((s4 : Int) + 1))) rfl) (qe (s_lopN (⟨_, ?_, _, rfl, _, s4 + 1, if s4 = 0 then joinW os else a, if s4 = 0 then b else joinW os, G218, (packS (x := 90) (packS (x := 89) (packS (x := 32) (packS (x := 31) (packS (x := 30) (packS (x := 12) (packS (x := 6) (packS (x := 5) (pack1 (x := 4) rfl) rfl) rfl) rfl) rfl) rfl) rfl) rfl) rfl), rfl, hX237, (Pin.le_trans hlek148 hle221), (by omega), (join_step ha (by omega) hjw), ho238, ho239, hb233⟩))))
 omega
 have ha1 := ha.1 (by omega)
 have hb1 := ha.2 (by omega)
 have hsa := joinP_size (txts_ok ns j) (hg.lenl (i := j) (by omega))
 have hsb := joinP_size (txts_ok ns j) (hg.lenr (i := j) (by omega))
 rw [← ha1] at hsa
 rw [← hb1] at hsb
 refine wp_exit (s_thenE (s_lopE (s_blkE (s_then (c_reg ?_)))))
 refine qd rfl rfl rfl (r_move (v := u28) rfl) (qd rfl rfl rfl (r_move (v := (.int .i64 (j : Int))) rfl) (qd rfl rfl rfl (r_idxb (k := 0) Tryz.underlying75 sz9 rfl rfl (by omega) (by omega) (by omega)) (qd rfl rfl rfl (r_ldp1 (u := (.string a)) ag9 rfl (hw154.cell (o := 0) rfl)) ?_)))
 have hm240 : (⟨#[123]⟩ : ByteArray).size = 1 := rfl
 have hm241 : ((⟨#[123]⟩ : ByteArray) ++ a).size = (⟨#[123]⟩ : ByteArray).size + a.size := ByteArray.size_append
 refine qd rfl rfl rfl (r_addS rfl rfl (by omega)) ?_
 have hm242 : (⟨#[124]⟩ : ByteArray).size = 1 := rfl
 have hm243 : (((⟨#[123]⟩ : ByteArray) ++ a) ++ (⟨#[124]⟩ : ByteArray)).size = ((⟨#[123]⟩ : ByteArray) ++ a).size + (⟨#[124]⟩ : ByteArray).size := ByteArray.size_append
 refine qd rfl rfl rfl (r_addS rfl rfl (by omega)) (qd rfl rfl rfl (r_idxb (k := 1) Tryz.underlying75 sz9 rfl rfl (by omega) (by omega) (by omega)) (qd rfl rfl rfl (r_ldp1 (u := (.string b)) ag9 rfl (hw154.cell (o := 1) rfl)) ?_))
 have hm244 : ((((⟨#[123]⟩ : ByteArray) ++ a) ++ (⟨#[124]⟩ : ByteArray)) ++ b).size = (((⟨#[123]⟩ : ByteArray) ++ a) ++ (⟨#[124]⟩ : ByteArray)).size + b.size := ByteArray.size_append
 refine qd rfl rfl rfl (r_addS rfl rfl (by omega)) ?_
 have hm245 : (⟨#[125]⟩ : ByteArray).size = 1 := rfl
 have hm246 : (((((⟨#[123]⟩ : ByteArray) ++ a) ++ (⟨#[124]⟩ : ByteArray)) ++ b) ++ (⟨#[125]⟩ : ByteArray)).size = ((((⟨#[123]⟩ : ByteArray) ++ a) ++ (⟨#[124]⟩ : ByteArray)) ++ b).size + (⟨#[125]⟩ : ByteArray).size := ByteArray.size_append
 refine qd rfl rfl rfl (r_addS rfl rfl (by omega)) (qd rfl rfl rfl (run_idx Tryz.underlying61 sz9 (v := u28) rfl rfl hw153.read (by omega) (by omega)) (q0 rfl rfl rfl (o_set (E := eStr) (v := u28) (u := (.string (((((⟨#[123]⟩ : ByteArray) ++ a) ++ (⟨#[124]⟩ : ByteArray)) ++ b) ++ (⟨#[125]⟩ : ByteArray)))) (z := (j : Int)) (((((⟨#[123]⟩ : ByteArray) ++ a) ++ (⟨#[124]⟩ : ByteArray)) ++ b) ++ (⟨#[125]⟩ : ByteArray)) sz9 rfl rfl rfl rfl hX151.pins hw153 (by omega) (by omega) (fun w247 ho248 hp249 hg250 hz251 => ?_))))
 have hX252 := hX151.write hp249 hg250 ((lo_own hw153))
 have ho253 := hw152.keptA hg250 ha36.symm
 refine qe (s_blkN (s_then (c_reg ?_)))
 refine qd rfl rfl rfl (r_add rfl rfl (by omega)) (qd rfl rfl rfl (r_move (v := (.int .i64 ((j : Int) + 1))) rfl) (qe (s_lopN ?_)))
 have hX : ((((⟨#[123]⟩ : ByteArray) ++ a) ++ (⟨#[124]⟩ : ByteArray)) ++ b) ++ (⟨#[125]⟩ : ByteArray) = txtA ns j := by rw [ha1, hb1]; exact node_uncut (by omega) (by omega)
 refine ⟨_, ?_, _, rfl, _, j + 1, s2, (ts).set j (((((⟨#[123]⟩ : ByteArray) ++ a) ++ (⟨#[124]⟩ : ByteArray)) ++ b) ++ (⟨#[125]⟩ : ByteArray)), GL4, (packS (x := 32) (packS (x := 31) (packS (x := 30) (packS (x := 5) (pack1 (x := 4) rfl) rfl) rfl) rfl) rfl), rfl, hX252, (Pin.le_trans (Pin.le_trans hlek39 hle74) hlek148), (by omega), (by rw [hs2]; simp [hsl]), (by simp [htl]), (by rw [hs2]; exact set_step hsv hsl (by omega) hcs), (set_step htv htl (by omega) hX), (fun i hi => if h : i = j then h ▸ (by omega) else hsm i (by omega)), ho253, ho248⟩
 omega
 refine wp_exit (s_thenE (s_lopE (s_blkE (s_then (s_seq (c_reg ?_))))))
 refine qd rfl rfl rfl (r_move (v := u28) rfl) (qd rfl rfl rfl (r_move (v := u28) rfl) (qd rfl rfl rfl (run_len Tryz.underlying61 (v := u28) rfl hw44.read) (qd rfl rfl rfl (r_sub rfl rfl (by omega)) (qd rfl rfl rfl (run_idx Tryz.underlying61 sz9 (v := u28) rfl rfl hw44.read (by omega) (by omega)) (qd rfl rfl rfl (run_load_str (r := ts.getD ((ts.length : Int) - 1).toNat ByteArray.empty) rfl ag9 (z := ((ts.length : Int) - 1)) rfl hw44.read (Gadd.pins hX42.pins u28) (by omega) (by omega)) (qd rfl rfl rfl (r_assign (v := (.string (ts.getD ((ts.length : Int) - 1).toNat ByteArray.empty))) rfl) (qd rfl rfl rfl (r_assign (v := (.bool true)) rfl) (qe (s_then ?_)))))))))
 refine wp_ret (s_ret (c_ret2 (v := (.string (ts.getD ((ts.length : Int) - 1).toNat ByteArray.empty))) (u := (.bool true)) rfl rfl rfl rfl rfl ?_))
 have hz : (txtA ns (ns.length - 1)).size ≤ 4000 := hsm _ (by omega)
 have hrv : ts.getD ((ts.length : Int) - 1).toNat ByteArray.empty = textOf ns := (htv _ (by omega)).trans (congrArg (txtA ns) (by omega))
 obtain ⟨hf1, hf2⟩ := ft_good h18 (by show ¬ (4000 : Int) < ((txtA ns (ns.length - 1)).size : Int); omega)
 exact ⟨_, by rw [hf1, hf2, hrv], hX42⟩
 refine s_seq (c_reg ?_)
 refine qd rfl rfl rfl (r_assign (v := (.string (⟨#[]⟩ : ByteArray))) rfl) (qd rfl rfl rfl (r_assign (v := (.bool false)) rfl) (qe (s_then ?_)))
 refine wp_ret (s_ret (c_ret2 (v := (.string (⟨#[]⟩ : ByteArray))) (u := (.bool false)) rfl rfl rfl rfl rfl ?_))
 obtain ⟨hf1, hf2⟩ := ft_bad h18
 exact ⟨_, by rw [hf1, hf2]; rfl, hX17⟩

end T1
end Go.Proofs.YtbfhkngkfadmnaaGreatDoor

set_option maxRecDepth 20000
set_option maxHeartbeats 2000000
namespace Go.Proofs.YtbfhkngkfadmnaaGreatDoor
namespace RF1
open Go.RowKit Go.GL Go.Proofs
open B1 C1 D1 E1 K1 PO1 PL1 PA1 SO1 OD1 FO1 RF0 T1





theorem pl24 : (Tryz.prog.underlying 24).bind (placesD Tryz.prog) = some [(0, 1)] := by kernel_rfl


theorem iReadForm_dspec {w : World} {G : Pin} {s : ByteArray} (hP : Pins G w) :
  Calls Tryz.prog 5 [(.string s)].toArray w fun e w' => ∃ (u : Value) (G' : Pin), e = .returned (.tuple #[(.agg [u].toArray), .bool (rdB s)]) ∧ DForm 58 3 G' w' w.heap.size w'.heap.size u (rdF s) ∧ Ext noS G w G' w' := by
 refine s_enter (n := 50) Tryz.func5 Tryz.ntmps5 rfl rfl ?_
 have hX0 : Ext noS G w G w := Ext.refl hP
 refine s_seq (c_reg ?_)
 refine q1 rfl rfl rfl (o_alloc [(.slice none 0 0)] zr24 rfl hX0.pins (fun b1 w2 hk3 hb4 hp5 hl6 => ?_))
 have hX7 := hX0.step hp5 hl6
 have hlo8 : w.heap.size ≤ b1 := by have := hX0.size; omega
 refine qd rfl rfl rfl (r_assign (v := (.bool false)) rfl) (qe (s_then (s_seq (s_seq (c_reg ?_)))))
 refine qd rfl rfl rfl (r_move (v := (.string s)) rfl) (qd rfl rfl rfl (r_lenS Tryz.underlying9 rfl) (qd rfl rfl rfl (r_gtr rfl rfl) (qe (s_then ?_))))
 refine c_ifd (p := (4000 : Int) < (s.size : Int)) rfl rfl (fun h9 => ?_) (fun h9 => ?_)
 refine s_seq (c_reg ?_)
 refine qd rfl rfl rfl (r_build [(.slice none 0 0)] [(.slice none 0 0)] [] Tryz.underlying24 zr24 rfl pl24 rfl (fun _ h => by cases h) rfl) (q0 rfl rfl rfl (o_stp (cs' := [(.slice none 0 0)]) (us := [(.slice none 0 0)]) (v := (.agg [(.slice none 0 0)].toArray)) sz24 rfl rfl rfl (ones1 (by rfl)) hX7.pins hb4 (Nat.le_of_ble_eq_true rfl) rfl (fun w10 hb11 hp12 hg13 hz14 => ?_)))
 have hX15 := hX7.write hp12 hg13 ((lo_box hlo8))
 refine qd rfl rfl rfl (r_assign (v := (.bool false)) rfl) (qe (s_then ?_))
 refine wp_ret (s_ret (c_retct (cs := [(.slice none 0 0)]) (v := (.bool false)) rfl rfl rfl rfl rfl ag24 sz24 (fun j u hj => by rw [Nat.zero_add]; exact hb11.cell hj) ?_))
 have hrb : rdB s = false := rdB_long (by omega)
 rw [hrb, rdF_no hrb]
 exact ⟨_, _, rfl, DForm.nil, hX15⟩
 refine wp_skip (s_then (s_seq (c_reg ?_)))
 refine q1 rfl rfl rfl (o_call (vs := []) Tryz.func13 nm13 rfl rfl rfl ?_)
 refine Calls.mono (newPool_spec hX7.pins) ?_
 rintro _ w19 ⟨p16, mm17, G18, rfl, hpk20, hfr21, hx22⟩
 refine ⟨_, rfl, ?_⟩
 have hX26 := hX7.tr hx22
 have hb27 := hb4.ext hx22
 have hnp28 := np_fresh hfr21 (x := (some b1)) (box_lt hb4)
 have hpin29 : PIn w (noS) p16 (.slice none 0 0) (.slice none 0 0) (.slice none 0 0) mm17 := PIn.fresh hfr21 hX7.size
 obtain ⟨q23, hq24⟩ : ∃ q, q = (⟨[], [], [], [], [], [], []⟩ : PSt) := ⟨_, rfl⟩
 rw [← hq24] at hpk20
 have hok25 : PoolOk q23 := by rw [hq24]; exact PoolOk.empty
 have hq24l : q23.ns.length = 0 := by rw [hq24]; rfl
 obtain ⟨L30, R31, B32, eL30, eR31, eB32⟩ : ∃ (l r b : Value), l = .slice none 0 0 ∧ r = .slice none 0 0 ∧ b = .slice none 0 0 := ⟨_, _, _, rfl, rfl, rfl⟩
 have hpk202 : Pk 32 3 G18 w19 p16 L30 R31 B32 mm17 q23 := by rw [eL30, eR31, eB32]; exact hpk20
 have hpin292 : PIn w (noS) p16 L30 R31 B32 mm17 := by rw [eL30, eR31, eB32]; exact hpin29
 have hml33 : (q23.ns.map Nd.l).length = q23.ns.length ∧ (q23.ns.map Nd.r).length = q23.ns.length := ⟨List.length_map .., List.length_map ..⟩
 have hml34 : q23.bs.length = q23.ns.length ∧ q23.ns.length ≤ 1048576 := ⟨hok25.ar.ok.len, hok25.ar.ok.lim⟩
 have hnp28x : NP p16 L30 R31 B32 mm17 (some b1) := by rw [eL30, eR31, eB32]; exact hnp28
 refine qd rfl rfl rfl (r_assign (v := (.pointer (some ⟨p16, 0, none⟩))) rfl) (qe (s_then (s_seq (c_reg ?_))))
 refine qd rfl rfl rfl (r_move (v := (.pointer (some ⟨p16, 0, none⟩))) rfl) (qd rfl rfl rfl (r_move (v := (.string s)) rfl) (q1 rfl rfl rfl (o_call (vs := [(.pointer (some ⟨p16, 0, none⟩)), (.string s), (.int .i64 0)]) Tryz.func14 nm14 rfl rfl rfl ?_)))
 refine Calls.mono (bracket_spec hX26.pins hpk202 hok25 (i := 0) (by omega) (by omega) (z0 := 0) (by omega)) ?_
 rintro _ w47 ⟨z35, n36, a37, L42, R43, B44, q45, G46, rfl, hpk48, hok49, hpx50, hlo51, hx52, hrd38, hge39, hno40, hys41⟩
 refine ⟨_, rfl, ?_⟩
 have hX53 := hX26.trans hx52 hpin292
 have hb54 := hb27.extS hx52 (NP.notb hnp28x)
 have hpin56 := PIn.call hpin292 hlo51 hX26.size
 have hql57 := hpx50.len
 have hml58 : (q45.ns.map Nd.l).length = q45.ns.length ∧ (q45.ns.map Nd.r).length = q45.ns.length := ⟨List.length_map .., List.length_map ..⟩
 have hml59 : q45.bs.length = q45.ns.length ∧ q45.ns.length ≤ 1048576 := ⟨hok49.ar.ok.len, hok49.ar.ok.lim⟩
 refine qd rfl rfl rfl (r_move (v := (.tuple #[(.int .i64 z35), (.int .i64 n36)])) rfl) (qd rfl rfl rfl (r_extract (v := (.int .i64 z35)) rfl rfl) (qd rfl rfl rfl (r_extract (v := (.int .i64 n36)) rfl rfl) (qd rfl rfl rfl (r_assign (v := (.int .i64 z35)) rfl) (qd rfl rfl rfl (r_assign (v := (.int .i64 n36)) rfl) (qe (s_then (s_seq (s_seq (c_reg ?_)))))))))
 refine qd rfl rfl rfl (r_move (v := (.int .i64 n36)) rfl) (qd rfl rfl rfl (r_move (v := (.string s)) rfl) (qd rfl rfl rfl (r_lenS Tryz.underlying9 rfl) (qd rfl rfl rfl (r_neq rfl rfl) (qe (s_then ?_)))))
 refine c_ifd (p := (n36 : Int) ≠ (s.size : Int)) rfl rfl (fun h60 => ?_) (fun h60 => ?_)
 refine s_seq (c_reg ?_)
 refine qd rfl rfl rfl (r_build [(.slice none 0 0)] [(.slice none 0 0)] [] Tryz.underlying24 zr24 rfl pl24 rfl (fun _ h => by cases h) rfl) (q0 rfl rfl rfl (o_stp (cs' := [(.slice none 0 0)]) (us := [(.slice none 0 0)]) (v := (.agg [(.slice none 0 0)].toArray)) sz24 rfl rfl rfl (ones1 (by rfl)) hX53.pins hb54 (Nat.le_of_ble_eq_true rfl) rfl (fun w61 hb62 hp63 hg64 hz65 => ?_)))
 have hX66 := hX53.write hp63 hg64 ((lo_box hlo8))
 refine qd rfl rfl rfl (r_assign (v := (.bool false)) rfl) (qe (s_then ?_))
 refine wp_ret (s_ret (c_retct (cs := [(.slice none 0 0)]) (v := (.bool false)) rfl rfl rfl rfl rfl ag24 sz24 (fun j u hj => by rw [Nat.zero_add]; exact hb62.cell hj) ?_))
 have hrb : rdB s = false := rd_stop hrd38 hno40 hys41 (by omega)
 rw [hrb, rdF_no hrb]
 exact ⟨_, _, rfl, DForm.nil, hX66⟩
 refine wp_skip (s_then (s_seq (c_reg ?_)))
 obtain ⟨hrd0, hpl0⟩ := rd_end hrd38 hys41 (by omega)
 refine qd rfl rfl rfl (r_move (v := (.pointer (some ⟨p16, 0, none⟩))) rfl) (qd rfl rfl rfl (r_move (v := (.int .i64 z35)) rfl) (q1 rfl rfl rfl (o_call (vs := [(.pointer (some ⟨p16, 0, none⟩)), (.int .i64 z35)]) Tryz.func15 nm15 rfl rfl rfl ?_)))
 refine Calls.mono (form_spec hX53.pins hpk48 hok49 hpl0) ?_
 rintro _ w70 ⟨u68, G69, rfl, hd71, hx72⟩
 refine ⟨_, rfl, ?_⟩
 have hX73 := hX53.tr hx72
 have hb74 := hb54.ext hx72
 have hone76 := hd71.one
 refine qd rfl rfl rfl (r_move (v := (.tuple #[(.agg [u68].toArray), (.bool (fitB (pd q45 z35)))])) rfl) (qd rfl rfl rfl (r_extract (v := (.agg [u68].toArray)) rfl rfl) (qd rfl rfl rfl (r_extract (v := (.bool (fitB (pd q45 z35)))) rfl rfl) (q1 rfl rfl rfl (o_alloc [(.slice none 0 0)] zr24 rfl hX73.pins (fun b77 w78 hk79 hb80 hp81 hl82 => ?_)))))
 have hX83 := hX73.step hp81 hl82
 have hb84 := hb74.below hl82
 have hd85 := hd71.below hl82
 have hs86 := Nat.le_trans (Nat.le_refl w70.heap.size) hl82.size
 have ha91 : Apart (some b77) (some b1) := new_ne_box (congrArg some hk79) hb74.lt
 have ha93 : w70.heap.size ≤ b77 ∨ b77 < w47.heap.size := Or.inl (by have e := Option.some.inj (congrArg some hk79); have := (Nat.le_refl w70.heap.size); omega)
 have hlo95 : w.heap.size ≤ b77 := by have := hX73.size; omega
 refine q0 rfl rfl rfl (o_stp (cs' := [u68]) (us := [u68]) (v := (.agg [u68].toArray)) sz24 rfl rfl rfl (ones1 hone76) hX83.pins hb80 (Nat.le_of_ble_eq_true rfl) rfl (fun w96 hb97 hp98 hg99 hz100 => ?_))
 have hX101 := hX83.write hp98 hg99 ((lo_box hlo95))
 have hb102 := hb84.keptA hg99 ha91.symm
 have hd103 := hd85.kept hg99 ha93
 have hs104 := Nat.le_trans hs86 hg99.size
 obtain ⟨G106, hle107, hX108, hbp109, hf110⟩ := hb97.shut hX101 hlo95
 have hb111 := hb102.moreA hf110 ha91.symm
 have hd112 := hd103.more hle107 hf110 ha93
 refine qd rfl rfl rfl (r_assign (v := (.bool (fitB (pd q45 z35)))) rfl) (qe (s_then (s_seq (s_seq (c_reg ?_)))))
 refine qd rfl rfl rfl (r_move (v := (.bool (fitB (pd q45 z35)))) rfl) (qd rfl rfl rfl (r_not rfl) (qe (s_then ?_)))
 refine c_ifn rfl rfl (fun h114 => ?_) (fun h114 => ?_)
 refine wp_skip (s_then (s_seq (s_seq (c_reg ?_))))
 have hif := form_is hok49 hpl0
 have hfe : frmG (pd q45 z35) = formG (pd q45 z35) := frm_yes hif h114
 have hfq : ∀ {b : Bool}, ftOk (frmG (pd q45 z35)) = b → ftOk (formG (pd q45 z35)) = b := fun h => hfe ▸ h
 refine qd rfl rfl rfl (r_ldpA (cs := [u68]) ag24 sz24 rfl (fun j u hj => hX108.pins _ _ _ (hbp109 _ _ (by simpa using hj)))) ?_
 obtain ⟨G115, hle116, hp117, hr118, _⟩ := hd112.read hX108.pins
 refine q1 rfl rfl rfl (o_call (vs := [(.agg [u68].toArray)]) Tryz.func16 nm16 rfl rfl rfl ?_)
 refine Calls.mono (iFormText_spec hp117 hr118) ?_
 rintro _ w120 ⟨G119, rfl, hx121⟩
 refine ⟨_, rfl, ?_⟩
 have hx122 := deep_back hX108.pins hx121
 have hX123 := hX108.step hx122.pins hx122.below
 have hb124 := hb111.below hx122.below
 have hd125 := hd112.below hx122.below
 have hs126 := Nat.le_trans hs104 hx122.below.size
 refine qd rfl rfl rfl (r_move (v := (.tuple #[(.string (ftS (frmG (pd q45 z35)))), (.bool (ftOk (frmG (pd q45 z35))))])) rfl) (qd rfl rfl rfl (r_extract (v := (.string (ftS (frmG (pd q45 z35))))) rfl rfl) (qd rfl rfl rfl (r_extract (v := (.bool (ftOk (frmG (pd q45 z35))))) rfl rfl) (qd rfl rfl rfl (r_assign (v := (.string (ftS (frmG (pd q45 z35))))) rfl) (qd rfl rfl rfl (r_assign (v := (.bool (ftOk (frmG (pd q45 z35))))) rfl) (qe (s_then (s_seq (c_reg ?_))))))))
 refine qd rfl rfl rfl (r_move (v := (.bool (ftOk (frmG (pd q45 z35))))) rfl) (qd rfl rfl rfl (r_not rfl) (qd rfl rfl rfl (r_move (v := (.bool (!(ftOk (frmG (pd q45 z35)))))) rfl) (qbn (t := 43) rfl (fun h128 => ?_) (fun h128 => ?_))))
 refine qdg rfl rfl rfl rfl rfl rfl (r_move (v := (.string (ftS (frmG (pd q45 z35))))) rfl) (qdg rfl rfl rfl rfl rfl rfl (r_move (v := (.string s)) rfl) (qdg rfl rfl rfl rfl rfl rfl (r_neqS rfl rfl) (qd rfl rfl rfl (r_pickF (v := (.bool (!((ftS (frmG (pd q45 z35))).toList == s.toList)))) rfl rfl) (qe (s_then ?_)))))
 refine c_ifn rfl rfl (fun h129 => ?_) (fun h129 => ?_)
 refine wp_skip (s_then (s_seq (c_reg ?_)))
 refine qd rfl rfl rfl (r_ldpA (cs := [u68]) ag24 sz24 rfl (fun j u hj => hX123.pins _ _ _ (hbp109 _ _ (by simpa using hj)))) (q0 rfl rfl rfl (o_stp (cs' := [u68]) (us := [u68]) (v := (.agg [u68].toArray)) sz24 rfl rfl rfl (ones1 hone76) hX123.pins hb124 (Nat.le_of_ble_eq_true rfl) rfl (fun w130 hb131 hp132 hg133 hz134 => ?_)))
 have hX135 := hX123.write hp132 hg133 ((lo_box hlo8))
 have hd136 := hd125.kept hg133 (Or.inr hb54.lt)
 have hs137 := Nat.le_trans hs126 hg133.size
 refine qd rfl rfl rfl (r_assign (v := (.bool true)) rfl) (qe (s_then ?_))
 refine wp_ret (s_ret (c_retct (cs := [u68]) (v := (.bool true)) rfl rfl rfl rfl rfl ag24 sz24 (fun j u hj => by rw [Nat.zero_add]; exact hb131.cell hj) ?_))
 obtain ⟨hr1, hr2⟩ := rd_done (by omega) hrd0 h114 (hfq h128) (by rw [← hfe]; exact h129)
 rw [hr1, hr2, ← hfe]
 exact ⟨_, _, rfl, (hd136.wide hX53.size hs137), hX135⟩
 refine s_seq (c_reg ?_)
 refine qd rfl rfl rfl (r_build [(.slice none 0 0)] [(.slice none 0 0)] [] Tryz.underlying24 zr24 rfl pl24 rfl (fun _ h => by cases h) rfl) (q0 rfl rfl rfl (o_stp (cs' := [(.slice none 0 0)]) (us := [(.slice none 0 0)]) (v := (.agg [(.slice none 0 0)].toArray)) sz24 rfl rfl rfl (ones1 (by rfl)) hX123.pins hb124 (Nat.le_of_ble_eq_true rfl) rfl (fun w139 hb140 hp141 hg142 hz143 => ?_)))
 have hX144 := hX123.write hp141 hg142 ((lo_box hlo8))
 have hs146 := Nat.le_trans hs126 hg142.size
 refine qd rfl rfl rfl (r_assign (v := (.bool false)) rfl) (qe (s_then ?_))
 refine wp_ret (s_ret (c_retct (cs := [(.slice none 0 0)]) (v := (.bool false)) rfl rfl rfl rfl rfl ag24 sz24 (fun j u hj => by rw [Nat.zero_add]; exact hb140.cell hj) ?_))
 have hrb : rdB s = false := rd_ne hrd0 (by rw [← hfe]; exact h129)
 rw [hrb, rdF_no hrb]
 exact ⟨_, _, rfl, DForm.nil, hX144⟩
 refine qs rfl rfl rfl rfl rfl rfl (qs rfl rfl rfl rfl rfl rfl (qs rfl rfl rfl rfl rfl rfl (qd rfl rfl rfl (r_pickT (v := (.bool true)) rfl rfl) (qe (s_then ?_)))))
 refine c_ifT rfl rfl (s_seq (c_reg ?_))
 refine qd rfl rfl rfl (r_build [(.slice none 0 0)] [(.slice none 0 0)] [] Tryz.underlying24 zr24 rfl pl24 rfl (fun _ h => by cases h) rfl) (q0 rfl rfl rfl (o_stp (cs' := [(.slice none 0 0)]) (us := [(.slice none 0 0)]) (v := (.agg [(.slice none 0 0)].toArray)) sz24 rfl rfl rfl (ones1 (by rfl)) hX123.pins hb124 (Nat.le_of_ble_eq_true rfl) rfl (fun w148 hb149 hp150 hg151 hz152 => ?_)))
 have hX153 := hX123.write hp150 hg151 ((lo_box hlo8))
 have hs155 := Nat.le_trans hs126 hg151.size
 refine qd rfl rfl rfl (r_assign (v := (.bool false)) rfl) (qe (s_then ?_))
 refine wp_ret (s_ret (c_retct (cs := [(.slice none 0 0)]) (v := (.bool false)) rfl rfl rfl rfl rfl ag24 sz24 (fun j u hj => by rw [Nat.zero_add]; exact hb149.cell hj) ?_))
 have hrb : rdB s = false := rd_ft hrd0 (hfq h128)
 rw [hrb, rdF_no hrb]
 exact ⟨_, _, rfl, DForm.nil, hX153⟩
 refine s_seq (c_reg ?_)
 refine qd rfl rfl rfl (r_build [(.slice none 0 0)] [(.slice none 0 0)] [] Tryz.underlying24 zr24 rfl pl24 rfl (fun _ h => by cases h) rfl) (q0 rfl rfl rfl (o_stp (cs' := [(.slice none 0 0)]) (us := [(.slice none 0 0)]) (v := (.agg [(.slice none 0 0)].toArray)) sz24 rfl rfl rfl (ones1 (by rfl)) hX108.pins hb111 (Nat.le_of_ble_eq_true rfl) rfl (fun w157 hb158 hp159 hg160 hz161 => ?_)))
 have hX162 := hX108.write hp159 hg160 ((lo_box hlo8))
 have hs164 := Nat.le_trans hs104 hg160.size
 refine qd rfl rfl rfl (r_assign (v := (.bool false)) rfl) (qe (s_then ?_))
 refine wp_ret (s_ret (c_retct (cs := [(.slice none 0 0)]) (v := (.bool false)) rfl rfl rfl rfl rfl ag24 sz24 (fun j u hj => by rw [Nat.zero_add]; exact hb158.cell hj) ?_))
 have hrb : rdB s = false := rd_unfit hrd0 h114
 rw [hrb, rdF_no hrb]
 exact ⟨_, _, rfl, DForm.nil, hX162⟩

end RF1
end Go.Proofs.YtbfhkngkfadmnaaGreatDoor

set_option maxRecDepth 20000
set_option maxHeartbeats 2000000
namespace Go.Proofs.YtbfhkngkfadmnaaGreatDoor
namespace RS1
open Go.RowKit Go.GL Go.Proofs
open B1 C1 D1 E1







theorem is_spec {w : World} {G : Pin} {r : Nat} {s : ByteArray} {i b : Nat} {bd : Bool} {bp : Value} (hP : Pins G w) (hR : Bx G w r [(.string s), (.int .i64 (i : Int)), (.bool bd), bp]) (hi : i ≤ s.size ∧ s.size ≤ 1048576) :
  Calls Tryz.prog 20 [(.pointer (some ⟨r, 0, none⟩)), (.int .u8 (b : Int))].toArray w fun e w' => ∃ (t : Bool) (n : Nat), e = .returned (.bool t) ∧ Bx G w' r [(.string s), (.int .i64 (n : Int)), (.bool bd), bp] ∧ (t = true → bd = false ∧ isB s i b = true ∧ n = i + 1 ∧ i + 1 ≤ s.size) ∧ (t = false → (bd = true ∨ isB s i b = false) ∧ n = i) ∧ Ext (inO (some r)) G w G w' := by
 refine s_enter (n := 41) Tryz.func20 Tryz.ntmps20 rfl rfl ?_
 have hX0 : Ext (inO (some r)) G w G w := Ext.refl hP
 have hii := hi
 refine s_seq (c_reg ?_)
 refine qd rfl rfl rfl (r_assign (v := (.bool false)) rfl) (qe (s_then (s_seq (s_seq ?_))))
 refine c_draw (S := fun wz => BxR wz r [(.string s), (.int .i64 (i : Int)), (.bool bd), bp]) (last := 29) (by kernel_rfl) rfl ?_
 have hl1 : Below w.heap.size w w.drew := (Below.refl _ _).drew
 have hp2 := hX0.pins.below hl1
 have hX3 := hX0.step hp2 hl1
 have hb4 := hR.below hl1
 refine dr_take (i := 0) rfl rfl rfl (want_none rfl _) (by kernel_rfl) (fun _ _ => r_move (v := (.pointer (some ⟨r, 0, none⟩))) rfl) hb4.reads (dr_take (i := 1) rfl rfl rfl (want_none rfl _) (by kernel_rfl) (fun _ _ => r_nil rfl) hb4.reads (dr_take (i := 2) rfl rfl rfl (want_none rfl _) (by kernel_rfl) (fun _ _ => r_fldp (k := 2) rfl Tryz.underlying36 rfl nz4 rfl) hb4.reads (dr_take (i := 3) rfl rfl rfl (want_none rfl _) (by kernel_rfl) (fun _ hS => r_ldp1 (u := (.bool bd)) ag4 rfl (hS 2 _ rfl)) hb4.reads (dr_take (i := 4) rfl rfl rfl (want_none rfl _) (by kernel_rfl) (fun _ _ => r_move (v := (.bool bd)) rfl) hb4.reads (drb (t := 9) rfl (fun h5 => ?_) (fun h5 => ?_))))))
 refine dr_skip (i := 5) rfl rfl (want_no rfl rfl rfl rfl rfl) (by kernel_rfl) hb4.reads (dr_skip (i := 6) rfl rfl (want_no rfl rfl rfl rfl rfl) (by kernel_rfl) hb4.reads (dr_skip (i := 7) rfl rfl (want_no rfl rfl rfl rfl rfl) (by kernel_rfl) hb4.reads (dr_skip (i := 8) rfl rfl (want_no rfl rfl rfl rfl rfl) (by kernel_rfl) hb4.reads (dr_skip (i := 9) rfl rfl (want_no rfl rfl rfl rfl rfl) (by kernel_rfl) hb4.reads (dr_skip (i := 10) rfl rfl (want_no rfl rfl rfl rfl rfl) (by kernel_rfl) hb4.reads (dr_skip (i := 11) rfl rfl (want_no rfl rfl rfl rfl rfl) (by kernel_rfl) hb4.reads (dr_skip (i := 12) rfl rfl (want_no rfl rfl rfl rfl rfl) (by kernel_rfl) hb4.reads (dr_skip (i := 13) rfl rfl (want_no rfl rfl rfl rfl rfl) (by kernel_rfl) hb4.reads (dr_skip (i := 14) rfl rfl (want_no rfl rfl rfl rfl rfl) (by kernel_rfl) hb4.reads (dr_take (i := 15) rfl rfl rfl (want_none rfl _) (by kernel_rfl) (fun _ _ => r_pickT (v := (.bool true)) rfl rfl) hb4.reads (dr_take (i := 16) rfl rfl rfl (want_none rfl _) (by kernel_rfl) (fun _ _ => r_move (v := (.bool true)) rfl) hb4.reads (dr_skip (i := 17) rfl rfl (want_no rfl rfl rfl rfl rfl) (by kernel_rfl) hb4.reads (dr_skip (i := 18) rfl rfl (want_no rfl rfl rfl rfl rfl) (by kernel_rfl) hb4.reads (dr_skip (i := 19) rfl rfl (want_no rfl rfl rfl rfl rfl) (by kernel_rfl) hb4.reads (dr_skip (i := 20) rfl rfl (want_no rfl rfl rfl rfl rfl) (by kernel_rfl) hb4.reads (dr_skip (i := 21) rfl rfl (want_no rfl rfl rfl rfl rfl) (by kernel_rfl) hb4.reads (dr_skip (i := 22) rfl rfl (want_no rfl rfl rfl rfl rfl) (by kernel_rfl) hb4.reads (dr_skip (i := 23) rfl rfl (want_no rfl rfl rfl rfl rfl) (by kernel_rfl) hb4.reads (dr_skip (i := 24) rfl rfl (want_no rfl rfl rfl rfl rfl) (by kernel_rfl) hb4.reads (dr_skip (i := 25) rfl rfl (want_no rfl rfl rfl rfl rfl) (by kernel_rfl) hb4.reads (dr_skip (i := 26) rfl rfl (want_no rfl rfl rfl rfl rfl) (by kernel_rfl) hb4.reads (dr_skip (i := 27) rfl rfl (want_no rfl rfl rfl rfl rfl) (by kernel_rfl) hb4.reads (dr_take (i := 28) rfl rfl rfl (want_none rfl _) (by kernel_rfl) (fun _ _ => r_pickT (v := (.bool true)) rfl rfl) hb4.reads (dr_end (by kernel_rfl) (s_then (c_ifT rfl rfl (s_seq (c_reg ?_))))))))))))))))))))))))))))
 refine qd rfl rfl rfl (r_assign (v := (.bool false)) rfl) (qe (s_then ?_))
 exact wp_ret (s_ret (c_ret1 (v := (.bool false)) rfl rfl rfl (⟨false, i, rfl, hb4, (fun h => by cases h), (fun _ => ⟨by first | exact Or.inl (by assumption) | exact Or.inr (isB_out (by omega)) | exact Or.inr (isB_no (by first | assumption | omega | simp_all)), rfl⟩), hX3⟩)))
 refine dr_take (i := 5) rfl rfl rfl (want_yes rfl rfl rfl rfl) (by kernel_rfl) (fun _ _ => r_move (v := (.pointer (some ⟨r, 0, none⟩))) rfl) hb4.reads (dr_take (i := 6) rfl rfl rfl (want_yes rfl rfl rfl rfl) (by kernel_rfl) (fun _ _ => r_nil rfl) hb4.reads (dr_take (i := 7) rfl rfl rfl (want_yes rfl rfl rfl rfl) (by kernel_rfl) (fun _ _ => r_fldp (k := 1) rfl Tryz.underlying36 rfl nz3 rfl) hb4.reads (dr_take (i := 8) rfl rfl rfl (want_yes rfl rfl rfl rfl) (by kernel_rfl) (fun _ hS => r_ldp1 (u := (.int .i64 (i : Int))) ag3 rfl (hS 1 _ rfl)) hb4.reads (dr_take (i := 9) rfl rfl rfl (want_yes rfl rfl rfl rfl) (by kernel_rfl) (fun _ _ => r_move (v := (.pointer (some ⟨r, 0, none⟩))) rfl) hb4.reads (dr_take (i := 10) rfl rfl rfl (want_yes rfl rfl rfl rfl) (by kernel_rfl) (fun _ _ => r_nil rfl) hb4.reads (dr_take (i := 11) rfl rfl rfl (want_yes rfl rfl rfl rfl) (by kernel_rfl) (fun _ _ => r_fldp (k := 0) rfl Tryz.underlying36 rfl nz9 rfl) hb4.reads (dr_take (i := 12) rfl rfl rfl (want_yes rfl rfl rfl rfl) (by kernel_rfl) (fun _ hS => r_ldp1 (u := (.string s)) ag9 rfl (hS 0 _ rfl)) hb4.reads (dr_take (i := 13) rfl rfl rfl (want_yes rfl rfl rfl rfl) (by kernel_rfl) (fun _ _ => r_lenS Tryz.underlying9 rfl) hb4.reads (dr_take (i := 14) rfl rfl rfl (want_yes rfl rfl rfl rfl) (by kernel_rfl) (fun _ _ => r_geq rfl rfl) hb4.reads (dr_take (i := 15) rfl rfl rfl (want_none rfl _) (by kernel_rfl) (fun _ _ => r_pickF (v := (.bool (decide (((s.size : Int) : Int) ≤ (i : Int))))) rfl rfl) hb4.reads (dr_take (i := 16) rfl rfl rfl (want_none rfl _) (by kernel_rfl) (fun _ _ => r_move (v := (.bool (decide (((s.size : Int) : Int) ≤ (i : Int))))) rfl) hb4.reads (drbd (p := ((s.size : Int) : Int) ≤ (i : Int)) (t := 21) rfl (fun h6 => ?_) (fun h6 => ?_)))))))))))))
 refine dr_skip (i := 17) rfl rfl (want_no rfl rfl rfl rfl rfl) (by kernel_rfl) hb4.reads (dr_skip (i := 18) rfl rfl (want_no rfl rfl rfl rfl rfl) (by kernel_rfl) hb4.reads (dr_skip (i := 19) rfl rfl (want_no rfl rfl rfl rfl rfl) (by kernel_rfl) hb4.reads (dr_skip (i := 20) rfl rfl (want_no rfl rfl rfl rfl rfl) (by kernel_rfl) hb4.reads (dr_skip (i := 21) rfl rfl (want_no rfl rfl rfl rfl rfl) (by kernel_rfl) hb4.reads (dr_skip (i := 22) rfl rfl (want_no rfl rfl rfl rfl rfl) (by kernel_rfl) hb4.reads (dr_skip (i := 23) rfl rfl (want_no rfl rfl rfl rfl rfl) (by kernel_rfl) hb4.reads (dr_skip (i := 24) rfl rfl (want_no rfl rfl rfl rfl rfl) (by kernel_rfl) hb4.reads (dr_skip (i := 25) rfl rfl (want_no rfl rfl rfl rfl rfl) (by kernel_rfl) hb4.reads (dr_skip (i := 26) rfl rfl (want_no rfl rfl rfl rfl rfl) (by kernel_rfl) hb4.reads (dr_skip (i := 27) rfl rfl (want_no rfl rfl rfl rfl rfl) (by kernel_rfl) hb4.reads (dr_take (i := 28) rfl rfl rfl (want_none rfl _) (by kernel_rfl) (fun _ _ => r_pickT (v := (.bool true)) rfl rfl) hb4.reads (dr_end (by kernel_rfl) (s_then (c_ifT rfl rfl (s_seq (c_reg ?_))))))))))))))))
 refine qd rfl rfl rfl (r_assign (v := (.bool false)) rfl) (qe (s_then ?_))
 exact wp_ret (s_ret (c_ret1 (v := (.bool false)) rfl rfl rfl (⟨false, i, rfl, hb4, (fun h => by cases h), (fun _ => ⟨by first | exact Or.inl (by assumption) | exact Or.inr (isB_out (by omega)) | exact Or.inr (isB_no (by first | assumption | omega | simp_all)), rfl⟩), hX3⟩)))
 refine dr_take (i := 17) rfl rfl rfl (want_yes rfl rfl rfl rfl) (by kernel_rfl) (fun _ _ => r_move (v := (.pointer (some ⟨r, 0, none⟩))) rfl) hb4.reads (dr_take (i := 18) rfl rfl rfl (want_yes rfl rfl rfl rfl) (by kernel_rfl) (fun _ _ => r_nil rfl) hb4.reads (dr_take (i := 19) rfl rfl rfl (want_yes rfl rfl rfl rfl) (by kernel_rfl) (fun _ _ => r_fldp (k := 0) rfl Tryz.underlying36 rfl nz9 rfl) hb4.reads (dr_take (i := 20) rfl rfl rfl (want_yes rfl rfl rfl rfl) (by kernel_rfl) (fun _ hS => r_ldp1 (u := (.string s)) ag9 rfl (hS 0 _ rfl)) hb4.reads (dr_take (i := 21) rfl rfl rfl (want_yes rfl rfl rfl rfl) (by kernel_rfl) (fun _ _ => r_move (v := (.pointer (some ⟨r, 0, none⟩))) rfl) hb4.reads (dr_take (i := 22) rfl rfl rfl (want_yes rfl rfl rfl rfl) (by kernel_rfl) (fun _ _ => r_nil rfl) hb4.reads (dr_take (i := 23) rfl rfl rfl (want_yes rfl rfl rfl rfl) (by kernel_rfl) (fun _ _ => r_fldp (k := 1) rfl Tryz.underlying36 rfl nz3 rfl) hb4.reads (dr_take (i := 24) rfl rfl rfl (want_yes rfl rfl rfl rfl) (by kernel_rfl) (fun _ hS => r_ldp1 (u := (.int .i64 (i : Int))) ag3 rfl (hS 1 _ rfl)) hb4.reads (dr_take (i := 25) rfl rfl rfl (want_yes rfl rfl rfl rfl) (by kernel_rfl) (fun _ _ => r_idxB Tryz.underlying9 rfl rfl (by omega) (by omega)) hb4.reads (dr_take (i := 26) rfl rfl rfl (want_yes rfl rfl rfl rfl) (by kernel_rfl) (fun _ _ => r_move (v := (.int .u8 (b : Int))) rfl) hb4.reads (dr_take (i := 27) rfl rfl rfl (want_yes rfl rfl rfl rfl) (by kernel_rfl) (fun _ _ => r_neq rfl rfl) hb4.reads (dr_take (i := 28) rfl rfl rfl (want_none rfl _) (by kernel_rfl) (fun _ _ => r_pickF (v := (.bool (decide ((((sB s i).toNat : Int) : Int) ≠ (b : Int))))) rfl rfl) hb4.reads (dr_end (by kernel_rfl) (s_then (c_ifd (p := (((sB s i).toNat : Int) : Int) ≠ (b : Int)) rfl rfl (fun h7 => ?_) (fun h7 => ?_)))))))))))))))
 refine s_seq (c_reg ?_)
 refine qd rfl rfl rfl (r_assign (v := (.bool false)) rfl) (qe (s_then ?_))
 exact wp_ret (s_ret (c_ret1 (v := (.bool false)) rfl rfl rfl (⟨false, i, rfl, hb4, (fun h => by cases h), (fun _ => ⟨by first | exact Or.inl (by assumption) | exact Or.inr (isB_out (by omega)) | exact Or.inr (isB_no (by first | assumption | omega | simp_all)), rfl⟩), hX3⟩)))
 refine wp_skip (s_then (s_seq (c_reg ?_)))
 refine qd rfl rfl rfl (r_move (v := (.pointer (some ⟨r, 0, none⟩))) rfl) (qd rfl rfl rfl (r_nil rfl) (qd rfl rfl rfl (r_fldp (k := 1) rfl Tryz.underlying36 rfl nz3 rfl) (qd rfl rfl rfl (r_ldp1 (u := (.int .i64 (i : Int))) ag3 rfl (hb4.cell (o := 1) rfl)) (qd rfl rfl rfl (r_add rfl rfl (by omega)) (qd rfl rfl rfl (r_nil rfl) (qd rfl rfl rfl (r_fldp (k := 1) rfl Tryz.underlying36 rfl nz3 rfl) (q0 rfl rfl rfl (o_stp (cs' := [(.string s), (.int .i64 ((i : Int) + 1)), (.bool bd), bp]) (us := [(.int .i64 ((i : Int) + 1))]) (v := (.int .i64 ((i : Int) + 1))) sz3 rfl rfl rfl (ones1 (by rfl)) hX3.pins hb4 (Nat.le_of_ble_eq_true rfl) rfl (fun w8 hb9 hp10 hg11 hz12 => ?_)))))))))
 have hX13 := hX3.write hp10 hg11 (lo_self)
 refine qe (s_then (s_seq (c_reg ?_)))
 refine qd rfl rfl rfl (r_assign (v := (.bool true)) rfl) (qe (s_then ?_))
 exact wp_ret (s_ret (c_ret1 (v := (.bool true)) rfl rfl rfl (⟨true, i + 1, rfl, hb9, (fun _ => ⟨by first | assumption | simp_all, isB_yes (by omega) (by first | omega | simp_all), rfl, by omega⟩), (fun h => by cases h), hX13⟩)))

end RS1
end Go.Proofs.YtbfhkngkfadmnaaGreatDoor

set_option maxRecDepth 20000
set_option maxHeartbeats 2000000
namespace Go.Proofs.YtbfhkngkfadmnaaGreatDoor
namespace RS2
open Go.RowKit Go.GL Go.Proofs
open B1 C1 D1 E1 RS1








def GmP (m : Nat) : Prop := ∀ {w : World} {G : Pin} {r b : Nat} {bu bv : Value} {ns : List Nd} {bs : List Int} {s : ByteArray} {i : Nat} {bd : Bool} (_ : Pins G w) (_ : Bx G w r [(.string s), (.int .i64 (i : Int)), (.bool bd), (.pointer (some ⟨b, 0, none⟩))]) (_ : Bk 58 3 G w b bu bv ns bs) (_ : Apart (some r) (some b)) (_ : Apart (some r) bu.ownBlock) (_ : Apart (some r) bv.ownBlock) (_ : PoolOk (bkq ns bs)) (_ : i ≤ s.size ∧ s.size ≤ 1048576) (_ : ns.length + (s.size - i) + 1 ≤ 1048575) (_ : bd = false), s.size - i < m → Calls Tryz.prog 9 [(.pointer (some ⟨r, 0, none⟩))].toArray w fun e w' => ∃ (z : Int) (n : Nat) (bd' : Bool) (u' v' : Value) (ns' : List Nd) (bs' : List Int) (G' : Pin), e = .returned (.int .i64 z) ∧ Bx G' w' r [(.string s), (.int .i64 (n : Int)), (.bool bd'), (.pointer (some ⟨b, 0, none⟩))] ∧ Bk 58 3 G' w' b u' v' ns' bs' ∧ Apart (some r) u'.ownBlock ∧ Apart (some r) v'.ownBlock ∧ Ext (inT r b bu bv) G w G' w' ∧ Lo w (inT r b bu bv) u'.ownBlock ∧ Lo w (inT r b bu bv) v'.ownBlock ∧ PoolOk (bkq ns' bs') ∧ PX (bkq ns bs) (bkq ns' bs') ∧ RgY s i (bkq ns bs) (bkq ns' bs') z n bd'

def LsP (m : Nat) : Prop := ∀ {w : World} {G : Pin} {r b : Nat} {bu bv : Value} {ns : List Nd} {bs : List Int} {s : ByteArray} {i : Nat} {bd : Bool} (_ : Pins G w) (_ : Bx G w r [(.string s), (.int .i64 (i : Int)), (.bool bd), (.pointer (some ⟨b, 0, none⟩))]) (_ : Bk 58 3 G w b bu bv ns bs) (_ : Apart (some r) (some b)) (_ : Apart (some r) bu.ownBlock) (_ : Apart (some r) bv.ownBlock) (_ : PoolOk (bkq ns bs)) (_ : i ≤ s.size ∧ s.size ≤ 1048576) (_ : ns.length + (s.size - i) + 1 ≤ 1048575) {e1 : Nat}, s.size - i < m → Calls Tryz.prog 21 [(.pointer (some ⟨r, 0, none⟩)), (.int .u8 (e1 : Int))].toArray w fun e w' => ∃ (v : Value) (xs : List Int) (n : Nat) (bd' : Bool) (u' v' : Value) (ns' : List Nd) (bs' : List Int) (G' : Pin), e = .returned v ∧ Bx G' w' r [(.string s), (.int .i64 (n : Int)), (.bool bd'), (.pointer (some ⟨b, 0, none⟩))] ∧ Bk 58 3 G' w' b u' v' ns' bs' ∧ Apart (some r) u'.ownBlock ∧ Apart (some r) v'.ownBlock ∧ Ext (inT r b bu bv) G w G' w' ∧ Lo w (inT r b bu bv) u'.ownBlock ∧ Lo w (inT r b bu bv) v'.ownBlock ∧ PoolOk (bkq ns' bs') ∧ PX (bkq ns bs) (bkq ns' bs') ∧ RlY s i e1 bd (bkq ns bs) (bkq ns' bs') xs n bd' ∧ RSl eInt G' v xs

theorem rlist_step {w : World} {G : Pin} {r b : Nat} {bu bv : Value} {ns : List Nd} {bs : List Int} {s : ByteArray} {i : Nat} {bd : Bool} (hP : Pins G w) (hR : Bx G w r [(.string s), (.int .i64 (i : Int)), (.bool bd), (.pointer (some ⟨b, 0, none⟩))]) (hB : Bk 58 3 G w b bu bv ns bs) (hrb : Apart (some r) (some b)) (hru : Apart (some r) bu.ownBlock) (hrv : Apart (some r) bv.ownBlock) (hokp : PoolOk (bkq ns bs)) (hi : i ≤ s.size ∧ s.size ≤ 1048576) (hrm : ns.length + (s.size - i) + 1 ≤ 1048575) {e1 m : Nat} (ih : GmP m) (hm : s.size - i < m) :
  Calls Tryz.prog 21 [(.pointer (some ⟨r, 0, none⟩)), (.int .u8 (e1 : Int))].toArray w fun e w' => ∃ (v : Value) (xs : List Int) (n : Nat) (bd' : Bool) (u' v' : Value) (ns' : List Nd) (bs' : List Int) (G' : Pin), e = .returned v ∧ Bx G' w' r [(.string s), (.int .i64 (n : Int)), (.bool bd'), (.pointer (some ⟨b, 0, none⟩))] ∧ Bk 58 3 G' w' b u' v' ns' bs' ∧ Apart (some r) u'.ownBlock ∧ Apart (some r) v'.ownBlock ∧ Ext (inT r b bu bv) G w G' w' ∧ Lo w (inT r b bu bv) u'.ownBlock ∧ Lo w (inT r b bu bv) v'.ownBlock ∧ PoolOk (bkq ns' bs') ∧ PX (bkq ns bs) (bkq ns' bs') ∧ RlY s i e1 bd (bkq ns bs) (bkq ns' bs') xs n bd' ∧ RSl eInt G' v xs := by
 refine s_enter (n := 32) Tryz.func21 Tryz.ntmps21 rfl rfl ?_
 have hX0 : Ext (inT r b bu bv) G w G w := Ext.refl hP
 have hok := hokp.ar.ok
 have hbx := hB.bx
 have hou := hB.ou
 have hov := hB.ov
 have habu := hB.abu
 have habv := hB.abv
 have hauv := hB.auv
 have hlor : Lo w (inT r b bu bv) (some r) := lo_tr
 have hlob : Lo w (inT r b bu bv) (some b) := lo_tb
 have hlou : Lo w (inT r b bu bv) bu.ownBlock := lo_tu
 have hlov : Lo w (inT r b bu bv) bv.ownBlock := lo_tv
 have hlen := hok.len
 have hlim := hok.lim
 refine s_seq (c_reg ?_)
 refine qd rfl rfl rfl (r_assign (v := (.slice none 0 0)) rfl) (qe (s_then (s_seq (c_reg ?_))))
 refine q1 rfl rfl rfl (o_build0 (E := eInt) (e := 3) Tryz.underlying32 sz3 hX0.pins (fun u1 w2 ho3 hp4 hl5 hk6 => ?_))
 have hX7 := hX0.step hp4 hl5
 have ho8 := hou.below hl5
 have ho9 := hov.below hl5
 have hb10 := hbx.below hl5
 have hb11 := hR.below hl5
 have ha12 : Apart u1.ownBlock bu.ownBlock := new_ne_own hk6 hou.lt
 have ha13 : Apart u1.ownBlock bv.ownBlock := new_ne_own hk6 hov.lt
 have ha14 : Apart u1.ownBlock (some b) := new_ne_box hk6 hbx.lt
 have ha15 : Apart u1.ownBlock (some r) := new_ne_box hk6 hR.lt
 have ho16 : Own eInt 3 G w2 w.heap.size u1 ([]) := ho3.weaken hX0.size
 refine qd rfl rfl rfl (r_assign (v := u1) rfl) (qe (s_then (s_seq (s_seq (c_reg ?_)))))
 refine qd rfl rfl rfl (r_move (v := (.pointer (some ⟨r, 0, none⟩))) rfl) (qd rfl rfl rfl (r_move (v := (.int .u8 (e1 : Int))) rfl) (q1 rfl rfl rfl (o_call (vs := [(.pointer (some ⟨r, 0, none⟩)), (.int .u8 (e1 : Int))]) Tryz.func20 nm20 rfl rfl rfl ?_)))
 refine Calls.mono (is_spec (i := i) (b := e1) (bd := bd) hX7.pins hb11 (by omega)) ?_
 rintro _ w19 ⟨t17, n18, rfl, hb20, ht21, hf22, hx23⟩
 refine ⟨_, rfl, ?_⟩
 have hX24 := hX7.trans hx23 (fun i hi => hlor i hi)
 have ho25 := ho8.extS hx23 (notO hru.symm)
 have ho26 := ho9.extS hx23 (notO hrv.symm)
 have ho27 := ho16.extS hx23 (notO ha15)
 have hb28 := hb10.extS hx23 (notOb hrb.symm)
 have hn29 : i ≤ n18 ∧ n18 ≤ i + 1 ∧ n18 ≤ s.size := by cases t17 with
 | true => have := ht21 rfl; omega
 | false => have := hf22 rfl; omega
 refine qe (s_then ?_)
 refine c_if rfl rfl (fun h30 => ?_) (fun h30 => ?_)
 refine s_seq (c_reg ?_)
 refine qd rfl rfl rfl (r_move (v := u1) rfl) (qd rfl rfl rfl (r_assign (v := u1) rfl) (qe (s_then ?_)))
 refine wp_ret (s_ret (c_ret1 (v := u1) rfl rfl rfl ?_))
 obtain ⟨G31, hle34, hX33, hr32, hf35⟩ := ho27.sealed hX24
 have ho36 := ho25.moreO hle34 hf35 ha12.symm
 have ho37 := ho26.moreO hle34 hf35 ha13.symm
 have hb38 := hb28.moreO hf35 ha14.symm
 have hb39 := hb20.moreO hf35 ha15.symm
 exact ⟨_, [], n18, bd, bu, bv, _, _, _, rfl, hb39, ⟨hb38, ho36, ho37, habu, habv, hauv⟩, hru, hrv, hX33, hlou, hlov, hokp, (PX.refl (bkq ns bs)), (by obtain ⟨a1, a2, a3, a4⟩ := ht21 h30; rw [a3]; exact RlY.one a1 a2), hr32⟩
 refine wp_skip (s_then (s_seq ?_))
 refine s_blk (s_loop (fun (k : Nat) (en : Nat → Value) (W : World) => ∃ (env1 : Nat → Value) (iz : Nat) (bz : Bool) (ov : Value) (ls : List Int) (u2 : Value) (v2 : Value) (ns2 : List Nd) (bs2 : List Int) (GL1 : Pin), en = (upd (upd (upd env1 0 (.pointer (some ⟨r, 0, none⟩))) 1 (.int .u8 (e1 : Int))) 5 ov) ∧ k = (s.size + 2 - iz) * 2 + bN bz ∧ Ext (inT r b bu bv) G w GL1 W ∧ Pin.le G GL1 ∧ (PoolOk (bkq ns2 bs2)) ∧ (PX (bkq ns bs) (bkq ns2 bs2)) ∧ (LpY s i e1 bd (bkq ns bs) (bkq ns2 bs2) ls iz bz) ∧ (ls.length ≤ s.size + 1) ∧ (Own eInt 3 GL1 W w.heap.size ov (ls)) ∧ (Own eNode 58 GL1 W 0 u2 (ns2)) ∧ (Own eInt 3 GL1 W 0 v2 (bs2)) ∧ (Bx GL1 W b [u2, v2]) ∧ (Bx GL1 W r [(.string s), (.int .i64 (iz : Int)), (.bool bz), (.pointer (some ⟨b, 0, none⟩))]) ∧ (Apart ov.ownBlock u2.ownBlock) ∧ (Apart ov.ownBlock v2.ownBlock) ∧ (Apart ov.ownBlock (some b)) ∧ (Apart ov.ownBlock (some r)) ∧ (Apart u2.ownBlock v2.ownBlock) ∧ (Apart u2.ownBlock (some b)) ∧ (Apart u2.ownBlock (some r)) ∧ (Apart v2.ownBlock (some b)) ∧ (Apart v2.ownBlock (some r)) ∧ (Lo w (inT r b bu bv) u2.ownBlock) ∧ (Lo w (inT r b bu bv) v2.ownBlock)) _ ⟨_, n18, bd, u1, [], bu, bv, ns, bs, G, (packS (x := 5) (packS (x := 1) (pack1 (x := 0) rfl) rfl) rfl), rfl, hX24, Pin.le_refl _, hokp, (PX.refl (bkq ns bs)), (by have h1 := hf22 h30; rw [h1.2]; exact LpY.start h1.1 (by omega)), (by simp), ho27, ho25, ho26, hb28, hb20, ha12, ha13, ha14, ha15, hauv, habu.symm, hru.symm, habv.symm, hrv.symm, hlou, hlov⟩ ?_)
 rintro k40 _ w41 ⟨env1, iz, bz, ov, ls, u2, v2, ns2, bs2, GL1, rfl, hk42, hX43, hlek40, hokb, hpx, hlp, hlsl, hw44, hw45, hw46, hw47, hw48, ha49, ha50, ha51, ha52, ha53, ha54, ha55, ha56, ha57, hlo58, hlo59⟩
 have hple := hlp.le
 have hpsz : ns2.length + i ≤ ns.length + iz := hlp.sz
 refine s_seq (s_seq (c_reg ?_))
 refine qd rfl rfl rfl (r_move (v := (.pointer (some ⟨r, 0, none⟩))) rfl) (qd rfl rfl rfl (r_nil rfl) (qd rfl rfl rfl (r_fldp (k := 2) rfl Tryz.underlying36 rfl nz4 rfl) (qd rfl rfl rfl (r_ldp1 (u := (.bool bz)) ag4 rfl (hw48.cell (o := 2) rfl)) (qd rfl rfl rfl (r_not rfl) (qe (s_then ?_))))))
 refine c_ifn rfl rfl (fun h60 => ?_) (fun h60 => ?_)
 refine wp_exit (s_thenE (s_lopE (s_blkE (s_then (s_seq (c_reg ?_))))))
 refine qd rfl rfl rfl (r_move (v := ov) rfl) (qd rfl rfl rfl (r_assign (v := ov) rfl) (qe (s_then ?_)))
 refine wp_ret (s_ret (c_ret1 (v := ov) rfl rfl rfl ?_))
 obtain ⟨G61, hle64, hX63, hr62, hf65⟩ := hw44.sealed hX43
 have ho66 := hw45.moreO hle64 hf65 ha49.symm
 have ho67 := hw46.moreO hle64 hf65 ha50.symm
 have hb68 := hw47.moreO hf65 ha51.symm
 have hb69 := hw48.moreO hf65 ha52.symm
 exact ⟨_, ls, iz, bz, u2, v2, _, _, _, rfl, hb69, ⟨hb68, ho66, ho67, ha54.symm, ha56.symm, ha53⟩, ha55.symm, ha57.symm, hX63, hlo58, hlo59, hokb, hpx, hlp.out h60, hr62⟩
 refine wp_skip (s_then (s_blk (s_seq (c_reg ?_))))
 refine qd rfl rfl rfl (r_move (v := ov) rfl) (qd rfl rfl rfl (r_move (v := (.pointer (some ⟨r, 0, none⟩))) rfl) (q1 rfl rfl rfl (o_call (vs := [(.pointer (some ⟨r, 0, none⟩))]) Tryz.func9 nm9 rfl rfl rfl ?_)))
 refine Calls.mono (ih hX43.pins hw48 ⟨hw47, hw45, hw46, ha54.symm, ha56.symm, ha53⟩ hrb ha55.symm ha57.symm hokb (by omega) (by omega) h60 (by omega)) ?_
 rintro _ w79 ⟨z70, n72, bd73, u74, v75, ns76, bs77, G78, rfl, hr80, hbk81, ha82, ha83, hx84, hlu85, hlv86, hok87, hpx88, hy89⟩
 refine ⟨_, rfl, ?_⟩
 have hin91 : ∀ i, inT r b u2 v2 i → w.heap.size ≤ i ∨ (inT r b bu bv) i := inT_lo hlor hlob hlo58 hlo59
 have hX92 := hX43.trans hx84 hin91
 have hn93 := notT (u := u2) (v := v2) ha52 ha51 ha49 ha50
 have ho94 := hw44.extS hx84 hn93
 have ha95 : Apart ov.ownBlock u74.ownBlock := ap_callT hlu85 hn93 (own_lt hw44)
 have ha96 : Apart ov.ownBlock v75.ownBlock := ap_callT hlv86 hn93 (own_lt hw44)
 have hb97 := hbk81.bx
 have ho98 := hbk81.ou
 have ho99 := hbk81.ov
 have ha100 := hbk81.abu
 have ha101 := hbk81.abv
 have ha102 := hbk81.auv
 have hlo103 := lo_callT hlu85 hin91 hX43.size
 have hlo104 := lo_callT hlv86 hin91 hX43.size
 have hpx105 := PX.trans hpx hpx88
 have hyl106 := hy89.le
 have hys107 : ns76.length + iz ≤ ns2.length + n72 := hy89.sz
 refine q1 rfl rfl rfl (o_buildF (E := eInt) (e := 3) [(.int .i64 z70)] [z70] Tryz.underlying32 sz3 zr3 (by exact reps1 (by rfl)) (ones1 (by rfl)) rfl rfl rfl rfl (by decide) hX92.pins (fun u108 w109 ho110 hp111 hl112 hk113 => ?_))
 have hX114 := hX92.step hp111 hl112
 have ho115 := ho94.below hl112
 have ho116 := ho98.below hl112
 have ho117 := ho99.below hl112
 have hb118 := hb97.below hl112
 have hb119 := hr80.below hl112
 have ho125 : Own eInt 3 G78 w109 w.heap.size u108 ([z70]) := ho110.weaken hX92.size
 refine q1 rfl rfl rfl (o_append (E := eInt) (v := ov) (u := u108) 8 Tryz.underlying32 ap3 (by decide) rfl rfl hX114.pins ho115 ho125.src (by first | omega | (rw [List.nil_append]; omega) | (rw [List.length_nil]; omega) | (rw [List.length_append]; omega) | (simp; done) | (simp; omega) | (simp only [List.length_append, List.length_cons, List.length_nil]; omega)) (by first | omega | (rw [List.nil_append]; omega) | (rw [List.length_nil]; omega) | (rw [List.length_append]; omega) | (simp; done) | (simp; omega) | (simp only [List.length_append, List.length_cons, List.length_nil]; omega)) (hX114.size) (fun u126 w127 ho128 hp129 hg130 hw131 => ?_))
 have hX132 := hX114.write hp129 hg130 ((lo_own ho115))
 have ho133 := ho116.keptA hg130 ha95.symm
 have ho134 := ho117.keptA hg130 ha96.symm
 have hb136 := hb118.keptA hg130 ha51.symm
 have hb137 := hb119.keptA hg130 ha52.symm
 have ha138 : Apart u74.ownBlock u126.ownBlock := app_ne_own ha95.symm hw131 ho116.lt
 have ha139 : Apart v75.ownBlock u126.ownBlock := app_ne_own ha96.symm hw131 ho117.lt
 have ha141 : Apart (some b) u126.ownBlock := app_ne_box ha51.symm hw131 hb118.lt
 have ha142 : Apart (some r) u126.ownBlock := app_ne_box ha52.symm hw131 hb119.lt
 have hm143 : (ls ++ ([z70])).length = ls.length + 1 := List.length_append
 refine qd rfl rfl rfl (r_assign (v := u126) rfl) (qe (s_then (s_seq (s_seq (c_reg ?_)))))
 refine qd rfl rfl rfl (r_move (v := (.pointer (some ⟨r, 0, none⟩))) rfl) (qd rfl rfl rfl (r_move (v := (.int .u8 (e1 : Int))) rfl) (q1 rfl rfl rfl (o_call (vs := [(.pointer (some ⟨r, 0, none⟩)), (.int .u8 (e1 : Int))]) Tryz.func20 nm20 rfl rfl rfl ?_)))
 refine Calls.mono (is_spec (i := n72) (b := e1) (bd := bd73) hX132.pins hb137 (by omega)) ?_
 rintro _ w146 ⟨t144, n145, rfl, hb147, ht148, hf149, hx150⟩
 refine ⟨_, rfl, ?_⟩
 have hX151 := hX132.trans hx150 (fun i hi => hlor i hi)
 have ho152 := ho133.extS hx150 (notO ha82.symm)
 have ho153 := ho134.extS hx150 (notO ha83.symm)
 have ho154 := ho128.extS hx150 (notO ha142.symm)
 have hb155 := hb136.extS hx150 (notOb hrb.symm)
 have hn156 : n72 ≤ n145 ∧ n145 ≤ n72 + 1 ∧ n145 ≤ s.size := by cases t144 with
 | true => have := ht148 rfl; omega
 | false => have := hf149 rfl; omega
 refine qe (s_then ?_)
 refine c_if rfl rfl (fun h157 => ?_) (fun h157 => ?_)
 refine s_seq (c_reg ?_)
 refine qd rfl rfl rfl (r_move (v := u126) rfl) (qd rfl rfl rfl (r_assign (v := u126) rfl) (qe (s_then ?_)))
 refine wp_ret (s_ret (c_ret1 (v := u126) rfl rfl rfl ?_))
 obtain ⟨G158, hle161, hX160, hr159, hf162⟩ := ho154.sealed hX151
 have ho163 := ho152.moreO hle161 hf162 ha138
 have ho164 := ho153.moreO hle161 hf162 ha139
 have hb165 := hb155.moreO hf162 ha141
 have hb166 := hb147.moreO hf162 ha142
 exact ⟨_, ls ++ ([z70]), n145, bd73, u74, v75, _, _, _, rfl, hb166, ⟨hb165, ho163, ho164, ha100, ha101, ha102⟩, ha82, ha83, hX160, hlo103, hlo104, hok87, hpx105, (by obtain ⟨a1, a2, a3, a4⟩ := ht148 h157; rw [a3]; exact hlp.last h60 hy89 hpx88 hokb hok87 a1 a2), hr159⟩
 refine wp_skip (s_then (s_seq (c_reg ?_)))
 refine qd rfl rfl rfl (r_move (v := (.pointer (some ⟨r, 0, none⟩))) rfl) (q1 rfl rfl rfl (o_call (vs := [(.pointer (some ⟨r, 0, none⟩)), (.int .u8 44)]) Tryz.func20 nm20 rfl rfl rfl ?_))
 refine Calls.mono (is_spec (i := n145) (b := 44) (bd := bd73) hX151.pins hb147 (by omega)) ?_
 rintro _ w169 ⟨t167, n168, rfl, hb170, ht171, hf172, hx173⟩
 refine ⟨_, rfl, ?_⟩
 have hX174 := hX151.trans hx173 (fun i hi => hlor i hi)
 have ho175 := ho152.extS hx173 (notO ha82.symm)
 have ho176 := ho153.extS hx173 (notO ha83.symm)
 have ho177 := ho154.extS hx173 (notO ha142.symm)
 have hb178 := hb155.extS hx173 (notOb hrb.symm)
 have hn179 : n145 ≤ n168 ∧ n168 ≤ n145 + 1 ∧ n168 ≤ s.size := by cases t167 with
 | true => have := ht171 rfl; omega
 | false => have := hf172 rfl; omega
 refine qd rfl rfl rfl (r_not rfl) (qe (s_then ?_))
 refine c_ifn rfl rfl (fun h180 => ?_) (fun h180 => ?_)
 refine wp_skip (s_blkN (s_lopN (⟨_, ?_, _, rfl, _, n168, bd73, u126, ls ++ ([z70]), u74, v75, ns76, bs77, G78, (packS (x := 5) (packS (x := 1) (pack1 (x := 0) rfl) rfl) rfl), rfl, hX174, (Pin.le_trans hlek40 hx84.le), hok87, hpx105, (by obtain ⟨a1, a2, a3, a4⟩ := ht171 h180; have b1 := hf149 h157; rw [b1.2] at a2 a3; rw [a3]; exact hlp.next h60 hy89 hpx88 hokb hok87 a1 b1.1 a2), (by have := hlp.ll.2 h60; simp; omega), ho177, ho175, ho176, hb178, hb170, ha138.symm, ha139.symm, ha141.symm, ha142.symm, ha102, ha100.symm, ha82.symm, ha101.symm, ha83.symm, hlo103, hlo104⟩)))
 (have q1 := bN_no h60; have q2 := bN_le bd73; have q3 : bN true = 0 := rfl; have q4 := ht171 h180; omega)
 refine c_reg (qd rfl rfl rfl (r_move (v := (.pointer (some ⟨r, 0, none⟩))) rfl) (qd rfl rfl rfl (r_nil rfl) (qd rfl rfl rfl (r_fldp (k := 2) rfl Tryz.underlying36 rfl nz4 rfl) (q0 rfl rfl rfl (o_stp (cs' := [(.string s), (.int .i64 (n168 : Int)), (.bool true), (.pointer (some ⟨b, 0, none⟩))]) (us := [(.bool true)]) (v := (.bool true)) sz4 rfl rfl rfl (ones1 (by rfl)) hX174.pins hb170 (Nat.le_of_ble_eq_true rfl) rfl (fun w181 hb182 hp183 hg184 hz185 => ?_))))))
 have hX186 := hX174.write hp183 hg184 (hlor)
 have ho187 := ho175.keptA hg184 ha82.symm
 have ho188 := ho176.keptA hg184 ha83.symm
 have ho189 := ho177.keptA hg184 ha142.symm
 have hb190 := hb178.keptA hg184 hrb.symm
 refine qe (s_blkN (s_lopN (⟨_, ?_, _, rfl, _, n168, true, u126, ls ++ ([z70]), u74, v75, ns76, bs77, G78, (packS (x := 5) (packS (x := 1) (pack1 (x := 0) rfl) rfl) rfl), rfl, hX186, (Pin.le_trans hlek40 hx84.le), hok87, hpx105, (by have a := hf149 h157; have b := hf172 h180; rw [b.2, a.2]; exact hlp.stop h60 hy89 a.1 (by rw [← a.2]; exact b.1)), (by have := hlp.ll.2 h60; simp; omega), ho189, ho187, ho188, hb190, hb182, ha138.symm, ha139.symm, ha141.symm, ha142.symm, ha102, ha100.symm, ha82.symm, ha101.symm, ha83.symm, hlo103, hlo104⟩)))
 (have q1 := bN_no h60; have q2 := bN_le true; have q3 : bN true = 0 := rfl; omega)

end RS2
end Go.Proofs.YtbfhkngkfadmnaaGreatDoor

set_option maxRecDepth 20000
set_option maxHeartbeats 2000000
namespace Go.Proofs.YtbfhkngkfadmnaaGreatDoor
namespace RS3
open Go.RowKit Go.GL Go.Proofs
open B1 C1 D1 E1 RS1 RS2








theorem rgame_step {w : World} {G : Pin} {r b : Nat} {bu bv : Value} {ns : List Nd} {bs : List Int} {s : ByteArray} {i : Nat} {bd : Bool} (hP : Pins G w) (hR : Bx G w r [(.string s), (.int .i64 (i : Int)), (.bool bd), (.pointer (some ⟨b, 0, none⟩))]) (hB : Bk 58 3 G w b bu bv ns bs) (hrb : Apart (some r) (some b)) (hru : Apart (some r) bu.ownBlock) (hrv : Apart (some r) bv.ownBlock) (hokp : PoolOk (bkq ns bs)) (hi : i ≤ s.size ∧ s.size ≤ 1048576) (hrm : ns.length + (s.size - i) + 1 ≤ 1048575) (hbd : bd = false) {m : Nat} (ihl : LsP m) (hm : s.size - i < m + 1) :
  Calls Tryz.prog 9 [(.pointer (some ⟨r, 0, none⟩))].toArray w fun e w' => ∃ (z : Int) (n : Nat) (bd' : Bool) (u' v' : Value) (ns' : List Nd) (bs' : List Int) (G' : Pin), e = .returned (.int .i64 z) ∧ Bx G' w' r [(.string s), (.int .i64 (n : Int)), (.bool bd'), (.pointer (some ⟨b, 0, none⟩))] ∧ Bk 58 3 G' w' b u' v' ns' bs' ∧ Apart (some r) u'.ownBlock ∧ Apart (some r) v'.ownBlock ∧ Ext (inT r b bu bv) G w G' w' ∧ Lo w (inT r b bu bv) u'.ownBlock ∧ Lo w (inT r b bu bv) v'.ownBlock ∧ PoolOk (bkq ns' bs') ∧ PX (bkq ns bs) (bkq ns' bs') ∧ RgY s i (bkq ns bs) (bkq ns' bs') z n bd' := by
 refine s_enter (n := 26) Tryz.func9 Tryz.ntmps9 rfl rfl ?_
 have hX0 : Ext (inT r b bu bv) G w G w := Ext.refl hP
 have hok := hokp.ar.ok
 have hbx := hB.bx
 have hou := hB.ou
 have hov := hB.ov
 have habu := hB.abu
 have habv := hB.abv
 have hauv := hB.auv
 have hlor : Lo w (inT r b bu bv) (some r) := lo_tr
 have hlob : Lo w (inT r b bu bv) (some b) := lo_tb
 have hlou : Lo w (inT r b bu bv) bu.ownBlock := lo_tu
 have hlov : Lo w (inT r b bu bv) bv.ownBlock := lo_tv
 have hlen := hok.len
 have hlim := hok.lim
 refine s_seq (c_reg ?_)
 refine qd rfl rfl rfl (r_assign (v := (.int .i64 0)) rfl) (qe (s_then (s_seq (s_seq (c_reg ?_)))))
 refine qd rfl rfl rfl (r_move (v := (.pointer (some ⟨r, 0, none⟩))) rfl) (q1 rfl rfl rfl (o_call (vs := [(.pointer (some ⟨r, 0, none⟩)), (.int .u8 123)]) Tryz.func20 nm20 rfl rfl rfl ?_))
 refine Calls.mono (is_spec (i := i) (b := 123) (bd := bd) hX0.pins hR (by omega)) ?_
 rintro _ w3 ⟨t1, n2, rfl, hb4, ht5, hf6, hx7⟩
 refine ⟨_, rfl, ?_⟩
 have hX8 := hX0.trans hx7 (fun i hi => hlor i hi)
 have ho9 := hou.extS hx7 (notO hru.symm)
 have ho10 := hov.extS hx7 (notO hrv.symm)
 have hb11 := hbx.extS hx7 (notOb hrb.symm)
 have hn12 : i ≤ n2 ∧ n2 ≤ i + 1 ∧ n2 ≤ s.size := by cases t1 with
 | true => have := ht5 rfl; omega
 | false => have := hf6 rfl; omega
 refine qd rfl rfl rfl (r_not rfl) (qe (s_then ?_))
 refine c_ifn rfl rfl (fun h13 => ?_) (fun h13 => ?_)
 refine wp_skip (s_then (s_seq (c_reg ?_)))
 obtain ⟨i1, i2, i3, i4⟩ := ht5 h13
 refine qd rfl rfl rfl (r_move (v := (.pointer (some ⟨r, 0, none⟩))) rfl) (q1 rfl rfl rfl (o_call (vs := [(.pointer (some ⟨r, 0, none⟩)), (.int .u8 124)]) Tryz.func21 nm21 rfl rfl rfl ?_))
 refine Calls.mono (ihl hX8.pins hb4 ⟨hb11, ho9, ho10, habu, habv, hauv⟩ hrb hru hrv hokp (by omega) (by omega) (e1 := 124) (by omega)) ?_
 rintro _ w23 ⟨z14, xs15, n16, bd17, u18, v19, ns20, bs21, G22, rfl, hr24, hbk25, ha26, ha27, hx28, hlu29, hlv30, hok31, hpx32, hy33, hrd34⟩
 refine ⟨_, rfl, ?_⟩
 have hin35 : ∀ i, inT r b bu bv i → w.heap.size ≤ i ∨ (inT r b bu bv) i := inT_lo hlor hlob hlou hlov
 have hX36 := hX8.trans hx28 hin35
 have hb37 := hbk25.bx
 have ho38 := hbk25.ou
 have ho39 := hbk25.ov
 have ha40 := hbk25.abu
 have ha41 := hbk25.abv
 have ha42 := hbk25.auv
 have hlo43 := lo_callT hlu29 hin35 hX8.size
 have hlo44 := lo_callT hlv30 hin35 hX8.size
 have hpx45 := PX.trans (PX.refl (bkq ns bs)) hpx32
 have hyl46 := hy33.le
 have hys47 : ns20.length + n2 ≤ ns.length + n16 := hy33.sz
 have hyn48 := hy33.len
 refine qd rfl rfl rfl (r_assign (v := z14) rfl) (qe (s_then (s_seq (c_reg ?_))))
 refine qd rfl rfl rfl (r_move (v := (.pointer (some ⟨r, 0, none⟩))) rfl) (q1 rfl rfl rfl (o_call (vs := [(.pointer (some ⟨r, 0, none⟩)), (.int .u8 125)]) Tryz.func21 nm21 rfl rfl rfl ?_))
 refine Calls.mono (ihl hX36.pins hr24 ⟨hb37, ho38, ho39, ha40, ha41, ha42⟩ hrb ha26 ha27 hok31 (by omega) (by omega) (e1 := 125) (by omega)) ?_
 rintro _ w58 ⟨z49, xs50, n51, bd52, u53, v54, ns55, bs56, G57, rfl, hr59, hbk60, ha61, ha62, hx63, hlu64, hlv65, hok66, hpx67, hy68, hrd69⟩
 refine ⟨_, rfl, ?_⟩
 have hin70 : ∀ i, inT r b u18 v19 i → w.heap.size ≤ i ∨ (inT r b bu bv) i := inT_lo hlor hlob hlo43 hlo44
 have hX71 := hX36.trans hx63 hin70
 have hb72 := hbk60.bx
 have ho73 := hbk60.ou
 have ho74 := hbk60.ov
 have ha75 := hbk60.abu
 have ha76 := hbk60.abv
 have ha77 := hbk60.auv
 have hlo78 := lo_callT hlu64 hin70 hX36.size
 have hlo79 := lo_callT hlv65 hin70 hX36.size
 have hpx80 := PX.trans hpx45 hpx67
 have hyl81 := hy68.le
 have hys82 : ns55.length + n16 ≤ ns20.length + n51 := hy68.sz
 have hyn83 := hy68.len
 refine qd rfl rfl rfl (r_assign (v := z49) rfl) (qe (s_then (s_seq (s_seq (c_reg ?_)))))
 refine qd rfl rfl rfl (r_move (v := (.pointer (some ⟨r, 0, none⟩))) rfl) (qd rfl rfl rfl (r_nil rfl) (qd rfl rfl rfl (r_fldp (k := 2) rfl Tryz.underlying36 rfl nz4 rfl) (qd rfl rfl rfl (r_ldp1 (u := (.bool bd52)) ag4 rfl (hr59.cell (o := 2) rfl)) (qe (s_then ?_)))))
 refine c_if rfl rfl (fun h84 => ?_) (fun h84 => ?_)
 refine s_seq (c_reg ?_)
 refine qd rfl rfl rfl (r_assign (v := (.int .i64 0)) rfl) (qe (s_then ?_))
 exact wp_ret (s_ret (c_ret1 (v := (.int .i64 0)) rfl rfl rfl (⟨_, n51, bd52, u53, v54, _, _, _, rfl, hr59, ⟨hb72, ho73, ho74, ha75, ha76, ha77⟩, ha61, ha62, hX71, hlo78, hlo79, hok66, hpx80, RgY.bad i2 (i3 ▸ hy33) hy68 hbd h84⟩)))
 refine wp_skip (s_then (s_seq (c_reg ?_)))
 refine qd rfl rfl rfl (r_move (v := (.pointer (some ⟨r, 0, none⟩))) rfl) (qd rfl rfl rfl (r_nil rfl) (qd rfl rfl rfl (r_fldp (k := 3) rfl Tryz.underlying36 rfl nz31 rfl) (qd rfl rfl rfl (r_ldp1 (u := (.pointer (some ⟨b, 0, none⟩))) ag31 rfl (hr59.cell (o := 3) rfl)) (qd rfl rfl rfl (r_move (v := z14) rfl) (qd rfl rfl rfl (r_move (v := z49) rfl) ?_)))))
 have hbz1 := (hy68.yes h84).1
 have hpl1 := fun z hz => hpx67.place (hy33.places hbz1 z hz)
 have hpl2 := hy68.places h84
 have hpt := bk_put (xs := xs15) (ys := xs50) hok66 (by omega) ⟨by omega, by omega⟩ hpl1 hpl2
 refine q1 rfl rfl rfl (o_call (vs := [(.pointer (some ⟨b, 0, none⟩)), z14, z49]) Tryz.func22 nm22 rfl rfl rfl ?_)
 refine Calls.mono (put_spec hX71.pins ⟨hb72, ho73, ho74, ha75, ha76, ha77⟩ hok66.ar.ok (hrd34.mono hx63.le) hrd69 ⟨by omega, by omega⟩ (places_of hpl1) (places_of hpl2)) ?_
 rintro _ w88 ⟨u85, v86, G87, rfl, hbk89, hx90, hlu91, hlv92⟩
 refine ⟨_, rfl, ?_⟩
 have hin95 : ∀ i, inS b u53 v54 i → w.heap.size ≤ i ∨ (inT r b bu bv) i := inS_lo hlob hlo78 hlo79
 have hX96 := hX71.trans hx90 hin95
 have hn97 := notS (u := u53) (v := v54) hrb ha61 ha62
 have ho98 := hr59.extS hx90 (notSb hn97)
 have ha99 : Apart (some r) u85.ownBlock := ap_call hlu91 hn97 (box_lt hr59)
 have ha100 : Apart (some r) v86.ownBlock := ap_call hlv92 hn97 (box_lt hr59)
 have hb101 := hbk89.bx
 have ho102 := hbk89.ou
 have ho103 := hbk89.ov
 have ha104 := hbk89.abu
 have ha105 := hbk89.abv
 have ha106 := hbk89.auv
 have hlo107 := lo_call hlu91 hin95 hX71.size
 have hlo108 := lo_call hlv92 hin95 hX71.size
 refine qd rfl rfl rfl (r_assign (v := (.int .i64 (putK ns55 bs56 xs15 xs50))) rfl) (qe (s_then ?_))
 exact wp_ret (s_ret (c_ret1 (v := (.int .i64 (putK ns55 bs56 xs15 xs50))) rfl rfl rfl (⟨_, n51, bd52, u85, v86, _, _, _, rfl, ho98, ⟨hb101, ho102, ho103, ha104, ha105, ha106⟩, ha99, ha100, hX96, hlo107, hlo108, hpt.ok, (PX.trans hpx80 hpt.px), RgY.done i2 (i3 ▸ hy33) hy68 h84 hpx67 hok31 hok66 hpt.pl hpt.pd hpt.len⟩)))
 refine s_seq (c_reg ?_)
 refine qd rfl rfl rfl (r_move (v := (.pointer (some ⟨r, 0, none⟩))) rfl) (qd rfl rfl rfl (r_nil rfl) (qd rfl rfl rfl (r_fldp (k := 2) rfl Tryz.underlying36 rfl nz4 rfl) (q0 rfl rfl rfl (o_stp (cs' := [(.string s), (.int .i64 (n2 : Int)), (.bool true), (.pointer (some ⟨b, 0, none⟩))]) (us := [(.bool true)]) (v := (.bool true)) sz4 rfl rfl rfl (ones1 (by rfl)) hX8.pins hb4 (Nat.le_of_ble_eq_true rfl) rfl (fun w109 hb110 hp111 hg112 hz113 => ?_)))))
 have hX114 := hX8.write hp111 hg112 (hlor)
 have ho115 := ho9.keptA hg112 hru.symm
 have ho116 := ho10.keptA hg112 hrv.symm
 have hb117 := hb11.keptA hg112 hrb.symm
 refine qe (s_then (s_seq (c_reg ?_)))
 refine qd rfl rfl rfl (r_assign (v := (.int .i64 0)) rfl) (qe (s_then ?_))
 exact wp_ret (s_ret (c_ret1 (v := (.int .i64 0)) rfl rfl rfl (⟨_, n2, true, bu, bv, _, _, _, rfl, hb110, ⟨hb117, ho115, ho116, habu, habv, hauv⟩, hru, hrv, hX114, hlou, hlov, hokp, (PX.refl (bkq ns bs)), (by have h1 := hf6 h13; rw [h1.2]; exact RgY.none_ (h1.1.resolve_left (by rw [hbd]; decide)) (by omega))⟩)))

theorem rd_all : ∀ m, GmP m ∧ LsP m
 | 0 => have h : GmP 0 := fun _ _ _ _ _ _ _ _ _ _ h => absurd h (Nat.not_lt_zero _)
  ⟨h, fun hP hR hB hrb hru hrv hok hi hrm _ hm => rlist_step hP hR hB hrb hru hrv hok hi hrm h hm⟩
 | m + 1 => have h : GmP (m + 1) := fun hP hR hB hrb hru hrv hok hi hrm hbd hm => rgame_step hP hR hB hrb hru hrv hok hi hrm hbd (rd_all m).2 hm
  ⟨h, fun hP hR hB hrb hru hrv hok hi hrm _ hm => rlist_step hP hR hB hrb hru hrv hok hi hrm h hm⟩
theorem rgame_spec {w : World} {G : Pin} {r b : Nat} {bu bv : Value} {ns : List Nd} {bs : List Int} {s : ByteArray} {i : Nat} {bd : Bool} (hP : Pins G w) (hR : Bx G w r [(.string s), (.int .i64 (i : Int)), (.bool bd), (.pointer (some ⟨b, 0, none⟩))]) (hB : Bk 58 3 G w b bu bv ns bs) (hrb : Apart (some r) (some b)) (hru : Apart (some r) bu.ownBlock) (hrv : Apart (some r) bv.ownBlock) (hokp : PoolOk (bkq ns bs)) (hi : i ≤ s.size ∧ s.size ≤ 1048576) (hrm : ns.length + (s.size - i) + 1 ≤ 1048575) (hbd : bd = false) :
  Calls Tryz.prog 9 [(.pointer (some ⟨r, 0, none⟩))].toArray w fun e w' => ∃ (z : Int) (n : Nat) (bd' : Bool) (u' v' : Value) (ns' : List Nd) (bs' : List Int) (G' : Pin), e = .returned (.int .i64 z) ∧ Bx G' w' r [(.string s), (.int .i64 (n : Int)), (.bool bd'), (.pointer (some ⟨b, 0, none⟩))] ∧ Bk 58 3 G' w' b u' v' ns' bs' ∧ Apart (some r) u'.ownBlock ∧ Apart (some r) v'.ownBlock ∧ Ext (inT r b bu bv) G w G' w' ∧ Lo w (inT r b bu bv) u'.ownBlock ∧ Lo w (inT r b bu bv) v'.ownBlock ∧ PoolOk (bkq ns' bs') ∧ PX (bkq ns bs) (bkq ns' bs') ∧ RgY s i (bkq ns bs) (bkq ns' bs') z n bd' :=
 (rd_all _).1 hP hR hB hrb hru hrv hokp hi hrm hbd (Nat.lt_succ_self _)

end RS3
end Go.Proofs.YtbfhkngkfadmnaaGreatDoor
