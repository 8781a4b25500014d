/- Texts of this claim in one file: PL1, PA1, SO1, OD1, OR1, SF1, MK1, DR1, DR2. -/
import Derived.Test.YtkfgdhanaijddaaGreatDoorPb5
import Derived.Test.YtkfgdhanaijddaaGreatDoorChecked
set_option maxRecDepth 20000
set_option maxHeartbeats 2000000
namespace Go.Proofs.YtkfgdhanaijddaaGreatDoor
namespace PL1
open Go.RowKit Go.GL Go.Proofs
open Go.Proofs.YtkfgdhanaijddaaGreatDoor.B1
open Go.Proofs.YtkfgdhanaijddaaGreatDoor.K1
open Go.Proofs.YtkfgdhanaijddaaGreatDoor.PO1






theorem mk3 : (Tryz.prog.info? 3).map (fun i => (i.size, i.bytes, i.zero)) = some (1, 8, some (.int .i64 0)) := by kernel_rfl





theorem pl117 : (Tryz.prog.underlying 117).bind (placesD Tryz.prog) = some [(0, 1), (1, 1), (2, 1), (3, 1), (4, 1), (5, 1), (6, 1), (7, 1)] := by kernel_rfl






theorem newPool_spec {w : World} {G : Pin} (hP : Pins G w) :
  Calls Tryz.prog 46 [].toArray w fun e w' => ∃ (p : Nat) (mm : PM) (G' : Pin), e = .returned (.pointer (some ⟨p, 0, none⟩)) ∧ Pk 57 3 G' w' p (.slice none 0 0) (.slice none 0 0) (.slice none 0 0) mm ⟨[], [], [], [], [], [], []⟩ ∧ (∀ k, inP p (.slice none 0 0) (.slice none 0 0) (.slice none 0 0) mm k → w.heap.size ≤ k) ∧ Ext noS G w G' w' := by
 refine s_enter (n := 8) Tryz.func46 Tryz.ntmps46 rfl rfl ?_
 have hX0 : Ext noS G w G w := Ext.refl hP
 refine s_seq (c_reg ?_)
 refine qd rfl rfl rfl (r_assign (v := (.pointer none)) rfl) (qe (s_then (s_seq (c_reg ?_))))
 refine q1 rfl rfl rfl (o_makeMap (fun k : ByteArray => Value.string k) (fun v : Int => Value.int .i64 v) hX0.pins (fun m1 w2 hk3 hm4 hp5 hl6 => ?_))
 have hX7 := hX0.step hp5 hl6
 have hlo8 : w.heap.size ≤ m1 := by have := hX0.size; omega
 refine q1 rfl rfl rfl (o_makeMap encP2 (fun v : Bool => Value.bool v) hX7.pins (fun m9 w10 hk11 hm12 hp13 hl14 => ?_))
 have hX15 := hX7.step hp13 hl14
 have hm16 := hm4.below hl14
 have ha17 : Apart (some m9) (some m1) := new_ne_box (congrArg some hk11) hm4.lt
 have hlo18 : w.heap.size ≤ m9 := by have := hX7.size; omega
 refine q1 rfl rfl rfl (o_makeMap (fun k : Int => Value.int .i64 k) (fun v : Int => Value.int .i64 v) hX15.pins (fun m19 w20 hk21 hm22 hp23 hl24 => ?_))
 have hX25 := hX15.step hp23 hl24
 have hm26 := hm16.below hl24
 have hm27 := hm12.below hl24
 have ha28 : Apart (some m19) (some m1) := new_ne_box (congrArg some hk21) hm16.lt
 have ha29 : Apart (some m19) (some m9) := new_ne_box (congrArg some hk21) hm12.lt
 have hlo30 : w.heap.size ≤ m19 := by have := hX15.size; omega
 refine q1 rfl rfl rfl (o_makeMap encP2 (fun v : Int => Value.int .i64 v) hX25.pins (fun m31 w32 hk33 hm34 hp35 hl36 => ?_))
 have hX37 := hX25.step hp35 hl36
 have hm38 := hm26.below hl36
 have hm39 := hm27.below hl36
 have hm40 := hm22.below hl36
 have ha41 : Apart (some m31) (some m1) := new_ne_box (congrArg some hk33) hm26.lt
 have ha42 : Apart (some m31) (some m9) := new_ne_box (congrArg some hk33) hm27.lt
 have ha43 : Apart (some m31) (some m19) := new_ne_box (congrArg some hk33) hm22.lt
 have hlo44 : w.heap.size ≤ m31 := by have := hX25.size; omega
 refine q1 rfl rfl rfl (o_makeMap (fun k : Int => Value.int .i64 k) (fun v : Int => Value.int .i64 v) hX37.pins (fun m45 w46 hk47 hm48 hp49 hl50 => ?_))
 have hX51 := hX37.step hp49 hl50
 have hm52 := hm38.below hl50
 have hm53 := hm39.below hl50
 have hm54 := hm40.below hl50
 have hm55 := hm34.below hl50
 have ha56 : Apart (some m45) (some m1) := new_ne_box (congrArg some hk47) hm38.lt
 have ha57 : Apart (some m45) (some m9) := new_ne_box (congrArg some hk47) hm39.lt
 have ha58 : Apart (some m45) (some m19) := new_ne_box (congrArg some hk47) hm40.lt
 have ha59 : Apart (some m45) (some m31) := new_ne_box (congrArg some hk47) hm34.lt
 have hlo60 : w.heap.size ≤ m45 := by have := hX37.size; omega
 refine qd rfl rfl rfl (r_build [(.slice none 0 0), (.slice none 0 0), (.slice none 0 0), (.map none), (.map none), (.map none), (.map none), (.map none)] [(.slice none 0 0), (.slice none 0 0), (.slice none 0 0), (.map (some m1)), (.map (some m9)), (.map (some m19)), (.map (some m31)), (.map (some m45))] [(3, (.map (some m1)), [(.map (some m1))]), (4, (.map (some m9)), [(.map (some m9))]), (5, (.map (some m19)), [(.map (some m19))]), (6, (.map (some m31)), [(.map (some m31))]), (7, (.map (some m45)), [(.map (some m45))])] Tryz.underlying117 zr117 rfl pl117 rfl (List.forall_mem_cons.2 ⟨rfl, (List.forall_mem_cons.2 ⟨rfl, (List.forall_mem_cons.2 ⟨rfl, (List.forall_mem_cons.2 ⟨rfl, (List.forall_mem_cons.2 ⟨rfl, (fun _ h => by cases h)⟩)⟩)⟩)⟩)⟩) rfl) (q1 rfl rfl rfl (o_box [(.slice none 0 0), (.slice none 0 0), (.slice none 0 0), (.map (some m1)), (.map (some m9)), (.map (some m19)), (.map (some m31)), (.map (some m45))] (v := (.agg [(.slice none 0 0), (.slice none 0 0), (.slice none 0 0), (.map (some m1)), (.map (some m9)), (.map (some m19)), (.map (some m31)), (.map (some m45))].toArray)) rfl rfl hX51.pins (fun b61 w62 hk63 hb64 hp65 hl66 => ?_)))
 have hX67 := hX51.step hp65 hl66
 have hm68 := hm52.below hl66
 have hm69 := hm53.below hl66
 have hm70 := hm54.below hl66
 have hm71 := hm55.below hl66
 have hm72 := hm48.below hl66
 have hlo73 : w.heap.size ≤ b61 := by have := hX51.size; omega
 refine qd rfl rfl rfl (r_assign (v := (.pointer (some ⟨b61, 0, none⟩))) rfl) (qe (s_then ?_))
 refine wp_ret (s_ret (c_ret1 (v := (.pointer (some ⟨b61, 0, none⟩))) rfl rfl rfl ?_))
 have hdf : PDiff ⟨m1, m9, m19, m31, m45⟩ := ⟨fun e => ha17.symm _ rfl (congrArg some e.symm), fun e => ha28.symm _ rfl (congrArg some e.symm), fun e => ha41.symm _ rfl (congrArg some e.symm), fun e => ha56.symm _ rfl (congrArg some e.symm), fun e => ha29.symm _ rfl (congrArg some e.symm), fun e => ha42.symm _ rfl (congrArg some e.symm), fun e => ha57.symm _ rfl (congrArg some e.symm), fun e => ha43.symm _ rfl (congrArg some e.symm), fun e => ha58.symm _ rfl (congrArg some e.symm), fun e => ha59.symm _ rfl (congrArg some e.symm)⟩
 have hfr : ∀ k, inP b61 (.slice none 0 0) (.slice none 0 0) (.slice none 0 0) ⟨m1, m9, m19, m31, m45⟩ k → w.heap.size ≤ k := by rintro k (rfl | hk | hk | hk | rfl | rfl | rfl | rfl | rfl) <;> first | (cases hk; done) | exact hlo73 | exact hlo8 | exact hlo18 | exact hlo30 | exact hlo44 | exact hlo60
 exact ⟨b61, ⟨m1, m9, m19, m31, m45⟩, _, rfl, ⟨hb64, (Own.nil _ _ _ _ _), (Own.nil _ _ _ _ _), (Own.nil _ _ _ _ _), hm68, hm69, hm70, hm71, hm72, apart_none.symm, apart_none.symm, apart_none.symm, apart_none, apart_none, apart_none, hdf⟩, hfr, hX67⟩

theorem renamed_spec {w : World} {G : Pin} {u v : Value} {xs ys : List Int} (hP : Pins G w) (hu : RSl eInt G u xs) (hv : RSl eInt G v ys) (hs : xs.length ≤ 1048576) (hb : ∀ i, i < xs.length → 0 ≤ xs.getD i 0 ∧ xs.getD i 0 < ys.length) :
  Calls Tryz.prog 127 [u, v].toArray w fun e w' => ∃ (u : Value) (G' : Pin), e = .returned u ∧ Own eInt 3 G' w' w.heap.size u (atL ys xs) ∧ Ext noS G w G' w' := by
 refine s_enter (n := 27) Tryz.func127 Tryz.ntmps127 rfl rfl ?_
 have hX0 : Ext noS G w G w := Ext.refl hP
 have hm := hu.max
 have hal : (atL ys xs).length = xs.length := at_length
 have hrl : (List.replicate xs.length (0 : Int)).length = xs.length := List.length_replicate
 refine s_seq (c_reg ?_)
 refine qd rfl rfl rfl (r_assign (v := (.slice none 0 0)) rfl) (qe (s_then (s_seq (c_reg ?_))))
 refine qd rfl rfl rfl (r_move (v := u) rfl) (qd rfl rfl rfl (run_len Tryz.underlying57 (v := u) rfl hu) (q1 rfl rfl rfl (o_make (E := eInt) 0 8 (.int .i64 0) Tryz.underlying57 mk3 (fun _ => rfl) rfl rfl hX0.pins (by omega) (by omega) (by omega) (fun u1 w2 ho3 hp4 hl5 hk6 => ?_))))
 have hX7 := hX0.step hp4 hl5
 have ho8 : Own eInt 3 G w2 w.heap.size u1 (List.replicate xs.length 0) := ho3.weaken hX0.size
 have hm9 : (List.replicate xs.length 0).length = xs.length := List.length_replicate ..
 refine qd rfl rfl rfl (r_assign (v := u1) rfl) (qe (s_then (s_seq (s_seq (c_reg ?_)))))
 refine qd rfl rfl rfl (r_move (v := u) rfl) (qd rfl rfl rfl (run_len Tryz.underlying57 (v := u) rfl hu) (qd rfl rfl rfl (r_move (v := (.int .i64 0)) rfl) (qe (s_then ?_))))
 refine s_blk (s_loop (fun (k : Nat) (en : Nat → Value) (W : World) => ∃ (env1 : Nat → Value) (j : Nat) (os : List Int), en = (upd (upd (upd (upd (upd (upd env1 1 v) 4 (.slice none 0 0)) 5 u1) 11 u) 12 (.int .i64 (xs.length : Int))) 13 (.int .i64 (j : Int))) ∧ k = xs.length - j ∧ Ext noS G w G W ∧ (j ≤ xs.length) ∧ (os = (atL ys xs).take j ++ (List.replicate xs.length 0).drop j) ∧ (os.length = xs.length) ∧ (Own eInt 3 G W w.heap.size u1 (os))) _ ⟨_, 0, List.replicate xs.length 0, (packS (x := 13) (packS (x := 12) (packS (x := 11) (packS (x := 5) (packS (x := 4) (pack1 (x := 1) rfl) rfl) rfl) rfl) rfl) rfl), rfl, hX7, Nat.zero_le _, rfl, hrl, ho8⟩ ?_)
 rintro k10 _ w11 ⟨env1, j, os, rfl, hk12, hX13, hj, hr, hol, hw14⟩
 refine s_seq (c_reg ?_)
 refine qd rfl rfl rfl (r_lss rfl rfl) (qe (s_then (s_seq ?_)))
 refine c_ifd (p := ((j : Int) : Int) < (xs.length : Int)) rfl rfl (fun h15 => ?_) (fun h15 => ?_)
 have hbj := hb j (by omega)
 refine wp_skip (s_then (s_seq ?_))
 refine s_blk (s_seq (c_reg ?_))
 refine qd rfl rfl rfl (r_move (v := (.int .i64 (j : Int))) rfl) (qd rfl rfl rfl (run_idx Tryz.underlying57 sz3 (v := u) rfl rfl hu (by omega) (by omega)) (qd rfl rfl rfl (run_load_int (r := xs.getD j 0) rfl ag3 (z := (j : Int)) rfl hu hX13.pins (by omega) (by omega)) (qd rfl rfl rfl (r_assign (v := (.int .i64 (j : Int))) rfl) (qd rfl rfl rfl (r_assign (v := (.int .i64 (xs.getD j 0))) rfl) (qe (s_then (c_reg ?_)))))))
 refine qd rfl rfl rfl (r_move (v := u1) rfl) (qd rfl rfl rfl (r_move (v := (.int .i64 (j : Int))) rfl) (qd rfl rfl rfl (r_move (v := v) rfl) (qd rfl rfl rfl (r_move (v := (.int .i64 (xs.getD j 0))) rfl) (qd rfl rfl rfl (run_idx Tryz.underlying57 sz3 (v := v) rfl rfl hv (by omega) (by omega)) (qd rfl rfl rfl (run_load_int (r := ys.getD (xs.getD j 0).toNat 0) rfl ag3 (z := (xs.getD j 0)) rfl hv hX13.pins (by omega) (by omega)) (qd rfl rfl rfl (run_idx Tryz.underlying57 sz3 (v := u1) rfl rfl hw14.read (by omega) (by omega)) (q0 rfl rfl rfl (o_set (E := eInt) (v := u1) (u := (.int .i64 (ys.getD (xs.getD j 0).toNat 0))) (z := (j : Int)) (ys.getD (xs.getD j 0).toNat 0) sz3 rfl rfl rfl rfl hX13.pins hw14 (by omega) (by omega) (fun w16 ho17 hp18 hg19 hz20 => ?_)))))))))
 have hX21 := hX13.write hp18 hg19 ((lo_own hw14))
 refine qe (s_blkN (s_then (c_reg ?_)))
 refine qd rfl rfl rfl (r_add rfl rfl (by omega)) (qd rfl rfl rfl (r_move (v := (.int .i64 ((j : Int) + 1))) rfl) (qe (s_lopN (⟨_, ?_, _, rfl, _, j + 1, os.set j (ys.getD (xs.getD j 0).toNat 0), (packS (x := 13) (packS (x := 12) (packS (x := 11) (packS (x := 5) (packS (x := 4) (pack1 (x := 1) rfl) rfl) rfl) rfl) rfl) rfl), rfl, hX21, (by omega), (by rw [hr]; exact cur_set 0 (by omega) (by omega) (at_getD (by omega))), ((List.length_set ..).trans hol), ho17⟩))))
 omega
 refine wp_exit (s_thenE (s_lopE (s_blkE (s_then (s_seq (c_reg ?_))))))
 refine qd rfl rfl rfl (r_move (v := u1) rfl) (qd rfl rfl rfl (r_assign (v := u1) rfl) (qe (s_then ?_)))
 refine wp_ret (s_ret (c_ret1 (v := u1) rfl rfl rfl ?_))
 rw [cur_end (by omega) (by omega)] at hr
 exact ⟨_, _, rfl, (by rw [← hr]; exact hw14), hX13⟩

theorem load_spec {w : World} {G : Pin} {p : Nat} {L R B : Value} {mm : PM} {q : PSt} (hP : Pins G w) (hpk : Pk 57 3 G w p L R B mm q) (hok : PoolOk q) {x : Value} {fs : List Nd} (hx : RSl eNode G x fs) (hf : FormOk fs) (hl : q.ns.length + fs.length ≤ 1048576) :
  Calls Tryz.prog 93 [(.pointer (some ⟨p, 0, none⟩)), (.agg [x].toArray)].toArray w fun e w' => ∃ (u : Value) (ats : List Int) (L' R' B' : Value) (q' : PSt) (G' : Pin), e = .returned u ∧ Pk 57 3 G' w' p L' R' B' mm q' ∧ PoolOk q' ∧ PX q q' ∧ PLo w p L R B mm L' R' B' ∧ Ext (inP p L R B mm) G w G' w' ∧ Own eInt 3 G' w' w.heap.size u ats ∧ NP p L' R' B' mm u.ownBlock ∧ LdOk fs q q' fs.length ats := by
 refine s_enter (n := 34) Tryz.func93 Tryz.ntmps93 rfl rfl ?_
 have hX0 : Ext (inP p L R B mm) G w G w := Ext.refl hP
 have hpin : PIn w (inP p L R B mm) p L R B mm := PIn.self
 have hml1 : (q.ns.map Nd.l).length = q.ns.length ∧ (q.ns.map Nd.r).length = q.ns.length := ⟨List.length_map .., List.length_map ..⟩
 have hml2 : q.bs.length = q.ns.length ∧ q.ns.length ≤ 1048576 := ⟨hok.ar.ok.len, hok.ar.ok.lim⟩
 refine s_seq (c_reg ?_)
 refine q1 rfl rfl rfl (o_box [x] (v := (.agg [x].toArray)) rfl rfl hX0.pins (fun b3 w4 hk5 hb6 hp7 hl8 => ?_))
 have hX9 := hX0.step hp7 hl8
 have hpk10 := hpk.below hl8 hp7
 have ha15 := hpk.new (x := (some b3)) (fun k hk => by rw [(congrArg some hk5)] at hk; cases hk; exact Nat.le_refl _)
 have hlo16 : w.heap.size ≤ b3 := by have := hX0.size; omega
 obtain ⟨G17, hle18, hX19, hbp20, hf21⟩ := hb6.shut hX9 hlo16
 have hpk22 := hpk10.more hle18 hf21 ha15
 refine qd rfl rfl rfl (r_assign (v := (.slice none 0 0)) rfl) (qe (s_then (s_seq (c_reg ?_))))
 refine qd rfl rfl rfl (r_fldp (k := 0) rfl Tryz.underlying28 rfl nz26 rfl) (qd rfl rfl rfl (r_ldp1 (u := x) ag26 rfl (hX19.pins _ _ _ (hbp20 0 _ rfl))) (qd rfl rfl rfl (run_len Tryz.underlying26 (v := x) rfl hx) (q1 rfl rfl rfl (o_make0 (E := eInt) Tryz.underlying57 mk3 rfl rfl hX19.pins (by omega) (by omega) (by omega) (fun u23 w24 ho25 hp26 hl27 hk28 => ?_)))))
 have hX29 := hX19.step hp26 hl27
 have hpk30 := hpk22.below hl27 hp26
 have ha35 := hpk22.new (x := u23.ownBlock) (fun k hk => by rw [hk28] at hk; cases hk; exact Nat.le_refl _)
 have ho36 : Own eInt 3 G17 w24 w.heap.size u23 ([]) := ho25.weaken hX19.size
 refine qd rfl rfl rfl (r_assign (v := u23) rfl) (qe (s_then (s_seq (s_seq (c_reg ?_)))))
 refine qd rfl rfl rfl (r_fldp (k := 0) rfl Tryz.underlying28 rfl nz26 rfl) (qd rfl rfl rfl (r_ldp1 (u := x) ag26 rfl (hX29.pins _ _ _ (hbp20 0 _ rfl))) (qd rfl rfl rfl (run_len Tryz.underlying26 (v := x) rfl hx) (qd rfl rfl rfl (r_move (v := (.int .i64 0)) rfl) (qe (s_then ?_)))))
 refine s_blk (s_loop (fun (k : Nat) (en : Nat → Value) (W : World) => ∃ (env1 : Nat → Value) (k4 : Nat) (at_ : Value) (ats : List Int) (L37 : Value) (R38 : Value) (B39 : Value) (q40 : PSt) (GL1 : Pin), en = (upd (upd (upd (upd (upd (upd env1 0 (.pointer (some ⟨p, 0, none⟩))) 4 (.slice none 0 0)) 5 at_) 13 x) 14 (.int .i64 (fs.length : Int))) 15 (.int .i64 (k4 : Int))) ∧ k = fs.length - k4 ∧ Ext (inP p L R B mm) G w GL1 W ∧ Pin.le G17 GL1 ∧ (k4 ≤ fs.length) ∧ (LdOk fs q q40 k4 ats) ∧ (Own eInt 3 GL1 W w.heap.size at_ (ats)) ∧ (Pk 57 3 GL1 W p L37 R38 B39 mm q40) ∧ (PIn w ((inP p L R B mm)) p L37 R38 B39 mm) ∧ (PoolOk q40) ∧ (PX q q40) ∧ (NP p L37 R38 B39 mm at_.ownBlock)) _ ⟨_, 0, u23, [], L, R, B, q, G17, (packS (x := 15) (packS (x := 14) (packS (x := 13) (packS (x := 5) (packS (x := 4) (pack1 (x := 0) rfl) rfl) rfl) rfl) rfl) rfl), rfl, hX29, Pin.le_refl _, Nat.zero_le _, LdOk.start, ho36, hpk30, hpin, hok, (PX.refl _), ha35⟩ ?_)
 rintro k41 _ w42 ⟨env1, k4, at_, ats, L37, R38, B39, q40, GL1, rfl, hk43, hX44, hlek41, hk, hld, hw45, hpk46, hpin47, hok48, hpx49, hnp50⟩
 have hql51 := hpx49.len
 have hml52 : (q40.ns.map Nd.l).length = q40.ns.length ∧ (q40.ns.map Nd.r).length = q40.ns.length := ⟨List.length_map .., List.length_map ..⟩
 have hml53 : q40.bs.length = q40.ns.length ∧ q40.ns.length ≤ 1048576 := ⟨hok48.ar.ok.len, hok48.ar.ok.lim⟩
 have hal := hld.len
 have hah := hld.hi
 have hfl := hf.len
 refine s_seq (c_reg ?_)
 refine qd rfl rfl rfl (r_lss rfl rfl) (qe (s_then (s_seq ?_)))
 refine c_ifd (p := ((k4 : Int) : Int) < (fs.length : Int)) rfl rfl (fun h54 => ?_) (fun h54 => ?_)
 have oo := optsAt hf.opts (show k4 < fs.length by omega)
 have hfe := hf.lens k4 (by omega)
 refine wp_skip (s_then (s_seq ?_))
 refine s_blk (s_seq (c_reg ?_))
 refine qd rfl rfl rfl (run_idx Tryz.underlying26 sz68 (v := x) rfl rfl hx (by omega) (by omega)) ?_
 obtain ⟨u55, u56, hr57, hr58, hl59⟩ := nm_node (hx.at (z := (k4 : Int)) (by omega) (by omega)) (j := k4) rfl
 have hm60 := hr57.max
 have hm61 := hr58.max
 refine qd rfl rfl rfl (hl59 ag68 sz68 rfl (Pins.of_le hX44.pins (Pin.le_trans hle18 hlek41))) (q1 rfl rfl rfl (o_alloc [(.slice none 0 0), (.slice none 0 0)] zr68 rfl hX44.pins (fun b62 w63 hk64 hb65 hp66 hl67 => ?_)))
 have hX68 := hX44.step hp66 hl67
 have ho69 := hw45.below hl67
 have hpk70 := hpk46.below hl67 hp66
 have ha71 : Apart (some b62) at_.ownBlock := new_ne_own (congrArg some hk64) hw45.lt
 have ha76 := hpk46.new (x := (some b62)) (fun k hk => by rw [(congrArg some hk64)] at hk; cases hk; exact Nat.le_refl _)
 have hlo77 : w.heap.size ≤ b62 := by have := hX44.size; omega
 refine q0 rfl rfl rfl (o_stp (cs' := [u55, u56]) (us := [u55, u56]) (v := (.agg [u55, u56].toArray)) sz68 rfl rfl rfl (ones2 hr57.one hr58.one) hX68.pins hb65 (Nat.le_of_ble_eq_true rfl) rfl (fun w78 hb79 hp80 hg81 hz82 => ?_))
 have hX83 := hX68.write hp80 hg81 ((lo_box hlo77))
 have ho84 := ho69.keptA hg81 ha71.symm
 have hpk85 := hpk70.kept hg81 hp80 ha76
 obtain ⟨G86, hle87, hX88, hbp89, hf90⟩ := hb79.shut hX83 hlo77
 have ho91 := ho84.moreA hle87 hf90 ha71.symm
 have hpk92 := hpk85.more hle87 hf90 ha76
 refine qe (s_then ?_)
 refine c_draw (S := fun wz => Pins G86 wz) (last := 14) (by kernel_rfl) rfl ?_
 have hl93 : Below w78.heap.size w78 w78.drew := (Below.refl _ _).drew
 have hp94 := hX88.pins.below hl93
 have hX95 := hX88.step hp94 hl93
 have ho96 := ho91.below hl93
 have hpk97 := hpk92.below hl93 hp94
 refine dr_take (i := 0) rfl rfl rfl (want_none rfl _) (by kernel_rfl) (fun _ _ => r_move (v := at_) rfl) hX95.pins (dr_take (i := 1) rfl rfl rfl (want_none rfl _) (by kernel_rfl) (fun _ _ => r_move (v := (.pointer (some ⟨p, 0, none⟩))) rfl) hX95.pins (dr_take (i := 2) rfl rfl rfl (want_none rfl _) (by kernel_rfl) (fun _ _ => r_fldp (k := 0) rfl Tryz.underlying68 rfl nz57 rfl) hX95.pins (dr_take (i := 3) rfl rfl rfl (want_none rfl _) (by kernel_rfl) (fun _ hS => r_ldp1 (u := u55) ag57 rfl (hS _ _ _ (hbp89 0 _ rfl))) hX95.pins (dr_take (i := 4) rfl rfl rfl (want_none rfl _) (by kernel_rfl) (fun _ _ => r_move (v := at_) rfl) hX95.pins (dr_take (i := 6) rfl rfl rfl (want_none rfl _) (by kernel_rfl) (fun _ _ => r_fldp (k := 1) rfl Tryz.underlying68 rfl nz57 rfl) hX95.pins (dr_take (i := 7) rfl rfl rfl (want_none rfl _) (by kernel_rfl) (fun _ hS => r_ldp1 (u := u56) ag57 rfl (hS _ _ _ (hbp89 1 _ rfl))) hX95.pins (dr_take (i := 8) rfl rfl rfl (want_none rfl _) (by kernel_rfl) (fun _ _ => r_move (v := at_) rfl) hX95.pins (dr_one (i := 5) (by kernel_rfl) (drOp1 (i := 5) rfl rfl rfl (want_none rfl _) (o_call (vs := [u55, at_]) Tryz.func127 nm127 rfl rfl rfl ?_))))))))))
 refine Calls.mono (renamed_spec (Gadd.pins hX95.pins at_) ((hr57.mono (Pin.le_trans (Pin.le_trans hle18 hlek41) hle87)).mono (Gadd.le _ _ _)) ho96.read (by omega) (fun i hi => by have h7 := oo.1 _ (getD_mem (d := (0 : Int)) hi); omega)) ?_
 rintro _ w100 ⟨u98, G99, rfl, ho101, hx102⟩
 refine ⟨_, rfl, ?_⟩
 have hx103 := deep_back hX95.pins hx102
 have ho104 := ho101.anti flat_int (Pin.le_trans (Gadd.le G86 w78.drew at_) hx102.le)
 have hX105 := hX95.step hx103.pins hx103.below
 have ho106 := ho96.below hx103.below
 have hpk107 := hpk97.below hx103.below hx103.pins
 have ha108 : Apart u98.ownBlock at_.ownBlock := made_ne_own ho104.lt ho96.lt
 have ha109 := hpk97.new (x := u98.ownBlock) (fun k hk => (ho104.lt k hk).1)
 have ho110 : Own eInt 3 G86 w100 w.heap.size u98 (atL ats ((fs.getD k4 default).l)) := ho104.weaken hX95.size
 have hm111 : (atL ats ((fs.getD k4 default).l)).length = ((fs.getD k4 default).l).length := at_length
 refine ⟨fun _ => hX105.pins, ?_⟩
 refine dr_one (i := 9) (by kernel_rfl) (drOp1 (i := 9) rfl rfl rfl (want_none rfl _) (o_call (vs := [u56, at_]) Tryz.func127 nm127 rfl rfl rfl ?_))
 refine Calls.mono (renamed_spec (Gadd.pins hX105.pins at_) ((hr58.mono (Pin.le_trans (Pin.le_trans hle18 hlek41) hle87)).mono (Gadd.le _ _ _)) ho106.read (by omega) (fun i hi => by have h7 := oo.2 _ (getD_mem (d := (0 : Int)) hi); omega)) ?_
 rintro _ w114 ⟨u112, G113, rfl, ho115, hx116⟩
 refine ⟨_, rfl, ?_⟩
 have hx117 := deep_back hX105.pins hx116
 have ho118 := ho115.anti flat_int (Pin.le_trans (Gadd.le G86 w100 at_) hx116.le)
 have hX119 := hX105.step hx117.pins hx117.below
 have ho120 := ho106.below hx117.below
 have ho121 := ho110.below hx117.below
 have hpk122 := hpk107.below hx117.below hx117.pins
 have ha123 : Apart u112.ownBlock at_.ownBlock := made_ne_own ho118.lt ho106.lt
 have ha124 : Apart u112.ownBlock u98.ownBlock := made_ne_own ho118.lt ho110.lt
 have ha125 := hpk107.new (x := u112.ownBlock) (fun k hk => (ho118.lt k hk).1)
 have ho126 : Own eInt 3 G86 w114 w.heap.size u112 (atL ats ((fs.getD k4 default).r)) := ho118.weaken hX105.size
 have hm127 : (atL ats ((fs.getD k4 default).r)).length = ((fs.getD k4 default).r).length := at_length
 refine ⟨fun _ => hX119.pins, ?_⟩
 obtain ⟨G128, hle131, hX130, hr129, hf132⟩ := ho121.sealed hX119
 have ho133 := ho120.moreO hle131 hf132 ha108.symm
 have ho134 := ho126.moreO hle131 hf132 ha124
 have hpk135 := hpk122.moreO hle131 hf132 ha109
 obtain ⟨G136, hle139, hX138, hr137, hf140⟩ := ho134.sealed hX130
 have ho141 := ho133.moreO hle139 hf140 ha123.symm
 have hpk142 := hpk135.moreO hle139 hf140 ha125
 refine dr_one (i := 10) (by kernel_rfl) (drOp1 (i := 10) rfl rfl rfl (want_none rfl _) (o_call (vs := [(.pointer (some ⟨p, 0, none⟩)), u98, u112]) Tryz.func102 nm102 rfl rfl rfl ?_))
 refine Calls.mono (node_spec hX138.pins hpk142 hok48 (hr129.mono hle139) hr137 (by omega) ⟨by rw [at_length]; omega, by rw [at_length]; omega⟩ (hld.opt oo.1) (hld.opt oo.2)) ?_
 rintro _ w153 ⟨z143, L148, R149, B150, q151, G152, rfl, hpk154, hok155, hpx156, hlo157, hx158, hpl144, hpd145, hqn146, hcm147⟩
 refine ⟨_, rfl, ?_⟩
 have hX159 := hX138.trans hx158 hpin47
 have ho160 := ho141.extS hx158 hnp50
 have hnp161 := NP.call hnp50 hlo157 (own_lt ho141)
 have hpin162 := PIn.call hpin47 hlo157 hX138.size
 have hql163 := hpx156.len
 have hml164 : (q151.ns.map Nd.l).length = q151.ns.length ∧ (q151.ns.map Nd.r).length = q151.ns.length := ⟨List.length_map .., List.length_map ..⟩
 have hml165 : q151.bs.length = q151.ns.length ∧ q151.ns.length ≤ 1048576 := ⟨hok155.ar.ok.len, hok155.ar.ok.lim⟩
 refine ⟨fun _ => (Pins.of_le hX159.pins (Pin.le_trans (Pin.le_trans hle131 hle139) hx158.le)), ?_⟩
 refine dr_one (i := 11) (by kernel_rfl) (drOp1 (i := 11) rfl rfl rfl (want_none rfl _) (o_buildF (E := eInt) (e := 3) [(.int .i64 z143)] [z143] Tryz.underlying57 sz3 zr3 (by exact reps1 (by rfl)) (ones1 (by rfl)) rfl rfl rfl rfl (by decide) hX159.pins (fun u166 w167 ho168 hp169 hl170 hk171 => ?_)))
 have hX172 := hX159.step hp169 hl170
 have ho173 := ho160.below hl170
 have hpk174 := hpk154.below hl170 hp169
 have ho181 : Own eInt 3 G152 w167 w.heap.size u166 ([z143]) := ho168.weaken hX159.size
 refine ⟨fun _ => (Pins.of_le hX172.pins (Pin.le_trans (Pin.le_trans hle131 hle139) hx158.le)), ?_⟩
 refine dr_one (i := 12) (by kernel_rfl) (drOp1 (i := 12) rfl rfl rfl (want_none rfl _) (o_append (E := eInt) (v := at_) (u := u166) 8 Tryz.underlying57 ap3 (by decide) rfl rfl hX172.pins ho173 ho181.src (by first | omega | (rw [List.nil_append]; omega) | (rw [List.length_nil]; omega) | (rw [List.length_append]; omega) | (simp; done) | (simp; omega) | (simp only [List.length_append, List.length_cons, List.length_nil]; omega)) (by first | omega | (rw [List.nil_append]; omega) | (rw [List.length_nil]; omega) | (rw [List.length_append]; omega) | (simp; done) | (simp; omega) | (simp only [List.length_append, List.length_cons, List.length_nil]; omega)) (hX172.size) (fun u182 w183 ho184 hp185 hg186 hw187 => ?_)))
 have hX188 := hX172.write hp185 hg186 ((lo_own ho173))
 have hpk190 := hpk174.kept hg186 hp185 hnp161
 have hnp192 := np_app hnp161 hpk174 hw187
 have hm193 : (ats ++ ([z143])).length = ats.length + 1 := List.length_append
 refine ⟨fun _ => (Pins.of_le hX188.pins (Pin.le_trans (Pin.le_trans hle131 hle139) hx158.le)), ?_⟩
 refine dr_take (i := 13) rfl rfl rfl (want_none rfl _) (by kernel_rfl) (fun _ _ => r_assign (v := u182) rfl) (Pins.of_le hX188.pins (Pin.le_trans (Pin.le_trans hle131 hle139) hx158.le)) (dr_end (by kernel_rfl) (s_blkN (s_then (c_reg ?_))))
 refine qd rfl rfl rfl (r_add rfl rfl (by omega)) (qd rfl rfl rfl (r_move (v := (.int .i64 ((k4 : Int) + 1))) rfl) (qe (s_lopN (⟨_, ?_, _, rfl, _, k4 + 1, u182, ats ++ ([z143]), L148, R149, B150, q151, G152, (packS (x := 15) (packS (x := 14) (packS (x := 13) (packS (x := 5) (packS (x := 4) (pack1 (x := 0) rfl) rfl) rfl) rfl) rfl) rfl), rfl, hX188, (Pin.le_trans (Pin.le_trans (Pin.le_trans (Pin.le_trans hlek41 hle87) hle131) hle139) hx158.le), (by omega), (hld.step hf (by omega) hok48 hok155 hpx156 hpl144 hpd145 hqn146), ho184, hpk190, hpin162, hok155, (PX.trans hpx49 hpx156), hnp192⟩))))
 omega
 refine wp_exit (s_thenE (s_lopE (s_blkE (s_then (s_seq (c_reg ?_))))))
 refine qd rfl rfl rfl (r_move (v := at_) rfl) (qd rfl rfl rfl (r_assign (v := at_) rfl) (qe (s_then ?_)))
 refine wp_ret (s_ret (c_ret1 (v := at_) rfl rfl rfl ?_))
 have hkf : k4 = fs.length := by omega
 rw [hkf] at hld
 exact ⟨at_, ats, L37, R38, B39, q40, GL1, rfl, hpk46, hok48, hpx49, PIn.lo hpin47 rfl, hX44, hw45, hnp50, hld⟩

theorem root_spec {w : World} {G : Pin} {p : Nat} {L R B : Value} {mm : PM} {q : PSt} (hP : Pins G w) (hpk : Pk 57 3 G w p L R B mm q) (hok : PoolOk q) {x : Value} {fs : List Nd} (hx : RSl eNode G x fs) (hf : FormOk fs) (hl : q.ns.length + fs.length ≤ 1048576) (hf1 : 1 ≤ fs.length) :
  Calls Tryz.prog 49 [(.pointer (some ⟨p, 0, none⟩)), (.agg [x].toArray)].toArray w fun e w' => ∃ (z : Int) (L' R' B' : Value) (q' : PSt) (G' : Pin), e = .returned (.int .i64 z) ∧ Pk 57 3 G' w' p L' R' B' mm q' ∧ PoolOk q' ∧ PX q q' ∧ PLo w p L R B mm L' R' B' ∧ Ext (inP p L R B mm) G w G' w' ∧ PlaceOk q' z ∧ pd q' z = gOf fs ∧ q'.ns.length ≤ q.ns.length + fs.length := by
 refine s_enter (n := 15) Tryz.func49 Tryz.ntmps49 rfl rfl ?_
 have hX0 : Ext (inP p L R B mm) G w G w := Ext.refl hP
 have hpin : PIn w (inP p L R B mm) p L R B mm := PIn.self
 have hml1 : (q.ns.map Nd.l).length = q.ns.length ∧ (q.ns.map Nd.r).length = q.ns.length := ⟨List.length_map .., List.length_map ..⟩
 have hml2 : q.bs.length = q.ns.length ∧ q.ns.length ≤ 1048576 := ⟨hok.ar.ok.len, hok.ar.ok.lim⟩
 have hfl := hf.len
 refine s_seq (c_reg ?_)
 refine q1 rfl rfl rfl (o_box [x] (v := (.agg [x].toArray)) rfl rfl hX0.pins (fun b3 w4 hk5 hb6 hp7 hl8 => ?_))
 have hX9 := hX0.step hp7 hl8
 have hpk10 := hpk.below hl8 hp7
 have ha15 := hpk.new (x := (some b3)) (fun k hk => by rw [(congrArg some hk5)] at hk; cases hk; exact Nat.le_refl _)
 have hlo16 : w.heap.size ≤ b3 := by have := hX0.size; omega
 obtain ⟨G17, hle18, hX19, hbp20, hf21⟩ := hb6.shut hX9 hlo16
 have hpk22 := hpk10.more hle18 hf21 ha15
 refine qd rfl rfl rfl (r_assign (v := (.int .i64 0)) rfl) (qe (s_then (s_seq (c_reg ?_))))
 refine qd rfl rfl rfl (r_move (v := (.pointer (some ⟨p, 0, none⟩))) rfl) (qd rfl rfl rfl (r_ldpA (cs := [x]) ag28 sz28 rfl (fun j u hj => hX19.pins _ _ _ (hbp20 _ _ (by simpa using hj)))) (q1 rfl rfl rfl (o_call (vs := [(.pointer (some ⟨p, 0, none⟩)), (.agg [x].toArray)]) Tryz.func93 nm93 rfl rfl rfl ?_)))
 refine Calls.mono (load_spec hX19.pins hpk22 hok (hx.mono hle18) hf hl) ?_
 rintro _ w29 ⟨u23, ats, L24, R25, B26, q27, G28, rfl, hpk31, hok32, hpx33, hlo34, hx35, ho30, hnp37, hld36⟩
 refine ⟨_, rfl, ?_⟩
 have hX38 := hX19.trans hx35 hpin
 have hpin39 := PIn.call hpin hlo34 hX19.size
 have hql40 := hpx33.len
 have hml41 : (q27.ns.map Nd.l).length = q27.ns.length ∧ (q27.ns.map Nd.r).length = q27.ns.length := ⟨List.length_map .., List.length_map ..⟩
 have hml42 : q27.bs.length = q27.ns.length ∧ q27.ns.length ≤ 1048576 := ⟨hok32.ar.ok.len, hok32.ar.ok.lim⟩
 have ho43 := ho30.weaken hX19.size
 have hll44 := hld36.len
 refine qd rfl rfl rfl (r_assign (v := u23) rfl) (qe (s_then (s_seq (c_reg ?_))))
 refine qd rfl rfl rfl (r_move (v := u23) rfl) (qd rfl rfl rfl (r_move (v := u23) rfl) (qd rfl rfl rfl (run_len Tryz.underlying57 (v := u23) rfl ho43.read) (qd rfl rfl rfl (r_sub rfl rfl (by omega)) (qd rfl rfl rfl (run_idx Tryz.underlying57 sz3 (v := u23) rfl rfl ho43.read (by omega) (by omega)) (qd rfl rfl rfl (run_load_int (r := ats.getD ((ats.length : Int) - 1).toNat 0) rfl ag3 (z := ((ats.length : Int) - 1)) rfl ho43.read (Gadd.pins hX38.pins u23) (by omega) (by omega)) (qd rfl rfl rfl (r_assign (v := (.int .i64 (ats.getD ((ats.length : Int) - 1).toNat 0))) rfl) (qe (s_then ?_))))))))
 refine wp_ret (s_ret (c_ret1 (v := (.int .i64 (ats.getD ((ats.length : Int) - 1).toNat 0))) rfl rfl rfl ?_))
 have hrt := hld36.root hf1
 rw [show fs.length - 1 = ((ats.length : Int) - 1).toNat by omega] at hrt
 exact ⟨_, L24, R25, B26, q27, G28, rfl, hpk31, hok32, hpx33, PIn.lo hpin39 rfl, hX38, hrt.1, hrt.2, hld36.hi⟩

end PL1
end Go.Proofs.YtkfgdhanaijddaaGreatDoor

set_option maxRecDepth 20000
set_option maxHeartbeats 2000000
namespace Go.Proofs.YtkfgdhanaijddaaGreatDoor
namespace PA1
open Go.RowKit Go.GL Go.Proofs










theorem parts_spec {w : World} {G : Pin} {p : Nat} {L R B : Value} {mm : PM} {q : PSt} (hP : Pins G w) (hpk : Pk 57 3 G w p L R B mm q) (hok : PoolOk q) {x : Value} {xs : List Int} (hx : RSl eInt G x xs) (hr : ∀ i, i < xs.length → PlaceOk q (xs.getD i 0)) (hxl : xs.length ≤ 1048576) :
  Calls Tryz.prog 101 [(.pointer (some ⟨p, 0, none⟩)), x].toArray w fun e w' => ∃ (u : Value) (zs : List Int) (G' : Pin), e = .returned u ∧ Own eInt 3 G' w' w.heap.size u zs ∧ PtOk q xs zs zs.length ∧ Ext noS G w G' w' := by
 refine s_enter (n := 82) Tryz.func101 Tryz.ntmps101 rfl rfl ?_
 have hX0 : Ext noS G w G w := Ext.refl hP
 have hpin : PIn w (inP p L R B mm) p L R B mm := PIn.self
 have hml1 : (q.ns.map Nd.l).length = q.ns.length ∧ (q.ns.map Nd.r).length = q.ns.length := ⟨List.length_map .., List.length_map ..⟩
 have hml2 : q.bs.length = q.ns.length ∧ q.ns.length ≤ 1048576 := ⟨hok.ar.ok.len, hok.ar.ok.lim⟩
 have hm := hx.max
 refine s_seq (c_reg ?_)
 refine qd rfl rfl rfl (r_assign (v := (.slice none 0 0)) rfl) (qe (s_then (s_seq (c_reg ?_))))
 refine q1 rfl rfl rfl (o_makeMap (fun k : Int => Value.int .i64 k) (fun v : Bool => Value.bool v) hX0.pins (fun m3 w4 hk5 hm6 hp7 hl8 => ?_))
 have hX9 := hX0.step hp7 hl8
 have hpk10 := hpk.below hl8 hp7
 have hnp11 := hpk.new (x := some m3) (fun k hk => by cases hk; omega)
 have hlo12 : w.heap.size ≤ m3 := by have := hX0.size; omega
 refine qd rfl rfl rfl (r_assign (v := (.map (some m3))) rfl) (qe (s_then (s_seq (c_reg ?_))))
 refine q1 rfl rfl rfl (o_build0 (E := eInt) (e := 3) Tryz.underlying57 sz3 hX9.pins (fun u13 w14 ho15 hp16 hl17 hk18 => ?_))
 have hX19 := hX9.step hp16 hl17
 have hm20 := hm6.below hl17
 have hpk21 := hpk10.below hl17 hp16
 have ha26 := hpk10.new (x := u13.ownBlock) (fun k hk => by rw [hk18] at hk; cases hk; exact Nat.le_refl _)
 have ho27 : Own eInt 3 G w14 w.heap.size u13 ([]) := ho15.weaken hX9.size
 refine qd rfl rfl rfl (r_assign (v := u13) rfl) (qe (s_then (s_seq (s_seq (c_reg ?_)))))
 refine qd rfl rfl rfl (r_move (v := x) rfl) (qd rfl rfl rfl (run_len Tryz.underlying57 (v := x) rfl hx) (qd rfl rfl rfl (r_move (v := (.int .i64 0)) rfl) (qe (s_then ?_))))
 refine s_blk (s_loop (fun (k : Nat) (en : Nat → Value) (W : World) => ∃ (env1 : Nat → Value) (i : Nat) (lv : Value) (ls : List Int) (sn : List (Int × Bool)) (GL1 : Pin), en = (upd (upd (upd (upd (upd (upd (upd env1 0 (.pointer (some ⟨p, 0, none⟩))) 4 (.slice none 0 0)) 5 (.map (some m3))) 6 lv) 16 x) 17 (.int .i64 (xs.length : Int))) 18 (.int .i64 (i : Int))) ∧ k = xs.length - i ∧ Ext noS G w GL1 W ∧ Pin.le G GL1 ∧ (i ≤ xs.length) ∧ (PtOk q (xs.take i) ls 0) ∧ (SnOk sn ls) ∧ (Own eInt 3 GL1 W w.heap.size lv (ls)) ∧ (Mp (fun k : Int => Value.int .i64 k) (fun v : Bool => Value.bool v) W m3 (sn)) ∧ (Pk 57 3 GL1 W p L R B mm q) ∧ (NP p L R B mm lv.ownBlock)) _ ⟨_, 0, u13, [], [], G, (packS (x := 18) (packS (x := 17) (packS (x := 16) (packS (x := 6) (packS (x := 5) (packS (x := 4) (pack1 (x := 0) rfl) rfl) rfl) rfl) rfl) rfl) rfl), rfl, hX19, Pin.le_refl _, Nat.zero_le _, PtOk.start, SnOk.start, ho27, hm20, hpk21, ha26⟩ ?_)
 rintro k32 _ w33 ⟨env1, i, lv, ls, sn, GL1, rfl, hk34, hX35, hlek32, hi, hpt, hsn, hw36, hm37, hpk38, hnp39⟩
 have hpl0 := hpt.len
 refine s_seq (c_reg ?_)
 refine qd rfl rfl rfl (r_lss rfl rfl) (qe (s_then (s_seq ?_)))
 refine c_ifd (p := ((i : Int) : Int) < (xs.length : Int)) rfl rfl (fun h40 => ?_) (fun h40 => ?_)
 refine wp_skip (s_then (s_seq ?_))
 refine s_blk (s_seq (c_reg ?_))
 refine qd rfl rfl rfl (run_idx Tryz.underlying57 sz3 (v := x) rfl rfl hx (by omega) (by omega)) (qd rfl rfl rfl (run_load_int (r := xs.getD i 0) rfl ag3 (z := (i : Int)) rfl hx (Pins.of_le hX35.pins hlek32) (by omega) (by omega)) (qd rfl rfl rfl (r_assign (v := (.int .i64 (xs.getD i 0))) rfl) (qe (s_then (s_seq (c_reg ?_))))))
 refine qd rfl rfl rfl (r_move (v := (.map (some m3))) rfl) (qd rfl rfl rfl (r_move (v := (.int .i64 (xs.getD i 0))) rfl) (qd rfl rfl rfl (run_look1_bool (k := (xs.getD i 0)) (key_int Tryz.underlying3) Tryz.underlying148 zr4 hm37 rfl rfl) (qd rfl rfl rfl (r_not rfl) (qe (s_then ?_)))))
 refine c_ifn rfl rfl (fun h41 => ?_) (fun h41 => ?_)
 refine wp_skip (s_blkN (s_then (c_reg ?_)))
 refine qd rfl rfl rfl (r_add rfl rfl (by omega)) (qd rfl rfl rfl (r_move (v := (.int .i64 ((i : Int) + 1))) rfl) (qe (s_lopN (⟨_, ?_, _, rfl, _, i + 1, lv, ls, sn, GL1, (packS (x := 18) (packS (x := 17) (packS (x := 16) (packS (x := 6) (packS (x := 5) (packS (x := 4) (pack1 (x := 0) rfl) rfl) rfl) rfl) rfl) rfl) rfl), rfl, hX35, hlek32, (by omega), (hpt.rseen (by omega) (hsn.yes h41)), hsn, hw36, hm37, hpk38, hnp39⟩))))
 omega
 refine s_seq (c_reg ?_)
 refine qd rfl rfl rfl (r_move (v := (.map (some m3))) rfl) (qd rfl rfl rfl (r_move (v := (.int .i64 (xs.getD i 0))) rfl) (q0 rfl rfl rfl (o_mapUpdate (val := (fun v : Bool => Value.bool v)) (k := (xs.getD i 0)) (v := true) (key_int Tryz.underlying3) Tryz.underlying148 rfl rfl rfl hX35.pins hm37 (fun w42 hm43 hp44 hg45 hz46 => ?_))))
 have hX47 := hX35.write hp44 hg45 ((lo_box hlo12))
 have ho48 := hw36.keptA hg45 (map_ne_own hm37 hw36).symm
 have hpk49 := hpk38.kept hg45 hp44 hnp11
 refine qe (s_then (c_reg ?_))
 refine qd rfl rfl rfl (r_move (v := lv) rfl) (qd rfl rfl rfl (r_move (v := (.int .i64 (xs.getD i 0))) rfl) (q1 rfl rfl rfl (o_buildF (E := eInt) (e := 3) [(.int .i64 (xs.getD i 0))] [xs.getD i 0] Tryz.underlying57 sz3 zr3 (by exact reps1 (by rfl)) (ones1 (by rfl)) rfl rfl rfl rfl (by decide) hX47.pins (fun u50 w51 ho52 hp53 hl54 hk55 => ?_))))
 have hX56 := hX47.step hp53 hl54
 have ho57 := ho48.below hl54
 have hm58 := hm43.below hl54
 have hpk59 := hpk49.below hl54 hp53
 have ho66 : Own eInt 3 GL1 w51 w.heap.size u50 ([xs.getD i 0]) := ho52.weaken hX47.size
 refine q1 rfl rfl rfl (o_append (E := eInt) (v := lv) (u := u50) 8 Tryz.underlying57 ap3 (by decide) rfl rfl hX56.pins ho57 ho66.src (by first | omega | (rw [List.nil_append]; omega) | (rw [List.length_nil]; omega) | (rw [List.length_append]; omega) | (simp; done) | (simp; omega) | (simp only [List.length_append, List.length_cons, List.length_nil]; omega)) (by first | omega | (rw [List.nil_append]; omega) | (rw [List.length_nil]; omega) | (rw [List.length_append]; omega) | (simp; done) | (simp; omega) | (simp only [List.length_append, List.length_cons, List.length_nil]; omega)) (hX56.size) (fun u67 w68 ho69 hp70 hg71 hw72 => ?_))
 have hX73 := hX56.write hp70 hg71 ((lo_own ho57))
 have hm75 := hm58.kept hg71 (map_ne_own hm58 ho57)
 have hpk76 := hpk59.kept hg71 hp70 hnp39
 have hnp78 := np_app hnp39 hpk59 hw72
 have hm79 : (ls ++ ([xs.getD i 0])).length = ls.length + 1 := List.length_append
 refine qd rfl rfl rfl (r_assign (v := u67) rfl) (qe (s_blkN (s_then (c_reg ?_))))
 refine qd rfl rfl rfl (r_add rfl rfl (by omega)) (qd rfl rfl rfl (r_move (v := (.int .i64 ((i : Int) + 1))) rfl) (qe (s_lopN (⟨_, ?_, _, rfl, _, i + 1, u67, ls ++ ([xs.getD i 0]), putE sn (xs.getD i 0) true, GL1, (packS (x := 18) (packS (x := 17) (packS (x := 16) (packS (x := 6) (packS (x := 5) (packS (x := 4) (pack1 (x := 0) rfl) rfl) rfl) rfl) rfl) rfl) rfl), rfl, hX73, hlek32, (by omega), (hpt.rnew (by omega) (hsn.no h41) (hr i (by omega))), hsn.put, ho69, hm75, hpk76, hnp78⟩))))
 omega
 refine wp_exit (s_thenE (s_lopE (s_blkE (s_then (s_seq (s_seq (c_reg ?_)))))))
 refine qd rfl rfl rfl (r_assign (v := (.int .i64 0)) rfl) (qe (s_then ?_))
 refine s_blk ?_
 have hin : i = xs.length := by omega
 rw [hin, take_all (Nat.le_refl _)] at hpt
 refine s_loop (fun (k : Nat) (en : Nat → Value) (W : World) => ∃ (env1 : Nat → Value) (k2 : Nat) (lv2 : Value) (ls2 : List Int) (sn2 : List (Int × Bool)) (GL2 : Pin), en = (upd (upd (upd (upd (upd env1 0 (.pointer (some ⟨p, 0, none⟩))) 4 (.slice none 0 0)) 5 (.map (some m3))) 6 lv2) 9 (.int .i64 (k2 : Int))) ∧ k = q.ns.length - k2 ∧ Ext noS G w GL2 W ∧ Pin.le GL1 GL2 ∧ (PtOk q xs ls2 k2) ∧ (SnOk sn2 ls2) ∧ (Own eInt 3 GL2 W w.heap.size lv2 (ls2)) ∧ (Mp (fun k : Int => Value.int .i64 k) (fun v : Bool => Value.bool v) W m3 (sn2)) ∧ (Pk 57 3 GL2 W p L R B mm q) ∧ (NP p L R B mm lv2.ownBlock)) _ ⟨_, 0, lv, ls, sn, GL1, (packS (x := 9) (packS (x := 6) (packS (x := 5) (packS (x := 4) (pack1 (x := 0) rfl) rfl) rfl) rfl) rfl), rfl, hX35, Pin.le_refl _, hpt, hsn, hw36, hm37, hpk38, hnp39⟩ ?_
 rintro k84 _ w85 ⟨env1, k2, lv2, ls2, sn2, GL2, rfl, hk86, hX87, hlek84, hpt2, hsn2, hw88, hm89, hpk90, hnp91⟩
 have hpl2 := hpt2.len
 have hkl2 := hpt2.kl
 refine s_seq (s_seq (c_reg ?_))
 refine qd rfl rfl rfl (r_move (v := (.int .i64 (k2 : Int))) rfl) (qd rfl rfl rfl (r_move (v := lv2) rfl) (qd rfl rfl rfl (run_len Tryz.underlying57 (v := lv2) rfl hw88.read) (qd rfl rfl rfl (r_lss rfl rfl) (qe (s_then ?_)))))
 refine c_ifd (p := ((k2 : Int) : Int) < (ls2.length : Int)) rfl rfl (fun h92 => ?_) (fun h92 => ?_)
 have hzp := hpt2.pl _ (getD_mem (d := (0 : Int)) (show k2 < ls2.length by omega))
 have hz0 := hzp.1
 have hz1 := hzp.2
 have holl := hok.ar.ok.lens (ls2.getD k2 0).toNat (by omega)
 refine wp_skip (s_then (s_seq ?_))
 refine s_blk (s_seq ?_)
 have hq93 := Gadd.pins hX87.pins lv2
 have hq94 := Gadd.pins hX87.pins L
 have hq95 := Gadd.pins hX87.pins R
 have hr96 := hw88.read
 have hr97 := hpk90.ol.read
 have hr98 := hpk90.rr.read
 refine c_draw (S := fun wz => BxR wz p [L, R, B, (.map (some mm.f)), (.map (some mm.o)), (.map (some mm.c)), (.map (some mm.s)), (.map (some mm.n))] ∧ Pins (Gadd GL2 w85 lv2) wz ∧ Pins (Gadd GL2 w85 L) wz ∧ Pins (Gadd GL2 w85 R) wz) (last := 22) (by kernel_rfl) rfl ?_
 have hl99 : Below w85.heap.size w85 w85.drew := (Below.refl _ _).drew
 have hp100 := hX87.pins.below hl99
 have hX101 := hX87.step hp100 hl99
 have ho102 := hw88.below hl99
 have hm103 := hm89.below hl99
 have hpk104 := hpk90.below hl99 hp100
 have hq105 := hq93.below hl99
 have hq106 := hq94.below hl99
 have hq107 := hq95.below hl99
 refine dr_take (i := 0) rfl rfl rfl (want_none rfl _) (by kernel_rfl) (fun _ _ => r_move (v := (.pointer (some ⟨p, 0, none⟩))) rfl) ⟨hpk104.bx.reads, hq105, hq106, hq107⟩ (dr_take (i := 1) rfl rfl rfl (want_none rfl _) (by kernel_rfl) (fun _ _ => r_nil rfl) ⟨hpk104.bx.reads, hq105, hq106, hq107⟩ (dr_take (i := 2) rfl rfl rfl (want_none rfl _) (by kernel_rfl) (fun _ _ => r_fldp (k := 0) rfl Tryz.underlying117 rfl nz115 rfl) ⟨hpk104.bx.reads, hq105, hq106, hq107⟩ (dr_take (i := 3) rfl rfl rfl (want_none rfl _) (by kernel_rfl) (fun _ hS => r_ldp1 (u := L) ag115 rfl (hS.1 0 _ rfl)) ⟨hpk104.bx.reads, hq105, hq106, hq107⟩ (dr_take (i := 4) rfl rfl rfl (want_none rfl _) (by kernel_rfl) (fun _ _ => r_move (v := lv2) rfl) ⟨hpk104.bx.reads, hq105, hq106, hq107⟩ (dr_take (i := 5) rfl rfl rfl (want_none rfl _) (by kernel_rfl) (fun _ _ => r_move (v := (.int .i64 (k2 : Int))) rfl) ⟨hpk104.bx.reads, hq105, hq106, hq107⟩ (dr_take (i := 6) rfl rfl rfl (want_none rfl _) (by kernel_rfl) (fun _ _ => run_idx Tryz.underlying57 sz3 (v := lv2) rfl rfl hr96 (by omega) (by omega)) ⟨hpk104.bx.reads, hq105, hq106, hq107⟩ (dr_take (i := 7) rfl rfl rfl (want_none rfl _) (by kernel_rfl) (fun _ hS => run_load_int (r := ls2.getD k2 0) rfl ag3 (z := (k2 : Int)) rfl hr96 hS.2.1 (by omega) (by omega)) ⟨hpk104.bx.reads, hq105, hq106, hq107⟩ ?_)))))))
 refine dr_take (i := 8) rfl rfl rfl (want_none rfl _) (by kernel_rfl) (fun _ _ => run_idx Tryz.underlying115 sz57 (v := L) rfl rfl hr97 (by omega) (by omega)) ⟨hpk104.bx.reads, hq105, hq106, hq107⟩ ?_
 obtain ⟨u108, hr109, hl110⟩ := nm_sl (hpk90.ol.at (z := (ls2.getD k2 0)) (by omega) (by omega)) (j := (ls2.getD k2 0).toNat) rfl
 rw [mapl_getD] at hr109
 have hm111 := hr109.max
 refine dr_take (i := 9) rfl rfl rfl (want_none rfl _) (by kernel_rfl) (fun _ hS => hl110 ag57 rfl hS.2.2.1) ⟨hpk104.bx.reads, hq105, hq106, hq107⟩ (dr_take (i := 10) rfl rfl rfl (want_none rfl _) (by kernel_rfl) (fun _ _ => r_move (v := (.pointer (some ⟨p, 0, none⟩))) rfl) ⟨hpk104.bx.reads, hq105, hq106, hq107⟩ (dr_take (i := 11) rfl rfl rfl (want_none rfl _) (by kernel_rfl) (fun _ _ => r_nil rfl) ⟨hpk104.bx.reads, hq105, hq106, hq107⟩ (dr_take (i := 12) rfl rfl rfl (want_none rfl _) (by kernel_rfl) (fun _ _ => r_fldp (k := 1) rfl Tryz.underlying117 rfl nz115 rfl) ⟨hpk104.bx.reads, hq105, hq106, hq107⟩ (dr_take (i := 13) rfl rfl rfl (want_none rfl _) (by kernel_rfl) (fun _ hS => r_ldp1 (u := R) ag115 rfl (hS.1 1 _ rfl)) ⟨hpk104.bx.reads, hq105, hq106, hq107⟩ (dr_take (i := 14) rfl rfl rfl (want_none rfl _) (by kernel_rfl) (fun _ _ => r_move (v := lv2) rfl) ⟨hpk104.bx.reads, hq105, hq106, hq107⟩ (dr_take (i := 15) rfl rfl rfl (want_none rfl _) (by kernel_rfl) (fun _ _ => r_move (v := (.int .i64 (k2 : Int))) rfl) ⟨hpk104.bx.reads, hq105, hq106, hq107⟩ (dr_take (i := 16) rfl rfl rfl (want_none rfl _) (by kernel_rfl) (fun _ _ => run_idx Tryz.underlying57 sz3 (v := lv2) rfl rfl hr96 (by omega) (by omega)) ⟨hpk104.bx.reads, hq105, hq106, hq107⟩ ?_)))))))
 refine dr_take (i := 17) rfl rfl rfl (want_none rfl _) (by kernel_rfl) (fun _ hS => run_load_int (r := ls2.getD k2 0) rfl ag3 (z := (k2 : Int)) rfl hr96 hS.2.1 (by omega) (by omega)) ⟨hpk104.bx.reads, hq105, hq106, hq107⟩ (dr_take (i := 18) rfl rfl rfl (want_none rfl _) (by kernel_rfl) (fun _ _ => run_idx Tryz.underlying115 sz57 (v := R) rfl rfl hr98 (by omega) (by omega)) ⟨hpk104.bx.reads, hq105, hq106, hq107⟩ ?_)
 obtain ⟨u112, hr113, hl114⟩ := nm_sl (hpk90.rr.at (z := (ls2.getD k2 0)) (by omega) (by omega)) (j := (ls2.getD k2 0).toNat) rfl
 rw [mapr_getD] at hr113
 have hm115 := hr113.max
 refine dr_take (i := 19) rfl rfl rfl (want_none rfl _) (by kernel_rfl) (fun _ hS => hl114 ag57 rfl hS.2.2.2) ⟨hpk104.bx.reads, hq105, hq106, hq107⟩ (dr_take (i := 20) rfl rfl rfl (want_none rfl _) (by kernel_rfl) (fun _ _ => r_buildA (m := 1) [(.slice none 0 0), (.slice none 0 0)] [u108, u112] [(0, u108, [u108]), (1, u112, [u112])] Tryz.underlying149 zr149 rfl sz57 rfl (List.forall_mem_cons.2 ⟨(cells_one hr109.one), (List.forall_mem_cons.2 ⟨(cells_one hr113.one), (fun _ h => by cases h)⟩)⟩) rfl) ⟨hpk104.bx.reads, hq105, hq106, hq107⟩ (dr_take (i := 21) rfl rfl rfl (want_none rfl _) (by kernel_rfl) (fun _ _ => r_move (v := (.int .i64 0)) rfl) ⟨hpk104.bx.reads, hq105, hq106, hq107⟩ (dr_end (by kernel_rfl) (s_then (s_blk ?_)))))
 refine s_loop (fun (k : Nat) (en : Nat → Value) (W : World) => ∃ (env1 : Nat → Value) (s : Nat) (lv3 : Value) (ls3 : List Int) (sn3 : List (Int × Bool)) (GL3 : Pin), en = (upd (upd (upd (upd (upd (upd (upd env1 0 (.pointer (some ⟨p, 0, none⟩))) 4 (.slice none 0 0)) 5 (.map (some m3))) 6 lv3) 9 (.int .i64 (k2 : Int))) 59 (.agg [u108, u112].toArray)) 60 (.int .i64 (s : Int))) ∧ k = 2 - s ∧ Ext noS G w GL3 W ∧ Pin.le GL2 GL3 ∧ (s ≤ 2) ∧ (PtIn q xs ls3 k2 (ls2.getD k2 0) (dzL (q.ns.getD (ls2.getD k2 0).toNat default).l (q.ns.getD (ls2.getD k2 0).toNat default).r s)) ∧ (SnOk sn3 ls3) ∧ (Own eInt 3 GL3 W w.heap.size lv3 (ls3)) ∧ (Mp (fun k : Int => Value.int .i64 k) (fun v : Bool => Value.bool v) W m3 (sn3)) ∧ (Pk 57 3 GL3 W p L R B mm q) ∧ (NP p L R B mm lv3.ownBlock)) _ ⟨_, 0, lv2, ls2, sn2, GL2, (packS (x := 60) (packS (x := 59) (packS (x := 9) (packS (x := 6) (packS (x := 5) (packS (x := 4) (pack1 (x := 0) rfl) rfl) rfl) rfl) rfl) rfl) rfl), rfl, hX101, Pin.le_refl _, Nat.zero_le _, (PtIn.start hpt2 (by omega)), hsn2, ho102, hm103, hpk104, hnp91⟩ ?_
 rintro k120 _ w121 ⟨env1, s, lv3, ls3, sn3, GL3, rfl, hk122, hX123, hlek120, hs, hin3, hsn3, hw124, hm125, hpk126, hnp127⟩
 have hpl3 := hin3.ok.len
 refine s_seq (c_reg ?_)
 refine qd rfl rfl rfl (r_lss rfl rfl) (qe (s_then (s_seq ?_)))
 refine c_ifd (p := ((s : Int) : Int) < 2) rfl rfl (fun h128 => ?_) (fun h128 => ?_)
 refine wp_skip (s_then (s_seq ?_))
 refine s_blk (s_seq (c_reg ?_))
 obtain ⟨u129, hr130, hl131⟩ := name_index2 (hr109.mono hlek120) (hr113.mono hlek120) (z := (s : Int)) s (by omega) (by omega) rfl
 have hm132 := hr130.max
 refine qd rfl rfl rfl (hl131 Tryz.underlying149 rfl sz57 ag57 rfl rfl) (qd rfl rfl rfl (r_assign (v := u129) rfl) (qe (s_then (s_seq (c_reg ?_)))))
 refine qd rfl rfl rfl (r_move (v := u129) rfl) (qd rfl rfl rfl (run_len Tryz.underlying57 (v := u129) rfl hr130) (qd rfl rfl rfl (r_move (v := (.int .i64 0)) rfl) (qe (s_then ?_))))
 refine s_blk ?_
 refine s_loop (fun (k : Nat) (en : Nat → Value) (W : World) => ∃ (env1 : Nat → Value) (j : Nat) (lv4 : Value) (ls4 : List Int) (sn4 : List (Int × Bool)) (GL4 : Pin), en = (upd (upd (upd (upd (upd (upd (upd (upd (upd (upd env1 0 (.pointer (some ⟨p, 0, none⟩))) 4 (.slice none 0 0)) 5 (.map (some m3))) 6 lv4) 9 (.int .i64 (k2 : Int))) 59 (.agg [u108, u112].toArray)) 60 (.int .i64 (s : Int))) 63 u129) 64 (.int .i64 ((pick2 s ((q.ns.getD (ls2.getD k2 0).toNat default).l) ((q.ns.getD (ls2.getD k2 0).toNat default).r)).length : Int))) 65 (.int .i64 (j : Int))) ∧ k = (pick2 s (q.ns.getD (ls2.getD k2 0).toNat default).l (q.ns.getD (ls2.getD k2 0).toNat default).r).length - j ∧ Ext noS G w GL4 W ∧ Pin.le GL3 GL4 ∧ (j ≤ (pick2 s (q.ns.getD (ls2.getD k2 0).toNat default).l (q.ns.getD (ls2.getD k2 0).toNat default).r).length) ∧ (PtIn q xs ls4 k2 (ls2.getD k2 0) (dzL (q.ns.getD (ls2.getD k2 0).toNat default).l (q.ns.getD (ls2.getD k2 0).toNat default).r s ++ (pick2 s (q.ns.getD (ls2.getD k2 0).toNat default).l (q.ns.getD (ls2.getD k2 0).toNat default).r).take j)) ∧ (SnOk sn4 ls4) ∧ (Own eInt 3 GL4 W w.heap.size lv4 (ls4)) ∧ (Mp (fun k : Int => Value.int .i64 k) (fun v : Bool => Value.bool v) W m3 (sn4)) ∧ (Pk 57 3 GL4 W p L R B mm q) ∧ (NP p L R B mm lv4.ownBlock)) _ ⟨_, 0, lv3, ls3, sn3, GL3, (packS (x := 65) (packS (x := 64) (packS (x := 63) (packS (x := 60) (packS (x := 59) (packS (x := 9) (packS (x := 6) (packS (x := 5) (packS (x := 4) (pack1 (x := 0) rfl) rfl) rfl) rfl) rfl) rfl) rfl) rfl) rfl) rfl), rfl, hX123, Pin.le_refl _, Nat.zero_le _, (by rw [List.take_zero, List.append_nil]; exact hin3), hsn3, hw124, hm125, hpk126, hnp127⟩ ?_
 rintro k137 _ w138 ⟨env1, j, lv4, ls4, sn4, GL4, rfl, hk139, hX140, hlek137, hj, hin4, hsn4, hw141, hm142, hpk143, hnp144⟩
 have hpl5 := hin4.ok.len
 refine s_seq (c_reg ?_)
 refine qd rfl rfl rfl (r_lss rfl rfl) (qe (s_then (s_seq ?_)))
 refine c_ifd (p := ((j : Int) : Int) < ((pick2 s ((q.ns.getD (ls2.getD k2 0).toNat default).l) ((q.ns.getD (ls2.getD k2 0).toNat default).r)).length : Int)) rfl rfl (fun h145 => ?_) (fun h145 => ?_)
 refine wp_skip (s_then (s_seq ?_))
 refine s_blk (s_seq (c_reg ?_))
 refine qd rfl rfl rfl (run_idx Tryz.underlying57 sz3 (v := u129) rfl rfl hr130 (by omega) (by omega)) (qd rfl rfl rfl (run_load_int (r := (pick2 s ((q.ns.getD (ls2.getD k2 0).toNat default).l) ((q.ns.getD (ls2.getD k2 0).toNat default).r)).getD j 0) rfl ag3 (z := (j : Int)) rfl hr130 (Pins.of_le hX140.pins hlek137) (by omega) (by omega)) (qd rfl rfl rfl (r_assign (v := (.int .i64 ((pick2 s ((q.ns.getD (ls2.getD k2 0).toNat default).l) ((q.ns.getD (ls2.getD k2 0).toNat default).r)).getD j 0))) rfl) (qe (s_then (s_seq (c_reg ?_))))))
 refine qd rfl rfl rfl (r_move (v := (.map (some m3))) rfl) (qd rfl rfl rfl (r_move (v := (.int .i64 ((pick2 s ((q.ns.getD (ls2.getD k2 0).toNat default).l) ((q.ns.getD (ls2.getD k2 0).toNat default).r)).getD j 0))) rfl) (qd rfl rfl rfl (run_look1_bool (k := ((pick2 s ((q.ns.getD (ls2.getD k2 0).toNat default).l) ((q.ns.getD (ls2.getD k2 0).toNat default).r)).getD j 0)) (key_int Tryz.underlying3) Tryz.underlying148 zr4 hm142 rfl rfl) (qd rfl rfl rfl (r_not rfl) (qe (s_then ?_)))))
 refine c_ifn rfl rfl (fun h146 => ?_) (fun h146 => ?_)
 refine wp_skip (s_blkN (s_then (c_reg ?_)))
 refine qd rfl rfl rfl (r_add rfl rfl (by omega)) (qd rfl rfl rfl (r_move (v := (.int .i64 ((j : Int) + 1))) rfl) (qe (s_lopN (⟨_, ?_, _, rfl, _, j + 1, lv4, ls4, sn4, GL4, (packS (x := 65) (packS (x := 64) (packS (x := 63) (packS (x := 60) (packS (x := 59) (packS (x := 9) (packS (x := 6) (packS (x := 5) (packS (x := 4) (pack1 (x := 0) rfl) rfl) rfl) rfl) rfl) rfl) rfl) rfl) rfl) rfl), rfl, hX140, hlek137, (by omega), (by rw [take_snoc _ 0 (show j < (pick2 s (q.ns.getD (ls2.getD k2 0).toNat default).l (q.ns.getD (ls2.getD k2 0).toNat default).r).length by omega), ← List.append_assoc]; exact hin4.seen (hsn4.yes h146)), hsn4, hw141, hm142, hpk143, hnp144⟩))))
 omega
 refine s_seq (c_reg ?_)
 refine qd rfl rfl rfl (r_move (v := (.map (some m3))) rfl) (qd rfl rfl rfl (r_move (v := (.int .i64 ((pick2 s ((q.ns.getD (ls2.getD k2 0).toNat default).l) ((q.ns.getD (ls2.getD k2 0).toNat default).r)).getD j 0))) rfl) (q0 rfl rfl rfl (o_mapUpdate (val := (fun v : Bool => Value.bool v)) (k := ((pick2 s ((q.ns.getD (ls2.getD k2 0).toNat default).l) ((q.ns.getD (ls2.getD k2 0).toNat default).r)).getD j 0)) (v := true) (key_int Tryz.underlying3) Tryz.underlying148 rfl rfl rfl hX140.pins hm142 (fun w147 hm148 hp149 hg150 hz151 => ?_))))
 have hX152 := hX140.write hp149 hg150 ((lo_box hlo12))
 have ho153 := hw141.keptA hg150 (map_ne_own hm142 hw141).symm
 have hpk154 := hpk143.kept hg150 hp149 hnp11
 refine qe (s_then (c_reg ?_))
 refine qd rfl rfl rfl (r_move (v := lv4) rfl) (qd rfl rfl rfl (r_move (v := (.int .i64 ((pick2 s ((q.ns.getD (ls2.getD k2 0).toNat default).l) ((q.ns.getD (ls2.getD k2 0).toNat default).r)).getD j 0))) rfl) (q1 rfl rfl rfl (o_buildF (E := eInt) (e := 3) [(.int .i64 ((pick2 s ((q.ns.getD (ls2.getD k2 0).toNat default).l) ((q.ns.getD (ls2.getD k2 0).toNat default).r)).getD j 0))] [(pick2 s ((q.ns.getD (ls2.getD k2 0).toNat default).l) ((q.ns.getD (ls2.getD k2 0).toNat default).r)).getD j 0] Tryz.underlying57 sz3 zr3 (by exact reps1 (by rfl)) (ones1 (by rfl)) rfl rfl rfl rfl (by decide) hX152.pins (fun u155 w156 ho157 hp158 hl159 hk160 => ?_))))
 have hX161 := hX152.step hp158 hl159
 have ho162 := ho153.below hl159
 have hm163 := hm148.below hl159
 have hpk164 := hpk154.below hl159 hp158
 have ho171 : Own eInt 3 GL4 w156 w.heap.size u155 ([(pick2 s ((q.ns.getD (ls2.getD k2 0).toNat default).l) ((q.ns.getD (ls2.getD k2 0).toNat default).r)).getD j 0]) := ho157.weaken hX152.size
 refine q1 rfl rfl rfl (o_append (E := eInt) (v := lv4) (u := u155) 8 Tryz.underlying57 ap3 (by decide) rfl rfl hX161.pins ho162 ho171.src (by first | omega | (rw [List.nil_append]; omega) | (rw [List.length_nil]; omega) | (rw [List.length_append]; omega) | (simp; done) | (simp; omega) | (simp only [List.length_append, List.length_cons, List.length_nil]; omega)) (by first | omega | (rw [List.nil_append]; omega) | (rw [List.length_nil]; omega) | (rw [List.length_append]; omega) | (simp; done) | (simp; omega) | (simp only [List.length_append, List.length_cons, List.length_nil]; omega)) (hX161.size) (fun u172 w173 ho174 hp175 hg176 hw177 => ?_))
 have hX178 := hX161.write hp175 hg176 ((lo_own ho162))
 have hm180 := hm163.kept hg176 (map_ne_own hm163 ho162)
 have hpk181 := hpk164.kept hg176 hp175 hnp144
 have hnp183 := np_app hnp144 hpk164 hw177
 have hm184 : (ls4 ++ ([(pick2 s ((q.ns.getD (ls2.getD k2 0).toNat default).l) ((q.ns.getD (ls2.getD k2 0).toNat default).r)).getD j 0])).length = ls4.length + 1 := List.length_append
 refine qd rfl rfl rfl (r_assign (v := u172) rfl) (qe (s_blkN (s_then (c_reg ?_))))
 refine qd rfl rfl rfl (r_add rfl rfl (by omega)) (qd rfl rfl rfl (r_move (v := (.int .i64 ((j : Int) + 1))) rfl) (qe (s_lopN (⟨_, ?_, _, rfl, _, j + 1, u172, ls4 ++ ([(pick2 s ((q.ns.getD (ls2.getD k2 0).toNat default).l) ((q.ns.getD (ls2.getD k2 0).toNat default).r)).getD j 0]), putE sn4 ((pick2 s ((q.ns.getD (ls2.getD k2 0).toNat default).l) ((q.ns.getD (ls2.getD k2 0).toNat default).r)).getD j 0) true, GL4, (packS (x := 65) (packS (x := 64) (packS (x := 63) (packS (x := 60) (packS (x := 59) (packS (x := 9) (packS (x := 6) (packS (x := 5) (packS (x := 4) (pack1 (x := 0) rfl) rfl) rfl) rfl) rfl) rfl) rfl) rfl) rfl) rfl), rfl, hX178, hlek137, (by omega), (by rw [take_snoc _ 0 (show j < (pick2 s (q.ns.getD (ls2.getD k2 0).toNat default).l (q.ns.getD (ls2.getD k2 0).toNat default).r).length by omega), ← List.append_assoc]; exact hin4.new hok (hsn4.no h146) (dz_in (by omega) (by omega))), hsn4.put, ho174, hm180, hpk181, hnp183⟩))))
 omega
 have hjn : j = (pick2 s (q.ns.getD (ls2.getD k2 0).toNat default).l (q.ns.getD (ls2.getD k2 0).toNat default).r).length := by omega
 rw [hjn, take_all (Nat.le_refl _)] at hin4
 have hin5 : PtIn q xs ls4 k2 (ls2.getD k2 0) (dzL (q.ns.getD (ls2.getD k2 0).toNat default).l (q.ns.getD (ls2.getD k2 0).toNat default).r (s + 1)) := by rw [dz_next (by omega)]; exact hin4
 refine wp_exit (s_thenE (s_lopE (s_blkE (s_blkN (s_then (c_reg ?_))))))
 refine qd rfl rfl rfl (r_add rfl rfl (by omega)) (qd rfl rfl rfl (r_move (v := (.int .i64 ((s : Int) + 1))) rfl) (qe (s_lopN (⟨_, ?_, _, rfl, _, s + 1, lv4, ls4, sn4, GL4, (packS (x := 60) (packS (x := 59) (packS (x := 9) (packS (x := 6) (packS (x := 5) (packS (x := 4) (pack1 (x := 0) rfl) rfl) rfl) rfl) rfl) rfl) rfl), rfl, hX140, (Pin.le_trans hlek120 hlek137), (by omega), hin5, hsn4, hw141, hm142, hpk143, hnp144⟩))))
 omega
 have hs2 : s = 2 := by omega
 rw [hs2] at hin3
 have hdone := hin3.done (fun o ho => ho)
 have hpl4 := hdone.kl
 refine wp_exit (s_thenE (s_lopE (s_blkE (s_blkN (s_then (c_reg ?_))))))
 refine qd rfl rfl rfl (r_move (v := (.int .i64 (k2 : Int))) rfl) (qd rfl rfl rfl (r_add rfl rfl (by omega)) (qd rfl rfl rfl (r_assign (v := (.int .i64 ((k2 : Int) + 1))) rfl) (qe (s_lopN (⟨_, ?_, _, rfl, _, k2 + 1, lv3, ls3, sn3, GL3, (packS (x := 9) (packS (x := 6) (packS (x := 5) (packS (x := 4) (pack1 (x := 0) rfl) rfl) rfl) rfl) rfl), rfl, hX123, (Pin.le_trans hlek84 hlek120), hdone, hsn3, hw124, hm125, hpk126, hnp127⟩)))))
 omega
 refine wp_exit (s_thenE (s_lopE (s_blkE (s_then (s_seq (c_reg ?_))))))
 refine qd rfl rfl rfl (r_move (v := lv2) rfl) (qd rfl rfl rfl (r_assign (v := lv2) rfl) (qe (s_then ?_)))
 refine wp_ret (s_ret (c_ret1 (v := lv2) rfl rfl rfl ?_))
 have hkk : k2 = ls2.length := by omega
 rw [hkk] at hpt2
 exact ⟨_, _, _, rfl, hw88, hpt2, hX87⟩

end PA1
end Go.Proofs.YtkfgdhanaijddaaGreatDoor

set_option maxRecDepth 20000
set_option maxHeartbeats 2000000
namespace Go.Proofs.YtkfgdhanaijddaaGreatDoor
namespace SO1
open Go.RowKit Go.GL Go.Proofs
open Go.Proofs.YtkfgdhanaijddaaGreatDoor.B1










theorem cmpB_spec {w : World} {G : Pin} {p : Nat} {L R B : Value} {mm : PM} {q : PSt} (hP : Pins G w) (hpk : Pk 57 3 G w p L R B mm q) (hok : PoolOk q) {bx : Nat} (hbx : BxP G bx [.pointer (some ⟨p, 0, none⟩)]) {a b : Int} (ha : PlaceOk q a) (hb : PlaceOk q b) :
  Calls Tryz.prog 120 [(.int .i64 a), (.int .i64 b), (.pointer (some ⟨bx, 0, none⟩))].toArray w fun e w' => e = .returned (.int .i64 (cmpI (bn q a) (bn q b))) ∧ ∃ n os, w' = Go.Sort.grow (w.drewN n) os := by
 refine s_enter (n := 21) Tryz.func120 Tryz.ntmps120 rfl rfl ?_
 have hX0 : Ext noS G w G w := Ext.refl hP
 have hpin : PIn w (inP p L R B mm) p L R B mm := PIn.self
 have hml1 : (q.ns.map Nd.l).length = q.ns.length ∧ (q.ns.map Nd.r).length = q.ns.length := ⟨List.length_map .., List.length_map ..⟩
 have hml2 : q.bs.length = q.ns.length ∧ q.ns.length ≤ 1048576 := ⟨hok.ar.ok.len, hok.ar.ok.lim⟩
 have ha0 := ha.1
 have ha1 := ha.2
 have hb0 := hb.1
 have hb1 := hb.2
 refine s_seq (c_reg ?_)
 refine qd rfl rfl rfl (r_assign (v := (.int .i64 0)) rfl) (qe (s_then (s_seq ?_)))
 have hq3 := Gadd.pins hX0.pins B
 have hr4 := hpk.ob.read
 refine c_draw (S := fun wz => Pins G wz ∧ BxR wz p [L, R, B, (.map (some mm.f)), (.map (some mm.o)), (.map (some mm.c)), (.map (some mm.s)), (.map (some mm.n))] ∧ Pins (Gadd G w B) wz) (last := 16) (by kernel_rfl) rfl ?_
 have hl5 : Below w.heap.size w w.drew := (Below.refl _ _).drew
 have hp6 := hX0.pins.below hl5
 have hdr7 : w.drew.drawn = w.drawn + 1 := rfl
 have hX8 := hX0.step hp6 hl5
 have hpk9 := hpk.below hl5 hp6
 have hq10 := hq3.below hl5
 refine dr_take (i := 0) rfl rfl rfl (want_none rfl _) (by kernel_rfl) (fun _ hS => r_ldp1 (u := (.pointer (some ⟨p, 0, none⟩))) ag69 rfl (hS.1 _ _ _ (hbx 0 _ rfl))) ⟨hX8.pins, hpk9.bx.reads, hq10⟩ (dr_take (i := 1) rfl rfl rfl (want_none rfl _) (by kernel_rfl) (fun _ _ => r_nil rfl) ⟨hX8.pins, hpk9.bx.reads, hq10⟩ (dr_take (i := 2) rfl rfl rfl (want_none rfl _) (by kernel_rfl) (fun _ _ => r_fldp (k := 2) rfl Tryz.underlying117 rfl nz57 rfl) ⟨hX8.pins, hpk9.bx.reads, hq10⟩ (dr_take (i := 3) rfl rfl rfl (want_none rfl _) (by kernel_rfl) (fun _ hS => r_ldp1 (u := B) ag57 rfl (hS.2.1 2 _ rfl)) ⟨hX8.pins, hpk9.bx.reads, hq10⟩ (dr_take (i := 4) rfl rfl rfl (want_none rfl _) (by kernel_rfl) (fun _ _ => r_move (v := (.int .i64 a)) rfl) ⟨hX8.pins, hpk9.bx.reads, hq10⟩ (dr_take (i := 5) rfl rfl rfl (want_none rfl _) (by kernel_rfl) (fun _ _ => run_idx Tryz.underlying57 sz3 (v := B) rfl rfl hr4 (by omega) (by omega)) ⟨hX8.pins, hpk9.bx.reads, hq10⟩ (dr_take (i := 6) rfl rfl rfl (want_none rfl _) (by kernel_rfl) (fun _ hS => run_load_int (r := q.bs.getD (a).toNat 0) rfl ag3 (z := a) rfl hr4 hS.2.2 (by omega) (by omega)) ⟨hX8.pins, hpk9.bx.reads, hq10⟩ (dr_take (i := 7) rfl rfl rfl (want_none rfl _) (by kernel_rfl) (fun _ hS => r_ldp1 (u := (.pointer (some ⟨p, 0, none⟩))) ag69 rfl (hS.1 _ _ _ (hbx 0 _ rfl))) ⟨hX8.pins, hpk9.bx.reads, hq10⟩ ?_)))))))
 refine dr_take (i := 8) rfl rfl rfl (want_none rfl _) (by kernel_rfl) (fun _ _ => r_nil rfl) ⟨hX8.pins, hpk9.bx.reads, hq10⟩ (dr_take (i := 9) rfl rfl rfl (want_none rfl _) (by kernel_rfl) (fun _ _ => r_fldp (k := 2) rfl Tryz.underlying117 rfl nz57 rfl) ⟨hX8.pins, hpk9.bx.reads, hq10⟩ (dr_take (i := 10) rfl rfl rfl (want_none rfl _) (by kernel_rfl) (fun _ hS => r_ldp1 (u := B) ag57 rfl (hS.2.1 2 _ rfl)) ⟨hX8.pins, hpk9.bx.reads, hq10⟩ (dr_take (i := 11) rfl rfl rfl (want_none rfl _) (by kernel_rfl) (fun _ _ => r_move (v := (.int .i64 b)) rfl) ⟨hX8.pins, hpk9.bx.reads, hq10⟩ (dr_take (i := 12) rfl rfl rfl (want_none rfl _) (by kernel_rfl) (fun _ _ => run_idx Tryz.underlying57 sz3 (v := B) rfl rfl hr4 (by omega) (by omega)) ⟨hX8.pins, hpk9.bx.reads, hq10⟩ (dr_take (i := 13) rfl rfl rfl (want_none rfl _) (by kernel_rfl) (fun _ hS => run_load_int (r := q.bs.getD (b).toNat 0) rfl ag3 (z := b) rfl hr4 hS.2.2 (by omega) (by omega)) ⟨hX8.pins, hpk9.bx.reads, hq10⟩ (dr_one (i := 14) (by kernel_rfl) (drOp1 (i := 14) rfl rfl rfl (want_none rfl _) (o_call (vs := [(.int .i64 (q.bs.getD (a).toNat 0)), (.int .i64 (q.bs.getD (b).toNat 0))]) Tryz.func85 nm85 rfl rfl rfl ?_))))))))
 refine Calls.mono (cmpCompare_spec hX8.pins) ?_
 rintro _ _ ⟨rfl, rfl⟩
 refine ⟨_, rfl, ?_⟩
 refine ⟨fun _ => ⟨hX8.pins, hpk9.bx.reads, hq10⟩, ?_⟩
 exact dr_take (i := 15) rfl rfl rfl (want_none rfl _) (by kernel_rfl) (fun _ _ => r_assign (v := (.int .i64 (cmpI (q.bs.getD (a).toNat 0) (q.bs.getD (b).toNat 0)))) rfl) ⟨hX8.pins, hpk9.bx.reads, hq10⟩ (dr_end (by kernel_rfl) (s_then (wp_ret (s_ret (c_ret1 (v := (.int .i64 (cmpI (q.bs.getD (a).toNat 0) (q.bs.getD (b).toNat 0)))) rfl rfl rfl (⟨rfl, grow_of hX8.below (by omega)⟩))))))

theorem cmpE_spec {w : World} {G : Pin} {x y : Ent} (hP : Pins G w) (hx : EntOk G x) (hy : EntOk G y) :
  Calls Tryz.prog 123 [(.agg [(.int .i64 x.id), x.l, x.r].toArray), (.agg [(.int .i64 y.id), y.l, y.r].toArray)].toArray w fun e w' => e = .returned (.int .i64 (orL [cmpL x.nd.l y.nd.l, cmpL x.nd.r y.nd.r])) ∧ ∃ n os, w' = Go.Sort.grow (w.drewN n) os := by
 refine s_enter (n := 21) Tryz.func123 Tryz.ntmps123 rfl rfl ?_
 have hX0 : Ext noS G w G w := Ext.refl hP
 refine s_seq (c_reg ?_)
 refine q1 rfl rfl rfl (o_boxd [(.int .i64 x.id), x.l, x.r] (v := (.agg [(.int .i64 x.id), x.l, x.r].toArray)) rfl rfl hX0.pins (fun b1 w2 hdn7 hk3 hb4 hp5 hl6 => ?_))
 have hX8 := hX0.step hp5 hl6
 have hlo9 : w.heap.size ≤ b1 := by have := hX0.size; omega
 obtain ⟨G10, hle11, hX12, hbp13, hf14⟩ := hb4.shut hX8 hlo9
 refine q1 rfl rfl rfl (o_boxd [(.int .i64 y.id), y.l, y.r] (v := (.agg [(.int .i64 y.id), y.l, y.r].toArray)) rfl rfl hX12.pins (fun b15 w16 hdn21 hk17 hb18 hp19 hl20 => ?_))
 have hX22 := hX12.step hp19 hl20
 have hlo23 : w.heap.size ≤ b15 := by have := hX12.size; omega
 obtain ⟨G24, hle25, hX26, hbp27, hf28⟩ := hb18.shut hX22 hlo23
 refine qd rfl rfl rfl (r_assign (v := (.int .i64 0)) rfl) (qe (s_then (s_seq ?_)))
 refine c_draw (S := fun wz => Pins G24 wz) (last := 17) (by kernel_rfl) rfl ?_
 have hl29 : Below w16.heap.size w16 w16.drew := (Below.refl _ _).drew
 have hp30 := hX26.pins.below hl29
 have hdr31 : w16.drew.drawn = w16.drawn + 1 := rfl
 have hX32 := hX26.step hp30 hl29
 refine dr_take (i := 0) rfl rfl rfl (want_none rfl _) (by kernel_rfl) (fun _ _ => r_fldp (k := 1) rfl Tryz.underlying139 rfl nz68 rfl) hX32.pins (dr_take (i := 1) rfl rfl rfl (want_none rfl _) (by kernel_rfl) (fun _ _ => r_fldp (k := 1) rfl Tryz.underlying68 rfl nz57 rfl) hX32.pins (dr_take (i := 2) rfl rfl rfl (want_none rfl _) (by kernel_rfl) (fun _ hS => r_ldp1 (u := x.l) ag57 rfl ((Pins.of_le hS hle25) _ _ _ (hbp13 1 _ rfl))) hX32.pins (dr_take (i := 3) rfl rfl rfl (want_none rfl _) (by kernel_rfl) (fun _ _ => r_fldp (k := 1) rfl Tryz.underlying139 rfl nz68 rfl) hX32.pins (dr_take (i := 4) rfl rfl rfl (want_none rfl _) (by kernel_rfl) (fun _ _ => r_fldp (k := 1) rfl Tryz.underlying68 rfl nz57 rfl) hX32.pins (dr_take (i := 5) rfl rfl rfl (want_none rfl _) (by kernel_rfl) (fun _ hS => r_ldp1 (u := y.l) ag57 rfl (hS _ _ _ (hbp27 1 _ rfl))) hX32.pins (dr_take (i := 7) rfl rfl rfl (want_none rfl _) (by kernel_rfl) (fun _ _ => r_fldp (k := 1) rfl Tryz.underlying139 rfl nz68 rfl) hX32.pins (dr_take (i := 8) rfl rfl rfl (want_none rfl _) (by kernel_rfl) (fun _ _ => r_fldp (k := 2) rfl Tryz.underlying68 rfl nz57 rfl) hX32.pins (dr_take (i := 9) rfl rfl rfl (want_none rfl _) (by kernel_rfl) (fun _ hS => r_ldp1 (u := x.r) ag57 rfl ((Pins.of_le hS hle25) _ _ _ (hbp13 2 _ rfl))) hX32.pins ?_))))))))
 refine dr_take (i := 10) rfl rfl rfl (want_none rfl _) (by kernel_rfl) (fun _ _ => r_fldp (k := 1) rfl Tryz.underlying139 rfl nz68 rfl) hX32.pins (dr_take (i := 11) rfl rfl rfl (want_none rfl _) (by kernel_rfl) (fun _ _ => r_fldp (k := 2) rfl Tryz.underlying68 rfl nz57 rfl) hX32.pins (dr_take (i := 12) rfl rfl rfl (want_none rfl _) (by kernel_rfl) (fun _ hS => r_ldp1 (u := y.r) ag57 rfl (hS _ _ _ (hbp27 2 _ rfl))) hX32.pins (dr_one (i := 6) (by kernel_rfl) (drOp1 (i := 6) rfl rfl rfl (want_none rfl _) (o_call (vs := [x.l, y.l]) Tryz.func107 nm107 rfl rfl rfl ?_)))))
 refine Calls.mono (slCompare_spec hX32.pins (hx.1.mono (Pin.le_trans hle11 hle25)) (hy.1.mono (Pin.le_trans hle11 hle25))) ?_
 rintro _ _ ⟨rfl, rfl⟩
 refine ⟨_, rfl, ?_⟩
 refine ⟨fun _ => hX32.pins, ?_⟩
 refine dr_one (i := 13) (by kernel_rfl) (drOp1 (i := 13) rfl rfl rfl (want_none rfl _) (o_call (vs := [x.r, y.r]) Tryz.func107 nm107 rfl rfl rfl ?_))
 refine Calls.mono (slCompare_spec hX32.pins (hx.2.1.mono (Pin.le_trans hle11 hle25)) (hy.2.1.mono (Pin.le_trans hle11 hle25))) ?_
 rintro _ _ ⟨rfl, rfl⟩
 refine ⟨_, rfl, ?_⟩
 refine ⟨fun _ => hX32.pins, ?_⟩
 refine dr_one (i := 14) (by kernel_rfl) (drOp1 (i := 14) rfl rfl rfl (want_none rfl _) (o_buildFd (E := eInt) (e := 3) [(.int .i64 (cmpL x.nd.l y.nd.l)), (.int .i64 (cmpL x.nd.r y.nd.r))] [cmpL x.nd.l y.nd.l, cmpL x.nd.r y.nd.r] Tryz.underlying57 sz3 zr3 (by exact reps2 (by rfl) (by rfl)) (ones2 (by rfl) (by rfl)) rfl rfl rfl rfl (by decide) hX32.pins (fun u33 w34 hdn39 ho35 hp36 hl37 hk38 => ?_)))
 have hX40 := hX32.step hp36 hl37
 have ho41 : Own eInt 3 G24 w34 w.heap.size u33 ([cmpL x.nd.l y.nd.l, cmpL x.nd.r y.nd.r]) := ho35.weaken hX32.size
 refine ⟨fun _ => hX40.pins, ?_⟩
 obtain ⟨G42, hle45, hX44, hr43, hf46⟩ := ho41.sealed hX40
 refine dr_one (i := 15) (by kernel_rfl) (drOp1 (i := 15) rfl rfl rfl (want_none rfl _) (o_call (vs := [u33]) Tryz.func106 nm106 rfl rfl rfl ?_))
 refine Calls.mono (cmpOr_spec hX44.pins hr43) ?_
 rintro _ _ ⟨rfl, rfl⟩
 refine ⟨_, rfl, ?_⟩
 refine ⟨fun _ => (Pins.of_le hX44.pins hle45), ?_⟩
 exact dr_take (i := 16) rfl rfl rfl (want_none rfl _) (by kernel_rfl) (fun _ _ => r_assign (v := (.int .i64 (orL ([cmpL x.nd.l y.nd.l, cmpL x.nd.r y.nd.r])))) rfl) (Pins.of_le hX44.pins hle45) (dr_end (by kernel_rfl) (s_then (wp_ret (s_ret (c_ret1 (v := (.int .i64 (orL ([cmpL x.nd.l y.nd.l, cmpL x.nd.r y.nd.r])))) rfl rfl rfl (⟨rfl, grow_of hX44.below (by omega)⟩))))))

theorem sortB_spec {w : World} {G : Pin} {p : Nat} {L R B : Value} {mm : PM} {q : PSt} (hP : Pins G w) (hpk : Pk 57 3 G w p L R B mm q) (hok : PoolOk q) {bx base : Nat} (hbx : BxP G bx [.pointer (some ⟨p, 0, none⟩)]) {v : Value} {zs : List Int} (hv : Own eInt 3 G w base v zs) (hz : ∀ z ∈ zs, PlaceOk q z) (hnp : NP p L R B mm v.ownBlock) (hl : zs.length ≤ 1048576) :
  Calls Tryz.prog 119 [v, (.func (.func 120) #[] #[(.pointer (some ⟨bx, 0, none⟩))])].toArray w fun en w' => ∃ ys : List Int, en = .returned (.tuple #[]) ∧ Own eInt 3 G w' base v ys ∧ ys.Perm zs ∧ (∀ i j, i < j → j < ys.length → bn q (ys.getD i 0) ≤ bn q (ys.getD j 0)) ∧ Ext (inO v.ownBlock) G w G w' := by
 have hnone : ∀ a cap, v = .slice a 0 cap → zs = [] → Calls Tryz.prog 119 [v, (.func (.func 120) #[] #[(.pointer (some ⟨bx, 0, none⟩))])].toArray w fun en w' => ∃ ys : List Int, en = .returned (.tuple #[]) ∧ Own eInt 3 G w' base v ys ∧ ys.Perm zs ∧ (∀ i j, i < j → j < ys.length → bn q (ys.getD i 0) ≤ bn q (ys.getD j 0)) ∧ Ext (inO v.ownBlock) G w G w' := by
  rintro a cap rfl rfl
  refine (Tryz.slices_SortFunc_none (α := Int) a cap _ w).mono ?_
  rintro en w' ⟨rfl, rfl⟩
  exact ⟨[], rfl, hv, List.Perm.refl _, fun i j _ hj => absurd hj (Nat.not_lt_zero j), Ext.refl hP⟩
 rcases own_cases hv with ⟨hv0, hz0⟩ | ⟨g, cap, hvg⟩
 ·exact hnone _ _ hv0 hz0
 by_cases h0 : zs.length = 0
 ·exact hnone _ _ (by rw [hvg, h0]) (List.eq_nil_of_length_eq_zero h0)
 subst hvg
 letI : Inhabited (Plc q) := ⟨⟨zs.getD 0 0, hz _ (getD_mem (by omega))⟩⟩
 obtain ⟨_, h1, h2, h3⟩ := own_holds hv
 obtain ⟨d, hd⟩ : ∃ d, d = (plcs q zs hz).toArray := ⟨_, rfl⟩
 have hdm : d.map (·.1) = zs.toArray := by rw [hd]; simp only [List.map_toArray]; rw [plcs_val hz]
 have hds : d.size = zs.length := by have := congrArg Array.size hdm; simpa using this
 have hH : Go.Sort.Holds (fun x : Plc q => Value.int .i64 x.1) w g 0 d := holds_map (enc' := Value.int .i64) (f := fun x : Plc q => x.1) (fun _ => rfl) (by rw [hdm]; exact h3)
 have hcmp : Go.Proofs.CmpLays1 Tryz.prog 120 #[(.pointer (some ⟨bx, 0, none⟩))] (fun x : Plc q => Value.int .i64 x.1) (cfB q) g 0 d.size w := fun m os dk hs x y => by
  have hgr : w.grownBy (Go.Proofs.sortWorld (fun x : Plc q => Value.int .i64 x.1) w g 0 m dk os) (some g) := by
   unfold Go.Proofs.sortWorld
   rw [putRow_map (enc := fun x : Plc q => Value.int .i64 x.1) (enc' := id) (f := fun x : Plc q => Value.int .i64 x.1) (fun _ => rfl)]
   exact grownBy_put
  have hx := Ext.one (hP.grown hgr (fun k hk => by cases hk; exact hv.free g rfl)) hgr
  exact cmpB_spec hx.pins (hpk.extS hx fun k hk hs => hnp k hs hk) hok hbx x.2 y.2
 have hcon := Tryz.slices_SortFunc (fun x : Plc q => Value.int .i64 x.1) (fun _ => rfl) (cfB q) (swoB q) 120 #[(.pointer (some ⟨bx, 0, none⟩))] g 0 cap d w (Go.Proofs.enters_of Tryz.func120 (by kernel_rfl) rfl) hcmp hH h1 (by omega)
 rw [hds] at hcon
 refine hcon.mono ?_
 rintro en w' ⟨rfl, d', n, os, hp, hs, hw⟩
 rw [← hds] at hp hs
 obtain ⟨hsz, hpl⟩ := perm_list hp
 have hyl : (d'.map (·.1)).toList.length = zs.length := by simp [hsz, hds]
 obtain ⟨a, b, c⟩ := own_put (w' := w') (ys := (d'.map (·.1)).toList) (d := d'.map (·.1)) (os := os) (m := n) hv hP (by rw [hw]; unfold Go.Proofs.sortWorld; rw [putRow_map (enc := fun x : Plc q => Value.int .i64 x.1) (enc' := Value.int .i64) (f := fun x : Plc q => x.1) (fun _ => rfl)]) (by simp [hsz, hds]) (List.take_length ..)
 rw [hyl] at a
 refine ⟨_, rfl, a, ?_, fun i j hij hj => ?_, Ext.one b c⟩
 ·have h5 := hpl.map (·.1)
  have e2 : d.toList.map (·.1) = zs := by rw [hd]; exact plcs_val hz
  rw [e2] at h5; simpa using h5
 ·rw [hyl] at hj
  have h5 := hs i j (Nat.zero_le _) hij (by omega)
  rw [ltB] at h5
  have g1 : ∀ i, i < zs.length → (d'.map (·.1)).toList.getD i 0 = (d'[i]!).1 := fun i hi => by
   rw [getElem!_pos d' i (by omega)]
   simp [List.getD, show i < d'.size by omega]
  rw [g1 i (by omega), g1 j hj]
  have := of_decide_eq_false h5
  omega

theorem sortE_spec {w : World} {G : Pin} {base lo hi : Nat} {v : Value} {es : List Ent} {LV : List Leaf} (hP : Pins G w) (hv : Own eEnt 139 G w base v es) (hL : Lvs 3 G w lo hi LV) (hm : ∀ x ∈ es, (x.l, x.nd.l) ∈ LV ∧ (x.r, x.nd.r) ∈ LV) (hap : ApL LV v.ownBlock) (hl : es.length ≤ 1048576) :
  Calls Tryz.prog 122 [v, (.func (.func 123) #[] #[])].toArray w fun en w' => ∃ ys : List Ent, en = .returned (.tuple #[]) ∧ Own eEnt 139 G w' base v ys ∧ ys.Perm es ∧ (∀ i j, i < j → j < ys.length → ¬ aheadI (ys.getD j default).nd (ys.getD i default).nd < 0) ∧ Ext (inO v.ownBlock) G w G w' := by
 have hnone : ∀ a cap, v = .slice a 0 cap → es = [] → Calls Tryz.prog 122 [v, (.func (.func 123) #[] #[])].toArray w fun en w' => ∃ ys : List Ent, en = .returned (.tuple #[]) ∧ Own eEnt 139 G w' base v ys ∧ ys.Perm es ∧ (∀ i j, i < j → j < ys.length → ¬ aheadI (ys.getD j default).nd (ys.getD i default).nd < 0) ∧ Ext (inO v.ownBlock) G w G w' := by
  rintro a cap rfl rfl
  refine (Tryz.slices_SortFunc_ent_none (α := Int) a cap _ w).mono ?_
  rintro en w' ⟨rfl, rfl⟩
  exact ⟨[], rfl, hv, List.Perm.refl _, fun i j _ hj => absurd hj (Nat.not_lt_zero j), Ext.refl hP⟩
 rcases own_casesF hv with ⟨hv0, hz0⟩ | ⟨g, cap, hvg⟩
 ·exact hnone _ _ hv0 hz0
 by_cases h0 : es.length = 0
 ·exact hnone _ _ (by rw [hvg, h0]) (List.eq_nil_of_length_eq_zero h0)
 subst hvg
 have hz : ∀ x ∈ es, EntOk (GLv G w LV) x := fun x hx => ⟨hL.read (hm x hx).1, hL.read (hm x hx).2, (hL.own _ (hm x hx).1).one, (hL.own _ (hm x hx).2).one⟩
 letI : Inhabited (EntS (GLv G w LV)) := ⟨⟨es.getD 0 default, hz _ (getD_mem (by omega))⟩⟩
 obtain ⟨_, h1, cells, hcl, hr, hH0⟩ := own_cellsF hv
 obtain ⟨d, hd⟩ : ∃ d, d = (ents (GLv G w LV) es hz).toArray := ⟨_, rfl⟩
 have hdm : d.toList.map (·.1) = es := by rw [hd]; exact ents_val hz
 have hds : d.size = es.length := by have := congrArg List.length hdm; simpa using this
 have hdi : ∀ i, i < d.size → (d[i]!).1 = es.getD i default := fun i hi => by
  rw [getElem!_pos d i hi]
  have := congrArg (fun l : List Ent => l[i]?) hdm
  simp only [List.getElem?_map, Array.getElem?_toList, Array.getElem?_eq_getElem hi, Option.map_some] at this
  simp [List.getD, ← this]
 have hflat : Go.Sort.flatK (encE (G := GLv G w LV)) 3 d = cells.toArray := flatK_cells (by rw [hds]; exact hcl) fun i hi => by
  have h4 := hr i (es.getD i default) (by simp [List.getD, show i < es.length by omega])
  have h5 : (cells.drop (i * 3)).take 3 = [.int .i64 (es.getD i default).id, (es.getD i default).l, (es.getD i default).r] := h4.1
  rw [h5, ← hdi i hi]; rfl
 have hH : Go.Sort.HoldsK (encE (G := GLv G w LV)) 3 w g 0 d := by unfold Go.Sort.HoldsK; rw [hflat]; exact hH0
 have hcmp : Go.Proofs.CmpLays Tryz.prog 123 #[] (encE (G := GLv G w LV)) 3 cfE g 0 d.size w := fun m os dk hs x y => by
  have hgr : w.grownBy (Go.Proofs.sortWorldK (encE (G := GLv G w LV)) 3 w g 0 m dk os) (some g) := by
   unfold Go.Proofs.sortWorldK Go.Sort.putRowK
   exact grownBy_put
  have hpp : Pins (GLv G w LV) (Go.Proofs.sortWorldK (encE (G := GLv G w LV)) 3 w g 0 m dk os) := (GLv.pins hP).grown hgr fun k hk o u hG => by
   cases hk
   rcases hG with hG | ⟨⟨p, hp, hpo⟩, _⟩
   ·exact hv.free g rfl o u hG
   ·exact hap p hp g hpo rfl
  exact cmpE_spec hpp x.2 y.2
 have hcon := Tryz.slices_SortFunc_ent 3 (Go.GL.run_isAgg (by kernel_rfl)) (Go.GL.run_sizeOf (by kernel_rfl)) (encE (G := GLv G w LV)) (fun _ => rfl) (fun x u hu => by
  simp only [encE, List.mem_cons, List.not_mem_nil, or_false] at hu
  rcases hu with rfl | rfl | rfl
  ·rfl
  ·exact x.2.2.2.1
  ·exact x.2.2.2.2) cfE (swoE _) 123 #[] g 0 cap d w (Go.Proofs.enters_of Tryz.func123 (by kernel_rfl) rfl) hcmp hH h1 (by omega)
 rw [hds] at hcon
 refine hcon.mono ?_
 rintro en w' ⟨rfl, d', n, os, hp, hs, hw⟩
 rw [← hds] at hp hs
 obtain ⟨hsz, hpl⟩ := perm_list hp
 have hyl : (d'.toList.map (·.1)).length = es.length := by simp [hsz, hds]
 have g1 : ∀ i, i < es.length → (d'.toList.map (·.1)).getD i default = (d'[i]!).1 := fun i hi => by
  rw [getElem!_pos d' i (by omega)]
  simp [List.getD, show i < d'.size by omega]
 obtain ⟨a, b, c⟩ := own_putF (ys := d'.toList.map (·.1)) (F := Go.Sort.flatK (encE (G := GLv G w LV)) 3 d') (os := os) (m := n) hv hP hw (by rw [Go.Sort.size_flatK, hsz, hds]; rfl) hyl (fun i y hy => by
  have hi : i < es.length := by have := (List.getElem?_eq_some_iff.1 hy).1; omega
  have e1 := g1 i hi
  have e0 : (d'.toList.map (·.1)).getD i default = y := by rw [List.getD_eq_getElem?_getD, hy]; rfl
  have e2 : y = (d'[i]!).1 := e0.symm.trans e1
  have h5 := chunkK (enc := encE (G := GLv G w LV)) (k := 3) (fun _ => rfl) (d := d') (i := i) (by omega)
  refine ⟨h5.trans ?_, ?_, ?_⟩
  ·rw [e2]; rfl
  ·rw [e2]; exact (d'[i]!).2.2.2.1
  ·rw [e2]; exact (d'[i]!).2.2.2.2)
 refine ⟨_, rfl, a, ?_, fun i j hij hj => ?_, Ext.one b c⟩
 ·have h5 := hpl.map (·.1)
  rw [hdm] at h5; exact h5
 ·rw [hyl] at hj
  have h5 := hs i j (Nat.zero_le _) hij (by omega)
  rw [ltE] at h5
  rw [g1 i (by omega), g1 j hj]
  exact of_decide_eq_false h5

end SO1
end Go.Proofs.YtkfgdhanaijddaaGreatDoor

set_option maxRecDepth 20000
set_option maxHeartbeats 2000000
namespace Go.Proofs.YtkfgdhanaijddaaGreatDoor
namespace OD1
open Go.RowKit Go.GL Go.Proofs
open Go.Proofs.YtkfgdhanaijddaaGreatDoor.B1
open Go.Proofs.YtkfgdhanaijddaaGreatDoor.PO1
open Go.Proofs.YtkfgdhanaijddaaGreatDoor.PA1
open Go.Proofs.YtkfgdhanaijddaaGreatDoor.SO1








theorem mk3 : (Tryz.prog.info? 3).map (fun i => (i.size, i.bytes, i.zero)) = some (1, 8, some (.int .i64 0)) := by kernel_rfl
theorem mk68 : (Tryz.prog.info? 68).map (fun i => (i.size, i.bytes, i.zero)) = some (2, 48, some (.agg #[(.slice none 0 0), (.slice none 0 0)])) := by kernel_rfl









theorem pl139 : (Tryz.prog.underlying 139).bind (placesD Tryz.prog) = some [(0, 1), (1, 2)] := by kernel_rfl
theorem pl68 : (Tryz.prog.underlying 68).bind (placesD Tryz.prog) = some [(0, 1), (1, 1)] := by kernel_rfl







theorem ranked_spec {w : World} {G : Pin} {v : Value} {xs : List Int} {m : Nat} {rk : List (Int × Int)} (hP : Pins G w) (hv : RSl eInt G v xs) (hmp : Mp (fun k : Int => Value.int .i64 k) (fun v : Int => Value.int .i64 v) w m rk) (hs : xs.length ≤ 1048576) :
  Calls Tryz.prog 121 [v, (.map (some m))].toArray w fun e w' => ∃ (u : Value) (G' : Pin), e = .returned u ∧ Own eInt 3 G' w' w.heap.size u (sortM (xs.map (rkI rk))) ∧ Ext noS G w G' w' := by
 refine s_enter (n := 28) Tryz.func121 Tryz.ntmps121 rfl rfl ?_
 have hX0 : Ext noS G w G w := Ext.refl hP
 have hm := hv.max
 have hal : (xs.map (rkI rk)).length = xs.length := List.length_map ..
 have hrl : (List.replicate xs.length (0 : Int)).length = xs.length := List.length_replicate
 refine s_seq (c_reg ?_)
 refine qd rfl rfl rfl (r_assign (v := (.slice none 0 0)) rfl) (qe (s_then (s_seq (c_reg ?_))))
 refine qd rfl rfl rfl (r_move (v := v) rfl) (qd rfl rfl rfl (run_len Tryz.underlying57 (v := v) rfl hv) (q1 rfl rfl rfl (o_make (E := eInt) 0 8 (.int .i64 0) Tryz.underlying57 mk3 (fun _ => rfl) rfl rfl hX0.pins (by omega) (by omega) (by omega) (fun u1 w2 ho3 hp4 hl5 hk6 => ?_))))
 have hX7 := hX0.step hp4 hl5
 have hm8 := hmp.below hl5
 have ho9 : Own eInt 3 G w2 w.heap.size u1 (List.replicate xs.length 0) := ho3.weaken hX0.size
 have hm10 : (List.replicate xs.length 0).length = xs.length := List.length_replicate ..
 refine qd rfl rfl rfl (r_assign (v := u1) rfl) (qe (s_then (s_seq (s_seq (c_reg ?_)))))
 refine qd rfl rfl rfl (r_move (v := v) rfl) (qd rfl rfl rfl (run_len Tryz.underlying57 (v := v) rfl hv) (qd rfl rfl rfl (r_move (v := (.int .i64 0)) rfl) (qe (s_then ?_))))
 refine s_blk (s_loop (fun (k : Nat) (en : Nat → Value) (W : World) => ∃ (env1 : Nat → Value) (j : Nat) (os : List Int), en = (upd (upd (upd (upd (upd (upd env1 1 (.map (some m))) 4 (.slice none 0 0)) 5 u1) 11 v) 12 (.int .i64 (xs.length : Int))) 13 (.int .i64 (j : Int))) ∧ k = xs.length - j ∧ Ext noS G w G W ∧ (j ≤ xs.length) ∧ (os = (xs.map (rkI rk)).take j ++ (List.replicate xs.length 0).drop j) ∧ (os.length = xs.length) ∧ (Own eInt 3 G W w.heap.size u1 (os)) ∧ (Mp (fun k : Int => Value.int .i64 k) (fun v : Int => Value.int .i64 v) W m (rk))) _ ⟨_, 0, List.replicate xs.length 0, (packS (x := 13) (packS (x := 12) (packS (x := 11) (packS (x := 5) (packS (x := 4) (pack1 (x := 1) rfl) rfl) rfl) rfl) rfl) rfl), rfl, hX7, Nat.zero_le _, rfl, hrl, ho9, hm8⟩ ?_)
 rintro k11 _ w12 ⟨env1, j, os, rfl, hk13, hX14, hj, hr, hol, hw15, hm16⟩
 refine s_seq (c_reg ?_)
 refine qd rfl rfl rfl (r_lss rfl rfl) (qe (s_then (s_seq ?_)))
 refine c_ifd (p := ((j : Int) : Int) < (xs.length : Int)) rfl rfl (fun h17 => ?_) (fun h17 => ?_)
 refine wp_skip (s_then (s_seq ?_))
 refine s_blk (s_seq (c_reg ?_))
 refine qd rfl rfl rfl (r_move (v := (.int .i64 (j : Int))) rfl) (qd rfl rfl rfl (run_idx Tryz.underlying57 sz3 (v := v) rfl rfl hv (by omega) (by omega)) (qd rfl rfl rfl (run_load_int (r := xs.getD j 0) rfl ag3 (z := (j : Int)) rfl hv hX14.pins (by omega) (by omega)) (qd rfl rfl rfl (r_assign (v := (.int .i64 (j : Int))) rfl) (qd rfl rfl rfl (r_assign (v := (.int .i64 (xs.getD j 0))) rfl) (qe (s_then (c_reg ?_)))))))
 refine qd rfl rfl rfl (r_move (v := u1) rfl) (qd rfl rfl rfl (r_move (v := (.int .i64 (j : Int))) rfl) (qd rfl rfl rfl (r_move (v := (.map (some m))) rfl) (qd rfl rfl rfl (r_move (v := (.int .i64 (xs.getD j 0))) rfl) (qd rfl rfl rfl (run_look1_int (k := (xs.getD j 0)) (key_int Tryz.underlying3) Tryz.underlying113 zr3 hm16 rfl rfl) (qd rfl rfl rfl (run_idx Tryz.underlying57 sz3 (v := u1) rfl rfl hw15.read (by omega) (by omega)) (q0 rfl rfl rfl (o_set (E := eInt) (v := u1) (u := (.int .i64 ((Go.GL.look rk (xs.getD j 0)).getD 0))) (z := (j : Int)) ((Go.GL.look rk (xs.getD j 0)).getD 0) sz3 rfl rfl rfl rfl hX14.pins hw15 (by omega) (by omega) (fun w18 ho19 hp20 hg21 hz22 => ?_))))))))
 have hX23 := hX14.write hp20 hg21 ((lo_own hw15))
 have hm24 := hm16.kept hg21 (map_ne_own hm16 hw15)
 refine qe (s_blkN (s_then (c_reg ?_)))
 refine qd rfl rfl rfl (r_add rfl rfl (by omega)) (qd rfl rfl rfl (r_move (v := (.int .i64 ((j : Int) + 1))) rfl) (qe (s_lopN (⟨_, ?_, _, rfl, _, j + 1, (os).set j ((Go.GL.look rk (xs.getD j 0)).getD 0), (packS (x := 13) (packS (x := 12) (packS (x := 11) (packS (x := 5) (packS (x := 4) (pack1 (x := 1) rfl) rfl) rfl) rfl) rfl) rfl), rfl, hX23, (by omega), (by rw [hr]; exact cur_set 0 (by omega) (by omega) (rk_getD (by omega))), ((List.length_set ..).trans hol), ho19, hm24⟩))))
 omega
 refine wp_exit (s_thenE (s_lopE (s_blkE (s_then (s_seq (c_reg ?_))))))
 refine qd rfl rfl rfl (r_move (v := u1) rfl) (q1 rfl rfl rfl (o_call (vs := [u1]) Tryz.func150 nm150 rfl rfl rfl ?_))
 refine Calls.mono (sortI_spec hX14.pins hw15 (by omega)) ?_
 rintro _ w26 ⟨G25, rfl, ho27, hx28⟩
 refine ⟨_, rfl, ?_⟩
 have hX29 := hX14.trans hx28 (fun i hi => (lo_own hw15) i hi)
 have hm31 := sortM_length os
 refine qe (s_then (s_seq (c_reg ?_)))
 refine qd rfl rfl rfl (r_move (v := u1) rfl) (qd rfl rfl rfl (r_assign (v := u1) rfl) (qe (s_then ?_)))
 refine wp_ret (s_ret (c_ret1 (v := u1) rfl rfl rfl ?_))
 rw [cur_end (by omega) (by omega)] at hr
 exact ⟨_, _, rfl, (by rw [← hr]; exact ho27), hX29⟩

theorem order_spec {w : World} {G : Pin} {p : Nat} {L R B : Value} {mm : PM} {q : PSt} (hP : Pins G w) (hpk : Pk 57 3 G w p L R B mm q) (hok : PoolOk q) {x : Value} {xs : List Int} (hx : RSl eInt G x xs) (hr : ∀ i, i < xs.length → PlaceOk q (xs.getD i 0)) (hxl : xs.length ≤ 1048576) :
  Calls Tryz.prog 65 [(.pointer (some ⟨p, 0, none⟩)), x].toArray w fun e w' => ∃ (u v : Value) (ls : List Int) (ns : List Nd) (zs : List Int) (G' : Pin), e = .returned (.tuple #[u, v]) ∧ Own eInt 3 G' w' w.heap.size u ls ∧ DForm 68 3 G' w' w.heap.size w'.heap.size v ns ∧ OrI q zs ls ls.length ns ∧ PtOk q xs zs zs.length ∧ Ext noS G w G' w' := by
 refine s_enter (n := 122) Tryz.func65 Tryz.ntmps65 rfl rfl ?_
 have hX0 : Ext noS G w G w := Ext.refl hP
 have hpin : PIn w (inP p L R B mm) p L R B mm := PIn.self
 have hml1 : (q.ns.map Nd.l).length = q.ns.length ∧ (q.ns.map Nd.r).length = q.ns.length := ⟨List.length_map .., List.length_map ..⟩
 have hml2 : q.bs.length = q.ns.length ∧ q.ns.length ≤ 1048576 := ⟨hok.ar.ok.len, hok.ar.ok.lim⟩
 have hlv0 : Lvs 3 G w w.heap.size w.heap.size [] := Lvs.nil
 have hm := hx.max
 refine s_seq (c_reg ?_)
 refine q1 rfl rfl rfl (o_box [(.pointer (some ⟨p, 0, none⟩))] (v := (.pointer (some ⟨p, 0, none⟩))) rfl rfl hX0.pins (fun b3 w4 hk5 hb6 hp7 hl8 => ?_))
 have hX9 := hX0.step hp7 hl8
 have hlv10 := (hlv0.below hl8).top
 have hpk11 := hpk.below hl8 hp7
 have ha16 : ApL [] (some b3) := ApL.fresh hlv0 (fun k hk => by rw [(congrArg some hk5)] at hk; cases hk; exact Nat.le_refl _)
 have ha17 := hpk.new (x := (some b3)) (fun k hk => by rw [(congrArg some hk5)] at hk; cases hk; exact Nat.le_refl _)
 have hlo18 : w.heap.size ≤ b3 := by have := hX0.size; omega
 obtain ⟨G19, hle20, hX21, hbp22, hf23⟩ := hb6.shut hX9 hlo18
 have hlv24 := hlv10.more hle20 hf23 ha16
 have hpk25 := hpk11.more hle20 hf23 ha17
 refine qd rfl rfl rfl (r_assign (v := (.slice none 0 0)) rfl) (qd rfl rfl rfl (r_assign (v := (.slice none 0 0)) rfl) (qe (s_then (s_seq (c_reg ?_)))))
 refine qd rfl rfl rfl (r_ldp1 (u := (.pointer (some ⟨p, 0, none⟩))) ag69 rfl (hX21.pins _ _ _ (hbp22 0 _ rfl))) (qd rfl rfl rfl (r_move (v := x) rfl) (q1 rfl rfl rfl (o_call (vs := [(.pointer (some ⟨p, 0, none⟩)), x]) Tryz.func101 nm101 rfl rfl rfl ?_)))
 refine Calls.mono (parts_spec hX21.pins hpk25 hok (hx.mono hle20) hr hxl) ?_
 rintro _ w29 ⟨u26, zs27, G28, rfl, ho30, hpt31, hx32⟩
 refine ⟨_, rfl, ?_⟩
 have hX33 := hX21.tr hx32
 have hlv34 := (hlv24.ext hx32).top
 have hpk35 := hpk25.ext hx32
 have ha36 : ApL [] u26.ownBlock := ApL.fresh hlv24 (fun k hk => (ho30.lt k hk).1)
 have hnp37 := hpk25.new (x := u26.ownBlock) (fun k hk => (ho30.lt k hk).1)
 have ho38 : Own eInt 3 G28 w29 w.heap.size u26 zs27 := ho30.weaken hX21.size
 have hql39 := hpt31.len
 refine qd rfl rfl rfl (r_assign (v := u26) rfl) (qe (s_then (s_seq (c_reg ?_))))
 refine qd rfl rfl rfl (r_move (v := u26) rfl) (qd rfl rfl rfl (r_makeFunc [(.pointer (some ⟨b3, 0, none⟩))] rfl) (q1 rfl rfl rfl (o_call (vs := [u26, (.func (.func 120) #[] #[(.pointer (some ⟨b3, 0, none⟩))])]) Tryz.func119 nm119 rfl rfl rfl ?_)))
 refine Calls.mono (sortB_spec hX33.pins hpk35 hok (hbp22.mono hx32.le) ho38 hpt31.pl hnp37 (by omega)) ?_
 rintro _ w41 ⟨ys40, rfl, ho42, hperm43, hsrt44, hx45⟩
 refine ⟨_, rfl, ?_⟩
 have hX46 := hX33.trans hx45 (fun i hi => (lo_own ho38) i hi)
 have hlv47 := Lvs.turned hlv34 hx45 ha36
 have hpk48 := hpk35.extS hx45 (fun k hk hx => hnp37 k hx hk)
 have hm49 := hperm43.length_eq
 refine qe (s_then (s_seq (c_reg ?_)))
 refine q1 rfl rfl rfl (o_makeMap (fun k : Int => Value.int .i64 k) (fun v : Int => Value.int .i64 v) hX46.pins (fun m50 w51 hk52 hm53 hp54 hl55 => ?_))
 have hX56 := hX46.step hp54 hl55
 have ho57 := ho42.below hl55
 have hlv58 := (hlv47.below hl55).top
 have hpk59 := hpk48.below hl55 hp54
 have hnp60 := hpk48.new (x := some m50) (fun k hk => by cases hk; omega)
 have hlo61 : w.heap.size ≤ m50 := by have := hX46.size; omega
 refine qd rfl rfl rfl (r_assign (v := (.map (some m50))) rfl) (qe (s_then (s_seq (c_reg ?_))))
 refine qd rfl rfl rfl (r_move (v := u26) rfl) (qd rfl rfl rfl (run_len Tryz.underlying57 (v := u26) rfl ho57.read) (q1 rfl rfl rfl (o_make0 (E := eVal2) Tryz.underlying26 mk68 rfl rfl hX56.pins (by omega) (by omega) (by omega) (fun u62 w63 ho64 hp65 hl66 hk67 => ?_))))
 have hX68 := hX56.step hp65 hl66
 have ho69 := ho57.below hl66
 have hlv70 := (hlv58.below hl66).top
 have hm71 := hm53.below hl66
 have hpk72 := hpk59.below hl66 hp65
 have ha73 : Apart u62.ownBlock u26.ownBlock := new_ne_own hk67 ho57.lt
 have ha78 : ApL [] u62.ownBlock := ApL.fresh hlv58 (fun k hk => by rw [hk67] at hk; cases hk; exact Nat.le_refl _)
 have ha79 := hpk59.new (x := u62.ownBlock) (fun k hk => by rw [hk67] at hk; cases hk; exact Nat.le_refl _)
 have ho80 : Own eVal2 68 G28 w63 w.heap.size u62 ([]) := ho64.weaken hX56.size
 refine qd rfl rfl rfl (r_assign (v := u62) rfl) (qe (s_then (s_seq (s_seq (c_reg ?_)))))
 refine qd rfl rfl rfl (r_assign (v := (.int .i64 0)) rfl) (qe (s_then ?_))
 refine s_blk (s_loop (fun (k : Nat) (en : Nat → Value) (W : World) => ∃ (env1 : Nat → Value) (n : Nat) (nv : Value) (done : List Ent) (ps : List (Value × Value)) (rk : List (Int × Int)) (LV : List Leaf) (ls : List Int) (GL1 : Pin), en = (upd (upd (upd (upd (upd (upd (upd env1 2 (.pointer (some ⟨b3, 0, none⟩))) 4 (.slice none 0 0)) 5 (.slice none 0 0)) 6 u26) 7 (.map (some m50))) 8 nv) 9 (.int .i64 (n : Int))) ∧ k = ls.length - n ∧ Ext noS G w GL1 W ∧ Pin.le G28 GL1 ∧ (OrI q zs27 ls n (done.map Ent.nd)) ∧ (RkOk ls n rk) ∧ (LV.Perm (lvE done)) ∧ (ps = done.map Ent.pr) ∧ (Own eInt 3 GL1 W w.heap.size u26 (ls)) ∧ (Own eVal2 68 GL1 W w.heap.size nv (ps)) ∧ (Apart u26.ownBlock nv.ownBlock) ∧ (Lvs 3 GL1 W w.heap.size W.heap.size LV) ∧ (ApL LV u26.ownBlock) ∧ (ApL LV nv.ownBlock) ∧ (Mp (fun k : Int => Value.int .i64 k) (fun v : Int => Value.int .i64 v) W m50 (rk)) ∧ (Pk 57 3 GL1 W p L R B mm q) ∧ (NP p L R B mm nv.ownBlock)) _ ⟨_, 0, u62, [], [], [], [], ys40, G28, (packS (x := 9) (packS (x := 8) (packS (x := 7) (packS (x := 6) (packS (x := 5) (packS (x := 4) (pack1 (x := 2) rfl) rfl) rfl) rfl) rfl) rfl) rfl), rfl, hX68, Pin.le_refl _, (OrI.start hperm43 hsrt44), (fun i hi => absurd hi (Nat.not_lt_zero i)), (List.Perm.refl _), rfl, ho69, ho80, ha73.symm, hlv70, ha36, ha78, hm71, hpk72, ha79⟩ ?_)
 rintro k85 _ w86 ⟨env1, n, nv, done, ps, rk, LV, ls, GL1, rfl, hk87, hX88, hlek85, hor, hrk, hLV, hps, hw89, hw90, ha91, hlv92, ha93, ha94, hm95, hpk96, hnp97⟩
 have hll := hor.perm.length_eq
 have hnl := hor.nl
 have hdl : done.length = n := by have := hor.len; simpa using this
 have hpsl : ps.length = n := by rw [hps, List.length_map]; exact hdl
 have hplk : ∀ i, i < ls.length → 0 ≤ ls.getD i 0 ∧ ls.getD i 0 < q.ns.length := fun i hi => hpt31.pl _ (hor.mem.1 (getD_mem hi))
 refine s_seq (s_seq (c_reg ?_))
 refine qd rfl rfl rfl (r_move (v := (.int .i64 (n : Int))) rfl) (qd rfl rfl rfl (r_move (v := u26) rfl) (qd rfl rfl rfl (run_len Tryz.underlying57 (v := u26) rfl hw89.read) (qd rfl rfl rfl (r_lss rfl rfl) (qe (s_then ?_)))))
 refine c_ifd (p := ((n : Int) : Int) < (ls.length : Int)) rfl rfl (fun h98 => ?_) (fun h98 => ?_)
 have hzn := hplk n (by omega)
 refine wp_skip (s_then (s_blk (s_seq (c_reg ?_))))
 refine q1 rfl rfl rfl (o_build0 (E := eEnt) (e := 139) Tryz.underlying136 sz139 hX88.pins (fun u99 w100 ho101 hp102 hl103 hk104 => ?_))
 have hX105 := hX88.step hp102 hl103
 have ho106 := hw89.below hl103
 have ho107 := hw90.below hl103
 have hlv108 := (hlv92.below hl103).top
 have hm109 := hm95.below hl103
 have hpk110 := hpk96.below hl103 hp102
 have ha111 : Apart u99.ownBlock u26.ownBlock := new_ne_own hk104 hw89.lt
 have ha112 : Apart u99.ownBlock nv.ownBlock := new_ne_own hk104 hw90.lt
 have ha117 : ApL LV u99.ownBlock := ApL.fresh hlv92 (fun k hk => by rw [hk104] at hk; cases hk; exact Nat.le_refl _)
 have ha118 := hpk96.new (x := u99.ownBlock) (fun k hk => by rw [hk104] at hk; cases hk; exact Nat.le_refl _)
 have ho119 : Own eEnt 139 GL1 w100 w.heap.size u99 ([]) := ho101.weaken hX88.size
 refine qd rfl rfl rfl (r_assign (v := u99) rfl) (qe (s_then (s_seq (s_seq (c_reg ?_)))))
 refine qd rfl rfl rfl (r_move (v := (.int .i64 (n : Int))) rfl) (qd rfl rfl rfl (r_assign (v := (.int .i64 (n : Int))) rfl) (qe (s_then ?_)))
 refine s_blk (c_cutE (fun (en : Nat → Value) (W : World) => ∃ (env1 : Nat → Value) (kk : Nat) (gv : Value) (gs : List Ent) (LV2 : List Leaf) (GL2 : Pin), en = (upd (upd (upd (upd (upd (upd (upd (upd (upd env1 2 (.pointer (some ⟨b3, 0, none⟩))) 4 (.slice none 0 0)) 5 (.slice none 0 0)) 6 u26) 7 (.map (some m50))) 8 nv) 9 (.int .i64 (n : Int))) 10 gv) 11 (.int .i64 (kk : Int))) ∧ Ext noS G w GL2 W ∧ Pin.le GL1 GL2 ∧ (kk = n + gs.length) ∧ (GrI q ls n (gs.map Ent.gn)) ∧ (LV2.Perm (lvE done ++ lvE gs)) ∧ (n + gs.length = ls.length ∨ bn q (ls.getD (n + gs.length) 0) ≠ bn q (ls.getD n 0)) ∧ (Own eEnt 139 GL2 W w.heap.size gv (gs)) ∧ (Own eInt 3 GL2 W w.heap.size u26 (ls)) ∧ (Own eVal2 68 GL2 W w.heap.size nv (ps)) ∧ (Apart gv.ownBlock u26.ownBlock) ∧ (Apart gv.ownBlock nv.ownBlock) ∧ (Lvs 3 GL2 W w.heap.size W.heap.size LV2) ∧ (ApL LV2 gv.ownBlock) ∧ (ApL LV2 u26.ownBlock) ∧ (ApL LV2 nv.ownBlock) ∧ (Mp (fun k : Int => Value.int .i64 k) (fun v : Int => Value.int .i64 v) W m50 (rk)) ∧ (Pk 57 3 GL2 W p L R B mm q) ∧ (NP p L R B mm gv.ownBlock)) 2 ?_ ?_)
 ·rintro _ w125 ⟨env1, kk, gv, gs, LV2, GL2, rfl, hX127, hlek124, hkk, hgr, hLV2, hend, hw128, hw129, hw130, ha131, ha132, hlv133, ha134, ha135, ha136, hm137, hpk138, hnp139⟩
  have hgl := hgr.le
  rw [List.length_map] at hgl
  have hg1 : 0 < gs.length := Nat.pos_of_ne_zero fun h => hend.elim (fun e => by omega) (fun e => by rw [h] at e; exact e rfl)
  refine s_blkE (s_then (s_seq (c_reg ?_)))
  refine qd rfl rfl rfl (r_move (v := gv) rfl) (q1 rfl rfl rfl (o_call (vs := [gv, (.func (.func 123) #[] #[])]) Tryz.func122 nm122 rfl rfl rfl ?_))
  refine Calls.mono (sortE_spec hX127.pins hw128 hlv133 (fun x hx => ⟨hLV2.mem_iff.2 (List.mem_append_right _ (lvE_mem hx).1), hLV2.mem_iff.2 (List.mem_append_right _ (lvE_mem hx).2)⟩) ha134 (by omega)) ?_
  rintro _ w141 ⟨gs140, rfl, ho142, hperm143, hasc144, hx145⟩
  refine ⟨_, rfl, ?_⟩
  have hX146 := hX127.trans hx145 (fun i hi => (lo_own hw128) i hi)
  have ho147 := hw129.extS hx145 (notO ha131.symm)
  have ho148 := hw130.extS hx145 (notO ha132.symm)
  have hlv149 := Lvs.turned hlv133 hx145 ha134
  have hm150 := hm137.extS hx145 (notOb (map_ne_own hm137 hw128))
  have hpk151 := hpk138.extS hx145 (fun k hk hx => hnp139 k hx hk)
  have hm152 := hperm143.length_eq
  refine qe (s_then (s_seq (s_seq (c_reg ?_))))
  refine qd rfl rfl rfl (r_move (v := gv) rfl) (qd rfl rfl rfl (run_len Tryz.underlying136 (v := gv) rfl ho142.read) (qd rfl rfl rfl (r_move (v := (.int .i64 0)) rfl) (qe (s_then ?_))))
  refine s_blk ?_
  have hgp : (gs140.map Ent.gn).Perm (gs.map Ent.gn) := hperm143.map _
  have hgl2 : n + gs140.length ≤ ls.length := by omega
  have hRl : (regroup ls n (gs140.map Ent.gn)).length = ls.length := regroup_length (by rw [List.length_map]; omega)
  have hRn : (regroup ls n (gs140.map Ent.gn)).Nodup := (regroup_perm hgr hgp).nodup_iff.2 (hor.perm.nodup_iff.2 hpt31.nd)
  refine s_loop (fun (k : Nat) (en : Nat → Value) (W : World) => ∃ (env1 : Nat → Value) (j : Nat) (nv3 : Value) (ls3 : List Int) (ps3 : List (Value × Value)) (rk3 : List (Int × Int)) (GL3 : Pin), en = (upd (upd (upd (upd (upd (upd (upd (upd (upd (upd (upd env1 2 (.pointer (some ⟨b3, 0, none⟩))) 4 (.slice none 0 0)) 5 (.slice none 0 0)) 6 u26) 7 (.map (some m50))) 8 nv3) 9 (.int .i64 (n : Int))) 10 gv) 90 gv) 91 (.int .i64 (gs140.length : Int))) 92 (.int .i64 (j : Int))) ∧ k = gs140.length - j ∧ Ext noS G w GL3 W ∧ Pin.le GL2 GL3 ∧ (j ≤ gs140.length) ∧ (ls3 = ls.take n ++ (gs140.take j).map Ent.id ++ ls.drop (n + j)) ∧ (RkOk (regroup ls n (gs140.map Ent.gn)) (n + j) rk3) ∧ (ps3 = (done ++ gs140.take j).map Ent.pr) ∧ (Own eInt 3 GL3 W w.heap.size u26 (ls3)) ∧ (Own eVal2 68 GL3 W w.heap.size nv3 (ps3)) ∧ (Own eEnt 139 GL3 W w.heap.size gv (gs140)) ∧ (Apart u26.ownBlock nv3.ownBlock) ∧ (Apart nv3.ownBlock gv.ownBlock) ∧ (Lvs 3 GL3 W w.heap.size W.heap.size LV2) ∧ (ApL LV2 u26.ownBlock) ∧ (ApL LV2 nv3.ownBlock) ∧ (ApL LV2 gv.ownBlock) ∧ (Mp (fun k : Int => Value.int .i64 k) (fun v : Int => Value.int .i64 v) W m50 (rk3)) ∧ (Pk 57 3 GL3 W p L R B mm q) ∧ (NP p L R B mm nv3.ownBlock)) _ ⟨_, 0, nv, ls, ps, rk, GL2, (packS (x := 92) (packS (x := 91) (packS (x := 90) (packS (x := 10) (packS (x := 9) (packS (x := 8) (packS (x := 7) (packS (x := 6) (packS (x := 5) (packS (x := 4) (pack1 (x := 2) rfl) rfl) rfl) rfl) rfl) rfl) rfl) rfl) rfl) rfl) rfl), rfl, hX146, Pin.le_refl _, Nat.zero_le _, (by simp), (hrk.reg hgl2), (by rw [List.take_zero, List.append_nil]; exact hps), ho147, ho148, ho142, ha91, ha132.symm, hlv149, ha135, ha136, ha134, hm150, hpk151, hnp97⟩ ?_
  rintro k157 _ w158 ⟨env1, j, nv3, ls3, ps3, rk3, GL3, rfl, hk159, hX160, hlek157, hj, hls3, hrk3, hps3, hw161, hw162, hw163, ha164, ha165, hlv166, ha167, ha168, ha169, hm170, hpk171, hnp172⟩
  have hl3 : ls3.length = ls.length := by rw [hls3]; simp; omega
  have hps3l : ps3.length = n + j := by rw [hps3]; simp; omega
  refine s_seq (c_reg ?_)
  refine qd rfl rfl rfl (r_lss rfl rfl) (qe (s_then (s_seq ?_)))
  refine c_ifd (p := ((j : Int) : Int) < (gs140.length : Int)) rfl rfl (fun h173 => ?_) (fun h173 => ?_)
  refine wp_skip (s_then (s_seq ?_))
  refine s_blk (s_seq (c_reg ?_))
  refine qd rfl rfl rfl (r_move (v := (.int .i64 (j : Int))) rfl) (qd rfl rfl rfl (run_idx Tryz.underlying136 sz139 (v := gv) rfl rfl hw163.read (by omega) (by omega)) ?_)
  obtain ⟨cs174, hrep175, hagg176, hcell177⟩ := nm_el (j := j) default (hw163.at (z := (j : Int)) (by omega) (by omega)) rfl
  obtain ⟨rfl, hone178, hone179⟩ := hrep175
  refine qd rfl rfl rfl (hagg176 ag139 sz139 rfl (Gadd.pins hX160.pins gv)) (q1 rfl rfl rfl (o_alloc [(.int .i64 0), (.slice none 0 0), (.slice none 0 0)] zr139 rfl hX160.pins (fun b180 w181 hk182 hb183 hp184 hl185 => ?_)))
  have hX186 := hX160.step hp184 hl185
  have ho187 := hw161.below hl185
  have ho188 := hw162.below hl185
  have ho189 := hw163.below hl185
  have hlv190 := (hlv166.below hl185).top
  have hm191 := hm170.below hl185
  have hpk192 := hpk171.below hl185 hp184
  have ha193 : Apart (some b180) u26.ownBlock := new_ne_own (congrArg some hk182) hw161.lt
  have ha194 : Apart (some b180) nv3.ownBlock := new_ne_own (congrArg some hk182) hw162.lt
  have ha195 : Apart (some b180) gv.ownBlock := new_ne_own (congrArg some hk182) hw163.lt
  have ha200 : ApL LV2 (some b180) := ApL.fresh hlv166 (fun k hk => by rw [(congrArg some hk182)] at hk; cases hk; exact Nat.le_refl _)
  have ha201 := hpk171.new (x := (some b180)) (fun k hk => by rw [(congrArg some hk182)] at hk; cases hk; exact Nat.le_refl _)
  have hlo202 : w.heap.size ≤ b180 := by have := hX160.size; omega
  refine qd rfl rfl rfl (r_assign (v := (.int .i64 (j : Int))) rfl) (q0 rfl rfl rfl (o_stp (cs' := [(.int .i64 ((gs140.getD j default).id)), (gs140.getD j default).l, (gs140.getD j default).r]) (us := [(.int .i64 ((gs140.getD j default).id)), (gs140.getD j default).l, (gs140.getD j default).r]) (v := (.agg [(.int .i64 ((gs140.getD j default).id)), (gs140.getD j default).l, (gs140.getD j default).r].toArray)) sz139 rfl rfl rfl (ones3 (by rfl) hone178 hone179) hX186.pins hb183 (Nat.le_of_ble_eq_true rfl) rfl (fun w203 hb204 hp205 hg206 hz207 => ?_)))
  have hX208 := hX186.write hp205 hg206 ((lo_box hlo202))
  have ho209 := ho187.keptA hg206 ha193.symm
  have ho210 := ho188.keptA hg206 ha194.symm
  have ho211 := ho189.keptA hg206 ha195.symm
  have hlv212 := (hlv190.kept hg206 ha200).top
  have hm213 := hm191.kept hg206 (map_ne_box hm191 hb183)
  have hpk214 := hpk192.kept hg206 hp205 ha201
  obtain ⟨G215, hle216, hX217, hbp218, hf219⟩ := hb204.shut hX208 hlo202
  have ho220 := ho209.moreA hle216 hf219 ha193.symm
  have ho221 := ho210.moreA hle216 hf219 ha194.symm
  have ho222 := ho211.moreA hle216 hf219 ha195.symm
  have hlv223 := hlv212.more hle216 hf219 ha200
  have hpk224 := hpk214.more hle216 hf219 ha201
  refine qe (s_then (s_seq (c_reg ?_)))
  refine qd rfl rfl rfl (r_move (v := u26) rfl) (qd rfl rfl rfl (r_move (v := (.int .i64 (n : Int))) rfl) (qd rfl rfl rfl (r_move (v := (.int .i64 (j : Int))) rfl) (qd rfl rfl rfl (r_add rfl rfl (by omega)) (qd rfl rfl rfl (r_fldp (k := 0) rfl Tryz.underlying139 rfl nz3 rfl) (qd rfl rfl rfl (r_ldp1 (u := (.int .i64 ((gs140.getD j default).id))) ag3 rfl (hX217.pins _ _ _ (hbp218 0 _ rfl))) (qd rfl rfl rfl (run_idx Tryz.underlying57 sz3 (v := u26) rfl rfl ho220.read (by omega) (by omega)) (q0 rfl rfl rfl (o_set (E := eInt) (v := u26) (u := (.int .i64 ((gs140.getD j default).id))) (z := ((n : Int) + (j : Int))) ((gs140.getD j default).id) sz3 rfl rfl rfl rfl hX217.pins ho220 (by omega) (by omega) (fun w225 ho226 hp227 hg228 hz229 => ?_)))))))))
  have hX230 := hX217.write hp227 hg228 ((lo_own ho220))
  have ho231 := ho221.keptA hg228 ha164.symm
  have ho232 := ho222.keptA hg228 ha131
  have hlv233 := (hlv223.kept hg228 ha167).top
  have hm234 := hm213.kept hg228 (map_ne_own hm213 ho220)
  have hpk235 := hpk224.kept hg228 hp227 hnp37
  refine qe (s_then (s_seq (c_reg ?_)))
  refine qd rfl rfl rfl (r_move (v := (.map (some m50))) rfl) (qd rfl rfl rfl (r_fldp (k := 0) rfl Tryz.underlying139 rfl nz3 rfl) (qd rfl rfl rfl (r_ldp1 (u := (.int .i64 ((gs140.getD j default).id))) ag3 rfl (hX230.pins _ _ _ (hbp218 0 _ rfl))) (qd rfl rfl rfl (r_move (v := (.int .i64 (n : Int))) rfl) (qd rfl rfl rfl (r_move (v := (.int .i64 (j : Int))) rfl) (qd rfl rfl rfl (r_add rfl rfl (by omega)) (q0 rfl rfl rfl (o_mapUpdate (val := (fun v : Int => Value.int .i64 v)) (k := ((gs140.getD j default).id)) (v := ((n : Int) + (j : Int))) (key_int Tryz.underlying3) Tryz.underlying113 rfl rfl rfl hX230.pins hm234 (fun w236 hm237 hp238 hg239 hz240 => ?_))))))))
  have hX241 := hX230.write hp238 hg239 ((lo_box hlo61))
  have ho242 := ho226.keptA hg239 (map_ne_own hm234 ho226).symm
  have ho243 := ho231.keptA hg239 (map_ne_own hm234 ho231).symm
  have ho244 := ho232.keptA hg239 (map_ne_own hm234 ho232).symm
  have hlv245 := (hlv233.kept hg239 (fun p hp => (map_ne_own hm234 (hlv233.own p hp)).symm)).top
  have hpk246 := hpk235.kept hg239 hp238 hnp60
  refine qe (s_then (c_reg ?_))
  refine qd rfl rfl rfl (r_move (v := nv3) rfl) (qd rfl rfl rfl (r_fldp (k := 1) rfl Tryz.underlying139 rfl nz68 rfl) (qd rfl rfl rfl (r_ldpA (cs := [(gs140.getD j default).l, (gs140.getD j default).r]) ag68 sz68 rfl (fun j u hj => hX241.pins _ _ _ (hbp218 _ _ (by rw [Nat.add_comm]; simpa using hj)))) (q1 rfl rfl rfl (o_build1 (E := eVal2) (e := 68) [(gs140.getD j default).l, (gs140.getD j default).r] (((gs140.getD j default).l, (gs140.getD j default).r) : Value × Value) Tryz.underlying26 sz68 zr68 ⟨rfl, hone178, hone179⟩ rfl (by decide) hX241.pins (fun u247 w248 ho249 hp250 hl251 hk252 => ?_)))))
  have hX253 := hX241.step hp250 hl251
  have ho254 := ho242.below hl251
  have ho255 := ho243.below hl251
  have ho256 := ho244.below hl251
  have hlv257 := (hlv245.below hl251).top
  have hm258 := hm237.below hl251
  have hpk259 := hpk246.below hl251 hp250
  have ho269 : Own eVal2 68 G215 w248 w.heap.size u247 ([(((gs140.getD j default).l, (gs140.getD j default).r) : Value × Value)]) := ho249.weaken hX241.size
  refine q1 rfl rfl rfl (o_append (E := eVal2) (v := nv3) (u := u247) 48 Tryz.underlying26 ap68 (by decide) rfl rfl hX253.pins ho255 ho269.src (by first | omega | (rw [List.nil_append]; omega) | (rw [List.length_nil]; omega) | (rw [List.length_append]; omega) | (simp; done) | (simp; omega) | (simp only [List.length_append, List.length_cons, List.length_nil]; omega)) (by first | omega | (rw [List.nil_append]; omega) | (rw [List.length_nil]; omega) | (rw [List.length_append]; omega) | (simp; done) | (simp; omega) | (simp only [List.length_append, List.length_cons, List.length_nil]; omega)) (hX253.size) (fun u270 w271 ho272 hp273 hg274 hw275 => ?_))
  have hX276 := hX253.write hp273 hg274 ((lo_own ho255))
  have ho277 := ho254.keptA hg274 ha164
  have ho278 := ho256.keptA hg274 ha165.symm
  have hlv280 := (hlv257.kept hg274 ha168).top
  have hm281 := hm258.kept hg274 (map_ne_own hm258 ho255)
  have hpk282 := hpk259.kept hg274 hp273 hnp172
  have ha283 : Apart u26.ownBlock u270.ownBlock := app_ne_own ha164 hw275 ho254.lt
  have ha284 : Apart gv.ownBlock u270.ownBlock := app_ne_own ha165.symm hw275 ho256.lt
  have ha286 : ApL LV2 u270.ownBlock := ApL.app hlv257 ha168 hw275
  have hnp287 := np_app hnp172 hpk259 hw275
  have hm288 : (ps3 ++ ([(((gs140.getD j default).l, (gs140.getD j default).r) : Value × Value)])).length = ps3.length + 1 := List.length_append
  refine qd rfl rfl rfl (r_assign (v := u270) rfl) (qe (s_blkN (s_then (c_reg ?_))))
  refine qd rfl rfl rfl (r_add rfl rfl (by omega)) (qd rfl rfl rfl (r_move (v := (.int .i64 ((j : Int) + 1))) rfl) (qe (s_lopN (⟨_, ?_, _, rfl, _, j + 1, u270, (ls3).set ((n : Int) + (j : Int)).toNat ((gs140.getD j default).id), ps3 ++ ([(((gs140.getD j default).l, (gs140.getD j default).r) : Value × Value)]), putE rk3 ((gs140.getD j default).id) ((n : Int) + (j : Int)), G215, (packS (x := 92) (packS (x := 91) (packS (x := 90) (packS (x := 10) (packS (x := 9) (packS (x := 8) (packS (x := 7) (packS (x := 6) (packS (x := 5) (packS (x := 4) (pack1 (x := 2) rfl) rfl) rfl) rfl) rfl) rfl) rfl) rfl) rfl) rfl) rfl), rfl, hX276, (Pin.le_trans hlek157 hle216), (by omega), (by rw [hls3, show ((n : Int) + (j : Int)).toNat = n + j by omega]; exact reg_step (by omega) (by omega)), (hrk3.ent hRn hgl2 (by omega)), (by rw [hps3, take_snoc _ default (by omega), ← List.append_assoc, List.map_append (l₁ := done ++ _)]; rfl), ho277, ho272, ho278, ha283, ha284.symm, hlv280, ha167, ha286, ha169, hm281, hpk282, hnp287⟩))))
  omega
  refine wp_exit (s_thenE (s_lopE (s_blkE (s_then (c_reg ?_)))))
  refine qd rfl rfl rfl (r_move (v := (.int .i64 (n : Int))) rfl) (qd rfl rfl rfl (r_move (v := gv) rfl) (qd rfl rfl rfl (run_len Tryz.underlying136 (v := gv) rfl hw163.read) (qd rfl rfl rfl (r_add rfl rfl (by omega)) (qd rfl rfl rfl (r_assign (v := (.int .i64 ((n : Int) + (gs140.length : Int)))) rfl) (qe (s_blkN (s_lopN ?_)))))))
  have hjn : j = gs140.length := by omega
  rw [hjn, reg_end] at hls3
  rw [hjn] at hrk3 hps3
  rw [List.take_length] at hps3
  have hls3l : ls3.length = ls.length := by rw [hls3]; exact hRl
  refine ⟨_, ?_, _, rfl, _, n + gs140.length, nv3, done ++ gs140, ps3, rk3, LV2, ls3, GL3, (packS (x := 9) (packS (x := 8) (packS (x := 7) (packS (x := 6) (packS (x := 5) (packS (x := 4) (pack1 (x := 2) rfl) rfl) rfl) rfl) rfl) rfl) rfl), rfl, hX160, (Pin.le_trans (Pin.le_trans hlek85 hlek124) hlek157), (by rw [hls3]; exact hor.ents hok hpt31 hgr (by omega) hend hperm143 hasc144), (by rw [hls3]; exact hrk3), (hLV2.trans (by rw [lvE_app]; exact List.Perm.append_left _ (lvE_perm hperm143.symm))), hps3, hw161, hw162, ha164, hlv166, ha167, ha168, hm170, hpk171, hnp172⟩
  omega
 refine s_loop (fun (k : Nat) (en : Nat → Value) (W : World) => ∃ (env1 : Nat → Value) (kk : Nat) (gv : Value) (gs : List Ent) (LV2 : List Leaf) (GL2 : Pin), en = (upd (upd (upd (upd (upd (upd (upd (upd (upd env1 2 (.pointer (some ⟨b3, 0, none⟩))) 4 (.slice none 0 0)) 5 (.slice none 0 0)) 6 u26) 7 (.map (some m50))) 8 nv) 9 (.int .i64 (n : Int))) 10 gv) 11 (.int .i64 (kk : Int))) ∧ k = ls.length - kk ∧ Ext noS G w GL2 W ∧ Pin.le GL1 GL2 ∧ (kk = n + gs.length) ∧ (GrI q ls n (gs.map Ent.gn)) ∧ (LV2.Perm (lvE done ++ lvE gs)) ∧ (Own eEnt 139 GL2 W w.heap.size gv (gs)) ∧ (Own eInt 3 GL2 W w.heap.size u26 (ls)) ∧ (Own eVal2 68 GL2 W w.heap.size nv (ps)) ∧ (Apart gv.ownBlock u26.ownBlock) ∧ (Apart gv.ownBlock nv.ownBlock) ∧ (Lvs 3 GL2 W w.heap.size W.heap.size LV2) ∧ (ApL LV2 gv.ownBlock) ∧ (ApL LV2 u26.ownBlock) ∧ (ApL LV2 nv.ownBlock) ∧ (Mp (fun k : Int => Value.int .i64 k) (fun v : Int => Value.int .i64 v) W m50 (rk)) ∧ (Pk 57 3 GL2 W p L R B mm q) ∧ (NP p L R B mm gv.ownBlock)) _ ⟨_, n, u99, [], LV, GL1, (packS (x := 11) (packS (x := 10) (packS (x := 9) (packS (x := 8) (packS (x := 7) (packS (x := 6) (packS (x := 5) (packS (x := 4) (pack1 (x := 2) rfl) rfl) rfl) rfl) rfl) rfl) rfl) rfl) rfl), rfl, hX105, Pin.le_refl _, rfl, (GrI.start hor), (by simpa [lvE] using hLV), ho119, ho106, ho107, ha111, ha112, hlv108, ha117, ha93, ha94, hm109, hpk110, ha118⟩ ?_
 rintro k124 _ w125 ⟨env1, kk, gv, gs, LV2, GL2, rfl, hk126, hX127, hlek124, hkk, hgr, hLV2, hw128, hw129, hw130, ha131, ha132, hlv133, ha134, ha135, ha136, hm137, hpk138, hnp139⟩
 have hgl := hgr.le
 rw [List.length_map] at hgl
 refine s_seq (s_seq ?_)
 have hq289 := Gadd.pins hX127.pins u26
 have hq290 := Gadd.pins hX127.pins B
 have hr291 := hw129.read
 have hr292 := hpk138.ob.read
 refine c_draw (S := fun wz => Pins (Gadd GL2 w125 u26) wz ∧ Pins GL2 wz ∧ BxR wz p [L, R, B, (.map (some mm.f)), (.map (some mm.o)), (.map (some mm.c)), (.map (some mm.s)), (.map (some mm.n))] ∧ Pins (Gadd GL2 w125 B) wz) (last := 27) (by kernel_rfl) rfl ?_
 have hl293 : Below w125.heap.size w125 w125.drew := (Below.refl _ _).drew
 have hp294 := hX127.pins.below hl293
 have hX295 := hX127.step hp294 hl293
 have ho296 := hw128.below hl293
 have ho297 := hw129.below hl293
 have ho298 := hw130.below hl293
 have hlv299 := (hlv133.below hl293).top
 have hm300 := hm137.below hl293
 have hpk301 := hpk138.below hl293 hp294
 have hq302 := hq289.below hl293
 have hq303 := hq290.below hl293
 refine dr_take (i := 0) rfl rfl rfl (want_none rfl _) (by kernel_rfl) (fun _ _ => r_move (v := (.int .i64 (kk : Int))) rfl) ⟨hq302, hX295.pins, hpk301.bx.reads, hq303⟩ (dr_take (i := 1) rfl rfl rfl (want_none rfl _) (by kernel_rfl) (fun _ _ => r_move (v := u26) rfl) ⟨hq302, hX295.pins, hpk301.bx.reads, hq303⟩ (dr_take (i := 2) rfl rfl rfl (want_none rfl _) (by kernel_rfl) (fun _ _ => run_len Tryz.underlying57 (v := u26) rfl hr291) ⟨hq302, hX295.pins, hpk301.bx.reads, hq303⟩ (dr_take (i := 3) rfl rfl rfl (want_none rfl _) (by kernel_rfl) (fun _ _ => r_lss rfl rfl) ⟨hq302, hX295.pins, hpk301.bx.reads, hq303⟩ (dr_take (i := 4) rfl rfl rfl (want_none rfl _) (by kernel_rfl) (fun _ _ => r_move (v := (.bool (decide (((kk : Int) : Int) < (ls.length : Int))))) rfl) ⟨hq302, hX295.pins, hpk301.bx.reads, hq303⟩ (drbd (p := ((kk : Int) : Int) < (ls.length : Int)) (t := 35) rfl (fun h304 => ?_) (fun h304 => ?_))))))
 have hzk := hplk kk (by omega)
 have hollk := hok.ar.ok.lens (ls.getD kk 0).toNat (by omega)
 refine dr_take (i := 5) rfl rfl rfl (want_yes rfl rfl rfl rfl) (by kernel_rfl) (fun _ hS => r_ldp1 (u := (.pointer (some ⟨p, 0, none⟩))) ag69 rfl ((Pins.of_le hS.2.1 (Pin.le_trans (Pin.le_trans hx32.le hlek85) hlek124)) _ _ _ (hbp22 0 _ rfl))) ⟨hq302, hX295.pins, hpk301.bx.reads, hq303⟩ (dr_take (i := 6) rfl rfl rfl (want_yes rfl rfl rfl rfl) (by kernel_rfl) (fun _ _ => r_nil rfl) ⟨hq302, hX295.pins, hpk301.bx.reads, hq303⟩ (dr_take (i := 7) rfl rfl rfl (want_yes rfl rfl rfl rfl) (by kernel_rfl) (fun _ _ => r_fldp (k := 2) rfl Tryz.underlying117 rfl nz57 rfl) ⟨hq302, hX295.pins, hpk301.bx.reads, hq303⟩ (dr_take (i := 8) rfl rfl rfl (want_yes rfl rfl rfl rfl) (by kernel_rfl) (fun _ hS => r_ldp1 (u := B) ag57 rfl (hS.2.2.1 2 _ rfl)) ⟨hq302, hX295.pins, hpk301.bx.reads, hq303⟩ (dr_take (i := 9) rfl rfl rfl (want_yes rfl rfl rfl rfl) (by kernel_rfl) (fun _ _ => r_move (v := u26) rfl) ⟨hq302, hX295.pins, hpk301.bx.reads, hq303⟩ (dr_take (i := 10) rfl rfl rfl (want_yes rfl rfl rfl rfl) (by kernel_rfl) (fun _ _ => r_move (v := (.int .i64 (kk : Int))) rfl) ⟨hq302, hX295.pins, hpk301.bx.reads, hq303⟩ (dr_take (i := 11) rfl rfl rfl (want_yes rfl rfl rfl rfl) (by kernel_rfl) (fun _ _ => run_idx Tryz.underlying57 sz3 (v := u26) rfl rfl hr291 (by omega) (by omega)) ⟨hq302, hX295.pins, hpk301.bx.reads, hq303⟩ ?_))))))
 refine dr_take (i := 12) rfl rfl rfl (want_yes rfl rfl rfl rfl) (by kernel_rfl) (fun _ hS => run_load_int (r := ls.getD kk 0) rfl ag3 (z := (kk : Int)) rfl hr291 hS.1 (by omega) (by omega)) ⟨hq302, hX295.pins, hpk301.bx.reads, hq303⟩ (dr_take (i := 13) rfl rfl rfl (want_yes rfl rfl rfl rfl) (by kernel_rfl) (fun _ _ => run_idx Tryz.underlying57 sz3 (v := B) rfl rfl hr292 (by omega) (by omega)) ⟨hq302, hX295.pins, hpk301.bx.reads, hq303⟩ (dr_take (i := 14) rfl rfl rfl (want_yes rfl rfl rfl rfl) (by kernel_rfl) (fun _ hS => run_load_int (r := q.bs.getD (ls.getD kk 0).toNat 0) rfl ag3 (z := (ls.getD kk 0)) rfl hr292 hS.2.2.2 (by omega) (by omega)) ⟨hq302, hX295.pins, hpk301.bx.reads, hq303⟩ (dr_take (i := 15) rfl rfl rfl (want_yes rfl rfl rfl rfl) (by kernel_rfl) (fun _ hS => r_ldp1 (u := (.pointer (some ⟨p, 0, none⟩))) ag69 rfl ((Pins.of_le hS.2.1 (Pin.le_trans (Pin.le_trans hx32.le hlek85) hlek124)) _ _ _ (hbp22 0 _ rfl))) ⟨hq302, hX295.pins, hpk301.bx.reads, hq303⟩ (dr_take (i := 16) rfl rfl rfl (want_yes rfl rfl rfl rfl) (by kernel_rfl) (fun _ _ => r_nil rfl) ⟨hq302, hX295.pins, hpk301.bx.reads, hq303⟩ (dr_take (i := 17) rfl rfl rfl (want_yes rfl rfl rfl rfl) (by kernel_rfl) (fun _ _ => r_fldp (k := 2) rfl Tryz.underlying117 rfl nz57 rfl) ⟨hq302, hX295.pins, hpk301.bx.reads, hq303⟩ ?_)))))
 refine dr_take (i := 18) rfl rfl rfl (want_yes rfl rfl rfl rfl) (by kernel_rfl) (fun _ hS => r_ldp1 (u := B) ag57 rfl (hS.2.2.1 2 _ rfl)) ⟨hq302, hX295.pins, hpk301.bx.reads, hq303⟩ (dr_take (i := 19) rfl rfl rfl (want_yes rfl rfl rfl rfl) (by kernel_rfl) (fun _ _ => r_move (v := u26) rfl) ⟨hq302, hX295.pins, hpk301.bx.reads, hq303⟩ (dr_take (i := 20) rfl rfl rfl (want_yes rfl rfl rfl rfl) (by kernel_rfl) (fun _ _ => r_move (v := (.int .i64 (n : Int))) rfl) ⟨hq302, hX295.pins, hpk301.bx.reads, hq303⟩ (dr_take (i := 21) rfl rfl rfl (want_yes rfl rfl rfl rfl) (by kernel_rfl) (fun _ _ => run_idx Tryz.underlying57 sz3 (v := u26) rfl rfl hr291 (by omega) (by omega)) ⟨hq302, hX295.pins, hpk301.bx.reads, hq303⟩ (dr_take (i := 22) rfl rfl rfl (want_yes rfl rfl rfl rfl) (by kernel_rfl) (fun _ hS => run_load_int (r := ls.getD n 0) rfl ag3 (z := (n : Int)) rfl hr291 hS.1 (by omega) (by omega)) ⟨hq302, hX295.pins, hpk301.bx.reads, hq303⟩ (dr_take (i := 23) rfl rfl rfl (want_yes rfl rfl rfl rfl) (by kernel_rfl) (fun _ _ => run_idx Tryz.underlying57 sz3 (v := B) rfl rfl hr292 (by omega) (by omega)) ⟨hq302, hX295.pins, hpk301.bx.reads, hq303⟩ (dr_take (i := 24) rfl rfl rfl (want_yes rfl rfl rfl rfl) (by kernel_rfl) (fun _ hS => run_load_int (r := q.bs.getD (ls.getD n 0).toNat 0) rfl ag3 (z := (ls.getD n 0)) rfl hr292 hS.2.2.2 (by omega) (by omega)) ⟨hq302, hX295.pins, hpk301.bx.reads, hq303⟩ ?_))))))
 refine dr_take (i := 25) rfl rfl rfl (want_yes rfl rfl rfl rfl) (by kernel_rfl) (fun _ _ => r_eql rfl rfl) ⟨hq302, hX295.pins, hpk301.bx.reads, hq303⟩ (dr_take (i := 26) rfl rfl rfl (want_none rfl _) (by kernel_rfl) (fun _ _ => r_pickT (v := (.bool (decide ((q.bs.getD (ls.getD kk 0).toNat 0 : Int) = (q.bs.getD (ls.getD n 0).toNat 0))))) rfl rfl) ⟨hq302, hX295.pins, hpk301.bx.reads, hq303⟩ (dr_end (by kernel_rfl) (s_then (c_ifd (p := (q.bs.getD (ls.getD kk 0).toNat 0 : Int) = (q.bs.getD (ls.getD n 0).toNat 0)) rfl rfl (fun h305 => ?_) (fun h305 => ?_)))))
 refine wp_skip (s_then (s_seq ?_))
 refine s_blk (s_seq (c_reg ?_))
 refine qd rfl rfl rfl (r_move (v := u26) rfl) (qd rfl rfl rfl (r_move (v := (.int .i64 (kk : Int))) rfl) (qd rfl rfl rfl (run_idx Tryz.underlying57 sz3 (v := u26) rfl rfl ho297.read (by omega) (by omega)) (qd rfl rfl rfl (run_load_int (r := ls.getD kk 0) rfl ag3 (z := (kk : Int)) rfl ho297.read (Gadd.pins hX295.pins u26) (by omega) (by omega)) (qd rfl rfl rfl (r_assign (v := (.int .i64 (ls.getD kk 0))) rfl) (qe (s_then ?_))))))
 have hq306 := Gadd.pins hX295.pins L
 have hq307 := Gadd.pins hX295.pins R
 have hr308 := hpk301.ol.read
 have hr309 := hpk301.rr.read
 refine c_draw (S := fun wz => Pins GL2 wz ∧ BxR wz p [L, R, B, (.map (some mm.f)), (.map (some mm.o)), (.map (some mm.c)), (.map (some mm.s)), (.map (some mm.n))] ∧ Pins (Gadd GL2 w125.drew L) wz ∧ Pins (Gadd GL2 w125.drew R) wz) (last := 25) (by kernel_rfl) rfl ?_
 have hl310 : Below w125.drew.heap.size w125.drew w125.drew.drew := (Below.refl _ _).drew
 have hp311 := hX295.pins.below hl310
 have hX312 := hX295.step hp311 hl310
 have ho313 := ho296.below hl310
 have ho314 := ho297.below hl310
 have ho315 := ho298.below hl310
 have hlv316 := (hlv299.below hl310).top
 have hm317 := hm300.below hl310
 have hpk318 := hpk301.below hl310 hp311
 have hq319 := hq306.below hl310
 have hq320 := hq307.below hl310
 refine dr_take (i := 0) rfl rfl rfl (want_none rfl _) (by kernel_rfl) (fun _ _ => r_move (v := gv) rfl) ⟨hX312.pins, hpk318.bx.reads, hq319, hq320⟩ (dr_take (i := 1) rfl rfl rfl (want_none rfl _) (by kernel_rfl) (fun _ _ => r_move (v := (.int .i64 (ls.getD kk 0))) rfl) ⟨hX312.pins, hpk318.bx.reads, hq319, hq320⟩ (dr_take (i := 2) rfl rfl rfl (want_none rfl _) (by kernel_rfl) (fun _ hS => r_ldp1 (u := (.pointer (some ⟨p, 0, none⟩))) ag69 rfl ((Pins.of_le hS.1 (Pin.le_trans (Pin.le_trans hx32.le hlek85) hlek124)) _ _ _ (hbp22 0 _ rfl))) ⟨hX312.pins, hpk318.bx.reads, hq319, hq320⟩ (dr_take (i := 3) rfl rfl rfl (want_none rfl _) (by kernel_rfl) (fun _ _ => r_nil rfl) ⟨hX312.pins, hpk318.bx.reads, hq319, hq320⟩ (dr_take (i := 4) rfl rfl rfl (want_none rfl _) (by kernel_rfl) (fun _ _ => r_fldp (k := 0) rfl Tryz.underlying117 rfl nz115 rfl) ⟨hX312.pins, hpk318.bx.reads, hq319, hq320⟩ (dr_take (i := 5) rfl rfl rfl (want_none rfl _) (by kernel_rfl) (fun _ hS => r_ldp1 (u := L) ag115 rfl (hS.2.1 0 _ rfl)) ⟨hX312.pins, hpk318.bx.reads, hq319, hq320⟩ (dr_take (i := 6) rfl rfl rfl (want_none rfl _) (by kernel_rfl) (fun _ _ => r_move (v := (.int .i64 (ls.getD kk 0))) rfl) ⟨hX312.pins, hpk318.bx.reads, hq319, hq320⟩ (dr_take (i := 7) rfl rfl rfl (want_none rfl _) (by kernel_rfl) (fun _ _ => run_idx Tryz.underlying115 sz57 (v := L) rfl rfl hr308 (by omega) (by omega)) ⟨hX312.pins, hpk318.bx.reads, hq319, hq320⟩ ?_)))))))
 obtain ⟨u321, hr322, hl323⟩ := nm_sl (hpk301.ol.at (z := (ls.getD kk 0)) (by omega) (by omega)) (j := (ls.getD kk 0).toNat) rfl
 rw [mapl_getD] at hr322
 have hm324 := hr322.max
 refine dr_take (i := 8) rfl rfl rfl (want_none rfl _) (by kernel_rfl) (fun _ hS => hl323 ag57 rfl hS.2.2.1) ⟨hX312.pins, hpk318.bx.reads, hq319, hq320⟩ (dr_take (i := 9) rfl rfl rfl (want_none rfl _) (by kernel_rfl) (fun _ _ => r_move (v := (.map (some m50))) rfl) ⟨hX312.pins, hpk318.bx.reads, hq319, hq320⟩ (dr_take (i := 11) rfl rfl rfl (want_none rfl _) (by kernel_rfl) (fun _ hS => r_ldp1 (u := (.pointer (some ⟨p, 0, none⟩))) ag69 rfl ((Pins.of_le hS.1 (Pin.le_trans (Pin.le_trans hx32.le hlek85) hlek124)) _ _ _ (hbp22 0 _ rfl))) ⟨hX312.pins, hpk318.bx.reads, hq319, hq320⟩ (dr_take (i := 12) rfl rfl rfl (want_none rfl _) (by kernel_rfl) (fun _ _ => r_nil rfl) ⟨hX312.pins, hpk318.bx.reads, hq319, hq320⟩ (dr_take (i := 13) rfl rfl rfl (want_none rfl _) (by kernel_rfl) (fun _ _ => r_fldp (k := 1) rfl Tryz.underlying117 rfl nz115 rfl) ⟨hX312.pins, hpk318.bx.reads, hq319, hq320⟩ (dr_take (i := 14) rfl rfl rfl (want_none rfl _) (by kernel_rfl) (fun _ hS => r_ldp1 (u := R) ag115 rfl (hS.2.1 1 _ rfl)) ⟨hX312.pins, hpk318.bx.reads, hq319, hq320⟩ (dr_take (i := 15) rfl rfl rfl (want_none rfl _) (by kernel_rfl) (fun _ _ => r_move (v := (.int .i64 (ls.getD kk 0))) rfl) ⟨hX312.pins, hpk318.bx.reads, hq319, hq320⟩ ?_))))))
 refine dr_take (i := 16) rfl rfl rfl (want_none rfl _) (by kernel_rfl) (fun _ _ => run_idx Tryz.underlying115 sz57 (v := R) rfl rfl hr309 (by omega) (by omega)) ⟨hX312.pins, hpk318.bx.reads, hq319, hq320⟩ ?_
 obtain ⟨u325, hr326, hl327⟩ := nm_sl (hpk301.rr.at (z := (ls.getD kk 0)) (by omega) (by omega)) (j := (ls.getD kk 0).toNat) rfl
 rw [mapr_getD] at hr326
 have hm328 := hr326.max
 refine dr_take (i := 17) rfl rfl rfl (want_none rfl _) (by kernel_rfl) (fun _ hS => hl327 ag57 rfl hS.2.2.2) ⟨hX312.pins, hpk318.bx.reads, hq319, hq320⟩ (dr_take (i := 18) rfl rfl rfl (want_none rfl _) (by kernel_rfl) (fun _ _ => r_move (v := (.map (some m50))) rfl) ⟨hX312.pins, hpk318.bx.reads, hq319, hq320⟩ (dr_one (i := 10) (by kernel_rfl) (drOp1 (i := 10) rfl rfl rfl (want_none rfl _) (o_call (vs := [u321, (.map (some m50))]) Tryz.func121 nm121 rfl rfl rfl ?_))))
 refine Calls.mono (ranked_spec hX312.pins hr322 hm317 (by omega)) ?_
 rintro _ w331 ⟨u329, G330, rfl, ho332, hx333⟩
 refine ⟨_, rfl, ?_⟩
 have hX334 := hX312.tr hx333
 have ho335 := ho313.ext hx333
 have ho336 := ho314.ext hx333
 have ho337 := ho315.ext hx333
 have hlv338 := (hlv316.ext hx333).top
 have hm339 := hm317.below hx333.below
 have hpk340 := hpk318.ext hx333
 have ha341 : Apart u329.ownBlock gv.ownBlock := made_ne_own ho332.lt ho313.lt
 have ha342 : Apart u329.ownBlock u26.ownBlock := made_ne_own ho332.lt ho314.lt
 have ha343 : Apart u329.ownBlock nv.ownBlock := made_ne_own ho332.lt ho315.lt
 have ha344 : ApL LV2 u329.ownBlock := ApL.fresh hlv316 (fun k hk => (ho332.lt k hk).1)
 have ho346 : Own eInt 3 G330 w331 w.heap.size u329 (sortM (((q.ns.getD (ls.getD kk 0).toNat default).l).map (rkI rk))) := ho332.weaken hX312.size
 have hq347 := hq319.below hx333.below
 have hq348 := hq320.below hx333.below
 refine ⟨fun _ => ⟨(Pins.of_le hX334.pins hx333.le), hpk340.bx.reads, hq347, hq348⟩, ?_⟩
 refine dr_one (i := 19) (by kernel_rfl) (drOp1 (i := 19) rfl rfl rfl (want_none rfl _) (o_call (vs := [u325, (.map (some m50))]) Tryz.func121 nm121 rfl rfl rfl ?_))
 refine Calls.mono (ranked_spec hX334.pins (hr326.mono hx333.le) hm339 (by omega)) ?_
 rintro _ w351 ⟨u349, G350, rfl, ho352, hx353⟩
 refine ⟨_, rfl, ?_⟩
 have hX354 := hX334.tr hx353
 have ho355 := ho335.ext hx353
 have ho356 := ho336.ext hx353
 have ho357 := ho337.ext hx353
 have ho358 := ho346.ext hx353
 have hlv359 := (hlv338.ext hx353).top
 have hm360 := hm339.below hx353.below
 have hpk361 := hpk340.ext hx353
 have ha362 : Apart u349.ownBlock gv.ownBlock := made_ne_own ho352.lt ho335.lt
 have ha363 : Apart u349.ownBlock u26.ownBlock := made_ne_own ho352.lt ho336.lt
 have ha364 : Apart u349.ownBlock nv.ownBlock := made_ne_own ho352.lt ho337.lt
 have ha365 : Apart u349.ownBlock u329.ownBlock := made_ne_own ho352.lt ho346.lt
 have ha366 : ApL LV2 u349.ownBlock := ApL.fresh hlv338 (fun k hk => (ho352.lt k hk).1)
 have ho368 : Own eInt 3 G350 w351 w.heap.size u349 (sortM (((q.ns.getD (ls.getD kk 0).toNat default).r).map (rkI rk))) := ho352.weaken hX334.size
 have hq369 := hq347.below hx353.below
 have hq370 := hq348.below hx353.below
 refine ⟨fun _ => ⟨(Pins.of_le hX354.pins (Pin.le_trans hx333.le hx353.le)), hpk361.bx.reads, hq369, hq370⟩, ?_⟩
 refine dr_take (i := 20) rfl rfl rfl (want_none rfl _) (by kernel_rfl) (fun _ _ => r_build [(.slice none 0 0), (.slice none 0 0)] [u329, u349] [(0, u329, [u329]), (1, u349, [u349])] Tryz.underlying68 zr68 rfl pl68 rfl (List.forall_mem_cons.2 ⟨(cells_one ho358.one), (List.forall_mem_cons.2 ⟨(cells_one ho368.one), (fun _ h => by cases h)⟩)⟩) rfl) ⟨(Pins.of_le hX354.pins (Pin.le_trans hx333.le hx353.le)), hpk361.bx.reads, hq369, hq370⟩ (dr_take (i := 21) rfl rfl rfl (want_none rfl _) (by kernel_rfl) (fun _ _ => r_build [(.int .i64 0), (.slice none 0 0), (.slice none 0 0)] [(.int .i64 (ls.getD kk 0)), u329, u349] [(0, (.int .i64 (ls.getD kk 0)), [(.int .i64 (ls.getD kk 0))]), (1, (.agg [u329, u349].toArray), [u329, u349])] Tryz.underlying139 zr139 rfl pl139 rfl (List.forall_mem_cons.2 ⟨rfl, (List.forall_mem_cons.2 ⟨rfl, (fun _ h => by cases h)⟩)⟩) rfl) ⟨(Pins.of_le hX354.pins (Pin.le_trans hx333.le hx353.le)), hpk361.bx.reads, hq369, hq370⟩ (dr_one (i := 22) (by kernel_rfl) (drOp1 (i := 22) rfl rfl rfl (want_none rfl _) (o_build1 (E := eEnt) (e := 139) [(.int .i64 (ls.getD kk 0)), u329, u349] (⟨ls.getD kk 0, u329, u349, ⟨sortM (((q.ns.getD (ls.getD kk 0).toNat default).l).map (rkI rk)), sortM (((q.ns.getD (ls.getD kk 0).toNat default).r).map (rkI rk))⟩⟩ : Ent) Tryz.underlying136 sz139 zr139 ⟨rfl, ho358.one, ho368.one⟩ rfl (by decide) hX354.pins (fun u371 w372 ho373 hp374 hl375 hk376 => ?_)))))
 have hX377 := hX354.step hp374 hl375
 have ho378 := ho355.below hl375
 have ho379 := ho356.below hl375
 have ho380 := ho357.below hl375
 have ho381 := ho358.below hl375
 have ho382 := ho368.below hl375
 have hlv383 := (hlv359.below hl375).top
 have hm384 := hm360.below hl375
 have hpk385 := hpk361.below hl375 hp374
 have ho397 : Own eEnt 139 G350 w372 w.heap.size u371 ([(⟨ls.getD kk 0, u329, u349, ⟨sortM (((q.ns.getD (ls.getD kk 0).toNat default).l).map (rkI rk)), sortM (((q.ns.getD (ls.getD kk 0).toNat default).r).map (rkI rk))⟩⟩ : Ent)]) := ho373.weaken hX354.size
 have hq398 := hq369.below hl375
 have hq399 := hq370.below hl375
 refine ⟨fun _ => ⟨(Pins.of_le hX377.pins (Pin.le_trans hx333.le hx353.le)), hpk385.bx.reads, hq398, hq399⟩, ?_⟩
 refine dr_one (i := 23) (by kernel_rfl) (drOp1 (i := 23) rfl rfl rfl (want_none rfl _) (o_append (E := eEnt) (v := gv) (u := u371) 56 Tryz.underlying136 ap139 (by decide) rfl rfl hX377.pins ho378 ho397.src (by first | omega | (rw [List.nil_append]; omega) | (rw [List.length_nil]; omega) | (rw [List.length_append]; omega) | (simp; done) | (simp; omega) | (simp only [List.length_append, List.length_cons, List.length_nil]; omega)) (by first | omega | (rw [List.nil_append]; omega) | (rw [List.length_nil]; omega) | (rw [List.length_append]; omega) | (simp; done) | (simp; omega) | (simp only [List.length_append, List.length_cons, List.length_nil]; omega)) (hX377.size) (fun u400 w401 ho402 hp403 hg404 hw405 => ?_)))
 have hX406 := hX377.write hp403 hg404 ((lo_own ho378))
 have ho407 := ho379.keptA hg404 ha131.symm
 have ho408 := ho380.keptA hg404 ha132.symm
 have ho409 := ho381.keptA hg404 ha341
 have ho410 := ho382.keptA hg404 ha362
 have hlv412 := (hlv383.kept hg404 ha134).top
 have hm413 := hm384.kept hg404 (map_ne_own hm384 ho378)
 have hpk414 := hpk385.kept hg404 hp403 hnp139
 have ha415 : Apart u26.ownBlock u400.ownBlock := app_ne_own ha131.symm hw405 ho379.lt
 have ha416 : Apart nv.ownBlock u400.ownBlock := app_ne_own ha132.symm hw405 ho380.lt
 have ha417 : Apart u329.ownBlock u400.ownBlock := app_ne_own ha341 hw405 ho381.lt
 have ha418 : Apart u349.ownBlock u400.ownBlock := app_ne_own ha362 hw405 ho382.lt
 have ha420 : ApL LV2 u400.ownBlock := ApL.app hlv383 ha134 hw405
 have hnp421 := np_app hnp139 hpk385 hw405
 have hm422 : (gs ++ ([(⟨ls.getD kk 0, u329, u349, ⟨sortM (((q.ns.getD (ls.getD kk 0).toNat default).l).map (rkI rk)), sortM (((q.ns.getD (ls.getD kk 0).toNat default).r).map (rkI rk))⟩⟩ : Ent)])).length = gs.length + 1 := List.length_append
 have hq423 := Gadd.turn hq398 (Pins.of_le hX406.pins (Pin.le_trans hx333.le hx353.le)) (Ext.one hp403 hg404) (notO (NP.hl hnp139).symm)
 have hq424 := Gadd.turn hq399 (Pins.of_le hX406.pins (Pin.le_trans hx333.le hx353.le)) (Ext.one hp403 hg404) (notO (NP.hr hnp139).symm)
 refine ⟨fun _ => ⟨(Pins.of_le hX406.pins (Pin.le_trans hx333.le hx353.le)), hpk414.bx.reads, hq423, hq424⟩, ?_⟩
 refine dr_take (i := 24) rfl rfl rfl (want_none rfl _) (by kernel_rfl) (fun _ _ => r_assign (v := u400) rfl) ⟨(Pins.of_le hX406.pins (Pin.le_trans hx333.le hx353.le)), hpk414.bx.reads, hq423, hq424⟩ (dr_end (by kernel_rfl) (s_blkN (s_then (c_reg ?_))))
 refine qd rfl rfl rfl (r_move (v := (.int .i64 (kk : Int))) rfl) (qd rfl rfl rfl (r_add rfl rfl (by omega)) (qd rfl rfl rfl (r_assign (v := (.int .i64 ((kk : Int) + 1))) rfl) (qe (s_lopN ?_))))
 have hlv425 := hlv412.add ho409 ha344
 have ha426 : ApL (LV2 ++ [(u329, sortM (((q.ns.getD (ls.getD kk 0).toNat default).l).map (rkI rk)))]) u26.ownBlock := ha135.add ha342
 have ha427 : ApL (LV2 ++ [(u329, sortM (((q.ns.getD (ls.getD kk 0).toNat default).l).map (rkI rk)))]) nv.ownBlock := ha136.add ha343
 have ha428 : ApL (LV2 ++ [(u329, sortM (((q.ns.getD (ls.getD kk 0).toNat default).l).map (rkI rk)))]) u349.ownBlock := ha366.add ha365.symm
 have ha429 : ApL (LV2 ++ [(u329, sortM (((q.ns.getD (ls.getD kk 0).toNat default).l).map (rkI rk)))]) u400.ownBlock := ha420.add ha417
 have hlv430 := hlv425.add ho410 ha428
 have ha431 : ApL ((LV2 ++ [(u329, sortM (((q.ns.getD (ls.getD kk 0).toNat default).l).map (rkI rk)))]) ++ [(u349, sortM (((q.ns.getD (ls.getD kk 0).toNat default).r).map (rkI rk)))]) u26.ownBlock := ha426.add ha363
 have ha432 : ApL ((LV2 ++ [(u329, sortM (((q.ns.getD (ls.getD kk 0).toNat default).l).map (rkI rk)))]) ++ [(u349, sortM (((q.ns.getD (ls.getD kk 0).toNat default).r).map (rkI rk)))]) nv.ownBlock := ha427.add ha364
 have ha433 : ApL ((LV2 ++ [(u329, sortM (((q.ns.getD (ls.getD kk 0).toNat default).l).map (rkI rk)))]) ++ [(u349, sortM (((q.ns.getD (ls.getD kk 0).toNat default).r).map (rkI rk)))]) u400.ownBlock := ha429.add ha418
 refine ⟨_, ?_, _, rfl, _, kk + 1, u400, gs ++ ([(⟨ls.getD kk 0, u329, u349, ⟨sortM (((q.ns.getD (ls.getD kk 0).toNat default).l).map (rkI rk)), sortM (((q.ns.getD (ls.getD kk 0).toNat default).r).map (rkI rk))⟩⟩ : Ent)]), (LV2 ++ [(u329, sortM (((q.ns.getD (ls.getD kk 0).toNat default).l).map (rkI rk)))]) ++ [(u349, sortM (((q.ns.getD (ls.getD kk 0).toNat default).r).map (rkI rk)))], G350, (packS (x := 11) (packS (x := 10) (packS (x := 9) (packS (x := 8) (packS (x := 7) (packS (x := 6) (packS (x := 5) (packS (x := 4) (pack1 (x := 2) rfl) rfl) rfl) rfl) rfl) rfl) rfl) rfl) rfl), rfl, hX406, (Pin.le_trans (Pin.le_trans hlek124 hx333.le) hx353.le), (by rw [List.length_append]; simp; omega), (hgr.ent hor hok hpt31 hrk hkk (by omega) h305), (by rw [lvE_app, ← List.append_assoc, List.append_assoc LV2]; exact hLV2.append_right _), ho402, ho407, ho408, ha415.symm, ha416.symm, hlv430, ha433, ha431, ha432, hm413, hpk414, hnp421⟩
 omega
 exact wp_exit (s_thenE (s_lopE (cutE_in ⟨_, kk, gv, gs, LV2, GL2, (packS (x := 11) (packS (x := 10) (packS (x := 9) (packS (x := 8) (packS (x := 7) (packS (x := 6) (packS (x := 5) (packS (x := 4) (pack1 (x := 2) rfl) rfl) rfl) rfl) rfl) rfl) rfl) rfl) rfl), hX295, hlek124, hkk, hgr, hLV2, (Or.inr (by rw [← hkk]; exact h305)), ho296, ho297, ho298, ha131, ha132, hlv299, ha134, ha135, ha136, hm300, hpk301, hnp139⟩)))
 refine dr_skip (i := 5) rfl rfl (want_no rfl rfl rfl rfl rfl) (by kernel_rfl) ⟨hq302, hX295.pins, hpk301.bx.reads, hq303⟩ (dr_skip (i := 6) rfl rfl (want_no rfl rfl rfl rfl rfl) (by kernel_rfl) ⟨hq302, hX295.pins, hpk301.bx.reads, hq303⟩ (dr_skip (i := 7) rfl rfl (want_no rfl rfl rfl rfl rfl) (by kernel_rfl) ⟨hq302, hX295.pins, hpk301.bx.reads, hq303⟩ (dr_skip (i := 8) rfl rfl (want_no rfl rfl rfl rfl rfl) (by kernel_rfl) ⟨hq302, hX295.pins, hpk301.bx.reads, hq303⟩ (dr_skip (i := 9) rfl rfl (want_no rfl rfl rfl rfl rfl) (by kernel_rfl) ⟨hq302, hX295.pins, hpk301.bx.reads, hq303⟩ (dr_skip (i := 10) rfl rfl (want_no rfl rfl rfl rfl rfl) (by kernel_rfl) ⟨hq302, hX295.pins, hpk301.bx.reads, hq303⟩ (dr_skip (i := 11) rfl rfl (want_no rfl rfl rfl rfl rfl) (by kernel_rfl) ⟨hq302, hX295.pins, hpk301.bx.reads, hq303⟩ (dr_skip (i := 12) rfl rfl (want_no rfl rfl rfl rfl rfl) (by kernel_rfl) ⟨hq302, hX295.pins, hpk301.bx.reads, hq303⟩ (dr_skip (i := 13) rfl rfl (want_no rfl rfl rfl rfl rfl) (by kernel_rfl) ⟨hq302, hX295.pins, hpk301.bx.reads, hq303⟩ (dr_skip (i := 14) rfl rfl (want_no rfl rfl rfl rfl rfl) (by kernel_rfl) ⟨hq302, hX295.pins, hpk301.bx.reads, hq303⟩ (dr_skip (i := 15) rfl rfl (want_no rfl rfl rfl rfl rfl) (by kernel_rfl) ⟨hq302, hX295.pins, hpk301.bx.reads, hq303⟩ (dr_skip (i := 16) rfl rfl (want_no rfl rfl rfl rfl rfl) (by kernel_rfl) ⟨hq302, hX295.pins, hpk301.bx.reads, hq303⟩ ?_)))))))))))
 refine dr_skip (i := 17) rfl rfl (want_no rfl rfl rfl rfl rfl) (by kernel_rfl) ⟨hq302, hX295.pins, hpk301.bx.reads, hq303⟩ (dr_skip (i := 18) rfl rfl (want_no rfl rfl rfl rfl rfl) (by kernel_rfl) ⟨hq302, hX295.pins, hpk301.bx.reads, hq303⟩ (dr_skip (i := 19) rfl rfl (want_no rfl rfl rfl rfl rfl) (by kernel_rfl) ⟨hq302, hX295.pins, hpk301.bx.reads, hq303⟩ (dr_skip (i := 20) rfl rfl (want_no rfl rfl rfl rfl rfl) (by kernel_rfl) ⟨hq302, hX295.pins, hpk301.bx.reads, hq303⟩ (dr_skip (i := 21) rfl rfl (want_no rfl rfl rfl rfl rfl) (by kernel_rfl) ⟨hq302, hX295.pins, hpk301.bx.reads, hq303⟩ (dr_skip (i := 22) rfl rfl (want_no rfl rfl rfl rfl rfl) (by kernel_rfl) ⟨hq302, hX295.pins, hpk301.bx.reads, hq303⟩ (dr_skip (i := 23) rfl rfl (want_no rfl rfl rfl rfl rfl) (by kernel_rfl) ⟨hq302, hX295.pins, hpk301.bx.reads, hq303⟩ (dr_skip (i := 24) rfl rfl (want_no rfl rfl rfl rfl rfl) (by kernel_rfl) ⟨hq302, hX295.pins, hpk301.bx.reads, hq303⟩ (dr_skip (i := 25) rfl rfl (want_no rfl rfl rfl rfl rfl) (by kernel_rfl) ⟨hq302, hX295.pins, hpk301.bx.reads, hq303⟩ (dr_take (i := 26) rfl rfl rfl (want_none rfl _) (by kernel_rfl) (fun _ _ => r_pickF (v := (.bool false)) rfl rfl) ⟨hq302, hX295.pins, hpk301.bx.reads, hq303⟩ (dr_end (by kernel_rfl) (s_then (c_ifF rfl rfl (wp_exit ?_)))))))))))))
 exact s_thenE (s_lopE (cutE_in ⟨_, kk, gv, gs, LV2, GL2, (packS (x := 11) (packS (x := 10) (packS (x := 9) (packS (x := 8) (packS (x := 7) (packS (x := 6) (packS (x := 5) (packS (x := 4) (pack1 (x := 2) rfl) rfl) rfl) rfl) rfl) rfl) rfl) rfl) rfl), hX295, hlek124, hkk, hgr, hLV2, (Or.inl (by omega)), ho296, ho297, ho298, ha131, ha132, hlv299, ha134, ha135, ha136, hm300, hpk301, hnp139⟩))
 refine wp_exit (s_thenE (s_lopE (s_blkE (s_then (s_seq (c_reg ?_))))))
 refine qd rfl rfl rfl (r_move (v := u26) rfl) (qd rfl rfl rfl (r_move (v := nv) rfl) (qd rfl rfl rfl (r_assign (v := u26) rfl) (qd rfl rfl rfl (r_assign (v := nv) rfl) (qe (s_then ?_)))))
 refine wp_ret (s_ret (c_ret2 (v := u26) (u := nv) rfl rfl rfl rfl rfl ?_))
 have hnn : n = ls.length := by omega
 rw [hnn] at hor
 have hon := hw90
 rw [hps] at hon
 have hlv := hlv92.perm hLV
 have hap := ha94.perm hLV
 rw [lvE_lvN] at hlv hap
 exact ⟨_, _, ls, done.map Ent.nd, zs27, _, rfl, hw89, ⟨done.map Ent.pr, by rw [List.length_map, List.length_map], hon, fun k hk => (hon.lt k hk).2, hlv, hap⟩, hor, hpt31, hX88⟩

end OD1
end Go.Proofs.YtkfgdhanaijddaaGreatDoor

set_option maxRecDepth 20000
set_option maxHeartbeats 2000000
namespace Go.Proofs.YtkfgdhanaijddaaGreatDoor
namespace OR1
open Go.RowKit Go.GL Go.Proofs
open Go.Proofs.YtkfgdhanaijddaaGreatDoor.B1
open Go.Proofs.YtkfgdhanaijddaaGreatDoor.C1
open Go.Proofs.YtkfgdhanaijddaaGreatDoor.D1
open Go.Proofs.YtkfgdhanaijddaaGreatDoor.E1
end OR1
end Go.Proofs.YtkfgdhanaijddaaGreatDoor

set_option maxRecDepth 20000
set_option maxHeartbeats 2000000
namespace Go.Proofs.YtkfgdhanaijddaaGreatDoor
namespace SF1
open Go.RowKit Go.GL Go.Proofs
open Go.Proofs.YtkfgdhanaijddaaGreatDoor.B1
open Go.Proofs.YtkfgdhanaijddaaGreatDoor.C1
open Go.Proofs.YtkfgdhanaijddaaGreatDoor.D1
open Go.Proofs.YtkfgdhanaijddaaGreatDoor.E1
open Go.Proofs.YtkfgdhanaijddaaGreatDoor.OR1
end SF1
end Go.Proofs.YtkfgdhanaijddaaGreatDoor

set_option maxRecDepth 20000
set_option maxHeartbeats 2000000
namespace Go.Proofs.YtkfgdhanaijddaaGreatDoor
namespace MK1
open Go.RowKit Go.GL Go.Proofs
open Go.Proofs.YtkfgdhanaijddaaGreatDoor.B1
open Go.Proofs.YtkfgdhanaijddaaGreatDoor.C1
open Go.Proofs.YtkfgdhanaijddaaGreatDoor.D1
open Go.Proofs.YtkfgdhanaijddaaGreatDoor.E1





theorem pl133 : (Tryz.prog.underlying 133).bind (placesD Tryz.prog) = some [(0, 1), (1, 1)] := by kernel_rfl





theorem l3Make_own {w : World} {G : Pin} {u v : Value} {fs gs : List (List Nd)} (hP : Pins G w) (hu : RSl (eSl eNode) G u fs) (hv : RSl (eSl eNode) G v gs) (hfa : AllW fs) (hga : AllW gs) :
  Calls Tryz.prog 67 [u, v].toArray w fun e w' => ∃ (u : Value) (G' : Pin), e = .returned (.agg [u].toArray) ∧ RSl eNode G' u (formG (mkGm fs gs)) ∧ Ext noS G w G' w' ∧ ∃ Gi, Own eNode 68 Gi w' w.heap.size u (formG (mkGm fs gs)) ∧ Pin.le Gi G' := by
 refine s_enter (n := 50) Tryz.func67 Tryz.ntmps67 rfl rfl ?_
 have hX0 : Ext noS G w G w := Ext.refl hP
 have hmu := hu.max
 have hmv := hv.max
 have hfle := hfa.len
 have hgle := hga.len
 refine s_seq (c_reg ?_)
 refine q1 rfl rfl rfl (o_alloc [(.slice none 0 0)] zr28 rfl hX0.pins (fun b1 w2 hk3 hb4 hp5 hl6 => ?_))
 have hX7 := hX0.step hp5 hl6
 have hlo8 : w.heap.size ≤ b1 := by have := hX0.size; omega
 refine qe (s_then (s_seq (c_reg ?_)))
 refine qd rfl rfl rfl (r_build [(.slice none 0 0), (.slice none 0 0)] [(.slice none 0 0), (.slice none 0 0)] [] Tryz.underlying133 zr133 rfl pl133 rfl (fun _ h => by cases h) rfl) (q1 rfl rfl rfl (o_box [(.slice none 0 0), (.slice none 0 0)] (v := (.agg [(.slice none 0 0), (.slice none 0 0)].toArray)) rfl rfl hX7.pins (fun b9 w10 hk11 hb12 hp13 hl14 => ?_)))
 have hX15 := hX7.step hp13 hl14
 have hb16 := hb4.below hl14
 have ha17 : Apart (some b9) (some b1) := new_ne_box (congrArg some hk11) hb4.lt
 have hlo18 : w.heap.size ≤ b9 := by have := hX7.size; omega
 refine qd rfl rfl rfl (r_assign (v := (.pointer (some ⟨b9, 0, none⟩))) rfl) (qe (s_then (s_seq (c_reg ?_))))
 refine q1 rfl rfl rfl (o_build0 (E := eInt) (e := 3) Tryz.underlying57 sz3 hX15.pins (fun u19 w20 ho21 hp22 hl23 hk24 => ?_))
 have hX25 := hX15.step hp22 hl23
 have hb26 := hb16.below hl23
 have hb27 := hb12.below hl23
 have ha28 : Apart u19.ownBlock (some b1) := new_ne_box hk24 hb16.lt
 have ha29 : Apart u19.ownBlock (some b9) := new_ne_box hk24 hb12.lt
 have ho30 : Own eInt 3 G w20 w.heap.size u19 ([]) := ho21.weaken hX15.size
 refine q1 rfl rfl rfl (o_build0 (E := eInt) (e := 3) Tryz.underlying57 sz3 hX25.pins (fun u31 w32 ho33 hp34 hl35 hk36 => ?_))
 have hX37 := hX25.step hp34 hl35
 have ho38 := ho30.below hl35
 have hb39 := hb26.below hl35
 have hb40 := hb27.below hl35
 have ha41 : Apart u31.ownBlock u19.ownBlock := new_ne_own hk36 ho30.lt
 have ha42 : Apart u31.ownBlock (some b1) := new_ne_box hk36 hb26.lt
 have ha43 : Apart u31.ownBlock (some b9) := new_ne_box hk36 hb27.lt
 have ho44 : Own eInt 3 G w32 w.heap.size u31 ([]) := ho33.weaken hX25.size
 refine qd rfl rfl rfl (r_assign (v := u19) rfl) (qd rfl rfl rfl (r_assign (v := u31) rfl) (qe (s_then (s_seq (s_seq (c_reg ?_))))))
 refine qd rfl rfl rfl (r_assign (v := (.int .i64 0)) rfl) (qe (s_then ?_))
 refine s_blk ?_
 refine s_loop (fun (k : Nat) (en : Nat → Value) (W : World) => ∃ (env1 : Nat → Value) (i5 : Nat) (atA : Value) (atsA : List Int) (uA : Value) (vA : Value) (nsA : List Nd) (bsA : List Int) (GLA : Pin), en = (upd (upd (upd (upd (upd (upd (upd env1 0 u) 1 v) 4 (.pointer (some ⟨b1, 0, none⟩))) 5 (.pointer (some ⟨b9, 0, none⟩))) 6 atA) 7 u31) 8 (.int .i64 (i5 : Int))) ∧ k = fs.length - i5 ∧ Ext noS G w GLA W ∧ Pin.le G GLA ∧ (i5 ≤ fs.length) ∧ (PoolOk (bkq nsA bsA)) ∧ (GsOk (bkq nsA bsA) atsA ((fs.take i5).map gOf)) ∧ (nsA.length ≤ 1000 * i5) ∧ (Own eInt 3 GLA W w.heap.size atA (atsA)) ∧ (Own eNode 68 GLA W 0 uA (nsA)) ∧ (Own eInt 3 GLA W 0 vA (bsA)) ∧ (Own eInt 3 GLA W w.heap.size u31 ([])) ∧ (Bx GLA W b1 [(.slice none 0 0)]) ∧ (Bx GLA W b9 [uA, vA]) ∧ (Apart atA.ownBlock uA.ownBlock) ∧ (Apart atA.ownBlock vA.ownBlock) ∧ (Apart atA.ownBlock u31.ownBlock) ∧ (Apart atA.ownBlock (some b1)) ∧ (Apart atA.ownBlock (some b9)) ∧ (Apart uA.ownBlock vA.ownBlock) ∧ (Apart uA.ownBlock u31.ownBlock) ∧ (Apart uA.ownBlock (some b1)) ∧ (Apart uA.ownBlock (some b9)) ∧ (Apart vA.ownBlock u31.ownBlock) ∧ (Apart vA.ownBlock (some b1)) ∧ (Apart vA.ownBlock (some b9)) ∧ (Lo w noS uA.ownBlock) ∧ (Lo w noS vA.ownBlock)) _ ⟨_, 0, u19, [], (.slice none 0 0), (.slice none 0 0), [], [], G, (packS (x := 8) (packS (x := 7) (packS (x := 6) (packS (x := 5) (packS (x := 4) (packS (x := 1) (pack1 (x := 0) rfl) rfl) rfl) rfl) rfl) rfl) rfl), rfl, hX37, Pin.le_refl _, Nat.zero_le _, (bkq_ok Ar.empty), GsOk.nil, (by simp), ho38, (Own.nil _ _ _ _ _), (Own.nil _ _ _ _ _), ho44, hb39, hb40, apart_none.symm, apart_none.symm, ha41.symm, ha28, ha29, apart_none, apart_none, apart_none, apart_none, apart_none, apart_none, apart_none, (lo_none _ _), (lo_none _ _)⟩ ?_
 rintro k45 _ w46 ⟨env1, i5, atA, atsA, uA, vA, nsA, bsA, GLA, rfl, hk47, hX48, hlek45, hki5, hokA, hgsA, hblA, hw49, hw50, hw51, hw52, hw53, hw54, ha55, ha56, ha57, ha58, ha59, ha60, ha61, ha62, ha63, ha64, ha65, ha66, hlo67, hlo68⟩
 have hglA := hgsA.len
 rw [List.length_map, List.length_take] at hglA
 refine s_seq (s_seq (c_reg ?_))
 refine qd rfl rfl rfl (r_move (v := (.int .i64 (i5 : Int))) rfl) (qd rfl rfl rfl (r_move (v := u) rfl) (qd rfl rfl rfl (run_len Tryz.underlying24 (v := u) rfl hu) (qd rfl rfl rfl (r_lss rfl rfl) (qe (s_then ?_)))))
 refine c_ifd (p := ((i5 : Int) : Int) < (fs.length : Int)) rfl rfl (fun h69 => ?_) (fun h69 => ?_)
 have hgd := hfa.ok i5 (by omega)
 have hgdl := hgd.2.1
 have hgdh := hgd.2.2
 have hrk := bk_root (fs := fs.getD i5 []) hokA hgd.1 (by omega) (by omega)
 refine wp_skip (s_then (s_seq ?_))
 refine s_blk (c_reg (qd rfl rfl rfl (r_move (v := atA) rfl) (qd rfl rfl rfl (r_move (v := (.pointer (some ⟨b9, 0, none⟩))) rfl) (qd rfl rfl rfl (r_move (v := u) rfl) (qd rfl rfl rfl (r_move (v := (.int .i64 (i5 : Int))) rfl) (qd rfl rfl rfl (run_idx Tryz.underlying24 sz28 (v := u) rfl rfl hu (by omega) (by omega)) ?_))))))
 obtain ⟨u70, hr71, hl72⟩ := nm_form (hu.at (z := (i5 : Int)) (by omega) (by omega)) (j := i5) rfl
 have hm73 := hr71.max
 refine qd rfl rfl rfl (hl72 ag28 sz28 rfl (Pins.of_le hX48.pins hlek45)) (q1 rfl rfl rfl (o_call (vs := [(.pointer (some ⟨b9, 0, none⟩)), (.agg [u70].toArray)]) Tryz.func116 nm116 rfl rfl rfl ?_))
 refine Calls.mono (root_spec hX48.pins ⟨hw54, hw50, hw51, ha63.symm, ha66.symm, ha60⟩ hokA.ar.ok (hr71.mono hlek45) ⟨hgd.1, hgdl⟩ (by first | omega | (simp; omega))) ?_
 rintro _ w77 ⟨u74, v75, G76, rfl, hbk78, hx79, hlu80, hlv81⟩
 refine ⟨_, rfl, ?_⟩
 have hin84 : ∀ i, inS b9 uA vA i → w.heap.size ≤ i ∨ noS i := inS_lo (lo_box hlo18) hlo67 hlo68
 have hX85 := hX48.trans hx79 hin84
 have hn86 := notS (u := uA) (v := vA) ha59 ha55 ha56
 have ho87 := hw49.extS hx79 hn86
 have ha88 : Apart atA.ownBlock u74.ownBlock := ap_call hlu80 hn86 (own_lt hw49)
 have ha89 : Apart atA.ownBlock v75.ownBlock := ap_call hlv81 hn86 (own_lt hw49)
 have hn90 := notS (u := uA) (v := vA) ha43 ha61.symm ha64.symm
 have ho91 := hw52.extS hx79 hn90
 have ha92 : Apart u31.ownBlock u74.ownBlock := ap_call hlu80 hn90 (own_lt hw52)
 have ha93 : Apart u31.ownBlock v75.ownBlock := ap_call hlv81 hn90 (own_lt hw52)
 have hn94 := notS (u := uA) (v := vA) ha17.symm ha62.symm ha65.symm
 have ho95 := hw53.extS hx79 (notSb hn94)
 have ha96 : Apart (some b1) u74.ownBlock := ap_call hlu80 hn94 (box_lt hw53)
 have ha97 : Apart (some b1) v75.ownBlock := ap_call hlv81 hn94 (box_lt hw53)
 have hb98 := hbk78.bx
 have ho99 := hbk78.ou
 have ho100 := hbk78.ov
 have ha101 := hbk78.abu
 have ha102 := hbk78.abv
 have ha103 := hbk78.auv
 have hlo104 := lo_call hlu80 hin84 hX48.size
 have hlo105 := lo_call hlv81 hin84 hX48.size
 refine q1 rfl rfl rfl (o_buildF (E := eInt) (e := 3) [(.int .i64 (rootM nsA bsA (fs.getD i5 [])))] [rootM nsA bsA (fs.getD i5 [])] Tryz.underlying57 sz3 zr3 (by exact reps1 (by rfl)) (ones1 (by rfl)) rfl rfl rfl rfl (by decide) hX85.pins (fun u106 w107 ho108 hp109 hl110 hk111 => ?_))
 have hX112 := hX85.step hp109 hl110
 have ho113 := ho87.below hl110
 have ho114 := ho91.below hl110
 have ho115 := ho99.below hl110
 have ho116 := ho100.below hl110
 have hb117 := ho95.below hl110
 have hb118 := hb98.below hl110
 have ho125 : Own eInt 3 G76 w107 w.heap.size u106 ([rootM nsA bsA (fs.getD i5 [])]) := ho108.weaken hX85.size
 refine q1 rfl rfl rfl (o_append (E := eInt) (v := atA) (u := u106) 8 Tryz.underlying57 ap3 (by decide) rfl rfl hX112.pins ho113 ho125.src (by first | omega | (rw [List.nil_append]; omega) | (rw [List.length_nil]; omega) | (rw [List.length_append]; omega) | (simp; done) | (simp; omega) | (simp only [List.length_append, List.length_cons, List.length_nil]; omega)) (by first | omega | (rw [List.nil_append]; omega) | (rw [List.length_nil]; omega) | (rw [List.length_append]; omega) | (simp; done) | (simp; omega) | (simp only [List.length_append, List.length_cons, List.length_nil]; omega)) (hX112.size) (fun u126 w127 ho128 hp129 hg130 hw131 => ?_))
 have hX132 := hX112.write hp129 hg130 ((lo_own ho113))
 have ho133 := ho114.keptA hg130 ha57.symm
 have ho134 := ho115.keptA hg130 ha88.symm
 have ho135 := ho116.keptA hg130 ha89.symm
 have hb137 := hb117.keptA hg130 ha58.symm
 have hb138 := hb118.keptA hg130 ha59.symm
 have ha139 : Apart u31.ownBlock u126.ownBlock := app_ne_own ha57.symm hw131 ho114.lt
 have ha140 : Apart u74.ownBlock u126.ownBlock := app_ne_own ha88.symm hw131 ho115.lt
 have ha141 : Apart v75.ownBlock u126.ownBlock := app_ne_own ha89.symm hw131 ho116.lt
 have ha143 : Apart (some b1) u126.ownBlock := app_ne_box ha58.symm hw131 hb117.lt
 have ha144 : Apart (some b9) u126.ownBlock := app_ne_box ha59.symm hw131 hb118.lt
 have hm145 : (atsA ++ ([rootM nsA bsA (fs.getD i5 [])])).length = atsA.length + 1 := List.length_append
 refine qd rfl rfl rfl (r_assign (v := u126) rfl) (qe (s_blkN (s_then (c_reg ?_))))
 refine qd rfl rfl rfl (r_move (v := (.int .i64 (i5 : Int))) rfl) (qd rfl rfl rfl (r_add rfl rfl (by omega)) (qd rfl rfl rfl (r_assign (v := (.int .i64 ((i5 : Int) + 1))) rfl) (qe (s_lopN (⟨_, ?_, _, rfl, _, i5 + 1, u126, atsA ++ ([rootM nsA bsA (fs.getD i5 [])]), u74, v75, (addM nsA bsA (fs.getD i5 [])).2.1, (addM nsA bsA (fs.getD i5 [])).2.2, G76, (packS (x := 8) (packS (x := 7) (packS (x := 6) (packS (x := 5) (packS (x := 4) (packS (x := 1) (pack1 (x := 0) rfl) rfl) rfl) rfl) rfl) rfl) rfl), rfl, hX132, (Pin.le_trans hlek45 hx79.le), (by omega), hrk.ok, (by rw [take_map (by omega)]; exact (hgsA.px hrk.px hokA hrk.ok).snoc hrk.pl hrk.pd), (by have h8 := hrk.len; have h9 := hgd.2.2; omega), ho128, ho134, ho135, ho133, hb137, hb138, ha140.symm, ha141.symm, ha139.symm, ha143.symm, ha144.symm, ha103, ha92.symm, ha96.symm, ha101.symm, ha93.symm, ha97.symm, ha102.symm, hlo104, hlo105⟩)))))
 omega
 refine wp_exit (s_thenE (s_lopE (s_blkE (s_then (s_seq (s_seq (c_reg ?_)))))))
 refine qd rfl rfl rfl (r_assign (v := (.int .i64 0)) rfl) (qe (s_then ?_))
 refine s_blk ?_
 have hi5n : i5 = fs.length := by omega
 have hgsF : GsOk (bkq nsA bsA) atsA (fs.map gOf) := by rw [hi5n, List.take_length] at hgsA; exact hgsA
 refine s_loop (fun (k : Nat) (en : Nat → Value) (W : World) => ∃ (env1 : Nat → Value) (j5 : Nat) (atB : Value) (atsB : List Int) (uB : Value) (vB : Value) (nsB : List Nd) (bsB : List Int) (GLB : Pin), en = (upd (upd (upd (upd (upd (upd env1 1 v) 4 (.pointer (some ⟨b1, 0, none⟩))) 5 (.pointer (some ⟨b9, 0, none⟩))) 6 atA) 7 atB) 9 (.int .i64 (j5 : Int))) ∧ k = gs.length - j5 ∧ Ext noS G w GLB W ∧ Pin.le GLA GLB ∧ (j5 ≤ gs.length) ∧ (PoolOk (bkq nsB bsB)) ∧ (GsOk (bkq nsB bsB) atsB ((gs.take j5).map gOf)) ∧ (nsB.length ≤ 100000 + 1000 * j5) ∧ (GsOk (bkq nsB bsB) atsA (fs.map gOf)) ∧ (Own eInt 3 GLB W w.heap.size atB (atsB)) ∧ (Own eNode 68 GLB W 0 uB (nsB)) ∧ (Own eInt 3 GLB W 0 vB (bsB)) ∧ (Own eInt 3 GLB W w.heap.size atA (atsA)) ∧ (Bx GLB W b1 [(.slice none 0 0)]) ∧ (Bx GLB W b9 [uB, vB]) ∧ (Apart atB.ownBlock uB.ownBlock) ∧ (Apart atB.ownBlock vB.ownBlock) ∧ (Apart atB.ownBlock atA.ownBlock) ∧ (Apart atB.ownBlock (some b1)) ∧ (Apart atB.ownBlock (some b9)) ∧ (Apart uB.ownBlock vB.ownBlock) ∧ (Apart uB.ownBlock atA.ownBlock) ∧ (Apart uB.ownBlock (some b1)) ∧ (Apart uB.ownBlock (some b9)) ∧ (Apart vB.ownBlock atA.ownBlock) ∧ (Apart vB.ownBlock (some b1)) ∧ (Apart vB.ownBlock (some b9)) ∧ (Lo w noS uB.ownBlock) ∧ (Lo w noS vB.ownBlock)) _ ⟨_, 0, u31, [], uA, vA, nsA, bsA, GLA, (packS (x := 9) (packS (x := 7) (packS (x := 6) (packS (x := 5) (packS (x := 4) (pack1 (x := 1) rfl) rfl) rfl) rfl) rfl) rfl), rfl, hX48, Pin.le_refl _, Nat.zero_le _, hokA, GsOk.nil, (by omega), hgsF, hw52, hw50, hw51, hw49, hw53, hw54, ha61.symm, ha64.symm, ha57.symm, ha42, ha43, ha60, ha55.symm, ha62, ha63, ha56.symm, ha65, ha66, hlo67, hlo68⟩ ?_
 rintro k146 _ w147 ⟨env1, j5, atB, atsB, uB, vB, nsB, bsB, GLB, rfl, hk148, hX149, hlek146, hkj5, hokB, hgsB, hblB, hgsL, hw150, hw151, hw152, hw153, hw154, hw155, ha156, ha157, ha158, ha159, ha160, ha161, ha162, ha163, ha164, ha165, ha166, ha167, hlo168, hlo169⟩
 have hglB := hgsB.len
 rw [List.length_map, List.length_take] at hglB
 refine s_seq (s_seq (c_reg ?_))
 refine qd rfl rfl rfl (r_move (v := (.int .i64 (j5 : Int))) rfl) (qd rfl rfl rfl (r_move (v := v) rfl) (qd rfl rfl rfl (run_len Tryz.underlying24 (v := v) rfl hv) (qd rfl rfl rfl (r_lss rfl rfl) (qe (s_then ?_)))))
 refine c_ifd (p := ((j5 : Int) : Int) < (gs.length : Int)) rfl rfl (fun h170 => ?_) (fun h170 => ?_)
 have hgd := hga.ok j5 (by omega)
 have hgdl := hgd.2.1
 have hgdh := hgd.2.2
 have hrk := bk_root (fs := gs.getD j5 []) hokB hgd.1 (by omega) (by omega)
 refine wp_skip (s_then (s_seq ?_))
 refine s_blk (c_reg (qd rfl rfl rfl (r_move (v := atB) rfl) (qd rfl rfl rfl (r_move (v := (.pointer (some ⟨b9, 0, none⟩))) rfl) (qd rfl rfl rfl (r_move (v := v) rfl) (qd rfl rfl rfl (r_move (v := (.int .i64 (j5 : Int))) rfl) (qd rfl rfl rfl (run_idx Tryz.underlying24 sz28 (v := v) rfl rfl hv (by omega) (by omega)) ?_))))))
 obtain ⟨u171, hr172, hl173⟩ := nm_form (hv.at (z := (j5 : Int)) (by omega) (by omega)) (j := j5) rfl
 have hm174 := hr172.max
 refine qd rfl rfl rfl (hl173 ag28 sz28 rfl (Pins.of_le hX149.pins (Pin.le_trans hlek45 hlek146))) (q1 rfl rfl rfl (o_call (vs := [(.pointer (some ⟨b9, 0, none⟩)), (.agg [u171].toArray)]) Tryz.func116 nm116 rfl rfl rfl ?_))
 refine Calls.mono (root_spec hX149.pins ⟨hw155, hw151, hw152, ha164.symm, ha167.symm, ha161⟩ hokB.ar.ok (hr172.mono (Pin.le_trans hlek45 hlek146)) ⟨hgd.1, hgdl⟩ (by first | omega | (simp; omega))) ?_
 rintro _ w178 ⟨u175, v176, G177, rfl, hbk179, hx180, hlu181, hlv182⟩
 refine ⟨_, rfl, ?_⟩
 have hin185 : ∀ i, inS b9 uB vB i → w.heap.size ≤ i ∨ noS i := inS_lo (lo_box hlo18) hlo168 hlo169
 have hX186 := hX149.trans hx180 hin185
 have hn187 := notS (u := uB) (v := vB) ha160 ha156 ha157
 have ho188 := hw150.extS hx180 hn187
 have ha189 : Apart atB.ownBlock u175.ownBlock := ap_call hlu181 hn187 (own_lt hw150)
 have ha190 : Apart atB.ownBlock v176.ownBlock := ap_call hlv182 hn187 (own_lt hw150)
 have hn191 := notS (u := uB) (v := vB) ha59 ha162.symm ha165.symm
 have ho192 := hw153.extS hx180 hn191
 have ha193 : Apart atA.ownBlock u175.ownBlock := ap_call hlu181 hn191 (own_lt hw153)
 have ha194 : Apart atA.ownBlock v176.ownBlock := ap_call hlv182 hn191 (own_lt hw153)
 have hn195 := notS (u := uB) (v := vB) ha17.symm ha163.symm ha166.symm
 have ho196 := hw154.extS hx180 (notSb hn195)
 have ha197 : Apart (some b1) u175.ownBlock := ap_call hlu181 hn195 (box_lt hw154)
 have ha198 : Apart (some b1) v176.ownBlock := ap_call hlv182 hn195 (box_lt hw154)
 have hb199 := hbk179.bx
 have ho200 := hbk179.ou
 have ho201 := hbk179.ov
 have ha202 := hbk179.abu
 have ha203 := hbk179.abv
 have ha204 := hbk179.auv
 have hlo205 := lo_call hlu181 hin185 hX149.size
 have hlo206 := lo_call hlv182 hin185 hX149.size
 refine q1 rfl rfl rfl (o_buildF (E := eInt) (e := 3) [(.int .i64 (rootM nsB bsB (gs.getD j5 [])))] [rootM nsB bsB (gs.getD j5 [])] Tryz.underlying57 sz3 zr3 (by exact reps1 (by rfl)) (ones1 (by rfl)) rfl rfl rfl rfl (by decide) hX186.pins (fun u207 w208 ho209 hp210 hl211 hk212 => ?_))
 have hX213 := hX186.step hp210 hl211
 have ho214 := ho188.below hl211
 have ho215 := ho192.below hl211
 have ho216 := ho200.below hl211
 have ho217 := ho201.below hl211
 have hb218 := ho196.below hl211
 have hb219 := hb199.below hl211
 have ho226 : Own eInt 3 G177 w208 w.heap.size u207 ([rootM nsB bsB (gs.getD j5 [])]) := ho209.weaken hX186.size
 refine q1 rfl rfl rfl (o_append (E := eInt) (v := atB) (u := u207) 8 Tryz.underlying57 ap3 (by decide) rfl rfl hX213.pins ho214 ho226.src (by first | omega | (rw [List.nil_append]; omega) | (rw [List.length_nil]; omega) | (rw [List.length_append]; omega) | (simp; done) | (simp; omega) | (simp only [List.length_append, List.length_cons, List.length_nil]; omega)) (by first | omega | (rw [List.nil_append]; omega) | (rw [List.length_nil]; omega) | (rw [List.length_append]; omega) | (simp; done) | (simp; omega) | (simp only [List.length_append, List.length_cons, List.length_nil]; omega)) (hX213.size) (fun u227 w228 ho229 hp230 hg231 hw232 => ?_))
 have hX233 := hX213.write hp230 hg231 ((lo_own ho214))
 have ho234 := ho215.keptA hg231 ha158.symm
 have ho235 := ho216.keptA hg231 ha189.symm
 have ho236 := ho217.keptA hg231 ha190.symm
 have hb238 := hb218.keptA hg231 ha159.symm
 have hb239 := hb219.keptA hg231 ha160.symm
 have ha240 : Apart atA.ownBlock u227.ownBlock := app_ne_own ha158.symm hw232 ho215.lt
 have ha241 : Apart u175.ownBlock u227.ownBlock := app_ne_own ha189.symm hw232 ho216.lt
 have ha242 : Apart v176.ownBlock u227.ownBlock := app_ne_own ha190.symm hw232 ho217.lt
 have ha244 : Apart (some b1) u227.ownBlock := app_ne_box ha159.symm hw232 hb218.lt
 have ha245 : Apart (some b9) u227.ownBlock := app_ne_box ha160.symm hw232 hb219.lt
 have hm246 : (atsB ++ ([rootM nsB bsB (gs.getD j5 [])])).length = atsB.length + 1 := List.length_append
 refine qd rfl rfl rfl (r_assign (v := u227) rfl) (qe (s_blkN (s_then (c_reg ?_))))
 refine qd rfl rfl rfl (r_move (v := (.int .i64 (j5 : Int))) rfl) (qd rfl rfl rfl (r_add rfl rfl (by omega)) (qd rfl rfl rfl (r_assign (v := (.int .i64 ((j5 : Int) + 1))) rfl) (qe (s_lopN (⟨_, ?_, _, rfl, _, j5 + 1, u227, atsB ++ ([rootM nsB bsB (gs.getD j5 [])]), u175, v176, (addM nsB bsB (gs.getD j5 [])).2.1, (addM nsB bsB (gs.getD j5 [])).2.2, G177, (packS (x := 9) (packS (x := 7) (packS (x := 6) (packS (x := 5) (packS (x := 4) (pack1 (x := 1) rfl) rfl) rfl) rfl) rfl) rfl), rfl, hX233, (Pin.le_trans hlek146 hx180.le), (by omega), hrk.ok, (by rw [take_map (by omega)]; exact (hgsB.px hrk.px hokB hrk.ok).snoc hrk.pl hrk.pd), (by have h8 := hrk.len; have h9 := hgd.2.2; omega), (hgsL.px hrk.px hokB hrk.ok), ho229, ho235, ho236, ho234, hb238, hb239, ha241.symm, ha242.symm, ha240.symm, ha244.symm, ha245.symm, ha204, ha193.symm, ha197.symm, ha202.symm, ha194.symm, ha198.symm, ha203.symm, hlo205, hlo206⟩)))))
 omega
 refine wp_exit (s_thenE (s_lopE (s_blkE (s_then (s_seq (c_reg ?_))))))
 have hj5n : j5 = gs.length := by omega
 have hgsR : GsOk (bkq nsB bsB) atsB (gs.map gOf) := by rw [hj5n, List.take_length] at hgsB; exact hgsB
 have hl1 := hgsL.len
 have hl2 := hgsR.len
 rw [List.length_map] at hl1 hl2
 have hpt := bk_put (xs := atsA) (ys := atsB) hokB (by omega) ⟨by omega, by omega⟩ hgsL.pl hgsR.pl
 have hpd := hpt.pd
 rw [hgsL.eq, hgsR.eq] at hpd
 refine qd rfl rfl rfl (r_move (v := (.pointer (some ⟨b9, 0, none⟩))) rfl) (qd rfl rfl rfl (r_move (v := (.pointer (some ⟨b9, 0, none⟩))) rfl) (qd rfl rfl rfl (r_move (v := atA) rfl) (qd rfl rfl rfl (r_move (v := atB) rfl) ?_)))
 obtain ⟨G247, hle250, hX249, hr248, hf251⟩ := hw153.sealed hX149
 have ho252 := hw150.moreO hle250 hf251 ha158
 have ho253 := hw151.moreO hle250 hf251 ha162
 have ho254 := hw152.moreO hle250 hf251 ha165
 have hb255 := hw154.moreO hf251 ha58.symm
 have hb256 := hw155.moreO hf251 ha59.symm
 obtain ⟨G257, hle260, hX259, hr258, hf261⟩ := ho252.sealed hX249
 have ho262 := ho253.moreO hle260 hf261 ha156.symm
 have ho263 := ho254.moreO hle260 hf261 ha157.symm
 have hb264 := hb255.moreO hf261 ha159.symm
 have hb265 := hb256.moreO hf261 ha160.symm
 refine q1 rfl rfl rfl (o_call (vs := [(.pointer (some ⟨b9, 0, none⟩)), atA, atB]) Tryz.func124 nm124 rfl rfl rfl ?_)
 refine Calls.mono (put_spec hX259.pins ⟨hb265, ho262, ho263, ha164.symm, ha167.symm, ha161⟩ hokB.ar.ok (hr248.mono hle260) hr258 ⟨by omega, by omega⟩ (places_of hgsL.pl) (places_of hgsR.pl)) ?_
 rintro _ w269 ⟨u266, v267, G268, rfl, hbk270, hx271, hlu272, hlv273⟩
 refine ⟨_, rfl, ?_⟩
 have hin276 : ∀ i, inS b9 uB vB i → w.heap.size ≤ i ∨ noS i := inS_lo (lo_box hlo18) hlo168 hlo169
 have hX277 := hX259.trans hx271 hin276
 have hn278 := notS (u := uB) (v := vB) ha17.symm ha163.symm ha166.symm
 have ho279 := hb264.extS hx271 (notSb hn278)
 have hb282 := hbk270.bx
 have ho283 := hbk270.ou
 have ho284 := hbk270.ov
 have ha285 := hbk270.abu
 have ha286 := hbk270.abv
 have ha287 := hbk270.auv
 have hlo288 := lo_call hlu272 hin276 hX259.size
 have hlo289 := lo_call hlv273 hin276 hX259.size
 refine q1 rfl rfl rfl (o_call (vs := [(.pointer (some ⟨b9, 0, none⟩)), (.int .i64 (putK nsB bsB atsA atsB))]) Tryz.func115 nm115 rfl rfl rfl ?_)
 refine Calls.mono (form_own hX277.pins ⟨hb282, ho283, ho284, ha285, ha286, ha287⟩ hpt.ok.ar.ok hpt.pl) ?_
 rintro _ w292 ⟨u290, G291, rfl, hr293, hx294, hfr295⟩
 refine ⟨_, rfl, ?_⟩
 have hlb296 : b1 < w269.heap.size := ho279.lt
 have hlb297 : b9 < w269.heap.size := hb282.lt
 have hX298 := hX277.tr hx294
 have hb301 := ho279.ext hx294
 refine q0 rfl rfl rfl (o_stp (cs' := [u290]) (us := [u290]) (v := (.agg [u290].toArray)) sz28 rfl rfl rfl (ones1 hr293.one) hX298.pins hb301 (Nat.le_of_ble_eq_true rfl) rfl (fun w303 hb304 hp305 hg306 hz307 => ?_))
 have hX308 := hX298.write hp305 hg306 ((lo_box hlo8))
 have hgi312 : ∃ Gi, Own eNode 68 Gi w303 w269.heap.size u290 (formM (putN nsB bsB atsA atsB) (putB nsB bsB atsA atsB) (putK nsB bsB atsA atsB).toNat) ∧ Pin.le Gi G291 := let ⟨Gi, a, b⟩ := hfr295; ⟨Gi, a.keptA hg306 (fun k hk1 hk2 => by cases hk2; have := (a.lt _ hk1).1; omega), b⟩
 refine qe (s_then ?_)
 refine wp_ret (s_ret (c_retc (cs := [u290]) rfl rfl rfl ag28 sz28 (fun j u hj => by rw [Nat.zero_add]; exact hb304.cell hj) ?_))
 have hfe : mkGm fs gs = _ := hpd.symm
 obtain ⟨Gi, hoi, hli⟩ := hgi312
 exact ⟨_, _, rfl, (by rw [hfe, ← book_form hpt.ok hpt.pl]; exact hr293), hX308, (by rw [hfe, ← book_form hpt.ok hpt.pl]; exact ⟨Gi, hoi.weaken hX277.size, hli⟩)⟩

theorem l3Make_spec {w : World} {G : Pin} {u v : Value} {fs gs : List (List Nd)} (hP : Pins G w) (hu : RSl (eSl eNode) G u fs) (hv : RSl (eSl eNode) G v gs) (hfa : AllW fs) (hga : AllW gs) :
  Calls Tryz.prog 67 [u, v].toArray w fun e w' => ∃ (u : Value) (G' : Pin), e = .returned (.agg [u].toArray) ∧ RSl eNode G' u (formG (mkGm fs gs)) ∧ Ext noS G w G' w' :=
 (l3Make_own hP hu hv hfa hga).mono fun _ _ ⟨u, G', h1, h2, h3, _⟩ => ⟨u, G', h1, h2, h3⟩

end MK1
end Go.Proofs.YtkfgdhanaijddaaGreatDoor

set_option maxRecDepth 20000
set_option maxHeartbeats 2000000
namespace Go.Proofs.YtkfgdhanaijddaaGreatDoor
namespace DR1
open Go.RowKit Go.GL Go.Proofs
open Go.Proofs.YtkfgdhanaijddaaGreatDoor.B1












theorem next_spec {w : World} {G : Pin} {c : Nat} {cv : Value} {code : List UInt8} {a s : Int} (hP : Pins G w) (hB : Bx G w c [cv, .int .i64 a, .int .u64 s]) (hc : RSl eByte G cv code) (ha : 0 ≤ a ∧ a + 1 ≤ 1000000) (_ : 0 ≤ s ∧ s < 18446744073709551616) :
  Calls Tryz.prog 96 [(.pointer (some ⟨c, 0, none⟩))].toArray w fun e w' => ∃ (z : Int) (a' s' : Int), e = .returned (.int .i64 z) ∧ (0 ≤ z ∧ z ≤ 255) ∧ Bx G w' c [cv, .int .i64 a', .int .u64 s'] ∧ (a ≤ a' ∧ a' ≤ a + 1) ∧ (0 ≤ s' ∧ s' < 18446744073709551616) ∧ Ext (inO (some c)) G w G w' := by
 refine s_enter (n := 62) Tryz.func96 Tryz.ntmps96 rfl rfl ?_
 have hX0 : Ext (inO (some c)) G w G w := Ext.refl hP
 have hm := hc.max
 refine s_seq (c_reg ?_)
 refine qd rfl rfl rfl (r_assign (v := (.int .i64 0)) rfl) (qe (s_then (s_seq (c_reg ?_))))
 refine qd rfl rfl rfl (r_assign (v := (.int .i64 0)) rfl) (qe (s_then (s_seq (s_seq ?_))))
 refine c_draw (S := fun wz => BxR wz c [cv, (.int .i64 a), (.int .u64 s)]) (last := 10) (by kernel_rfl) rfl ?_
 have hl1 : Below w.heap.size w w.drew := (Below.refl _ _).drew
 have hp2 := hX0.pins.below hl1
 have hX3 := hX0.step hp2 hl1
 have hb4 := hB.below hl1
 refine dr_take (i := 0) rfl rfl rfl (want_none rfl _) (by kernel_rfl) (fun _ _ => r_move (v := (.pointer (some ⟨c, 0, none⟩))) rfl) hb4.reads (dr_take (i := 1) rfl rfl rfl (want_none rfl _) (by kernel_rfl) (fun _ _ => r_nil rfl) hb4.reads (dr_take (i := 2) rfl rfl rfl (want_none rfl _) (by kernel_rfl) (fun _ _ => r_fldp (k := 1) rfl Tryz.underlying63 rfl nz3 rfl) hb4.reads (dr_take (i := 3) rfl rfl rfl (want_none rfl _) (by kernel_rfl) (fun _ hS => r_ldp1 (u := (.int .i64 a)) ag3 rfl (hS 1 _ rfl)) hb4.reads (dr_take (i := 4) rfl rfl rfl (want_none rfl _) (by kernel_rfl) (fun _ _ => r_move (v := (.pointer (some ⟨c, 0, none⟩))) rfl) hb4.reads (dr_take (i := 5) rfl rfl rfl (want_none rfl _) (by kernel_rfl) (fun _ _ => r_nil rfl) hb4.reads (dr_take (i := 6) rfl rfl rfl (want_none rfl _) (by kernel_rfl) (fun _ _ => r_fldp (k := 0) rfl Tryz.underlying63 rfl nz22 rfl) hb4.reads (dr_take (i := 7) rfl rfl rfl (want_none rfl _) (by kernel_rfl) (fun _ hS => r_ldp1 (u := cv) ag22 rfl (hS 0 _ rfl)) hb4.reads (dr_take (i := 8) rfl rfl rfl (want_none rfl _) (by kernel_rfl) (fun _ _ => run_len Tryz.underlying22 (v := cv) rfl hc) hb4.reads (dr_take (i := 9) rfl rfl rfl (want_none rfl _) (by kernel_rfl) (fun _ _ => r_lss rfl rfl) hb4.reads (dr_end (by kernel_rfl) (s_then (c_ifd (p := (a : Int) < (code.length : Int)) rfl rfl (fun h5 => ?_) (fun h5 => ?_)))))))))))))
 have h255 := (code.getD a.toNat 0).toNat_lt
 refine c_draw (S := fun wz => BxR wz c [cv, (.int .i64 a), (.int .u64 s)] ∧ Pins G wz) (last := 12) (by kernel_rfl) rfl ?_
 have hl6 : Below w.drew.heap.size w.drew w.drew.drew := (Below.refl _ _).drew
 have hp7 := hX3.pins.below hl6
 have hX8 := hX3.step hp7 hl6
 have hb9 := hb4.below hl6
 refine dr_take (i := 0) rfl rfl rfl (want_none rfl _) (by kernel_rfl) (fun _ _ => r_move (v := (.pointer (some ⟨c, 0, none⟩))) rfl) ⟨hb9.reads, hX8.pins⟩ (dr_take (i := 1) rfl rfl rfl (want_none rfl _) (by kernel_rfl) (fun _ _ => r_nil rfl) ⟨hb9.reads, hX8.pins⟩ (dr_take (i := 2) rfl rfl rfl (want_none rfl _) (by kernel_rfl) (fun _ _ => r_fldp (k := 0) rfl Tryz.underlying63 rfl nz22 rfl) ⟨hb9.reads, hX8.pins⟩ (dr_take (i := 3) rfl rfl rfl (want_none rfl _) (by kernel_rfl) (fun _ hS => r_ldp1 (u := cv) ag22 rfl (hS.1 0 _ rfl)) ⟨hb9.reads, hX8.pins⟩ (dr_take (i := 4) rfl rfl rfl (want_none rfl _) (by kernel_rfl) (fun _ _ => r_move (v := (.pointer (some ⟨c, 0, none⟩))) rfl) ⟨hb9.reads, hX8.pins⟩ (dr_take (i := 5) rfl rfl rfl (want_none rfl _) (by kernel_rfl) (fun _ _ => r_nil rfl) ⟨hb9.reads, hX8.pins⟩ (dr_take (i := 6) rfl rfl rfl (want_none rfl _) (by kernel_rfl) (fun _ _ => r_fldp (k := 1) rfl Tryz.underlying63 rfl nz3 rfl) ⟨hb9.reads, hX8.pins⟩ (dr_take (i := 7) rfl rfl rfl (want_none rfl _) (by kernel_rfl) (fun _ hS => r_ldp1 (u := (.int .i64 a)) ag3 rfl (hS.1 1 _ rfl)) ⟨hb9.reads, hX8.pins⟩ (dr_take (i := 8) rfl rfl rfl (want_none rfl _) (by kernel_rfl) (fun _ _ => run_idx Tryz.underlying22 sz5 (v := cv) rfl rfl hc (by omega) (by omega)) ⟨hb9.reads, hX8.pins⟩ ?_))))))))
 refine dr_take (i := 9) rfl rfl rfl (want_none rfl _) (by kernel_rfl) (fun _ hS => run_load_byte (r := code.getD (a).toNat 0) rfl ag5 (z := a) rfl hc hS.2 (by omega) (by omega)) ⟨hb9.reads, hX8.pins⟩ (dr_take (i := 10) rfl rfl rfl (want_none rfl _) (by kernel_rfl) (fun _ _ => r_conv (j := ((code.getD (a).toNat 0).toNat : Int)) Tryz.underlying5 Tryz.underlying3 rfl (wrapI (by omega))) ⟨hb9.reads, hX8.pins⟩ (dr_take (i := 11) rfl rfl rfl (want_none rfl _) (by kernel_rfl) (fun _ _ => r_assign (v := (.int .i64 ((code.getD (a).toNat 0).toNat : Int))) rfl) ⟨hb9.reads, hX8.pins⟩ (dr_end (by kernel_rfl) (s_then (s_seq (c_reg ?_))))))
 refine qd rfl rfl rfl (r_move (v := (.pointer (some ⟨c, 0, none⟩))) rfl) (qd rfl rfl rfl (r_nil rfl) (qd rfl rfl rfl (r_fldp (k := 1) rfl Tryz.underlying63 rfl nz3 rfl) (qd rfl rfl rfl (r_ldp1 (u := (.int .i64 a)) ag3 rfl (hb9.cell (o := 1) rfl)) (qd rfl rfl rfl (r_add rfl rfl (by omega)) (qd rfl rfl rfl (r_nil rfl) (qd rfl rfl rfl (r_fldp (k := 1) rfl Tryz.underlying63 rfl nz3 rfl) (q0 rfl rfl rfl (o_stp (cs' := [cv, (.int .i64 (a + 1)), (.int .u64 s)]) (us := [(.int .i64 (a + 1))]) (v := (.int .i64 (a + 1))) sz3 rfl rfl rfl (ones1 (by rfl)) hX8.pins hb9 (Nat.le_of_ble_eq_true rfl) rfl (fun w10 hb11 hp12 hg13 hz14 => ?_)))))))))
 have hX15 := hX8.write hp12 hg13 (lo_self)
 refine qe (s_then (s_seq (c_reg ?_)))
 refine qd rfl rfl rfl (r_move (v := (.pointer (some ⟨c, 0, none⟩))) rfl) (qd rfl rfl rfl (r_move (v := (.pointer (some ⟨c, 0, none⟩))) rfl) (qd rfl rfl rfl (r_nil rfl) (qd rfl rfl rfl (r_fldp (k := 2) rfl Tryz.underlying63 rfl nz61 rfl) (qd rfl rfl rfl (r_ldp1 (u := (.int .u64 s)) ag61 rfl (hb11.cell (o := 2) rfl)) (qd rfl rfl rfl (r_mulU rfl rfl) (qd rfl rfl rfl (r_move (v := (.int .i64 ((code.getD (a).toNat 0).toNat : Int))) rfl) (qd rfl rfl rfl (r_conv (j := ((code.getD (a).toNat 0).toNat : Int)) Tryz.underlying3 Tryz.underlying61 rfl (wrapU (by omega))) (qd rfl rfl rfl (r_addU rfl rfl) (qd rfl rfl rfl (r_addU rfl rfl) (qd rfl rfl rfl (r_nil rfl) (qd rfl rfl rfl (r_fldp (k := 2) rfl Tryz.underlying63 rfl nz61 rfl) (q0 rfl rfl rfl (o_stp (cs' := [cv, (.int .i64 (a + 1)), (.int .u64 (IntKind.u64.wrap ((IntKind.u64.wrap ((IntKind.u64.wrap (s * 6364136223846793005)) + ((code.getD (a).toNat 0).toNat : Int))) + 868868)))]) (us := [(.int .u64 (IntKind.u64.wrap ((IntKind.u64.wrap ((IntKind.u64.wrap (s * 6364136223846793005)) + ((code.getD (a).toNat 0).toNat : Int))) + 868868)))]) (v := (.int .u64 (IntKind.u64.wrap ((IntKind.u64.wrap ((IntKind.u64.wrap (s * 6364136223846793005)) + ((code.getD (a).toNat 0).toNat : Int))) + 868868)))) sz61 rfl rfl rfl (ones1 (by rfl)) hX15.pins hb11 (Nat.le_of_ble_eq_true rfl) rfl (fun w16 hb17 hp18 hg19 hz20 => ?_))))))))))))))
 have hX21 := hX15.write hp18 hg19 (lo_self)
 refine qe (s_then (s_seq (s_seq ?_)))
 refine c_draw (S := fun wz => BxR wz c [cv, (.int .i64 (a + 1)), (.int .u64 (IntKind.u64.wrap ((IntKind.u64.wrap ((IntKind.u64.wrap (s * 6364136223846793005)) + ((code.getD (a).toNat 0).toNat : Int))) + 868868)))]) (last := 10) (by kernel_rfl) rfl ?_
 have hl22 : Below w16.heap.size w16 w16.drew := (Below.refl _ _).drew
 have hp23 := hX21.pins.below hl22
 have hX24 := hX21.step hp23 hl22
 have hb25 := hb17.below hl22
 refine dr_take (i := 0) rfl rfl rfl (want_none rfl _) (by kernel_rfl) (fun _ _ => r_move (v := (.pointer (some ⟨c, 0, none⟩))) rfl) hb25.reads (dr_take (i := 1) rfl rfl rfl (want_none rfl _) (by kernel_rfl) (fun _ _ => r_nil rfl) hb25.reads (dr_take (i := 2) rfl rfl rfl (want_none rfl _) (by kernel_rfl) (fun _ _ => r_fldp (k := 1) rfl Tryz.underlying63 rfl nz3 rfl) hb25.reads (dr_take (i := 3) rfl rfl rfl (want_none rfl _) (by kernel_rfl) (fun _ hS => r_ldp1 (u := (.int .i64 (a + 1))) ag3 rfl (hS 1 _ rfl)) hb25.reads (dr_take (i := 4) rfl rfl rfl (want_none rfl _) (by kernel_rfl) (fun _ _ => r_move (v := (.pointer (some ⟨c, 0, none⟩))) rfl) hb25.reads (dr_take (i := 5) rfl rfl rfl (want_none rfl _) (by kernel_rfl) (fun _ _ => r_nil rfl) hb25.reads (dr_take (i := 6) rfl rfl rfl (want_none rfl _) (by kernel_rfl) (fun _ _ => r_fldp (k := 0) rfl Tryz.underlying63 rfl nz22 rfl) hb25.reads (dr_take (i := 7) rfl rfl rfl (want_none rfl _) (by kernel_rfl) (fun _ hS => r_ldp1 (u := cv) ag22 rfl (hS 0 _ rfl)) hb25.reads (dr_take (i := 8) rfl rfl rfl (want_none rfl _) (by kernel_rfl) (fun _ _ => run_len Tryz.underlying22 (v := cv) rfl hc) hb25.reads (dr_take (i := 9) rfl rfl rfl (want_none rfl _) (by kernel_rfl) (fun _ _ => r_leq rfl rfl) hb25.reads (dr_end (by kernel_rfl) (s_then (c_ifd (p := (a + 1 : Int) ≤ (code.length : Int)) rfl rfl (fun h26 => ?_) (fun h26 => ?_)))))))))))))
 refine s_seq (c_reg ?_)
 refine qd rfl rfl rfl (r_move (v := (.int .i64 ((code.getD (a).toNat 0).toNat : Int))) rfl) (qd rfl rfl rfl (r_assign (v := (.int .i64 ((code.getD (a).toNat 0).toNat : Int))) rfl) (qe (s_then ?_)))
 refine wp_ret (s_ret (c_ret1 (v := (.int .i64 ((code.getD (a).toNat 0).toNat : Int))) rfl rfl rfl ?_))
 have hwr := wrapU_lt (((IntKind.u64.wrap ((IntKind.u64.wrap (s * 6364136223846793005)) + ((code.getD (a).toNat 0).toNat : Int))) + 868868))
 exact ⟨_, _, _, rfl, (by omega), hb25, (by omega), (by omega), hX24⟩
 refine wp_skip (s_then (s_seq (c_reg ?_)))
 refine qd rfl rfl rfl (r_move (v := (.pointer (some ⟨c, 0, none⟩))) rfl) (qd rfl rfl rfl (r_nil rfl) (qd rfl rfl rfl (r_fldp (k := 2) rfl Tryz.underlying63 rfl nz61 rfl) (qd rfl rfl rfl (r_ldp1 (u := (.int .u64 (IntKind.u64.wrap ((IntKind.u64.wrap ((IntKind.u64.wrap (s * 6364136223846793005)) + ((code.getD (a).toNat 0).toNat : Int))) + 868868)))) ag61 rfl (hb25.cell (o := 2) rfl)) (qd rfl rfl rfl (r_shrU rfl rfl (by omega)) (qd rfl rfl rfl (r_and rfl rfl) ?_)))))
 have hl827 := low8_lt (Int.fdiv (IntKind.u64.wrap ((IntKind.u64.wrap ((IntKind.u64.wrap (s * 6364136223846793005)) + ((code.getD (a).toNat 0).toNat : Int))) + 868868)) (2 ^ (min (40 : Int).toNat 64)))
 refine qd rfl rfl rfl (r_conv (j := andW .u64 (Int.fdiv (IntKind.u64.wrap ((IntKind.u64.wrap ((IntKind.u64.wrap (s * 6364136223846793005)) + ((code.getD (a).toNat 0).toNat : Int))) + 868868)) (2 ^ (min (40 : Int).toNat 64))) 255) Tryz.underlying61 Tryz.underlying3 rfl (wrapI (by omega))) (qd rfl rfl rfl (r_assign (v := (.int .i64 (andW .u64 (Int.fdiv (IntKind.u64.wrap ((IntKind.u64.wrap ((IntKind.u64.wrap (s * 6364136223846793005)) + ((code.getD (a).toNat 0).toNat : Int))) + 868868)) (2 ^ (min (40 : Int).toNat 64))) 255))) rfl) (qe (s_then ?_)))
 refine wp_ret (s_ret (c_ret1 (v := (.int .i64 (andW .u64 (Int.fdiv (IntKind.u64.wrap ((IntKind.u64.wrap ((IntKind.u64.wrap (s * 6364136223846793005)) + ((code.getD (a).toNat 0).toNat : Int))) + 868868)) (2 ^ (min (40 : Int).toNat 64))) 255))) rfl rfl rfl ?_))
 have hwr := wrapU_lt (((IntKind.u64.wrap ((IntKind.u64.wrap (s * 6364136223846793005)) + ((code.getD (a).toNat 0).toNat : Int))) + 868868))
 exact ⟨_, _, _, rfl, (by omega), hb25, (by omega), (by omega), hX24⟩
 refine wp_skip (s_then (s_seq (c_reg ?_)))
 refine qd rfl rfl rfl (r_move (v := (.pointer (some ⟨c, 0, none⟩))) rfl) (qd rfl rfl rfl (r_nil rfl) (qd rfl rfl rfl (r_fldp (k := 1) rfl Tryz.underlying63 rfl nz3 rfl) (qd rfl rfl rfl (r_ldp1 (u := (.int .i64 a)) ag3 rfl (hb4.cell (o := 1) rfl)) (qd rfl rfl rfl (r_add rfl rfl (by omega)) (qd rfl rfl rfl (r_nil rfl) (qd rfl rfl rfl (r_fldp (k := 1) rfl Tryz.underlying63 rfl nz3 rfl) (q0 rfl rfl rfl (o_stp (cs' := [cv, (.int .i64 (a + 1)), (.int .u64 s)]) (us := [(.int .i64 (a + 1))]) (v := (.int .i64 (a + 1))) sz3 rfl rfl rfl (ones1 (by rfl)) hX3.pins hb4 (Nat.le_of_ble_eq_true rfl) rfl (fun w28 hb29 hp30 hg31 hz32 => ?_)))))))))
 have hX33 := hX3.write hp30 hg31 (lo_self)
 refine qe (s_then (s_seq (c_reg ?_)))
 refine qd rfl rfl rfl (r_move (v := (.pointer (some ⟨c, 0, none⟩))) rfl) (qd rfl rfl rfl (r_move (v := (.pointer (some ⟨c, 0, none⟩))) rfl) (qd rfl rfl rfl (r_nil rfl) (qd rfl rfl rfl (r_fldp (k := 2) rfl Tryz.underlying63 rfl nz61 rfl) (qd rfl rfl rfl (r_ldp1 (u := (.int .u64 s)) ag61 rfl (hb29.cell (o := 2) rfl)) (qd rfl rfl rfl (r_mulU rfl rfl) (qd rfl rfl rfl (r_move (v := (.int .i64 0)) rfl) (qd rfl rfl rfl (r_conv (j := 0) Tryz.underlying3 Tryz.underlying61 rfl (wrapU (by omega))) (qd rfl rfl rfl (r_addU rfl rfl) (qd rfl rfl rfl (r_addU rfl rfl) (qd rfl rfl rfl (r_nil rfl) (qd rfl rfl rfl (r_fldp (k := 2) rfl Tryz.underlying63 rfl nz61 rfl) (q0 rfl rfl rfl (o_stp (cs' := [cv, (.int .i64 (a + 1)), (.int .u64 (IntKind.u64.wrap ((IntKind.u64.wrap ((IntKind.u64.wrap (s * 6364136223846793005)) + 0)) + 868868)))]) (us := [(.int .u64 (IntKind.u64.wrap ((IntKind.u64.wrap ((IntKind.u64.wrap (s * 6364136223846793005)) + 0)) + 868868)))]) (v := (.int .u64 (IntKind.u64.wrap ((IntKind.u64.wrap ((IntKind.u64.wrap (s * 6364136223846793005)) + 0)) + 868868)))) sz61 rfl rfl rfl (ones1 (by rfl)) hX33.pins hb29 (Nat.le_of_ble_eq_true rfl) rfl (fun w34 hb35 hp36 hg37 hz38 => ?_))))))))))))))
 have hX39 := hX33.write hp36 hg37 (lo_self)
 refine qe (s_then (s_seq (s_seq ?_)))
 refine c_draw (S := fun wz => BxR wz c [cv, (.int .i64 (a + 1)), (.int .u64 (IntKind.u64.wrap ((IntKind.u64.wrap ((IntKind.u64.wrap (s * 6364136223846793005)) + 0)) + 868868)))]) (last := 10) (by kernel_rfl) rfl ?_
 have hl40 : Below w34.heap.size w34 w34.drew := (Below.refl _ _).drew
 have hp41 := hX39.pins.below hl40
 have hX42 := hX39.step hp41 hl40
 have hb43 := hb35.below hl40
 refine dr_take (i := 0) rfl rfl rfl (want_none rfl _) (by kernel_rfl) (fun _ _ => r_move (v := (.pointer (some ⟨c, 0, none⟩))) rfl) hb43.reads (dr_take (i := 1) rfl rfl rfl (want_none rfl _) (by kernel_rfl) (fun _ _ => r_nil rfl) hb43.reads (dr_take (i := 2) rfl rfl rfl (want_none rfl _) (by kernel_rfl) (fun _ _ => r_fldp (k := 1) rfl Tryz.underlying63 rfl nz3 rfl) hb43.reads (dr_take (i := 3) rfl rfl rfl (want_none rfl _) (by kernel_rfl) (fun _ hS => r_ldp1 (u := (.int .i64 (a + 1))) ag3 rfl (hS 1 _ rfl)) hb43.reads (dr_take (i := 4) rfl rfl rfl (want_none rfl _) (by kernel_rfl) (fun _ _ => r_move (v := (.pointer (some ⟨c, 0, none⟩))) rfl) hb43.reads (dr_take (i := 5) rfl rfl rfl (want_none rfl _) (by kernel_rfl) (fun _ _ => r_nil rfl) hb43.reads (dr_take (i := 6) rfl rfl rfl (want_none rfl _) (by kernel_rfl) (fun _ _ => r_fldp (k := 0) rfl Tryz.underlying63 rfl nz22 rfl) hb43.reads (dr_take (i := 7) rfl rfl rfl (want_none rfl _) (by kernel_rfl) (fun _ hS => r_ldp1 (u := cv) ag22 rfl (hS 0 _ rfl)) hb43.reads (dr_take (i := 8) rfl rfl rfl (want_none rfl _) (by kernel_rfl) (fun _ _ => run_len Tryz.underlying22 (v := cv) rfl hc) hb43.reads (dr_take (i := 9) rfl rfl rfl (want_none rfl _) (by kernel_rfl) (fun _ _ => r_leq rfl rfl) hb43.reads (dr_end (by kernel_rfl) (s_then (c_ifd (p := (a + 1 : Int) ≤ (code.length : Int)) rfl rfl (fun h44 => ?_) (fun h44 => ?_)))))))))))))
 refine s_seq (c_reg ?_)
 refine qd rfl rfl rfl (r_move (v := (.int .i64 0)) rfl) (qd rfl rfl rfl (r_assign (v := (.int .i64 0)) rfl) (qe (s_then ?_)))
 refine wp_ret (s_ret (c_ret1 (v := (.int .i64 0)) rfl rfl rfl ?_))
 have hwr := wrapU_lt (((IntKind.u64.wrap ((IntKind.u64.wrap (s * 6364136223846793005)) + 0)) + 868868))
 exact ⟨_, _, _, rfl, (by omega), hb43, (by omega), (by omega), hX42⟩
 refine wp_skip (s_then (s_seq (c_reg ?_)))
 refine qd rfl rfl rfl (r_move (v := (.pointer (some ⟨c, 0, none⟩))) rfl) (qd rfl rfl rfl (r_nil rfl) (qd rfl rfl rfl (r_fldp (k := 2) rfl Tryz.underlying63 rfl nz61 rfl) (qd rfl rfl rfl (r_ldp1 (u := (.int .u64 (IntKind.u64.wrap ((IntKind.u64.wrap ((IntKind.u64.wrap (s * 6364136223846793005)) + 0)) + 868868)))) ag61 rfl (hb43.cell (o := 2) rfl)) (qd rfl rfl rfl (r_shrU rfl rfl (by omega)) (qd rfl rfl rfl (r_and rfl rfl) ?_)))))
 have hl845 := low8_lt (Int.fdiv (IntKind.u64.wrap ((IntKind.u64.wrap ((IntKind.u64.wrap (s * 6364136223846793005)) + 0)) + 868868)) (2 ^ (min (40 : Int).toNat 64)))
 refine qd rfl rfl rfl (r_conv (j := andW .u64 (Int.fdiv (IntKind.u64.wrap ((IntKind.u64.wrap ((IntKind.u64.wrap (s * 6364136223846793005)) + 0)) + 868868)) (2 ^ (min (40 : Int).toNat 64))) 255) Tryz.underlying61 Tryz.underlying3 rfl (wrapI (by omega))) (qd rfl rfl rfl (r_assign (v := (.int .i64 (andW .u64 (Int.fdiv (IntKind.u64.wrap ((IntKind.u64.wrap ((IntKind.u64.wrap (s * 6364136223846793005)) + 0)) + 868868)) (2 ^ (min (40 : Int).toNat 64))) 255))) rfl) (qe (s_then ?_)))
 refine wp_ret (s_ret (c_ret1 (v := (.int .i64 (andW .u64 (Int.fdiv (IntKind.u64.wrap ((IntKind.u64.wrap ((IntKind.u64.wrap (s * 6364136223846793005)) + 0)) + 868868)) (2 ^ (min (40 : Int).toNat 64))) 255))) rfl rfl rfl ?_))
 have hwr := wrapU_lt (((IntKind.u64.wrap ((IntKind.u64.wrap (s * 6364136223846793005)) + 0)) + 868868))
 exact ⟨_, _, _, rfl, (by omega), hb43, (by omega), (by omega), hX42⟩

theorem pick_spec {w : World} {G : Pin} {c : Nat} {cv : Value} {code : List UInt8} {a s : Int} {n : Int} (hP : Pins G w) (hB : Bx G w c [cv, .int .i64 a, .int .u64 s]) (hc : RSl eByte G cv code) (ha : 0 ≤ a ∧ a + 2 ≤ 1000000) (hs : 0 ≤ s ∧ s < 18446744073709551616) (hn : n ≤ 1000) :
  Calls Tryz.prog 41 [(.pointer (some ⟨c, 0, none⟩)), (.int .i64 n)].toArray w fun e w' => ∃ (z : Int) (a' s' : Int), e = .returned (.int .i64 z) ∧ (0 ≤ z ∧ (z < n ∨ z = 0)) ∧ Bx G w' c [cv, .int .i64 a', .int .u64 s'] ∧ (a ≤ a' ∧ a' ≤ a + 2) ∧ (0 ≤ s' ∧ s' < 18446744073709551616) ∧ Ext (inO (some c)) G w G w' := by
 refine s_enter (n := 20) Tryz.func41 Tryz.ntmps41 rfl rfl ?_
 have hX0 : Ext (inO (some c)) G w G w := Ext.refl hP
 have hm := hc.max
 refine s_seq (c_reg ?_)
 refine qd rfl rfl rfl (r_assign (v := (.int .i64 0)) rfl) (qe (s_then (s_seq (s_seq (c_reg ?_)))))
 refine qd rfl rfl rfl (r_move (v := (.int .i64 n)) rfl) (qd rfl rfl rfl (r_leq rfl rfl) (qe (s_then ?_)))
 refine c_ifd (p := (n : Int) ≤ 1) rfl rfl (fun h1 => ?_) (fun h1 => ?_)
 refine s_seq (c_reg ?_)
 refine qd rfl rfl rfl (r_assign (v := (.int .i64 0)) rfl) (qe (s_then ?_))
 exact wp_ret (s_ret (c_ret1 (v := (.int .i64 0)) rfl rfl rfl (⟨_, _, _, rfl, (by omega), hB, (by omega), (by omega), hX0⟩)))
 refine wp_skip (s_then (s_seq (c_reg ?_)))
 refine qd rfl rfl rfl (r_move (v := (.pointer (some ⟨c, 0, none⟩))) rfl) (q1 rfl rfl rfl (o_call (vs := [(.pointer (some ⟨c, 0, none⟩))]) Tryz.func96 nm96 rfl rfl rfl ?_))
 refine Calls.mono (next_spec hX0.pins hB hc (by omega) (by omega)) ?_
 rintro _ w6 ⟨z2, a4, s5, rfl, hz3, hb7, hda8, hds9, hx10⟩
 refine ⟨_, rfl, ?_⟩
 have hX11 := hX0.trans hx10 (fun i hi => lo_self i hi)
 refine qd rfl rfl rfl (r_assign (v := (.int .i64 z2)) rfl) (qe (s_then (s_seq (s_seq (c_reg ?_)))))
 refine qd rfl rfl rfl (r_move (v := (.int .i64 n)) rfl) (qd rfl rfl rfl (r_gtr rfl rfl) (qe (s_then ?_)))
 refine c_ifd (p := (200 : Int) < n) rfl rfl (fun h12 => ?_) (fun h12 => ?_)
 refine c_reg (qd rfl rfl rfl (r_move (v := (.int .i64 z2)) rfl) (qd rfl rfl rfl (r_mul rfl rfl (by omega)) (qd rfl rfl rfl (r_move (v := (.pointer (some ⟨c, 0, none⟩))) rfl) (q1 rfl rfl rfl (o_call (vs := [(.pointer (some ⟨c, 0, none⟩))]) Tryz.func96 nm96 rfl rfl rfl ?_)))))
 refine Calls.mono (next_spec hX11.pins hb7 hc (by omega) (by omega)) ?_
 rintro _ w17 ⟨z13, a15, s16, rfl, hz14, hb18, hda19, hds20, hx21⟩
 refine ⟨_, rfl, ?_⟩
 have hX22 := hX11.trans hx21 (fun i hi => lo_self i hi)
 refine qd rfl rfl rfl (r_add rfl rfl (by omega)) (qd rfl rfl rfl (r_assign (v := (.int .i64 ((z2 * 256) + z13))) rfl) (qe (s_then (s_seq (c_reg ?_)))))
 refine qd rfl rfl rfl (r_move (v := (.int .i64 ((z2 * 256) + z13))) rfl) (qd rfl rfl rfl (r_move (v := (.int .i64 n)) rfl) (qd rfl rfl rfl (r_rem rfl rfl (by omega) (by omega)) (qd rfl rfl rfl (r_assign (v := (.int .i64 (((z2 * 256) + z13) % n))) rfl) (qe (s_then ?_)))))
 refine wp_ret (s_ret (c_ret1 (v := (.int .i64 (((z2 * 256) + z13) % n))) rfl rfl rfl ?_))
 have hr1 := Int.emod_nonneg (((z2 * 256) + z13)) (show n ≠ 0 by omega)
 have hr2 := Int.emod_lt_of_pos (((z2 * 256) + z13)) (show 0 < n by omega)
 exact ⟨_, _, _, rfl, (by omega), hb18, (by omega), (by omega), hX22⟩
 refine wp_skip (s_then (s_seq (c_reg ?_)))
 refine qd rfl rfl rfl (r_move (v := (.int .i64 z2)) rfl) (qd rfl rfl rfl (r_move (v := (.int .i64 n)) rfl) (qd rfl rfl rfl (r_rem rfl rfl (by omega) (by omega)) (qd rfl rfl rfl (r_assign (v := (.int .i64 (z2 % n))) rfl) (qe (s_then ?_)))))
 refine wp_ret (s_ret (c_ret1 (v := (.int .i64 (z2 % n))) rfl rfl rfl ?_))
 have hr1 := Int.emod_nonneg (z2) (show n ≠ 0 by omega)
 have hr2 := Int.emod_lt_of_pos (z2) (show 0 < n by omega)
 exact ⟨_, _, _, rfl, (by omega), hb7, (by omega), (by omega), hX11⟩

theorem one_spec {w : World} {G : Pin} {c : Nat} {cv : Value} {code : List UInt8} {a s : Int} {n : Int} (hP : Pins G w) (hB : Bx G w c [cv, .int .i64 a, .int .u64 s]) (hc : RSl eByte G cv code) (ha : 0 ≤ a ∧ a + 2 ≤ 1000000) (hs : 0 ≤ s ∧ s < 18446744073709551616) (hn : n ≤ 1000) :
  Calls Tryz.prog 43 [(.pointer (some ⟨c, 0, none⟩)), (.int .i64 n)].toArray w fun e w' => ∃ (z : Bool) (a' s' : Int), e = .returned (.bool z) ∧ Bx G w' c [cv, .int .i64 a', .int .u64 s'] ∧ (a ≤ a' ∧ a' ≤ a + 2) ∧ (0 ≤ s' ∧ s' < 18446744073709551616) ∧ Ext (inO (some c)) G w G w' := by
 refine s_enter (n := 9) Tryz.func43 Tryz.ntmps43 rfl rfl ?_
 have hX0 : Ext (inO (some c)) G w G w := Ext.refl hP
 have hm := hc.max
 refine s_seq (c_reg ?_)
 refine qd rfl rfl rfl (r_assign (v := (.bool false)) rfl) (qe (s_then (s_seq (c_reg ?_))))
 refine qd rfl rfl rfl (r_move (v := (.pointer (some ⟨c, 0, none⟩))) rfl) (qd rfl rfl rfl (r_move (v := (.int .i64 n)) rfl) (q1 rfl rfl rfl (o_call (vs := [(.pointer (some ⟨c, 0, none⟩)), (.int .i64 n)]) Tryz.func41 nm41 rfl rfl rfl ?_)))
 refine Calls.mono (pick_spec hX0.pins hB hc (by omega) (by omega) (n := n) (by omega)) ?_
 rintro _ w5 ⟨z1, a3, s4, rfl, hz2, hb6, hda7, hds8, hx9⟩
 refine ⟨_, rfl, ?_⟩
 have hX10 := hX0.trans hx9 (fun i hi => lo_self i hi)
 refine qd rfl rfl rfl (r_eql rfl rfl) (qd rfl rfl rfl (r_assign (v := (.bool (decide ((z1 : Int) = 0)))) rfl) (qe (s_then ?_)))
 exact wp_ret (s_ret (c_ret1 (v := (.bool (decide ((z1 : Int) = 0)))) rfl rfl rfl (⟨_, _, _, rfl, hb6, (by omega), (by omega), hX10⟩)))

theorem among_spec {w : World} {G : Pin} {c : Nat} {cv : Value} {code : List UInt8} {a s : Int} {l : Value} {xs : List Int} (hP : Pins G w) (hB : Bx G w c [cv, .int .i64 a, .int .u64 s]) (hc : RSl eByte G cv code) (ha : 0 ≤ a ∧ a + 2 ≤ 1000000) (hs : 0 ≤ s ∧ s < 18446744073709551616) (hl : RSl eInt G l xs) (hx : 1 ≤ xs.length ∧ xs.length ≤ 1000) :
  Calls Tryz.prog 100 [(.pointer (some ⟨c, 0, none⟩)), l].toArray w fun e w' => ∃ (z : Int) (a' s' : Int), e = .returned (.int .i64 z) ∧ z ∈ xs ∧ Bx G w' c [cv, .int .i64 a', .int .u64 s'] ∧ (a ≤ a' ∧ a' ≤ a + 2) ∧ (0 ≤ s' ∧ s' < 18446744073709551616) ∧ Ext (inO (some c)) G w G w' := by
 refine s_enter (n := 12) Tryz.func100 Tryz.ntmps100 rfl rfl ?_
 have hX0 : Ext (inO (some c)) G w G w := Ext.refl hP
 have hm := hc.max
 have hml := hl.max
 refine s_seq (c_reg ?_)
 refine qd rfl rfl rfl (r_assign (v := (.int .i64 0)) rfl) (qe (s_then (s_seq (c_reg ?_))))
 refine qd rfl rfl rfl (r_move (v := l) rfl) (qd rfl rfl rfl (r_move (v := (.pointer (some ⟨c, 0, none⟩))) rfl) (qd rfl rfl rfl (r_move (v := l) rfl) (qd rfl rfl rfl (run_len Tryz.underlying57 (v := l) rfl hl) (q1 rfl rfl rfl (o_call (vs := [(.pointer (some ⟨c, 0, none⟩)), (.int .i64 (xs.length : Int))]) Tryz.func41 nm41 rfl rfl rfl ?_)))))
 refine Calls.mono (pick_spec hX0.pins hB hc (by omega) (by omega) (n := (xs.length : Int)) (by omega)) ?_
 rintro _ w5 ⟨z1, a3, s4, rfl, hz2, hb6, hda7, hds8, hx9⟩
 refine ⟨_, rfl, ?_⟩
 have hX10 := hX0.trans hx9 (fun i hi => lo_self i hi)
 refine qd rfl rfl rfl (run_idx Tryz.underlying57 sz3 (v := l) rfl rfl hl (by omega) (by omega)) (qd rfl rfl rfl (run_load_int (r := xs.getD (z1).toNat 0) rfl ag3 (z := z1) rfl hl hX10.pins (by omega) (by omega)) (qd rfl rfl rfl (r_assign (v := (.int .i64 (xs.getD (z1).toNat 0))) rfl) (qe (s_then ?_))))
 exact wp_ret (s_ret (c_ret1 (v := (.int .i64 (xs.getD (z1).toNat 0))) rfl rfl rfl (⟨_, _, _, rfl, getD_mem (by omega), hb6, (by omega), (by omega), hX10⟩)))

end DR1
end Go.Proofs.YtkfgdhanaijddaaGreatDoor

set_option maxRecDepth 20000
set_option maxHeartbeats 2000000
namespace Go.Proofs.YtkfgdhanaijddaaGreatDoor
namespace DR2
open Go.RowKit Go.GL Go.Proofs
open Go.Proofs.YtkfgdhanaijddaaGreatDoor.B1
open Go.Proofs.YtkfgdhanaijddaaGreatDoor.C1
open Go.Proofs.YtkfgdhanaijddaaGreatDoor.D1
open Go.Proofs.YtkfgdhanaijddaaGreatDoor.E1
open Go.Proofs.YtkfgdhanaijddaaGreatDoor.MK1
open Go.Proofs.YtkfgdhanaijddaaGreatDoor.DR1









theorem l3MakeV_spec {w : World} {G : Pin} {base : Nat} {Q : List Nat} {vs us ws : List Value} {u v : Value} (hP : Pins G w) (hF : Fr 68 base G w Q vs) (hq : KQ Q) (hl : Q.length ≤ 60) (hb : base ≤ w.heap.size)
  (hu : RSl eVal G u us) (hv : RSl eVal G v ws) (hmu : ∀ x ∈ us, x ∈ vs) (hmv : ∀ x ∈ ws, x ∈ vs) (hlu : us.length ≤ 100) (hlv : ws.length ≤ 100) :
  Calls Tryz.prog 67 [u, v].toArray w fun e w' => ∃ (x : Value) (g : Nat) (G' : Pin), e = .returned (.agg [x].toArray) ∧ KQ (g :: Q) ∧ Fr 68 base G' w' (g :: Q) (x :: vs) ∧ Ext noS G w G' w' := by
 obtain ⟨gs, g1, g2, g3⟩ := (hF.mem hmu).games
 obtain ⟨hs, h1, h2, h3⟩ := (hF.mem hmv).games
 have ru := vals_read hu (by rw [List.length_map]; exact g1) g3
 have rv := vals_read hv (by rw [List.length_map]; exact h1) h3
 have wu := hq.allW (by omega) g2 (by omega)
 have wv := hq.allW (by omega) h2 (by omega)
 refine (l3Make_own hP ru rv wu wv).mono fun e w' ⟨x, G', e1, hr, hx, Gi, ho, hle⟩ => ?_
 have hk := hq.add (by omega) g2 h2 (by omega) (by omega)
 have hm := hk.is _ List.mem_cons_self
 exact ⟨x, _, G', e1, hk, (hF.ext hx).cons ⟨⟨Gi, ho.weaken hb, hle⟩, hr, hm.1.lo⟩, hx⟩

theorem l3Small_spec {w : World} {G : Pin} (hP : Pins G w) :
  Calls Tryz.prog 97 [].toArray w fun e w' => ∃ (u : Value) (vs : List Value) (Q : List Nat) (G' : Pin), e = .returned u ∧ Own eVal 28 G' w' w.heap.size u vs ∧ Fr 68 w.heap.size G' w' Q vs ∧ KQ Q ∧ vs.length = 9 ∧ Q.length = 9 ∧ Ext noS G w G' w' := by
 refine s_enter (n := 59) Tryz.func97 Tryz.ntmps97 rfl rfl ?_
 have hX0 : Ext noS G w G w := Ext.refl hP
 have hfr0 : Fr 68 w.heap.size G w [] [] := Fr.nil
 refine s_seq (c_reg ?_)
 refine qd rfl rfl rfl (r_assign (v := (.slice none 0 0)) rfl) (qe (s_then (s_seq (c_reg ?_))))
 refine q1 rfl rfl rfl (o_call (vs := [(.slice none 0 0), (.slice none 0 0)]) Tryz.func67 nm67 rfl rfl rfl ?_)
 refine Calls.mono (l3MakeV_spec hX0.pins hfr0 KQ.nil (by first | omega | (simp; done) | (simp; omega)) hX0.size (nil_reads _ _) (nil_reads _ _) (by simp) (by simp) (by first | omega | simp) (by first | omega | simp)) ?_
 rintro _ w4 ⟨x1, g2, G3, rfl, hkq5, hfr6, hx7⟩
 refine ⟨_, rfl, ?_⟩
 have hX8 := hX0.tr hx7
 have hone10 := hfr6.one List.mem_cons_self
 refine q1 rfl rfl rfl (o_alloc [(.slice none 0 0)] zr28 rfl hX8.pins (fun b11 w12 hk13 hb14 hp15 hl16 => ?_))
 have hX17 := hX8.step hp15 hl16
 have hfr18 := hfr6.below hl16
 have hlo19 : w.heap.size ≤ b11 := by have := hX8.size; omega
 refine q0 rfl rfl rfl (o_stp (cs' := [x1]) (us := [x1]) (v := (.agg [x1].toArray)) sz28 rfl rfl rfl (ones1 hone10) hX17.pins hb14 (Nat.le_of_ble_eq_true rfl) rfl (fun w20 hb21 hp22 hg23 hz24 => ?_))
 have hX25 := hX17.write hp22 hg23 ((lo_box hlo19))
 have hfr26 := hfr18.kept hg23 (fun k hk o u => by cases hk; exact hb14.free o u)
 obtain ⟨G27, hle28, hX29, hbp30, hf31⟩ := hb21.shut hX25 hlo19
 have hfr32 := hfr26.le hle28
 refine qe (s_then (s_seq (c_reg ?_)))
 refine qd rfl rfl rfl (r_ldpA (cs := [x1]) ag28 sz28 rfl (fun j u hj => hX29.pins _ _ _ (hbp30 _ _ (by simpa using hj)))) (q1 rfl rfl rfl (o_build1 (E := eVal) (e := 28) [x1] x1 Tryz.underlying24 sz28 zr28 ⟨rfl, hone10⟩ rfl (by decide) hX29.pins (fun u33 w34 ho35 hp36 hl37 hk38 => ?_)))
 have hX39 := hX29.step hp36 hl37
 have hfr40 := hfr32.below hl37
 have ho41 : Own eVal 28 G27 w34 w.heap.size u33 ([x1]) := ho35.weaken hX29.size
 obtain ⟨G42, hle45, hX44, hr43, hf46⟩ := ho41.sealed hX39
 have hfr47 := hfr40.le hle45
 refine q1 rfl rfl rfl (o_call (vs := [u33, (.slice none 0 0)]) Tryz.func67 nm67 rfl rfl rfl ?_)
 refine Calls.mono (l3MakeV_spec hX44.pins hfr47 hkq5 (by first | omega | (simp; done) | (simp; omega)) hX44.size hr43 (nil_reads _ _) (by simp) (by simp) (by first | omega | simp) (by first | omega | simp)) ?_
 rintro _ w51 ⟨x48, g49, G50, rfl, hkq52, hfr53, hx54⟩
 refine ⟨_, rfl, ?_⟩
 have hX55 := hX44.tr hx54
 have hone57 := hfr53.one List.mem_cons_self
 refine q1 rfl rfl rfl (o_alloc [(.slice none 0 0)] zr28 rfl hX55.pins (fun b58 w59 hk60 hb61 hp62 hl63 => ?_))
 have hX64 := hX55.step hp62 hl63
 have hfr65 := hfr53.below hl63
 have hlo66 : w.heap.size ≤ b58 := by have := hX55.size; omega
 refine q0 rfl rfl rfl (o_stp (cs' := [x48]) (us := [x48]) (v := (.agg [x48].toArray)) sz28 rfl rfl rfl (ones1 hone57) hX64.pins hb61 (Nat.le_of_ble_eq_true rfl) rfl (fun w67 hb68 hp69 hg70 hz71 => ?_))
 have hX72 := hX64.write hp69 hg70 ((lo_box hlo66))
 have hfr73 := hfr65.kept hg70 (fun k hk o u => by cases hk; exact hb61.free o u)
 obtain ⟨G74, hle75, hX76, hbp77, hf78⟩ := hb68.shut hX72 hlo66
 have hfr79 := hfr73.le hle75
 refine qe (s_then (s_seq (c_reg ?_)))
 refine qd rfl rfl rfl (r_ldpA (cs := [x1]) ag28 sz28 rfl (fun j u hj => (Pins.of_le hX76.pins (Pin.le_trans (Pin.le_trans hle45 hx54.le) hle75)) _ _ _ (hbp30 _ _ (by simpa using hj)))) (q1 rfl rfl rfl (o_build1 (E := eVal) (e := 28) [x1] x1 Tryz.underlying24 sz28 zr28 ⟨rfl, hone10⟩ rfl (by decide) hX76.pins (fun u80 w81 ho82 hp83 hl84 hk85 => ?_)))
 have hX86 := hX76.step hp83 hl84
 have hfr87 := hfr79.below hl84
 have ho88 : Own eVal 28 G74 w81 w.heap.size u80 ([x1]) := ho82.weaken hX76.size
 obtain ⟨G89, hle92, hX91, hr90, hf93⟩ := ho88.sealed hX86
 have hfr94 := hfr87.le hle92
 refine q1 rfl rfl rfl (o_call (vs := [(.slice none 0 0), u80]) Tryz.func67 nm67 rfl rfl rfl ?_)
 refine Calls.mono (l3MakeV_spec hX91.pins hfr94 hkq52 (by first | omega | (simp; done) | (simp; omega)) hX91.size (nil_reads _ _) hr90 (by simp) (by simp) (by first | omega | simp) (by first | omega | simp)) ?_
 rintro _ w98 ⟨x95, g96, G97, rfl, hkq99, hfr100, hx101⟩
 refine ⟨_, rfl, ?_⟩
 have hX102 := hX91.tr hx101
 have hone104 := hfr100.one List.mem_cons_self
 refine q1 rfl rfl rfl (o_alloc [(.slice none 0 0)] zr28 rfl hX102.pins (fun b105 w106 hk107 hb108 hp109 hl110 => ?_))
 have hX111 := hX102.step hp109 hl110
 have hfr112 := hfr100.below hl110
 have hlo113 : w.heap.size ≤ b105 := by have := hX102.size; omega
 refine q0 rfl rfl rfl (o_stp (cs' := [x95]) (us := [x95]) (v := (.agg [x95].toArray)) sz28 rfl rfl rfl (ones1 hone104) hX111.pins hb108 (Nat.le_of_ble_eq_true rfl) rfl (fun w114 hb115 hp116 hg117 hz118 => ?_))
 have hX119 := hX111.write hp116 hg117 ((lo_box hlo113))
 have hfr120 := hfr112.kept hg117 (fun k hk o u => by cases hk; exact hb108.free o u)
 obtain ⟨G121, hle122, hX123, hbp124, hf125⟩ := hb115.shut hX119 hlo113
 have hfr126 := hfr120.le hle122
 refine qe (s_then (s_seq (c_reg ?_)))
 refine qd rfl rfl rfl (r_ldpA (cs := [x1]) ag28 sz28 rfl (fun j u hj => (Pins.of_le hX123.pins (Pin.le_trans (Pin.le_trans (Pin.le_trans (Pin.le_trans (Pin.le_trans hle45 hx54.le) hle75) hle92) hx101.le) hle122)) _ _ _ (hbp30 _ _ (by simpa using hj)))) (q1 rfl rfl rfl (o_build1 (E := eVal) (e := 28) [x1] x1 Tryz.underlying24 sz28 zr28 ⟨rfl, hone10⟩ rfl (by decide) hX123.pins (fun u127 w128 ho129 hp130 hl131 hk132 => ?_)))
 have hX133 := hX123.step hp130 hl131
 have hfr134 := hfr126.below hl131
 have ho135 : Own eVal 28 G121 w128 w.heap.size u127 ([x1]) := ho129.weaken hX123.size
 refine qd rfl rfl rfl (r_ldpA (cs := [x1]) ag28 sz28 rfl (fun j u hj => (Pins.of_le hX133.pins (Pin.le_trans (Pin.le_trans (Pin.le_trans (Pin.le_trans (Pin.le_trans hle45 hx54.le) hle75) hle92) hx101.le) hle122)) _ _ _ (hbp30 _ _ (by simpa using hj)))) (q1 rfl rfl rfl (o_build1 (E := eVal) (e := 28) [x1] x1 Tryz.underlying24 sz28 zr28 ⟨rfl, hone10⟩ rfl (by decide) hX133.pins (fun u136 w137 ho138 hp139 hl140 hk141 => ?_)))
 have hX142 := hX133.step hp139 hl140
 have ho143 := ho135.below hl140
 have hfr144 := hfr134.below hl140
 have ha145 : Apart u136.ownBlock u127.ownBlock := new_ne_own hk141 ho135.lt
 have ho146 : Own eVal 28 G121 w137 w.heap.size u136 ([x1]) := ho138.weaken hX133.size
 obtain ⟨G147, hle150, hX149, hr148, hf151⟩ := ho143.sealed hX142
 have ho152 := ho146.moreO hle150 hf151 ha145
 have hfr153 := hfr144.le hle150
 obtain ⟨G154, hle157, hX156, hr155, hf158⟩ := ho152.sealed hX149
 have hfr159 := hfr153.le hle157
 refine q1 rfl rfl rfl (o_call (vs := [u127, u136]) Tryz.func67 nm67 rfl rfl rfl ?_)
 refine Calls.mono (l3MakeV_spec hX156.pins hfr159 hkq99 (by first | omega | (simp; done) | (simp; omega)) hX156.size (hr148.mono hle157) hr155 (by simp) (by simp) (by first | omega | simp) (by first | omega | simp)) ?_
 rintro _ w163 ⟨x160, g161, G162, rfl, hkq164, hfr165, hx166⟩
 refine ⟨_, rfl, ?_⟩
 have hX167 := hX156.tr hx166
 have hone169 := hfr165.one List.mem_cons_self
 refine q1 rfl rfl rfl (o_alloc [(.slice none 0 0)] zr28 rfl hX167.pins (fun b170 w171 hk172 hb173 hp174 hl175 => ?_))
 have hX176 := hX167.step hp174 hl175
 have hfr177 := hfr165.below hl175
 have hlo178 : w.heap.size ≤ b170 := by have := hX167.size; omega
 refine q0 rfl rfl rfl (o_stp (cs' := [x160]) (us := [x160]) (v := (.agg [x160].toArray)) sz28 rfl rfl rfl (ones1 hone169) hX176.pins hb173 (Nat.le_of_ble_eq_true rfl) rfl (fun w179 hb180 hp181 hg182 hz183 => ?_))
 have hX184 := hX176.write hp181 hg182 ((lo_box hlo178))
 have hfr185 := hfr177.kept hg182 (fun k hk o u => by cases hk; exact hb173.free o u)
 obtain ⟨G186, hle187, hX188, hbp189, hf190⟩ := hb180.shut hX184 hlo178
 have hfr191 := hfr185.le hle187
 refine qe (s_then (s_seq (c_reg ?_)))
 refine qd rfl rfl rfl (r_ldpA (cs := [x1]) ag28 sz28 rfl (fun j u hj => (Pins.of_le hX188.pins (Pin.le_trans (Pin.le_trans (Pin.le_trans (Pin.le_trans (Pin.le_trans (Pin.le_trans (Pin.le_trans (Pin.le_trans (Pin.le_trans hle45 hx54.le) hle75) hle92) hx101.le) hle122) hle150) hle157) hx166.le) hle187)) _ _ _ (hbp30 _ _ (by simpa using hj)))) (q1 rfl rfl rfl (o_build1 (E := eVal) (e := 28) [x1] x1 Tryz.underlying24 sz28 zr28 ⟨rfl, hone10⟩ rfl (by decide) hX188.pins (fun u192 w193 ho194 hp195 hl196 hk197 => ?_)))
 have hX198 := hX188.step hp195 hl196
 have hfr199 := hfr191.below hl196
 have ho200 : Own eVal 28 G186 w193 w.heap.size u192 ([x1]) := ho194.weaken hX188.size
 refine qd rfl rfl rfl (r_ldpA (cs := [x160]) ag28 sz28 rfl (fun j u hj => hX198.pins _ _ _ (hbp189 _ _ (by simpa using hj)))) (q1 rfl rfl rfl (o_build1 (E := eVal) (e := 28) [x160] x160 Tryz.underlying24 sz28 zr28 ⟨rfl, hone169⟩ rfl (by decide) hX198.pins (fun u201 w202 ho203 hp204 hl205 hk206 => ?_)))
 have hX207 := hX198.step hp204 hl205
 have ho208 := ho200.below hl205
 have hfr209 := hfr199.below hl205
 have ha210 : Apart u201.ownBlock u192.ownBlock := new_ne_own hk206 ho200.lt
 have ho211 : Own eVal 28 G186 w202 w.heap.size u201 ([x160]) := ho203.weaken hX198.size
 obtain ⟨G212, hle215, hX214, hr213, hf216⟩ := ho208.sealed hX207
 have ho217 := ho211.moreO hle215 hf216 ha210
 have hfr218 := hfr209.le hle215
 obtain ⟨G219, hle222, hX221, hr220, hf223⟩ := ho217.sealed hX214
 have hfr224 := hfr218.le hle222
 refine q1 rfl rfl rfl (o_call (vs := [u192, u201]) Tryz.func67 nm67 rfl rfl rfl ?_)
 refine Calls.mono (l3MakeV_spec hX221.pins hfr224 hkq164 (by first | omega | (simp; done) | (simp; omega)) hX221.size (hr213.mono hle222) hr220 (by simp) (by simp) (by first | omega | simp) (by first | omega | simp)) ?_
 rintro _ w228 ⟨x225, g226, G227, rfl, hkq229, hfr230, hx231⟩
 refine ⟨_, rfl, ?_⟩
 have hX232 := hX221.tr hx231
 have hone234 := hfr230.one List.mem_cons_self
 refine q1 rfl rfl rfl (o_alloc [(.slice none 0 0)] zr28 rfl hX232.pins (fun b235 w236 hk237 hb238 hp239 hl240 => ?_))
 have hX241 := hX232.step hp239 hl240
 have hfr242 := hfr230.below hl240
 have hlo243 : w.heap.size ≤ b235 := by have := hX232.size; omega
 refine q0 rfl rfl rfl (o_stp (cs' := [x225]) (us := [x225]) (v := (.agg [x225].toArray)) sz28 rfl rfl rfl (ones1 hone234) hX241.pins hb238 (Nat.le_of_ble_eq_true rfl) rfl (fun w244 hb245 hp246 hg247 hz248 => ?_))
 have hX249 := hX241.write hp246 hg247 ((lo_box hlo243))
 have hfr250 := hfr242.kept hg247 (fun k hk o u => by cases hk; exact hb238.free o u)
 obtain ⟨G251, hle252, hX253, hbp254, hf255⟩ := hb245.shut hX249 hlo243
 have hfr256 := hfr250.le hle252
 refine qe (s_then (s_seq (c_reg ?_)))
 refine qd rfl rfl rfl (r_ldpA (cs := [x1]) ag28 sz28 rfl (fun j u hj => (Pins.of_le hX253.pins (Pin.le_trans (Pin.le_trans (Pin.le_trans (Pin.le_trans (Pin.le_trans (Pin.le_trans (Pin.le_trans (Pin.le_trans (Pin.le_trans (Pin.le_trans (Pin.le_trans (Pin.le_trans (Pin.le_trans hle45 hx54.le) hle75) hle92) hx101.le) hle122) hle150) hle157) hx166.le) hle187) hle215) hle222) hx231.le) hle252)) _ _ _ (hbp30 _ _ (by simpa using hj)))) (q1 rfl rfl rfl (o_build1 (E := eVal) (e := 28) [x1] x1 Tryz.underlying24 sz28 zr28 ⟨rfl, hone10⟩ rfl (by decide) hX253.pins (fun u257 w258 ho259 hp260 hl261 hk262 => ?_)))
 have hX263 := hX253.step hp260 hl261
 have hfr264 := hfr256.below hl261
 have ho265 : Own eVal 28 G251 w258 w.heap.size u257 ([x1]) := ho259.weaken hX253.size
 refine qd rfl rfl rfl (r_ldpA (cs := [x48]) ag28 sz28 rfl (fun j u hj => (Pins.of_le hX263.pins (Pin.le_trans (Pin.le_trans (Pin.le_trans (Pin.le_trans (Pin.le_trans (Pin.le_trans (Pin.le_trans (Pin.le_trans (Pin.le_trans (Pin.le_trans hle92 hx101.le) hle122) hle150) hle157) hx166.le) hle187) hle215) hle222) hx231.le) hle252)) _ _ _ (hbp77 _ _ (by simpa using hj)))) (q1 rfl rfl rfl (o_build1 (E := eVal) (e := 28) [x48] x48 Tryz.underlying24 sz28 zr28 ⟨rfl, hone57⟩ rfl (by decide) hX263.pins (fun u266 w267 ho268 hp269 hl270 hk271 => ?_)))
 have hX272 := hX263.step hp269 hl270
 have ho273 := ho265.below hl270
 have hfr274 := hfr264.below hl270
 have ha275 : Apart u266.ownBlock u257.ownBlock := new_ne_own hk271 ho265.lt
 have ho276 : Own eVal 28 G251 w267 w.heap.size u266 ([x48]) := ho268.weaken hX263.size
 obtain ⟨G277, hle280, hX279, hr278, hf281⟩ := ho273.sealed hX272
 have ho282 := ho276.moreO hle280 hf281 ha275
 have hfr283 := hfr274.le hle280
 obtain ⟨G284, hle287, hX286, hr285, hf288⟩ := ho282.sealed hX279
 have hfr289 := hfr283.le hle287
 refine q1 rfl rfl rfl (o_call (vs := [u257, u266]) Tryz.func67 nm67 rfl rfl rfl ?_)
 refine Calls.mono (l3MakeV_spec hX286.pins hfr289 hkq229 (by first | omega | (simp; done) | (simp; omega)) hX286.size (hr278.mono hle287) hr285 (by simp) (by simp) (by first | omega | simp) (by first | omega | simp)) ?_
 rintro _ w293 ⟨x290, g291, G292, rfl, hkq294, hfr295, hx296⟩
 refine ⟨_, rfl, ?_⟩
 have hX297 := hX286.tr hx296
 have hone299 := hfr295.one List.mem_cons_self
 refine q1 rfl rfl rfl (o_alloc [(.slice none 0 0)] zr28 rfl hX297.pins (fun b300 w301 hk302 hb303 hp304 hl305 => ?_))
 have hX306 := hX297.step hp304 hl305
 have hfr307 := hfr295.below hl305
 have hlo308 : w.heap.size ≤ b300 := by have := hX297.size; omega
 refine q0 rfl rfl rfl (o_stp (cs' := [x290]) (us := [x290]) (v := (.agg [x290].toArray)) sz28 rfl rfl rfl (ones1 hone299) hX306.pins hb303 (Nat.le_of_ble_eq_true rfl) rfl (fun w309 hb310 hp311 hg312 hz313 => ?_))
 have hX314 := hX306.write hp311 hg312 ((lo_box hlo308))
 have hfr315 := hfr307.kept hg312 (fun k hk o u => by cases hk; exact hb303.free o u)
 obtain ⟨G316, hle317, hX318, hbp319, hf320⟩ := hb310.shut hX314 hlo308
 have hfr321 := hfr315.le hle317
 refine qe (s_then (s_seq (c_reg ?_)))
 refine qd rfl rfl rfl (r_ldpA (cs := [x48]) ag28 sz28 rfl (fun j u hj => (Pins.of_le hX318.pins (Pin.le_trans (Pin.le_trans (Pin.le_trans (Pin.le_trans (Pin.le_trans (Pin.le_trans (Pin.le_trans (Pin.le_trans (Pin.le_trans (Pin.le_trans (Pin.le_trans (Pin.le_trans (Pin.le_trans (Pin.le_trans hle92 hx101.le) hle122) hle150) hle157) hx166.le) hle187) hle215) hle222) hx231.le) hle252) hle280) hle287) hx296.le) hle317)) _ _ _ (hbp77 _ _ (by simpa using hj)))) (q1 rfl rfl rfl (o_build1 (E := eVal) (e := 28) [x48] x48 Tryz.underlying24 sz28 zr28 ⟨rfl, hone57⟩ rfl (by decide) hX318.pins (fun u322 w323 ho324 hp325 hl326 hk327 => ?_)))
 have hX328 := hX318.step hp325 hl326
 have hfr329 := hfr321.below hl326
 have ho330 : Own eVal 28 G316 w323 w.heap.size u322 ([x48]) := ho324.weaken hX318.size
 refine qd rfl rfl rfl (r_ldpA (cs := [x95]) ag28 sz28 rfl (fun j u hj => (Pins.of_le hX328.pins (Pin.le_trans (Pin.le_trans (Pin.le_trans (Pin.le_trans (Pin.le_trans (Pin.le_trans (Pin.le_trans (Pin.le_trans (Pin.le_trans (Pin.le_trans (Pin.le_trans hle150 hle157) hx166.le) hle187) hle215) hle222) hx231.le) hle252) hle280) hle287) hx296.le) hle317)) _ _ _ (hbp124 _ _ (by simpa using hj)))) (q1 rfl rfl rfl (o_build1 (E := eVal) (e := 28) [x95] x95 Tryz.underlying24 sz28 zr28 ⟨rfl, hone104⟩ rfl (by decide) hX328.pins (fun u331 w332 ho333 hp334 hl335 hk336 => ?_)))
 have hX337 := hX328.step hp334 hl335
 have ho338 := ho330.below hl335
 have hfr339 := hfr329.below hl335
 have ha340 : Apart u331.ownBlock u322.ownBlock := new_ne_own hk336 ho330.lt
 have ho341 : Own eVal 28 G316 w332 w.heap.size u331 ([x95]) := ho333.weaken hX328.size
 obtain ⟨G342, hle345, hX344, hr343, hf346⟩ := ho338.sealed hX337
 have ho347 := ho341.moreO hle345 hf346 ha340
 have hfr348 := hfr339.le hle345
 obtain ⟨G349, hle352, hX351, hr350, hf353⟩ := ho347.sealed hX344
 have hfr354 := hfr348.le hle352
 refine q1 rfl rfl rfl (o_call (vs := [u322, u331]) Tryz.func67 nm67 rfl rfl rfl ?_)
 refine Calls.mono (l3MakeV_spec hX351.pins hfr354 hkq294 (by first | omega | (simp; done) | (simp; omega)) hX351.size (hr343.mono hle352) hr350 (by simp) (by simp) (by first | omega | simp) (by first | omega | simp)) ?_
 rintro _ w358 ⟨x355, g356, G357, rfl, hkq359, hfr360, hx361⟩
 refine ⟨_, rfl, ?_⟩
 have hX362 := hX351.tr hx361
 have hone364 := hfr360.one List.mem_cons_self
 refine q1 rfl rfl rfl (o_alloc [(.slice none 0 0)] zr28 rfl hX362.pins (fun b365 w366 hk367 hb368 hp369 hl370 => ?_))
 have hX371 := hX362.step hp369 hl370
 have hfr372 := hfr360.below hl370
 have hlo373 : w.heap.size ≤ b365 := by have := hX362.size; omega
 refine q0 rfl rfl rfl (o_stp (cs' := [x355]) (us := [x355]) (v := (.agg [x355].toArray)) sz28 rfl rfl rfl (ones1 hone364) hX371.pins hb368 (Nat.le_of_ble_eq_true rfl) rfl (fun w374 hb375 hp376 hg377 hz378 => ?_))
 have hX379 := hX371.write hp376 hg377 ((lo_box hlo373))
 have hfr380 := hfr372.kept hg377 (fun k hk o u => by cases hk; exact hb368.free o u)
 obtain ⟨G381, hle382, hX383, hbp384, hf385⟩ := hb375.shut hX379 hlo373
 have hfr386 := hfr380.le hle382
 refine qe (s_then (s_seq (c_reg ?_)))
 refine qd rfl rfl rfl (r_ldpA (cs := [x1]) ag28 sz28 rfl (fun j u hj => (Pins.of_le hX383.pins (Pin.le_trans (Pin.le_trans (Pin.le_trans (Pin.le_trans (Pin.le_trans (Pin.le_trans (Pin.le_trans (Pin.le_trans (Pin.le_trans (Pin.le_trans (Pin.le_trans (Pin.le_trans (Pin.le_trans (Pin.le_trans (Pin.le_trans (Pin.le_trans (Pin.le_trans (Pin.le_trans (Pin.le_trans (Pin.le_trans (Pin.le_trans hle45 hx54.le) hle75) hle92) hx101.le) hle122) hle150) hle157) hx166.le) hle187) hle215) hle222) hx231.le) hle252) hle280) hle287) hx296.le) hle317) hle345) hle352) hx361.le) hle382)) _ _ _ (hbp30 _ _ (by simpa using hj)))) (qd rfl rfl rfl (r_ldpA (cs := [x160]) ag28 sz28 rfl (fun j u hj => (Pins.of_le hX383.pins (Pin.le_trans (Pin.le_trans (Pin.le_trans (Pin.le_trans (Pin.le_trans (Pin.le_trans (Pin.le_trans (Pin.le_trans (Pin.le_trans (Pin.le_trans (Pin.le_trans hle215 hle222) hx231.le) hle252) hle280) hle287) hx296.le) hle317) hle345) hle352) hx361.le) hle382)) _ _ _ (hbp189 _ _ (by simpa using hj)))) (q1 rfl rfl rfl (o_buildA (E := eVal) (e := 28) [x1, x160] [x1, x160] Tryz.underlying24 sz28 zr28 (by exact reps2 (⟨rfl, hone10⟩) (⟨rfl, hone169⟩)) (ones2 hone10 hone169) rfl rfl rfl rfl (by decide) hX383.pins (fun u387 w388 ho389 hp390 hl391 hk392 => ?_))))
 have hX393 := hX383.step hp390 hl391
 have hfr394 := hfr386.below hl391
 have ho395 : Own eVal 28 G381 w388 w.heap.size u387 ([x1, x160]) := ho389.weaken hX383.size
 refine qd rfl rfl rfl (r_ldpA (cs := [x1]) ag28 sz28 rfl (fun j u hj => (Pins.of_le hX393.pins (Pin.le_trans (Pin.le_trans (Pin.le_trans (Pin.le_trans (Pin.le_trans (Pin.le_trans (Pin.le_trans (Pin.le_trans (Pin.le_trans (Pin.le_trans (Pin.le_trans (Pin.le_trans (Pin.le_trans (Pin.le_trans (Pin.le_trans (Pin.le_trans (Pin.le_trans (Pin.le_trans (Pin.le_trans (Pin.le_trans (Pin.le_trans hle45 hx54.le) hle75) hle92) hx101.le) hle122) hle150) hle157) hx166.le) hle187) hle215) hle222) hx231.le) hle252) hle280) hle287) hx296.le) hle317) hle345) hle352) hx361.le) hle382)) _ _ _ (hbp30 _ _ (by simpa using hj)))) (qd rfl rfl rfl (r_ldpA (cs := [x160]) ag28 sz28 rfl (fun j u hj => (Pins.of_le hX393.pins (Pin.le_trans (Pin.le_trans (Pin.le_trans (Pin.le_trans (Pin.le_trans (Pin.le_trans (Pin.le_trans (Pin.le_trans (Pin.le_trans (Pin.le_trans (Pin.le_trans hle215 hle222) hx231.le) hle252) hle280) hle287) hx296.le) hle317) hle345) hle352) hx361.le) hle382)) _ _ _ (hbp189 _ _ (by simpa using hj)))) (q1 rfl rfl rfl (o_buildA (E := eVal) (e := 28) [x1, x160] [x1, x160] Tryz.underlying24 sz28 zr28 (by exact reps2 (⟨rfl, hone10⟩) (⟨rfl, hone169⟩)) (ones2 hone10 hone169) rfl rfl rfl rfl (by decide) hX393.pins (fun u396 w397 ho398 hp399 hl400 hk401 => ?_))))
 have hX402 := hX393.step hp399 hl400
 have ho403 := ho395.below hl400
 have hfr404 := hfr394.below hl400
 have ha405 : Apart u396.ownBlock u387.ownBlock := new_ne_own hk401 ho395.lt
 have ho406 : Own eVal 28 G381 w397 w.heap.size u396 ([x1, x160]) := ho398.weaken hX393.size
 obtain ⟨G407, hle410, hX409, hr408, hf411⟩ := ho403.sealed hX402
 have ho412 := ho406.moreO hle410 hf411 ha405
 have hfr413 := hfr404.le hle410
 obtain ⟨G414, hle417, hX416, hr415, hf418⟩ := ho412.sealed hX409
 have hfr419 := hfr413.le hle417
 refine q1 rfl rfl rfl (o_call (vs := [u387, u396]) Tryz.func67 nm67 rfl rfl rfl ?_)
 refine Calls.mono (l3MakeV_spec hX416.pins hfr419 hkq359 (by first | omega | (simp; done) | (simp; omega)) hX416.size (hr408.mono hle417) hr415 (by simp) (by simp) (by first | omega | simp) (by first | omega | simp)) ?_
 rintro _ w423 ⟨x420, g421, G422, rfl, hkq424, hfr425, hx426⟩
 refine ⟨_, rfl, ?_⟩
 have hX427 := hX416.tr hx426
 have hone429 := hfr425.one List.mem_cons_self
 refine q1 rfl rfl rfl (o_alloc [(.slice none 0 0)] zr28 rfl hX427.pins (fun b430 w431 hk432 hb433 hp434 hl435 => ?_))
 have hX436 := hX427.step hp434 hl435
 have hfr437 := hfr425.below hl435
 have hlo438 : w.heap.size ≤ b430 := by have := hX427.size; omega
 refine q0 rfl rfl rfl (o_stp (cs' := [x420]) (us := [x420]) (v := (.agg [x420].toArray)) sz28 rfl rfl rfl (ones1 hone429) hX436.pins hb433 (Nat.le_of_ble_eq_true rfl) rfl (fun w439 hb440 hp441 hg442 hz443 => ?_))
 have hX444 := hX436.write hp441 hg442 ((lo_box hlo438))
 have hfr445 := hfr437.kept hg442 (fun k hk o u => by cases hk; exact hb433.free o u)
 obtain ⟨G446, hle447, hX448, hbp449, hf450⟩ := hb440.shut hX444 hlo438
 have hfr451 := hfr445.le hle447
 refine qe (s_then (s_seq (c_reg ?_)))
 refine qd rfl rfl rfl (r_ldpA (cs := [x160]) ag28 sz28 rfl (fun j u hj => (Pins.of_le hX448.pins (Pin.le_trans (Pin.le_trans (Pin.le_trans (Pin.le_trans (Pin.le_trans (Pin.le_trans (Pin.le_trans (Pin.le_trans (Pin.le_trans (Pin.le_trans (Pin.le_trans (Pin.le_trans (Pin.le_trans (Pin.le_trans (Pin.le_trans hle215 hle222) hx231.le) hle252) hle280) hle287) hx296.le) hle317) hle345) hle352) hx361.le) hle382) hle410) hle417) hx426.le) hle447)) _ _ _ (hbp189 _ _ (by simpa using hj)))) (q1 rfl rfl rfl (o_build1 (E := eVal) (e := 28) [x160] x160 Tryz.underlying24 sz28 zr28 ⟨rfl, hone169⟩ rfl (by decide) hX448.pins (fun u452 w453 ho454 hp455 hl456 hk457 => ?_)))
 have hX458 := hX448.step hp455 hl456
 have hfr459 := hfr451.below hl456
 have ho460 : Own eVal 28 G446 w453 w.heap.size u452 ([x160]) := ho454.weaken hX448.size
 refine qd rfl rfl rfl (r_ldpA (cs := [x1]) ag28 sz28 rfl (fun j u hj => (Pins.of_le hX458.pins (Pin.le_trans (Pin.le_trans (Pin.le_trans (Pin.le_trans (Pin.le_trans (Pin.le_trans (Pin.le_trans (Pin.le_trans (Pin.le_trans (Pin.le_trans (Pin.le_trans (Pin.le_trans (Pin.le_trans (Pin.le_trans (Pin.le_trans (Pin.le_trans (Pin.le_trans (Pin.le_trans (Pin.le_trans (Pin.le_trans (Pin.le_trans (Pin.le_trans (Pin.le_trans (Pin.le_trans (Pin.le_trans hle45 hx54.le) hle75) hle92) hx101.le) hle122) hle150) hle157) hx166.le) hle187) hle215) hle222) hx231.le) hle252) hle280) hle287) hx296.le) hle317) hle345) hle352) hx361.le) hle382) hle410) hle417) hx426.le) hle447)) _ _ _ (hbp30 _ _ (by simpa using hj)))) (q1 rfl rfl rfl (o_build1 (E := eVal) (e := 28) [x1] x1 Tryz.underlying24 sz28 zr28 ⟨rfl, hone10⟩ rfl (by decide) hX458.pins (fun u461 w462 ho463 hp464 hl465 hk466 => ?_)))
 have hX467 := hX458.step hp464 hl465
 have ho468 := ho460.below hl465
 have hfr469 := hfr459.below hl465
 have ha470 : Apart u461.ownBlock u452.ownBlock := new_ne_own hk466 ho460.lt
 have ho471 : Own eVal 28 G446 w462 w.heap.size u461 ([x1]) := ho463.weaken hX458.size
 obtain ⟨G472, hle475, hX474, hr473, hf476⟩ := ho468.sealed hX467
 have ho477 := ho471.moreO hle475 hf476 ha470
 have hfr478 := hfr469.le hle475
 obtain ⟨G479, hle482, hX481, hr480, hf483⟩ := ho477.sealed hX474
 have hfr484 := hfr478.le hle482
 refine q1 rfl rfl rfl (o_call (vs := [u452, u461]) Tryz.func67 nm67 rfl rfl rfl ?_)
 refine Calls.mono (l3MakeV_spec hX481.pins hfr484 hkq424 (by first | omega | (simp; done) | (simp; omega)) hX481.size (hr473.mono hle482) hr480 (by simp) (by simp) (by first | omega | simp) (by first | omega | simp)) ?_
 rintro _ w488 ⟨x485, g486, G487, rfl, hkq489, hfr490, hx491⟩
 refine ⟨_, rfl, ?_⟩
 have hX492 := hX481.tr hx491
 have hone494 := hfr490.one List.mem_cons_self
 refine q1 rfl rfl rfl (o_alloc [(.slice none 0 0)] zr28 rfl hX492.pins (fun b495 w496 hk497 hb498 hp499 hl500 => ?_))
 have hX501 := hX492.step hp499 hl500
 have hfr502 := hfr490.below hl500
 have hlo503 : w.heap.size ≤ b495 := by have := hX492.size; omega
 refine q0 rfl rfl rfl (o_stp (cs' := [x485]) (us := [x485]) (v := (.agg [x485].toArray)) sz28 rfl rfl rfl (ones1 hone494) hX501.pins hb498 (Nat.le_of_ble_eq_true rfl) rfl (fun w504 hb505 hp506 hg507 hz508 => ?_))
 have hX509 := hX501.write hp506 hg507 ((lo_box hlo503))
 have hfr510 := hfr502.kept hg507 (fun k hk o u => by cases hk; exact hb498.free o u)
 obtain ⟨G511, hle512, hX513, hbp514, hf515⟩ := hb505.shut hX509 hlo503
 have hfr516 := hfr510.le hle512
 refine qe (s_then (s_seq (c_reg ?_)))
 refine qd rfl rfl rfl (r_ldpA (cs := [x1]) ag28 sz28 rfl (fun j u hj => (Pins.of_le hX513.pins (Pin.le_trans (Pin.le_trans (Pin.le_trans (Pin.le_trans (Pin.le_trans (Pin.le_trans (Pin.le_trans (Pin.le_trans (Pin.le_trans (Pin.le_trans (Pin.le_trans (Pin.le_trans (Pin.le_trans (Pin.le_trans (Pin.le_trans (Pin.le_trans (Pin.le_trans (Pin.le_trans (Pin.le_trans (Pin.le_trans (Pin.le_trans (Pin.le_trans (Pin.le_trans (Pin.le_trans (Pin.le_trans (Pin.le_trans (Pin.le_trans (Pin.le_trans (Pin.le_trans hle45 hx54.le) hle75) hle92) hx101.le) hle122) hle150) hle157) hx166.le) hle187) hle215) hle222) hx231.le) hle252) hle280) hle287) hx296.le) hle317) hle345) hle352) hx361.le) hle382) hle410) hle417) hx426.le) hle447) hle475) hle482) hx491.le) hle512)) _ _ _ (hbp30 _ _ (by simpa using hj)))) ?_
 refine qd rfl rfl rfl (r_ldpA (cs := [x48]) ag28 sz28 rfl (fun j u hj => (Pins.of_le hX513.pins (Pin.le_trans (Pin.le_trans (Pin.le_trans (Pin.le_trans (Pin.le_trans (Pin.le_trans (Pin.le_trans (Pin.le_trans (Pin.le_trans (Pin.le_trans (Pin.le_trans (Pin.le_trans (Pin.le_trans (Pin.le_trans (Pin.le_trans (Pin.le_trans (Pin.le_trans (Pin.le_trans (Pin.le_trans (Pin.le_trans (Pin.le_trans (Pin.le_trans (Pin.le_trans (Pin.le_trans (Pin.le_trans (Pin.le_trans hle92 hx101.le) hle122) hle150) hle157) hx166.le) hle187) hle215) hle222) hx231.le) hle252) hle280) hle287) hx296.le) hle317) hle345) hle352) hx361.le) hle382) hle410) hle417) hx426.le) hle447) hle475) hle482) hx491.le) hle512)) _ _ _ (hbp77 _ _ (by simpa using hj)))) (qd rfl rfl rfl (r_ldpA (cs := [x95]) ag28 sz28 rfl (fun j u hj => (Pins.of_le hX513.pins (Pin.le_trans (Pin.le_trans (Pin.le_trans (Pin.le_trans (Pin.le_trans (Pin.le_trans (Pin.le_trans (Pin.le_trans (Pin.le_trans (Pin.le_trans (Pin.le_trans (Pin.le_trans (Pin.le_trans (Pin.le_trans (Pin.le_trans (Pin.le_trans (Pin.le_trans (Pin.le_trans (Pin.le_trans (Pin.le_trans (Pin.le_trans (Pin.le_trans (Pin.le_trans hle150 hle157) hx166.le) hle187) hle215) hle222) hx231.le) hle252) hle280) hle287) hx296.le) hle317) hle345) hle352) hx361.le) hle382) hle410) hle417) hx426.le) hle447) hle475) hle482) hx491.le) hle512)) _ _ _ (hbp124 _ _ (by simpa using hj)))) ?_)
 refine qd rfl rfl rfl (r_ldpA (cs := [x160]) ag28 sz28 rfl (fun j u hj => (Pins.of_le hX513.pins (Pin.le_trans (Pin.le_trans (Pin.le_trans (Pin.le_trans (Pin.le_trans (Pin.le_trans (Pin.le_trans (Pin.le_trans (Pin.le_trans (Pin.le_trans (Pin.le_trans (Pin.le_trans (Pin.le_trans (Pin.le_trans (Pin.le_trans (Pin.le_trans (Pin.le_trans (Pin.le_trans (Pin.le_trans hle215 hle222) hx231.le) hle252) hle280) hle287) hx296.le) hle317) hle345) hle352) hx361.le) hle382) hle410) hle417) hx426.le) hle447) hle475) hle482) hx491.le) hle512)) _ _ _ (hbp189 _ _ (by simpa using hj)))) (qd rfl rfl rfl (r_ldpA (cs := [x225]) ag28 sz28 rfl (fun j u hj => (Pins.of_le hX513.pins (Pin.le_trans (Pin.le_trans (Pin.le_trans (Pin.le_trans (Pin.le_trans (Pin.le_trans (Pin.le_trans (Pin.le_trans (Pin.le_trans (Pin.le_trans (Pin.le_trans (Pin.le_trans (Pin.le_trans (Pin.le_trans (Pin.le_trans hle280 hle287) hx296.le) hle317) hle345) hle352) hx361.le) hle382) hle410) hle417) hx426.le) hle447) hle475) hle482) hx491.le) hle512)) _ _ _ (hbp254 _ _ (by simpa using hj)))) ?_)
 refine qd rfl rfl rfl (r_ldpA (cs := [x290]) ag28 sz28 rfl (fun j u hj => (Pins.of_le hX513.pins (Pin.le_trans (Pin.le_trans (Pin.le_trans (Pin.le_trans (Pin.le_trans (Pin.le_trans (Pin.le_trans (Pin.le_trans (Pin.le_trans (Pin.le_trans (Pin.le_trans hle345 hle352) hx361.le) hle382) hle410) hle417) hx426.le) hle447) hle475) hle482) hx491.le) hle512)) _ _ _ (hbp319 _ _ (by simpa using hj)))) (qd rfl rfl rfl (r_ldpA (cs := [x355]) ag28 sz28 rfl (fun j u hj => (Pins.of_le hX513.pins (Pin.le_trans (Pin.le_trans (Pin.le_trans (Pin.le_trans (Pin.le_trans (Pin.le_trans (Pin.le_trans hle410 hle417) hx426.le) hle447) hle475) hle482) hx491.le) hle512)) _ _ _ (hbp384 _ _ (by simpa using hj)))) (qd rfl rfl rfl (r_ldpA (cs := [x420]) ag28 sz28 rfl (fun j u hj => (Pins.of_le hX513.pins (Pin.le_trans (Pin.le_trans (Pin.le_trans hle475 hle482) hx491.le) hle512)) _ _ _ (hbp449 _ _ (by simpa using hj)))) (qd rfl rfl rfl (r_ldpA (cs := [x485]) ag28 sz28 rfl (fun j u hj => hX513.pins _ _ _ (hbp514 _ _ (by simpa using hj)))) ?_)))
 refine q1 rfl rfl rfl (o_buildA (E := eVal) (e := 28) [x1, x48, x95, x160, x225, x290, x355, x420, x485] [x1, x48, x95, x160, x225, x290, x355, x420, x485] Tryz.underlying24 sz28 zr28 (repsC (⟨rfl, hone10⟩) (repsC (⟨rfl, hone57⟩) (repsC (⟨rfl, hone104⟩) (repsC (⟨rfl, hone169⟩) (repsC (⟨rfl, hone234⟩) (repsC (⟨rfl, hone299⟩) (repsC (⟨rfl, hone364⟩) (repsC (⟨rfl, hone429⟩) (repsC (⟨rfl, hone494⟩) repsN))))))))) (onesC hone10 (onesC hone57 (onesC hone104 (onesC hone169 (onesC hone234 (onesC hone299 (onesC hone364 (onesC hone429 (onesC hone494 onesN))))))))) rfl rfl rfl rfl (by decide) hX513.pins (fun u517 w518 ho519 hp520 hl521 hk522 => ?_))
 have hX523 := hX513.step hp520 hl521
 have hfr524 := hfr516.below hl521
 have ho525 : Own eVal 28 G511 w518 w.heap.size u517 ([x1, x48, x95, x160, x225, x290, x355, x420, x485]) := ho519.weaken hX513.size
 refine qd rfl rfl rfl (r_assign (v := u517) rfl) (qe (s_then ?_))
 exact wp_ret (s_ret (c_ret1 (v := u517) rfl rfl rfl (⟨_, _, _, _, rfl, ho525, hfr524.mem (by simp), hkq489, rfl, rfl, hX523⟩)))

theorem some_spec {w : World} {G : Pin} {c : Nat} {cv : Value} {code : List UInt8} {a s : Int} {l : Value} {vs : List Value} {m : Int} (hP : Pins G w) (hB : Bx G w c [cv, .int .i64 a, .int .u64 s]) (hc : RSl eByte G cv code) (ha : 0 ≤ a ∧ a + 6 ≤ 1000000) (hs : 0 ≤ s ∧ s < 18446744073709551616) (hl : RSl eVal G l vs) (hn : 1 ≤ vs.length ∧ vs.length ≤ 1000) (hm2 : 0 ≤ m ∧ m ≤ 2) :
  Calls Tryz.prog 98 [(.pointer (some ⟨c, 0, none⟩)), l, (.int .i64 m)].toArray w fun e w' => ∃ (u : Value) (ys : List Value) (a' s' : Int) (G' : Pin), e = .returned u ∧ Own eVal 28 G' w' w.heap.size u ys ∧ (∀ y ∈ ys, y ∈ vs) ∧ ys.length ≤ 2 ∧ Bx G' w' c [cv, .int .i64 a', .int .u64 s'] ∧ (a ≤ a' ∧ a' ≤ a + 6) ∧ (0 ≤ s' ∧ s' < 18446744073709551616) ∧ Ext (inO (some c)) G w G' w' := by
 refine s_enter (n := 31) Tryz.func98 Tryz.ntmps98 rfl rfl ?_
 have hX0 : Ext (inO (some c)) G w G w := Ext.refl hP
 have hm := hc.max
 refine s_seq (c_reg ?_)
 refine qd rfl rfl rfl (r_assign (v := (.slice none 0 0)) rfl) (qe (s_then (s_seq (c_reg ?_))))
 refine q1 rfl rfl rfl (o_build0 (E := eVal) (e := 28) Tryz.underlying24 sz28 hX0.pins (fun u1 w2 ho3 hp4 hl5 hk6 => ?_))
 have hX7 := hX0.step hp4 hl5
 have hb8 := hB.below hl5
 have ha9 : Apart u1.ownBlock (some c) := new_ne_box hk6 hB.lt
 have ho10 : Own eVal 28 G w2 w.heap.size u1 ([]) := ho3.weaken hX0.size
 refine qd rfl rfl rfl (r_assign (v := u1) rfl) (qe (s_then (s_seq (c_reg ?_))))
 refine qd rfl rfl rfl (r_move (v := (.pointer (some ⟨c, 0, none⟩))) rfl) (qd rfl rfl rfl (r_move (v := (.int .i64 m)) rfl) (qd rfl rfl rfl (r_add rfl rfl (by omega)) (q1 rfl rfl rfl (o_call (vs := [(.pointer (some ⟨c, 0, none⟩)), (.int .i64 (m + 1))]) Tryz.func41 nm41 rfl rfl rfl ?_))))
 refine Calls.mono (pick_spec hX7.pins hb8 hc (by omega) (by omega) (n := (m + 1)) (by omega)) ?_
 rintro _ w15 ⟨z11, a13, s14, rfl, hz12, hb16, hda17, hds18, hx19⟩
 refine ⟨_, rfl, ?_⟩
 have hX20 := hX7.trans hx19 (fun i hi => lo_self i hi)
 have ho21 := ho10.extS hx19 (notO ha9)
 refine qd rfl rfl rfl (r_assign (v := (.int .i64 z11)) rfl) (qe (s_then (s_seq (s_seq (c_reg ?_)))))
 refine qd rfl rfl rfl (r_assign (v := (.int .i64 0)) rfl) (qe (s_then ?_))
 refine s_blk (s_loop (fun (k : Nat) (en : Nat → Value) (W : World) => ∃ (env1 : Nat → Value) (i : Nat) (ov : Value) (ys : List Value) (a1 : Int) (s1 : Int) (GL : Pin), en = (upd (upd (upd (upd (upd (upd env1 0 (.pointer (some ⟨c, 0, none⟩))) 1 l) 6 (.slice none 0 0)) 7 ov) 8 (.int .i64 z11)) 9 (.int .i64 (i : Int))) ∧ k = (z11).toNat - i ∧ Ext (inO (some c)) G w GL W ∧ Pin.le G GL ∧ (i : Int) ≤ z11 ∧ (∀ y ∈ ys, y ∈ vs) ∧ (ys.length = i) ∧ (a ≤ a1 ∧ a1 ≤ a + 2 + 2 * (i : Int)) ∧ (0 ≤ s1 ∧ s1 < 18446744073709551616) ∧ (Own eVal 28 GL W w.heap.size ov (ys)) ∧ (Bx GL W c [cv, (.int .i64 a1), (.int .u64 s1)]) ∧ (Apart ov.ownBlock (some c))) _ ⟨_, 0, u1, [], a13, s14, G, (packS (x := 9) (packS (x := 8) (packS (x := 7) (packS (x := 6) (packS (x := 1) (pack1 (x := 0) rfl) rfl) rfl) rfl) rfl) rfl), rfl, hX20, Pin.le_refl _, (by omega), (fun y hy => (List.not_mem_nil hy).elim), rfl, (by omega), (by omega), ho21, hb16, ha9⟩ ?_)
 rintro k22 _ w23 ⟨env1, i, ov, ys, a1, s1, GL, rfl, hk24, hX25, hlek22, hi, hys, hyl, hda, hds, hw26, hw27, ha28⟩
 refine s_seq (s_seq (c_reg ?_))
 refine qd rfl rfl rfl (r_move (v := (.int .i64 (i : Int))) rfl) (qd rfl rfl rfl (r_move (v := (.int .i64 z11)) rfl) (qd rfl rfl rfl (r_lss rfl rfl) (qe (s_then ?_))))
 refine c_ifd (p := ((i : Int) : Int) < z11) rfl rfl (fun h29 => ?_) (fun h29 => ?_)
 refine wp_skip (s_then (s_seq ?_))
 refine s_blk (c_reg (qd rfl rfl rfl (r_move (v := ov) rfl) (qd rfl rfl rfl (r_move (v := l) rfl) (qd rfl rfl rfl (r_move (v := (.pointer (some ⟨c, 0, none⟩))) rfl) (qd rfl rfl rfl (r_move (v := l) rfl) (qd rfl rfl rfl (run_len Tryz.underlying24 (v := l) rfl hl) (q1 rfl rfl rfl (o_call (vs := [(.pointer (some ⟨c, 0, none⟩)), (.int .i64 (vs.length : Int))]) Tryz.func41 nm41 rfl rfl rfl ?_))))))))
 refine Calls.mono (pick_spec hX25.pins hw27 (hc.mono hlek22) (by omega) (by omega) (n := (vs.length : Int)) (by omega)) ?_
 rintro _ w34 ⟨z30, a32, s33, rfl, hz31, hb35, hda36, hds37, hx38⟩
 refine ⟨_, rfl, ?_⟩
 have hX39 := hX25.trans hx38 (fun i hi => lo_self i hi)
 have ho40 := hw26.extS hx38 (notO ha28)
 refine qd rfl rfl rfl (run_idx Tryz.underlying24 sz28 (v := l) rfl rfl hl (by omega) (by omega)) ?_
 obtain ⟨cs41, hrep42, hagg43, hcell44⟩ := nm_el (j := (z30).toNat) default (hl.at (z := z30) (by omega) (by omega)) rfl
 obtain ⟨rfl, hone45⟩ := hrep42
 refine qd rfl rfl rfl (hagg43 ag28 sz28 rfl (Pins.of_le hX39.pins hlek22)) (q1 rfl rfl rfl (o_build1 (E := eVal) (e := 28) [(vs.getD (z30).toNat default)] (vs.getD (z30).toNat default) Tryz.underlying24 sz28 zr28 ⟨rfl, hone45⟩ rfl (by decide) hX39.pins (fun u46 w47 ho48 hp49 hl50 hk51 => ?_)))
 have hX52 := hX39.step hp49 hl50
 have ho53 := ho40.below hl50
 have hb54 := hb35.below hl50
 have ho57 : Own eVal 28 GL w47 w.heap.size u46 ([(vs.getD (z30).toNat default)]) := ho48.weaken hX39.size
 refine q1 rfl rfl rfl (o_append (E := eVal) (v := ov) (u := u46) 24 Tryz.underlying24 ap28 (by decide) rfl rfl hX52.pins ho53 ho57.src (by first | omega | (rw [List.nil_append]; omega) | (rw [List.length_nil]; omega) | (rw [List.length_append]; omega) | (simp; done) | (simp; omega) | (simp only [List.length_append, List.length_cons, List.length_nil]; omega)) (by first | omega | (rw [List.nil_append]; omega) | (rw [List.length_nil]; omega) | (rw [List.length_append]; omega) | (simp; done) | (simp; omega) | (simp only [List.length_append, List.length_cons, List.length_nil]; omega)) (hX52.size) (fun u58 w59 ho60 hp61 hg62 hw63 => ?_))
 have hX64 := hX52.write hp61 hg62 ((lo_own ho53))
 have hb66 := hb54.keptA hg62 ha28.symm
 have ha68 : Apart (some c) u58.ownBlock := app_ne_box ha28.symm hw63 hb54.lt
 have hm69 : (ys ++ ([(vs.getD (z30).toNat default)])).length = ys.length + 1 := List.length_append
 refine qd rfl rfl rfl (r_assign (v := u58) rfl) (qe (s_blkN (s_then (c_reg ?_))))
 refine qd rfl rfl rfl (r_move (v := (.int .i64 (i : Int))) rfl) (qd rfl rfl rfl (r_add rfl rfl (by omega)) (qd rfl rfl rfl (r_assign (v := (.int .i64 ((i : Int) + 1))) rfl) (qe (s_lopN (⟨_, ?_, _, rfl, _, i + 1, u58, ys ++ ([(vs.getD (z30).toNat default)]), a32, s33, GL, (packS (x := 9) (packS (x := 8) (packS (x := 7) (packS (x := 6) (packS (x := 1) (pack1 (x := 0) rfl) rfl) rfl) rfl) rfl) rfl), rfl, hX64, hlek22, (by omega), (fun y hy => (List.mem_append.1 hy).elim (hys y) (fun h => by rw [List.mem_singleton.1 h]; exact getD_mem (by omega))), (by simp; omega), (by omega), (by omega), ho60, hb66, ha68.symm⟩)))))
 omega
 refine wp_exit (s_thenE (s_lopE (s_blkE (s_then (s_seq (c_reg ?_))))))
 refine qd rfl rfl rfl (r_move (v := ov) rfl) (qd rfl rfl rfl (r_assign (v := ov) rfl) (qe (s_then ?_)))
 exact wp_ret (s_ret (c_ret1 (v := ov) rfl rfl rfl (⟨_, _, _, _, _, rfl, hw26, hys, (by omega), hw27, (by omega), (by omega), hX25⟩)))

theorem someO_spec {w : World} {G : Pin} {c : Nat} {cv : Value} {code : List UInt8} {a s : Int} {l : Value} {vs : List Value} {m : Int} {e base : Nat} (hP : Pins G w) (hB : Bx G w c [cv, .int .i64 a, .int .u64 s]) (hc : RSl eByte G cv code) (ha : 0 ≤ a ∧ a + 6 ≤ 1000000) (hs : 0 ≤ s ∧ s < 18446744073709551616) (hl : Own eVal e G w base l vs) (hap : Apart (some c) l.ownBlock) (hn : 1 ≤ vs.length ∧ vs.length ≤ 1000) (hm2 : 0 ≤ m ∧ m ≤ 2) :
  Calls Tryz.prog 98 [(.pointer (some ⟨c, 0, none⟩)), l, (.int .i64 m)].toArray w fun e w' => ∃ (u : Value) (ys : List Value) (a' s' : Int), e = .returned u ∧ Own eVal 28 G w' w.heap.size u ys ∧ (∀ y ∈ ys, y ∈ vs) ∧ ys.length ≤ 2 ∧ Bx G w' c [cv, .int .i64 a', .int .u64 s'] ∧ (a ≤ a' ∧ a' ≤ a + 6) ∧ (0 ≤ s' ∧ s' < 18446744073709551616) ∧ Ext (inO (some c)) G w G w' := by
 have hb2 : Bx (Gadd G w l) w c [cv, .int .i64 a, .int .u64 s] := ⟨hB.heap, fun o u hu => hu.elim (hB.free o u) (fun h => hap c rfl h.1)⟩
 refine (some_spec (Gadd.pins hP l) hb2 (hc.mono (Gadd.le _ _ _)) ha hs hl.read hn hm2).mono fun e w' ⟨u, ys, a', s', G', e1, ho, hm, hy, hb, h1, h2, hx⟩ => ?_
 have hle : Pin.le G G' := Pin.le_trans (Gadd.le _ _ _) hx.le
 exact ⟨u, ys, a', s', e1, ownV_anti ho hle, hm, hy, hb.anti hle, h1, h2, ext_back (Gadd.le _ _ _) hx⟩

theorem dform_spec {w : World} {G : Pin} {c : Nat} {cv : Value} {code : List UInt8} {a s : Int} {n : Int} (hP : Pins G w) (hB : Bx G w c [cv, .int .i64 a, .int .u64 s]) (hc : RSl eByte G cv code) (ha : 0 ≤ a ∧ a + (12 * n + 4) ≤ 1000000) (hs : 0 ≤ s ∧ s < 18446744073709551616) (hn : 0 ≤ n ∧ n ≤ 6) :
  Calls Tryz.prog 42 [(.pointer (some ⟨c, 0, none⟩)), (.int .i64 n)].toArray w fun e w' => ∃ (u : Value) (g : Nat) (a' s' : Int) (G' : Pin), e = .returned (.agg [u].toArray) ∧ Own eNode 68 G' w' w.heap.size u (formG g) ∧ IsForm g (formG g) ∧ ((formG g).length : Int) ≤ 9 + n ∧ Bx G' w' c [cv, .int .i64 a', .int .u64 s'] ∧ (a ≤ a' ∧ a' ≤ a + (12 * n + 4)) ∧ (0 ≤ s' ∧ s' < 18446744073709551616) ∧ Ext (inO (some c)) G w G' w' := by
 refine s_enter (n := 40) Tryz.func42 Tryz.ntmps42 rfl rfl ?_
 have hX0 : Ext (inO (some c)) G w G w := Ext.refl hP
 have hm := hc.max
 refine s_seq (c_reg ?_)
 refine q1 rfl rfl rfl (o_alloc [(.slice none 0 0)] zr28 rfl hX0.pins (fun b1 w2 hk3 hb4 hp5 hl6 => ?_))
 have hX7 := hX0.step hp5 hl6
 have hb8 := hB.below hl6
 have ha9 : Apart (some b1) (some c) := new_ne_box (congrArg some hk3) hB.lt
 have hlo10 : w.heap.size ≤ b1 := by have := hX0.size; omega
 refine qe (s_then (s_seq (c_reg ?_)))
 refine q1 rfl rfl rfl (o_call (vs := []) Tryz.func97 nm97 rfl rfl rfl ?_)
 refine Calls.mono (l3Small_spec hX7.pins) ?_
 rintro _ w15 ⟨u11, vs12, Q13, G14, rfl, ho16, hfr17, hkq18, hvl19, hql20, hx21⟩
 refine ⟨_, rfl, ?_⟩
 have hX22 := hX7.tr hx21
 have hb23 := hb8.ext hx21
 have hb24 := hb4.ext hx21
 have ha25 : Apart u11.ownBlock (some c) := made_ne_box ho16.lt hb8.lt
 have ha26 : Apart u11.ownBlock (some b1) := made_ne_box ho16.lt hb4.lt
 have ho27 : Own eVal 28 G14 w15 w.heap.size u11 vs12 := ho16.weaken hX7.size
 have hfr28 := hfr17.wide hX7.size
 refine qd rfl rfl rfl (r_assign (v := u11) rfl) (qe (s_then (s_seq (s_seq (c_reg ?_)))))
 refine qd rfl rfl rfl (r_assign (v := (.int .i64 0)) rfl) (qe (s_then ?_))
 refine s_blk (s_loop (fun (k : Nat) (en : Nat → Value) (W : World) => ∃ (env1 : Nat → Value) (i : Nat) (lv : Value) (ls : List Value) (Q : List Nat) (a1 : Int) (s1 : Int) (GL : Pin), en = (upd (upd (upd (upd (upd env1 0 (.pointer (some ⟨c, 0, none⟩))) 1 (.int .i64 n)) 4 (.pointer (some ⟨b1, 0, none⟩))) 5 lv) 6 (.int .i64 (i : Int))) ∧ k = n.toNat - i ∧ Ext (inO (some c)) G w GL W ∧ Pin.le G14 GL ∧ (i : Int) ≤ n ∧ (Fr 68 w.heap.size GL W Q ls) ∧ (KQ Q) ∧ (ls.length = 9 + i) ∧ (Q.length = 9 + i) ∧ (a ≤ a1 ∧ a1 ≤ a + 12 * (i : Int)) ∧ (0 ≤ s1 ∧ s1 < 18446744073709551616) ∧ (Own eVal 28 GL W w.heap.size lv (ls)) ∧ (Bx GL W c [cv, (.int .i64 a1), (.int .u64 s1)]) ∧ (Bx GL W b1 [(.slice none 0 0)]) ∧ (Apart lv.ownBlock (some c)) ∧ (Apart lv.ownBlock (some b1))) _ ⟨_, 0, u11, vs12, Q13, a, s, G14, (packS (x := 6) (packS (x := 5) (packS (x := 4) (packS (x := 1) (pack1 (x := 0) rfl) rfl) rfl) rfl) rfl), rfl, hX22, Pin.le_refl _, (by omega), hfr28, hkq18, (by omega), (by omega), (by omega), (by omega), ho27, hb23, hb24, ha25, ha26⟩ ?_)
 rintro k29 _ w30 ⟨env1, i, lv, ls, Q, a1, s1, GL, rfl, hk31, hX32, hlek29, hi, hfl, hkl, hll, hQl, hda, hds, hw33, hw34, hw35, ha36, ha37⟩
 refine s_seq (s_seq (c_reg ?_))
 refine qd rfl rfl rfl (r_move (v := (.int .i64 (i : Int))) rfl) (qd rfl rfl rfl (r_move (v := (.int .i64 n)) rfl) (qd rfl rfl rfl (r_lss rfl rfl) (qe (s_then ?_))))
 refine c_ifd (p := ((i : Int) : Int) < n) rfl rfl (fun h38 => ?_) (fun h38 => ?_)
 refine wp_skip (s_then (s_seq ?_))
 refine s_blk (s_seq (c_reg ?_))
 refine qd rfl rfl rfl (r_move (v := (.pointer (some ⟨c, 0, none⟩))) rfl) (qd rfl rfl rfl (r_move (v := lv) rfl) (q1 rfl rfl rfl (o_call (vs := [(.pointer (some ⟨c, 0, none⟩)), lv, (.int .i64 2)]) Tryz.func98 nm98 rfl rfl rfl ?_)))
 refine Calls.mono (someO_spec hX32.pins hw34 (hc.mono (Pin.le_trans hx21.le hlek29)) (by omega) (by omega) hw33 ha36.symm (by omega) (by omega)) ?_
 rintro _ w43 ⟨u39, ys40, a41, s42, rfl, ho44, hmy45, hyl46, hb47, hda48, hds49, hx50⟩
 refine ⟨_, rfl, ?_⟩
 have hX51 := hX32.trans hx50 (fun i hi => lo_self i hi)
 have ho52 := hw33.extS hx50 (notO ha36)
 have hb53 := hw35.extS hx50 (notOb ha9)
 have hfr54 := hfl.turned hx50 (fun k hk o u => by cases hk; exact hw34.free o u)
 have ha55 : Apart u39.ownBlock lv.ownBlock := made_ne_own ho44.lt hw33.lt
 have ha56 : Apart u39.ownBlock (some c) := made_ne_box ho44.lt hw34.lt
 have ha57 : Apart u39.ownBlock (some b1) := made_ne_box ho44.lt hw35.lt
 have ho58 : Own eVal 28 GL w43 w.heap.size u39 ys40 := ho44.weaken hX32.size
 refine qd rfl rfl rfl (r_assign (v := u39) rfl) (qe (s_then (c_reg ?_)))
 refine qd rfl rfl rfl (r_move (v := lv) rfl) (qd rfl rfl rfl (r_move (v := u39) rfl) (qd rfl rfl rfl (r_move (v := (.pointer (some ⟨c, 0, none⟩))) rfl) (qd rfl rfl rfl (r_move (v := lv) rfl) (q1 rfl rfl rfl (o_call (vs := [(.pointer (some ⟨c, 0, none⟩)), lv, (.int .i64 2)]) Tryz.func98 nm98 rfl rfl rfl ?_)))))
 refine Calls.mono (someO_spec hX51.pins hb47 (hc.mono (Pin.le_trans hx21.le hlek29)) (by omega) (by omega) ho52 ha36.symm (by omega) (by omega)) ?_
 rintro _ w63 ⟨u59, ys60, a61, s62, rfl, ho64, hmy65, hyl66, hb67, hda68, hds69, hx70⟩
 refine ⟨_, rfl, ?_⟩
 have hX71 := hX51.trans hx70 (fun i hi => lo_self i hi)
 have ho72 := ho52.extS hx70 (notO ha36)
 have ho73 := ho58.extS hx70 (notO ha56)
 have hb74 := hb53.extS hx70 (notOb ha9)
 have hfr75 := hfr54.turned hx70 (fun k hk o u => by cases hk; exact hb47.free o u)
 have ha76 : Apart u59.ownBlock lv.ownBlock := made_ne_own ho64.lt ho52.lt
 have ha77 : Apart u59.ownBlock u39.ownBlock := made_ne_own ho64.lt ho58.lt
 have ha78 : Apart u59.ownBlock (some c) := made_ne_box ho64.lt hb47.lt
 have ha79 : Apart u59.ownBlock (some b1) := made_ne_box ho64.lt hb53.lt
 have ho80 : Own eVal 28 GL w63 w.heap.size u59 ys60 := ho64.weaken hX51.size
 obtain ⟨G81, hle84, hX83, hr82, hf85⟩ := ho73.sealed hX71
 have ho86 := ho72.moreO hle84 hf85 ha55.symm
 have ho87 := ho80.moreO hle84 hf85 ha77
 have hb88 := hb67.moreO hf85 ha56.symm
 have hb89 := hb74.moreO hf85 ha57.symm
 have hfr90 := hfr75.le hle84
 obtain ⟨G91, hle94, hX93, hr92, hf95⟩ := ho87.sealed hX83
 have ho96 := ho86.moreO hle94 hf95 ha76.symm
 have hb97 := hb88.moreO hf95 ha78.symm
 have hb98 := hb89.moreO hf95 ha79.symm
 have hfr99 := hfr90.le hle94
 refine q1 rfl rfl rfl (o_call (vs := [u39, u59]) Tryz.func67 nm67 rfl rfl rfl ?_)
 refine Calls.mono (l3MakeV_spec hX93.pins hfr99 hkl (by first | omega | (simp; done) | (simp; omega)) hX93.size (hr82.mono hle94) hr92 hmy45 hmy65 (by first | omega | simp) (by first | omega | simp)) ?_
 rintro _ w103 ⟨x100, g101, G102, rfl, hkq104, hfr105, hx106⟩
 refine ⟨_, rfl, ?_⟩
 have hX107 := hX93.tr hx106
 have ho108 := ho96.ext hx106
 have hb109 := hb97.ext hx106
 have hb110 := hb98.ext hx106
 have hone112 := hfr105.one List.mem_cons_self
 refine q1 rfl rfl rfl (o_build1 (E := eVal) (e := 28) [x100] x100 Tryz.underlying24 sz28 zr28 ⟨rfl, hone112⟩ rfl (by decide) hX107.pins (fun u113 w114 ho115 hp116 hl117 hk118 => ?_))
 have hX119 := hX107.step hp116 hl117
 have ho120 := ho108.below hl117
 have hb121 := hb109.below hl117
 have hb122 := hb110.below hl117
 have hfr123 := hfr105.below hl117
 have ho127 : Own eVal 28 G102 w114 w.heap.size u113 ([x100]) := ho115.weaken hX107.size
 refine q1 rfl rfl rfl (o_append (E := eVal) (v := lv) (u := u113) 24 Tryz.underlying24 ap28 (by decide) rfl rfl hX119.pins ho120 ho127.src (by first | omega | (rw [List.nil_append]; omega) | (rw [List.length_nil]; omega) | (rw [List.length_append]; omega) | (simp; done) | (simp; omega) | (simp only [List.length_append, List.length_cons, List.length_nil]; omega)) (by first | omega | (rw [List.nil_append]; omega) | (rw [List.length_nil]; omega) | (rw [List.length_append]; omega) | (simp; done) | (simp; omega) | (simp only [List.length_append, List.length_cons, List.length_nil]; omega)) (hX119.size) (fun u128 w129 ho130 hp131 hg132 hw133 => ?_))
 have hX134 := hX119.write hp131 hg132 ((lo_own ho120))
 have hb136 := hb121.keptA hg132 ha36.symm
 have hb137 := hb122.keptA hg132 ha37.symm
 have hfr138 := hfr123.kept hg132 ho120.free
 have ha140 : Apart (some c) u128.ownBlock := app_ne_box ha36.symm hw133 hb121.lt
 have ha141 : Apart (some b1) u128.ownBlock := app_ne_box ha37.symm hw133 hb122.lt
 have hm142 : (ls ++ ([x100])).length = ls.length + 1 := List.length_append
 refine qd rfl rfl rfl (r_assign (v := u128) rfl) (qe (s_blkN (s_then (c_reg ?_))))
 refine qd rfl rfl rfl (r_move (v := (.int .i64 (i : Int))) rfl) (qd rfl rfl rfl (r_add rfl rfl (by omega)) (qd rfl rfl rfl (r_assign (v := (.int .i64 ((i : Int) + 1))) rfl) (qe (s_lopN (⟨_, ?_, _, rfl, _, i + 1, u128, ls ++ ([x100]), (g101 :: Q), a61, s62, G102, (packS (x := 6) (packS (x := 5) (packS (x := 4) (packS (x := 1) (pack1 (x := 0) rfl) rfl) rfl) rfl) rfl), rfl, hX134, (Pin.le_trans (Pin.le_trans (Pin.le_trans hlek29 hle84) hle94) hx106.le), (by omega), (hfr138.mem snoc_mem), hkq104, (by simp; omega), (by simp; omega), (by omega), (by omega), ho130, hb136, hb137, ha140.symm, ha141.symm⟩)))))
 omega
 refine wp_exit (s_thenE (s_lopE (s_blkE (s_then (s_seq (s_seq (c_reg ?_)))))))
 refine qd rfl rfl rfl (r_move (v := (.pointer (some ⟨c, 0, none⟩))) rfl) (q1 rfl rfl rfl (o_call (vs := [(.pointer (some ⟨c, 0, none⟩)), (.int .i64 3)]) Tryz.func43 nm43 rfl rfl rfl ?_))
 refine Calls.mono (one_spec hX32.pins hw34 (hc.mono (Pin.le_trans hx21.le hlek29)) (by omega) (by omega) (n := 3) (by omega)) ?_
 rintro _ w146 ⟨z143, a144, s145, rfl, hb147, hda148, hds149, hx150⟩
 refine ⟨_, rfl, ?_⟩
 have hX151 := hX32.trans hx150 (fun i hi => lo_self i hi)
 have ho152 := hw33.extS hx150 (notO ha36)
 have hb153 := hw35.extS hx150 (notOb ha9)
 have hfr154 := hfl.turned hx150 (fun k hk o u => by cases hk; exact hw34.free o u)
 refine qe (s_then ?_)
 refine c_if rfl rfl (fun h155 => ?_) (fun h155 => ?_)
 refine s_seq (c_reg ?_)
 refine qd rfl rfl rfl (r_move (v := lv) rfl) (qd rfl rfl rfl (r_move (v := (.pointer (some ⟨c, 0, none⟩))) rfl) (qd rfl rfl rfl (r_move (v := lv) rfl) (qd rfl rfl rfl (run_len Tryz.underlying24 (v := lv) rfl ho152.read) (q1 rfl rfl rfl (o_call (vs := [(.pointer (some ⟨c, 0, none⟩)), (.int .i64 (ls.length : Int))]) Tryz.func41 nm41 rfl rfl rfl ?_)))))
 refine Calls.mono (pick_spec hX151.pins hb147 (hc.mono (Pin.le_trans hx21.le hlek29)) (by omega) (by omega) (n := (ls.length : Int)) (by omega)) ?_
 rintro _ w160 ⟨z156, a158, s159, rfl, hz157, hb161, hda162, hds163, hx164⟩
 refine ⟨_, rfl, ?_⟩
 have hX165 := hX151.trans hx164 (fun i hi => lo_self i hi)
 have ho166 := ho152.extS hx164 (notO ha36)
 have hb167 := hb153.extS hx164 (notOb ha9)
 have hfr168 := hfr154.turned hx164 (fun k hk o u => by cases hk; exact hb147.free o u)
 refine qd rfl rfl rfl (run_idx Tryz.underlying24 sz28 (v := lv) rfl rfl ho166.read (by omega) (by omega)) ?_
 obtain ⟨cs169, hrep170, hagg171, hcell172⟩ := nm_el (j := (z156).toNat) default (ho166.at (z := z156) (by omega) (by omega)) rfl
 obtain ⟨rfl, hone173⟩ := hrep170
 refine qd rfl rfl rfl (hagg171 ag28 sz28 rfl (Gadd.pins hX165.pins lv)) (q0 rfl rfl rfl (o_stp (cs' := [(ls.getD (z156).toNat default)]) (us := [(ls.getD (z156).toNat default)]) (v := (.agg [(ls.getD (z156).toNat default)].toArray)) sz28 rfl rfl rfl (ones1 hone173) hX165.pins hb167 (Nat.le_of_ble_eq_true rfl) rfl (fun w174 hb175 hp176 hg177 hz178 => ?_)))
 have hX179 := hX165.write hp176 hg177 ((lo_box hlo10))
 have hb181 := hb161.keptA hg177 ha9.symm
 have hfr182 := hfr168.kept hg177 (fun k hk o u => by cases hk; exact hb167.free o u)
 refine qe (s_then ?_)
 refine wp_ret (s_ret (c_retc (cs := [(ls.getD (z156).toNat default)]) rfl rfl rfl ag28 sz28 (fun j u hj => by rw [Nat.zero_add]; exact hb175.cell hj) ?_))
 obtain ⟨g, hgq, htk⟩ := hfr182 (ls.getD (z156).toNat default) (getD_mem (by omega))
 obtain ⟨G2, ho2, hx2, hle2⟩ := htk.give hP hX179
 have hw := hkl.w (by omega) hgq
 exact ⟨_, g, _, _, G2, rfl, ho2, hkl.is g hgq, (by omega), hb181.anti hle2, (by omega), (by omega), hx2⟩
 refine wp_skip (s_then (s_seq (c_reg ?_)))
 refine qd rfl rfl rfl (r_move (v := lv) rfl) (qd rfl rfl rfl (r_move (v := lv) rfl) (qd rfl rfl rfl (run_len Tryz.underlying24 (v := lv) rfl ho152.read) (qd rfl rfl rfl (r_sub rfl rfl (by omega)) (qd rfl rfl rfl (run_idx Tryz.underlying24 sz28 (v := lv) rfl rfl ho152.read (by omega) (by omega)) ?_))))
 obtain ⟨cs183, hrep184, hagg185, hcell186⟩ := nm_el (j := ((ls.length : Int) - 1).toNat) default (ho152.at (z := ((ls.length : Int) - 1)) (by omega) (by omega)) rfl
 obtain ⟨rfl, hone187⟩ := hrep184
 refine qd rfl rfl rfl (hagg185 ag28 sz28 rfl (Gadd.pins hX151.pins lv)) (q0 rfl rfl rfl (o_stp (cs' := [(ls.getD ((ls.length : Int) - 1).toNat default)]) (us := [(ls.getD ((ls.length : Int) - 1).toNat default)]) (v := (.agg [(ls.getD ((ls.length : Int) - 1).toNat default)].toArray)) sz28 rfl rfl rfl (ones1 hone187) hX151.pins hb153 (Nat.le_of_ble_eq_true rfl) rfl (fun w188 hb189 hp190 hg191 hz192 => ?_)))
 have hX193 := hX151.write hp190 hg191 ((lo_box hlo10))
 have hb195 := hb147.keptA hg191 ha9.symm
 have hfr196 := hfr154.kept hg191 (fun k hk o u => by cases hk; exact hb153.free o u)
 refine qe (s_then ?_)
 refine wp_ret (s_ret (c_retc (cs := [(ls.getD ((ls.length : Int) - 1).toNat default)]) rfl rfl rfl ag28 sz28 (fun j u hj => by rw [Nat.zero_add]; exact hb189.cell hj) ?_))
 obtain ⟨g, hgq, htk⟩ := hfr196 (ls.getD ((ls.length : Int) - 1).toNat default) (getD_mem (by omega))
 obtain ⟨G2, ho2, hx2, hle2⟩ := htk.give hP hX193
 have hw := hkl.w (by omega) hgq
 exact ⟨_, g, _, _, G2, rfl, ho2, hkl.is g hgq, (by omega), hb195.anti hle2, (by omega), (by omega), hx2⟩

end DR2
end Go.Proofs.YtkfgdhanaijddaaGreatDoor
