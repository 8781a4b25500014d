/- Texts of this claim in one file: PL1, PA1, SO1, OD1, FO1, NG1, NF1, PF1, OR1, SF1, MK1, DR1, DR2, DV1, DV2, NU1, NU2, NU3. -/
import Derived.Test.YtkfgdhanaijddaaGreatDoorNu5
import Derived.Test.YtkfgdhanaijddaaGreatDoorChecked
set_option maxRecDepth 20000
set_option maxHeartbeats 2000000
namespace Go.Proofs.YtkfgdhanaijddaaGreatDoor
namespace PL1
open Go.RowKit Go.GL Go.Proofs
open B1 K1 PO1









theorem mk3 : (Tryz.prog.info? 3).map (fun i => (i.size, i.bytes, i.zero)) = some (1, 8, some (.int .i64 0)) := by kernel_rfl








theorem pl117 : (Tryz.prog.underlying 117).bind (placesD Tryz.prog) = some [(0, 1), (1, 1), (2, 1), (3, 1), (4, 1), (5, 1), (6, 1), (7, 1)] := by kernel_rfl










theorem newPool_spec {w : World} {G : Pin} (hP : Pins G w) :
  Calls Tryz.prog 46 [].toArray w fun e w' => ∃ (p : Nat) (mm : PM) (G' : Pin), e = .returned (.pointer (some ⟨p, 0, none⟩)) ∧ Pk 57 3 G' w' p (.slice none 0 0) (.slice none 0 0) (.slice none 0 0) mm ⟨[], [], [], [], [], [], []⟩ ∧ (∀ k, inP p (.slice none 0 0) (.slice none 0 0) (.slice none 0 0) mm k → w.heap.size ≤ k) ∧ Ext noS G w G' w' := by
 refine s_enter (n := 8) Tryz.func46 Tryz.ntmps46 rfl rfl ?_
 have hX0 : Ext noS G w G w := Ext.refl hP
 refine s_seq (c_reg ?_)
 refine qd rfl rfl rfl (r_assign (v := (.pointer none)) rfl) (qe (s_then (s_seq (c_reg ?_))))
 refine q1 rfl rfl rfl (o_makeMap (fun k : ByteArray => Value.string k) (fun v : Int => Value.int .i64 v) hX0.pins (fun m1 w2 hk3 hm4 hp5 hl6 => ?_))
 have hX7 := hX0.step hp5 hl6
 have hlo8 : w.heap.size ≤ m1 := by have := hX0.size; omega
 refine q1 rfl rfl rfl (o_makeMap encP2 (fun v : Bool => Value.bool v) hX7.pins (fun m9 w10 hk11 hm12 hp13 hl14 => ?_))
 have hX15 := hX7.step hp13 hl14
 have hm16 := hm4.below hl14
 have ha17 : Apart (some m9) (some m1) := new_ne_box (congrArg some hk11) hm4.lt
 have hlo18 : w.heap.size ≤ m9 := by have := hX7.size; omega
 refine q1 rfl rfl rfl (o_makeMap (fun k : Int => Value.int .i64 k) (fun v : Int => Value.int .i64 v) hX15.pins (fun m19 w20 hk21 hm22 hp23 hl24 => ?_))
 have hX25 := hX15.step hp23 hl24
 have hm26 := hm16.below hl24
 have hm27 := hm12.below hl24
 have ha28 : Apart (some m19) (some m1) := new_ne_box (congrArg some hk21) hm16.lt
 have ha29 : Apart (some m19) (some m9) := new_ne_box (congrArg some hk21) hm12.lt
 have hlo30 : w.heap.size ≤ m19 := by have := hX15.size; omega
 refine q1 rfl rfl rfl (o_makeMap encP2 (fun v : Int => Value.int .i64 v) hX25.pins (fun m31 w32 hk33 hm34 hp35 hl36 => ?_))
 have hX37 := hX25.step hp35 hl36
 have hm38 := hm26.below hl36
 have hm39 := hm27.below hl36
 have hm40 := hm22.below hl36
 have ha41 : Apart (some m31) (some m1) := new_ne_box (congrArg some hk33) hm26.lt
 have ha42 : Apart (some m31) (some m9) := new_ne_box (congrArg some hk33) hm27.lt
 have ha43 : Apart (some m31) (some m19) := new_ne_box (congrArg some hk33) hm22.lt
 have hlo44 : w.heap.size ≤ m31 := by have := hX25.size; omega
 refine q1 rfl rfl rfl (o_makeMap (fun k : Int => Value.int .i64 k) (fun v : Int => Value.int .i64 v) hX37.pins (fun m45 w46 hk47 hm48 hp49 hl50 => ?_))
 have hX51 := hX37.step hp49 hl50
 have hm52 := hm38.below hl50
 have hm53 := hm39.below hl50
 have hm54 := hm40.below hl50
 have hm55 := hm34.below hl50
 have ha56 : Apart (some m45) (some m1) := new_ne_box (congrArg some hk47) hm38.lt
 have ha57 : Apart (some m45) (some m9) := new_ne_box (congrArg some hk47) hm39.lt
 have ha58 : Apart (some m45) (some m19) := new_ne_box (congrArg some hk47) hm40.lt
 have ha59 : Apart (some m45) (some m31) := new_ne_box (congrArg some hk47) hm34.lt
 have hlo60 : w.heap.size ≤ m45 := by have := hX37.size; omega
 refine qd rfl rfl rfl (r_build [(.slice none 0 0), (.slice none 0 0), (.slice none 0 0), (.map none), (.map none), (.map none), (.map none), (.map none)] [(.slice none 0 0), (.slice none 0 0), (.slice none 0 0), (.map (some m1)), (.map (some m9)), (.map (some m19)), (.map (some m31)), (.map (some m45))] [(3, (.map (some m1)), [(.map (some m1))]), (4, (.map (some m9)), [(.map (some m9))]), (5, (.map (some m19)), [(.map (some m19))]), (6, (.map (some m31)), [(.map (some m31))]), (7, (.map (some m45)), [(.map (some m45))])] Tryz.underlying117 zr117 rfl pl117 rfl (List.forall_mem_cons.2 ⟨rfl, (List.forall_mem_cons.2 ⟨rfl, (List.forall_mem_cons.2 ⟨rfl, (List.forall_mem_cons.2 ⟨rfl, (List.forall_mem_cons.2 ⟨rfl, (fun _ h => by cases h)⟩)⟩)⟩)⟩)⟩) rfl) (q1 rfl rfl rfl (o_box [(.slice none 0 0), (.slice none 0 0), (.slice none 0 0), (.map (some m1)), (.map (some m9)), (.map (some m19)), (.map (some m31)), (.map (some m45))] (v := (.agg [(.slice none 0 0), (.slice none 0 0), (.slice none 0 0), (.map (some m1)), (.map (some m9)), (.map (some m19)), (.map (some m31)), (.map (some m45))].toArray)) rfl rfl hX51.pins (fun b61 w62 hk63 hb64 hp65 hl66 => ?_)))
 have hX67 := hX51.step hp65 hl66
 have hm68 := hm52.below hl66
 have hm69 := hm53.below hl66
 have hm70 := hm54.below hl66
 have hm71 := hm55.below hl66
 have hm72 := hm48.below hl66
 have hlo73 : w.heap.size ≤ b61 := by have := hX51.size; omega
 refine qd rfl rfl rfl (r_assign (v := (.pointer (some ⟨b61, 0, none⟩))) rfl) (qe (s_then ?_))
 refine wp_ret (s_ret (c_ret1 (v := (.pointer (some ⟨b61, 0, none⟩))) rfl rfl rfl ?_))
 have hdf : PDiff ⟨m1, m9, m19, m31, m45⟩ := ⟨fun e => ha17.symm _ rfl (congrArg some e.symm), fun e => ha28.symm _ rfl (congrArg some e.symm), fun e => ha41.symm _ rfl (congrArg some e.symm), fun e => ha56.symm _ rfl (congrArg some e.symm), fun e => ha29.symm _ rfl (congrArg some e.symm), fun e => ha42.symm _ rfl (congrArg some e.symm), fun e => ha57.symm _ rfl (congrArg some e.symm), fun e => ha43.symm _ rfl (congrArg some e.symm), fun e => ha58.symm _ rfl (congrArg some e.symm), fun e => ha59.symm _ rfl (congrArg some e.symm)⟩
 have hfr : ∀ k, inP b61 (.slice none 0 0) (.slice none 0 0) (.slice none 0 0) ⟨m1, m9, m19, m31, m45⟩ k → w.heap.size ≤ k := by rintro k (rfl | hk | hk | hk | rfl | rfl | rfl | rfl | rfl) <;> first | (cases hk; done) | exact hlo73 | exact hlo8 | exact hlo18 | exact hlo30 | exact hlo44 | exact hlo60
 exact ⟨b61, ⟨m1, m9, m19, m31, m45⟩, _, rfl, ⟨hb64, (Own.nil _ _ _ _ _), (Own.nil _ _ _ _ _), (Own.nil _ _ _ _ _), hm68, hm69, hm70, hm71, hm72, apart_none.symm, apart_none.symm, apart_none.symm, apart_none, apart_none, apart_none, hdf⟩, hfr, hX67⟩

theorem renamed_spec {w : World} {G : Pin} {u v : Value} {xs ys : List Int} (hP : Pins G w) (hu : RSl eInt G u xs) (hv : RSl eInt G v ys) (hs : xs.length ≤ 1048576) (hb : ∀ i, i < xs.length → 0 ≤ xs.getD i 0 ∧ xs.getD i 0 < ys.length) :
  Calls Tryz.prog 127 [u, v].toArray w fun e w' => ∃ (u : Value) (G' : Pin), e = .returned u ∧ Own eInt 3 G' w' w.heap.size u (atL ys xs) ∧ Ext noS G w G' w' := by
 refine s_enter (n := 27) Tryz.func127 Tryz.ntmps127 rfl rfl ?_
 have hX0 : Ext noS G w G w := Ext.refl hP
 have hm := hu.max
 have hal : (atL ys xs).length = xs.length := at_length
 have hrl : (List.replicate xs.length (0 : Int)).length = xs.length := List.length_replicate
 refine s_seq (c_reg ?_)
 refine qd rfl rfl rfl (r_assign (v := (.slice none 0 0)) rfl) (qe (s_then (s_seq (c_reg ?_))))
 refine qd rfl rfl rfl (r_move (v := u) rfl) (qd rfl rfl rfl (run_len Tryz.underlying57 (v := u) rfl hu) (q1 rfl rfl rfl (o_make (E := eInt) 0 8 (.int .i64 0) Tryz.underlying57 mk3 (fun _ => rfl) rfl rfl hX0.pins (by omega) (by omega) (by omega) (fun u1 w2 ho3 hp4 hl5 hk6 => ?_))))
 have hX7 := hX0.step hp4 hl5
 have ho8 : Own eInt 3 G w2 w.heap.size u1 (List.replicate xs.length 0) := ho3.weaken hX0.size
 have hm9 : (List.replicate xs.length 0).length = xs.length := List.length_replicate ..
 refine qd rfl rfl rfl (r_assign (v := u1) rfl) (qe (s_then (s_seq (s_seq (c_reg ?_)))))
 refine qd rfl rfl rfl (r_move (v := u) rfl) (qd rfl rfl rfl (run_len Tryz.underlying57 (v := u) rfl hu) (qd rfl rfl rfl (r_move (v := (.int .i64 0)) rfl) (qe (s_then ?_))))
 refine s_blk (s_loop (fun (k : Nat) (en : Nat → Value) (W : World) => ∃ (env1 : Nat → Value) (j : Nat) (os : List Int), en = (upd (upd (upd (upd (upd (upd env1 1 v) 4 (.slice none 0 0)) 5 u1) 11 u) 12 (.int .i64 (xs.length : Int))) 13 (.int .i64 (j : Int))) ∧ k = xs.length - j ∧ Ext noS G w G W ∧ (j ≤ xs.length) ∧ (os = (atL ys xs).take j ++ (List.replicate xs.length 0).drop j) ∧ (os.length = xs.length) ∧ (Own eInt 3 G W w.heap.size u1 (os))) _ ⟨_, 0, List.replicate xs.length 0, (packS (x := 13) (packS (x := 12) (packS (x := 11) (packS (x := 5) (packS (x := 4) (pack1 (x := 1) rfl) rfl) rfl) rfl) rfl) rfl), rfl, hX7, Nat.zero_le _, rfl, hrl, ho8⟩ ?_)
 rintro k10 _ w11 ⟨env1, j, os, rfl, hk12, hX13, hj, hr, hol, hw14⟩
 refine s_seq (c_reg ?_)
 refine qd rfl rfl rfl (r_lss rfl rfl) (qe (s_then (s_seq ?_)))
 refine c_ifd (p := ((j : Int) : Int) < (xs.length : Int)) rfl rfl (fun h15 => ?_) (fun h15 => ?_)
 have hbj := hb j (by omega)
 refine wp_skip (s_then (s_seq ?_))
 refine s_blk (s_seq (c_reg ?_))
 refine qd rfl rfl rfl (r_move (v := (.int .i64 (j : Int))) rfl) (qd rfl rfl rfl (run_idx Tryz.underlying57 sz3 (v := u) rfl rfl hu (by omega) (by omega)) (qd rfl rfl rfl (run_load_int (r := xs.getD j 0) rfl ag3 (z := (j : Int)) rfl hu hX13.pins (by omega) (by omega)) (qd rfl rfl rfl (r_assign (v := (.int .i64 (j : Int))) rfl) (qd rfl rfl rfl (r_assign (v := (.int .i64 (xs.getD j 0))) rfl) (qe (s_then (c_reg ?_)))))))
 refine qd rfl rfl rfl (r_move (v := u1) rfl) (qd rfl rfl rfl (r_move (v := (.int .i64 (j : Int))) rfl) (qd rfl rfl rfl (r_move (v := v) rfl) (qd rfl rfl rfl (r_move (v := (.int .i64 (xs.getD j 0))) rfl) (qd rfl rfl rfl (run_idx Tryz.underlying57 sz3 (v := v) rfl rfl hv (by omega) (by omega)) (qd rfl rfl rfl (run_load_int (r := ys.getD (xs.getD j 0).toNat 0) rfl ag3 (z := (xs.getD j 0)) rfl hv hX13.pins (by omega) (by omega)) (qd rfl rfl rfl (run_idx Tryz.underlying57 sz3 (v := u1) rfl rfl hw14.read (by omega) (by omega)) (q0 rfl rfl rfl (o_set (E := eInt) (v := u1) (u := (.int .i64 (ys.getD (xs.getD j 0).toNat 0))) (z := (j : Int)) (ys.getD (xs.getD j 0).toNat 0) sz3 rfl rfl rfl rfl hX13.pins hw14 (by omega) (by omega) (fun w16 ho17 hp18 hg19 hz20 => ?_)))))))))
 have hX21 := hX13.write hp18 hg19 ((lo_own hw14))
 refine qe (s_blkN (s_then (c_reg ?_)))
 refine qd rfl rfl rfl (r_add rfl rfl (by omega)) (qd rfl rfl rfl (r_move (v := (.int .i64 ((j : Int) + 1))) rfl) (qe (s_lopN (⟨_, ?_, _, rfl, _, j + 1, os.set j (ys.getD (xs.getD j 0).toNat 0), (packS (x := 13) (packS (x := 12) (packS (x := 11) (packS (x := 5) (packS (x := 4) (pack1 (x := 1) rfl) rfl) rfl) rfl) rfl) rfl), rfl, hX21, (by omega), (by rw [hr]; exact cur_set 0 (by omega) (by omega) (at_getD (by omega))), ((List.length_set ..).trans hol), ho17⟩))))
 omega
 refine wp_exit (s_thenE (s_lopE (s_blkE (s_then (s_seq (c_reg ?_))))))
 refine qd rfl rfl rfl (r_move (v := u1) rfl) (qd rfl rfl rfl (r_assign (v := u1) rfl) (qe (s_then ?_)))
 refine wp_ret (s_ret (c_ret1 (v := u1) rfl rfl rfl ?_))
 rw [cur_end (by omega) (by omega)] at hr
 exact ⟨_, _, rfl, (by rw [← hr]; exact hw14), hX13⟩

theorem load_spec {w : World} {G : Pin} {p : Nat} {L R B : Value} {mm : PM} {q : PSt} (hP : Pins G w) (hpk : Pk 57 3 G w p L R B mm q) (hok : PoolOk q) {x : Value} {fs : List Nd} (hx : RSl eNode G x fs) (hf : FormOk fs) (hl : q.ns.length + fs.length ≤ 1048576) :
  Calls Tryz.prog 93 [(.pointer (some ⟨p, 0, none⟩)), (.agg [x].toArray)].toArray w fun e w' => ∃ (u : Value) (ats : List Int) (L' R' B' : Value) (q' : PSt) (G' : Pin), e = .returned u ∧ Pk 57 3 G' w' p L' R' B' mm q' ∧ PoolOk q' ∧ PX q q' ∧ PLo w p L R B mm L' R' B' ∧ Ext (inP p L R B mm) G w G' w' ∧ Own eInt 3 G' w' w.heap.size u ats ∧ NP p L' R' B' mm u.ownBlock ∧ LdOk fs q q' fs.length ats := by
 refine s_enter (n := 34) Tryz.func93 Tryz.ntmps93 rfl rfl ?_
 have hX0 : Ext (inP p L R B mm) G w G w := Ext.refl hP
 have hpin : PIn w (inP p L R B mm) p L R B mm := PIn.self
 have hml1 : (q.ns.map Nd.l).length = q.ns.length ∧ (q.ns.map Nd.r).length = q.ns.length := ⟨List.length_map .., List.length_map ..⟩
 have hml2 : q.bs.length = q.ns.length ∧ q.ns.length ≤ 1048576 := ⟨hok.ar.ok.len, hok.ar.ok.lim⟩
 refine s_seq (c_reg ?_)
 refine q1 rfl rfl rfl (o_box [x] (v := (.agg [x].toArray)) rfl rfl hX0.pins (fun b3 w4 hk5 hb6 hp7 hl8 => ?_))
 have hX9 := hX0.step hp7 hl8
 have hpk10 := hpk.below hl8 hp7
 have ha15 := hpk.new (x := (some b3)) (fun k hk => by rw [(congrArg some hk5)] at hk; cases hk; exact Nat.le_refl _)
 have hlo16 : w.heap.size ≤ b3 := by have := hX0.size; omega
 obtain ⟨G17, hle18, hX19, hbp20, hf21⟩ := hb6.shut hX9 hlo16
 have hpk22 := hpk10.more hle18 hf21 ha15
 refine qd rfl rfl rfl (r_assign (v := (.slice none 0 0)) rfl) (qe (s_then (s_seq (c_reg ?_))))
 refine qd rfl rfl rfl (r_fldp (k := 0) rfl Tryz.underlying28 rfl nz26 rfl) (qd rfl rfl rfl (r_ldp1 (u := x) ag26 rfl (hX19.pins _ _ _ (hbp20 0 _ rfl))) (qd rfl rfl rfl (run_len Tryz.underlying26 (v := x) rfl hx) (q1 rfl rfl rfl (o_make0 (E := eInt) Tryz.underlying57 mk3 rfl rfl hX19.pins (by omega) (by omega) (by omega) (fun u23 w24 ho25 hp26 hl27 hk28 => ?_)))))
 have hX29 := hX19.step hp26 hl27
 have hpk30 := hpk22.below hl27 hp26
 have ha35 := hpk22.new (x := u23.ownBlock) (fun k hk => by rw [hk28] at hk; cases hk; exact Nat.le_refl _)
 have ho36 : Own eInt 3 G17 w24 w.heap.size u23 ([]) := ho25.weaken hX19.size
 refine qd rfl rfl rfl (r_assign (v := u23) rfl) (qe (s_then (s_seq (s_seq (c_reg ?_)))))
 refine qd rfl rfl rfl (r_fldp (k := 0) rfl Tryz.underlying28 rfl nz26 rfl) (qd rfl rfl rfl (r_ldp1 (u := x) ag26 rfl (hX29.pins _ _ _ (hbp20 0 _ rfl))) (qd rfl rfl rfl (run_len Tryz.underlying26 (v := x) rfl hx) (qd rfl rfl rfl (r_move (v := (.int .i64 0)) rfl) (qe (s_then ?_)))))
 refine s_blk (s_loop (fun (k : Nat) (en : Nat → Value) (W : World) => ∃ (env1 : Nat → Value) (k4 : Nat) (at_ : Value) (ats : List Int) (L37 : Value) (R38 : Value) (B39 : Value) (q40 : PSt) (GL1 : Pin), en = (upd (upd (upd (upd (upd (upd env1 0 (.pointer (some ⟨p, 0, none⟩))) 4 (.slice none 0 0)) 5 at_) 13 x) 14 (.int .i64 (fs.length : Int))) 15 (.int .i64 (k4 : Int))) ∧ k = fs.length - k4 ∧ Ext (inP p L R B mm) G w GL1 W ∧ Pin.le G17 GL1 ∧ (k4 ≤ fs.length) ∧ (LdOk fs q q40 k4 ats) ∧ (Own eInt 3 GL1 W w.heap.size at_ (ats)) ∧ (Pk 57 3 GL1 W p L37 R38 B39 mm q40) ∧ (PIn w ((inP p L R B mm)) p L37 R38 B39 mm) ∧ (PoolOk q40) ∧ (PX q q40) ∧ (NP p L37 R38 B39 mm at_.ownBlock)) _ ⟨_, 0, u23, [], L, R, B, q, G17, (packS (x := 15) (packS (x := 14) (packS (x := 13) (packS (x := 5) (packS (x := 4) (pack1 (x := 0) rfl) rfl) rfl) rfl) rfl) rfl), rfl, hX29, Pin.le_refl _, Nat.zero_le _, LdOk.start, ho36, hpk30, hpin, hok, (PX.refl _), ha35⟩ ?_)
 rintro k41 _ w42 ⟨env1, k4, at_, ats, L37, R38, B39, q40, GL1, rfl, hk43, hX44, hlek41, hk, hld, hw45, hpk46, hpin47, hok48, hpx49, hnp50⟩
 have hql51 := hpx49.len
 have hml52 : (q40.ns.map Nd.l).length = q40.ns.length ∧ (q40.ns.map Nd.r).length = q40.ns.length := ⟨List.length_map .., List.length_map ..⟩
 have hml53 : q40.bs.length = q40.ns.length ∧ q40.ns.length ≤ 1048576 := ⟨hok48.ar.ok.len, hok48.ar.ok.lim⟩
 have hal := hld.len
 have hah := hld.hi
 have hfl := hf.len
 refine s_seq (c_reg ?_)
 refine qd rfl rfl rfl (r_lss rfl rfl) (qe (s_then (s_seq ?_)))
 refine c_ifd (p := ((k4 : Int) : Int) < (fs.length : Int)) rfl rfl (fun h54 => ?_) (fun h54 => ?_)
 have oo := optsAt hf.opts (show k4 < fs.length by omega)
 have hfe := hf.lens k4 (by omega)
 refine wp_skip (s_then (s_seq ?_))
 refine s_blk (s_seq (c_reg ?_))
 refine qd rfl rfl rfl (run_idx Tryz.underlying26 sz68 (v := x) rfl rfl hx (by omega) (by omega)) ?_
 obtain ⟨u55, u56, hr57, hr58, hl59⟩ := nm_node (hx.at (z := (k4 : Int)) (by omega) (by omega)) (j := k4) rfl
 have hm60 := hr57.max
 have hm61 := hr58.max
 refine qd rfl rfl rfl (hl59 ag68 sz68 rfl (Pins.of_le hX44.pins (Pin.le_trans hle18 hlek41))) (q1 rfl rfl rfl (o_alloc [(.slice none 0 0), (.slice none 0 0)] zr68 rfl hX44.pins (fun b62 w63 hk64 hb65 hp66 hl67 => ?_)))
 have hX68 := hX44.step hp66 hl67
 have ho69 := hw45.below hl67
 have hpk70 := hpk46.below hl67 hp66
 have ha71 : Apart (some b62) at_.ownBlock := new_ne_own (congrArg some hk64) hw45.lt
 have ha76 := hpk46.new (x := (some b62)) (fun k hk => by rw [(congrArg some hk64)] at hk; cases hk; exact Nat.le_refl _)
 have hlo77 : w.heap.size ≤ b62 := by have := hX44.size; omega
 refine q0 rfl rfl rfl (o_stp (cs' := [u55, u56]) (us := [u55, u56]) (v := (.agg [u55, u56].toArray)) sz68 rfl rfl rfl (ones2 hr57.one hr58.one) hX68.pins hb65 (Nat.le_of_ble_eq_true rfl) rfl (fun w78 hb79 hp80 hg81 hz82 => ?_))
 have hX83 := hX68.write hp80 hg81 ((lo_box hlo77))
 have ho84 := ho69.keptA hg81 ha71.symm
 have hpk85 := hpk70.kept hg81 hp80 ha76
 obtain ⟨G86, hle87, hX88, hbp89, hf90⟩ := hb79.shut hX83 hlo77
 have ho91 := ho84.moreA hle87 hf90 ha71.symm
 have hpk92 := hpk85.more hle87 hf90 ha76
 refine qe (s_then ?_)
 refine c_draw (S := fun wz => Pins G86 wz) (last := 14) (by kernel_rfl) rfl ?_
 have hl93 : Below w78.heap.size w78 w78.drew := (Below.refl _ _).drew
 have hp94 := hX88.pins.below hl93
 have hX95 := hX88.step hp94 hl93
 have ho96 := ho91.below hl93
 have hpk97 := hpk92.below hl93 hp94
 refine dr_take (i := 0) rfl rfl rfl (want_none rfl _) (by kernel_rfl) (fun _ _ => r_move (v := at_) rfl) hX95.pins (dr_take (i := 1) rfl rfl rfl (want_none rfl _) (by kernel_rfl) (fun _ _ => r_move (v := (.pointer (some ⟨p, 0, none⟩))) rfl) hX95.pins (dr_take (i := 2) rfl rfl rfl (want_none rfl _) (by kernel_rfl) (fun _ _ => r_fldp (k := 0) rfl Tryz.underlying68 rfl nz57 rfl) hX95.pins (dr_take (i := 3) rfl rfl rfl (want_none rfl _) (by kernel_rfl) (fun _ hS => r_ldp1 (u := u55) ag57 rfl (hS _ _ _ (hbp89 0 _ rfl))) hX95.pins (dr_take (i := 4) rfl rfl rfl (want_none rfl _) (by kernel_rfl) (fun _ _ => r_move (v := at_) rfl) hX95.pins (dr_take (i := 6) rfl rfl rfl (want_none rfl _) (by kernel_rfl) (fun _ _ => r_fldp (k := 1) rfl Tryz.underlying68 rfl nz57 rfl) hX95.pins (dr_take (i := 7) rfl rfl rfl (want_none rfl _) (by kernel_rfl) (fun _ hS => r_ldp1 (u := u56) ag57 rfl (hS _ _ _ (hbp89 1 _ rfl))) hX95.pins (dr_take (i := 8) rfl rfl rfl (want_none rfl _) (by kernel_rfl) (fun _ _ => r_move (v := at_) rfl) hX95.pins (dr_one (i := 5) (by kernel_rfl) (drOp1 (i := 5) rfl rfl rfl (want_none rfl _) (o_call (vs := [u55, at_]) Tryz.func127 nm127 rfl rfl rfl ?_))))))))))
 refine Calls.mono (renamed_spec (Gadd.pins hX95.pins at_) ((hr57.mono (Pin.le_trans (Pin.le_trans hle18 hlek41) hle87)).mono (Gadd.le _ _ _)) ho96.read (by omega) (fun i hi => by have h7 := oo.1 _ (getD_mem (d := (0 : Int)) hi); omega)) ?_
 rintro _ w100 ⟨u98, G99, rfl, ho101, hx102⟩
 refine ⟨_, rfl, ?_⟩
 have hx103 := deep_back hX95.pins hx102
 have ho104 := ho101.anti flat_int (Pin.le_trans (Gadd.le G86 w78.drew at_) hx102.le)
 have hX105 := hX95.step hx103.pins hx103.below
 have ho106 := ho96.below hx103.below
 have hpk107 := hpk97.below hx103.below hx103.pins
 have ha108 : Apart u98.ownBlock at_.ownBlock := made_ne_own ho104.lt ho96.lt
 have ha109 := hpk97.new (x := u98.ownBlock) (fun k hk => (ho104.lt k hk).1)
 have ho110 : Own eInt 3 G86 w100 w.heap.size u98 (atL ats ((fs.getD k4 default).l)) := ho104.weaken hX95.size
 have hm111 : (atL ats ((fs.getD k4 default).l)).length = ((fs.getD k4 default).l).length := at_length
 refine ⟨fun _ => hX105.pins, ?_⟩
 refine dr_one (i := 9) (by kernel_rfl) (drOp1 (i := 9) rfl rfl rfl (want_none rfl _) (o_call (vs := [u56, at_]) Tryz.func127 nm127 rfl rfl rfl ?_))
 refine Calls.mono (renamed_spec (Gadd.pins hX105.pins at_) ((hr58.mono (Pin.le_trans (Pin.le_trans hle18 hlek41) hle87)).mono (Gadd.le _ _ _)) ho106.read (by omega) (fun i hi => by have h7 := oo.2 _ (getD_mem (d := (0 : Int)) hi); omega)) ?_
 rintro _ w114 ⟨u112, G113, rfl, ho115, hx116⟩
 refine ⟨_, rfl, ?_⟩
 have hx117 := deep_back hX105.pins hx116
 have ho118 := ho115.anti flat_int (Pin.le_trans (Gadd.le G86 w100 at_) hx116.le)
 have hX119 := hX105.step hx117.pins hx117.below
 have ho120 := ho106.below hx117.below
 have ho121 := ho110.below hx117.below
 have hpk122 := hpk107.below hx117.below hx117.pins
 have ha123 : Apart u112.ownBlock at_.ownBlock := made_ne_own ho118.lt ho106.lt
 have ha124 : Apart u112.ownBlock u98.ownBlock := made_ne_own ho118.lt ho110.lt
 have ha125 := hpk107.new (x := u112.ownBlock) (fun k hk => (ho118.lt k hk).1)
 have ho126 : Own eInt 3 G86 w114 w.heap.size u112 (atL ats ((fs.getD k4 default).r)) := ho118.weaken hX105.size
 have hm127 : (atL ats ((fs.getD k4 default).r)).length = ((fs.getD k4 default).r).length := at_length
 refine ⟨fun _ => hX119.pins, ?_⟩
 obtain ⟨G128, hle131, hX130, hr129, hf132⟩ := ho121.sealed hX119
 have ho133 := ho120.moreO hle131 hf132 ha108.symm
 have ho134 := ho126.moreO hle131 hf132 ha124
 have hpk135 := hpk122.moreO hle131 hf132 ha109
 obtain ⟨G136, hle139, hX138, hr137, hf140⟩ := ho134.sealed hX130
 have ho141 := ho133.moreO hle139 hf140 ha123.symm
 have hpk142 := hpk135.moreO hle139 hf140 ha125
 refine dr_one (i := 10) (by kernel_rfl) (drOp1 (i := 10) rfl rfl rfl (want_none rfl _) (o_call (vs := [(.pointer (some ⟨p, 0, none⟩)), u98, u112]) Tryz.func102 nm102 rfl rfl rfl ?_))
 refine Calls.mono (node_spec hX138.pins hpk142 hok48 (hr129.mono hle139) hr137 (by omega) ⟨by rw [at_length]; omega, by rw [at_length]; omega⟩ (hld.opt oo.1) (hld.opt oo.2)) ?_
 rintro _ w153 ⟨z143, L148, R149, B150, q151, G152, rfl, hpk154, hok155, hpx156, hlo157, hx158, hpl144, hpd145, hqn146, hcm147⟩
 refine ⟨_, rfl, ?_⟩
 have hX159 := hX138.trans hx158 hpin47
 have ho160 := ho141.extS hx158 hnp50
 have hnp161 := NP.call hnp50 hlo157 (own_lt ho141)
 have hpin162 := PIn.call hpin47 hlo157 hX138.size
 have hql163 := hpx156.len
 have hml164 : (q151.ns.map Nd.l).length = q151.ns.length ∧ (q151.ns.map Nd.r).length = q151.ns.length := ⟨List.length_map .., List.length_map ..⟩
 have hml165 : q151.bs.length = q151.ns.length ∧ q151.ns.length ≤ 1048576 := ⟨hok155.ar.ok.len, hok155.ar.ok.lim⟩
 refine ⟨fun _ => (Pins.of_le hX159.pins (Pin.le_trans (Pin.le_trans hle131 hle139) hx158.le)), ?_⟩
 refine dr_one (i := 11) (by kernel_rfl) (drOp1 (i := 11) rfl rfl rfl (want_none rfl _) (o_buildF (E := eInt) (e := 3) [(.int .i64 z143)] [z143] Tryz.underlying57 sz3 zr3 (by exact reps1 (by rfl)) (ones1 (by rfl)) rfl rfl rfl rfl (by decide) hX159.pins (fun u166 w167 ho168 hp169 hl170 hk171 => ?_)))
 have hX172 := hX159.step hp169 hl170
 have ho173 := ho160.below hl170
 have hpk174 := hpk154.below hl170 hp169
 have ho181 : Own eInt 3 G152 w167 w.heap.size u166 ([z143]) := ho168.weaken hX159.size
 refine ⟨fun _ => (Pins.of_le hX172.pins (Pin.le_trans (Pin.le_trans hle131 hle139) hx158.le)), ?_⟩
 refine dr_one (i := 12) (by kernel_rfl) (drOp1 (i := 12) rfl rfl rfl (want_none rfl _) (o_append (E := eInt) (v := at_) (u := u166) 8 Tryz.underlying57 ap3 (by decide) rfl rfl hX172.pins ho173 ho181.src (by first | omega | (rw [List.nil_append]; omega) | (rw [List.length_nil]; omega) | (rw [List.length_append]; omega) | (simp; done) | (simp; omega) | (simp only [List.length_append, List.length_cons, List.length_nil]; omega)) (by first | omega | (rw [List.nil_append]; omega) | (rw [List.length_nil]; omega) | (rw [List.length_append]; omega) | (simp; done) | (simp; omega) | (simp only [List.length_append, List.length_cons, List.length_nil]; omega)) (hX172.size) (fun u182 w183 ho184 hp185 hg186 hw187 => ?_)))
 have hX188 := hX172.write hp185 hg186 ((lo_own ho173))
 have hpk190 := hpk174.kept hg186 hp185 hnp161
 have hnp192 := np_app hnp161 hpk174 hw187
 have hm193 : (ats ++ ([z143])).length = ats.length + 1 := List.length_append
 refine ⟨fun _ => (Pins.of_le hX188.pins (Pin.le_trans (Pin.le_trans hle131 hle139) hx158.le)), ?_⟩
 refine dr_take (i := 13) rfl rfl rfl (want_none rfl _) (by kernel_rfl) (fun _ _ => r_assign (v := u182) rfl) (Pins.of_le hX188.pins (Pin.le_trans (Pin.le_trans hle131 hle139) hx158.le)) (dr_end (by kernel_rfl) (s_blkN (s_then (c_reg ?_))))
 refine qd rfl rfl rfl (r_add rfl rfl (by omega)) (qd rfl rfl rfl (r_move (v := (.int .i64 ((k4 : Int) + 1))) rfl) (qe (s_lopN (⟨_, ?_, _, rfl, _, k4 + 1, u182, ats ++ ([z143]), L148, R149, B150, q151, G152, (packS (x := 15) (packS (x := 14) (packS (x := 13) (packS (x := 5) (packS (x := 4) (pack1 (x := 0) rfl) rfl) rfl) rfl) rfl) rfl), rfl, hX188, (Pin.le_trans (Pin.le_trans (Pin.le_trans (Pin.le_trans hlek41 hle87) hle131) hle139) hx158.le), (by omega), (hld.step hf (by omega) hok48 hok155 hpx156 hpl144 hpd145 hqn146), ho184, hpk190, hpin162, hok155, (PX.trans hpx49 hpx156), hnp192⟩))))
 omega
 refine wp_exit (s_thenE (s_lopE (s_blkE (s_then (s_seq (c_reg ?_))))))
 refine qd rfl rfl rfl (r_move (v := at_) rfl) (qd rfl rfl rfl (r_assign (v := at_) rfl) (qe (s_then ?_)))
 refine wp_ret (s_ret (c_ret1 (v := at_) rfl rfl rfl ?_))
 have hkf : k4 = fs.length := by omega
 rw [hkf] at hld
 exact ⟨at_, ats, L37, R38, B39, q40, GL1, rfl, hpk46, hok48, hpx49, PIn.lo hpin47 rfl, hX44, hw45, hnp50, hld⟩

theorem root_spec {w : World} {G : Pin} {p : Nat} {L R B : Value} {mm : PM} {q : PSt} (hP : Pins G w) (hpk : Pk 57 3 G w p L R B mm q) (hok : PoolOk q) {x : Value} {fs : List Nd} (hx : RSl eNode G x fs) (hf : FormOk fs) (hl : q.ns.length + fs.length ≤ 1048576) (hf1 : 1 ≤ fs.length) :
  Calls Tryz.prog 49 [(.pointer (some ⟨p, 0, none⟩)), (.agg [x].toArray)].toArray w fun e w' => ∃ (z : Int) (L' R' B' : Value) (q' : PSt) (G' : Pin), e = .returned (.int .i64 z) ∧ Pk 57 3 G' w' p L' R' B' mm q' ∧ PoolOk q' ∧ PX q q' ∧ PLo w p L R B mm L' R' B' ∧ Ext (inP p L R B mm) G w G' w' ∧ PlaceOk q' z ∧ pd q' z = gOf fs ∧ q'.ns.length ≤ q.ns.length + fs.length := by
 refine s_enter (n := 15) Tryz.func49 Tryz.ntmps49 rfl rfl ?_
 have hX0 : Ext (inP p L R B mm) G w G w := Ext.refl hP
 have hpin : PIn w (inP p L R B mm) p L R B mm := PIn.self
 have hml1 : (q.ns.map Nd.l).length = q.ns.length ∧ (q.ns.map Nd.r).length = q.ns.length := ⟨List.length_map .., List.length_map ..⟩
 have hml2 : q.bs.length = q.ns.length ∧ q.ns.length ≤ 1048576 := ⟨hok.ar.ok.len, hok.ar.ok.lim⟩
 have hfl := hf.len
 refine s_seq (c_reg ?_)
 refine q1 rfl rfl rfl (o_box [x] (v := (.agg [x].toArray)) rfl rfl hX0.pins (fun b3 w4 hk5 hb6 hp7 hl8 => ?_))
 have hX9 := hX0.step hp7 hl8
 have hpk10 := hpk.below hl8 hp7
 have ha15 := hpk.new (x := (some b3)) (fun k hk => by rw [(congrArg some hk5)] at hk; cases hk; exact Nat.le_refl _)
 have hlo16 : w.heap.size ≤ b3 := by have := hX0.size; omega
 obtain ⟨G17, hle18, hX19, hbp20, hf21⟩ := hb6.shut hX9 hlo16
 have hpk22 := hpk10.more hle18 hf21 ha15
 refine qd rfl rfl rfl (r_assign (v := (.int .i64 0)) rfl) (qe (s_then (s_seq (c_reg ?_))))
 refine qd rfl rfl rfl (r_move (v := (.pointer (some ⟨p, 0, none⟩))) rfl) (qd rfl rfl rfl (r_ldpA (cs := [x]) ag28 sz28 rfl (fun j u hj => hX19.pins _ _ _ (hbp20 _ _ (by simpa using hj)))) (q1 rfl rfl rfl (o_call (vs := [(.pointer (some ⟨p, 0, none⟩)), (.agg [x].toArray)]) Tryz.func93 nm93 rfl rfl rfl ?_)))
 refine Calls.mono (load_spec hX19.pins hpk22 hok (hx.mono hle18) hf hl) ?_
 rintro _ w29 ⟨u23, ats, L24, R25, B26, q27, G28, rfl, hpk31, hok32, hpx33, hlo34, hx35, ho30, hnp37, hld36⟩
 refine ⟨_, rfl, ?_⟩
 have hX38 := hX19.trans hx35 hpin
 have hpin39 := PIn.call hpin hlo34 hX19.size
 have hql40 := hpx33.len
 have hml41 : (q27.ns.map Nd.l).length = q27.ns.length ∧ (q27.ns.map Nd.r).length = q27.ns.length := ⟨List.length_map .., List.length_map ..⟩
 have hml42 : q27.bs.length = q27.ns.length ∧ q27.ns.length ≤ 1048576 := ⟨hok32.ar.ok.len, hok32.ar.ok.lim⟩
 have ho43 := ho30.weaken hX19.size
 have hll44 := hld36.len
 refine qd rfl rfl rfl (r_assign (v := u23) rfl) (qe (s_then (s_seq (c_reg ?_))))
 refine qd rfl rfl rfl (r_move (v := u23) rfl) (qd rfl rfl rfl (r_move (v := u23) rfl) (qd rfl rfl rfl (run_len Tryz.underlying57 (v := u23) rfl ho43.read) (qd rfl rfl rfl (r_sub rfl rfl (by omega)) (qd rfl rfl rfl (run_idx Tryz.underlying57 sz3 (v := u23) rfl rfl ho43.read (by omega) (by omega)) (qd rfl rfl rfl (run_load_int (r := ats.getD ((ats.length : Int) - 1).toNat 0) rfl ag3 (z := ((ats.length : Int) - 1)) rfl ho43.read (Gadd.pins hX38.pins u23) (by omega) (by omega)) (qd rfl rfl rfl (r_assign (v := (.int .i64 (ats.getD ((ats.length : Int) - 1).toNat 0))) rfl) (qe (s_then ?_))))))))
 refine wp_ret (s_ret (c_ret1 (v := (.int .i64 (ats.getD ((ats.length : Int) - 1).toNat 0))) rfl rfl rfl ?_))
 have hrt := hld36.root hf1
 rw [show fs.length - 1 = ((ats.length : Int) - 1).toNat by omega] at hrt
 exact ⟨_, L24, R25, B26, q27, G28, rfl, hpk31, hok32, hpx33, PIn.lo hpin39 rfl, hX38, hrt.1, hrt.2, hld36.hi⟩

def GeP (m : Nat) (p : Nat) (L R B : Value) (mm : PM) : Prop := ∀ {w : World} {G : Pin} {q : PSt} {a b : Int} (_ : Pins G w) (_ : Pk 57 3 G w p L R B mm q) (_ : PoolOk q) (_ : PlaceOk q a) (_ : PlaceOk q b), a.toNat + b.toNat < m →
  Calls Tryz.prog 63 [(.pointer (some ⟨p, 0, none⟩)), (.int .i64 a), (.int .i64 b)].toArray w fun e w' => ∃ (q' : PSt) (G' : Pin), e = .returned (.bool (geB q.ns a b)) ∧ Pk 57 3 G' w' p L R B mm q' ∧ PoolOk q' ∧ PX q q' ∧ (q'.ns = q.ns ∧ q'.bs = q.bs) ∧ Ext (inO (some mm.o)) G w G' w'

theorem ge_step {p : Nat} {L R B : Value} {mm : PM} {m : Nat} {w : World} {G : Pin} {q : PSt} {a b : Int} (hP : Pins G w) (hpk : Pk 57 3 G w p L R B mm q) (hok : PoolOk q) (ha : PlaceOk q a) (hb : PlaceOk q b) (ih : GeP m p L R B mm) (hm : a.toNat + b.toNat < m + 1) :
  Calls Tryz.prog 63 [(.pointer (some ⟨p, 0, none⟩)), (.int .i64 a), (.int .i64 b)].toArray w fun e w' => ∃ (q' : PSt) (G' : Pin), e = .returned (.bool (geB q.ns a b)) ∧ Pk 57 3 G' w' p L R B mm q' ∧ PoolOk q' ∧ PX q q' ∧ (q'.ns = q.ns ∧ q'.bs = q.bs) ∧ Ext (inO (some mm.o)) G w G' w' := by
 refine s_enter (n := 74) Tryz.func63 Tryz.ntmps63 rfl rfl ?_
 have hX0 : Ext (inO (some mm.o)) G w G w := Ext.refl hP
 have hpin : PIn w (inP p L R B mm) p L R B mm := PIn.self
 have hml1 : (q.ns.map Nd.l).length = q.ns.length ∧ (q.ns.map Nd.r).length = q.ns.length := ⟨List.length_map .., List.length_map ..⟩
 have hml2 : q.bs.length = q.ns.length ∧ q.ns.length ≤ 1048576 := ⟨hok.ar.ok.len, hok.ar.ok.lim⟩
 have ha0 := ha.1
 have ha1 := ha.2
 have hb0 := hb.1
 have hb1 := hb.2
 refine s_seq (c_reg ?_)
 refine qd rfl rfl rfl (r_assign (v := (.bool false)) rfl) (qe (s_then (s_seq (s_seq (c_reg ?_)))))
 refine qd rfl rfl rfl (r_move (v := (.int .i64 a)) rfl) (qd rfl rfl rfl (r_move (v := (.int .i64 b)) rfl) (qd rfl rfl rfl (r_eql rfl rfl) (qe (s_then ?_))))
 refine c_ifd (p := (a : Int) = b) rfl rfl (fun h3 => ?_) (fun h3 => ?_)
 refine s_seq (c_reg ?_)
 refine qd rfl rfl rfl (r_assign (v := (.bool true)) rfl) (qe (s_then ?_))
 exact wp_ret (s_ret (c_ret1 (v := (.bool true)) rfl rfl rfl (⟨q, _, congrArg (fun z => Ending.returned (Value.bool z)) (by rw [h3]; exact geB_refl.symm), hpk, hok, (PX.refl _), ⟨rfl, rfl⟩, hX0⟩)))
 refine wp_skip (s_then (s_seq (c_reg ?_)))
 refine qd rfl rfl rfl (r_move (v := (.int .i64 a)) rfl) (qd rfl rfl rfl (r_move (v := (.int .i64 b)) rfl) (qd rfl rfl rfl (r_buildA (m := 1) [(.int .i64 0), (.int .i64 0)] [(.int .i64 a), (.int .i64 b)] [(0, (.int .i64 a), [(.int .i64 a)]), (1, (.int .i64 b), [(.int .i64 b)])] Tryz.underlying118 zr118 rfl sz3 rfl (List.forall_mem_cons.2 ⟨rfl, (List.forall_mem_cons.2 ⟨rfl, (fun _ h => by cases h)⟩)⟩) rfl) (q1 rfl rfl rfl (o_alloc [(.int .i64 0), (.int .i64 0)] zr118 rfl hX0.pins (fun b4 w5 hk6 hb7 hp8 hl9 => ?_)))))
 have hX10 := hX0.step hp8 hl9
 have hpk11 := hpk.below hl9 hp8
 have ha16 := hpk.new (x := (some b4)) (fun k hk => by rw [(congrArg some hk6)] at hk; cases hk; exact Nat.le_refl _)
 have hlo17 : w.heap.size ≤ b4 := by have := hX0.size; omega
 refine q0 rfl rfl rfl (o_stp (cs' := [(.int .i64 a), (.int .i64 b)]) (us := [(.int .i64 a), (.int .i64 b)]) (v := (.agg [(.int .i64 a), (.int .i64 b)].toArray)) sz118 rfl rfl rfl (ones2 (by rfl) (by rfl)) hX10.pins hb7 (Nat.le_of_ble_eq_true rfl) rfl (fun w18 hb19 hp20 hg21 hz22 => ?_))
 have hX23 := hX10.write hp20 hg21 ((lo_box hlo17))
 have hpk24 := hpk11.kept hg21 hp20 ha16
 obtain ⟨G25, hle26, hX27, hbp28, hf29⟩ := hb19.shut hX23 hlo17
 have hpk30 := hpk24.more hle26 hf29 ha16
 refine qe (s_then (s_seq (s_seq ?_)))
 refine c_draw (S := fun wz => BxR wz p [L, R, B, (.map (some mm.f)), (.map (some mm.o)), (.map (some mm.c)), (.map (some mm.s)), (.map (some mm.n))] ∧ Pins G25 wz) (last := 11) (by kernel_rfl) rfl ?_
 have hl31 : Below w18.heap.size w18 w18.drew := (Below.refl _ _).drew
 have hp32 := hX27.pins.below hl31
 have hX33 := hX27.step hp32 hl31
 have hpk34 := hpk30.below hl31 hp32
 refine dr_take (i := 0) rfl rfl rfl (want_none rfl _) (by kernel_rfl) (fun _ _ => r_move (v := (.pointer (some ⟨p, 0, none⟩))) rfl) ⟨hpk34.bx.reads, hX33.pins⟩ (dr_take (i := 1) rfl rfl rfl (want_none rfl _) (by kernel_rfl) (fun _ _ => r_nil rfl) ⟨hpk34.bx.reads, hX33.pins⟩ (dr_take (i := 2) rfl rfl rfl (want_none rfl _) (by kernel_rfl) (fun _ _ => r_fldp (k := 4) rfl Tryz.underlying117 rfl nz112 rfl) ⟨hpk34.bx.reads, hX33.pins⟩ (dr_take (i := 3) rfl rfl rfl (want_none rfl _) (by kernel_rfl) (fun _ hS => r_ldp1 (u := (.map (some mm.o))) ag112 rfl (hS.1 4 _ rfl)) ⟨hpk34.bx.reads, hX33.pins⟩ (dr_take (i := 4) rfl rfl rfl (want_none rfl _) (by kernel_rfl) (fun _ hS => r_ldpA (cs := [(.int .i64 a), (.int .i64 b)]) ag118 sz118 rfl (fun j u hj => hS.2 _ _ _ (hbp28 _ _ (by simpa using hj)))) ⟨hpk34.bx.reads, hX33.pins⟩ (dr_one (i := 5) (by kernel_rfl) (drOp1 (i := 5) rfl rfl rfl (want_none rfl _) (EO.run (run_lookv_bool (k := ((a, b) : Int × Int)) (key_pair Tryz.underlying118 Tryz.underlying3 sz3) Tryz.underlying112 zr4 hpk34.fo rfl rfl) ?_)))))))
 refine ⟨fun _ => ⟨hpk34.bx.reads, hX33.pins⟩, ?_⟩
 refine dr_take (i := 6) rfl rfl rfl (want_none rfl _) (by kernel_rfl) (fun _ _ => r_move (v := (.tuple #[(.bool ((Go.GL.look q.om ((a, b) : Int × Int)).getD false)), (.bool ((Go.GL.look q.om ((a, b) : Int × Int)).isSome))])) rfl) ⟨hpk34.bx.reads, hX33.pins⟩ (dr_take (i := 7) rfl rfl rfl (want_none rfl _) (by kernel_rfl) (fun _ _ => r_extract (v := (.bool ((Go.GL.look q.om ((a, b) : Int × Int)).getD false))) rfl rfl) ⟨hpk34.bx.reads, hX33.pins⟩ (dr_take (i := 8) rfl rfl rfl (want_none rfl _) (by kernel_rfl) (fun _ _ => r_extract (v := (.bool ((Go.GL.look q.om ((a, b) : Int × Int)).isSome))) rfl rfl) ⟨hpk34.bx.reads, hX33.pins⟩ (dr_take (i := 9) rfl rfl rfl (want_none rfl _) (by kernel_rfl) (fun _ _ => r_assign (v := (.bool ((Go.GL.look q.om ((a, b) : Int × Int)).getD false))) rfl) ⟨hpk34.bx.reads, hX33.pins⟩ (dr_take (i := 10) rfl rfl rfl (want_none rfl _) (by kernel_rfl) (fun _ _ => r_assign (v := (.bool ((Go.GL.look q.om ((a, b) : Int × Int)).isSome))) rfl) ⟨hpk34.bx.reads, hX33.pins⟩ (dr_end (by kernel_rfl) (s_then (s_seq (c_reg ?_))))))))
 refine qd rfl rfl rfl (r_move (v := (.bool ((Go.GL.look q.om ((a, b) : Int × Int)).isSome))) rfl) (qe (s_then ?_))
 refine c_if rfl rfl (fun h35 => ?_) (fun h35 => ?_)
 refine s_seq (c_reg ?_)
 refine qd rfl rfl rfl (r_move (v := (.bool ((Go.GL.look q.om ((a, b) : Int × Int)).getD false))) rfl) (qd rfl rfl rfl (r_assign (v := (.bool ((Go.GL.look q.om ((a, b) : Int × Int)).getD false))) rfl) (qe (s_then ?_)))
 refine wp_ret (s_ret (c_ret1 (v := (.bool ((Go.GL.look q.om ((a, b) : Int × Int)).getD false))) rfl rfl rfl ?_))
 obtain ⟨z, hz⟩ := Option.isSome_iff_exists.1 h35
 exact ⟨q, _, congrArg (fun z => Ending.returned (Value.bool z)) (by rw [hz]; exact (hok.ord _ _ _ hz).2.2), hpk34, hok, (PX.refl _), ⟨rfl, rfl⟩, hX33⟩
 refine wp_skip (s_then (s_seq (c_reg ?_)))
 refine qd rfl rfl rfl (r_assign (v := (.bool true)) rfl) (qe (s_then (s_seq (s_seq (c_reg ?_)))))
 refine qd rfl rfl rfl (r_move (v := (.pointer (some ⟨p, 0, none⟩))) rfl) (qd rfl rfl rfl (r_nil rfl) (qd rfl rfl rfl (r_fldp (k := 1) rfl Tryz.underlying117 rfl nz115 rfl) (qd rfl rfl rfl (r_ldp1 (u := R) ag115 rfl (hpk34.bx.cell (o := 1) rfl)) (qd rfl rfl rfl (r_move (v := (.int .i64 a)) rfl) (qd rfl rfl rfl (run_idx Tryz.underlying115 sz57 (v := R) rfl rfl hpk34.rr.read (by omega) (by omega)) ?_)))))
 obtain ⟨u36, hr37, hl38⟩ := nm_sl (hpk34.rr.at (z := a) (by omega) (by omega)) (j := (a).toNat) rfl
 rw [mapr_getD] at hr37
 have hm39 := hr37.max
 refine qd rfl rfl rfl (hl38 ag57 rfl (Gadd.pins hX33.pins R)) (qd rfl rfl rfl (run_len Tryz.underlying57 (v := u36) rfl hr37) (qd rfl rfl rfl (r_move (v := (.int .i64 0)) rfl) (qe (s_then ?_))))
 refine s_blk ?_
 have lx44 : (q.ns.getD (a).toNat default).r = (q.ns.getD (a).toNat default).r := rfl
 refine s_loop (fun (k : Nat) (en : Nat → Value) (W : World) => ∃ (env1 : Nat → Value) (i : Nat) (q43 : PSt) (GLr : Pin), en = (upd (upd (upd (upd (upd (upd (upd (upd (upd env1 0 (.pointer (some ⟨p, 0, none⟩))) 1 (.int .i64 a)) 2 (.int .i64 b)) 6 (.bool false)) 7 (.pointer (some ⟨b4, 0, none⟩))) 10 (.bool true)) 38 u36) 39 (.int .i64 (((q.ns.getD (a).toNat default).r).length : Int))) 40 (.int .i64 (i : Int))) ∧ k = (q.ns.getD (a).toNat default).r.length - i ∧ Ext (inO (some mm.o)) G w GLr W ∧ Pin.le G25 GLr ∧ (i ≤ (q.ns.getD (a).toNat default).r.length) ∧ (∀ x, x < i → geB q.ns b ((q.ns.getD (a).toNat default).r.getD x 0) = false) ∧ (Pk 57 3 GLr W p L R B mm q43) ∧ (PoolOk q43) ∧ (PX q q43) ∧ (q43.ns = q.ns ∧ q43.bs = q.bs)) _ ⟨_, 0, q, G25, (packS (x := 40) (packS (x := 39) (packS (x := 38) (packS (x := 10) (packS (x := 7) (packS (x := 6) (packS (x := 2) (packS (x := 1) (pack1 (x := 0) rfl) rfl) rfl) rfl) rfl) rfl) rfl) rfl) rfl), rfl, hX33, Pin.le_refl _, Nat.zero_le _, (fun q hq => absurd hq (Nat.not_lt_zero q)), hpk34, hok, (PX.refl _), ⟨rfl, rfl⟩⟩ ?_
 rintro k45 _ w46 ⟨env1, i, q43, GLr, rfl, hk47, hX48, hlek45, hji, hpr, hpk49, hok50, hpx51, hqn52⟩
 have hql53 := hpx51.len
 have hml54 : (q43.ns.map Nd.l).length = q43.ns.length ∧ (q43.ns.map Nd.r).length = q43.ns.length := ⟨List.length_map .., List.length_map ..⟩
 have hml55 : q43.bs.length = q43.ns.length ∧ q43.ns.length ≤ 1048576 := ⟨hok50.ar.ok.len, hok50.ar.ok.lim⟩
 have hlnr := congrArg List.length lx44
 refine s_seq (c_reg ?_)
 refine qd rfl rfl rfl (r_lss rfl rfl) (qe (s_then (s_seq ?_)))
 refine c_ifd (p := ((i : Int) : Int) < (((q.ns.getD (a).toNat default).r).length : Int)) rfl rfl (fun h56 => ?_) (fun h56 => ?_)
 have hki := (optsAt hok.ar.opts (show (a).toNat < q.ns.length by omega)).2 _ (getD_mem (d := (0 : Int)) (show i < (q.ns.getD (a).toNat default).r.length by omega))
 rw [← lx44] at hki
 refine wp_skip (s_then (s_seq ?_))
 refine s_blk (s_seq (c_reg ?_))
 refine qd rfl rfl rfl (run_idx Tryz.underlying57 sz3 (v := u36) rfl rfl hr37 (by omega) (by omega)) (qd rfl rfl rfl (run_load_int (r := ((q.ns.getD (a).toNat default).r).getD i 0) rfl ag3 (z := (i : Int)) rfl hr37 (Pins.of_le hX48.pins hlek45) (by omega) (by omega)) (qd rfl rfl rfl (r_assign (v := (.int .i64 (((q.ns.getD (a).toNat default).r).getD i 0))) rfl) (qe (s_then (s_seq (c_reg ?_))))))
 refine qd rfl rfl rfl (r_move (v := (.pointer (some ⟨p, 0, none⟩))) rfl) (qd rfl rfl rfl (r_move (v := (.int .i64 b)) rfl) (qd rfl rfl rfl (r_move (v := (.int .i64 (((q.ns.getD (a).toNat default).r).getD i 0))) rfl) (q1 rfl rfl rfl (o_call (vs := [(.pointer (some ⟨p, 0, none⟩)), (.int .i64 b), (.int .i64 (((q.ns.getD (a).toNat default).r).getD i 0))]) Tryz.func63 nm63 rfl rfl rfl ?_))))
 refine Calls.mono (ih hX48.pins hpk49 hok50 ⟨by omega, by omega⟩ ⟨by omega, by omega⟩ (by omega)) ?_
 rintro _ w59 ⟨q57, G58, rfl, hpk60, hok61, hpx62, hqn63, hx64⟩
 refine ⟨_, rfl, ?_⟩
 have hX65 := hX48.trans hx64 (fun i hi => lo_self i hi)
 have hql66 := hpx62.len
 have hml67 : (q57.ns.map Nd.l).length = q57.ns.length ∧ (q57.ns.map Nd.r).length = q57.ns.length := ⟨List.length_map .., List.length_map ..⟩
 have hml68 : q57.bs.length = q57.ns.length ∧ q57.ns.length ≤ 1048576 := ⟨hok61.ar.ok.len, hok61.ar.ok.lim⟩
 have hql69 := congrArg List.length hqn63.1
 refine qe (s_then ?_)
 refine c_if rfl rfl (fun h70 => ?_) (fun h70 => ?_)
 refine s_seq (c_reg ?_)
 refine qd rfl rfl rfl (r_assign (v := (.bool false)) rfl) (qe (s_then ?_))
 refine wp_exit (s_blkO rfl (s_thenE (s_lopE (s_blkE (s_then (s_seq (s_seq (c_reg ?_))))))))
 refine qd rfl rfl rfl (r_move (v := (.bool false)) rfl) (qe (s_then ?_))
 refine c_ifF rfl rfl (wp_skip (s_then (s_seq ?_)))
 refine c_draw (S := fun wz => BxR wz p [L, R, B, (.map (some mm.f)), (.map (some mm.o)), (.map (some mm.c)), (.map (some mm.s)), (.map (some mm.n))] ∧ Pins G58 wz) (last := 6) (by kernel_rfl) rfl ?_
 have hl71 : Below w59.heap.size w59 w59.drew := (Below.refl _ _).drew
 have hp72 := hX65.pins.below hl71
 have hX73 := hX65.step hp72 hl71
 have hpk74 := hpk60.below hl71 hp72
 refine dr_take (i := 0) rfl rfl rfl (want_none rfl _) (by kernel_rfl) (fun _ _ => r_move (v := (.pointer (some ⟨p, 0, none⟩))) rfl) ⟨hpk74.bx.reads, hX73.pins⟩ (dr_take (i := 1) rfl rfl rfl (want_none rfl _) (by kernel_rfl) (fun _ _ => r_nil rfl) ⟨hpk74.bx.reads, hX73.pins⟩ (dr_take (i := 2) rfl rfl rfl (want_none rfl _) (by kernel_rfl) (fun _ _ => r_fldp (k := 4) rfl Tryz.underlying117 rfl nz112 rfl) ⟨hpk74.bx.reads, hX73.pins⟩ (dr_take (i := 3) rfl rfl rfl (want_none rfl _) (by kernel_rfl) (fun _ hS => r_ldp1 (u := (.map (some mm.o))) ag112 rfl (hS.1 4 _ rfl)) ⟨hpk74.bx.reads, hX73.pins⟩ (dr_take (i := 4) rfl rfl rfl (want_none rfl _) (by kernel_rfl) (fun _ hS => r_ldpA (cs := [(.int .i64 a), (.int .i64 b)]) ag118 sz118 rfl (fun j u hj => (Pins.of_le hS.2 (Pin.le_trans hlek45 hx64.le)) _ _ _ (hbp28 _ _ (by simpa using hj)))) ⟨hpk74.bx.reads, hX73.pins⟩ (dr_take (i := 5) rfl rfl rfl (want_none rfl _) (by kernel_rfl) (fun _ _ => r_move (v := (.bool false)) rfl) ⟨hpk74.bx.reads, hX73.pins⟩ (dr_one (i := 6) (by kernel_rfl) (drOp0 (i := 6) rfl rfl rfl (want_none rfl _) (o_mapUpdate (val := (fun v : Bool => Value.bool v)) (k := ((a, b) : Int × Int)) (v := false) (key_pair Tryz.underlying118 Tryz.underlying3 sz3) Tryz.underlying112 rfl rfl rfl hX73.pins hpk74.fo (fun w75 hm76 hp77 hg78 hz79 => ?_)))))))))
 have hX81 := hX73.trans (Ext.one hp77 hg78) (fun i hi => lo_self i hi)
 have hpk80 := hpk74.setO (Ext.one hp77 hg78) hm76
 have hgv : geB q.ns a b = false := geB_no_right hok.ar.opts ha (i := i) (by omega) (by rw [← lx44, ← geB_same hqn52]; exact h70)
 have hok84 := PoolOk.setO hok61 (ha.same (ns_trans hqn52 hqn63)) (hb.same (ns_trans hqn52 hqn63)) (setO_ok (ns_trans hqn52 hqn63) hgv)
 obtain ⟨q82, hq83⟩ : ∃ q, q = ({ q57 with om := putE q57.om ((a, b) : Int × Int) false } : PSt) := ⟨_, rfl⟩
 rw [← hq83] at hpk80 hok84
 have hq83n : q82.ns = q57.ns ∧ q82.bs = q57.bs := by rw [hq83]; exact ⟨rfl, rfl⟩
 have hq83x : PX q57 q82 := by rw [hq83]; exact ⟨Nat.le_refl _, fun _ _ => rfl, fun _ h => h⟩
 have hml85 : (q82.ns.map Nd.l).length = q82.ns.length ∧ (q82.ns.map Nd.r).length = q82.ns.length := ⟨List.length_map .., List.length_map ..⟩
 have hml86 : q82.bs.length = q82.ns.length ∧ q82.ns.length ≤ 1048576 := ⟨hok84.ar.ok.len, hok84.ar.ok.lim⟩
 have hql87 := hq83x.len
 refine ⟨fun h => absurd rfl h, ?_⟩
 refine dr_end (by kernel_rfl) (s_then (s_seq (c_reg ?_)))
 refine qd rfl rfl rfl (r_move (v := (.bool false)) rfl) (qd rfl rfl rfl (r_assign (v := (.bool false)) rfl) (qe (s_then ?_)))
 exact wp_ret (s_ret (c_ret1 (v := (.bool false)) rfl rfl rfl (⟨q82, _, congrArg (fun z => Ending.returned (Value.bool z)) (hgv.symm), hpk80, hok84, (PX.trans (PX.trans hpx51 hpx62) hq83x), (ns_trans (ns_trans hqn52 hqn63) hq83n), hX81⟩)))
 refine wp_skip (s_blkN (s_then (c_reg ?_)))
 refine qd rfl rfl rfl (r_add rfl rfl (by omega)) (qd rfl rfl rfl (r_move (v := (.int .i64 ((i : Int) + 1))) rfl) (qe (s_lopN (⟨_, ?_, _, rfl, _, i + 1, q57, G58, (packS (x := 40) (packS (x := 39) (packS (x := 38) (packS (x := 10) (packS (x := 7) (packS (x := 6) (packS (x := 2) (packS (x := 1) (pack1 (x := 0) rfl) rfl) rfl) rfl) rfl) rfl) rfl) rfl) rfl), rfl, hX65, (Pin.le_trans hlek45 hx64.le), (by omega), (fun x h2 => if h3 : x = i then h3 ▸ (by rw [← lx44, ← geB_same hqn52]; exact h70) else hpr x (by omega)), hpk60, hok61, (PX.trans hpx51 hpx62), (ns_trans hqn52 hqn63)⟩))))
 omega
 refine wp_exit (s_thenE (s_lopE (s_blkE (s_then (s_seq (s_seq (c_reg ?_)))))))
 refine qd rfl rfl rfl (r_move (v := (.bool true)) rfl) (qe (s_then ?_))
 refine c_ifT rfl rfl (s_seq (c_reg ?_))
 refine qd rfl rfl rfl (r_move (v := (.pointer (some ⟨p, 0, none⟩))) rfl) (qd rfl rfl rfl (r_nil rfl) (qd rfl rfl rfl (r_fldp (k := 0) rfl Tryz.underlying117 rfl nz115 rfl) (qd rfl rfl rfl (r_ldp1 (u := L) ag115 rfl (hpk49.bx.cell (o := 0) rfl)) (qd rfl rfl rfl (r_move (v := (.int .i64 b)) rfl) (qd rfl rfl rfl (run_idx Tryz.underlying115 sz57 (v := L) rfl rfl hpk49.ol.read (by omega) (by omega)) ?_)))))
 obtain ⟨u88, hr89, hl90⟩ := nm_sl (hpk49.ol.at (z := b) (by omega) (by omega)) (j := (b).toNat) rfl
 rw [mapl_getD] at hr89
 have hm91 := hr89.max
 refine qd rfl rfl rfl (hl90 ag57 rfl (Gadd.pins hX48.pins L)) (qd rfl rfl rfl (run_len Tryz.underlying57 (v := u88) rfl hr89) (qd rfl rfl rfl (r_move (v := (.int .i64 0)) rfl) (qe (s_then ?_))))
 refine s_blk ?_
 have lx96 : (q43.ns.getD (b).toNat default).l = (q.ns.getD (b).toNat default).l := by rw [hqn52.1]
 refine s_loop (fun (k : Nat) (en : Nat → Value) (W : World) => ∃ (env1 : Nat → Value) (i2 : Nat) (q95 : PSt) (GLl : Pin), en = (upd (upd (upd (upd (upd (upd (upd (upd env1 0 (.pointer (some ⟨p, 0, none⟩))) 1 (.int .i64 a)) 6 (.bool false)) 7 (.pointer (some ⟨b4, 0, none⟩))) 10 (.bool true)) 56 u88) 57 (.int .i64 (((q43.ns.getD (b).toNat default).l).length : Int))) 58 (.int .i64 (i2 : Int))) ∧ k = (q.ns.getD (b).toNat default).l.length - i2 ∧ Ext (inO (some mm.o)) G w GLl W ∧ Pin.le GLr GLl ∧ (i2 ≤ (q.ns.getD (b).toNat default).l.length) ∧ (∀ x, x < i2 → geB q.ns ((q.ns.getD (b).toNat default).l.getD x 0) a = false) ∧ (Pk 57 3 GLl W p L R B mm q95) ∧ (PoolOk q95) ∧ (PX q43 q95) ∧ (q95.ns = q43.ns ∧ q95.bs = q43.bs)) _ ⟨_, 0, q43, GLr, (packS (x := 58) (packS (x := 57) (packS (x := 56) (packS (x := 10) (packS (x := 7) (packS (x := 6) (packS (x := 1) (pack1 (x := 0) rfl) rfl) rfl) rfl) rfl) rfl) rfl) rfl), rfl, hX48, Pin.le_refl _, Nat.zero_le _, (fun q hq => absurd hq (Nat.not_lt_zero q)), hpk49, hok50, (PX.refl _), ⟨rfl, rfl⟩⟩ ?_
 rintro k97 _ w98 ⟨env1, i2, q95, GLl, rfl, hk99, hX100, hlek97, hji2, hpl, hpk101, hok102, hpx103, hqn104⟩
 have hql105 := hpx103.len
 have hml106 : (q95.ns.map Nd.l).length = q95.ns.length ∧ (q95.ns.map Nd.r).length = q95.ns.length := ⟨List.length_map .., List.length_map ..⟩
 have hml107 : q95.bs.length = q95.ns.length ∧ q95.ns.length ≤ 1048576 := ⟨hok102.ar.ok.len, hok102.ar.ok.lim⟩
 have hlnl := congrArg List.length lx96
 refine s_seq (c_reg ?_)
 refine qd rfl rfl rfl (r_lss rfl rfl) (qe (s_then (s_seq ?_)))
 refine c_ifd (p := ((i2 : Int) : Int) < (((q43.ns.getD (b).toNat default).l).length : Int)) rfl rfl (fun h108 => ?_) (fun h108 => ?_)
 have hki := (optsAt hok.ar.opts (show (b).toNat < q.ns.length by omega)).1 _ (getD_mem (d := (0 : Int)) (show i2 < (q.ns.getD (b).toNat default).l.length by omega))
 rw [← lx96] at hki
 refine wp_skip (s_then (s_seq ?_))
 refine s_blk (s_seq (c_reg ?_))
 refine qd rfl rfl rfl (run_idx Tryz.underlying57 sz3 (v := u88) rfl rfl hr89 (by omega) (by omega)) (qd rfl rfl rfl (run_load_int (r := ((q43.ns.getD (b).toNat default).l).getD i2 0) rfl ag3 (z := (i2 : Int)) rfl hr89 (Pins.of_le hX100.pins hlek97) (by omega) (by omega)) (qd rfl rfl rfl (r_assign (v := (.int .i64 (((q43.ns.getD (b).toNat default).l).getD i2 0))) rfl) (qe (s_then (s_seq (c_reg ?_))))))
 refine qd rfl rfl rfl (r_move (v := (.pointer (some ⟨p, 0, none⟩))) rfl) (qd rfl rfl rfl (r_move (v := (.int .i64 (((q43.ns.getD (b).toNat default).l).getD i2 0))) rfl) (qd rfl rfl rfl (r_move (v := (.int .i64 a)) rfl) (q1 rfl rfl rfl (o_call (vs := [(.pointer (some ⟨p, 0, none⟩)), (.int .i64 (((q43.ns.getD (b).toNat default).l).getD i2 0)), (.int .i64 a)]) Tryz.func63 nm63 rfl rfl rfl ?_))))
 refine Calls.mono (ih hX100.pins hpk101 hok102 ⟨by omega, by omega⟩ ⟨by omega, by omega⟩ (by omega)) ?_
 rintro _ w111 ⟨q109, G110, rfl, hpk112, hok113, hpx114, hqn115, hx116⟩
 refine ⟨_, rfl, ?_⟩
 have hX117 := hX100.trans hx116 (fun i hi => lo_self i hi)
 have hql118 := hpx114.len
 have hml119 : (q109.ns.map Nd.l).length = q109.ns.length ∧ (q109.ns.map Nd.r).length = q109.ns.length := ⟨List.length_map .., List.length_map ..⟩
 have hml120 : q109.bs.length = q109.ns.length ∧ q109.ns.length ≤ 1048576 := ⟨hok113.ar.ok.len, hok113.ar.ok.lim⟩
 have hql121 := congrArg List.length hqn115.1
 refine qe (s_then ?_)
 refine c_if rfl rfl (fun h122 => ?_) (fun h122 => ?_)
 refine s_seq (c_reg ?_)
 refine qd rfl rfl rfl (r_assign (v := (.bool false)) rfl) (qe (s_then ?_))
 refine wp_exit (s_blkO rfl (s_thenE (s_lopE (s_blkE (s_then (s_seq ?_))))))
 refine c_draw (S := fun wz => BxR wz p [L, R, B, (.map (some mm.f)), (.map (some mm.o)), (.map (some mm.c)), (.map (some mm.s)), (.map (some mm.n))] ∧ Pins G110 wz) (last := 6) (by kernel_rfl) rfl ?_
 have hl123 : Below w111.heap.size w111 w111.drew := (Below.refl _ _).drew
 have hp124 := hX117.pins.below hl123
 have hX125 := hX117.step hp124 hl123
 have hpk126 := hpk112.below hl123 hp124
 refine dr_take (i := 0) rfl rfl rfl (want_none rfl _) (by kernel_rfl) (fun _ _ => r_move (v := (.pointer (some ⟨p, 0, none⟩))) rfl) ⟨hpk126.bx.reads, hX125.pins⟩ (dr_take (i := 1) rfl rfl rfl (want_none rfl _) (by kernel_rfl) (fun _ _ => r_nil rfl) ⟨hpk126.bx.reads, hX125.pins⟩ (dr_take (i := 2) rfl rfl rfl (want_none rfl _) (by kernel_rfl) (fun _ _ => r_fldp (k := 4) rfl Tryz.underlying117 rfl nz112 rfl) ⟨hpk126.bx.reads, hX125.pins⟩ (dr_take (i := 3) rfl rfl rfl (want_none rfl _) (by kernel_rfl) (fun _ hS => r_ldp1 (u := (.map (some mm.o))) ag112 rfl (hS.1 4 _ rfl)) ⟨hpk126.bx.reads, hX125.pins⟩ (dr_take (i := 4) rfl rfl rfl (want_none rfl _) (by kernel_rfl) (fun _ hS => r_ldpA (cs := [(.int .i64 a), (.int .i64 b)]) ag118 sz118 rfl (fun j u hj => (Pins.of_le hS.2 (Pin.le_trans (Pin.le_trans hlek45 hlek97) hx116.le)) _ _ _ (hbp28 _ _ (by simpa using hj)))) ⟨hpk126.bx.reads, hX125.pins⟩ (dr_take (i := 5) rfl rfl rfl (want_none rfl _) (by kernel_rfl) (fun _ _ => r_move (v := (.bool false)) rfl) ⟨hpk126.bx.reads, hX125.pins⟩ (dr_one (i := 6) (by kernel_rfl) (drOp0 (i := 6) rfl rfl rfl (want_none rfl _) (o_mapUpdate (val := (fun v : Bool => Value.bool v)) (k := ((a, b) : Int × Int)) (v := false) (key_pair Tryz.underlying118 Tryz.underlying3 sz3) Tryz.underlying112 rfl rfl rfl hX125.pins hpk126.fo (fun w127 hm128 hp129 hg130 hz131 => ?_)))))))))
 have hX133 := hX125.trans (Ext.one hp129 hg130) (fun i hi => lo_self i hi)
 have hpk132 := hpk126.setO (Ext.one hp129 hg130) hm128
 have hgv : geB q.ns a b = false := geB_no_left hok.ar.opts hb (i := i2) (by omega) (by rw [← lx96, ← geB_same (ns_trans hqn52 hqn104)]; exact h122)
 have hok136 := PoolOk.setO hok113 (ha.same (ns_trans (ns_trans hqn52 hqn104) hqn115)) (hb.same (ns_trans (ns_trans hqn52 hqn104) hqn115)) (setO_ok (ns_trans (ns_trans hqn52 hqn104) hqn115) hgv)
 obtain ⟨q134, hq135⟩ : ∃ q, q = ({ q109 with om := putE q109.om ((a, b) : Int × Int) false } : PSt) := ⟨_, rfl⟩
 rw [← hq135] at hpk132 hok136
 have hq135n : q134.ns = q109.ns ∧ q134.bs = q109.bs := by rw [hq135]; exact ⟨rfl, rfl⟩
 have hq135x : PX q109 q134 := by rw [hq135]; exact ⟨Nat.le_refl _, fun _ _ => rfl, fun _ h => h⟩
 have hml137 : (q134.ns.map Nd.l).length = q134.ns.length ∧ (q134.ns.map Nd.r).length = q134.ns.length := ⟨List.length_map .., List.length_map ..⟩
 have hml138 : q134.bs.length = q134.ns.length ∧ q134.ns.length ≤ 1048576 := ⟨hok136.ar.ok.len, hok136.ar.ok.lim⟩
 have hql139 := hq135x.len
 refine ⟨fun h => absurd rfl h, ?_⟩
 refine dr_end (by kernel_rfl) (s_then (s_seq (c_reg ?_)))
 refine qd rfl rfl rfl (r_move (v := (.bool false)) rfl) (qd rfl rfl rfl (r_assign (v := (.bool false)) rfl) (qe (s_then ?_)))
 exact wp_ret (s_ret (c_ret1 (v := (.bool false)) rfl rfl rfl (⟨q134, _, congrArg (fun z => Ending.returned (Value.bool z)) (hgv.symm), hpk132, hok136, (PX.trans (PX.trans (PX.trans hpx51 hpx103) hpx114) hq135x), (ns_trans (ns_trans (ns_trans hqn52 hqn104) hqn115) hq135n), hX133⟩)))
 refine wp_skip (s_blkN (s_then (c_reg ?_)))
 refine qd rfl rfl rfl (r_add rfl rfl (by omega)) (qd rfl rfl rfl (r_move (v := (.int .i64 ((i2 : Int) + 1))) rfl) (qe (s_lopN (⟨_, ?_, _, rfl, _, i2 + 1, q109, G110, (packS (x := 58) (packS (x := 57) (packS (x := 56) (packS (x := 10) (packS (x := 7) (packS (x := 6) (packS (x := 1) (pack1 (x := 0) rfl) rfl) rfl) rfl) rfl) rfl) rfl) rfl), rfl, hX117, (Pin.le_trans hlek97 hx116.le), (by omega), (fun x h2 => if h3 : x = i2 then h3 ▸ (by rw [← lx96, ← geB_same (ns_trans hqn52 hqn104)]; exact h122) else hpl x (by omega)), hpk112, hok113, (PX.trans hpx103 hpx114), (ns_trans hqn104 hqn115)⟩))))
 omega
 refine wp_exit (s_thenE (s_lopE (s_blkE (s_then (s_seq ?_)))))
 refine c_draw (S := fun wz => BxR wz p [L, R, B, (.map (some mm.f)), (.map (some mm.o)), (.map (some mm.c)), (.map (some mm.s)), (.map (some mm.n))] ∧ Pins GLl wz) (last := 6) (by kernel_rfl) rfl ?_
 have hl140 : Below w98.heap.size w98 w98.drew := (Below.refl _ _).drew
 have hp141 := hX100.pins.below hl140
 have hX142 := hX100.step hp141 hl140
 have hpk143 := hpk101.below hl140 hp141
 refine dr_take (i := 0) rfl rfl rfl (want_none rfl _) (by kernel_rfl) (fun _ _ => r_move (v := (.pointer (some ⟨p, 0, none⟩))) rfl) ⟨hpk143.bx.reads, hX142.pins⟩ (dr_take (i := 1) rfl rfl rfl (want_none rfl _) (by kernel_rfl) (fun _ _ => r_nil rfl) ⟨hpk143.bx.reads, hX142.pins⟩ (dr_take (i := 2) rfl rfl rfl (want_none rfl _) (by kernel_rfl) (fun _ _ => r_fldp (k := 4) rfl Tryz.underlying117 rfl nz112 rfl) ⟨hpk143.bx.reads, hX142.pins⟩ (dr_take (i := 3) rfl rfl rfl (want_none rfl _) (by kernel_rfl) (fun _ hS => r_ldp1 (u := (.map (some mm.o))) ag112 rfl (hS.1 4 _ rfl)) ⟨hpk143.bx.reads, hX142.pins⟩ (dr_take (i := 4) rfl rfl rfl (want_none rfl _) (by kernel_rfl) (fun _ hS => r_ldpA (cs := [(.int .i64 a), (.int .i64 b)]) ag118 sz118 rfl (fun j u hj => (Pins.of_le hS.2 (Pin.le_trans hlek45 hlek97)) _ _ _ (hbp28 _ _ (by simpa using hj)))) ⟨hpk143.bx.reads, hX142.pins⟩ (dr_take (i := 5) rfl rfl rfl (want_none rfl _) (by kernel_rfl) (fun _ _ => r_move (v := (.bool true)) rfl) ⟨hpk143.bx.reads, hX142.pins⟩ (dr_one (i := 6) (by kernel_rfl) (drOp0 (i := 6) rfl rfl rfl (want_none rfl _) (o_mapUpdate (val := (fun v : Bool => Value.bool v)) (k := ((a, b) : Int × Int)) (v := true) (key_pair Tryz.underlying118 Tryz.underlying3 sz3) Tryz.underlying112 rfl rfl rfl hX142.pins hpk143.fo (fun w144 hm145 hp146 hg147 hz148 => ?_)))))))))
 have hX150 := hX142.trans (Ext.one hp146 hg147) (fun i hi => lo_self i hi)
 have hpk149 := hpk143.setO (Ext.one hp146 hg147) hm145
 have hgv : geB q.ns a b = true := geB_yes hok.ar.opts ha hb (fun i hi => hpr i (by omega)) (fun i hi => hpl i (by omega))
 have hok153 := PoolOk.setO hok102 (ha.same (ns_trans hqn52 hqn104)) (hb.same (ns_trans hqn52 hqn104)) (setO_ok (ns_trans hqn52 hqn104) hgv)
 obtain ⟨q151, hq152⟩ : ∃ q, q = ({ q95 with om := putE q95.om ((a, b) : Int × Int) true } : PSt) := ⟨_, rfl⟩
 rw [← hq152] at hpk149 hok153
 have hq152n : q151.ns = q95.ns ∧ q151.bs = q95.bs := by rw [hq152]; exact ⟨rfl, rfl⟩
 have hq152x : PX q95 q151 := by rw [hq152]; exact ⟨Nat.le_refl _, fun _ _ => rfl, fun _ h => h⟩
 have hml154 : (q151.ns.map Nd.l).length = q151.ns.length ∧ (q151.ns.map Nd.r).length = q151.ns.length := ⟨List.length_map .., List.length_map ..⟩
 have hml155 : q151.bs.length = q151.ns.length ∧ q151.ns.length ≤ 1048576 := ⟨hok153.ar.ok.len, hok153.ar.ok.lim⟩
 have hql156 := hq152x.len
 refine ⟨fun h => absurd rfl h, ?_⟩
 refine dr_end (by kernel_rfl) (s_then (s_seq (c_reg ?_)))
 refine qd rfl rfl rfl (r_move (v := (.bool true)) rfl) (qd rfl rfl rfl (r_assign (v := (.bool true)) rfl) (qe (s_then ?_)))
 exact wp_ret (s_ret (c_ret1 (v := (.bool true)) rfl rfl rfl (⟨q151, _, congrArg (fun z => Ending.returned (Value.bool z)) (hgv.symm), hpk149, hok153, (PX.trans (PX.trans hpx51 hpx103) hq152x), (ns_trans (ns_trans hqn52 hqn104) hq152n), hX150⟩)))

theorem geP_all {p : Nat} {L R B : Value} {mm : PM} : ∀ m, GeP m p L R B mm
 | 0 => fun _ _ _ _ _ h => absurd h (Nat.not_lt_zero _)
 | m + 1 => fun hP hpk hok ha hb hm => ge_step hP hpk hok ha hb (geP_all m) hm
theorem ge_spec {p : Nat} {L R B : Value} {mm : PM} {w : World} {G : Pin} {q : PSt} {a b : Int} (hP : Pins G w) (hpk : Pk 57 3 G w p L R B mm q) (hok : PoolOk q) (ha : PlaceOk q a) (hb : PlaceOk q b) :
  Calls Tryz.prog 63 [(.pointer (some ⟨p, 0, none⟩)), (.int .i64 a), (.int .i64 b)].toArray w fun e w' => ∃ (q' : PSt) (G' : Pin), e = .returned (.bool (geB q.ns a b)) ∧ Pk 57 3 G' w' p L R B mm q' ∧ PoolOk q' ∧ PX q q' ∧ (q'.ns = q.ns ∧ q'.bs = q.bs) ∧ Ext (inO (some mm.o)) G w G' w' :=
 geP_all _ hP hpk hok ha hb (Nat.lt_succ_self _)

theorem outcome_spec {p : Nat} {L R B : Value} {mm : PM} {w : World} {G : Pin} {q : PSt} {a b : Int} (hP : Pins G w) (hpk : Pk 57 3 G w p L R B mm q) (hok : PoolOk q) (ha : PlaceOk q a) (hb : PlaceOk q b) :
  Calls Tryz.prog 87 [(.pointer (some ⟨p, 0, none⟩)), (.int .i64 a), (.int .i64 b)].toArray w fun e w' => ∃ (q' : PSt) (G' : Pin), e = .returned (.int .i64 (codeI (geB q.ns a b) (geB q.ns b a))) ∧ Pk 57 3 G' w' p L R B mm q' ∧ PoolOk q' ∧ PX q q' ∧ (q'.ns = q.ns ∧ q'.bs = q.bs) ∧ Ext (inO (some mm.o)) G w G' w' := by
 refine s_enter (n := 26) Tryz.func87 Tryz.ntmps87 rfl rfl ?_
 have hX0 : Ext (inO (some mm.o)) G w G w := Ext.refl hP
 have hpin : PIn w (inP p L R B mm) p L R B mm := PIn.self
 have hml1 : (q.ns.map Nd.l).length = q.ns.length ∧ (q.ns.map Nd.r).length = q.ns.length := ⟨List.length_map .., List.length_map ..⟩
 have hml2 : q.bs.length = q.ns.length ∧ q.ns.length ≤ 1048576 := ⟨hok.ar.ok.len, hok.ar.ok.lim⟩
 have ha0 := ha.1
 have ha1 := ha.2
 have hb0 := hb.1
 have hb1 := hb.2
 refine s_seq (c_reg ?_)
 refine qd rfl rfl rfl (r_assign (v := (.int .i64 0)) rfl) (qe (s_then (s_seq (c_reg ?_))))
 refine qd rfl rfl rfl (r_move (v := (.pointer (some ⟨p, 0, none⟩))) rfl) (qd rfl rfl rfl (r_move (v := (.int .i64 a)) rfl) (qd rfl rfl rfl (r_move (v := (.int .i64 b)) rfl) (q1 rfl rfl rfl (o_call (vs := [(.pointer (some ⟨p, 0, none⟩)), (.int .i64 a), (.int .i64 b)]) Tryz.func63 nm63 rfl rfl rfl ?_))))
 refine Calls.mono (ge_spec hX0.pins hpk hok (ha.same ⟨rfl, rfl⟩) (hb.same ⟨rfl, rfl⟩)) ?_
 rintro _ w5 ⟨q3, G4, rfl, hpk6, hok7, hpx8, hqn9, hx10⟩
 refine ⟨_, rfl, ?_⟩
 have hX11 := hX0.trans hx10 (fun i hi => lo_self i hi)
 have hql12 := hpx8.len
 have hml13 : (q3.ns.map Nd.l).length = q3.ns.length ∧ (q3.ns.map Nd.r).length = q3.ns.length := ⟨List.length_map .., List.length_map ..⟩
 have hml14 : q3.bs.length = q3.ns.length ∧ q3.ns.length ≤ 1048576 := ⟨hok7.ar.ok.len, hok7.ar.ok.lim⟩
 have hql15 := congrArg List.length hqn9.1
 refine qd rfl rfl rfl (r_move (v := (.pointer (some ⟨p, 0, none⟩))) rfl) (qd rfl rfl rfl (r_move (v := (.int .i64 b)) rfl) (qd rfl rfl rfl (r_move (v := (.int .i64 a)) rfl) (q1 rfl rfl rfl (o_call (vs := [(.pointer (some ⟨p, 0, none⟩)), (.int .i64 b), (.int .i64 a)]) Tryz.func63 nm63 rfl rfl rfl ?_))))
 refine Calls.mono (ge_spec hX11.pins hpk6 hok7 (hb.same hqn9) (ha.same hqn9)) ?_
 rintro _ w18 ⟨q16, G17, rfl, hpk19, hok20, hpx21, hqn22, hx23⟩
 refine ⟨_, rfl, ?_⟩
 have hX24 := hX11.trans hx23 (fun i hi => lo_self i hi)
 have hql25 := hpx21.len
 have hml26 : (q16.ns.map Nd.l).length = q16.ns.length ∧ (q16.ns.map Nd.r).length = q16.ns.length := ⟨List.length_map .., List.length_map ..⟩
 have hml27 : q16.bs.length = q16.ns.length ∧ q16.ns.length ≤ 1048576 := ⟨hok20.ar.ok.len, hok20.ar.ok.lim⟩
 have hql28 := congrArg List.length hqn22.1
 refine qd rfl rfl rfl (r_assign (v := (.bool (geB q.ns a b))) rfl) (qd rfl rfl rfl (r_assign (v := (.bool (geB q3.ns b a))) rfl) (qe (s_then (s_seq ?_))))
 refine s_blk (s_seq (c_reg ?_))
 refine qd rfl rfl rfl (r_move (v := (.bool (geB q.ns a b))) rfl) (qd rfl rfl rfl (r_move (v := (.bool (geB q.ns a b))) rfl) (qb (t := 19) rfl (fun h29 => ?_) (fun h29 => ?_)))
 refine qdg rfl rfl rfl rfl rfl rfl (r_move (v := (.bool (geB q3.ns b a))) rfl) (qd rfl rfl rfl (r_pickT (v := (.bool (geB q3.ns b a))) rfl rfl) (qd rfl rfl rfl (r_assign (v := (.bool (geB q3.ns b a))) rfl) (qe (s_then ?_))))
 refine c_if rfl rfl (fun h30 => ?_) (fun h30 => ?_)
 refine s_seq (c_reg ?_)
 refine qd rfl rfl rfl (r_assign (v := (.int .i64 4)) rfl) (qe (s_then ?_))
 exact wp_ret (s_ret (c_ret1 (v := (.int .i64 4)) rfl rfl rfl (⟨q16, _, congrArg (fun z => Ending.returned (Value.int .i64 z)) (by rw [← geB_same (a := b) (b := a) hqn9]; revert h29 h30; generalize geB _ b a = t1; generalize geB _ a b = t2; cases t1 <;> cases t2 <;> decide), hpk19, hok20, (PX.trans hpx8 hpx21), (ns_trans hqn9 hqn22), hX24⟩)))
 refine s_seq (c_reg ?_)
 refine qd rfl rfl rfl (r_move (v := (.bool (geB q.ns a b))) rfl) (qd rfl rfl rfl (r_assign (v := (.bool (geB q.ns a b))) rfl) (qe (s_then ?_)))
 refine c_if rfl rfl (fun h31 => ?_) (fun h31 => ?_)
 refine s_seq (c_reg ?_)
 refine qd rfl rfl rfl (r_assign (v := (.int .i64 1)) rfl) (qe (s_then ?_))
 exact wp_ret (s_ret (c_ret1 (v := (.int .i64 1)) rfl rfl rfl (⟨q16, _, congrArg (fun z => Ending.returned (Value.int .i64 z)) (by rw [← geB_same (a := b) (b := a) hqn9]; revert h29 h30 h31; generalize geB _ b a = t1; generalize geB _ a b = t2; cases t1 <;> cases t2 <;> decide), hpk19, hok20, (PX.trans hpx8 hpx21), (ns_trans hqn9 hqn22), hX24⟩)))
 refine s_seq (c_reg ?_)
 refine qd rfl rfl rfl (r_move (v := (.bool (geB q3.ns b a))) rfl) (qd rfl rfl rfl (r_assign (v := (.bool (geB q3.ns b a))) rfl) (qe (s_then ?_)))
 refine c_if rfl rfl (fun h32 => ?_) (fun h32 => ?_)
 refine s_seq (c_reg ?_)
 refine qd rfl rfl rfl (r_assign (v := (.int .i64 2)) rfl) (qe (s_then ?_))
 exact wp_ret (s_ret (c_ret1 (v := (.int .i64 2)) rfl rfl rfl (⟨q16, _, congrArg (fun z => Ending.returned (Value.int .i64 z)) (by rw [← geB_same (a := b) (b := a) hqn9]; revert h29 h30 h31 h32; generalize geB _ b a = t1; generalize geB _ a b = t2; cases t1 <;> cases t2 <;> decide), hpk19, hok20, (PX.trans hpx8 hpx21), (ns_trans hqn9 hqn22), hX24⟩)))
 refine wp_skip (s_blkN (s_then (s_seq (c_reg ?_))))
 refine qd rfl rfl rfl (r_assign (v := (.int .i64 3)) rfl) (qe (s_then ?_))
 exact wp_ret (s_ret (c_ret1 (v := (.int .i64 3)) rfl rfl rfl (⟨q16, _, congrArg (fun z => Ending.returned (Value.int .i64 z)) (by rw [← geB_same (a := b) (b := a) hqn9]; revert h29 h30 h31 h32; generalize geB _ b a = t1; generalize geB _ a b = t2; cases t1 <;> cases t2 <;> decide), hpk19, hok20, (PX.trans hpx8 hpx21), (ns_trans hqn9 hqn22), hX24⟩)))
 refine qs rfl rfl rfl rfl rfl rfl (qd rfl rfl rfl (r_pickF (v := (.bool false)) rfl rfl) (qd rfl rfl rfl (r_assign (v := (.bool false)) rfl) (qe (s_then ?_))))
 refine c_ifF rfl rfl (s_seq (c_reg ?_))
 refine qd rfl rfl rfl (r_move (v := (.bool (geB q.ns a b))) rfl) (qd rfl rfl rfl (r_assign (v := (.bool (geB q.ns a b))) rfl) (qe (s_then ?_)))
 refine c_if rfl rfl (fun h33 => ?_) (fun h33 => ?_)
 refine s_seq (c_reg ?_)
 refine qd rfl rfl rfl (r_assign (v := (.int .i64 1)) rfl) (qe (s_then ?_))
 exact wp_ret (s_ret (c_ret1 (v := (.int .i64 1)) rfl rfl rfl (⟨q16, _, congrArg (fun z => Ending.returned (Value.int .i64 z)) (by rw [← geB_same (a := b) (b := a) hqn9]; revert h29 h33; generalize geB _ b a = t1; generalize geB _ a b = t2; cases t1 <;> cases t2 <;> decide), hpk19, hok20, (PX.trans hpx8 hpx21), (ns_trans hqn9 hqn22), hX24⟩)))
 refine s_seq (c_reg ?_)
 refine qd rfl rfl rfl (r_move (v := (.bool (geB q3.ns b a))) rfl) (qd rfl rfl rfl (r_assign (v := (.bool (geB q3.ns b a))) rfl) (qe (s_then ?_)))
 refine c_if rfl rfl (fun h34 => ?_) (fun h34 => ?_)
 refine s_seq (c_reg ?_)
 refine qd rfl rfl rfl (r_assign (v := (.int .i64 2)) rfl) (qe (s_then ?_))
 exact wp_ret (s_ret (c_ret1 (v := (.int .i64 2)) rfl rfl rfl (⟨q16, _, congrArg (fun z => Ending.returned (Value.int .i64 z)) (by rw [← geB_same (a := b) (b := a) hqn9]; revert h29 h33 h34; generalize geB _ b a = t1; generalize geB _ a b = t2; cases t1 <;> cases t2 <;> decide), hpk19, hok20, (PX.trans hpx8 hpx21), (ns_trans hqn9 hqn22), hX24⟩)))
 refine wp_skip (s_blkN (s_then (s_seq (c_reg ?_))))
 refine qd rfl rfl rfl (r_assign (v := (.int .i64 3)) rfl) (qe (s_then ?_))
 exact wp_ret (s_ret (c_ret1 (v := (.int .i64 3)) rfl rfl rfl (⟨q16, _, congrArg (fun z => Ending.returned (Value.int .i64 z)) (by rw [← geB_same (a := b) (b := a) hqn9]; revert h29 h33 h34; generalize geB _ b a = t1; generalize geB _ a b = t2; cases t1 <;> cases t2 <;> decide), hpk19, hok20, (PX.trans hpx8 hpx21), (ns_trans hqn9 hqn22), hX24⟩)))

end PL1
end Go.Proofs.YtkfgdhanaijddaaGreatDoor

set_option maxRecDepth 20000
set_option maxHeartbeats 2000000
namespace Go.Proofs.YtkfgdhanaijddaaGreatDoor
namespace PA1
open Go.RowKit Go.GL Go.Proofs










theorem parts_spec {w : World} {G : Pin} {p : Nat} {L R B : Value} {mm : PM} {q : PSt} (hP : Pins G w) (hpk : Pk 57 3 G w p L R B mm q) (hok : PoolOk q) {x : Value} {xs : List Int} (hx : RSl eInt G x xs) (hr : ∀ i, i < xs.length → PlaceOk q (xs.getD i 0)) (hxl : xs.length ≤ 1048576) :
  Calls Tryz.prog 101 [(.pointer (some ⟨p, 0, none⟩)), x].toArray w fun e w' => ∃ (u : Value) (zs : List Int) (G' : Pin), e = .returned u ∧ Own eInt 3 G' w' w.heap.size u zs ∧ PtOk q xs zs zs.length ∧ Ext noS G w G' w' := by
 refine s_enter (n := 82) Tryz.func101 Tryz.ntmps101 rfl rfl ?_
 have hX0 : Ext noS G w G w := Ext.refl hP
 have hpin : PIn w (inP p L R B mm) p L R B mm := PIn.self
 have hml1 : (q.ns.map Nd.l).length = q.ns.length ∧ (q.ns.map Nd.r).length = q.ns.length := ⟨List.length_map .., List.length_map ..⟩
 have hml2 : q.bs.length = q.ns.length ∧ q.ns.length ≤ 1048576 := ⟨hok.ar.ok.len, hok.ar.ok.lim⟩
 have hm := hx.max
 refine s_seq (c_reg ?_)
 refine qd rfl rfl rfl (r_assign (v := (.slice none 0 0)) rfl) (qe (s_then (s_seq (c_reg ?_))))
 refine q1 rfl rfl rfl (o_makeMap (fun k : Int => Value.int .i64 k) (fun v : Bool => Value.bool v) hX0.pins (fun m3 w4 hk5 hm6 hp7 hl8 => ?_))
 have hX9 := hX0.step hp7 hl8
 have hpk10 := hpk.below hl8 hp7
 have hnp11 := hpk.new (x := some m3) (fun k hk => by cases hk; omega)
 have hlo12 : w.heap.size ≤ m3 := by have := hX0.size; omega
 refine qd rfl rfl rfl (r_assign (v := (.map (some m3))) rfl) (qe (s_then (s_seq (c_reg ?_))))
 refine q1 rfl rfl rfl (o_build0 (E := eInt) (e := 3) Tryz.underlying57 sz3 hX9.pins (fun u13 w14 ho15 hp16 hl17 hk18 => ?_))
 have hX19 := hX9.step hp16 hl17
 have hm20 := hm6.below hl17
 have hpk21 := hpk10.below hl17 hp16
 have ha26 := hpk10.new (x := u13.ownBlock) (fun k hk => by rw [hk18] at hk; cases hk; exact Nat.le_refl _)
 have ho27 : Own eInt 3 G w14 w.heap.size u13 ([]) := ho15.weaken hX9.size
 refine qd rfl rfl rfl (r_assign (v := u13) rfl) (qe (s_then (s_seq (s_seq (c_reg ?_)))))
 refine qd rfl rfl rfl (r_move (v := x) rfl) (qd rfl rfl rfl (run_len Tryz.underlying57 (v := x) rfl hx) (qd rfl rfl rfl (r_move (v := (.int .i64 0)) rfl) (qe (s_then ?_))))
 refine s_blk (s_loop (fun (k : Nat) (en : Nat → Value) (W : World) => ∃ (env1 : Nat → Value) (i : Nat) (lv : Value) (ls : List Int) (sn : List (Int × Bool)) (GL1 : Pin), en = (upd (upd (upd (upd (upd (upd (upd env1 0 (.pointer (some ⟨p, 0, none⟩))) 4 (.slice none 0 0)) 5 (.map (some m3))) 6 lv) 16 x) 17 (.int .i64 (xs.length : Int))) 18 (.int .i64 (i : Int))) ∧ k = xs.length - i ∧ Ext noS G w GL1 W ∧ Pin.le G GL1 ∧ (i ≤ xs.length) ∧ (PtOk q (xs.take i) ls 0) ∧ (SnOk sn ls) ∧ (Own eInt 3 GL1 W w.heap.size lv (ls)) ∧ (Mp (fun k : Int => Value.int .i64 k) (fun v : Bool => Value.bool v) W m3 (sn)) ∧ (Pk 57 3 GL1 W p L R B mm q) ∧ (NP p L R B mm lv.ownBlock)) _ ⟨_, 0, u13, [], [], G, (packS (x := 18) (packS (x := 17) (packS (x := 16) (packS (x := 6) (packS (x := 5) (packS (x := 4) (pack1 (x := 0) rfl) rfl) rfl) rfl) rfl) rfl) rfl), rfl, hX19, Pin.le_refl _, Nat.zero_le _, PtOk.start, SnOk.start, ho27, hm20, hpk21, ha26⟩ ?_)
 rintro k32 _ w33 ⟨env1, i, lv, ls, sn, GL1, rfl, hk34, hX35, hlek32, hi, hpt, hsn, hw36, hm37, hpk38, hnp39⟩
 have hpl0 := hpt.len
 refine s_seq (c_reg ?_)
 refine qd rfl rfl rfl (r_lss rfl rfl) (qe (s_then (s_seq ?_)))
 refine c_ifd (p := ((i : Int) : Int) < (xs.length : Int)) rfl rfl (fun h40 => ?_) (fun h40 => ?_)
 refine wp_skip (s_then (s_seq ?_))
 refine s_blk (s_seq (c_reg ?_))
 refine qd rfl rfl rfl (run_idx Tryz.underlying57 sz3 (v := x) rfl rfl hx (by omega) (by omega)) (qd rfl rfl rfl (run_load_int (r := xs.getD i 0) rfl ag3 (z := (i : Int)) rfl hx (Pins.of_le hX35.pins hlek32) (by omega) (by omega)) (qd rfl rfl rfl (r_assign (v := (.int .i64 (xs.getD i 0))) rfl) (qe (s_then (s_seq (c_reg ?_))))))
 refine qd rfl rfl rfl (r_move (v := (.map (some m3))) rfl) (qd rfl rfl rfl (r_move (v := (.int .i64 (xs.getD i 0))) rfl) (qd rfl rfl rfl (run_look1_bool (k := (xs.getD i 0)) (key_int Tryz.underlying3) Tryz.underlying148 zr4 hm37 rfl rfl) (qd rfl rfl rfl (r_not rfl) (qe (s_then ?_)))))
 refine c_ifn rfl rfl (fun h41 => ?_) (fun h41 => ?_)
 refine wp_skip (s_blkN (s_then (c_reg ?_)))
 refine qd rfl rfl rfl (r_add rfl rfl (by omega)) (qd rfl rfl rfl (r_move (v := (.int .i64 ((i : Int) + 1))) rfl) (qe (s_lopN (⟨_, ?_, _, rfl, _, i + 1, lv, ls, sn, GL1, (packS (x := 18) (packS (x := 17) (packS (x := 16) (packS (x := 6) (packS (x := 5) (packS (x := 4) (pack1 (x := 0) rfl) rfl) rfl) rfl) rfl) rfl) rfl), rfl, hX35, hlek32, (by omega), (hpt.rseen (by omega) (hsn.yes h41)), hsn, hw36, hm37, hpk38, hnp39⟩))))
 omega
 refine s_seq (c_reg ?_)
 refine qd rfl rfl rfl (r_move (v := (.map (some m3))) rfl) (qd rfl rfl rfl (r_move (v := (.int .i64 (xs.getD i 0))) rfl) (q0 rfl rfl rfl (o_mapUpdate (val := (fun v : Bool => Value.bool v)) (k := (xs.getD i 0)) (v := true) (key_int Tryz.underlying3) Tryz.underlying148 rfl rfl rfl hX35.pins hm37 (fun w42 hm43 hp44 hg45 hz46 => ?_))))
 have hX47 := hX35.write hp44 hg45 ((lo_box hlo12))
 have ho48 := hw36.keptA hg45 (map_ne_own hm37 hw36).symm
 have hpk49 := hpk38.kept hg45 hp44 hnp11
 refine qe (s_then (c_reg ?_))
 refine qd rfl rfl rfl (r_move (v := lv) rfl) (qd rfl rfl rfl (r_move (v := (.int .i64 (xs.getD i 0))) rfl) (q1 rfl rfl rfl (o_buildF (E := eInt) (e := 3) [(.int .i64 (xs.getD i 0))] [xs.getD i 0] Tryz.underlying57 sz3 zr3 (by exact reps1 (by rfl)) (ones1 (by rfl)) rfl rfl rfl rfl (by decide) hX47.pins (fun u50 w51 ho52 hp53 hl54 hk55 => ?_))))
 have hX56 := hX47.step hp53 hl54
 have ho57 := ho48.below hl54
 have hm58 := hm43.below hl54
 have hpk59 := hpk49.below hl54 hp53
 have ho66 : Own eInt 3 GL1 w51 w.heap.size u50 ([xs.getD i 0]) := ho52.weaken hX47.size
 refine q1 rfl rfl rfl (o_append (E := eInt) (v := lv) (u := u50) 8 Tryz.underlying57 ap3 (by decide) rfl rfl hX56.pins ho57 ho66.src (by first | omega | (rw [List.nil_append]; omega) | (rw [List.length_nil]; omega) | (rw [List.length_append]; omega) | (simp; done) | (simp; omega) | (simp only [List.length_append, List.length_cons, List.length_nil]; omega)) (by first | omega | (rw [List.nil_append]; omega) | (rw [List.length_nil]; omega) | (rw [List.length_append]; omega) | (simp; done) | (simp; omega) | (simp only [List.length_append, List.length_cons, List.length_nil]; omega)) (hX56.size) (fun u67 w68 ho69 hp70 hg71 hw72 => ?_))
 have hX73 := hX56.write hp70 hg71 ((lo_own ho57))
 have hm75 := hm58.kept hg71 (map_ne_own hm58 ho57)
 have hpk76 := hpk59.kept hg71 hp70 hnp39
 have hnp78 := np_app hnp39 hpk59 hw72
 have hm79 : (ls ++ ([xs.getD i 0])).length = ls.length + 1 := List.length_append
 refine qd rfl rfl rfl (r_assign (v := u67) rfl) (qe (s_blkN (s_then (c_reg ?_))))
 refine qd rfl rfl rfl (r_add rfl rfl (by omega)) (qd rfl rfl rfl (r_move (v := (.int .i64 ((i : Int) + 1))) rfl) (qe (s_lopN (⟨_, ?_, _, rfl, _, i + 1, u67, ls ++ ([xs.getD i 0]), putE sn (xs.getD i 0) true, GL1, (packS (x := 18) (packS (x := 17) (packS (x := 16) (packS (x := 6) (packS (x := 5) (packS (x := 4) (pack1 (x := 0) rfl) rfl) rfl) rfl) rfl) rfl) rfl), rfl, hX73, hlek32, (by omega), (hpt.rnew (by omega) (hsn.no h41) (hr i (by omega))), hsn.put, ho69, hm75, hpk76, hnp78⟩))))
 omega
 refine wp_exit (s_thenE (s_lopE (s_blkE (s_then (s_seq (s_seq (c_reg ?_)))))))
 refine qd rfl rfl rfl (r_assign (v := (.int .i64 0)) rfl) (qe (s_then ?_))
 refine s_blk ?_
 have hin : i = xs.length := by omega
 rw [hin, take_all (Nat.le_refl _)] at hpt
 refine s_loop (fun (k : Nat) (en : Nat → Value) (W : World) => ∃ (env1 : Nat → Value) (k2 : Nat) (lv2 : Value) (ls2 : List Int) (sn2 : List (Int × Bool)) (GL2 : Pin), en = (upd (upd (upd (upd (upd env1 0 (.pointer (some ⟨p, 0, none⟩))) 4 (.slice none 0 0)) 5 (.map (some m3))) 6 lv2) 9 (.int .i64 (k2 : Int))) ∧ k = q.ns.length - k2 ∧ Ext noS G w GL2 W ∧ Pin.le GL1 GL2 ∧ (PtOk q xs ls2 k2) ∧ (SnOk sn2 ls2) ∧ (Own eInt 3 GL2 W w.heap.size lv2 (ls2)) ∧ (Mp (fun k : Int => Value.int .i64 k) (fun v : Bool => Value.bool v) W m3 (sn2)) ∧ (Pk 57 3 GL2 W p L R B mm q) ∧ (NP p L R B mm lv2.ownBlock)) _ ⟨_, 0, lv, ls, sn, GL1, (packS (x := 9) (packS (x := 6) (packS (x := 5) (packS (x := 4) (pack1 (x := 0) rfl) rfl) rfl) rfl) rfl), rfl, hX35, Pin.le_refl _, hpt, hsn, hw36, hm37, hpk38, hnp39⟩ ?_
 rintro k84 _ w85 ⟨env1, k2, lv2, ls2, sn2, GL2, rfl, hk86, hX87, hlek84, hpt2, hsn2, hw88, hm89, hpk90, hnp91⟩
 have hpl2 := hpt2.len
 have hkl2 := hpt2.kl
 refine s_seq (s_seq (c_reg ?_))
 refine qd rfl rfl rfl (r_move (v := (.int .i64 (k2 : Int))) rfl) (qd rfl rfl rfl (r_move (v := lv2) rfl) (qd rfl rfl rfl (run_len Tryz.underlying57 (v := lv2) rfl hw88.read) (qd rfl rfl rfl (r_lss rfl rfl) (qe (s_then ?_)))))
 refine c_ifd (p := ((k2 : Int) : Int) < (ls2.length : Int)) rfl rfl (fun h92 => ?_) (fun h92 => ?_)
 have hzp := hpt2.pl _ (getD_mem (d := (0 : Int)) (show k2 < ls2.length by omega))
 have hz0 := hzp.1
 have hz1 := hzp.2
 have holl := hok.ar.ok.lens (ls2.getD k2 0).toNat (by omega)
 refine wp_skip (s_then (s_seq ?_))
 refine s_blk (s_seq ?_)
 have hq93 := Gadd.pins hX87.pins lv2
 have hq94 := Gadd.pins hX87.pins L
 have hq95 := Gadd.pins hX87.pins R
 have hr96 := hw88.read
 have hr97 := hpk90.ol.read
 have hr98 := hpk90.rr.read
 refine c_draw (S := fun wz => BxR wz p [L, R, B, (.map (some mm.f)), (.map (some mm.o)), (.map (some mm.c)), (.map (some mm.s)), (.map (some mm.n))] ∧ Pins (Gadd GL2 w85 lv2) wz ∧ Pins (Gadd GL2 w85 L) wz ∧ Pins (Gadd GL2 w85 R) wz) (last := 22) (by kernel_rfl) rfl ?_
 have hl99 : Below w85.heap.size w85 w85.drew := (Below.refl _ _).drew
 have hp100 := hX87.pins.below hl99
 have hX101 := hX87.step hp100 hl99
 have ho102 := hw88.below hl99
 have hm103 := hm89.below hl99
 have hpk104 := hpk90.below hl99 hp100
 have hq105 := hq93.below hl99
 have hq106 := hq94.below hl99
 have hq107 := hq95.below hl99
 refine dr_take (i := 0) rfl rfl rfl (want_none rfl _) (by kernel_rfl) (fun _ _ => r_move (v := (.pointer (some ⟨p, 0, none⟩))) rfl) ⟨hpk104.bx.reads, hq105, hq106, hq107⟩ (dr_take (i := 1) rfl rfl rfl (want_none rfl _) (by kernel_rfl) (fun _ _ => r_nil rfl) ⟨hpk104.bx.reads, hq105, hq106, hq107⟩ (dr_take (i := 2) rfl rfl rfl (want_none rfl _) (by kernel_rfl) (fun _ _ => r_fldp (k := 0) rfl Tryz.underlying117 rfl nz115 rfl) ⟨hpk104.bx.reads, hq105, hq106, hq107⟩ (dr_take (i := 3) rfl rfl rfl (want_none rfl _) (by kernel_rfl) (fun _ hS => r_ldp1 (u := L) ag115 rfl (hS.1 0 _ rfl)) ⟨hpk104.bx.reads, hq105, hq106, hq107⟩ (dr_take (i := 4) rfl rfl rfl (want_none rfl _) (by kernel_rfl) (fun _ _ => r_move (v := lv2) rfl) ⟨hpk104.bx.reads, hq105, hq106, hq107⟩ (dr_take (i := 5) rfl rfl rfl (want_none rfl _) (by kernel_rfl) (fun _ _ => r_move (v := (.int .i64 (k2 : Int))) rfl) ⟨hpk104.bx.reads, hq105, hq106, hq107⟩ (dr_take (i := 6) rfl rfl rfl (want_none rfl _) (by kernel_rfl) (fun _ _ => run_idx Tryz.underlying57 sz3 (v := lv2) rfl rfl hr96 (by omega) (by omega)) ⟨hpk104.bx.reads, hq105, hq106, hq107⟩ (dr_take (i := 7) rfl rfl rfl (want_none rfl _) (by kernel_rfl) (fun _ hS => run_load_int (r := ls2.getD k2 0) rfl ag3 (z := (k2 : Int)) rfl hr96 hS.2.1 (by omega) (by omega)) ⟨hpk104.bx.reads, hq105, hq106, hq107⟩ (dr_take (i := 8) rfl rfl rfl (want_none rfl _) (by kernel_rfl) (fun _ _ => run_idx Tryz.underlying115 sz57 (v := L) rfl rfl hr97 (by omega) (by omega)) ⟨hpk104.bx.reads, hq105, hq106, hq107⟩ ?_))))))))
 obtain ⟨u108, hr109, hl110⟩ := nm_sl (hpk90.ol.at (z := (ls2.getD k2 0)) (by omega) (by omega)) (j := (ls2.getD k2 0).toNat) rfl
 rw [mapl_getD] at hr109
 have hm111 := hr109.max
 refine dr_take (i := 9) rfl rfl rfl (want_none rfl _) (by kernel_rfl) (fun _ hS => hl110 ag57 rfl hS.2.2.1) ⟨hpk104.bx.reads, hq105, hq106, hq107⟩ (dr_take (i := 10) rfl rfl rfl (want_none rfl _) (by kernel_rfl) (fun _ _ => r_move (v := (.pointer (some ⟨p, 0, none⟩))) rfl) ⟨hpk104.bx.reads, hq105, hq106, hq107⟩ (dr_take (i := 11) rfl rfl rfl (want_none rfl _) (by kernel_rfl) (fun _ _ => r_nil rfl) ⟨hpk104.bx.reads, hq105, hq106, hq107⟩ (dr_take (i := 12) rfl rfl rfl (want_none rfl _) (by kernel_rfl) (fun _ _ => r_fldp (k := 1) rfl Tryz.underlying117 rfl nz115 rfl) ⟨hpk104.bx.reads, hq105, hq106, hq107⟩ (dr_take (i := 13) rfl rfl rfl (want_none rfl _) (by kernel_rfl) (fun _ hS => r_ldp1 (u := R) ag115 rfl (hS.1 1 _ rfl)) ⟨hpk104.bx.reads, hq105, hq106, hq107⟩ (dr_take (i := 14) rfl rfl rfl (want_none rfl _) (by kernel_rfl) (fun _ _ => r_move (v := lv2) rfl) ⟨hpk104.bx.reads, hq105, hq106, hq107⟩ (dr_take (i := 15) rfl rfl rfl (want_none rfl _) (by kernel_rfl) (fun _ _ => r_move (v := (.int .i64 (k2 : Int))) rfl) ⟨hpk104.bx.reads, hq105, hq106, hq107⟩ (dr_take (i := 16) rfl rfl rfl (want_none rfl _) (by kernel_rfl) (fun _ _ => run_idx Tryz.underlying57 sz3 (v := lv2) rfl rfl hr96 (by omega) (by omega)) ⟨hpk104.bx.reads, hq105, hq106, hq107⟩ (dr_take (i := 17) rfl rfl rfl (want_none rfl _) (by kernel_rfl) (fun _ hS => run_load_int (r := ls2.getD k2 0) rfl ag3 (z := (k2 : Int)) rfl hr96 hS.2.1 (by omega) (by omega)) ⟨hpk104.bx.reads, hq105, hq106, hq107⟩ (dr_take (i := 18) rfl rfl rfl (want_none rfl _) (by kernel_rfl) (fun _ _ => run_idx Tryz.underlying115 sz57 (v := R) rfl rfl hr98 (by omega) (by omega)) ⟨hpk104.bx.reads, hq105, hq106, hq107⟩ ?_)))))))))
 obtain ⟨u112, hr113, hl114⟩ := nm_sl (hpk90.rr.at (z := (ls2.getD k2 0)) (by omega) (by omega)) (j := (ls2.getD k2 0).toNat) rfl
 rw [mapr_getD] at hr113
 have hm115 := hr113.max
 refine dr_take (i := 19) rfl rfl rfl (want_none rfl _) (by kernel_rfl) (fun _ hS => hl114 ag57 rfl hS.2.2.2) ⟨hpk104.bx.reads, hq105, hq106, hq107⟩ (dr_take (i := 20) rfl rfl rfl (want_none rfl _) (by kernel_rfl) (fun _ _ => r_buildA (m := 1) [(.slice none 0 0), (.slice none 0 0)] [u108, u112] [(0, u108, [u108]), (1, u112, [u112])] Tryz.underlying149 zr149 rfl sz57 rfl (List.forall_mem_cons.2 ⟨(cells_one hr109.one), (List.forall_mem_cons.2 ⟨(cells_one hr113.one), (fun _ h => by cases h)⟩)⟩) rfl) ⟨hpk104.bx.reads, hq105, hq106, hq107⟩ (dr_take (i := 21) rfl rfl rfl (want_none rfl _) (by kernel_rfl) (fun _ _ => r_move (v := (.int .i64 0)) rfl) ⟨hpk104.bx.reads, hq105, hq106, hq107⟩ (dr_end (by kernel_rfl) (s_then (s_blk (s_loop (fun (k : Nat) (en : Nat → Value) (W : World) => ∃ (env1 : Nat → Value) (s : Nat) (lv3 : Value) (ls3 : List Int) (sn3 : List (Int × Bool)) (GL3 : Pin), en = (upd (upd (upd (upd (upd (upd (upd env1 0 (.pointer (some ⟨p, 0, none⟩))) 4 (.slice none 0 0)) 5 (.map (some m3))) 6 lv3) 9 (.int .i64 (k2 : Int))) 59 (.agg [u108, u112].toArray)) 60 (.int .i64 (s : Int))) ∧ k = 2 - s ∧ Ext noS G w GL3 W ∧ Pin.le GL2 GL3 ∧ (s ≤ 2) ∧ (PtIn q xs ls3 k2 (ls2.getD k2 0) (dzL (q.ns.getD (ls2.getD k2 0).toNat default).l (q.ns.getD (ls2.getD k2 0).toNat default).r s)) ∧ (SnOk sn3 ls3) ∧ (Own eInt 3 GL3 W w.heap.size lv3 (ls3)) ∧ (Mp (fun k : Int => Value.int .i64 k) (fun v : Bool => Value.bool v) W m3 (sn3)) ∧ (Pk 57 3 GL3 W p L R B mm q) ∧ (NP p L R B mm lv3.ownBlock)) _ ⟨_, 0, lv2, ls2, sn2, GL2, (packS (x := 60) (packS (x := 59) (packS (x := 9) (packS (x := 6) (packS (x := 5) (packS (x := 4) (pack1 (x := 0) rfl) rfl) rfl) rfl) rfl) rfl) rfl), rfl, hX101, Pin.le_refl _, Nat.zero_le _, (PtIn.start hpt2 (by omega)), hsn2, ho102, hm103, hpk104, hnp91⟩ ?_))))))
 rintro k120 _ w121 ⟨env1, s, lv3, ls3, sn3, GL3, rfl, hk122, hX123, hlek120, hs, hin3, hsn3, hw124, hm125, hpk126, hnp127⟩
 have hpl3 := hin3.ok.len
 refine s_seq (c_reg ?_)
 refine qd rfl rfl rfl (r_lss rfl rfl) (qe (s_then (s_seq ?_)))
 refine c_ifd (p := ((s : Int) : Int) < 2) rfl rfl (fun h128 => ?_) (fun h128 => ?_)
 refine wp_skip (s_then (s_seq ?_))
 refine s_blk (s_seq (c_reg ?_))
 obtain ⟨u129, hr130, hl131⟩ := name_index2 (hr109.mono hlek120) (hr113.mono hlek120) (z := (s : Int)) s (by omega) (by omega) rfl
 have hm132 := hr130.max
 refine qd rfl rfl rfl (hl131 Tryz.underlying149 rfl sz57 ag57 rfl rfl) (qd rfl rfl rfl (r_assign (v := u129) rfl) (qe (s_then (s_seq (c_reg ?_)))))
 refine qd rfl rfl rfl (r_move (v := u129) rfl) (qd rfl rfl rfl (run_len Tryz.underlying57 (v := u129) rfl hr130) (qd rfl rfl rfl (r_move (v := (.int .i64 0)) rfl) (qe (s_then ?_))))
 refine s_blk (s_loop (fun (k : Nat) (en : Nat → Value) (W : World) => ∃ (env1 : Nat → Value) (j : Nat) (lv4 : Value) (ls4 : List Int) (sn4 : List (Int × Bool)) (GL4 : Pin), en = (upd (upd (upd (upd (upd (upd (upd (upd (upd (upd env1 0 (.pointer (some ⟨p, 0, none⟩))) 4 (.slice none 0 0)) 5 (.map (some m3))) 6 lv4) 9 (.int .i64 (k2 : Int))) 59 (.agg [u108, u112].toArray)) 60 (.int .i64 (s : Int))) 63 u129) 64 (.int .i64 ((pick2 s ((q.ns.getD (ls2.getD k2 0).toNat default).l) ((q.ns.getD (ls2.getD k2 0).toNat default).r)).length : Int))) 65 (.int .i64 (j : Int))) ∧ k = (pick2 s (q.ns.getD (ls2.getD k2 0).toNat default).l (q.ns.getD (ls2.getD k2 0).toNat default).r).length - j ∧ Ext noS G w GL4 W ∧ Pin.le GL3 GL4 ∧ (j ≤ (pick2 s (q.ns.getD (ls2.getD k2 0).toNat default).l (q.ns.getD (ls2.getD k2 0).toNat default).r).length) ∧ (PtIn q xs ls4 k2 (ls2.getD k2 0) (dzL (q.ns.getD (ls2.getD k2 0).toNat default).l (q.ns.getD (ls2.getD k2 0).toNat default).r s ++ (pick2 s (q.ns.getD (ls2.getD k2 0).toNat default).l (q.ns.getD (ls2.getD k2 0).toNat default).r).take j)) ∧ (SnOk sn4 ls4) ∧ (Own eInt 3 GL4 W w.heap.size lv4 (ls4)) ∧ (Mp (fun k : Int => Value.int .i64 k) (fun v : Bool => Value.bool v) W m3 (sn4)) ∧ (Pk 57 3 GL4 W p L R B mm q) ∧ (NP p L R B mm lv4.ownBlock)) _ ⟨_, 0, lv3, ls3, sn3, GL3, (packS (x := 65) (packS (x := 64) (packS (x := 63) (packS (x := 60) (packS (x := 59) (packS (x := 9) (packS (x := 6) (packS (x := 5) (packS (x := 4) (pack1 (x := 0) rfl) rfl) rfl) rfl) rfl) rfl) rfl) rfl) rfl) rfl), rfl, hX123, Pin.le_refl _, Nat.zero_le _, (by rw [List.take_zero, List.append_nil]; exact hin3), hsn3, hw124, hm125, hpk126, hnp127⟩ ?_)
 rintro k137 _ w138 ⟨env1, j, lv4, ls4, sn4, GL4, rfl, hk139, hX140, hlek137, hj, hin4, hsn4, hw141, hm142, hpk143, hnp144⟩
 have hpl5 := hin4.ok.len
 refine s_seq (c_reg ?_)
 refine qd rfl rfl rfl (r_lss rfl rfl) (qe (s_then (s_seq ?_)))
 refine c_ifd (p := ((j : Int) : Int) < ((pick2 s ((q.ns.getD (ls2.getD k2 0).toNat default).l) ((q.ns.getD (ls2.getD k2 0).toNat default).r)).length : Int)) rfl rfl (fun h145 => ?_) (fun h145 => ?_)
 refine wp_skip (s_then (s_seq ?_))
 refine s_blk (s_seq (c_reg ?_))
 refine qd rfl rfl rfl (run_idx Tryz.underlying57 sz3 (v := u129) rfl rfl hr130 (by omega) (by omega)) (qd rfl rfl rfl (run_load_int (r := (pick2 s ((q.ns.getD (ls2.getD k2 0).toNat default).l) ((q.ns.getD (ls2.getD k2 0).toNat default).r)).getD j 0) rfl ag3 (z := (j : Int)) rfl hr130 (Pins.of_le hX140.pins hlek137) (by omega) (by omega)) (qd rfl rfl rfl (r_assign (v := (.int .i64 ((pick2 s ((q.ns.getD (ls2.getD k2 0).toNat default).l) ((q.ns.getD (ls2.getD k2 0).toNat default).r)).getD j 0))) rfl) (qe (s_then (s_seq (c_reg ?_))))))
 refine qd rfl rfl rfl (r_move (v := (.map (some m3))) rfl) (qd rfl rfl rfl (r_move (v := (.int .i64 ((pick2 s ((q.ns.getD (ls2.getD k2 0).toNat default).l) ((q.ns.getD (ls2.getD k2 0).toNat default).r)).getD j 0))) rfl) (qd rfl rfl rfl (run_look1_bool (k := ((pick2 s ((q.ns.getD (ls2.getD k2 0).toNat default).l) ((q.ns.getD (ls2.getD k2 0).toNat default).r)).getD j 0)) (key_int Tryz.underlying3) Tryz.underlying148 zr4 hm142 rfl rfl) (qd rfl rfl rfl (r_not rfl) (qe (s_then ?_)))))
 refine c_ifn rfl rfl (fun h146 => ?_) (fun h146 => ?_)
 refine wp_skip (s_blkN (s_then (c_reg ?_)))
 refine qd rfl rfl rfl (r_add rfl rfl (by omega)) (qd rfl rfl rfl (r_move (v := (.int .i64 ((j : Int) + 1))) rfl) (qe (s_lopN (⟨_, ?_, _, rfl, _, j + 1, lv4, ls4, sn4, GL4, (packS (x := 65) (packS (x := 64) (packS (x := 63) (packS (x := 60) (packS (x := 59) (packS (x := 9) (packS (x := 6) (packS (x := 5) (packS (x := 4) (pack1 (x := 0) rfl) rfl) rfl) rfl) rfl) rfl) rfl) rfl) rfl) rfl), rfl, hX140, hlek137, (by omega), (by rw [take_snoc _ 0 (show j < (pick2 s (q.ns.getD (ls2.getD k2 0).toNat default).l (q.ns.getD (ls2.getD k2 0).toNat default).r).length by omega), ← List.append_assoc]; exact hin4.seen (hsn4.yes h146)), hsn4, hw141, hm142, hpk143, hnp144⟩))))
 omega
 refine s_seq (c_reg ?_)
 refine qd rfl rfl rfl (r_move (v := (.map (some m3))) rfl) (qd rfl rfl rfl (r_move (v := (.int .i64 ((pick2 s ((q.ns.getD (ls2.getD k2 0).toNat default).l) ((q.ns.getD (ls2.getD k2 0).toNat default).r)).getD j 0))) rfl) (q0 rfl rfl rfl (o_mapUpdate (val := (fun v : Bool => Value.bool v)) (k := ((pick2 s ((q.ns.getD (ls2.getD k2 0).toNat default).l) ((q.ns.getD (ls2.getD k2 0).toNat default).r)).getD j 0)) (v := true) (key_int Tryz.underlying3) Tryz.underlying148 rfl rfl rfl hX140.pins hm142 (fun w147 hm148 hp149 hg150 hz151 => ?_))))
 have hX152 := hX140.write hp149 hg150 ((lo_box hlo12))
 have ho153 := hw141.keptA hg150 (map_ne_own hm142 hw141).symm
 have hpk154 := hpk143.kept hg150 hp149 hnp11
 refine qe (s_then (c_reg ?_))
 refine qd rfl rfl rfl (r_move (v := lv4) rfl) (qd rfl rfl rfl (r_move (v := (.int .i64 ((pick2 s ((q.ns.getD (ls2.getD k2 0).toNat default).l) ((q.ns.getD (ls2.getD k2 0).toNat default).r)).getD j 0))) rfl) (q1 rfl rfl rfl (o_buildF (E := eInt) (e := 3) [(.int .i64 ((pick2 s ((q.ns.getD (ls2.getD k2 0).toNat default).l) ((q.ns.getD (ls2.getD k2 0).toNat default).r)).getD j 0))] [(pick2 s ((q.ns.getD (ls2.getD k2 0).toNat default).l) ((q.ns.getD (ls2.getD k2 0).toNat default).r)).getD j 0] Tryz.underlying57 sz3 zr3 (by exact reps1 (by rfl)) (ones1 (by rfl)) rfl rfl rfl rfl (by decide) hX152.pins (fun u155 w156 ho157 hp158 hl159 hk160 => ?_))))
 have hX161 := hX152.step hp158 hl159
 have ho162 := ho153.below hl159
 have hm163 := hm148.below hl159
 have hpk164 := hpk154.below hl159 hp158
 have ho171 : Own eInt 3 GL4 w156 w.heap.size u155 ([(pick2 s ((q.ns.getD (ls2.getD k2 0).toNat default).l) ((q.ns.getD (ls2.getD k2 0).toNat default).r)).getD j 0]) := ho157.weaken hX152.size
 refine q1 rfl rfl rfl (o_append (E := eInt) (v := lv4) (u := u155) 8 Tryz.underlying57 ap3 (by decide) rfl rfl hX161.pins ho162 ho171.src (by first | omega | (rw [List.nil_append]; omega) | (rw [List.length_nil]; omega) | (rw [List.length_append]; omega) | (simp; done) | (simp; omega) | (simp only [List.length_append, List.length_cons, List.length_nil]; omega)) (by first | omega | (rw [List.nil_append]; omega) | (rw [List.length_nil]; omega) | (rw [List.length_append]; omega) | (simp; done) | (simp; omega) | (simp only [List.length_append, List.length_cons, List.length_nil]; omega)) (hX161.size) (fun u172 w173 ho174 hp175 hg176 hw177 => ?_))
 have hX178 := hX161.write hp175 hg176 ((lo_own ho162))
 have hm180 := hm163.kept hg176 (map_ne_own hm163 ho162)
 have hpk181 := hpk164.kept hg176 hp175 hnp144
 have hnp183 := np_app hnp144 hpk164 hw177
 have hm184 : (ls4 ++ ([(pick2 s ((q.ns.getD (ls2.getD k2 0).toNat default).l) ((q.ns.getD (ls2.getD k2 0).toNat default).r)).getD j 0])).length = ls4.length + 1 := List.length_append
 refine qd rfl rfl rfl (r_assign (v := u172) rfl) (qe (s_blkN (s_then (c_reg ?_))))
 refine qd rfl rfl rfl (r_add rfl rfl (by omega)) (qd rfl rfl rfl (r_move (v := (.int .i64 ((j : Int) + 1))) rfl) (qe (s_lopN (⟨_, ?_, _, rfl, _, j + 1, u172, ls4 ++ ([(pick2 s ((q.ns.getD (ls2.getD k2 0).toNat default).l) ((q.ns.getD (ls2.getD k2 0).toNat default).r)).getD j 0]), putE sn4 ((pick2 s ((q.ns.getD (ls2.getD k2 0).toNat default).l) ((q.ns.getD (ls2.getD k2 0).toNat default).r)).getD j 0) true, GL4, (packS (x := 65) (packS (x := 64) (packS (x := 63) (packS (x := 60) (packS (x := 59) (packS (x := 9) (packS (x := 6) (packS (x := 5) (packS (x := 4) (pack1 (x := 0) rfl) rfl) rfl) rfl) rfl) rfl) rfl) rfl) rfl) rfl), rfl, hX178, hlek137, (by omega), (by rw [take_snoc _ 0 (show j < (pick2 s (q.ns.getD (ls2.getD k2 0).toNat default).l (q.ns.getD (ls2.getD k2 0).toNat default).r).length by omega), ← List.append_assoc]; exact hin4.new hok (hsn4.no h146) (dz_in (by omega) (by omega))), hsn4.put, ho174, hm180, hpk181, hnp183⟩))))
 omega
 have hjn : j = (pick2 s (q.ns.getD (ls2.getD k2 0).toNat default).l (q.ns.getD (ls2.getD k2 0).toNat default).r).length := by omega
 rw [hjn, take_all (Nat.le_refl _)] at hin4
 have hin5 : PtIn q xs ls4 k2 (ls2.getD k2 0) (dzL (q.ns.getD (ls2.getD k2 0).toNat default).l (q.ns.getD (ls2.getD k2 0).toNat default).r (s + 1)) := by rw [dz_next (by omega)]; exact hin4
 refine wp_exit (s_thenE (s_lopE (s_blkE (s_blkN (s_then (c_reg ?_))))))
 refine qd rfl rfl rfl (r_add rfl rfl (by omega)) (qd rfl rfl rfl (r_move (v := (.int .i64 ((s : Int) + 1))) rfl) (qe (s_lopN (⟨_, ?_, _, rfl, _, s + 1, lv4, ls4, sn4, GL4, (packS (x := 60) (packS (x := 59) (packS (x := 9) (packS (x := 6) (packS (x := 5) (packS (x := 4) (pack1 (x := 0) rfl) rfl) rfl) rfl) rfl) rfl) rfl), rfl, hX140, (Pin.le_trans hlek120 hlek137), (by omega), hin5, hsn4, hw141, hm142, hpk143, hnp144⟩))))
 omega
 have hs2 : s = 2 := by omega
 rw [hs2] at hin3
 have hdone := hin3.done (fun o ho => ho)
 have hpl4 := hdone.kl
 refine wp_exit (s_thenE (s_lopE (s_blkE (s_blkN (s_then (c_reg ?_))))))
 refine qd rfl rfl rfl (r_move (v := (.int .i64 (k2 : Int))) rfl) (qd rfl rfl rfl (r_add rfl rfl (by omega)) (qd rfl rfl rfl (r_assign (v := (.int .i64 ((k2 : Int) + 1))) rfl) (qe (s_lopN (⟨_, ?_, _, rfl, _, k2 + 1, lv3, ls3, sn3, GL3, (packS (x := 9) (packS (x := 6) (packS (x := 5) (packS (x := 4) (pack1 (x := 0) rfl) rfl) rfl) rfl) rfl), rfl, hX123, (Pin.le_trans hlek84 hlek120), hdone, hsn3, hw124, hm125, hpk126, hnp127⟩)))))
 omega
 refine wp_exit (s_thenE (s_lopE (s_blkE (s_then (s_seq (c_reg ?_))))))
 refine qd rfl rfl rfl (r_move (v := lv2) rfl) (qd rfl rfl rfl (r_assign (v := lv2) rfl) (qe (s_then ?_)))
 refine wp_ret (s_ret (c_ret1 (v := lv2) rfl rfl rfl ?_))
 have hkk : k2 = ls2.length := by omega
 rw [hkk] at hpt2
 exact ⟨_, _, _, rfl, hw88, hpt2, hX87⟩

end PA1
end Go.Proofs.YtkfgdhanaijddaaGreatDoor

set_option maxRecDepth 20000
set_option maxHeartbeats 2000000
namespace Go.Proofs.YtkfgdhanaijddaaGreatDoor
namespace SO1
open Go.RowKit Go.GL Go.Proofs
open B1










theorem cmpB_spec {w : World} {G : Pin} {p : Nat} {L R B : Value} {mm : PM} {q : PSt} (hP : Pins G w) (hpk : Pk 57 3 G w p L R B mm q) (hok : PoolOk q) {bx : Nat} (hbx : BxP G bx [.pointer (some ⟨p, 0, none⟩)]) {a b : Int} (ha : PlaceOk q a) (hb : PlaceOk q b) :
  Calls Tryz.prog 120 [(.int .i64 a), (.int .i64 b), (.pointer (some ⟨bx, 0, none⟩))].toArray w fun e w' => e = .returned (.int .i64 (cmpI (bn q a) (bn q b))) ∧ ∃ n os, w' = Go.Sort.grow (w.drewN n) os := by
 refine s_enter (n := 21) Tryz.func120 Tryz.ntmps120 rfl rfl ?_
 have hX0 : Ext noS G w G w := Ext.refl hP
 have hpin : PIn w (inP p L R B mm) p L R B mm := PIn.self
 have hml1 : (q.ns.map Nd.l).length = q.ns.length ∧ (q.ns.map Nd.r).length = q.ns.length := ⟨List.length_map .., List.length_map ..⟩
 have hml2 : q.bs.length = q.ns.length ∧ q.ns.length ≤ 1048576 := ⟨hok.ar.ok.len, hok.ar.ok.lim⟩
 have ha0 := ha.1
 have ha1 := ha.2
 have hb0 := hb.1
 have hb1 := hb.2
 refine s_seq (c_reg ?_)
 refine qd rfl rfl rfl (r_assign (v := (.int .i64 0)) rfl) (qe (s_then (s_seq ?_)))
 have hq3 := Gadd.pins hX0.pins B
 have hr4 := hpk.ob.read
 refine c_draw (S := fun wz => Pins G wz ∧ BxR wz p [L, R, B, (.map (some mm.f)), (.map (some mm.o)), (.map (some mm.c)), (.map (some mm.s)), (.map (some mm.n))] ∧ Pins (Gadd G w B) wz) (last := 16) (by kernel_rfl) rfl ?_
 have hl5 : Below w.heap.size w w.drew := (Below.refl _ _).drew
 have hp6 := hX0.pins.below hl5
 have hdr7 : w.drew.drawn = w.drawn + 1 := rfl
 have hX8 := hX0.step hp6 hl5
 have hpk9 := hpk.below hl5 hp6
 have hq10 := hq3.below hl5
 refine dr_take (i := 0) rfl rfl rfl (want_none rfl _) (by kernel_rfl) (fun _ hS => r_ldp1 (u := (.pointer (some ⟨p, 0, none⟩))) ag69 rfl (hS.1 _ _ _ (hbx 0 _ rfl))) ⟨hX8.pins, hpk9.bx.reads, hq10⟩ (dr_take (i := 1) rfl rfl rfl (want_none rfl _) (by kernel_rfl) (fun _ _ => r_nil rfl) ⟨hX8.pins, hpk9.bx.reads, hq10⟩ (dr_take (i := 2) rfl rfl rfl (want_none rfl _) (by kernel_rfl) (fun _ _ => r_fldp (k := 2) rfl Tryz.underlying117 rfl nz57 rfl) ⟨hX8.pins, hpk9.bx.reads, hq10⟩ (dr_take (i := 3) rfl rfl rfl (want_none rfl _) (by kernel_rfl) (fun _ hS => r_ldp1 (u := B) ag57 rfl (hS.2.1 2 _ rfl)) ⟨hX8.pins, hpk9.bx.reads, hq10⟩ (dr_take (i := 4) rfl rfl rfl (want_none rfl _) (by kernel_rfl) (fun _ _ => r_move (v := (.int .i64 a)) rfl) ⟨hX8.pins, hpk9.bx.reads, hq10⟩ (dr_take (i := 5) rfl rfl rfl (want_none rfl _) (by kernel_rfl) (fun _ _ => run_idx Tryz.underlying57 sz3 (v := B) rfl rfl hr4 (by omega) (by omega)) ⟨hX8.pins, hpk9.bx.reads, hq10⟩ (dr_take (i := 6) rfl rfl rfl (want_none rfl _) (by kernel_rfl) (fun _ hS => run_load_int (r := q.bs.getD (a).toNat 0) rfl ag3 (z := a) rfl hr4 hS.2.2 (by omega) (by omega)) ⟨hX8.pins, hpk9.bx.reads, hq10⟩ (dr_take (i := 7) rfl rfl rfl (want_none rfl _) (by kernel_rfl) (fun _ hS => r_ldp1 (u := (.pointer (some ⟨p, 0, none⟩))) ag69 rfl (hS.1 _ _ _ (hbx 0 _ rfl))) ⟨hX8.pins, hpk9.bx.reads, hq10⟩ (dr_take (i := 8) rfl rfl rfl (want_none rfl _) (by kernel_rfl) (fun _ _ => r_nil rfl) ⟨hX8.pins, hpk9.bx.reads, hq10⟩ (dr_take (i := 9) rfl rfl rfl (want_none rfl _) (by kernel_rfl) (fun _ _ => r_fldp (k := 2) rfl Tryz.underlying117 rfl nz57 rfl) ⟨hX8.pins, hpk9.bx.reads, hq10⟩ (dr_take (i := 10) rfl rfl rfl (want_none rfl _) (by kernel_rfl) (fun _ hS => r_ldp1 (u := B) ag57 rfl (hS.2.1 2 _ rfl)) ⟨hX8.pins, hpk9.bx.reads, hq10⟩ (dr_take (i := 11) rfl rfl rfl (want_none rfl _) (by kernel_rfl) (fun _ _ => r_move (v := (.int .i64 b)) rfl) ⟨hX8.pins, hpk9.bx.reads, hq10⟩ (dr_take (i := 12) rfl rfl rfl (want_none rfl _) (by kernel_rfl) (fun _ _ => run_idx Tryz.underlying57 sz3 (v := B) rfl rfl hr4 (by omega) (by omega)) ⟨hX8.pins, hpk9.bx.reads, hq10⟩ (dr_take (i := 13) rfl rfl rfl (want_none rfl _) (by kernel_rfl) (fun _ hS => run_load_int (r := q.bs.getD (b).toNat 0) rfl ag3 (z := b) rfl hr4 hS.2.2 (by omega) (by omega)) ⟨hX8.pins, hpk9.bx.reads, hq10⟩ (dr_one (i := 14) (by kernel_rfl) (drOp1 (i := 14) rfl rfl rfl (want_none rfl _) (o_call (vs := [(.int .i64 (q.bs.getD (a).toNat 0)), (.int .i64 (q.bs.getD (b).toNat 0))]) Tryz.func85 nm85 rfl rfl rfl ?_))))))))))))))))
 refine Calls.mono (cmpCompare_spec hX8.pins) ?_
 rintro _ _ ⟨rfl, rfl⟩
 refine ⟨_, rfl, ?_⟩
 refine ⟨fun _ => ⟨hX8.pins, hpk9.bx.reads, hq10⟩, ?_⟩
 exact dr_take (i := 15) rfl rfl rfl (want_none rfl _) (by kernel_rfl) (fun _ _ => r_assign (v := (.int .i64 (cmpI (q.bs.getD (a).toNat 0) (q.bs.getD (b).toNat 0)))) rfl) ⟨hX8.pins, hpk9.bx.reads, hq10⟩ (dr_end (by kernel_rfl) (s_then (wp_ret (s_ret (c_ret1 (v := (.int .i64 (cmpI (q.bs.getD (a).toNat 0) (q.bs.getD (b).toNat 0)))) rfl rfl rfl (⟨rfl, grow_of hX8.below (by omega)⟩))))))

theorem cmpE_spec {w : World} {G : Pin} {x y : Ent} (hP : Pins G w) (hx : EntOk G x) (hy : EntOk G y) :
  Calls Tryz.prog 123 [(.agg [(.int .i64 x.id), x.l, x.r].toArray), (.agg [(.int .i64 y.id), y.l, y.r].toArray)].toArray w fun e w' => e = .returned (.int .i64 (orL [cmpL x.nd.l y.nd.l, cmpL x.nd.r y.nd.r])) ∧ ∃ n os, w' = Go.Sort.grow (w.drewN n) os := by
 refine s_enter (n := 21) Tryz.func123 Tryz.ntmps123 rfl rfl ?_
 have hX0 : Ext noS G w G w := Ext.refl hP
 refine s_seq (c_reg ?_)
 refine q1 rfl rfl rfl (o_boxd [(.int .i64 x.id), x.l, x.r] (v := (.agg [(.int .i64 x.id), x.l, x.r].toArray)) rfl rfl hX0.pins (fun b1 w2 hdn7 hk3 hb4 hp5 hl6 => ?_))
 have hX8 := hX0.step hp5 hl6
 have hlo9 : w.heap.size ≤ b1 := by have := hX0.size; omega
 obtain ⟨G10, hle11, hX12, hbp13, hf14⟩ := hb4.shut hX8 hlo9
 refine q1 rfl rfl rfl (o_boxd [(.int .i64 y.id), y.l, y.r] (v := (.agg [(.int .i64 y.id), y.l, y.r].toArray)) rfl rfl hX12.pins (fun b15 w16 hdn21 hk17 hb18 hp19 hl20 => ?_))
 have hX22 := hX12.step hp19 hl20
 have hlo23 : w.heap.size ≤ b15 := by have := hX12.size; omega
 obtain ⟨G24, hle25, hX26, hbp27, hf28⟩ := hb18.shut hX22 hlo23
 refine qd rfl rfl rfl (r_assign (v := (.int .i64 0)) rfl) (qe (s_then (s_seq ?_)))
 refine c_draw (S := fun wz => Pins G24 wz) (last := 17) (by kernel_rfl) rfl ?_
 have hl29 : Below w16.heap.size w16 w16.drew := (Below.refl _ _).drew
 have hp30 := hX26.pins.below hl29
 have hdr31 : w16.drew.drawn = w16.drawn + 1 := rfl
 have hX32 := hX26.step hp30 hl29
 refine dr_take (i := 0) rfl rfl rfl (want_none rfl _) (by kernel_rfl) (fun _ _ => r_fldp (k := 1) rfl Tryz.underlying139 rfl nz68 rfl) hX32.pins (dr_take (i := 1) rfl rfl rfl (want_none rfl _) (by kernel_rfl) (fun _ _ => r_fldp (k := 1) rfl Tryz.underlying68 rfl nz57 rfl) hX32.pins (dr_take (i := 2) rfl rfl rfl (want_none rfl _) (by kernel_rfl) (fun _ hS => r_ldp1 (u := x.l) ag57 rfl ((Pins.of_le hS hle25) _ _ _ (hbp13 1 _ rfl))) hX32.pins (dr_take (i := 3) rfl rfl rfl (want_none rfl _) (by kernel_rfl) (fun _ _ => r_fldp (k := 1) rfl Tryz.underlying139 rfl nz68 rfl) hX32.pins (dr_take (i := 4) rfl rfl rfl (want_none rfl _) (by kernel_rfl) (fun _ _ => r_fldp (k := 1) rfl Tryz.underlying68 rfl nz57 rfl) hX32.pins (dr_take (i := 5) rfl rfl rfl (want_none rfl _) (by kernel_rfl) (fun _ hS => r_ldp1 (u := y.l) ag57 rfl (hS _ _ _ (hbp27 1 _ rfl))) hX32.pins (dr_take (i := 7) rfl rfl rfl (want_none rfl _) (by kernel_rfl) (fun _ _ => r_fldp (k := 1) rfl Tryz.underlying139 rfl nz68 rfl) hX32.pins (dr_take (i := 8) rfl rfl rfl (want_none rfl _) (by kernel_rfl) (fun _ _ => r_fldp (k := 2) rfl Tryz.underlying68 rfl nz57 rfl) hX32.pins (dr_take (i := 9) rfl rfl rfl (want_none rfl _) (by kernel_rfl) (fun _ hS => r_ldp1 (u := x.r) ag57 rfl ((Pins.of_le hS hle25) _ _ _ (hbp13 2 _ rfl))) hX32.pins (dr_take (i := 10) rfl rfl rfl (want_none rfl _) (by kernel_rfl) (fun _ _ => r_fldp (k := 1) rfl Tryz.underlying139 rfl nz68 rfl) hX32.pins (dr_take (i := 11) rfl rfl rfl (want_none rfl _) (by kernel_rfl) (fun _ _ => r_fldp (k := 2) rfl Tryz.underlying68 rfl nz57 rfl) hX32.pins (dr_take (i := 12) rfl rfl rfl (want_none rfl _) (by kernel_rfl) (fun _ hS => r_ldp1 (u := y.r) ag57 rfl (hS _ _ _ (hbp27 2 _ rfl))) hX32.pins (dr_one (i := 6) (by kernel_rfl) (drOp1 (i := 6) rfl rfl rfl (want_none rfl _) (o_call (vs := [x.l, y.l]) Tryz.func107 nm107 rfl rfl rfl ?_))))))))))))))
 refine Calls.mono (slCompare_spec hX32.pins (hx.1.mono (Pin.le_trans hle11 hle25)) (hy.1.mono (Pin.le_trans hle11 hle25))) ?_
 rintro _ _ ⟨rfl, rfl⟩
 refine ⟨_, rfl, ?_⟩
 refine ⟨fun _ => hX32.pins, ?_⟩
 refine dr_one (i := 13) (by kernel_rfl) (drOp1 (i := 13) rfl rfl rfl (want_none rfl _) (o_call (vs := [x.r, y.r]) Tryz.func107 nm107 rfl rfl rfl ?_))
 refine Calls.mono (slCompare_spec hX32.pins (hx.2.1.mono (Pin.le_trans hle11 hle25)) (hy.2.1.mono (Pin.le_trans hle11 hle25))) ?_
 rintro _ _ ⟨rfl, rfl⟩
 refine ⟨_, rfl, ?_⟩
 refine ⟨fun _ => hX32.pins, ?_⟩
 refine dr_one (i := 14) (by kernel_rfl) (drOp1 (i := 14) rfl rfl rfl (want_none rfl _) (o_buildFd (E := eInt) (e := 3) [(.int .i64 (cmpL x.nd.l y.nd.l)), (.int .i64 (cmpL x.nd.r y.nd.r))] [cmpL x.nd.l y.nd.l, cmpL x.nd.r y.nd.r] Tryz.underlying57 sz3 zr3 (by exact reps2 (by rfl) (by rfl)) (ones2 (by rfl) (by rfl)) rfl rfl rfl rfl (by decide) hX32.pins (fun u33 w34 hdn39 ho35 hp36 hl37 hk38 => ?_)))
 have hX40 := hX32.step hp36 hl37
 have ho41 : Own eInt 3 G24 w34 w.heap.size u33 ([cmpL x.nd.l y.nd.l, cmpL x.nd.r y.nd.r]) := ho35.weaken hX32.size
 refine ⟨fun _ => hX40.pins, ?_⟩
 obtain ⟨G42, hle45, hX44, hr43, hf46⟩ := ho41.sealed hX40
 refine dr_one (i := 15) (by kernel_rfl) (drOp1 (i := 15) rfl rfl rfl (want_none rfl _) (o_call (vs := [u33]) Tryz.func106 nm106 rfl rfl rfl ?_))
 refine Calls.mono (cmpOr_spec hX44.pins hr43) ?_
 rintro _ _ ⟨rfl, rfl⟩
 refine ⟨_, rfl, ?_⟩
 refine ⟨fun _ => (Pins.of_le hX44.pins hle45), ?_⟩
 exact dr_take (i := 16) rfl rfl rfl (want_none rfl _) (by kernel_rfl) (fun _ _ => r_assign (v := (.int .i64 (orL ([cmpL x.nd.l y.nd.l, cmpL x.nd.r y.nd.r])))) rfl) (Pins.of_le hX44.pins hle45) (dr_end (by kernel_rfl) (s_then (wp_ret (s_ret (c_ret1 (v := (.int .i64 (orL ([cmpL x.nd.l y.nd.l, cmpL x.nd.r y.nd.r])))) rfl rfl rfl (⟨rfl, grow_of hX44.below (by omega)⟩))))))

theorem sortB_spec {w : World} {G : Pin} {p : Nat} {L R B : Value} {mm : PM} {q : PSt} (hP : Pins G w) (hpk : Pk 57 3 G w p L R B mm q) (hok : PoolOk q) {bx base : Nat} (hbx : BxP G bx [.pointer (some ⟨p, 0, none⟩)]) {v : Value} {zs : List Int} (hv : Own eInt 3 G w base v zs) (hz : ∀ z ∈ zs, PlaceOk q z) (hnp : NP p L R B mm v.ownBlock) (hl : zs.length ≤ 1048576) :
  Calls Tryz.prog 119 [v, (.func (.func 120) #[] #[(.pointer (some ⟨bx, 0, none⟩))])].toArray w fun en w' => ∃ ys : List Int, en = .returned (.tuple #[]) ∧ Own eInt 3 G w' base v ys ∧ ys.Perm zs ∧ (∀ i j, i < j → j < ys.length → bn q (ys.getD i 0) ≤ bn q (ys.getD j 0)) ∧ Ext (inO v.ownBlock) G w G w' := by
 have hnone : ∀ a cap, v = .slice a 0 cap → zs = [] → Calls Tryz.prog 119 [v, (.func (.func 120) #[] #[(.pointer (some ⟨bx, 0, none⟩))])].toArray w fun en w' => ∃ ys : List Int, en = .returned (.tuple #[]) ∧ Own eInt 3 G w' base v ys ∧ ys.Perm zs ∧ (∀ i j, i < j → j < ys.length → bn q (ys.getD i 0) ≤ bn q (ys.getD j 0)) ∧ Ext (inO v.ownBlock) G w G w' := by
  rintro a cap rfl rfl
  refine (Tryz.slices_SortFunc_none (α := Int) a cap _ w).mono ?_
  rintro en w' ⟨rfl, rfl⟩
  exact ⟨[], rfl, hv, List.Perm.refl _, fun i j _ hj => absurd hj (Nat.not_lt_zero j), Ext.refl hP⟩
 rcases own_cases hv with ⟨hv0, hz0⟩ | ⟨g, cap, hvg⟩
 ·exact hnone _ _ hv0 hz0
 by_cases h0 : zs.length = 0
 ·exact hnone _ _ (by rw [hvg, h0]) (List.eq_nil_of_length_eq_zero h0)
 subst hvg
 letI : Inhabited (Plc q) := ⟨⟨zs.getD 0 0, hz _ (getD_mem (by omega))⟩⟩
 obtain ⟨_, h1, h2, h3⟩ := own_holds hv
 obtain ⟨d, hd⟩ : ∃ d, d = (plcs q zs hz).toArray := ⟨_, rfl⟩
 have hdm : d.map (·.1) = zs.toArray := by rw [hd]; simp only [List.map_toArray]; rw [plcs_val hz]
 have hds : d.size = zs.length := by have := congrArg Array.size hdm; simpa using this
 have hH : Go.Sort.Holds (fun x : Plc q => Value.int .i64 x.1) w g 0 d := holds_map (enc' := Value.int .i64) (f := fun x : Plc q => x.1) (fun _ => rfl) (by rw [hdm]; exact h3)
 have hcmp : Go.Proofs.CmpLays1 Tryz.prog 120 #[(.pointer (some ⟨bx, 0, none⟩))] (fun x : Plc q => Value.int .i64 x.1) (cfB q) g 0 d.size w := fun m os dk hs x y => by
  have hgr : w.grownBy (Go.Proofs.sortWorld (fun x : Plc q => Value.int .i64 x.1) w g 0 m dk os) (some g) := by
   unfold Go.Proofs.sortWorld
   rw [putRow_map (enc := fun x : Plc q => Value.int .i64 x.1) (enc' := id) (f := fun x : Plc q => Value.int .i64 x.1) (fun _ => rfl)]
   exact grownBy_put
  have hx := Ext.one (hP.grown hgr (fun k hk => by cases hk; exact hv.free g rfl)) hgr
  exact cmpB_spec hx.pins (hpk.extS hx fun k hk hs => hnp k hs hk) hok hbx x.2 y.2
 have hcon := Tryz.slices_SortFunc (fun x : Plc q => Value.int .i64 x.1) (fun _ => rfl) (cfB q) (swoB q) 120 #[(.pointer (some ⟨bx, 0, none⟩))] g 0 cap d w (Go.Proofs.enters_of Tryz.func120 (by kernel_rfl) rfl) hcmp hH h1 (by omega)
 rw [hds] at hcon
 refine hcon.mono ?_
 rintro en w' ⟨rfl, d', n, os, hp, hs, hw⟩
 rw [← hds] at hp hs
 obtain ⟨hsz, hpl⟩ := perm_list hp
 have hyl : (d'.map (·.1)).toList.length = zs.length := by simp [hsz, hds]
 obtain ⟨a, b, c⟩ := own_put (w' := w') (ys := (d'.map (·.1)).toList) (d := d'.map (·.1)) (os := os) (m := n) hv hP (by rw [hw]; unfold Go.Proofs.sortWorld; rw [putRow_map (enc := fun x : Plc q => Value.int .i64 x.1) (enc' := Value.int .i64) (f := fun x : Plc q => x.1) (fun _ => rfl)]) (by simp [hsz, hds]) (List.take_length ..)
 rw [hyl] at a
 refine ⟨_, rfl, a, ?_, fun i j hij hj => ?_, Ext.one b c⟩
 ·have h5 := hpl.map (·.1)
  have e2 : d.toList.map (·.1) = zs := by rw [hd]; exact plcs_val hz
  rw [e2] at h5; simpa using h5
 ·rw [hyl] at hj
  have h5 := hs i j (Nat.zero_le _) hij (by omega)
  rw [ltB] at h5
  have g1 : ∀ i, i < zs.length → (d'.map (·.1)).toList.getD i 0 = (d'[i]!).1 := fun i hi => by
   rw [getElem!_pos d' i (by omega)]
   simp [List.getD, show i < d'.size by omega]
  rw [g1 i (by omega), g1 j hj]
  have := of_decide_eq_false h5
  omega

theorem sortE_spec {w : World} {G : Pin} {base lo hi : Nat} {v : Value} {es : List Ent} {LV : List Leaf} (hP : Pins G w) (hv : Own eEnt 139 G w base v es) (hL : Lvs 3 G w lo hi LV) (hm : ∀ x ∈ es, (x.l, x.nd.l) ∈ LV ∧ (x.r, x.nd.r) ∈ LV) (hap : ApL LV v.ownBlock) (hl : es.length ≤ 1048576) :
  Calls Tryz.prog 122 [v, (.func (.func 123) #[] #[])].toArray w fun en w' => ∃ ys : List Ent, en = .returned (.tuple #[]) ∧ Own eEnt 139 G w' base v ys ∧ ys.Perm es ∧ (∀ i j, i < j → j < ys.length → ¬ aheadI (ys.getD j default).nd (ys.getD i default).nd < 0) ∧ Ext (inO v.ownBlock) G w G w' := by
 have hnone : ∀ a cap, v = .slice a 0 cap → es = [] → Calls Tryz.prog 122 [v, (.func (.func 123) #[] #[])].toArray w fun en w' => ∃ ys : List Ent, en = .returned (.tuple #[]) ∧ Own eEnt 139 G w' base v ys ∧ ys.Perm es ∧ (∀ i j, i < j → j < ys.length → ¬ aheadI (ys.getD j default).nd (ys.getD i default).nd < 0) ∧ Ext (inO v.ownBlock) G w G w' := by
  rintro a cap rfl rfl
  refine (Tryz.slices_SortFunc_ent_none (α := Int) a cap _ w).mono ?_
  rintro en w' ⟨rfl, rfl⟩
  exact ⟨[], rfl, hv, List.Perm.refl _, fun i j _ hj => absurd hj (Nat.not_lt_zero j), Ext.refl hP⟩
 rcases own_casesF hv with ⟨hv0, hz0⟩ | ⟨g, cap, hvg⟩
 ·exact hnone _ _ hv0 hz0
 by_cases h0 : es.length = 0
 ·exact hnone _ _ (by rw [hvg, h0]) (List.eq_nil_of_length_eq_zero h0)
 subst hvg
 have hz : ∀ x ∈ es, EntOk (GLv G w LV) x := fun x hx => ⟨hL.read (hm x hx).1, hL.read (hm x hx).2, (hL.own _ (hm x hx).1).one, (hL.own _ (hm x hx).2).one⟩
 letI : Inhabited (EntS (GLv G w LV)) := ⟨⟨es.getD 0 default, hz _ (getD_mem (by omega))⟩⟩
 obtain ⟨_, h1, cells, hcl, hr, hH0⟩ := own_cellsF hv
 obtain ⟨d, hd⟩ : ∃ d, d = (ents (GLv G w LV) es hz).toArray := ⟨_, rfl⟩
 have hdm : d.toList.map (·.1) = es := by rw [hd]; exact ents_val hz
 have hds : d.size = es.length := by have := congrArg List.length hdm; simpa using this
 have hdi : ∀ i, i < d.size → (d[i]!).1 = es.getD i default := fun i hi => by
  rw [getElem!_pos d i hi]
  have := congrArg (fun l : List Ent => l[i]?) hdm
  simp only [List.getElem?_map, Array.getElem?_toList, Array.getElem?_eq_getElem hi, Option.map_some] at this
  simp [List.getD, ← this]
 have hflat : Go.Sort.flatK (encE (G := GLv G w LV)) 3 d = cells.toArray := flatK_cells (by rw [hds]; exact hcl) fun i hi => by
  have h4 := hr i (es.getD i default) (by simp [List.getD, show i < es.length by omega])
  have h5 : (cells.drop (i * 3)).take 3 = [.int .i64 (es.getD i default).id, (es.getD i default).l, (es.getD i default).r] := h4.1
  rw [h5, ← hdi i hi]; rfl
 have hH : Go.Sort.HoldsK (encE (G := GLv G w LV)) 3 w g 0 d := by unfold Go.Sort.HoldsK; rw [hflat]; exact hH0
 have hcmp : Go.Proofs.CmpLays Tryz.prog 123 #[] (encE (G := GLv G w LV)) 3 cfE g 0 d.size w := fun m os dk hs x y => by
  have hgr : w.grownBy (Go.Proofs.sortWorldK (encE (G := GLv G w LV)) 3 w g 0 m dk os) (some g) := by
   unfold Go.Proofs.sortWorldK Go.Sort.putRowK
   exact grownBy_put
  have hpp : Pins (GLv G w LV) (Go.Proofs.sortWorldK (encE (G := GLv G w LV)) 3 w g 0 m dk os) := (GLv.pins hP).grown hgr fun k hk o u hG => by
   cases hk
   rcases hG with hG | ⟨⟨p, hp, hpo⟩, _⟩
   ·exact hv.free g rfl o u hG
   ·exact hap p hp g hpo rfl
  exact cmpE_spec hpp x.2 y.2
 have hcon := Tryz.slices_SortFunc_ent 3 (Go.GL.run_isAgg (by kernel_rfl)) (Go.GL.run_sizeOf (by kernel_rfl)) (encE (G := GLv G w LV)) (fun _ => rfl) (fun x u hu => by
  simp only [encE, List.mem_cons, List.not_mem_nil, or_false] at hu
  rcases hu with rfl | rfl | rfl
  ·rfl
  ·exact x.2.2.2.1
  ·exact x.2.2.2.2) cfE (swoE _) 123 #[] g 0 cap d w (Go.Proofs.enters_of Tryz.func123 (by kernel_rfl) rfl) hcmp hH h1 (by omega)
 rw [hds] at hcon
 refine hcon.mono ?_
 rintro en w' ⟨rfl, d', n, os, hp, hs, hw⟩
 rw [← hds] at hp hs
 obtain ⟨hsz, hpl⟩ := perm_list hp
 have hyl : (d'.toList.map (·.1)).length = es.length := by simp [hsz, hds]
 have g1 : ∀ i, i < es.length → (d'.toList.map (·.1)).getD i default = (d'[i]!).1 := fun i hi => by
  rw [getElem!_pos d' i (by omega)]
  simp [List.getD, show i < d'.size by omega]
 obtain ⟨a, b, c⟩ := own_putF (ys := d'.toList.map (·.1)) (F := Go.Sort.flatK (encE (G := GLv G w LV)) 3 d') (os := os) (m := n) hv hP hw (by rw [Go.Sort.size_flatK, hsz, hds]; rfl) hyl (fun i y hy => by
  have hi : i < es.length := by have := (List.getElem?_eq_some_iff.1 hy).1; omega
  have e1 := g1 i hi
  have e0 : (d'.toList.map (·.1)).getD i default = y := by rw [List.getD_eq_getElem?_getD, hy]; rfl
  have e2 : y = (d'[i]!).1 := e0.symm.trans e1
  have h5 := chunkK (enc := encE (G := GLv G w LV)) (k := 3) (fun _ => rfl) (d := d') (i := i) (by omega)
  refine ⟨h5.trans ?_, ?_, ?_⟩
  ·rw [e2]; rfl
  ·rw [e2]; exact (d'[i]!).2.2.2.1
  ·rw [e2]; exact (d'[i]!).2.2.2.2)
 refine ⟨_, rfl, a, ?_, fun i j hij hj => ?_, Ext.one b c⟩
 ·have h5 := hpl.map (·.1)
  rw [hdm] at h5; exact h5
 ·rw [hyl] at hj
  have h5 := hs i j (Nat.zero_le _) hij (by omega)
  rw [ltE] at h5
  rw [g1 i (by omega), g1 j hj]
  exact of_decide_eq_false h5

end SO1
end Go.Proofs.YtkfgdhanaijddaaGreatDoor

set_option maxRecDepth 20000
set_option maxHeartbeats 2000000
namespace Go.Proofs.YtkfgdhanaijddaaGreatDoor
namespace OD1
open Go.RowKit Go.GL Go.Proofs
open B1 PO1 PA1 SO1








theorem mk3 : (Tryz.prog.info? 3).map (fun i => (i.size, i.bytes, i.zero)) = some (1, 8, some (.int .i64 0)) := by kernel_rfl
theorem mk68 : (Tryz.prog.info? 68).map (fun i => (i.size, i.bytes, i.zero)) = some (2, 48, some (.agg #[(.slice none 0 0), (.slice none 0 0)])) := by kernel_rfl









theorem pl139 : (Tryz.prog.underlying 139).bind (placesD Tryz.prog) = some [(0, 1), (1, 2)] := by kernel_rfl
theorem pl68 : (Tryz.prog.underlying 68).bind (placesD Tryz.prog) = some [(0, 1), (1, 1)] := by kernel_rfl







theorem ranked_spec {w : World} {G : Pin} {v : Value} {xs : List Int} {m : Nat} {rk : List (Int × Int)} (hP : Pins G w) (hv : RSl eInt G v xs) (hmp : Mp (fun k : Int => Value.int .i64 k) (fun v : Int => Value.int .i64 v) w m rk) (hs : xs.length ≤ 1048576) :
  Calls Tryz.prog 121 [v, (.map (some m))].toArray w fun e w' => ∃ (u : Value) (G' : Pin), e = .returned u ∧ Own eInt 3 G' w' w.heap.size u (sortM (xs.map (rkI rk))) ∧ Ext noS G w G' w' := by
 refine s_enter (n := 28) Tryz.func121 Tryz.ntmps121 rfl rfl ?_
 have hX0 : Ext noS G w G w := Ext.refl hP
 have hm := hv.max
 have hal : (xs.map (rkI rk)).length = xs.length := List.length_map ..
 have hrl : (List.replicate xs.length (0 : Int)).length = xs.length := List.length_replicate
 refine s_seq (c_reg ?_)
 refine qd rfl rfl rfl (r_assign (v := (.slice none 0 0)) rfl) (qe (s_then (s_seq (c_reg ?_))))
 refine qd rfl rfl rfl (r_move (v := v) rfl) (qd rfl rfl rfl (run_len Tryz.underlying57 (v := v) rfl hv) (q1 rfl rfl rfl (o_make (E := eInt) 0 8 (.int .i64 0) Tryz.underlying57 mk3 (fun _ => rfl) rfl rfl hX0.pins (by omega) (by omega) (by omega) (fun u1 w2 ho3 hp4 hl5 hk6 => ?_))))
 have hX7 := hX0.step hp4 hl5
 have hm8 := hmp.below hl5
 have ho9 : Own eInt 3 G w2 w.heap.size u1 (List.replicate xs.length 0) := ho3.weaken hX0.size
 have hm10 : (List.replicate xs.length 0).length = xs.length := List.length_replicate ..
 refine qd rfl rfl rfl (r_assign (v := u1) rfl) (qe (s_then (s_seq (s_seq (c_reg ?_)))))
 refine qd rfl rfl rfl (r_move (v := v) rfl) (qd rfl rfl rfl (run_len Tryz.underlying57 (v := v) rfl hv) (qd rfl rfl rfl (r_move (v := (.int .i64 0)) rfl) (qe (s_then ?_))))
 refine s_blk (s_loop (fun (k : Nat) (en : Nat → Value) (W : World) => ∃ (env1 : Nat → Value) (j : Nat) (os : List Int), en = (upd (upd (upd (upd (upd (upd env1 1 (.map (some m))) 4 (.slice none 0 0)) 5 u1) 11 v) 12 (.int .i64 (xs.length : Int))) 13 (.int .i64 (j : Int))) ∧ k = xs.length - j ∧ Ext noS G w G W ∧ (j ≤ xs.length) ∧ (os = (xs.map (rkI rk)).take j ++ (List.replicate xs.length 0).drop j) ∧ (os.length = xs.length) ∧ (Own eInt 3 G W w.heap.size u1 (os)) ∧ (Mp (fun k : Int => Value.int .i64 k) (fun v : Int => Value.int .i64 v) W m (rk))) _ ⟨_, 0, List.replicate xs.length 0, (packS (x := 13) (packS (x := 12) (packS (x := 11) (packS (x := 5) (packS (x := 4) (pack1 (x := 1) rfl) rfl) rfl) rfl) rfl) rfl), rfl, hX7, Nat.zero_le _, rfl, hrl, ho9, hm8⟩ ?_)
 rintro k11 _ w12 ⟨env1, j, os, rfl, hk13, hX14, hj, hr, hol, hw15, hm16⟩
 refine s_seq (c_reg ?_)
 refine qd rfl rfl rfl (r_lss rfl rfl) (qe (s_then (s_seq ?_)))
 refine c_ifd (p := ((j : Int) : Int) < (xs.length : Int)) rfl rfl (fun h17 => ?_) (fun h17 => ?_)
 refine wp_skip (s_then (s_seq ?_))
 refine s_blk (s_seq (c_reg ?_))
 refine qd rfl rfl rfl (r_move (v := (.int .i64 (j : Int))) rfl) (qd rfl rfl rfl (run_idx Tryz.underlying57 sz3 (v := v) rfl rfl hv (by omega) (by omega)) (qd rfl rfl rfl (run_load_int (r := xs.getD j 0) rfl ag3 (z := (j : Int)) rfl hv hX14.pins (by omega) (by omega)) (qd rfl rfl rfl (r_assign (v := (.int .i64 (j : Int))) rfl) (qd rfl rfl rfl (r_assign (v := (.int .i64 (xs.getD j 0))) rfl) (qe (s_then (c_reg ?_)))))))
 refine qd rfl rfl rfl (r_move (v := u1) rfl) (qd rfl rfl rfl (r_move (v := (.int .i64 (j : Int))) rfl) (qd rfl rfl rfl (r_move (v := (.map (some m))) rfl) (qd rfl rfl rfl (r_move (v := (.int .i64 (xs.getD j 0))) rfl) (qd rfl rfl rfl (run_look1_int (k := (xs.getD j 0)) (key_int Tryz.underlying3) Tryz.underlying113 zr3 hm16 rfl rfl) (qd rfl rfl rfl (run_idx Tryz.underlying57 sz3 (v := u1) rfl rfl hw15.read (by omega) (by omega)) (q0 rfl rfl rfl (o_set (E := eInt) (v := u1) (u := (.int .i64 ((Go.GL.look rk (xs.getD j 0)).getD 0))) (z := (j : Int)) ((Go.GL.look rk (xs.getD j 0)).getD 0) sz3 rfl rfl rfl rfl hX14.pins hw15 (by omega) (by omega) (fun w18 ho19 hp20 hg21 hz22 => ?_))))))))
 have hX23 := hX14.write hp20 hg21 ((lo_own hw15))
 have hm24 := hm16.kept hg21 (map_ne_own hm16 hw15)
 refine qe (s_blkN (s_then (c_reg ?_)))
 refine qd rfl rfl rfl (r_add rfl rfl (by omega)) (qd rfl rfl rfl (r_move (v := (.int .i64 ((j : Int) + 1))) rfl) (qe (s_lopN (⟨_, ?_, _, rfl, _, j + 1, (os).set j ((Go.GL.look rk (xs.getD j 0)).getD 0), (packS (x := 13) (packS (x := 12) (packS (x := 11) (packS (x := 5) (packS (x := 4) (pack1 (x := 1) rfl) rfl) rfl) rfl) rfl) rfl), rfl, hX23, (by omega), (by rw [hr]; exact cur_set 0 (by omega) (by omega) (rk_getD (by omega))), ((List.length_set ..).trans hol), ho19, hm24⟩))))
 omega
 refine wp_exit (s_thenE (s_lopE (s_blkE (s_then (s_seq (c_reg ?_))))))
 refine qd rfl rfl rfl (r_move (v := u1) rfl) (q1 rfl rfl rfl (o_call (vs := [u1]) Tryz.func150 nm150 rfl rfl rfl ?_))
 refine Calls.mono (sortI_spec hX14.pins hw15 (by omega)) ?_
 rintro _ w26 ⟨G25, rfl, ho27, hx28⟩
 refine ⟨_, rfl, ?_⟩
 have hX29 := hX14.trans hx28 (fun i hi => (lo_own hw15) i hi)
 have hm31 := sortM_length os
 refine qe (s_then (s_seq (c_reg ?_)))
 refine qd rfl rfl rfl (r_move (v := u1) rfl) (qd rfl rfl rfl (r_assign (v := u1) rfl) (qe (s_then ?_)))
 refine wp_ret (s_ret (c_ret1 (v := u1) rfl rfl rfl ?_))
 rw [cur_end (by omega) (by omega)] at hr
 exact ⟨_, _, rfl, (by rw [← hr]; exact ho27), hX29⟩

theorem order_spec {w : World} {G : Pin} {p : Nat} {L R B : Value} {mm : PM} {q : PSt} (hP : Pins G w) (hpk : Pk 57 3 G w p L R B mm q) (hok : PoolOk q) {x : Value} {xs : List Int} (hx : RSl eInt G x xs) (hr : ∀ i, i < xs.length → PlaceOk q (xs.getD i 0)) (hxl : xs.length ≤ 1048576) :
  Calls Tryz.prog 65 [(.pointer (some ⟨p, 0, none⟩)), x].toArray w fun e w' => ∃ (u v : Value) (ls : List Int) (ns : List Nd) (zs : List Int) (G' : Pin), e = .returned (.tuple #[u, v]) ∧ Own eInt 3 G' w' w.heap.size u ls ∧ DForm 68 3 G' w' w.heap.size w'.heap.size v ns ∧ OrI q zs ls ls.length ns ∧ PtOk q xs zs zs.length ∧ Ext noS G w G' w' := by
 refine s_enter (n := 122) Tryz.func65 Tryz.ntmps65 rfl rfl ?_
 have hX0 : Ext noS G w G w := Ext.refl hP
 have hpin : PIn w (inP p L R B mm) p L R B mm := PIn.self
 have hml1 : (q.ns.map Nd.l).length = q.ns.length ∧ (q.ns.map Nd.r).length = q.ns.length := ⟨List.length_map .., List.length_map ..⟩
 have hml2 : q.bs.length = q.ns.length ∧ q.ns.length ≤ 1048576 := ⟨hok.ar.ok.len, hok.ar.ok.lim⟩
 have hlv0 : Lvs 3 G w w.heap.size w.heap.size [] := Lvs.nil
 have hm := hx.max
 refine s_seq (c_reg ?_)
 refine q1 rfl rfl rfl (o_box [(.pointer (some ⟨p, 0, none⟩))] (v := (.pointer (some ⟨p, 0, none⟩))) rfl rfl hX0.pins (fun b3 w4 hk5 hb6 hp7 hl8 => ?_))
 have hX9 := hX0.step hp7 hl8
 have hlv10 := (hlv0.below hl8).top
 have hpk11 := hpk.below hl8 hp7
 have ha16 : ApL [] (some b3) := ApL.fresh hlv0 (fun k hk => by rw [(congrArg some hk5)] at hk; cases hk; exact Nat.le_refl _)
 have ha17 := hpk.new (x := (some b3)) (fun k hk => by rw [(congrArg some hk5)] at hk; cases hk; exact Nat.le_refl _)
 have hlo18 : w.heap.size ≤ b3 := by have := hX0.size; omega
 obtain ⟨G19, hle20, hX21, hbp22, hf23⟩ := hb6.shut hX9 hlo18
 have hlv24 := hlv10.more hle20 hf23 ha16
 have hpk25 := hpk11.more hle20 hf23 ha17
 refine qd rfl rfl rfl (r_assign (v := (.slice none 0 0)) rfl) (qd rfl rfl rfl (r_assign (v := (.slice none 0 0)) rfl) (qe (s_then (s_seq (c_reg ?_)))))
 refine qd rfl rfl rfl (r_ldp1 (u := (.pointer (some ⟨p, 0, none⟩))) ag69 rfl (hX21.pins _ _ _ (hbp22 0 _ rfl))) (qd rfl rfl rfl (r_move (v := x) rfl) (q1 rfl rfl rfl (o_call (vs := [(.pointer (some ⟨p, 0, none⟩)), x]) Tryz.func101 nm101 rfl rfl rfl ?_)))
 refine Calls.mono (parts_spec hX21.pins hpk25 hok (hx.mono hle20) hr hxl) ?_
 rintro _ w29 ⟨u26, zs27, G28, rfl, ho30, hpt31, hx32⟩
 refine ⟨_, rfl, ?_⟩
 have hX33 := hX21.tr hx32
 have hlv34 := (hlv24.ext hx32).top
 have hpk35 := hpk25.ext hx32
 have ha36 : ApL [] u26.ownBlock := ApL.fresh hlv24 (fun k hk => (ho30.lt k hk).1)
 have hnp37 := hpk25.new (x := u26.ownBlock) (fun k hk => (ho30.lt k hk).1)
 have ho38 : Own eInt 3 G28 w29 w.heap.size u26 zs27 := ho30.weaken hX21.size
 have hql39 := hpt31.len
 refine qd rfl rfl rfl (r_assign (v := u26) rfl) (qe (s_then (s_seq (c_reg ?_))))
 refine qd rfl rfl rfl (r_move (v := u26) rfl) (qd rfl rfl rfl (r_makeFunc [(.pointer (some ⟨b3, 0, none⟩))] rfl) (q1 rfl rfl rfl (o_call (vs := [u26, (.func (.func 120) #[] #[(.pointer (some ⟨b3, 0, none⟩))])]) Tryz.func119 nm119 rfl rfl rfl ?_)))
 refine Calls.mono (sortB_spec hX33.pins hpk35 hok (hbp22.mono hx32.le) ho38 hpt31.pl hnp37 (by omega)) ?_
 rintro _ w41 ⟨ys40, rfl, ho42, hperm43, hsrt44, hx45⟩
 refine ⟨_, rfl, ?_⟩
 have hX46 := hX33.trans hx45 (fun i hi => (lo_own ho38) i hi)
 have hlv47 := Lvs.turned hlv34 hx45 ha36
 have hpk48 := hpk35.extS hx45 (fun k hk hx => hnp37 k hx hk)
 have hm49 := hperm43.length_eq
 refine qe (s_then (s_seq (c_reg ?_)))
 refine q1 rfl rfl rfl (o_makeMap (fun k : Int => Value.int .i64 k) (fun v : Int => Value.int .i64 v) hX46.pins (fun m50 w51 hk52 hm53 hp54 hl55 => ?_))
 have hX56 := hX46.step hp54 hl55
 have ho57 := ho42.below hl55
 have hlv58 := (hlv47.below hl55).top
 have hpk59 := hpk48.below hl55 hp54
 have hnp60 := hpk48.new (x := some m50) (fun k hk => by cases hk; omega)
 have hlo61 : w.heap.size ≤ m50 := by have := hX46.size; omega
 refine qd rfl rfl rfl (r_assign (v := (.map (some m50))) rfl) (qe (s_then (s_seq (c_reg ?_))))
 refine qd rfl rfl rfl (r_move (v := u26) rfl) (qd rfl rfl rfl (run_len Tryz.underlying57 (v := u26) rfl ho57.read) (q1 rfl rfl rfl (o_make0 (E := eVal2) Tryz.underlying26 mk68 rfl rfl hX56.pins (by omega) (by omega) (by omega) (fun u62 w63 ho64 hp65 hl66 hk67 => ?_))))
 have hX68 := hX56.step hp65 hl66
 have ho69 := ho57.below hl66
 have hlv70 := (hlv58.below hl66).top
 have hm71 := hm53.below hl66
 have hpk72 := hpk59.below hl66 hp65
 have ha73 : Apart u62.ownBlock u26.ownBlock := new_ne_own hk67 ho57.lt
 have ha78 : ApL [] u62.ownBlock := ApL.fresh hlv58 (fun k hk => by rw [hk67] at hk; cases hk; exact Nat.le_refl _)
 have ha79 := hpk59.new (x := u62.ownBlock) (fun k hk => by rw [hk67] at hk; cases hk; exact Nat.le_refl _)
 have ho80 : Own eVal2 68 G28 w63 w.heap.size u62 ([]) := ho64.weaken hX56.size
 refine qd rfl rfl rfl (r_assign (v := u62) rfl) (qe (s_then (s_seq (s_seq (c_reg ?_)))))
 refine qd rfl rfl rfl (r_assign (v := (.int .i64 0)) rfl) (qe (s_then ?_))
 refine s_blk (s_loop (fun (k : Nat) (en : Nat → Value) (W : World) => ∃ (env1 : Nat → Value) (n : Nat) (nv : Value) (done : List Ent) (ps : List (Value × Value)) (rk : List (Int × Int)) (LV : List Leaf) (ls : List Int) (GL1 : Pin), en = (upd (upd (upd (upd (upd (upd (upd env1 2 (.pointer (some ⟨b3, 0, none⟩))) 4 (.slice none 0 0)) 5 (.slice none 0 0)) 6 u26) 7 (.map (some m50))) 8 nv) 9 (.int .i64 (n : Int))) ∧ k = ls.length - n ∧ Ext noS G w GL1 W ∧ Pin.le G28 GL1 ∧ (OrI q zs27 ls n (done.map Ent.nd)) ∧ (RkOk ls n rk) ∧ (LV.Perm (lvE done)) ∧ (ps = done.map Ent.pr) ∧ (Own eInt 3 GL1 W w.heap.size u26 (ls)) ∧ (Own eVal2 68 GL1 W w.heap.size nv (ps)) ∧ (Apart u26.ownBlock nv.ownBlock) ∧ (Lvs 3 GL1 W w.heap.size W.heap.size LV) ∧ (ApL LV u26.ownBlock) ∧ (ApL LV nv.ownBlock) ∧ (Mp (fun k : Int => Value.int .i64 k) (fun v : Int => Value.int .i64 v) W m50 (rk)) ∧ (Pk 57 3 GL1 W p L R B mm q) ∧ (NP p L R B mm nv.ownBlock)) _ ⟨_, 0, u62, [], [], [], [], ys40, G28, (packS (x := 9) (packS (x := 8) (packS (x := 7) (packS (x := 6) (packS (x := 5) (packS (x := 4) (pack1 (x := 2) rfl) rfl) rfl) rfl) rfl) rfl) rfl), rfl, hX68, Pin.le_refl _, (OrI.start hperm43 hsrt44), (fun i hi => absurd hi (Nat.not_lt_zero i)), (List.Perm.refl _), rfl, ho69, ho80, ha73.symm, hlv70, ha36, ha78, hm71, hpk72, ha79⟩ ?_)
 rintro k85 _ w86 ⟨env1, n, nv, done, ps, rk, LV, ls, GL1, rfl, hk87, hX88, hlek85, hor, hrk, hLV, hps, hw89, hw90, ha91, hlv92, ha93, ha94, hm95, hpk96, hnp97⟩
 have hll := hor.perm.length_eq
 have hnl := hor.nl
 have hdl : done.length = n := by have := hor.len; simpa using this
 have hpsl : ps.length = n := by rw [hps, List.length_map]; exact hdl
 have hplk : ∀ i, i < ls.length → 0 ≤ ls.getD i 0 ∧ ls.getD i 0 < q.ns.length := fun i hi => hpt31.pl _ (hor.mem.1 (getD_mem hi))
 refine s_seq (s_seq (c_reg ?_))
 refine qd rfl rfl rfl (r_move (v := (.int .i64 (n : Int))) rfl) (qd rfl rfl rfl (r_move (v := u26) rfl) (qd rfl rfl rfl (run_len Tryz.underlying57 (v := u26) rfl hw89.read) (qd rfl rfl rfl (r_lss rfl rfl) (qe (s_then ?_)))))
 refine c_ifd (p := ((n : Int) : Int) < (ls.length : Int)) rfl rfl (fun h98 => ?_) (fun h98 => ?_)
 have hzn := hplk n (by omega)
 refine wp_skip (s_then (s_blk (s_seq (c_reg ?_))))
 refine q1 rfl rfl rfl (o_build0 (E := eEnt) (e := 139) Tryz.underlying136 sz139 hX88.pins (fun u99 w100 ho101 hp102 hl103 hk104 => ?_))
 have hX105 := hX88.step hp102 hl103
 have ho106 := hw89.below hl103
 have ho107 := hw90.below hl103
 have hlv108 := (hlv92.below hl103).top
 have hm109 := hm95.below hl103
 have hpk110 := hpk96.below hl103 hp102
 have ha111 : Apart u99.ownBlock u26.ownBlock := new_ne_own hk104 hw89.lt
 have ha112 : Apart u99.ownBlock nv.ownBlock := new_ne_own hk104 hw90.lt
 have ha117 : ApL LV u99.ownBlock := ApL.fresh hlv92 (fun k hk => by rw [hk104] at hk; cases hk; exact Nat.le_refl _)
 have ha118 := hpk96.new (x := u99.ownBlock) (fun k hk => by rw [hk104] at hk; cases hk; exact Nat.le_refl _)
 have ho119 : Own eEnt 139 GL1 w100 w.heap.size u99 ([]) := ho101.weaken hX88.size
 refine qd rfl rfl rfl (r_assign (v := u99) rfl) (qe (s_then (s_seq (s_seq (c_reg ?_)))))
 refine qd rfl rfl rfl (r_move (v := (.int .i64 (n : Int))) rfl) (qd rfl rfl rfl (r_assign (v := (.int .i64 (n : Int))) rfl) (qe (s_then ?_)))
 refine s_blk (c_cutE (fun (en : Nat → Value) (W : World) => ∃ (env1 : Nat → Value) (kk : Nat) (gv : Value) (gs : List Ent) (LV2 : List Leaf) (GL2 : Pin), en = (upd (upd (upd (upd (upd (upd (upd (upd (upd env1 2 (.pointer (some ⟨b3, 0, none⟩))) 4 (.slice none 0 0)) 5 (.slice none 0 0)) 6 u26) 7 (.map (some m50))) 8 nv) 9 (.int .i64 (n : Int))) 10 gv) 11 (.int .i64 (kk : Int))) ∧ Ext noS G w GL2 W ∧ Pin.le GL1 GL2 ∧ (kk = n + gs.length) ∧ (GrI q ls n (gs.map Ent.gn)) ∧ (LV2.Perm (lvE done ++ lvE gs)) ∧ (n + gs.length = ls.length ∨ bn q (ls.getD (n + gs.length) 0) ≠ bn q (ls.getD n 0)) ∧ (Own eEnt 139 GL2 W w.heap.size gv (gs)) ∧ (Own eInt 3 GL2 W w.heap.size u26 (ls)) ∧ (Own eVal2 68 GL2 W w.heap.size nv (ps)) ∧ (Apart gv.ownBlock u26.ownBlock) ∧ (Apart gv.ownBlock nv.ownBlock) ∧ (Lvs 3 GL2 W w.heap.size W.heap.size LV2) ∧ (ApL LV2 gv.ownBlock) ∧ (ApL LV2 u26.ownBlock) ∧ (ApL LV2 nv.ownBlock) ∧ (Mp (fun k : Int => Value.int .i64 k) (fun v : Int => Value.int .i64 v) W m50 (rk)) ∧ (Pk 57 3 GL2 W p L R B mm q) ∧ (NP p L R B mm gv.ownBlock)) 2 ?_ ?_)
 ·rintro _ w125 ⟨env1, kk, gv, gs, LV2, GL2, rfl, hX127, hlek124, hkk, hgr, hLV2, hend, hw128, hw129, hw130, ha131, ha132, hlv133, ha134, ha135, ha136, hm137, hpk138, hnp139⟩
  have hgl := hgr.le
  rw [List.length_map] at hgl
  have hg1 : 0 < gs.length := Nat.pos_of_ne_zero fun h => hend.elim (fun e => by omega) (fun e => by rw [h] at e; exact e rfl)
  refine s_blkE (s_then (s_seq (c_reg ?_)))
  refine qd rfl rfl rfl (r_move (v := gv) rfl) (q1 rfl rfl rfl (o_call (vs := [gv, (.func (.func 123) #[] #[])]) Tryz.func122 nm122 rfl rfl rfl ?_))
  refine Calls.mono (sortE_spec hX127.pins hw128 hlv133 (fun x hx => ⟨hLV2.mem_iff.2 (List.mem_append_right _ (lvE_mem hx).1), hLV2.mem_iff.2 (List.mem_append_right _ (lvE_mem hx).2)⟩) ha134 (by omega)) ?_
  rintro _ w141 ⟨gs140, rfl, ho142, hperm143, hasc144, hx145⟩
  refine ⟨_, rfl, ?_⟩
  have hX146 := hX127.trans hx145 (fun i hi => (lo_own hw128) i hi)
  have ho147 := hw129.extS hx145 (notO ha131.symm)
  have ho148 := hw130.extS hx145 (notO ha132.symm)
  have hlv149 := Lvs.turned hlv133 hx145 ha134
  have hm150 := hm137.extS hx145 (notOb (map_ne_own hm137 hw128))
  have hpk151 := hpk138.extS hx145 (fun k hk hx => hnp139 k hx hk)
  have hm152 := hperm143.length_eq
  refine qe (s_then (s_seq (s_seq (c_reg ?_))))
  refine qd rfl rfl rfl (r_move (v := gv) rfl) (qd rfl rfl rfl (run_len Tryz.underlying136 (v := gv) rfl ho142.read) (qd rfl rfl rfl (r_move (v := (.int .i64 0)) rfl) (qe (s_then ?_))))
  refine s_blk ?_
  have hgp : (gs140.map Ent.gn).Perm (gs.map Ent.gn) := hperm143.map _
  have hgl2 : n + gs140.length ≤ ls.length := by omega
  have hRl : (regroup ls n (gs140.map Ent.gn)).length = ls.length := regroup_length (by rw [List.length_map]; omega)
  have hRn : (regroup ls n (gs140.map Ent.gn)).Nodup := (regroup_perm hgr hgp).nodup_iff.2 (hor.perm.nodup_iff.2 hpt31.nd)
  refine s_loop (fun (k : Nat) (en : Nat → Value) (W : World) => ∃ (env1 : Nat → Value) (j : Nat) (nv3 : Value) (ls3 : List Int) (ps3 : List (Value × Value)) (rk3 : List (Int × Int)) (GL3 : Pin), en = (upd (upd (upd (upd (upd (upd (upd (upd (upd (upd (upd env1 2 (.pointer (some ⟨b3, 0, none⟩))) 4 (.slice none 0 0)) 5 (.slice none 0 0)) 6 u26) 7 (.map (some m50))) 8 nv3) 9 (.int .i64 (n : Int))) 10 gv) 90 gv) 91 (.int .i64 (gs140.length : Int))) 92 (.int .i64 (j : Int))) ∧ k = gs140.length - j ∧ Ext noS G w GL3 W ∧ Pin.le GL2 GL3 ∧ (j ≤ gs140.length) ∧ (ls3 = ls.take n ++ (gs140.take j).map Ent.id ++ ls.drop (n + j)) ∧ (RkOk (regroup ls n (gs140.map Ent.gn)) (n + j) rk3) ∧ (ps3 = (done ++ gs140.take j).map Ent.pr) ∧ (Own eInt 3 GL3 W w.heap.size u26 (ls3)) ∧ (Own eVal2 68 GL3 W w.heap.size nv3 (ps3)) ∧ (Own eEnt 139 GL3 W w.heap.size gv (gs140)) ∧ (Apart u26.ownBlock nv3.ownBlock) ∧ (Apart nv3.ownBlock gv.ownBlock) ∧ (Lvs 3 GL3 W w.heap.size W.heap.size LV2) ∧ (ApL LV2 u26.ownBlock) ∧ (ApL LV2 nv3.ownBlock) ∧ (ApL LV2 gv.ownBlock) ∧ (Mp (fun k : Int => Value.int .i64 k) (fun v : Int => Value.int .i64 v) W m50 (rk3)) ∧ (Pk 57 3 GL3 W p L R B mm q) ∧ (NP p L R B mm nv3.ownBlock)) _ ⟨_, 0, nv, ls, ps, rk, GL2, (packS (x := 92) (packS (x := 91) (packS (x := 90) (packS (x := 10) (packS (x := 9) (packS (x := 8) (packS (x := 7) (packS (x := 6) (packS (x := 5) (packS (x := 4) (pack1 (x := 2) rfl) rfl) rfl) rfl) rfl) rfl) rfl) rfl) rfl) rfl) rfl), rfl, hX146, Pin.le_refl _, Nat.zero_le _, (by simp), (hrk.reg hgl2), (by rw [List.take_zero, List.append_nil]; exact hps), ho147, ho148, ho142, ha91, ha132.symm, hlv149, ha135, ha136, ha134, hm150, hpk151, hnp97⟩ ?_
  rintro k157 _ w158 ⟨env1, j, nv3, ls3, ps3, rk3, GL3, rfl, hk159, hX160, hlek157, hj, hls3, hrk3, hps3, hw161, hw162, hw163, ha164, ha165, hlv166, ha167, ha168, ha169, hm170, hpk171, hnp172⟩
  have hl3 : ls3.length = ls.length := by rw [hls3]; simp; omega
  have hps3l : ps3.length = n + j := by rw [hps3]; simp; omega
  refine s_seq (c_reg ?_)
  refine qd rfl rfl rfl (r_lss rfl rfl) (qe (s_then (s_seq ?_)))
  refine c_ifd (p := ((j : Int) : Int) < (gs140.length : Int)) rfl rfl (fun h173 => ?_) (fun h173 => ?_)
  refine wp_skip (s_then (s_seq ?_))
  refine s_blk (s_seq (c_reg ?_))
  refine qd rfl rfl rfl (r_move (v := (.int .i64 (j : Int))) rfl) (qd rfl rfl rfl (run_idx Tryz.underlying136 sz139 (v := gv) rfl rfl hw163.read (by omega) (by omega)) ?_)
  obtain ⟨cs174, hrep175, hagg176, hcell177⟩ := nm_el (j := j) default (hw163.at (z := (j : Int)) (by omega) (by omega)) rfl
  obtain ⟨rfl, hone178, hone179⟩ := hrep175
  refine qd rfl rfl rfl (hagg176 ag139 sz139 rfl (Gadd.pins hX160.pins gv)) (q1 rfl rfl rfl (o_alloc [(.int .i64 0), (.slice none 0 0), (.slice none 0 0)] zr139 rfl hX160.pins (fun b180 w181 hk182 hb183 hp184 hl185 => ?_)))
  have hX186 := hX160.step hp184 hl185
  have ho187 := hw161.below hl185
  have ho188 := hw162.below hl185
  have ho189 := hw163.below hl185
  have hlv190 := (hlv166.below hl185).top
  have hm191 := hm170.below hl185
  have hpk192 := hpk171.below hl185 hp184
  have ha193 : Apart (some b180) u26.ownBlock := new_ne_own (congrArg some hk182) hw161.lt
  have ha194 : Apart (some b180) nv3.ownBlock := new_ne_own (congrArg some hk182) hw162.lt
  have ha195 : Apart (some b180) gv.ownBlock := new_ne_own (congrArg some hk182) hw163.lt
  have ha200 : ApL LV2 (some b180) := ApL.fresh hlv166 (fun k hk => by rw [(congrArg some hk182)] at hk; cases hk; exact Nat.le_refl _)
  have ha201 := hpk171.new (x := (some b180)) (fun k hk => by rw [(congrArg some hk182)] at hk; cases hk; exact Nat.le_refl _)
  have hlo202 : w.heap.size ≤ b180 := by have := hX160.size; omega
  refine qd rfl rfl rfl (r_assign (v := (.int .i64 (j : Int))) rfl) (q0 rfl rfl rfl (o_stp (cs' := [(.int .i64 ((gs140.getD j default).id)), (gs140.getD j default).l, (gs140.getD j default).r]) (us := [(.int .i64 ((gs140.getD j default).id)), (gs140.getD j default).l, (gs140.getD j default).r]) (v := (.agg [(.int .i64 ((gs140.getD j default).id)), (gs140.getD j default).l, (gs140.getD j default).r].toArray)) sz139 rfl rfl rfl (ones3 (by rfl) hone178 hone179) hX186.pins hb183 (Nat.le_of_ble_eq_true rfl) rfl (fun w203 hb204 hp205 hg206 hz207 => ?_)))
  have hX208 := hX186.write hp205 hg206 ((lo_box hlo202))
  have ho209 := ho187.keptA hg206 ha193.symm
  have ho210 := ho188.keptA hg206 ha194.symm
  have ho211 := ho189.keptA hg206 ha195.symm
  have hlv212 := (hlv190.kept hg206 ha200).top
  have hm213 := hm191.kept hg206 (map_ne_box hm191 hb183)
  have hpk214 := hpk192.kept hg206 hp205 ha201
  obtain ⟨G215, hle216, hX217, hbp218, hf219⟩ := hb204.shut hX208 hlo202
  have ho220 := ho209.moreA hle216 hf219 ha193.symm
  have ho221 := ho210.moreA hle216 hf219 ha194.symm
  have ho222 := ho211.moreA hle216 hf219 ha195.symm
  have hlv223 := hlv212.more hle216 hf219 ha200
  have hpk224 := hpk214.more hle216 hf219 ha201
  refine qe (s_then (s_seq (c_reg ?_)))
  refine qd rfl rfl rfl (r_move (v := u26) rfl) (qd rfl rfl rfl (r_move (v := (.int .i64 (n : Int))) rfl) (qd rfl rfl rfl (r_move (v := (.int .i64 (j : Int))) rfl) (qd rfl rfl rfl (r_add rfl rfl (by omega)) (qd rfl rfl rfl (r_fldp (k := 0) rfl Tryz.underlying139 rfl nz3 rfl) (qd rfl rfl rfl (r_ldp1 (u := (.int .i64 ((gs140.getD j default).id))) ag3 rfl (hX217.pins _ _ _ (hbp218 0 _ rfl))) (qd rfl rfl rfl (run_idx Tryz.underlying57 sz3 (v := u26) rfl rfl ho220.read (by omega) (by omega)) (q0 rfl rfl rfl (o_set (E := eInt) (v := u26) (u := (.int .i64 ((gs140.getD j default).id))) (z := ((n : Int) + (j : Int))) ((gs140.getD j default).id) sz3 rfl rfl rfl rfl hX217.pins ho220 (by omega) (by omega) (fun w225 ho226 hp227 hg228 hz229 => ?_)))))))))
  have hX230 := hX217.write hp227 hg228 ((lo_own ho220))
  have ho231 := ho221.keptA hg228 ha164.symm
  have ho232 := ho222.keptA hg228 ha131
  have hlv233 := (hlv223.kept hg228 ha167).top
  have hm234 := hm213.kept hg228 (map_ne_own hm213 ho220)
  have hpk235 := hpk224.kept hg228 hp227 hnp37
  refine qe (s_then (s_seq (c_reg ?_)))
  refine qd rfl rfl rfl (r_move (v := (.map (some m50))) rfl) (qd rfl rfl rfl (r_fldp (k := 0) rfl Tryz.underlying139 rfl nz3 rfl) (qd rfl rfl rfl (r_ldp1 (u := (.int .i64 ((gs140.getD j default).id))) ag3 rfl (hX230.pins _ _ _ (hbp218 0 _ rfl))) (qd rfl rfl rfl (r_move (v := (.int .i64 (n : Int))) rfl) (qd rfl rfl rfl (r_move (v := (.int .i64 (j : Int))) rfl) (qd rfl rfl rfl (r_add rfl rfl (by omega)) (q0 rfl rfl rfl (o_mapUpdate (val := (fun v : Int => Value.int .i64 v)) (k := ((gs140.getD j default).id)) (v := ((n : Int) + (j : Int))) (key_int Tryz.underlying3) Tryz.underlying113 rfl rfl rfl hX230.pins hm234 (fun w236 hm237 hp238 hg239 hz240 => ?_))))))))
  have hX241 := hX230.write hp238 hg239 ((lo_box hlo61))
  have ho242 := ho226.keptA hg239 (map_ne_own hm234 ho226).symm
  have ho243 := ho231.keptA hg239 (map_ne_own hm234 ho231).symm
  have ho244 := ho232.keptA hg239 (map_ne_own hm234 ho232).symm
  have hlv245 := (hlv233.kept hg239 (fun p hp => (map_ne_own hm234 (hlv233.own p hp)).symm)).top
  have hpk246 := hpk235.kept hg239 hp238 hnp60
  refine qe (s_then (c_reg ?_))
  refine qd rfl rfl rfl (r_move (v := nv3) rfl) (qd rfl rfl rfl (r_fldp (k := 1) rfl Tryz.underlying139 rfl nz68 rfl) (qd rfl rfl rfl (r_ldpA (cs := [(gs140.getD j default).l, (gs140.getD j default).r]) ag68 sz68 rfl (fun j u hj => hX241.pins _ _ _ (hbp218 _ _ (by rw [Nat.add_comm]; simpa using hj)))) (q1 rfl rfl rfl (o_build1 (E := eVal2) (e := 68) [(gs140.getD j default).l, (gs140.getD j default).r] (((gs140.getD j default).l, (gs140.getD j default).r) : Value × Value) Tryz.underlying26 sz68 zr68 ⟨rfl, hone178, hone179⟩ rfl (by decide) hX241.pins (fun u247 w248 ho249 hp250 hl251 hk252 => ?_)))))
  have hX253 := hX241.step hp250 hl251
  have ho254 := ho242.below hl251
  have ho255 := ho243.below hl251
  have ho256 := ho244.below hl251
  have hlv257 := (hlv245.below hl251).top
  have hm258 := hm237.below hl251
  have hpk259 := hpk246.below hl251 hp250
  have ho269 : Own eVal2 68 G215 w248 w.heap.size u247 ([(((gs140.getD j default).l, (gs140.getD j default).r) : Value × Value)]) := ho249.weaken hX241.size
  refine q1 rfl rfl rfl (o_append (E := eVal2) (v := nv3) (u := u247) 48 Tryz.underlying26 ap68 (by decide) rfl rfl hX253.pins ho255 ho269.src (by first | omega | (rw [List.nil_append]; omega) | (rw [List.length_nil]; omega) | (rw [List.length_append]; omega) | (simp; done) | (simp; omega) | (simp only [List.length_append, List.length_cons, List.length_nil]; omega)) (by first | omega | (rw [List.nil_append]; omega) | (rw [List.length_nil]; omega) | (rw [List.length_append]; omega) | (simp; done) | (simp; omega) | (simp only [List.length_append, List.length_cons, List.length_nil]; omega)) (hX253.size) (fun u270 w271 ho272 hp273 hg274 hw275 => ?_))
  have hX276 := hX253.write hp273 hg274 ((lo_own ho255))
  have ho277 := ho254.keptA hg274 ha164
  have ho278 := ho256.keptA hg274 ha165.symm
  have hlv280 := (hlv257.kept hg274 ha168).top
  have hm281 := hm258.kept hg274 (map_ne_own hm258 ho255)
  have hpk282 := hpk259.kept hg274 hp273 hnp172
  have ha283 : Apart u26.ownBlock u270.ownBlock := app_ne_own ha164 hw275 ho254.lt
  have ha284 : Apart gv.ownBlock u270.ownBlock := app_ne_own ha165.symm hw275 ho256.lt
  have ha286 : ApL LV2 u270.ownBlock := ApL.app hlv257 ha168 hw275
  have hnp287 := np_app hnp172 hpk259 hw275
  have hm288 : (ps3 ++ ([(((gs140.getD j default).l, (gs140.getD j default).r) : Value × Value)])).length = ps3.length + 1 := List.length_append
  refine qd rfl rfl rfl (r_assign (v := u270) rfl) (qe (s_blkN (s_then (c_reg ?_))))
  refine qd rfl rfl rfl (r_add rfl rfl (by omega)) (qd rfl rfl rfl (r_move (v := (.int .i64 ((j : Int) + 1))) rfl) (qe (s_lopN (⟨_, ?_, _, rfl, _, j + 1, u270, (ls3).set ((n : Int) + (j : Int)).toNat ((gs140.getD j default).id), ps3 ++ ([(((gs140.getD j default).l, (gs140.getD j default).r) : Value × Value)]), putE rk3 ((gs140.getD j default).id) ((n : Int) + (j : Int)), G215, (packS (x := 92) (packS (x := 91) (packS (x := 90) (packS (x := 10) (packS (x := 9) (packS (x := 8) (packS (x := 7) (packS (x := 6) (packS (x := 5) (packS (x := 4) (pack1 (x := 2) rfl) rfl) rfl) rfl) rfl) rfl) rfl) rfl) rfl) rfl) rfl), rfl, hX276, (Pin.le_trans hlek157 hle216), (by omega), (by rw [hls3, show ((n : Int) + (j : Int)).toNat = n + j by omega]; exact reg_step (by omega) (by omega)), (hrk3.ent hRn hgl2 (by omega)), (by rw [hps3, take_snoc _ default (by omega), ← List.append_assoc, List.map_append (l₁ := done ++ _)]; rfl), ho277, ho272, ho278, ha283, ha284.symm, hlv280, ha167, ha286, ha169, hm281, hpk282, hnp287⟩))))
  omega
  refine wp_exit (s_thenE (s_lopE (s_blkE (s_then (c_reg ?_)))))
  refine qd rfl rfl rfl (r_move (v := (.int .i64 (n : Int))) rfl) (qd rfl rfl rfl (r_move (v := gv) rfl) (qd rfl rfl rfl (run_len Tryz.underlying136 (v := gv) rfl hw163.read) (qd rfl rfl rfl (r_add rfl rfl (by omega)) (qd rfl rfl rfl (r_assign (v := (.int .i64 ((n : Int) + (gs140.length : Int)))) rfl) (qe (s_blkN (s_lopN ?_)))))))
  have hjn : j = gs140.length := by omega
  rw [hjn, reg_end] at hls3
  rw [hjn] at hrk3 hps3
  rw [List.take_length] at hps3
  have hls3l : ls3.length = ls.length := by rw [hls3]; exact hRl
  refine ⟨_, ?_, _, rfl, _, n + gs140.length, nv3, done ++ gs140, ps3, rk3, LV2, ls3, GL3, (packS (x := 9) (packS (x := 8) (packS (x := 7) (packS (x := 6) (packS (x := 5) (packS (x := 4) (pack1 (x := 2) rfl) rfl) rfl) rfl) rfl) rfl) rfl), rfl, hX160, (Pin.le_trans (Pin.le_trans hlek85 hlek124) hlek157), (by rw [hls3]; exact hor.ents hok hpt31 hgr (by omega) hend hperm143 hasc144), (by rw [hls3]; exact hrk3), (hLV2.trans (by rw [lvE_app]; exact List.Perm.append_left _ (lvE_perm hperm143.symm))), hps3, hw161, hw162, ha164, hlv166, ha167, ha168, hm170, hpk171, hnp172⟩
  omega
 refine s_loop (fun (k : Nat) (en : Nat → Value) (W : World) => ∃ (env1 : Nat → Value) (kk : Nat) (gv : Value) (gs : List Ent) (LV2 : List Leaf) (GL2 : Pin), en = (upd (upd (upd (upd (upd (upd (upd (upd (upd env1 2 (.pointer (some ⟨b3, 0, none⟩))) 4 (.slice none 0 0)) 5 (.slice none 0 0)) 6 u26) 7 (.map (some m50))) 8 nv) 9 (.int .i64 (n : Int))) 10 gv) 11 (.int .i64 (kk : Int))) ∧ k = ls.length - kk ∧ Ext noS G w GL2 W ∧ Pin.le GL1 GL2 ∧ (kk = n + gs.length) ∧ (GrI q ls n (gs.map Ent.gn)) ∧ (LV2.Perm (lvE done ++ lvE gs)) ∧ (Own eEnt 139 GL2 W w.heap.size gv (gs)) ∧ (Own eInt 3 GL2 W w.heap.size u26 (ls)) ∧ (Own eVal2 68 GL2 W w.heap.size nv (ps)) ∧ (Apart gv.ownBlock u26.ownBlock) ∧ (Apart gv.ownBlock nv.ownBlock) ∧ (Lvs 3 GL2 W w.heap.size W.heap.size LV2) ∧ (ApL LV2 gv.ownBlock) ∧ (ApL LV2 u26.ownBlock) ∧ (ApL LV2 nv.ownBlock) ∧ (Mp (fun k : Int => Value.int .i64 k) (fun v : Int => Value.int .i64 v) W m50 (rk)) ∧ (Pk 57 3 GL2 W p L R B mm q) ∧ (NP p L R B mm gv.ownBlock)) _ ⟨_, n, u99, [], LV, GL1, (packS (x := 11) (packS (x := 10) (packS (x := 9) (packS (x := 8) (packS (x := 7) (packS (x := 6) (packS (x := 5) (packS (x := 4) (pack1 (x := 2) rfl) rfl) rfl) rfl) rfl) rfl) rfl) rfl) rfl), rfl, hX105, Pin.le_refl _, rfl, (GrI.start hor), (by simpa [lvE] using hLV), ho119, ho106, ho107, ha111, ha112, hlv108, ha117, ha93, ha94, hm109, hpk110, ha118⟩ ?_
 rintro k124 _ w125 ⟨env1, kk, gv, gs, LV2, GL2, rfl, hk126, hX127, hlek124, hkk, hgr, hLV2, hw128, hw129, hw130, ha131, ha132, hlv133, ha134, ha135, ha136, hm137, hpk138, hnp139⟩
 have hgl := hgr.le
 rw [List.length_map] at hgl
 refine s_seq (s_seq ?_)
 have hq289 := Gadd.pins hX127.pins u26
 have hq290 := Gadd.pins hX127.pins B
 have hr291 := hw129.read
 have hr292 := hpk138.ob.read
 refine c_draw (S := fun wz => Pins (Gadd GL2 w125 u26) wz ∧ Pins GL2 wz ∧ BxR wz p [L, R, B, (.map (some mm.f)), (.map (some mm.o)), (.map (some mm.c)), (.map (some mm.s)), (.map (some mm.n))] ∧ Pins (Gadd GL2 w125 B) wz) (last := 27) (by kernel_rfl) rfl ?_
 have hl293 : Below w125.heap.size w125 w125.drew := (Below.refl _ _).drew
 have hp294 := hX127.pins.below hl293
 have hX295 := hX127.step hp294 hl293
 have ho296 := hw128.below hl293
 have ho297 := hw129.below hl293
 have ho298 := hw130.below hl293
 have hlv299 := (hlv133.below hl293).top
 have hm300 := hm137.below hl293
 have hpk301 := hpk138.below hl293 hp294
 have hq302 := hq289.below hl293
 have hq303 := hq290.below hl293
 refine dr_take (i := 0) rfl rfl rfl (want_none rfl _) (by kernel_rfl) (fun _ _ => r_move (v := (.int .i64 (kk : Int))) rfl) ⟨hq302, hX295.pins, hpk301.bx.reads, hq303⟩ (dr_take (i := 1) rfl rfl rfl (want_none rfl _) (by kernel_rfl) (fun _ _ => r_move (v := u26) rfl) ⟨hq302, hX295.pins, hpk301.bx.reads, hq303⟩ (dr_take (i := 2) rfl rfl rfl (want_none rfl _) (by kernel_rfl) (fun _ _ => run_len Tryz.underlying57 (v := u26) rfl hr291) ⟨hq302, hX295.pins, hpk301.bx.reads, hq303⟩ (dr_take (i := 3) rfl rfl rfl (want_none rfl _) (by kernel_rfl) (fun _ _ => r_lss rfl rfl) ⟨hq302, hX295.pins, hpk301.bx.reads, hq303⟩ (dr_take (i := 4) rfl rfl rfl (want_none rfl _) (by kernel_rfl) (fun _ _ => r_move (v := (.bool (decide (((kk : Int) : Int) < (ls.length : Int))))) rfl) ⟨hq302, hX295.pins, hpk301.bx.reads, hq303⟩ (drbd (p := ((kk : Int) : Int) < (ls.length : Int)) (t := 35) rfl (fun h304 => ?_) (fun h304 => ?_))))))
 have hzk := hplk kk (by omega)
 have hollk := hok.ar.ok.lens (ls.getD kk 0).toNat (by omega)
 refine dr_take (i := 5) rfl rfl rfl (want_yes rfl rfl rfl rfl) (by kernel_rfl) (fun _ hS => r_ldp1 (u := (.pointer (some ⟨p, 0, none⟩))) ag69 rfl ((Pins.of_le hS.2.1 (Pin.le_trans (Pin.le_trans hx32.le hlek85) hlek124)) _ _ _ (hbp22 0 _ rfl))) ⟨hq302, hX295.pins, hpk301.bx.reads, hq303⟩ (dr_take (i := 6) rfl rfl rfl (want_yes rfl rfl rfl rfl) (by kernel_rfl) (fun _ _ => r_nil rfl) ⟨hq302, hX295.pins, hpk301.bx.reads, hq303⟩ (dr_take (i := 7) rfl rfl rfl (want_yes rfl rfl rfl rfl) (by kernel_rfl) (fun _ _ => r_fldp (k := 2) rfl Tryz.underlying117 rfl nz57 rfl) ⟨hq302, hX295.pins, hpk301.bx.reads, hq303⟩ (dr_take (i := 8) rfl rfl rfl (want_yes rfl rfl rfl rfl) (by kernel_rfl) (fun _ hS => r_ldp1 (u := B) ag57 rfl (hS.2.2.1 2 _ rfl)) ⟨hq302, hX295.pins, hpk301.bx.reads, hq303⟩ (dr_take (i := 9) rfl rfl rfl (want_yes rfl rfl rfl rfl) (by kernel_rfl) (fun _ _ => r_move (v := u26) rfl) ⟨hq302, hX295.pins, hpk301.bx.reads, hq303⟩ (dr_take (i := 10) rfl rfl rfl (want_yes rfl rfl rfl rfl) (by kernel_rfl) (fun _ _ => r_move (v := (.int .i64 (kk : Int))) rfl) ⟨hq302, hX295.pins, hpk301.bx.reads, hq303⟩ (dr_take (i := 11) rfl rfl rfl (want_yes rfl rfl rfl rfl) (by kernel_rfl) (fun _ _ => run_idx Tryz.underlying57 sz3 (v := u26) rfl rfl hr291 (by omega) (by omega)) ⟨hq302, hX295.pins, hpk301.bx.reads, hq303⟩ (dr_take (i := 12) rfl rfl rfl (want_yes rfl rfl rfl rfl) (by kernel_rfl) (fun _ hS => run_load_int (r := ls.getD kk 0) rfl ag3 (z := (kk : Int)) rfl hr291 hS.1 (by omega) (by omega)) ⟨hq302, hX295.pins, hpk301.bx.reads, hq303⟩ (dr_take (i := 13) rfl rfl rfl (want_yes rfl rfl rfl rfl) (by kernel_rfl) (fun _ _ => run_idx Tryz.underlying57 sz3 (v := B) rfl rfl hr292 (by omega) (by omega)) ⟨hq302, hX295.pins, hpk301.bx.reads, hq303⟩ (dr_take (i := 14) rfl rfl rfl (want_yes rfl rfl rfl rfl) (by kernel_rfl) (fun _ hS => run_load_int (r := q.bs.getD (ls.getD kk 0).toNat 0) rfl ag3 (z := (ls.getD kk 0)) rfl hr292 hS.2.2.2 (by omega) (by omega)) ⟨hq302, hX295.pins, hpk301.bx.reads, hq303⟩ (dr_take (i := 15) rfl rfl rfl (want_yes rfl rfl rfl rfl) (by kernel_rfl) (fun _ hS => r_ldp1 (u := (.pointer (some ⟨p, 0, none⟩))) ag69 rfl ((Pins.of_le hS.2.1 (Pin.le_trans (Pin.le_trans hx32.le hlek85) hlek124)) _ _ _ (hbp22 0 _ rfl))) ⟨hq302, hX295.pins, hpk301.bx.reads, hq303⟩ (dr_take (i := 16) rfl rfl rfl (want_yes rfl rfl rfl rfl) (by kernel_rfl) (fun _ _ => r_nil rfl) ⟨hq302, hX295.pins, hpk301.bx.reads, hq303⟩ (dr_take (i := 17) rfl rfl rfl (want_yes rfl rfl rfl rfl) (by kernel_rfl) (fun _ _ => r_fldp (k := 2) rfl Tryz.underlying117 rfl nz57 rfl) ⟨hq302, hX295.pins, hpk301.bx.reads, hq303⟩ (dr_take (i := 18) rfl rfl rfl (want_yes rfl rfl rfl rfl) (by kernel_rfl) (fun _ hS => r_ldp1 (u := B) ag57 rfl (hS.2.2.1 2 _ rfl)) ⟨hq302, hX295.pins, hpk301.bx.reads, hq303⟩ (dr_take (i := 19) rfl rfl rfl (want_yes rfl rfl rfl rfl) (by kernel_rfl) (fun _ _ => r_move (v := u26) rfl) ⟨hq302, hX295.pins, hpk301.bx.reads, hq303⟩ ?_))))))))))))))
 refine dr_take (i := 20) rfl rfl rfl (want_yes rfl rfl rfl rfl) (by kernel_rfl) (fun _ _ => r_move (v := (.int .i64 (n : Int))) rfl) ⟨hq302, hX295.pins, hpk301.bx.reads, hq303⟩ (dr_take (i := 21) rfl rfl rfl (want_yes rfl rfl rfl rfl) (by kernel_rfl) (fun _ _ => run_idx Tryz.underlying57 sz3 (v := u26) rfl rfl hr291 (by omega) (by omega)) ⟨hq302, hX295.pins, hpk301.bx.reads, hq303⟩ (dr_take (i := 22) rfl rfl rfl (want_yes rfl rfl rfl rfl) (by kernel_rfl) (fun _ hS => run_load_int (r := ls.getD n 0) rfl ag3 (z := (n : Int)) rfl hr291 hS.1 (by omega) (by omega)) ⟨hq302, hX295.pins, hpk301.bx.reads, hq303⟩ (dr_take (i := 23) rfl rfl rfl (want_yes rfl rfl rfl rfl) (by kernel_rfl) (fun _ _ => run_idx Tryz.underlying57 sz3 (v := B) rfl rfl hr292 (by omega) (by omega)) ⟨hq302, hX295.pins, hpk301.bx.reads, hq303⟩ (dr_take (i := 24) rfl rfl rfl (want_yes rfl rfl rfl rfl) (by kernel_rfl) (fun _ hS => run_load_int (r := q.bs.getD (ls.getD n 0).toNat 0) rfl ag3 (z := (ls.getD n 0)) rfl hr292 hS.2.2.2 (by omega) (by omega)) ⟨hq302, hX295.pins, hpk301.bx.reads, hq303⟩ (dr_take (i := 25) rfl rfl rfl (want_yes rfl rfl rfl rfl) (by kernel_rfl) (fun _ _ => r_eql rfl rfl) ⟨hq302, hX295.pins, hpk301.bx.reads, hq303⟩ (dr_take (i := 26) rfl rfl rfl (want_none rfl _) (by kernel_rfl) (fun _ _ => r_pickT (v := (.bool (decide ((q.bs.getD (ls.getD kk 0).toNat 0 : Int) = (q.bs.getD (ls.getD n 0).toNat 0))))) rfl rfl) ⟨hq302, hX295.pins, hpk301.bx.reads, hq303⟩ (dr_end (by kernel_rfl) (s_then (c_ifd (p := (q.bs.getD (ls.getD kk 0).toNat 0 : Int) = (q.bs.getD (ls.getD n 0).toNat 0)) rfl rfl (fun h305 => ?_) (fun h305 => ?_))))))))))
 refine wp_skip (s_then (s_seq ?_))
 refine s_blk (s_seq (c_reg ?_))
 refine qd rfl rfl rfl (r_move (v := u26) rfl) (qd rfl rfl rfl (r_move (v := (.int .i64 (kk : Int))) rfl) (qd rfl rfl rfl (run_idx Tryz.underlying57 sz3 (v := u26) rfl rfl ho297.read (by omega) (by omega)) (qd rfl rfl rfl (run_load_int (r := ls.getD kk 0) rfl ag3 (z := (kk : Int)) rfl ho297.read (Gadd.pins hX295.pins u26) (by omega) (by omega)) (qd rfl rfl rfl (r_assign (v := (.int .i64 (ls.getD kk 0))) rfl) (qe (s_then ?_))))))
 have hq306 := Gadd.pins hX295.pins L
 have hq307 := Gadd.pins hX295.pins R
 have hr308 := hpk301.ol.read
 have hr309 := hpk301.rr.read
 refine c_draw (S := fun wz => Pins GL2 wz ∧ BxR wz p [L, R, B, (.map (some mm.f)), (.map (some mm.o)), (.map (some mm.c)), (.map (some mm.s)), (.map (some mm.n))] ∧ Pins (Gadd GL2 w125.drew L) wz ∧ Pins (Gadd GL2 w125.drew R) wz) (last := 25) (by kernel_rfl) rfl ?_
 have hl310 : Below w125.drew.heap.size w125.drew w125.drew.drew := (Below.refl _ _).drew
 have hp311 := hX295.pins.below hl310
 have hX312 := hX295.step hp311 hl310
 have ho313 := ho296.below hl310
 have ho314 := ho297.below hl310
 have ho315 := ho298.below hl310
 have hlv316 := (hlv299.below hl310).top
 have hm317 := hm300.below hl310
 have hpk318 := hpk301.below hl310 hp311
 have hq319 := hq306.below hl310
 have hq320 := hq307.below hl310
 refine dr_take (i := 0) rfl rfl rfl (want_none rfl _) (by kernel_rfl) (fun _ _ => r_move (v := gv) rfl) ⟨hX312.pins, hpk318.bx.reads, hq319, hq320⟩ (dr_take (i := 1) rfl rfl rfl (want_none rfl _) (by kernel_rfl) (fun _ _ => r_move (v := (.int .i64 (ls.getD kk 0))) rfl) ⟨hX312.pins, hpk318.bx.reads, hq319, hq320⟩ (dr_take (i := 2) rfl rfl rfl (want_none rfl _) (by kernel_rfl) (fun _ hS => r_ldp1 (u := (.pointer (some ⟨p, 0, none⟩))) ag69 rfl ((Pins.of_le hS.1 (Pin.le_trans (Pin.le_trans hx32.le hlek85) hlek124)) _ _ _ (hbp22 0 _ rfl))) ⟨hX312.pins, hpk318.bx.reads, hq319, hq320⟩ (dr_take (i := 3) rfl rfl rfl (want_none rfl _) (by kernel_rfl) (fun _ _ => r_nil rfl) ⟨hX312.pins, hpk318.bx.reads, hq319, hq320⟩ (dr_take (i := 4) rfl rfl rfl (want_none rfl _) (by kernel_rfl) (fun _ _ => r_fldp (k := 0) rfl Tryz.underlying117 rfl nz115 rfl) ⟨hX312.pins, hpk318.bx.reads, hq319, hq320⟩ (dr_take (i := 5) rfl rfl rfl (want_none rfl _) (by kernel_rfl) (fun _ hS => r_ldp1 (u := L) ag115 rfl (hS.2.1 0 _ rfl)) ⟨hX312.pins, hpk318.bx.reads, hq319, hq320⟩ (dr_take (i := 6) rfl rfl rfl (want_none rfl _) (by kernel_rfl) (fun _ _ => r_move (v := (.int .i64 (ls.getD kk 0))) rfl) ⟨hX312.pins, hpk318.bx.reads, hq319, hq320⟩ (dr_take (i := 7) rfl rfl rfl (want_none rfl _) (by kernel_rfl) (fun _ _ => run_idx Tryz.underlying115 sz57 (v := L) rfl rfl hr308 (by omega) (by omega)) ⟨hX312.pins, hpk318.bx.reads, hq319, hq320⟩ ?_)))))))
 obtain ⟨u321, hr322, hl323⟩ := nm_sl (hpk301.ol.at (z := (ls.getD kk 0)) (by omega) (by omega)) (j := (ls.getD kk 0).toNat) rfl
 rw [mapl_getD] at hr322
 have hm324 := hr322.max
 refine dr_take (i := 8) rfl rfl rfl (want_none rfl _) (by kernel_rfl) (fun _ hS => hl323 ag57 rfl hS.2.2.1) ⟨hX312.pins, hpk318.bx.reads, hq319, hq320⟩ (dr_take (i := 9) rfl rfl rfl (want_none rfl _) (by kernel_rfl) (fun _ _ => r_move (v := (.map (some m50))) rfl) ⟨hX312.pins, hpk318.bx.reads, hq319, hq320⟩ (dr_take (i := 11) rfl rfl rfl (want_none rfl _) (by kernel_rfl) (fun _ hS => r_ldp1 (u := (.pointer (some ⟨p, 0, none⟩))) ag69 rfl ((Pins.of_le hS.1 (Pin.le_trans (Pin.le_trans hx32.le hlek85) hlek124)) _ _ _ (hbp22 0 _ rfl))) ⟨hX312.pins, hpk318.bx.reads, hq319, hq320⟩ (dr_take (i := 12) rfl rfl rfl (want_none rfl _) (by kernel_rfl) (fun _ _ => r_nil rfl) ⟨hX312.pins, hpk318.bx.reads, hq319, hq320⟩ (dr_take (i := 13) rfl rfl rfl (want_none rfl _) (by kernel_rfl) (fun _ _ => r_fldp (k := 1) rfl Tryz.underlying117 rfl nz115 rfl) ⟨hX312.pins, hpk318.bx.reads, hq319, hq320⟩ (dr_take (i := 14) rfl rfl rfl (want_none rfl _) (by kernel_rfl) (fun _ hS => r_ldp1 (u := R) ag115 rfl (hS.2.1 1 _ rfl)) ⟨hX312.pins, hpk318.bx.reads, hq319, hq320⟩ (dr_take (i := 15) rfl rfl rfl (want_none rfl _) (by kernel_rfl) (fun _ _ => r_move (v := (.int .i64 (ls.getD kk 0))) rfl) ⟨hX312.pins, hpk318.bx.reads, hq319, hq320⟩ (dr_take (i := 16) rfl rfl rfl (want_none rfl _) (by kernel_rfl) (fun _ _ => run_idx Tryz.underlying115 sz57 (v := R) rfl rfl hr309 (by omega) (by omega)) ⟨hX312.pins, hpk318.bx.reads, hq319, hq320⟩ ?_)))))))
 obtain ⟨u325, hr326, hl327⟩ := nm_sl (hpk301.rr.at (z := (ls.getD kk 0)) (by omega) (by omega)) (j := (ls.getD kk 0).toNat) rfl
 rw [mapr_getD] at hr326
 have hm328 := hr326.max
 refine dr_take (i := 17) rfl rfl rfl (want_none rfl _) (by kernel_rfl) (fun _ hS => hl327 ag57 rfl hS.2.2.2) ⟨hX312.pins, hpk318.bx.reads, hq319, hq320⟩ (dr_take (i := 18) rfl rfl rfl (want_none rfl _) (by kernel_rfl) (fun _ _ => r_move (v := (.map (some m50))) rfl) ⟨hX312.pins, hpk318.bx.reads, hq319, hq320⟩ (dr_one (i := 10) (by kernel_rfl) (drOp1 (i := 10) rfl rfl rfl (want_none rfl _) (o_call (vs := [u321, (.map (some m50))]) Tryz.func121 nm121 rfl rfl rfl ?_))))
 refine Calls.mono (ranked_spec hX312.pins hr322 hm317 (by omega)) ?_
 rintro _ w331 ⟨u329, G330, rfl, ho332, hx333⟩
 refine ⟨_, rfl, ?_⟩
 have hX334 := hX312.tr hx333
 have ho335 := ho313.ext hx333
 have ho336 := ho314.ext hx333
 have ho337 := ho315.ext hx333
 have hlv338 := (hlv316.ext hx333).top
 have hm339 := hm317.below hx333.below
 have hpk340 := hpk318.ext hx333
 have ha341 : Apart u329.ownBlock gv.ownBlock := made_ne_own ho332.lt ho313.lt
 have ha342 : Apart u329.ownBlock u26.ownBlock := made_ne_own ho332.lt ho314.lt
 have ha343 : Apart u329.ownBlock nv.ownBlock := made_ne_own ho332.lt ho315.lt
 have ha344 : ApL LV2 u329.ownBlock := ApL.fresh hlv316 (fun k hk => (ho332.lt k hk).1)
 have ho346 : Own eInt 3 G330 w331 w.heap.size u329 (sortM (((q.ns.getD (ls.getD kk 0).toNat default).l).map (rkI rk))) := ho332.weaken hX312.size
 have hq347 := hq319.below hx333.below
 have hq348 := hq320.below hx333.below
 refine ⟨fun _ => ⟨(Pins.of_le hX334.pins hx333.le), hpk340.bx.reads, hq347, hq348⟩, ?_⟩
 refine dr_one (i := 19) (by kernel_rfl) (drOp1 (i := 19) rfl rfl rfl (want_none rfl _) (o_call (vs := [u325, (.map (some m50))]) Tryz.func121 nm121 rfl rfl rfl ?_))
 refine Calls.mono (ranked_spec hX334.pins (hr326.mono hx333.le) hm339 (by omega)) ?_
 rintro _ w351 ⟨u349, G350, rfl, ho352, hx353⟩
 refine ⟨_, rfl, ?_⟩
 have hX354 := hX334.tr hx353
 have ho355 := ho335.ext hx353
 have ho356 := ho336.ext hx353
 have ho357 := ho337.ext hx353
 have ho358 := ho346.ext hx353
 have hlv359 := (hlv338.ext hx353).top
 have hm360 := hm339.below hx353.below
 have hpk361 := hpk340.ext hx353
 have ha362 : Apart u349.ownBlock gv.ownBlock := made_ne_own ho352.lt ho335.lt
 have ha363 : Apart u349.ownBlock u26.ownBlock := made_ne_own ho352.lt ho336.lt
 have ha364 : Apart u349.ownBlock nv.ownBlock := made_ne_own ho352.lt ho337.lt
 have ha365 : Apart u349.ownBlock u329.ownBlock := made_ne_own ho352.lt ho346.lt
 have ha366 : ApL LV2 u349.ownBlock := ApL.fresh hlv338 (fun k hk => (ho352.lt k hk).1)
 have ho368 : Own eInt 3 G350 w351 w.heap.size u349 (sortM (((q.ns.getD (ls.getD kk 0).toNat default).r).map (rkI rk))) := ho352.weaken hX334.size
 have hq369 := hq347.below hx353.below
 have hq370 := hq348.below hx353.below
 refine ⟨fun _ => ⟨(Pins.of_le hX354.pins (Pin.le_trans hx333.le hx353.le)), hpk361.bx.reads, hq369, hq370⟩, ?_⟩
 refine dr_take (i := 20) rfl rfl rfl (want_none rfl _) (by kernel_rfl) (fun _ _ => r_build [(.slice none 0 0), (.slice none 0 0)] [u329, u349] [(0, u329, [u329]), (1, u349, [u349])] Tryz.underlying68 zr68 rfl pl68 rfl (List.forall_mem_cons.2 ⟨(cells_one ho358.one), (List.forall_mem_cons.2 ⟨(cells_one ho368.one), (fun _ h => by cases h)⟩)⟩) rfl) ⟨(Pins.of_le hX354.pins (Pin.le_trans hx333.le hx353.le)), hpk361.bx.reads, hq369, hq370⟩ (dr_take (i := 21) rfl rfl rfl (want_none rfl _) (by kernel_rfl) (fun _ _ => r_build [(.int .i64 0), (.slice none 0 0), (.slice none 0 0)] [(.int .i64 (ls.getD kk 0)), u329, u349] [(0, (.int .i64 (ls.getD kk 0)), [(.int .i64 (ls.getD kk 0))]), (1, (.agg [u329, u349].toArray), [u329, u349])] Tryz.underlying139 zr139 rfl pl139 rfl (List.forall_mem_cons.2 ⟨rfl, (List.forall_mem_cons.2 ⟨rfl, (fun _ h => by cases h)⟩)⟩) rfl) ⟨(Pins.of_le hX354.pins (Pin.le_trans hx333.le hx353.le)), hpk361.bx.reads, hq369, hq370⟩ (dr_one (i := 22) (by kernel_rfl) (drOp1 (i := 22) rfl rfl rfl (want_none rfl _) (o_build1 (E := eEnt) (e := 139) [(.int .i64 (ls.getD kk 0)), u329, u349] (⟨ls.getD kk 0, u329, u349, ⟨sortM (((q.ns.getD (ls.getD kk 0).toNat default).l).map (rkI rk)), sortM (((q.ns.getD (ls.getD kk 0).toNat default).r).map (rkI rk))⟩⟩ : Ent) Tryz.underlying136 sz139 zr139 ⟨rfl, ho358.one, ho368.one⟩ rfl (by decide) hX354.pins (fun u371 w372 ho373 hp374 hl375 hk376 => ?_)))))
 have hX377 := hX354.step hp374 hl375
 have ho378 := ho355.below hl375
 have ho379 := ho356.below hl375
 have ho380 := ho357.below hl375
 have ho381 := ho358.below hl375
 have ho382 := ho368.below hl375
 have hlv383 := (hlv359.below hl375).top
 have hm384 := hm360.below hl375
 have hpk385 := hpk361.below hl375 hp374
 have ho397 : Own eEnt 139 G350 w372 w.heap.size u371 ([(⟨ls.getD kk 0, u329, u349, ⟨sortM (((q.ns.getD (ls.getD kk 0).toNat default).l).map (rkI rk)), sortM (((q.ns.getD (ls.getD kk 0).toNat default).r).map (rkI rk))⟩⟩ : Ent)]) := ho373.weaken hX354.size
 have hq398 := hq369.below hl375
 have hq399 := hq370.below hl375
 refine ⟨fun _ => ⟨(Pins.of_le hX377.pins (Pin.le_trans hx333.le hx353.le)), hpk385.bx.reads, hq398, hq399⟩, ?_⟩
 refine dr_one (i := 23) (by kernel_rfl) (drOp1 (i := 23) rfl rfl rfl (want_none rfl _) (o_append (E := eEnt) (v := gv) (u := u371) 56 Tryz.underlying136 ap139 (by decide) rfl rfl hX377.pins ho378 ho397.src (by first | omega | (rw [List.nil_append]; omega) | (rw [List.length_nil]; omega) | (rw [List.length_append]; omega) | (simp; done) | (simp; omega) | (simp only [List.length_append, List.length_cons, List.length_nil]; omega)) (by first | omega | (rw [List.nil_append]; omega) | (rw [List.length_nil]; omega) | (rw [List.length_append]; omega) | (simp; done) | (simp; omega) | (simp only [List.length_append, List.length_cons, List.length_nil]; omega)) (hX377.size) (fun u400 w401 ho402 hp403 hg404 hw405 => ?_)))
 have hX406 := hX377.write hp403 hg404 ((lo_own ho378))
 have ho407 := ho379.keptA hg404 ha131.symm
 have ho408 := ho380.keptA hg404 ha132.symm
 have ho409 := ho381.keptA hg404 ha341
 have ho410 := ho382.keptA hg404 ha362
 have hlv412 := (hlv383.kept hg404 ha134).top
 have hm413 := hm384.kept hg404 (map_ne_own hm384 ho378)
 have hpk414 := hpk385.kept hg404 hp403 hnp139
 have ha415 : Apart u26.ownBlock u400.ownBlock := app_ne_own ha131.symm hw405 ho379.lt
 have ha416 : Apart nv.ownBlock u400.ownBlock := app_ne_own ha132.symm hw405 ho380.lt
 have ha417 : Apart u329.ownBlock u400.ownBlock := app_ne_own ha341 hw405 ho381.lt
 have ha418 : Apart u349.ownBlock u400.ownBlock := app_ne_own ha362 hw405 ho382.lt
 have ha420 : ApL LV2 u400.ownBlock := ApL.app hlv383 ha134 hw405
 have hnp421 := np_app hnp139 hpk385 hw405
 have hm422 : (gs ++ ([(⟨ls.getD kk 0, u329, u349, ⟨sortM (((q.ns.getD (ls.getD kk 0).toNat default).l).map (rkI rk)), sortM (((q.ns.getD (ls.getD kk 0).toNat default).r).map (rkI rk))⟩⟩ : Ent)])).length = gs.length + 1 := List.length_append
 have hq423 := Gadd.turn hq398 (Pins.of_le hX406.pins (Pin.le_trans hx333.le hx353.le)) (Ext.one hp403 hg404) (notO (NP.hl hnp139).symm)
 have hq424 := Gadd.turn hq399 (Pins.of_le hX406.pins (Pin.le_trans hx333.le hx353.le)) (Ext.one hp403 hg404) (notO (NP.hr hnp139).symm)
 refine ⟨fun _ => ⟨(Pins.of_le hX406.pins (Pin.le_trans hx333.le hx353.le)), hpk414.bx.reads, hq423, hq424⟩, ?_⟩
 refine dr_take (i := 24) rfl rfl rfl (want_none rfl _) (by kernel_rfl) (fun _ _ => r_assign (v := u400) rfl) ⟨(Pins.of_le hX406.pins (Pin.le_trans hx333.le hx353.le)), hpk414.bx.reads, hq423, hq424⟩ (dr_end (by kernel_rfl) (s_blkN (s_then (c_reg ?_))))
 refine qd rfl rfl rfl (r_move (v := (.int .i64 (kk : Int))) rfl) (qd rfl rfl rfl (r_add rfl rfl (by omega)) (qd rfl rfl rfl (r_assign (v := (.int .i64 ((kk : Int) + 1))) rfl) (qe (s_lopN ?_))))
 have hlv425 := hlv412.add ho409 ha344
 have ha426 : ApL (LV2 ++ [(u329, sortM (((q.ns.getD (ls.getD kk 0).toNat default).l).map (rkI rk)))]) u26.ownBlock := ha135.add ha342
 have ha427 : ApL (LV2 ++ [(u329, sortM (((q.ns.getD (ls.getD kk 0).toNat default).l).map (rkI rk)))]) nv.ownBlock := ha136.add ha343
 have ha428 : ApL (LV2 ++ [(u329, sortM (((q.ns.getD (ls.getD kk 0).toNat default).l).map (rkI rk)))]) u349.ownBlock := ha366.add ha365.symm
 have ha429 : ApL (LV2 ++ [(u329, sortM (((q.ns.getD (ls.getD kk 0).toNat default).l).map (rkI rk)))]) u400.ownBlock := ha420.add ha417
 have hlv430 := hlv425.add ho410 ha428
 have ha431 : ApL ((LV2 ++ [(u329, sortM (((q.ns.getD (ls.getD kk 0).toNat default).l).map (rkI rk)))]) ++ [(u349, sortM (((q.ns.getD (ls.getD kk 0).toNat default).r).map (rkI rk)))]) u26.ownBlock := ha426.add ha363
 have ha432 : ApL ((LV2 ++ [(u329, sortM (((q.ns.getD (ls.getD kk 0).toNat default).l).map (rkI rk)))]) ++ [(u349, sortM (((q.ns.getD (ls.getD kk 0).toNat default).r).map (rkI rk)))]) nv.ownBlock := ha427.add ha364
 have ha433 : ApL ((LV2 ++ [(u329, sortM (((q.ns.getD (ls.getD kk 0).toNat default).l).map (rkI rk)))]) ++ [(u349, sortM (((q.ns.getD (ls.getD kk 0).toNat default).r).map (rkI rk)))]) u400.ownBlock := ha429.add ha418
 refine ⟨_, ?_, _, rfl, _, kk + 1, u400, gs ++ ([(⟨ls.getD kk 0, u329, u349, ⟨sortM (((q.ns.getD (ls.getD kk 0).toNat default).l).map (rkI rk)), sortM (((q.ns.getD (ls.getD kk 0).toNat default).r).map (rkI rk))⟩⟩ : Ent)]), (LV2 ++ [(u329, sortM (((q.ns.getD (ls.getD kk 0).toNat default).l).map (rkI rk)))]) ++ [(u349, sortM (((q.ns.getD (ls.getD kk 0).toNat default).r).map (rkI rk)))], G350, (packS (x := 11) (packS (x := 10) (packS (x := 9) (packS (x := 8) (packS (x := 7) (packS (x := 6) (packS (x := 5) (packS (x := 4) (pack1 (x := 2) rfl) rfl) rfl) rfl) rfl) rfl) rfl) rfl) rfl), rfl, hX406, (Pin.le_trans (Pin.le_trans hlek124 hx333.le) hx353.le), (by rw [List.length_append]; simp; omega), (hgr.ent hor hok hpt31 hrk hkk (by omega) h305), (by rw [lvE_app, ← List.append_assoc, List.append_assoc LV2]; exact hLV2.append_right _), ho402, ho407, ho408, ha415.symm, ha416.symm, hlv430, ha433, ha431, ha432, hm413, hpk414, hnp421⟩
 omega
 exact wp_exit (s_thenE (s_lopE (cutE_in ⟨_, kk, gv, gs, LV2, GL2, (packS (x := 11) (packS (x := 10) (packS (x := 9) (packS (x := 8) (packS (x := 7) (packS (x := 6) (packS (x := 5) (packS (x := 4) (pack1 (x := 2) rfl) rfl) rfl) rfl) rfl) rfl) rfl) rfl) rfl), hX295, hlek124, hkk, hgr, hLV2, (Or.inr (by rw [← hkk]; exact h305)), ho296, ho297, ho298, ha131, ha132, hlv299, ha134, ha135, ha136, hm300, hpk301, hnp139⟩)))
 exact dr_skip (i := 5) rfl rfl (want_no rfl rfl rfl rfl rfl) (by kernel_rfl) ⟨hq302, hX295.pins, hpk301.bx.reads, hq303⟩ (dr_skip (i := 6) rfl rfl (want_no rfl rfl rfl rfl rfl) (by kernel_rfl) ⟨hq302, hX295.pins, hpk301.bx.reads, hq303⟩ (dr_skip (i := 7) rfl rfl (want_no rfl rfl rfl rfl rfl) (by kernel_rfl) ⟨hq302, hX295.pins, hpk301.bx.reads, hq303⟩ (dr_skip (i := 8) rfl rfl (want_no rfl rfl rfl rfl rfl) (by kernel_rfl) ⟨hq302, hX295.pins, hpk301.bx.reads, hq303⟩ (dr_skip (i := 9) rfl rfl (want_no rfl rfl rfl rfl rfl) (by kernel_rfl) ⟨hq302, hX295.pins, hpk301.bx.reads, hq303⟩ (dr_skip (i := 10) rfl rfl (want_no rfl rfl rfl rfl rfl) (by kernel_rfl) ⟨hq302, hX295.pins, hpk301.bx.reads, hq303⟩ (dr_skip (i := 11) rfl rfl (want_no rfl rfl rfl rfl rfl) (by kernel_rfl) ⟨hq302, hX295.pins, hpk301.bx.reads, hq303⟩ (dr_skip (i := 12) rfl rfl (want_no rfl rfl rfl rfl rfl) (by kernel_rfl) ⟨hq302, hX295.pins, hpk301.bx.reads, hq303⟩ (dr_skip (i := 13) rfl rfl (want_no rfl rfl rfl rfl rfl) (by kernel_rfl) ⟨hq302, hX295.pins, hpk301.bx.reads, hq303⟩ (dr_skip (i := 14) rfl rfl (want_no rfl rfl rfl rfl rfl) (by kernel_rfl) ⟨hq302, hX295.pins, hpk301.bx.reads, hq303⟩ (dr_skip (i := 15) rfl rfl (want_no rfl rfl rfl rfl rfl) (by kernel_rfl) ⟨hq302, hX295.pins, hpk301.bx.reads, hq303⟩ (dr_skip (i := 16) rfl rfl (want_no rfl rfl rfl rfl rfl) (by kernel_rfl) ⟨hq302, hX295.pins, hpk301.bx.reads, hq303⟩ (dr_skip (i := 17) rfl rfl (want_no rfl rfl rfl rfl rfl) (by kernel_rfl) ⟨hq302, hX295.pins, hpk301.bx.reads, hq303⟩ (dr_skip (i := 18) rfl rfl (want_no rfl rfl rfl rfl rfl) (by kernel_rfl) ⟨hq302, hX295.pins, hpk301.bx.reads, hq303⟩ (dr_skip (i := 19) rfl rfl (want_no rfl rfl rfl rfl rfl) (by kernel_rfl) ⟨hq302, hX295.pins, hpk301.bx.reads, hq303⟩ (dr_skip (i := 20) rfl rfl (want_no rfl rfl rfl rfl rfl) (by kernel_rfl) ⟨hq302, hX295.pins, hpk301.bx.reads, hq303⟩ (dr_skip (i := 21) rfl rfl (want_no rfl rfl rfl rfl rfl) (by kernel_rfl) ⟨hq302, hX295.pins, hpk301.bx.reads, hq303⟩ (dr_skip (i := 22) rfl rfl (want_no rfl rfl rfl rfl rfl) (by kernel_rfl) ⟨hq302, hX295.pins, hpk301.bx.reads, hq303⟩ (dr_skip (i := 23) rfl rfl (want_no rfl rfl rfl rfl rfl) (by kernel_rfl) ⟨hq302, hX295.pins, hpk301.bx.reads, hq303⟩ (dr_skip (i := 24) rfl rfl (want_no rfl rfl rfl rfl rfl) (by kernel_rfl) ⟨hq302, hX295.pins, hpk301.bx.reads, hq303⟩ (dr_skip (i := 25) rfl rfl (want_no rfl rfl rfl rfl rfl) (by kernel_rfl) ⟨hq302, hX295.pins, hpk301.bx.reads, hq303⟩ (dr_take (i := 26) rfl rfl rfl (want_none rfl _) (by kernel_rfl) (fun _ _ => r_pickF (v := (.bool false)) rfl rfl) ⟨hq302, hX295.pins, hpk301.bx.reads, hq303⟩ (dr_end (by kernel_rfl) (s_then (c_ifF rfl rfl (wp_exit (s_thenE (s_lopE (cutE_in ⟨_, kk, gv, gs, LV2, GL2, (packS (x := 11) (packS (x := 10) (packS (x := 9) (packS (x := 8) (packS (x := 7) (packS (x := 6) (packS (x := 5) (packS (x := 4) (pack1 (x := 2) rfl) rfl) rfl) rfl) rfl) rfl) rfl) rfl) rfl), hX295, hlek124, hkk, hgr, hLV2, (Or.inl (by omega)), ho296, ho297, ho298, ha131, ha132, hlv299, ha134, ha135, ha136, hm300, hpk301, hnp139⟩))))))))))))))))))))))))))))
 refine wp_exit (s_thenE (s_lopE (s_blkE (s_then (s_seq (c_reg ?_))))))
 refine qd rfl rfl rfl (r_move (v := u26) rfl) (qd rfl rfl rfl (r_move (v := nv) rfl) (qd rfl rfl rfl (r_assign (v := u26) rfl) (qd rfl rfl rfl (r_assign (v := nv) rfl) (qe (s_then ?_)))))
 refine wp_ret (s_ret (c_ret2 (v := u26) (u := nv) rfl rfl rfl rfl rfl ?_))
 have hnn : n = ls.length := by omega
 rw [hnn] at hor
 have hon := hw90
 rw [hps] at hon
 have hlv := hlv92.perm hLV
 have hap := ha94.perm hLV
 rw [lvE_lvN] at hlv hap
 exact ⟨_, _, ls, done.map Ent.nd, zs27, _, rfl, hw89, ⟨done.map Ent.pr, by rw [List.length_map, List.length_map], hon, fun k hk => (hon.lt k hk).2, hlv, hap⟩, hor, hpt31, hX88⟩

end OD1
end Go.Proofs.YtkfgdhanaijddaaGreatDoor

set_option maxRecDepth 20000
set_option maxHeartbeats 2000000
namespace Go.Proofs.YtkfgdhanaijddaaGreatDoor
namespace FO1
open Go.RowKit Go.GL Go.Proofs
open B1 PO1 PA1 SO1 OD1






theorem pl28 : (Tryz.prog.underlying 28).bind (placesD Tryz.prog) = some [(0, 1)] := by kernel_rfl






theorem form_spec {w : World} {G : Pin} {p : Nat} {L R B : Value} {mm : PM} {q : PSt} (hP : Pins G w) (hpk : Pk 57 3 G w p L R B mm q) (hok : PoolOk q) {i : Int} (hi : PlaceOk q i) :
  Calls Tryz.prog 47 [(.pointer (some ⟨p, 0, none⟩)), (.int .i64 i)].toArray w fun e w' => ∃ (u : Value) (G' : Pin), e = .returned (.tuple #[(.agg [u].toArray), .bool (fitB (pd q i))]) ∧ DForm 68 3 G' w' w.heap.size w'.heap.size u (frmG (pd q i)) ∧ Ext noS G w G' w' := by
 refine s_enter (n := 44) Tryz.func47 Tryz.ntmps47 rfl rfl ?_
 have hX0 : Ext noS G w G w := Ext.refl hP
 have hpin : PIn w (inP p L R B mm) p L R B mm := PIn.self
 have hml1 : (q.ns.map Nd.l).length = q.ns.length ∧ (q.ns.map Nd.r).length = q.ns.length := ⟨List.length_map .., List.length_map ..⟩
 have hml2 : q.bs.length = q.ns.length ∧ q.ns.length ≤ 1048576 := ⟨hok.ar.ok.len, hok.ar.ok.lim⟩
 have hi0 := hi.1
 have hi1 := hi.2
 have hone1 := place_one hi
 refine s_seq (c_reg ?_)
 refine q1 rfl rfl rfl (o_alloc [(.slice none 0 0)] zr28 rfl hX0.pins (fun b3 w4 hk5 hb6 hp7 hl8 => ?_))
 have hX9 := hX0.step hp7 hl8
 have hpk10 := hpk.below hl8 hp7
 have hlo16 : w.heap.size ≤ b3 := by have := hX0.size; omega
 refine qd rfl rfl rfl (r_assign (v := (.bool false)) rfl) (qe (s_then (s_seq (s_seq (c_reg ?_)))))
 refine qd rfl rfl rfl (r_move (v := (.pointer (some ⟨p, 0, none⟩))) rfl) (qd rfl rfl rfl (r_move (v := (.int .i64 i)) rfl) (q1 rfl rfl rfl (o_buildF (E := eInt) (e := 3) [(.int .i64 i)] [i] Tryz.underlying57 sz3 zr3 (by exact reps1 (by rfl)) (ones1 (by rfl)) rfl rfl rfl rfl (by decide) hX9.pins (fun u17 w18 ho19 hp20 hl21 hk22 => ?_))))
 have hX23 := hX9.step hp20 hl21
 have hb24 := hb6.below hl21
 have hpk25 := hpk10.below hl21 hp20
 have ha30 : Apart u17.ownBlock (some b3) := new_ne_box hk22 hb6.lt
 have ha31 := hpk10.new (x := u17.ownBlock) (fun k hk => by rw [hk22] at hk; cases hk; exact Nat.le_refl _)
 have ho32 : Own eInt 3 G w18 w.heap.size u17 ([i]) := ho19.weaken hX9.size
 obtain ⟨G40, hle43, hX42, hr41, hf44⟩ := ho32.sealed hX23
 have hb45 := hb24.moreO hf44 ha30.symm
 have hpk46 := hpk25.moreO hle43 hf44 ha31
 refine q1 rfl rfl rfl (o_call (vs := [(.pointer (some ⟨p, 0, none⟩)), u17]) Tryz.func101 nm101 rfl rfl rfl ?_)
 refine Calls.mono (parts_spec hX42.pins hpk46 hok hr41 hone1 (by simp)) ?_
 rintro _ w36 ⟨u33, zs34, G35, rfl, ho37, hpt38, hx39⟩
 refine ⟨_, rfl, ?_⟩
 have hX47 := hX42.tr hx39
 have hb48 := hb45.ext hx39
 have hpk49 := hpk46.ext hx39
 have ho52 : Own eInt 3 G35 w36 w.heap.size u33 zs34 := ho37.weaken hX42.size
 have hql53 := hpt38.len
 have hfl := form_len hok hi hpt38
 refine qd rfl rfl rfl (run_len Tryz.underlying57 (v := u33) rfl ho52.read) (qd rfl rfl rfl (r_gtr rfl rfl) (qe (s_then ?_)))
 refine c_ifd (p := (120 : Int) < (zs34.length : Int)) rfl rfl (fun h54 => ?_) (fun h54 => ?_)
 refine s_seq (c_reg ?_)
 refine qd rfl rfl rfl (r_build [(.slice none 0 0)] [(.slice none 0 0)] [] Tryz.underlying28 zr28 rfl pl28 rfl (fun _ h => by cases h) rfl) (q0 rfl rfl rfl (o_stp (cs' := [(.slice none 0 0)]) (us := [(.slice none 0 0)]) (v := (.agg [(.slice none 0 0)].toArray)) sz28 rfl rfl rfl (ones1 (by rfl)) hX47.pins hb48 (Nat.le_of_ble_eq_true rfl) rfl (fun w55 hb56 hp57 hg58 hz59 => ?_)))
 have hX60 := hX47.write hp57 hg58 ((lo_box hlo16))
 refine qd rfl rfl rfl (r_assign (v := (.bool false)) rfl) (qe (s_then ?_))
 refine wp_ret (s_ret (c_retct (cs := [(.slice none 0 0)]) (v := (.bool false)) rfl rfl rfl rfl rfl ag28 sz28 (fun j u hj => by rw [Nat.zero_add]; exact hb56.cell hj) ?_))
 have hfb : fitB (pd q i) = false := fit_long (by omega)
 rw [hfb, frm_no hfb]
 exact ⟨_, _, rfl, DForm.nil, hX60⟩
 refine wp_skip (s_then (s_seq (c_reg ?_)))
 refine qd rfl rfl rfl (r_move (v := (.pointer (some ⟨p, 0, none⟩))) rfl) (qd rfl rfl rfl (r_move (v := (.int .i64 i)) rfl) (q1 rfl rfl rfl (o_buildF (E := eInt) (e := 3) [(.int .i64 i)] [i] Tryz.underlying57 sz3 zr3 (by exact reps1 (by rfl)) (ones1 (by rfl)) rfl rfl rfl rfl (by decide) hX47.pins (fun u63 w64 ho65 hp66 hl67 hk68 => ?_))))
 have hX69 := hX47.step hp66 hl67
 have hb71 := hb48.below hl67
 have hpk72 := hpk49.below hl67 hp66
 have ha77 : Apart u63.ownBlock (some b3) := new_ne_box hk68 hb48.lt
 have ha79 := hpk49.new (x := u63.ownBlock) (fun k hk => by rw [hk68] at hk; cases hk; exact Nat.le_refl _)
 have ho80 : Own eInt 3 G35 w64 w.heap.size u63 ([i]) := ho65.weaken hX47.size
 obtain ⟨G99, hle102, hX101, hr100, hf103⟩ := ho80.sealed hX69
 have hb105 := hb71.moreO hf103 ha77.symm
 have hpk106 := hpk72.moreO hle102 hf103 ha79
 refine q1 rfl rfl rfl (o_call (vs := [(.pointer (some ⟨p, 0, none⟩)), u63]) Tryz.func65 nm65 rfl rfl rfl ?_)
 refine Calls.mono (order_spec hX101.pins hpk106 hok hr100 hone1 (by simp)) ?_
 rintro _ w87 ⟨u81, v82, ls83, ns84, zs85, G86, rfl, ho88, hd89, hor90, hpt91, hx92⟩
 refine ⟨_, rfl, ?_⟩
 have hX107 := hX101.tr hx92
 have hb109 := hb105.ext hx92
 have hpk110 := hpk106.ext hx92
 have hfo := hor90.form hok hpt91
 obtain ⟨ps93, hpl94, ho95, hlt96, hlv97, hap98⟩ := hd89.ex
 have ho116 := ho95.weaken hX101.size
 have hlv117 := (hlv97.weaken hX101.size (Nat.le_refl _)).top
 have ha118 : Apart (some b3) v82.ownBlock := (made_ne_box ho95.lt hb105.lt).symm
 have ha119 : ApL (lvN ps93 ns84) (some b3) := fun p hp => made_ne_box (hlv97.own p hp).lt hb105.lt
 refine qd rfl rfl rfl (r_move (v := (.tuple #[u81, v82])) rfl) (qd rfl rfl rfl (r_extract (v := u81) rfl rfl) (qd rfl rfl rfl (r_extract (v := v82) rfl rfl) (qd rfl rfl rfl (r_assign (v := u81) rfl) (qd rfl rfl rfl (r_assign (v := v82) rfl) (qe (s_then (s_seq (s_seq (c_reg ?_)))))))))
 refine qd rfl rfl rfl (r_move (v := v82) rfl) (qd rfl rfl rfl (run_len Tryz.underlying26 (v := v82) rfl ho116.read) (qd rfl rfl rfl (r_move (v := (.int .i64 0)) rfl) (qe (s_then ?_))))
 refine s_blk ?_
 have hlo := hfo.1.lo
 have hlf := hfo.eq
 rw [hlf] at hfl
 refine s_loop (fun (k : Nat) (en : Nat → Value) (W : World) => ∃ (env1 : Nat → Value) (j : Nat) (GL1 : Pin), en = (upd (upd (upd (upd (upd env1 4 (.pointer (some ⟨b3, 0, none⟩))) 7 v82) 24 v82) 25 (.int .i64 (ps93.length : Int))) 26 (.int .i64 (j : Int))) ∧ k = ns84.length - j ∧ Ext noS G w GL1 W ∧ Pin.le G86 GL1 ∧ (j ≤ ns84.length) ∧ (∀ k, k < j → (ns84.getD k default).l.length ≤ 24 ∧ (ns84.getD k default).r.length ≤ 24) ∧ (Own eVal2 68 GL1 W w.heap.size v82 (ps93)) ∧ (Bx GL1 W b3 [(.slice none 0 0)]) ∧ (Lvs 3 GL1 W w.heap.size W.heap.size (lvN ps93 ns84)) ∧ (ApL (lvN ps93 ns84) v82.ownBlock) ∧ (ApL (lvN ps93 ns84) (some b3)) ∧ (Pk 57 3 GL1 W p L R B mm q)) _ ⟨_, 0, G86, (packS (x := 26) (packS (x := 25) (packS (x := 24) (packS (x := 7) (pack1 (x := 4) rfl) rfl) rfl) rfl) rfl), rfl, hX107, Pin.le_refl _, Nat.zero_le _, (fun k hk => absurd hk (Nat.not_lt_zero k)), ho116, hb109, hlv117, hap98, ha119, hpk110⟩ ?_
 rintro k124 _ w125 ⟨env1, j, GL1, rfl, hk126, hX127, hlek124, hj, hop, hw128, hw129, hlv130, ha131, ha132, hpk133⟩
 refine s_seq (c_reg ?_)
 refine qd rfl rfl rfl (r_lss rfl rfl) (qe (s_then (s_seq ?_)))
 refine c_ifd (p := ((j : Int) : Int) < (ps93.length : Int)) rfl rfl (fun h134 => ?_) (fun h134 => ?_)
 refine wp_skip (s_then (s_seq ?_))
 refine s_blk (s_seq (c_reg ?_))
 refine qd rfl rfl rfl (run_idx Tryz.underlying26 sz68 (v := v82) rfl rfl hw128.read (by omega) (by omega)) ?_
 obtain ⟨cs135, hrep136, hagg137, hcell138⟩ := nm_el (j := j) default (hw128.at (z := (j : Int)) (by omega) (by omega)) rfl
 obtain ⟨rfl, hone139, hone140⟩ := hrep136
 refine qd rfl rfl rfl (hagg137 ag68 sz68 rfl (Gadd.pins hX127.pins v82)) (q1 rfl rfl rfl (o_alloc [(.slice none 0 0), (.slice none 0 0)] zr68 rfl hX127.pins (fun b141 w142 hk143 hb144 hp145 hl146 => ?_)))
 have hX147 := hX127.step hp145 hl146
 have ho148 := hw128.below hl146
 have hb149 := hw129.below hl146
 have hlv150 := (hlv130.below hl146).top
 have hpk151 := hpk133.below hl146 hp145
 have ha152 : Apart (some b141) v82.ownBlock := new_ne_own (congrArg some hk143) hw128.lt
 have ha156 : Apart (some b141) (some b3) := new_ne_box (congrArg some hk143) hw129.lt
 have ha158 : ApL (lvN ps93 ns84) (some b141) := ApL.fresh hlv130 (fun k hk => by rw [(congrArg some hk143)] at hk; cases hk; exact Nat.le_refl _)
 have ha159 := hpk133.new (x := (some b141)) (fun k hk => by rw [(congrArg some hk143)] at hk; cases hk; exact Nat.le_refl _)
 have hlo160 : w.heap.size ≤ b141 := by have := hX127.size; omega
 refine q0 rfl rfl rfl (o_stp (cs' := [(ps93.getD j default).1, (ps93.getD j default).2]) (us := [(ps93.getD j default).1, (ps93.getD j default).2]) (v := (.agg [(ps93.getD j default).1, (ps93.getD j default).2].toArray)) sz68 rfl rfl rfl (ones2 hone139 hone140) hX147.pins hb144 (Nat.le_of_ble_eq_true rfl) rfl (fun w161 hb162 hp163 hg164 hz165 => ?_))
 have hX166 := hX147.write hp163 hg164 ((lo_box hlo160))
 have ho167 := ho148.keptA hg164 ha152.symm
 have hb168 := hb149.keptA hg164 ha156.symm
 have hlv169 := (hlv150.kept hg164 ha158).top
 have hpk170 := hpk151.kept hg164 hp163 ha159
 obtain ⟨G171, hle172, hX173, hbp174, hf175⟩ := hb162.shut hX166 hlo160
 have ho176 := ho167.moreA hle172 hf175 ha152.symm
 have hb177 := hb168.moreA hf175 ha156.symm
 have hlv178 := hlv169.more hle172 hf175 ha158
 have hpk179 := hpk170.more hle172 hf175 ha159
 refine qe (s_then (s_seq (c_reg ?_)))
 have hpj : ps93[j]? = some (ps93.getD j default) := by simp [List.getD, show j < ps93.length by omega]
 have hnj : ns84[j]? = some (ns84.getD j default) := by simp [List.getD, show j < ns84.length by omega]
 have hr180 := (hlv178.own _ (lvN_mem hpj hnj).1).read
 have hr181 := (hlv178.own _ (lvN_mem hpj hnj).2).read
 refine qd rfl rfl rfl (r_fldp (k := 0) rfl Tryz.underlying68 rfl nz57 rfl) (qd rfl rfl rfl (r_ldp1 (u := (ps93.getD j default).1) ag57 rfl (hX173.pins _ _ _ (hbp174 0 _ rfl))) (qd rfl rfl rfl (run_len Tryz.underlying57 (v := (ps93.getD j default).1) rfl hr180) (qd rfl rfl rfl (r_gtr rfl rfl) (qd rfl rfl rfl (r_move (v := (.bool (decide ((24 : Int) < (((ns84.getD j default).l).length : Int))))) rfl) (qbd (p := (24 : Int) < (((ns84.getD j default).l).length : Int)) (t := 34) rfl (fun h182 => ?_) (fun h182 => ?_))))))
 refine qs rfl rfl rfl rfl rfl rfl (qs rfl rfl rfl rfl rfl rfl (qs rfl rfl rfl rfl rfl rfl (qs rfl rfl rfl rfl rfl rfl (qd rfl rfl rfl (r_pickT (v := (.bool true)) rfl rfl) (qe (s_then ?_))))))
 refine c_ifT rfl rfl (s_seq (c_reg ?_))
 refine qd rfl rfl rfl (r_build [(.slice none 0 0)] [(.slice none 0 0)] [] Tryz.underlying28 zr28 rfl pl28 rfl (fun _ h => by cases h) rfl) (q0 rfl rfl rfl (o_stp (cs' := [(.slice none 0 0)]) (us := [(.slice none 0 0)]) (v := (.agg [(.slice none 0 0)].toArray)) sz28 rfl rfl rfl (ones1 (by rfl)) hX173.pins hb177 (Nat.le_of_ble_eq_true rfl) rfl (fun w183 hb184 hp185 hg186 hz187 => ?_)))
 have hX188 := hX173.write hp185 hg186 ((lo_box hlo16))
 refine qd rfl rfl rfl (r_assign (v := (.bool false)) rfl) (qe (s_then ?_))
 refine wp_ret (s_ret (c_retct (cs := [(.slice none 0 0)]) (v := (.bool false)) rfl rfl rfl rfl rfl ag28 sz28 (fun j u hj => by rw [Nat.zero_add]; exact hb184.cell hj) ?_))
 have hfb : fitB (pd q i) = false := fit_opt hfo (k := j) (by omega) (by omega)
 rw [hfb, frm_no hfb]
 exact ⟨_, _, rfl, DForm.nil, hX188⟩
 refine qdg rfl rfl rfl rfl rfl rfl (r_fldp (k := 1) rfl Tryz.underlying68 rfl nz57 rfl) (qdg rfl rfl rfl rfl rfl rfl (r_ldp1 (u := (ps93.getD j default).2) ag57 rfl (hX173.pins _ _ _ (hbp174 1 _ rfl))) (qdg rfl rfl rfl rfl rfl rfl (run_len Tryz.underlying57 (v := (ps93.getD j default).2) rfl hr181) (qdg rfl rfl rfl rfl rfl rfl (r_gtr rfl rfl) (qd rfl rfl rfl (r_pickF (v := (.bool (decide ((24 : Int) < (((ns84.getD j default).r).length : Int))))) rfl rfl) (qe (s_then ?_))))))
 refine c_ifd (p := (24 : Int) < (((ns84.getD j default).r).length : Int)) rfl rfl (fun h192 => ?_) (fun h192 => ?_)
 refine s_seq (c_reg ?_)
 refine qd rfl rfl rfl (r_build [(.slice none 0 0)] [(.slice none 0 0)] [] Tryz.underlying28 zr28 rfl pl28 rfl (fun _ h => by cases h) rfl) (q0 rfl rfl rfl (o_stp (cs' := [(.slice none 0 0)]) (us := [(.slice none 0 0)]) (v := (.agg [(.slice none 0 0)].toArray)) sz28 rfl rfl rfl (ones1 (by rfl)) hX173.pins hb177 (Nat.le_of_ble_eq_true rfl) rfl (fun w193 hb194 hp195 hg196 hz197 => ?_)))
 have hX198 := hX173.write hp195 hg196 ((lo_box hlo16))
 refine qd rfl rfl rfl (r_assign (v := (.bool false)) rfl) (qe (s_then ?_))
 refine wp_ret (s_ret (c_retct (cs := [(.slice none 0 0)]) (v := (.bool false)) rfl rfl rfl rfl rfl ag28 sz28 (fun j u hj => by rw [Nat.zero_add]; exact hb194.cell hj) ?_))
 have hfb : fitB (pd q i) = false := fit_opt hfo (k := j) (by omega) (by omega)
 rw [hfb, frm_no hfb]
 exact ⟨_, _, rfl, DForm.nil, hX198⟩
 refine wp_skip (s_blkN (s_then (c_reg ?_)))
 refine qd rfl rfl rfl (r_add rfl rfl (by omega)) (qd rfl rfl rfl (r_move (v := (.int .i64 ((j : Int) + 1))) rfl) (qe (s_lopN (⟨_, ?_, _, rfl, _, j + 1, G171, (packS (x := 26) (packS (x := 25) (packS (x := 24) (packS (x := 7) (pack1 (x := 4) rfl) rfl) rfl) rfl) rfl), rfl, hX173, (Pin.le_trans hlek124 hle172), (by omega), (fun k hk => if h : k = j then h ▸ (by omega) else hop k (by omega)), ho176, hb177, hlv178, ha131, ha132, hpk179⟩))))
 omega
 refine wp_exit (s_thenE (s_lopE (s_blkE (s_then (s_seq (c_reg ?_))))))
 refine qd rfl rfl rfl (r_move (v := v82) rfl) (qd rfl rfl rfl (r_build [(.slice none 0 0)] [v82] [(0, v82, [v82])] Tryz.underlying28 zr28 rfl pl28 rfl (List.forall_mem_cons.2 ⟨(cells_one hw128.one), (fun _ h => by cases h)⟩) rfl) (q0 rfl rfl rfl (o_stp (cs' := [v82]) (us := [v82]) (v := (.agg [v82].toArray)) sz28 rfl rfl rfl (ones1 hw128.one) hX127.pins hw129 (Nat.le_of_ble_eq_true rfl) rfl (fun w202 hb203 hp204 hg205 hz206 => ?_))))
 have hX207 := hX127.write hp204 hg205 ((lo_box hlo16))
 have ho208 := hw128.keptA hg205 ha118.symm
 have hlv209 := (hlv130.kept hg205 ha132).top
 refine qd rfl rfl rfl (r_assign (v := (.bool true)) rfl) (qe (s_then ?_))
 refine wp_ret (s_ret (c_retct (cs := [v82]) (v := (.bool true)) rfl rfl rfl rfl rfl ag28 sz28 (fun j u hj => by rw [Nat.zero_add]; exact hb203.cell hj) ?_))
 have hfb : fitB (pd q i) = true := fit_yes hfo (by omega) (fun k hk => hop k (by omega))
 rw [hfb, frm_yes hfo hfb]
 exact ⟨_, _, rfl, ⟨ps93, hpl94, ho208, (fun k hk => (ho208.lt k hk).2), hlv209, ha131⟩, hX207⟩

end FO1
end Go.Proofs.YtkfgdhanaijddaaGreatDoor

set_option maxRecDepth 20000
set_option maxHeartbeats 2000000
namespace Go.Proofs.YtkfgdhanaijddaaGreatDoor
namespace NG1
open Go.RowKit Go.GL Go.Proofs
open B1 K1 PO1 PL1
end NG1
end Go.Proofs.YtkfgdhanaijddaaGreatDoor

set_option maxRecDepth 20000
set_option maxHeartbeats 2000000
namespace Go.Proofs.YtkfgdhanaijddaaGreatDoor
namespace NF1
open Go.RowKit Go.GL Go.Proofs
open B1 C1 D1 E1 K1 PO1 PL1 PA1 SO1 OD1 FO1 NG1
end NF1
end Go.Proofs.YtkfgdhanaijddaaGreatDoor

set_option maxRecDepth 20000
set_option maxHeartbeats 2000000
namespace Go.Proofs.YtkfgdhanaijddaaGreatDoor
namespace PF1
open Go.RowKit Go.GL Go.Proofs
open B1 K1 PO1 PL1






theorem iCompareForms_spec {w : World} {G : Pin} {u v : Value} {ax bs : List Nd} (hP : Pins G w) (hu : RSl eNode G u ax) (hv : RSl eNode G v bs) :
  Calls Tryz.prog 32 [(.agg [u].toArray), (.agg [v].toArray)].toArray w fun e w' => ∃ G', e = .returned (.tuple #[.int .i64 (cfI ax bs), .bool (goodB ax && goodB bs)]) ∧ Ext noS G w G' w' := by
 refine s_enter (n := 24) Tryz.func32 Tryz.ntmps32 rfl rfl ?_
 have hX0 : Ext noS G w G w := Ext.refl hP
 refine s_seq (c_reg ?_)
 refine q1 rfl rfl rfl (o_box [u] (v := (.agg [u].toArray)) rfl rfl hX0.pins (fun b1 w2 hk3 hb4 hp5 hl6 => ?_))
 have hX7 := hX0.step hp5 hl6
 have hlo8 : w.heap.size ≤ b1 := by have := hX0.size; omega
 obtain ⟨G9, hle10, hX11, hbp12, hf13⟩ := hb4.shut hX7 hlo8
 refine q1 rfl rfl rfl (o_box [v] (v := (.agg [v].toArray)) rfl rfl hX11.pins (fun b14 w15 hk16 hb17 hp18 hl19 => ?_))
 have hX20 := hX11.step hp18 hl19
 have hlo21 : w.heap.size ≤ b14 := by have := hX11.size; omega
 obtain ⟨G22, hle23, hX24, hbp25, hf26⟩ := hb17.shut hX20 hlo21
 refine qd rfl rfl rfl (r_assign (v := (.int .i64 0)) rfl) (qd rfl rfl rfl (r_assign (v := (.bool false)) rfl) (qe (s_then (s_seq (s_seq (c_reg ?_))))))
 refine qd rfl rfl rfl (r_ldpA (cs := [u]) ag28 sz28 rfl (fun j u hj => (Pins.of_le hX24.pins hle23) _ _ _ (hbp12 _ _ (by simpa using hj)))) (q1 rfl rfl rfl (o_call (vs := [(.agg [u].toArray)]) Tryz.func57 nm57 rfl rfl rfl ?_))
 refine Calls.mono (goodForm_spec hX24.pins (hu.mono (Pin.le_trans hle10 hle23))) ?_
 rintro _ w28 ⟨G27, rfl, hx29⟩
 refine ⟨_, rfl, ?_⟩
 have hX30 := hX24.tr hx29
 refine qd rfl rfl rfl (r_not rfl) (qd rfl rfl rfl (r_move (v := (.bool (!(goodB ax)))) rfl) (qbn (t := 10) rfl (fun h31 => ?_) (fun h31 => ?_)))
 refine qdg rfl rfl rfl rfl rfl rfl (r_ldpA (cs := [v]) ag28 sz28 rfl (fun j u hj => (Pins.of_le hX30.pins hx29.le) _ _ _ (hbp25 _ _ (by simpa using hj)))) (q1g rfl rfl rfl rfl rfl rfl (o_call (vs := [(.agg [v].toArray)]) Tryz.func57 nm57 rfl rfl rfl ?_))
 refine Calls.mono (goodForm_spec hX30.pins (hv.mono (Pin.le_trans (Pin.le_trans hle10 hle23) hx29.le))) ?_
 rintro _ w33 ⟨G32, rfl, hx34⟩
 refine ⟨_, rfl, ?_⟩
 have hX35 := hX30.tr hx34
 refine qdg rfl rfl rfl rfl rfl rfl (r_not rfl) (qd rfl rfl rfl (r_pickF (v := (.bool (!(goodB bs)))) rfl rfl) (qe (s_then ?_)))
 refine c_ifn rfl rfl (fun h36 => ?_) (fun h36 => ?_)
 refine wp_skip (s_then (s_seq (c_reg ?_)))
 have hga : GoodP ax := goodB_true.1 h31
 have hgb : GoodP bs := goodB_true.1 h36
 have hla := hga.lo
 have hlb := hgb.lo
 have hha := hga.hi
 have hhb := hgb.hi
 refine q1 rfl rfl rfl (o_call (vs := []) Tryz.func46 nm46 rfl rfl rfl ?_)
 refine Calls.mono (newPool_spec hX35.pins) ?_
 rintro _ w40 ⟨p37, mm38, G39, rfl, hpk41, hfr42, hx43⟩
 refine ⟨_, rfl, ?_⟩
 have hX47 := hX35.tr hx43
 have hpin48 : PIn w (noS) p37 (.slice none 0 0) (.slice none 0 0) (.slice none 0 0) mm38 := PIn.fresh hfr42 hX35.size
 obtain ⟨q44, hq45⟩ : ∃ q, q = (⟨[], [], [], [], [], [], []⟩ : PSt) := ⟨_, rfl⟩
 rw [← hq45] at hpk41
 have hok46 : PoolOk q44 := by rw [hq45]; exact PoolOk.empty
 have hq45l : q44.ns.length = 0 := by rw [hq45]; rfl
 obtain ⟨L49, R50, B51, eL49, eR50, eB51⟩ : ∃ (l r b : Value), l = .slice none 0 0 ∧ r = .slice none 0 0 ∧ b = .slice none 0 0 := ⟨_, _, _, rfl, rfl, rfl⟩
 have hpk412 : Pk 57 3 G39 w40 p37 L49 R50 B51 mm38 q44 := by rw [eL49, eR50, eB51]; exact hpk41
 have hpin482 : PIn w (noS) p37 L49 R50 B51 mm38 := by rw [eL49, eR50, eB51]; exact hpin48
 have hml52 : (q44.ns.map Nd.l).length = q44.ns.length ∧ (q44.ns.map Nd.r).length = q44.ns.length := ⟨List.length_map .., List.length_map ..⟩
 have hml53 : q44.bs.length = q44.ns.length ∧ q44.ns.length ≤ 1048576 := ⟨hok46.ar.ok.len, hok46.ar.ok.lim⟩
 refine qd rfl rfl rfl (r_assign (v := (.pointer (some ⟨p37, 0, none⟩))) rfl) (qe (s_then (s_seq ?_)))
 refine c_draw (S := fun wz => Pins G39 wz) (last := 10) (by kernel_rfl) rfl ?_
 have hl54 : Below w40.heap.size w40 w40.drew := (Below.refl _ _).drew
 have hp55 := hX47.pins.below hl54
 have hX56 := hX47.step hp55 hl54
 have hpk57 := hpk412.below hl54 hp55
 refine dr_take (i := 0) rfl rfl rfl (want_none rfl _) (by kernel_rfl) (fun _ _ => r_move (v := (.pointer (some ⟨p37, 0, none⟩))) rfl) hX56.pins (dr_take (i := 1) rfl rfl rfl (want_none rfl _) (by kernel_rfl) (fun _ _ => r_move (v := (.pointer (some ⟨p37, 0, none⟩))) rfl) hX56.pins (dr_take (i := 2) rfl rfl rfl (want_none rfl _) (by kernel_rfl) (fun _ hS => r_ldpA (cs := [u]) ag28 sz28 rfl (fun j u hj => (Pins.of_le hS (Pin.le_trans (Pin.le_trans (Pin.le_trans hle23 hx29.le) hx34.le) hx43.le)) _ _ _ (hbp12 _ _ (by simpa using hj)))) hX56.pins (dr_take (i := 4) rfl rfl rfl (want_none rfl _) (by kernel_rfl) (fun _ _ => r_move (v := (.pointer (some ⟨p37, 0, none⟩))) rfl) hX56.pins (dr_take (i := 5) rfl rfl rfl (want_none rfl _) (by kernel_rfl) (fun _ hS => r_ldpA (cs := [v]) ag28 sz28 rfl (fun j u hj => (Pins.of_le hS (Pin.le_trans (Pin.le_trans hx29.le hx34.le) hx43.le)) _ _ _ (hbp25 _ _ (by simpa using hj)))) hX56.pins (dr_one (i := 3) (by kernel_rfl) (drOp1 (i := 3) rfl rfl rfl (want_none rfl _) (o_call (vs := [(.pointer (some ⟨p37, 0, none⟩)), (.agg [u].toArray)]) Tryz.func49 nm49 rfl rfl rfl ?_)))))))
 refine Calls.mono (root_spec hX56.pins hpk57 hok46 (hu.mono (Pin.le_trans (Pin.le_trans (Pin.le_trans (Pin.le_trans hle10 hle23) hx29.le) hx34.le) hx43.le)) (good_form hga) (by omega) hla) ?_
 rintro _ w67 ⟨z58, L62, R63, B64, q65, G66, rfl, hpk68, hok69, hpx70, hlo71, hx72, hpl59, hpd60, hqn61⟩
 refine ⟨_, rfl, ?_⟩
 have hX73 := hX56.trans hx72 hpin482
 have hpin74 := PIn.call hpin482 hlo71 hX56.size
 have hql75 := hpx70.len
 have hml76 : (q65.ns.map Nd.l).length = q65.ns.length ∧ (q65.ns.map Nd.r).length = q65.ns.length := ⟨List.length_map .., List.length_map ..⟩
 have hml77 : q65.bs.length = q65.ns.length ∧ q65.ns.length ≤ 1048576 := ⟨hok69.ar.ok.len, hok69.ar.ok.lim⟩
 refine ⟨fun _ => (Pins.of_le hX73.pins hx72.le), ?_⟩
 refine dr_one (i := 6) (by kernel_rfl) (drOp1 (i := 6) rfl rfl rfl (want_none rfl _) (o_call (vs := [(.pointer (some ⟨p37, 0, none⟩)), (.agg [v].toArray)]) Tryz.func49 nm49 rfl rfl rfl ?_))
 refine Calls.mono (root_spec hX73.pins hpk68 hok69 (hv.mono (Pin.le_trans (Pin.le_trans (Pin.le_trans (Pin.le_trans (Pin.le_trans hle10 hle23) hx29.le) hx34.le) hx43.le) hx72.le)) (good_form hgb) (by omega) hlb) ?_
 rintro _ w87 ⟨z78, L82, R83, B84, q85, G86, rfl, hpk88, hok89, hpx90, hlo91, hx92, hpl79, hpd80, hqn81⟩
 refine ⟨_, rfl, ?_⟩
 have hX93 := hX73.trans hx92 hpin74
 have hpin94 := PIn.call hpin74 hlo91 hX73.size
 have hql95 := hpx90.len
 have hml96 : (q85.ns.map Nd.l).length = q85.ns.length ∧ (q85.ns.map Nd.r).length = q85.ns.length := ⟨List.length_map .., List.length_map ..⟩
 have hml97 : q85.bs.length = q85.ns.length ∧ q85.ns.length ≤ 1048576 := ⟨hok89.ar.ok.len, hok89.ar.ok.lim⟩
 refine ⟨fun _ => (Pins.of_le hX93.pins (Pin.le_trans hx72.le hx92.le)), ?_⟩
 refine dr_one (i := 7) (by kernel_rfl) (drOp1 (i := 7) rfl rfl rfl (want_none rfl _) (o_call (vs := [(.pointer (some ⟨p37, 0, none⟩)), (.int .i64 z58), (.int .i64 z78)]) Tryz.func87 nm87 rfl rfl rfl ?_))
 refine Calls.mono (outcome_spec hX93.pins hpk88 hok89 (hpx90.place hpl59) hpl79) ?_
 rintro _ w100 ⟨q98, G99, rfl, hpk101, hok102, hpx103, hqn104, hx105⟩
 refine ⟨_, rfl, ?_⟩
 have hX106 := hX93.trans hx105 (fun i hi => (PIn.o hpin94) i hi)
 have hql107 := hpx103.len
 have hml108 : (q98.ns.map Nd.l).length = q98.ns.length ∧ (q98.ns.map Nd.r).length = q98.ns.length := ⟨List.length_map .., List.length_map ..⟩
 have hml109 : q98.bs.length = q98.ns.length ∧ q98.ns.length ≤ 1048576 := ⟨hok102.ar.ok.len, hok102.ar.ok.lim⟩
 have hql110 := congrArg List.length hqn104.1
 refine ⟨fun _ => (Pins.of_le hX106.pins (Pin.le_trans (Pin.le_trans hx72.le hx92.le) hx105.le)), ?_⟩
 refine dr_take (i := 8) rfl rfl rfl (want_none rfl _) (by kernel_rfl) (fun _ _ => r_assign (v := (.int .i64 (codeI (geB q85.ns z58 z78) (geB q85.ns z78 z58)))) rfl) (Pins.of_le hX106.pins (Pin.le_trans (Pin.le_trans hx72.le hx92.le) hx105.le)) (dr_take (i := 9) rfl rfl rfl (want_none rfl _) (by kernel_rfl) (fun _ _ => r_assign (v := (.bool true)) rfl) (Pins.of_le hX106.pins (Pin.le_trans (Pin.le_trans hx72.le hx92.le) hx105.le)) (dr_end (by kernel_rfl) (s_then (wp_ret (s_ret (c_ret2 (v := (.int .i64 (codeI (geB q85.ns z58 z78) (geB q85.ns z78 z58)))) (u := (.bool true)) rfl rfl rfl rfl rfl ?_))))))
 have hr1 := (hpx90.pd hok69 hok89 hpl59).trans hpd60
 have hr2 := hpd80
 obtain ⟨e1, e2⟩ := cfI_good hga hgb
 rw [e1, e2]
 exact ⟨_, congrArg (fun z => Ending.returned (Value.tuple #[Value.int .i64 z, Value.bool true])) (by rw [geB_roots hr1 hr2, geB_roots hr2 hr1]), hX106⟩
 refine s_seq (c_reg ?_)
 refine qd rfl rfl rfl (r_assign (v := (.int .i64 0)) rfl) (qd rfl rfl rfl (r_assign (v := (.bool false)) rfl) (qe (s_then ?_)))
 refine wp_ret (s_ret (c_ret2 (v := (.int .i64 0)) (u := (.bool false)) rfl rfl rfl rfl rfl ?_))
 obtain ⟨e1, e2⟩ := cfI_bad (Or.inr h36)
 rw [e1, e2]
 exact ⟨_, rfl, hX35⟩
 refine qs rfl rfl rfl rfl rfl rfl (qs rfl rfl rfl rfl rfl rfl (qs rfl rfl rfl rfl rfl rfl (qd rfl rfl rfl (r_pickT (v := (.bool true)) rfl rfl) (qe (s_then ?_)))))
 refine c_ifT rfl rfl (s_seq (c_reg ?_))
 refine qd rfl rfl rfl (r_assign (v := (.int .i64 0)) rfl) (qd rfl rfl rfl (r_assign (v := (.bool false)) rfl) (qe (s_then ?_)))
 refine wp_ret (s_ret (c_ret2 (v := (.int .i64 0)) (u := (.bool false)) rfl rfl rfl rfl rfl ?_))
 obtain ⟨e1, e2⟩ := cfI_bad (Or.inl h31)
 rw [e1, e2]
 exact ⟨_, rfl, hX30⟩

end PF1
end Go.Proofs.YtkfgdhanaijddaaGreatDoor

set_option maxRecDepth 20000
set_option maxHeartbeats 2000000
namespace Go.Proofs.YtkfgdhanaijddaaGreatDoor
namespace OR1
open Go.RowKit Go.GL Go.Proofs
open B1 C1 D1 E1
end OR1
end Go.Proofs.YtkfgdhanaijddaaGreatDoor

set_option maxRecDepth 20000
set_option maxHeartbeats 2000000
namespace Go.Proofs.YtkfgdhanaijddaaGreatDoor
namespace SF1
open Go.RowKit Go.GL Go.Proofs
open B1 C1 D1 E1 OR1
end SF1
end Go.Proofs.YtkfgdhanaijddaaGreatDoor

set_option maxRecDepth 20000
set_option maxHeartbeats 2000000
namespace Go.Proofs.YtkfgdhanaijddaaGreatDoor
namespace MK1
open Go.RowKit Go.GL Go.Proofs
open B1 C1 D1 E1
end MK1
end Go.Proofs.YtkfgdhanaijddaaGreatDoor

set_option maxRecDepth 20000
set_option maxHeartbeats 2000000
namespace Go.Proofs.YtkfgdhanaijddaaGreatDoor
namespace DR1
open Go.RowKit Go.GL Go.Proofs
open B1












theorem next_spec {w : World} {G : Pin} {c : Nat} {cv : Value} {code : List UInt8} {a s : Int} (hP : Pins G w) (hB : Bx G w c [cv, .int .i64 a, .int .u64 s]) (hc : RSl eByte G cv code) (ha : 0 ≤ a ∧ a + 1 ≤ 1000000) (_ : 0 ≤ s ∧ s < 18446744073709551616) :
  Calls Tryz.prog 96 [(.pointer (some ⟨c, 0, none⟩))].toArray w fun e w' => ∃ (z : Int) (a' s' : Int), e = .returned (.int .i64 z) ∧ (0 ≤ z ∧ z ≤ 255) ∧ Bx G w' c [cv, .int .i64 a', .int .u64 s'] ∧ (a ≤ a' ∧ a' ≤ a + 1) ∧ (0 ≤ s' ∧ s' < 18446744073709551616) ∧ Ext (inO (some c)) G w G w' := by
 refine s_enter (n := 62) Tryz.func96 Tryz.ntmps96 rfl rfl ?_
 have hX0 : Ext (inO (some c)) G w G w := Ext.refl hP
 have hm := hc.max
 refine s_seq (c_reg ?_)
 refine qd rfl rfl rfl (r_assign (v := (.int .i64 0)) rfl) (qe (s_then (s_seq (c_reg ?_))))
 refine qd rfl rfl rfl (r_assign (v := (.int .i64 0)) rfl) (qe (s_then (s_seq (s_seq ?_))))
 refine c_draw (S := fun wz => BxR wz c [cv, (.int .i64 a), (.int .u64 s)]) (last := 10) (by kernel_rfl) rfl ?_
 have hl1 : Below w.heap.size w w.drew := (Below.refl _ _).drew
 have hp2 := hX0.pins.below hl1
 have hX3 := hX0.step hp2 hl1
 have hb4 := hB.below hl1
 refine dr_take (i := 0) rfl rfl rfl (want_none rfl _) (by kernel_rfl) (fun _ _ => r_move (v := (.pointer (some ⟨c, 0, none⟩))) rfl) hb4.reads (dr_take (i := 1) rfl rfl rfl (want_none rfl _) (by kernel_rfl) (fun _ _ => r_nil rfl) hb4.reads (dr_take (i := 2) rfl rfl rfl (want_none rfl _) (by kernel_rfl) (fun _ _ => r_fldp (k := 1) rfl Tryz.underlying63 rfl nz3 rfl) hb4.reads (dr_take (i := 3) rfl rfl rfl (want_none rfl _) (by kernel_rfl) (fun _ hS => r_ldp1 (u := (.int .i64 a)) ag3 rfl (hS 1 _ rfl)) hb4.reads (dr_take (i := 4) rfl rfl rfl (want_none rfl _) (by kernel_rfl) (fun _ _ => r_move (v := (.pointer (some ⟨c, 0, none⟩))) rfl) hb4.reads (dr_take (i := 5) rfl rfl rfl (want_none rfl _) (by kernel_rfl) (fun _ _ => r_nil rfl) hb4.reads (dr_take (i := 6) rfl rfl rfl (want_none rfl _) (by kernel_rfl) (fun _ _ => r_fldp (k := 0) rfl Tryz.underlying63 rfl nz22 rfl) hb4.reads (dr_take (i := 7) rfl rfl rfl (want_none rfl _) (by kernel_rfl) (fun _ hS => r_ldp1 (u := cv) ag22 rfl (hS 0 _ rfl)) hb4.reads (dr_take (i := 8) rfl rfl rfl (want_none rfl _) (by kernel_rfl) (fun _ _ => run_len Tryz.underlying22 (v := cv) rfl hc) hb4.reads (dr_take (i := 9) rfl rfl rfl (want_none rfl _) (by kernel_rfl) (fun _ _ => r_lss rfl rfl) hb4.reads (dr_end (by kernel_rfl) (s_then (c_ifd (p := (a : Int) < (code.length : Int)) rfl rfl (fun h5 => ?_) (fun h5 => ?_)))))))))))))
 have h255 := (code.getD a.toNat 0).toNat_lt
 refine c_draw (S := fun wz => BxR wz c [cv, (.int .i64 a), (.int .u64 s)] ∧ Pins G wz) (last := 12) (by kernel_rfl) rfl ?_
 have hl6 : Below w.drew.heap.size w.drew w.drew.drew := (Below.refl _ _).drew
 have hp7 := hX3.pins.below hl6
 have hX8 := hX3.step hp7 hl6
 have hb9 := hb4.below hl6
 refine dr_take (i := 0) rfl rfl rfl (want_none rfl _) (by kernel_rfl) (fun _ _ => r_move (v := (.pointer (some ⟨c, 0, none⟩))) rfl) ⟨hb9.reads, hX8.pins⟩ (dr_take (i := 1) rfl rfl rfl (want_none rfl _) (by kernel_rfl) (fun _ _ => r_nil rfl) ⟨hb9.reads, hX8.pins⟩ (dr_take (i := 2) rfl rfl rfl (want_none rfl _) (by kernel_rfl) (fun _ _ => r_fldp (k := 0) rfl Tryz.underlying63 rfl nz22 rfl) ⟨hb9.reads, hX8.pins⟩ (dr_take (i := 3) rfl rfl rfl (want_none rfl _) (by kernel_rfl) (fun _ hS => r_ldp1 (u := cv) ag22 rfl (hS.1 0 _ rfl)) ⟨hb9.reads, hX8.pins⟩ (dr_take (i := 4) rfl rfl rfl (want_none rfl _) (by kernel_rfl) (fun _ _ => r_move (v := (.pointer (some ⟨c, 0, none⟩))) rfl) ⟨hb9.reads, hX8.pins⟩ (dr_take (i := 5) rfl rfl rfl (want_none rfl _) (by kernel_rfl) (fun _ _ => r_nil rfl) ⟨hb9.reads, hX8.pins⟩ (dr_take (i := 6) rfl rfl rfl (want_none rfl _) (by kernel_rfl) (fun _ _ => r_fldp (k := 1) rfl Tryz.underlying63 rfl nz3 rfl) ⟨hb9.reads, hX8.pins⟩ (dr_take (i := 7) rfl rfl rfl (want_none rfl _) (by kernel_rfl) (fun _ hS => r_ldp1 (u := (.int .i64 a)) ag3 rfl (hS.1 1 _ rfl)) ⟨hb9.reads, hX8.pins⟩ (dr_take (i := 8) rfl rfl rfl (want_none rfl _) (by kernel_rfl) (fun _ _ => run_idx Tryz.underlying22 sz5 (v := cv) rfl rfl hc (by omega) (by omega)) ⟨hb9.reads, hX8.pins⟩ (dr_take (i := 9) rfl rfl rfl (want_none rfl _) (by kernel_rfl) (fun _ hS => run_load_byte (r := code.getD (a).toNat 0) rfl ag5 (z := a) rfl hc hS.2 (by omega) (by omega)) ⟨hb9.reads, hX8.pins⟩ (dr_take (i := 10) rfl rfl rfl (want_none rfl _) (by kernel_rfl) (fun _ _ => r_conv (j := ((code.getD (a).toNat 0).toNat : Int)) Tryz.underlying5 Tryz.underlying3 rfl (wrapI (by omega))) ⟨hb9.reads, hX8.pins⟩ (dr_take (i := 11) rfl rfl rfl (want_none rfl _) (by kernel_rfl) (fun _ _ => r_assign (v := (.int .i64 ((code.getD (a).toNat 0).toNat : Int))) rfl) ⟨hb9.reads, hX8.pins⟩ (dr_end (by kernel_rfl) (s_then (s_seq (c_reg ?_)))))))))))))))
 refine qd rfl rfl rfl (r_move (v := (.pointer (some ⟨c, 0, none⟩))) rfl) (qd rfl rfl rfl (r_nil rfl) (qd rfl rfl rfl (r_fldp (k := 1) rfl Tryz.underlying63 rfl nz3 rfl) (qd rfl rfl rfl (r_ldp1 (u := (.int .i64 a)) ag3 rfl (hb9.cell (o := 1) rfl)) (qd rfl rfl rfl (r_add rfl rfl (by omega)) (qd rfl rfl rfl (r_nil rfl) (qd rfl rfl rfl (r_fldp (k := 1) rfl Tryz.underlying63 rfl nz3 rfl) (q0 rfl rfl rfl (o_stp (cs' := [cv, (.int .i64 (a + 1)), (.int .u64 s)]) (us := [(.int .i64 (a + 1))]) (v := (.int .i64 (a + 1))) sz3 rfl rfl rfl (ones1 (by rfl)) hX8.pins hb9 (Nat.le_of_ble_eq_true rfl) rfl (fun w10 hb11 hp12 hg13 hz14 => ?_)))))))))
 have hX15 := hX8.write hp12 hg13 (lo_self)
 refine qe (s_then (s_seq (c_reg ?_)))
 refine qd rfl rfl rfl (r_move (v := (.pointer (some ⟨c, 0, none⟩))) rfl) (qd rfl rfl rfl (r_move (v := (.pointer (some ⟨c, 0, none⟩))) rfl) (qd rfl rfl rfl (r_nil rfl) (qd rfl rfl rfl (r_fldp (k := 2) rfl Tryz.underlying63 rfl nz61 rfl) (qd rfl rfl rfl (r_ldp1 (u := (.int .u64 s)) ag61 rfl (hb11.cell (o := 2) rfl)) (qd rfl rfl rfl (r_mulU rfl rfl) (qd rfl rfl rfl (r_move (v := (.int .i64 ((code.getD (a).toNat 0).toNat : Int))) rfl) (qd rfl rfl rfl (r_conv (j := ((code.getD (a).toNat 0).toNat : Int)) Tryz.underlying3 Tryz.underlying61 rfl (wrapU (by omega))) (qd rfl rfl rfl (r_addU rfl rfl) (qd rfl rfl rfl (r_addU rfl rfl) (qd rfl rfl rfl (r_nil rfl) (qd rfl rfl rfl (r_fldp (k := 2) rfl Tryz.underlying63 rfl nz61 rfl) (q0 rfl rfl rfl (o_stp (cs' := [cv, (.int .i64 (a + 1)), (.int .u64 (IntKind.u64.wrap ((IntKind.u64.wrap ((IntKind.u64.wrap (s * 6364136223846793005)) + ((code.getD (a).toNat 0).toNat : Int))) + 868868)))]) (us := [(.int .u64 (IntKind.u64.wrap ((IntKind.u64.wrap ((IntKind.u64.wrap (s * 6364136223846793005)) + ((code.getD (a).toNat 0).toNat : Int))) + 868868)))]) (v := (.int .u64 (IntKind.u64.wrap ((IntKind.u64.wrap ((IntKind.u64.wrap (s * 6364136223846793005)) + ((code.getD (a).toNat 0).toNat : Int))) + 868868)))) sz61 rfl rfl rfl (ones1 (by rfl)) hX15.pins hb11 (Nat.le_of_ble_eq_true rfl) rfl (fun w16 hb17 hp18 hg19 hz20 => ?_))))))))))))))
 have hX21 := hX15.write hp18 hg19 (lo_self)
 refine qe (s_then (s_seq (s_seq ?_)))
 refine c_draw (S := fun wz => BxR wz c [cv, (.int .i64 (a + 1)), (.int .u64 (IntKind.u64.wrap ((IntKind.u64.wrap ((IntKind.u64.wrap (s * 6364136223846793005)) + ((code.getD (a).toNat 0).toNat : Int))) + 868868)))]) (last := 10) (by kernel_rfl) rfl ?_
 have hl22 : Below w16.heap.size w16 w16.drew := (Below.refl _ _).drew
 have hp23 := hX21.pins.below hl22
 have hX24 := hX21.step hp23 hl22
 have hb25 := hb17.below hl22
 refine dr_take (i := 0) rfl rfl rfl (want_none rfl _) (by kernel_rfl) (fun _ _ => r_move (v := (.pointer (some ⟨c, 0, none⟩))) rfl) hb25.reads (dr_take (i := 1) rfl rfl rfl (want_none rfl _) (by kernel_rfl) (fun _ _ => r_nil rfl) hb25.reads (dr_take (i := 2) rfl rfl rfl (want_none rfl _) (by kernel_rfl) (fun _ _ => r_fldp (k := 1) rfl Tryz.underlying63 rfl nz3 rfl) hb25.reads (dr_take (i := 3) rfl rfl rfl (want_none rfl _) (by kernel_rfl) (fun _ hS => r_ldp1 (u := (.int .i64 (a + 1))) ag3 rfl (hS 1 _ rfl)) hb25.reads (dr_take (i := 4) rfl rfl rfl (want_none rfl _) (by kernel_rfl) (fun _ _ => r_move (v := (.pointer (some ⟨c, 0, none⟩))) rfl) hb25.reads (dr_take (i := 5) rfl rfl rfl (want_none rfl _) (by kernel_rfl) (fun _ _ => r_nil rfl) hb25.reads (dr_take (i := 6) rfl rfl rfl (want_none rfl _) (by kernel_rfl) (fun _ _ => r_fldp (k := 0) rfl Tryz.underlying63 rfl nz22 rfl) hb25.reads (dr_take (i := 7) rfl rfl rfl (want_none rfl _) (by kernel_rfl) (fun _ hS => r_ldp1 (u := cv) ag22 rfl (hS 0 _ rfl)) hb25.reads (dr_take (i := 8) rfl rfl rfl (want_none rfl _) (by kernel_rfl) (fun _ _ => run_len Tryz.underlying22 (v := cv) rfl hc) hb25.reads (dr_take (i := 9) rfl rfl rfl (want_none rfl _) (by kernel_rfl) (fun _ _ => r_leq rfl rfl) hb25.reads (dr_end (by kernel_rfl) (s_then (c_ifd (p := (a + 1 : Int) ≤ (code.length : Int)) rfl rfl (fun h26 => ?_) (fun h26 => ?_)))))))))))))
 refine s_seq (c_reg ?_)
 refine qd rfl rfl rfl (r_move (v := (.int .i64 ((code.getD (a).toNat 0).toNat : Int))) rfl) (qd rfl rfl rfl (r_assign (v := (.int .i64 ((code.getD (a).toNat 0).toNat : Int))) rfl) (qe (s_then ?_)))
 refine wp_ret (s_ret (c_ret1 (v := (.int .i64 ((code.getD (a).toNat 0).toNat : Int))) rfl rfl rfl ?_))
 have hwr := wrapU_lt (((IntKind.u64.wrap ((IntKind.u64.wrap (s * 6364136223846793005)) + ((code.getD (a).toNat 0).toNat : Int))) + 868868))
 exact ⟨_, _, _, rfl, (by omega), hb25, (by omega), (by omega), hX24⟩
 refine wp_skip (s_then (s_seq (c_reg ?_)))
 refine qd rfl rfl rfl (r_move (v := (.pointer (some ⟨c, 0, none⟩))) rfl) (qd rfl rfl rfl (r_nil rfl) (qd rfl rfl rfl (r_fldp (k := 2) rfl Tryz.underlying63 rfl nz61 rfl) (qd rfl rfl rfl (r_ldp1 (u := (.int .u64 (IntKind.u64.wrap ((IntKind.u64.wrap ((IntKind.u64.wrap (s * 6364136223846793005)) + ((code.getD (a).toNat 0).toNat : Int))) + 868868)))) ag61 rfl (hb25.cell (o := 2) rfl)) (qd rfl rfl rfl (r_shrU rfl rfl (by omega)) (qd rfl rfl rfl (r_and rfl rfl) ?_)))))
 have hl827 := low8_lt (Int.fdiv (IntKind.u64.wrap ((IntKind.u64.wrap ((IntKind.u64.wrap (s * 6364136223846793005)) + ((code.getD (a).toNat 0).toNat : Int))) + 868868)) (2 ^ (min (40 : Int).toNat 64)))
 refine qd rfl rfl rfl (r_conv (j := andW .u64 (Int.fdiv (IntKind.u64.wrap ((IntKind.u64.wrap ((IntKind.u64.wrap (s * 6364136223846793005)) + ((code.getD (a).toNat 0).toNat : Int))) + 868868)) (2 ^ (min (40 : Int).toNat 64))) 255) Tryz.underlying61 Tryz.underlying3 rfl (wrapI (by omega))) (qd rfl rfl rfl (r_assign (v := (.int .i64 (andW .u64 (Int.fdiv (IntKind.u64.wrap ((IntKind.u64.wrap ((IntKind.u64.wrap (s * 6364136223846793005)) + ((code.getD (a).toNat 0).toNat : Int))) + 868868)) (2 ^ (min (40 : Int).toNat 64))) 255))) rfl) (qe (s_then ?_)))
 refine wp_ret (s_ret (c_ret1 (v := (.int .i64 (andW .u64 (Int.fdiv (IntKind.u64.wrap ((IntKind.u64.wrap ((IntKind.u64.wrap (s * 6364136223846793005)) + ((code.getD (a).toNat 0).toNat : Int))) + 868868)) (2 ^ (min (40 : Int).toNat 64))) 255))) rfl rfl rfl ?_))
 have hwr := wrapU_lt (((IntKind.u64.wrap ((IntKind.u64.wrap (s * 6364136223846793005)) + ((code.getD (a).toNat 0).toNat : Int))) + 868868))
 exact ⟨_, _, _, rfl, (by omega), hb25, (by omega), (by omega), hX24⟩
 refine wp_skip (s_then (s_seq (c_reg ?_)))
 refine qd rfl rfl rfl (r_move (v := (.pointer (some ⟨c, 0, none⟩))) rfl) (qd rfl rfl rfl (r_nil rfl) (qd rfl rfl rfl (r_fldp (k := 1) rfl Tryz.underlying63 rfl nz3 rfl) (qd rfl rfl rfl (r_ldp1 (u := (.int .i64 a)) ag3 rfl (hb4.cell (o := 1) rfl)) (qd rfl rfl rfl (r_add rfl rfl (by omega)) (qd rfl rfl rfl (r_nil rfl) (qd rfl rfl rfl (r_fldp (k := 1) rfl Tryz.underlying63 rfl nz3 rfl) (q0 rfl rfl rfl (o_stp (cs' := [cv, (.int .i64 (a + 1)), (.int .u64 s)]) (us := [(.int .i64 (a + 1))]) (v := (.int .i64 (a + 1))) sz3 rfl rfl rfl (ones1 (by rfl)) hX3.pins hb4 (Nat.le_of_ble_eq_true rfl) rfl (fun w28 hb29 hp30 hg31 hz32 => ?_)))))))))
 have hX33 := hX3.write hp30 hg31 (lo_self)
 refine qe (s_then (s_seq (c_reg ?_)))
 refine qd rfl rfl rfl (r_move (v := (.pointer (some ⟨c, 0, none⟩))) rfl) (qd rfl rfl rfl (r_move (v := (.pointer (some ⟨c, 0, none⟩))) rfl) (qd rfl rfl rfl (r_nil rfl) (qd rfl rfl rfl (r_fldp (k := 2) rfl Tryz.underlying63 rfl nz61 rfl) (qd rfl rfl rfl (r_ldp1 (u := (.int .u64 s)) ag61 rfl (hb29.cell (o := 2) rfl)) (qd rfl rfl rfl (r_mulU rfl rfl) (qd rfl rfl rfl (r_move (v := (.int .i64 0)) rfl) (qd rfl rfl rfl (r_conv (j := 0) Tryz.underlying3 Tryz.underlying61 rfl (wrapU (by omega))) (qd rfl rfl rfl (r_addU rfl rfl) (qd rfl rfl rfl (r_addU rfl rfl) (qd rfl rfl rfl (r_nil rfl) (qd rfl rfl rfl (r_fldp (k := 2) rfl Tryz.underlying63 rfl nz61 rfl) (q0 rfl rfl rfl (o_stp (cs' := [cv, (.int .i64 (a + 1)), (.int .u64 (IntKind.u64.wrap ((IntKind.u64.wrap ((IntKind.u64.wrap (s * 6364136223846793005)) + 0)) + 868868)))]) (us := [(.int .u64 (IntKind.u64.wrap ((IntKind.u64.wrap ((IntKind.u64.wrap (s * 6364136223846793005)) + 0)) + 868868)))]) (v := (.int .u64 (IntKind.u64.wrap ((IntKind.u64.wrap ((IntKind.u64.wrap (s * 6364136223846793005)) + 0)) + 868868)))) sz61 rfl rfl rfl (ones1 (by rfl)) hX33.pins hb29 (Nat.le_of_ble_eq_true rfl) rfl (fun w34 hb35 hp36 hg37 hz38 => ?_))))))))))))))
 have hX39 := hX33.write hp36 hg37 (lo_self)
 refine qe (s_then (s_seq (s_seq ?_)))
 refine c_draw (S := fun wz => BxR wz c [cv, (.int .i64 (a + 1)), (.int .u64 (IntKind.u64.wrap ((IntKind.u64.wrap ((IntKind.u64.wrap (s * 6364136223846793005)) + 0)) + 868868)))]) (last := 10) (by kernel_rfl) rfl ?_
 have hl40 : Below w34.heap.size w34 w34.drew := (Below.refl _ _).drew
 have hp41 := hX39.pins.below hl40
 have hX42 := hX39.step hp41 hl40
 have hb43 := hb35.below hl40
 refine dr_take (i := 0) rfl rfl rfl (want_none rfl _) (by kernel_rfl) (fun _ _ => r_move (v := (.pointer (some ⟨c, 0, none⟩))) rfl) hb43.reads (dr_take (i := 1) rfl rfl rfl (want_none rfl _) (by kernel_rfl) (fun _ _ => r_nil rfl) hb43.reads (dr_take (i := 2) rfl rfl rfl (want_none rfl _) (by kernel_rfl) (fun _ _ => r_fldp (k := 1) rfl Tryz.underlying63 rfl nz3 rfl) hb43.reads (dr_take (i := 3) rfl rfl rfl (want_none rfl _) (by kernel_rfl) (fun _ hS => r_ldp1 (u := (.int .i64 (a + 1))) ag3 rfl (hS 1 _ rfl)) hb43.reads (dr_take (i := 4) rfl rfl rfl (want_none rfl _) (by kernel_rfl) (fun _ _ => r_move (v := (.pointer (some ⟨c, 0, none⟩))) rfl) hb43.reads (dr_take (i := 5) rfl rfl rfl (want_none rfl _) (by kernel_rfl) (fun _ _ => r_nil rfl) hb43.reads (dr_take (i := 6) rfl rfl rfl (want_none rfl _) (by kernel_rfl) (fun _ _ => r_fldp (k := 0) rfl Tryz.underlying63 rfl nz22 rfl) hb43.reads (dr_take (i := 7) rfl rfl rfl (want_none rfl _) (by kernel_rfl) (fun _ hS => r_ldp1 (u := cv) ag22 rfl (hS 0 _ rfl)) hb43.reads (dr_take (i := 8) rfl rfl rfl (want_none rfl _) (by kernel_rfl) (fun _ _ => run_len Tryz.underlying22 (v := cv) rfl hc) hb43.reads (dr_take (i := 9) rfl rfl rfl (want_none rfl _) (by kernel_rfl) (fun _ _ => r_leq rfl rfl) hb43.reads (dr_end (by kernel_rfl) (s_then (c_ifd (p := (a + 1 : Int) ≤ (code.length : Int)) rfl rfl (fun h44 => ?_) (fun h44 => ?_)))))))))))))
 refine s_seq (c_reg ?_)
 refine qd rfl rfl rfl (r_move (v := (.int .i64 0)) rfl) (qd rfl rfl rfl (r_assign (v := (.int .i64 0)) rfl) (qe (s_then ?_)))
 refine wp_ret (s_ret (c_ret1 (v := (.int .i64 0)) rfl rfl rfl ?_))
 have hwr := wrapU_lt (((IntKind.u64.wrap ((IntKind.u64.wrap (s * 6364136223846793005)) + 0)) + 868868))
 exact ⟨_, _, _, rfl, (by omega), hb43, (by omega), (by omega), hX42⟩
 refine wp_skip (s_then (s_seq (c_reg ?_)))
 refine qd rfl rfl rfl (r_move (v := (.pointer (some ⟨c, 0, none⟩))) rfl) (qd rfl rfl rfl (r_nil rfl) (qd rfl rfl rfl (r_fldp (k := 2) rfl Tryz.underlying63 rfl nz61 rfl) (qd rfl rfl rfl (r_ldp1 (u := (.int .u64 (IntKind.u64.wrap ((IntKind.u64.wrap ((IntKind.u64.wrap (s * 6364136223846793005)) + 0)) + 868868)))) ag61 rfl (hb43.cell (o := 2) rfl)) (qd rfl rfl rfl (r_shrU rfl rfl (by omega)) (qd rfl rfl rfl (r_and rfl rfl) ?_)))))
 have hl845 := low8_lt (Int.fdiv (IntKind.u64.wrap ((IntKind.u64.wrap ((IntKind.u64.wrap (s * 6364136223846793005)) + 0)) + 868868)) (2 ^ (min (40 : Int).toNat 64)))
 refine qd rfl rfl rfl (r_conv (j := andW .u64 (Int.fdiv (IntKind.u64.wrap ((IntKind.u64.wrap ((IntKind.u64.wrap (s * 6364136223846793005)) + 0)) + 868868)) (2 ^ (min (40 : Int).toNat 64))) 255) Tryz.underlying61 Tryz.underlying3 rfl (wrapI (by omega))) (qd rfl rfl rfl (r_assign (v := (.int .i64 (andW .u64 (Int.fdiv (IntKind.u64.wrap ((IntKind.u64.wrap ((IntKind.u64.wrap (s * 6364136223846793005)) + 0)) + 868868)) (2 ^ (min (40 : Int).toNat 64))) 255))) rfl) (qe (s_then ?_)))
 refine wp_ret (s_ret (c_ret1 (v := (.int .i64 (andW .u64 (Int.fdiv (IntKind.u64.wrap ((IntKind.u64.wrap ((IntKind.u64.wrap (s * 6364136223846793005)) + 0)) + 868868)) (2 ^ (min (40 : Int).toNat 64))) 255))) rfl rfl rfl ?_))
 have hwr := wrapU_lt (((IntKind.u64.wrap ((IntKind.u64.wrap (s * 6364136223846793005)) + 0)) + 868868))
 exact ⟨_, _, _, rfl, (by omega), hb43, (by omega), (by omega), hX42⟩

theorem pick_spec {w : World} {G : Pin} {c : Nat} {cv : Value} {code : List UInt8} {a s : Int} {n : Int} (hP : Pins G w) (hB : Bx G w c [cv, .int .i64 a, .int .u64 s]) (hc : RSl eByte G cv code) (ha : 0 ≤ a ∧ a + 2 ≤ 1000000) (hs : 0 ≤ s ∧ s < 18446744073709551616) (hn : n ≤ 1000) :
  Calls Tryz.prog 41 [(.pointer (some ⟨c, 0, none⟩)), (.int .i64 n)].toArray w fun e w' => ∃ (z : Int) (a' s' : Int), e = .returned (.int .i64 z) ∧ (0 ≤ z ∧ (z < n ∨ z = 0)) ∧ Bx G w' c [cv, .int .i64 a', .int .u64 s'] ∧ (a ≤ a' ∧ a' ≤ a + 2) ∧ (0 ≤ s' ∧ s' < 18446744073709551616) ∧ Ext (inO (some c)) G w G w' := by
 refine s_enter (n := 20) Tryz.func41 Tryz.ntmps41 rfl rfl ?_
 have hX0 : Ext (inO (some c)) G w G w := Ext.refl hP
 have hm := hc.max
 refine s_seq (c_reg ?_)
 refine qd rfl rfl rfl (r_assign (v := (.int .i64 0)) rfl) (qe (s_then (s_seq (s_seq (c_reg ?_)))))
 refine qd rfl rfl rfl (r_move (v := (.int .i64 n)) rfl) (qd rfl rfl rfl (r_leq rfl rfl) (qe (s_then ?_)))
 refine c_ifd (p := (n : Int) ≤ 1) rfl rfl (fun h1 => ?_) (fun h1 => ?_)
 refine s_seq (c_reg ?_)
 refine qd rfl rfl rfl (r_assign (v := (.int .i64 0)) rfl) (qe (s_then ?_))
 exact wp_ret (s_ret (c_ret1 (v := (.int .i64 0)) rfl rfl rfl (⟨_, _, _, rfl, (by omega), hB, (by omega), (by omega), hX0⟩)))
 refine wp_skip (s_then (s_seq (c_reg ?_)))
 refine qd rfl rfl rfl (r_move (v := (.pointer (some ⟨c, 0, none⟩))) rfl) (q1 rfl rfl rfl (o_call (vs := [(.pointer (some ⟨c, 0, none⟩))]) Tryz.func96 nm96 rfl rfl rfl ?_))
 refine Calls.mono (next_spec hX0.pins hB hc (by omega) (by omega)) ?_
 rintro _ w6 ⟨z2, a4, s5, rfl, hz3, hb7, hda8, hds9, hx10⟩
 refine ⟨_, rfl, ?_⟩
 have hX11 := hX0.trans hx10 (fun i hi => lo_self i hi)
 refine qd rfl rfl rfl (r_assign (v := (.int .i64 z2)) rfl) (qe (s_then (s_seq (s_seq (c_reg ?_)))))
 refine qd rfl rfl rfl (r_move (v := (.int .i64 n)) rfl) (qd rfl rfl rfl (r_gtr rfl rfl) (qe (s_then ?_)))
 refine c_ifd (p := (200 : Int) < n) rfl rfl (fun h12 => ?_) (fun h12 => ?_)
 refine c_reg (qd rfl rfl rfl (r_move (v := (.int .i64 z2)) rfl) (qd rfl rfl rfl (r_mul rfl rfl (by omega)) (qd rfl rfl rfl (r_move (v := (.pointer (some ⟨c, 0, none⟩))) rfl) (q1 rfl rfl rfl (o_call (vs := [(.pointer (some ⟨c, 0, none⟩))]) Tryz.func96 nm96 rfl rfl rfl ?_)))))
 refine Calls.mono (next_spec hX11.pins hb7 hc (by omega) (by omega)) ?_
 rintro _ w17 ⟨z13, a15, s16, rfl, hz14, hb18, hda19, hds20, hx21⟩
 refine ⟨_, rfl, ?_⟩
 have hX22 := hX11.trans hx21 (fun i hi => lo_self i hi)
 refine qd rfl rfl rfl (r_add rfl rfl (by omega)) (qd rfl rfl rfl (r_assign (v := (.int .i64 ((z2 * 256) + z13))) rfl) (qe (s_then (s_seq (c_reg ?_)))))
 refine qd rfl rfl rfl (r_move (v := (.int .i64 ((z2 * 256) + z13))) rfl) (qd rfl rfl rfl (r_move (v := (.int .i64 n)) rfl) (qd rfl rfl rfl (r_rem rfl rfl (by omega) (by omega)) (qd rfl rfl rfl (r_assign (v := (.int .i64 (((z2 * 256) + z13) % n))) rfl) (qe (s_then ?_)))))
 refine wp_ret (s_ret (c_ret1 (v := (.int .i64 (((z2 * 256) + z13) % n))) rfl rfl rfl ?_))
 have hr1 := Int.emod_nonneg (((z2 * 256) + z13)) (show n ≠ 0 by omega)
 have hr2 := Int.emod_lt_of_pos (((z2 * 256) + z13)) (show 0 < n by omega)
 exact ⟨_, _, _, rfl, (by omega), hb18, (by omega), (by omega), hX22⟩
 refine wp_skip (s_then (s_seq (c_reg ?_)))
 refine qd rfl rfl rfl (r_move (v := (.int .i64 z2)) rfl) (qd rfl rfl rfl (r_move (v := (.int .i64 n)) rfl) (qd rfl rfl rfl (r_rem rfl rfl (by omega) (by omega)) (qd rfl rfl rfl (r_assign (v := (.int .i64 (z2 % n))) rfl) (qe (s_then ?_)))))
 refine wp_ret (s_ret (c_ret1 (v := (.int .i64 (z2 % n))) rfl rfl rfl ?_))
 have hr1 := Int.emod_nonneg (z2) (show n ≠ 0 by omega)
 have hr2 := Int.emod_lt_of_pos (z2) (show 0 < n by omega)
 exact ⟨_, _, _, rfl, (by omega), hb7, (by omega), (by omega), hX11⟩

theorem among_spec {w : World} {G : Pin} {c : Nat} {cv : Value} {code : List UInt8} {a s : Int} {l : Value} {xs : List Int} (hP : Pins G w) (hB : Bx G w c [cv, .int .i64 a, .int .u64 s]) (hc : RSl eByte G cv code) (ha : 0 ≤ a ∧ a + 2 ≤ 1000000) (hs : 0 ≤ s ∧ s < 18446744073709551616) (hl : RSl eInt G l xs) (hx : 1 ≤ xs.length ∧ xs.length ≤ 1000) :
  Calls Tryz.prog 100 [(.pointer (some ⟨c, 0, none⟩)), l].toArray w fun e w' => ∃ (z : Int) (a' s' : Int), e = .returned (.int .i64 z) ∧ z ∈ xs ∧ Bx G w' c [cv, .int .i64 a', .int .u64 s'] ∧ (a ≤ a' ∧ a' ≤ a + 2) ∧ (0 ≤ s' ∧ s' < 18446744073709551616) ∧ Ext (inO (some c)) G w G w' := by
 refine s_enter (n := 12) Tryz.func100 Tryz.ntmps100 rfl rfl ?_
 have hX0 : Ext (inO (some c)) G w G w := Ext.refl hP
 have hm := hc.max
 have hml := hl.max
 refine s_seq (c_reg ?_)
 refine qd rfl rfl rfl (r_assign (v := (.int .i64 0)) rfl) (qe (s_then (s_seq (c_reg ?_))))
 refine qd rfl rfl rfl (r_move (v := l) rfl) (qd rfl rfl rfl (r_move (v := (.pointer (some ⟨c, 0, none⟩))) rfl) (qd rfl rfl rfl (r_move (v := l) rfl) (qd rfl rfl rfl (run_len Tryz.underlying57 (v := l) rfl hl) (q1 rfl rfl rfl (o_call (vs := [(.pointer (some ⟨c, 0, none⟩)), (.int .i64 (xs.length : Int))]) Tryz.func41 nm41 rfl rfl rfl ?_)))))
 refine Calls.mono (pick_spec hX0.pins hB hc (by omega) (by omega) (n := (xs.length : Int)) (by omega)) ?_
 rintro _ w5 ⟨z1, a3, s4, rfl, hz2, hb6, hda7, hds8, hx9⟩
 refine ⟨_, rfl, ?_⟩
 have hX10 := hX0.trans hx9 (fun i hi => lo_self i hi)
 refine qd rfl rfl rfl (run_idx Tryz.underlying57 sz3 (v := l) rfl rfl hl (by omega) (by omega)) (qd rfl rfl rfl (run_load_int (r := xs.getD (z1).toNat 0) rfl ag3 (z := z1) rfl hl hX10.pins (by omega) (by omega)) (qd rfl rfl rfl (r_assign (v := (.int .i64 (xs.getD (z1).toNat 0))) rfl) (qe (s_then ?_))))
 exact wp_ret (s_ret (c_ret1 (v := (.int .i64 (xs.getD (z1).toNat 0))) rfl rfl rfl (⟨_, _, _, rfl, getD_mem (by omega), hb6, (by omega), (by omega), hX10⟩)))

end DR1
end Go.Proofs.YtkfgdhanaijddaaGreatDoor

set_option maxRecDepth 20000
set_option maxHeartbeats 2000000
namespace Go.Proofs.YtkfgdhanaijddaaGreatDoor
namespace DR2
open Go.RowKit Go.GL Go.Proofs
open B1 C1 D1 E1 MK1 DR1
end DR2
end Go.Proofs.YtkfgdhanaijddaaGreatDoor

set_option maxRecDepth 20000
set_option maxHeartbeats 2000000
namespace Go.Proofs.YtkfgdhanaijddaaGreatDoor
namespace DV1
open Go.RowKit Go.GL Go.Proofs
open B1 C1 D1 E1 MK1 DR1 DR2
end DV1
end Go.Proofs.YtkfgdhanaijddaaGreatDoor

set_option maxRecDepth 20000
set_option maxHeartbeats 2000000
namespace Go.Proofs.YtkfgdhanaijddaaGreatDoor
namespace DV2
open Go.RowKit Go.GL Go.Proofs
open B1 C1 D1 E1 MK1 DR1 DR2 DV1
theorem vBig_spec {w : World} {G : Pin} {v : Value} {code : List UInt8} (hP : Pins G w) (hc : RSl eByte G v code) :
  Calls Tryz.prog 10 [v].toArray w fun e w' => e = .returned (.bool (decide ((65536 : Int) < (code.length : Int)))) ∧ Ext noS G w G w' := by
 refine s_enter (n := 6) Tryz.func10 Tryz.ntmps10 rfl rfl ?_
 have hX0 : Ext noS G w G w := Ext.refl hP
 have hm := hc.max
 refine s_seq (c_reg ?_)
 refine qd rfl rfl rfl (r_assign (v := (.bool false)) rfl) (qe (s_then (s_seq (c_reg ?_))))
 refine qd rfl rfl rfl (r_move (v := v) rfl) (qd rfl rfl rfl (run_len Tryz.underlying22 (v := v) rfl hc) (qd rfl rfl rfl (r_gtr rfl rfl) (qd rfl rfl rfl (r_assign (v := (.bool (decide ((65536 : Int) < (code.length : Int))))) rfl) (qe (s_then ?_)))))
 exact wp_ret (s_ret (c_ret1 (v := (.bool (decide ((65536 : Int) < (code.length : Int))))) rfl rfl rfl (⟨rfl, hX0⟩)))

end DV2
end Go.Proofs.YtkfgdhanaijddaaGreatDoor

set_option maxRecDepth 20000
set_option maxHeartbeats 2000000
namespace Go.Proofs.YtkfgdhanaijddaaGreatDoor
namespace NU1
open Go.RowKit Go.GL Go.Proofs
open B1 C1 D1 E1 K1 PO1 PL1


theorem goodDyadic_spec {w : World} {G : Pin} {t z : Int} (hP : Pins G w) :
  Calls Tryz.prog 84 [(.agg [(.int .i64 t), (.int .i64 z)].toArray)].toArray w fun e w' => ∃ G', e = .returned (.bool (decP (GoodD t z))) ∧ Ext noS G w G' w' := by
 refine s_enter (n := 32) Tryz.func84 Tryz.ntmps84 rfl rfl ?_
 have hX0 : Ext noS G w G w := Ext.refl hP
 refine s_seq (c_reg ?_)
 refine q1 rfl rfl rfl (o_box [(.int .i64 t), (.int .i64 z)] (v := (.agg [(.int .i64 t), (.int .i64 z)].toArray)) rfl rfl hX0.pins (fun b1 w2 hk3 hb4 hp5 hl6 => ?_))
 have hX7 := hX0.step hp5 hl6
 have hlo8 : w.heap.size ≤ b1 := by have := hX0.size; omega
 obtain ⟨G9, hle10, hX11, hbp12, hf13⟩ := hb4.shut hX7 hlo8
 refine qd rfl rfl rfl (r_assign (v := (.bool false)) rfl) (qe (s_then (s_seq (c_reg ?_))))
 refine qd rfl rfl rfl (r_fldp (k := 0) rfl Tryz.underlying50 rfl nz3 rfl) (qd rfl rfl rfl (r_ldp1 (u := (.int .i64 t)) ag3 rfl (hX11.pins _ _ _ (hbp12 0 _ rfl))) (qd rfl rfl rfl (r_geq rfl rfl) (qd rfl rfl rfl (r_move (v := (.bool (decide (((-1000000) : Int) ≤ t)))) rfl) (qbd (p := ((-1000000) : Int) ≤ t) (t := 6) rfl (fun h14 => ?_) (fun h14 => ?_)))))
 refine qdg rfl rfl rfl rfl rfl rfl (r_fldp (k := 0) rfl Tryz.underlying50 rfl nz3 rfl) (qdg rfl rfl rfl rfl rfl rfl (r_ldp1 (u := (.int .i64 t)) ag3 rfl (hX11.pins _ _ _ (hbp12 0 _ rfl))) (qdg rfl rfl rfl rfl rfl rfl (r_leq rfl rfl) (qd rfl rfl rfl (r_pickT (v := (.bool (decide ((t : Int) ≤ 1000000)))) rfl rfl) (qd rfl rfl rfl (r_move (v := (.bool (decide ((t : Int) ≤ 1000000)))) rfl) (qbd (p := (t : Int) ≤ 1000000) (t := 11) rfl (fun h15 => ?_) (fun h15 => ?_))))))
 refine qdg rfl rfl rfl rfl rfl rfl (r_fldp (k := 1) rfl Tryz.underlying50 rfl nz3 rfl) (qdg rfl rfl rfl rfl rfl rfl (r_ldp1 (u := (.int .i64 z)) ag3 rfl (hX11.pins _ _ _ (hbp12 1 _ rfl))) (qdg rfl rfl rfl rfl rfl rfl (r_geq rfl rfl) (qd rfl rfl rfl (r_pickT (v := (.bool (decide ((0 : Int) ≤ z)))) rfl rfl) (qd rfl rfl rfl (r_move (v := (.bool (decide ((0 : Int) ≤ z)))) rfl) (qbd (p := (0 : Int) ≤ z) (t := 16) rfl (fun h16 => ?_) (fun h16 => ?_))))))
 refine qdg rfl rfl rfl rfl rfl rfl (r_fldp (k := 1) rfl Tryz.underlying50 rfl nz3 rfl) (qdg rfl rfl rfl rfl rfl rfl (r_ldp1 (u := (.int .i64 z)) ag3 rfl (hX11.pins _ _ _ (hbp12 1 _ rfl))) (qdg rfl rfl rfl rfl rfl rfl (r_leq rfl rfl) (qd rfl rfl rfl (r_pickT (v := (.bool (decide ((z : Int) ≤ 16)))) rfl rfl) (qd rfl rfl rfl (r_move (v := (.bool (decide ((z : Int) ≤ 16)))) rfl) (qbd (p := (z : Int) ≤ 16) (t := 21) rfl (fun h17 => ?_) (fun h17 => ?_))))))
 refine qdg rfl rfl rfl rfl rfl rfl (r_fldp (k := 1) rfl Tryz.underlying50 rfl nz3 rfl) (qdg rfl rfl rfl rfl rfl rfl (r_ldp1 (u := (.int .i64 z)) ag3 rfl (hX11.pins _ _ _ (hbp12 1 _ rfl))) (qdg rfl rfl rfl rfl rfl rfl (r_eql rfl rfl) (qdg rfl rfl rfl rfl rfl rfl (r_move (v := (.bool (decide ((z : Int) = 0)))) rfl) (qbd (p := (z : Int) = 0) (t := 25) rfl (fun h18 => ?_) (fun h18 => ?_)))))
 refine qs rfl rfl rfl rfl rfl rfl (qs rfl rfl rfl rfl rfl rfl (qs rfl rfl rfl rfl rfl rfl (qs rfl rfl rfl rfl rfl rfl (qdg rfl rfl rfl rfl rfl rfl (r_pickT (v := (.bool true)) rfl rfl) (qd rfl rfl rfl (r_pickT (v := (.bool true)) rfl rfl) (qd rfl rfl rfl (r_assign (v := (.bool true)) rfl) (qe (s_then ?_))))))))
 exact wp_ret (s_ret (c_ret1 (v := (.bool true)) rfl rfl rfl (⟨_, congrArg (fun z => Ending.returned (Value.bool z)) (decP_true.2 ⟨by omega, by omega, by omega⟩).symm, hX11⟩)))
 refine qdg rfl rfl rfl rfl rfl rfl (r_fldp (k := 0) rfl Tryz.underlying50 rfl nz3 rfl) (qdg rfl rfl rfl rfl rfl rfl (r_ldp1 (u := (.int .i64 t)) ag3 rfl (hX11.pins _ _ _ (hbp12 0 _ rfl))) (qdg rfl rfl rfl rfl rfl rfl (r_rem2 rfl rfl) (qdg rfl rfl rfl rfl rfl rfl (r_neq rfl rfl) (qdg rfl rfl rfl rfl rfl rfl (r_pickF (v := (.bool (decide ((t.tmod 2 : Int) ≠ 0)))) rfl rfl) (qd rfl rfl rfl (r_pickT (v := (.bool (decide ((t.tmod 2 : Int) ≠ 0)))) rfl rfl) (qd rfl rfl rfl (r_assign (v := (.bool (decide ((t.tmod 2 : Int) ≠ 0)))) rfl) (qe (s_then ?_))))))))
 exact wp_ret (s_ret (c_ret1 (v := (.bool (decide ((t.tmod 2 : Int) ≠ 0)))) rfl rfl rfl (⟨_, congrArg (fun z => Ending.returned (Value.bool z)) (decP_dec.symm.trans (decP_iff ⟨fun h => ⟨by omega, by omega, by omega⟩, fun g => by have h3 := g.odd; omega⟩)), hX11⟩)))
 refine qs rfl rfl rfl rfl rfl rfl (qs rfl rfl rfl rfl rfl rfl (qs rfl rfl rfl rfl rfl rfl (qs rfl rfl rfl rfl rfl rfl (qsu rfl rfl rfl rfl rfl (qsu rfl rfl rfl rfl rfl (qsu rfl rfl rfl rfl rfl (qsu rfl rfl rfl rfl rfl (qs rfl rfl rfl rfl rfl rfl (qd rfl rfl rfl (r_pickF (v := (.bool false)) rfl rfl) (qd rfl rfl rfl (r_assign (v := (.bool false)) rfl) (qe (s_then ?_))))))))))))
 exact wp_ret (s_ret (c_ret1 (v := (.bool false)) rfl rfl rfl (⟨_, congrArg (fun z => Ending.returned (Value.bool z)) (decP_false.2 (fun g => by have h1 := g.top; have h2 := g.pow; have h3 := g.odd; omega)).symm, hX11⟩)))
 refine qs rfl rfl rfl rfl rfl rfl (qs rfl rfl rfl rfl rfl rfl (qs rfl rfl rfl rfl rfl rfl (qd rfl rfl rfl (r_pickF (v := (.bool false)) rfl rfl) (qd rfl rfl rfl (r_move (v := (.bool false)) rfl) (qs rfl rfl rfl rfl rfl rfl (qs rfl rfl rfl rfl rfl rfl (qs rfl rfl rfl rfl rfl rfl (qs rfl rfl rfl rfl rfl rfl (qsu rfl rfl rfl rfl rfl (qsu rfl rfl rfl rfl rfl (qsu rfl rfl rfl rfl rfl (qsu rfl rfl rfl rfl rfl (qs rfl rfl rfl rfl rfl rfl (qd rfl rfl rfl (r_pickF (v := (.bool false)) rfl rfl) (qd rfl rfl rfl (r_assign (v := (.bool false)) rfl) (qe (s_then ?_)))))))))))))))))
 exact wp_ret (s_ret (c_ret1 (v := (.bool false)) rfl rfl rfl (⟨_, congrArg (fun z => Ending.returned (Value.bool z)) (decP_false.2 (fun g => by have h1 := g.top; have h2 := g.pow; have h3 := g.odd; omega)).symm, hX11⟩)))
 refine qs rfl rfl rfl rfl rfl rfl (qs rfl rfl rfl rfl rfl rfl (qs rfl rfl rfl rfl rfl rfl (qd rfl rfl rfl (r_pickF (v := (.bool false)) rfl rfl) (qd rfl rfl rfl (r_move (v := (.bool false)) rfl) (qs rfl rfl rfl rfl rfl rfl (qs rfl rfl rfl rfl rfl rfl (qs rfl rfl rfl rfl rfl rfl (qd rfl rfl rfl (r_pickF (v := (.bool false)) rfl rfl) (qd rfl rfl rfl (r_move (v := (.bool false)) rfl) (qs rfl rfl rfl rfl rfl rfl (qs rfl rfl rfl rfl rfl rfl (qs rfl rfl rfl rfl rfl rfl (qs rfl rfl rfl rfl rfl rfl (qsu rfl rfl rfl rfl rfl (qsu rfl rfl rfl rfl rfl (qsu rfl rfl rfl rfl rfl (qsu rfl rfl rfl rfl rfl (qs rfl rfl rfl rfl rfl rfl (qd rfl rfl rfl (r_pickF (v := (.bool false)) rfl rfl) (qd rfl rfl rfl (r_assign (v := (.bool false)) rfl) (qe (s_then ?_))))))))))))))))))))))
 exact wp_ret (s_ret (c_ret1 (v := (.bool false)) rfl rfl rfl (⟨_, congrArg (fun z => Ending.returned (Value.bool z)) (decP_false.2 (fun g => by have h1 := g.top; have h2 := g.pow; have h3 := g.odd; omega)).symm, hX11⟩)))
 refine qs rfl rfl rfl rfl rfl rfl (qs rfl rfl rfl rfl rfl rfl (qs rfl rfl rfl rfl rfl rfl (qd rfl rfl rfl (r_pickF (v := (.bool false)) rfl rfl) (qd rfl rfl rfl (r_move (v := (.bool false)) rfl) (qs rfl rfl rfl rfl rfl rfl (qs rfl rfl rfl rfl rfl rfl (qs rfl rfl rfl rfl rfl rfl (qd rfl rfl rfl (r_pickF (v := (.bool false)) rfl rfl) (qd rfl rfl rfl (r_move (v := (.bool false)) rfl) (qs rfl rfl rfl rfl rfl rfl (qs rfl rfl rfl rfl rfl rfl (qs rfl rfl rfl rfl rfl rfl (qd rfl rfl rfl (r_pickF (v := (.bool false)) rfl rfl) (qd rfl rfl rfl (r_move (v := (.bool false)) rfl) (qs rfl rfl rfl rfl rfl rfl (qs rfl rfl rfl rfl rfl rfl (qs rfl rfl rfl rfl rfl rfl (qs rfl rfl rfl rfl rfl rfl (qsu rfl rfl rfl rfl rfl (qsu rfl rfl rfl rfl rfl (qsu rfl rfl rfl rfl rfl (qsu rfl rfl rfl rfl rfl (qs rfl rfl rfl rfl rfl rfl (qd rfl rfl rfl (r_pickF (v := (.bool false)) rfl rfl) (qd rfl rfl rfl (r_assign (v := (.bool false)) rfl) (qe (s_then ?_)))))))))))))))))))))))))))
 exact wp_ret (s_ret (c_ret1 (v := (.bool false)) rfl rfl rfl (⟨_, congrArg (fun z => Ending.returned (Value.bool z)) (decP_false.2 (fun g => by have h1 := g.top; have h2 := g.pow; have h3 := g.odd; omega)).symm, hX11⟩)))

end NU1
end Go.Proofs.YtkfgdhanaijddaaGreatDoor

set_option maxRecDepth 20000
set_option maxHeartbeats 2000000
namespace Go.Proofs.YtkfgdhanaijddaaGreatDoor
namespace NU2
open Go.RowKit Go.GL Go.Proofs
open B1 C1 D1 E1 K1 PO1 PL1 NU1


theorem pl50 : (Tryz.prog.underlying 50).bind (placesD Tryz.prog) = some [(0, 1), (1, 1)] := by kernel_rfl


theorem lowest_spec {w : World} {G : Pin} {t : Int} {p : Nat} (hP : Pins G w) (hb : -1000000000000000 ≤ t ∧ t ≤ 1000000000000000) (hp : p ≤ 64) :
  Calls Tryz.prog 156 [(.int .i64 t), (.int .i64 (p : Int))].toArray w fun e w' => ∃ G', e = .returned (.tuple #[(.agg [.int .i64 (lowR (decP (GoodD (lowD p t).1 (((lowD p t).2 : Nat) : Int))) (lowD p t).1), .int .i64 (lowR (decP (GoodD (lowD p t).1 (((lowD p t).2 : Nat) : Int))) (((lowD p t).2 : Nat) : Int))].toArray), .bool (decP (GoodD (lowD p t).1 (((lowD p t).2 : Nat) : Int)))]) ∧ Ext noS G w G' w' := by
 refine s_enter (n := 26) Tryz.func156 Tryz.ntmps156 rfl rfl ?_
 have hX0 : Ext noS G w G w := Ext.refl hP
 refine s_seq (c_reg ?_)
 refine q1 rfl rfl rfl (o_alloc [(.int .i64 0), (.int .i64 0)] zr50 rfl hX0.pins (fun b1 w2 hk3 hb4 hp5 hl6 => ?_))
 have hX7 := hX0.step hp5 hl6
 have hlo8 : w.heap.size ≤ b1 := by have := hX0.size; omega
 refine qd rfl rfl rfl (r_assign (v := (.bool false)) rfl) (qe (s_then (s_seq ?_)))
 refine s_blk (s_loop (fun (k : Nat) (en : Nat → Value) (W : World) => ∃ (env1 : Nat → Value) (a : Int) (zp : Int) (GL1 : Pin), en = (upd (upd (upd (upd env1 0 (.int .i64 a)) 1 (.int .i64 zp)) 4 (.pointer (some ⟨b1, 0, none⟩))) 5 (.bool false)) ∧ k = zp.toNat ∧ Ext noS G w GL1 W ∧ Pin.le G GL1 ∧ (lowD p t = lowD zp.toNat a) ∧ (0 ≤ zp ∧ zp ≤ 64) ∧ (-1000000000000000 ≤ a ∧ a ≤ 1000000000000000) ∧ (Bx GL1 W b1 [(.int .i64 0), (.int .i64 0)])) _ ⟨_, t, (p : Int), G, (packS (x := 5) (packS (x := 4) (packS (x := 1) (pack1 (x := 0) rfl) rfl) rfl) rfl), rfl, hX7, Pin.le_refl _, (by rw [Int.toNat_natCast]), (by omega), hb, hb4⟩ ?_)
 rintro k9 _ w10 ⟨env1, a, zp, GL1, rfl, hk11, hX12, hlek9, hr, hz, hab, hw13⟩
 refine s_seq (s_seq (c_reg ?_))
 refine qd rfl rfl rfl (r_move (v := (.int .i64 zp)) rfl) (qd rfl rfl rfl (r_gtr rfl rfl) (qd rfl rfl rfl (r_move (v := (.bool (decide ((0 : Int) < zp)))) rfl) (qbd (p := (0 : Int) < zp) (t := 9) rfl (fun h14 => ?_) (fun h14 => ?_))))
 refine qdg rfl rfl rfl rfl rfl rfl (r_move (v := (.int .i64 a)) rfl) (qdg rfl rfl rfl rfl rfl rfl (r_rem2 rfl rfl) (qdg rfl rfl rfl rfl rfl rfl (r_eql rfl rfl) (qd rfl rfl rfl (r_pickT (v := (.bool (decide ((a.tmod 2 : Int) = 0)))) rfl rfl) (qe (s_then ?_)))))
 refine c_ifd (p := (a.tmod 2 : Int) = 0) rfl rfl (fun h15 => ?_) (fun h15 => ?_)
 refine wp_skip (s_then (s_blk (s_seq (c_reg ?_))))
 refine qd rfl rfl rfl (r_move (v := (.int .i64 a)) rfl) (qd rfl rfl rfl (r_quo2 rfl rfl ((tmod2 _).1 h15) (by omega)) (qd rfl rfl rfl (r_assign (v := (.int .i64 (a / 2))) rfl) (qe (s_then (c_reg ?_)))))
 refine qd rfl rfl rfl (r_move (v := (.int .i64 zp)) rfl) (qd rfl rfl rfl (r_sub rfl rfl (by omega)) (qd rfl rfl rfl (r_assign (v := (.int .i64 (zp - 1))) rfl) (qe (s_blkN (s_lopN (⟨_, ?_, _, rfl, _, a / 2, zp - 1, GL1, (packS (x := 5) (packS (x := 4) (packS (x := 1) (pack1 (x := 0) rfl) rfl) rfl) rfl), rfl, hX12, hlek9, (hr.trans (low_even (by omega) h15)), (by omega), (by omega), hw13⟩))))))
 omega
 refine wp_exit (s_thenE (s_lopE (s_blkE (s_then (s_seq (c_reg ?_))))))
 refine qd rfl rfl rfl (r_move (v := (.int .i64 a)) rfl) (qd rfl rfl rfl (r_move (v := (.int .i64 zp)) rfl) (qd rfl rfl rfl (r_build [(.int .i64 0), (.int .i64 0)] [(.int .i64 a), (.int .i64 zp)] [(0, (.int .i64 a), [(.int .i64 a)]), (1, (.int .i64 zp), [(.int .i64 zp)])] Tryz.underlying50 zr50 rfl pl50 rfl (List.forall_mem_cons.2 ⟨rfl, (List.forall_mem_cons.2 ⟨rfl, (fun _ h => by cases h)⟩)⟩) rfl) (q1 rfl rfl rfl (o_alloc [(.int .i64 0), (.int .i64 0)] zr50 rfl hX12.pins (fun b16 w17 hk18 hb19 hp20 hl21 => ?_)))))
 have hX22 := hX12.step hp20 hl21
 have hb23 := hw13.below hl21
 have ha24 : Apart (some b16) (some b1) := new_ne_box (congrArg some hk18) hw13.lt
 have hlo25 : w.heap.size ≤ b16 := by have := hX12.size; omega
 refine q0 rfl rfl rfl (o_stp (cs' := [(.int .i64 a), (.int .i64 zp)]) (us := [(.int .i64 a), (.int .i64 zp)]) (v := (.agg [(.int .i64 a), (.int .i64 zp)].toArray)) sz50 rfl rfl rfl (ones2 (by rfl) (by rfl)) hX22.pins hb19 (Nat.le_of_ble_eq_true rfl) rfl (fun w26 hb27 hp28 hg29 hz30 => ?_))
 have hX31 := hX22.write hp28 hg29 ((lo_box hlo25))
 have hb32 := hb23.keptA hg29 ha24.symm
 obtain ⟨G33, hle34, hX35, hbp36, hf37⟩ := hb27.shut hX31 hlo25
 have hb38 := hb32.moreA hf37 ha24.symm
 refine qe (s_then (s_seq (s_seq (c_reg ?_))))
 refine qd rfl rfl rfl (r_ldpA (cs := [(.int .i64 a), (.int .i64 zp)]) ag50 sz50 rfl (fun j u hj => hX35.pins _ _ _ (hbp36 _ _ (by simpa using hj)))) (q1 rfl rfl rfl (o_call (vs := [(.agg [(.int .i64 a), (.int .i64 zp)].toArray)]) Tryz.func84 nm84 rfl rfl rfl ?_))
 refine Calls.mono (goodDyadic_spec (t := a) (z := zp) hX35.pins) ?_
 rintro _ w40 ⟨G39, rfl, hx41⟩
 refine ⟨_, rfl, ?_⟩
 have hX42 := hX35.tr hx41
 have hb43 := hb38.ext hx41
 refine qd rfl rfl rfl (r_not rfl) (qe (s_then ?_))
 refine c_ifn rfl rfl (fun h44 => ?_) (fun h44 => ?_)
 refine wp_skip (s_then (s_seq (c_reg ?_)))
 refine qd rfl rfl rfl (r_ldpA (cs := [(.int .i64 a), (.int .i64 zp)]) ag50 sz50 rfl (fun j u hj => (Pins.of_le hX42.pins hx41.le) _ _ _ (hbp36 _ _ (by simpa using hj)))) (q0 rfl rfl rfl (o_stp (cs' := [(.int .i64 a), (.int .i64 zp)]) (us := [(.int .i64 a), (.int .i64 zp)]) (v := (.agg [(.int .i64 a), (.int .i64 zp)].toArray)) sz50 rfl rfl rfl (ones2 (by rfl) (by rfl)) hX42.pins hb43 (Nat.le_of_ble_eq_true rfl) rfl (fun w45 hb46 hp47 hg48 hz49 => ?_)))
 have hX50 := hX42.write hp47 hg48 ((lo_box hlo8))
 refine qd rfl rfl rfl (r_assign (v := (.bool true)) rfl) (qe (s_then ?_))
 refine wp_ret (s_ret (c_retct (cs := [(.int .i64 a), (.int .i64 zp)]) (v := (.bool true)) rfl rfl rfl rfl rfl ag50 sz50 (fun j u hj => by rw [Nat.zero_add]; exact hb46.cell hj) ?_))
 have hst := hr.trans (low_stop hz.1 (by first | exact Or.inl h15 | exact Or.inr h15))
 have hz3 : ((zp.toNat : Nat) : Int) = zp := Int.toNat_of_nonneg hz.1
 rw [hst]
 simp only [hz3]
 exact ⟨_, by rw [h44]; rfl, hX50⟩
 refine s_seq (c_reg ?_)
 refine qd rfl rfl rfl (r_build [(.int .i64 0), (.int .i64 0)] [(.int .i64 0), (.int .i64 0)] [] Tryz.underlying50 zr50 rfl pl50 rfl (fun _ h => by cases h) rfl) (q0 rfl rfl rfl (o_stp (cs' := [(.int .i64 0), (.int .i64 0)]) (us := [(.int .i64 0), (.int .i64 0)]) (v := (.agg [(.int .i64 0), (.int .i64 0)].toArray)) sz50 rfl rfl rfl (ones2 (by rfl) (by rfl)) hX42.pins hb43 (Nat.le_of_ble_eq_true rfl) rfl (fun w51 hb52 hp53 hg54 hz55 => ?_)))
 have hX56 := hX42.write hp53 hg54 ((lo_box hlo8))
 refine qd rfl rfl rfl (r_assign (v := (.bool false)) rfl) (qe (s_then ?_))
 refine wp_ret (s_ret (c_retct (cs := [(.int .i64 0), (.int .i64 0)]) (v := (.bool false)) rfl rfl rfl rfl rfl ag50 sz50 (fun j u hj => by rw [Nat.zero_add]; exact hb52.cell hj) ?_))
 have hst := hr.trans (low_stop hz.1 (by first | exact Or.inl h15 | exact Or.inr h15))
 have hz3 : ((zp.toNat : Nat) : Int) = zp := Int.toNat_of_nonneg hz.1
 rw [hst]
 simp only [hz3]
 exact ⟨_, by rw [h44]; rfl, hX56⟩
 refine qs rfl rfl rfl rfl rfl rfl (qs rfl rfl rfl rfl rfl rfl (qs rfl rfl rfl rfl rfl rfl (qd rfl rfl rfl (r_pickF (v := (.bool false)) rfl rfl) (qe (s_then ?_)))))
 refine c_ifF rfl rfl (wp_exit (s_thenE (s_lopE (s_blkE (s_then (s_seq (c_reg ?_)))))))
 refine qd rfl rfl rfl (r_move (v := (.int .i64 a)) rfl) (qd rfl rfl rfl (r_move (v := (.int .i64 zp)) rfl) (qd rfl rfl rfl (r_build [(.int .i64 0), (.int .i64 0)] [(.int .i64 a), (.int .i64 zp)] [(0, (.int .i64 a), [(.int .i64 a)]), (1, (.int .i64 zp), [(.int .i64 zp)])] Tryz.underlying50 zr50 rfl pl50 rfl (List.forall_mem_cons.2 ⟨rfl, (List.forall_mem_cons.2 ⟨rfl, (fun _ h => by cases h)⟩)⟩) rfl) (q1 rfl rfl rfl (o_alloc [(.int .i64 0), (.int .i64 0)] zr50 rfl hX12.pins (fun b57 w58 hk59 hb60 hp61 hl62 => ?_)))))
 have hX63 := hX12.step hp61 hl62
 have hb64 := hw13.below hl62
 have ha65 : Apart (some b57) (some b1) := new_ne_box (congrArg some hk59) hw13.lt
 have hlo66 : w.heap.size ≤ b57 := by have := hX12.size; omega
 refine q0 rfl rfl rfl (o_stp (cs' := [(.int .i64 a), (.int .i64 zp)]) (us := [(.int .i64 a), (.int .i64 zp)]) (v := (.agg [(.int .i64 a), (.int .i64 zp)].toArray)) sz50 rfl rfl rfl (ones2 (by rfl) (by rfl)) hX63.pins hb60 (Nat.le_of_ble_eq_true rfl) rfl (fun w67 hb68 hp69 hg70 hz71 => ?_))
 have hX72 := hX63.write hp69 hg70 ((lo_box hlo66))
 have hb73 := hb64.keptA hg70 ha65.symm
 obtain ⟨G74, hle75, hX76, hbp77, hf78⟩ := hb68.shut hX72 hlo66
 have hb79 := hb73.moreA hf78 ha65.symm
 refine qe (s_then (s_seq (s_seq (c_reg ?_))))
 refine qd rfl rfl rfl (r_ldpA (cs := [(.int .i64 a), (.int .i64 zp)]) ag50 sz50 rfl (fun j u hj => hX76.pins _ _ _ (hbp77 _ _ (by simpa using hj)))) (q1 rfl rfl rfl (o_call (vs := [(.agg [(.int .i64 a), (.int .i64 zp)].toArray)]) Tryz.func84 nm84 rfl rfl rfl ?_))
 refine Calls.mono (goodDyadic_spec (t := a) (z := zp) hX76.pins) ?_
 rintro _ w81 ⟨G80, rfl, hx82⟩
 refine ⟨_, rfl, ?_⟩
 have hX83 := hX76.tr hx82
 have hb84 := hb79.ext hx82
 refine qd rfl rfl rfl (r_not rfl) (qe (s_then ?_))
 refine c_ifn rfl rfl (fun h85 => ?_) (fun h85 => ?_)
 refine wp_skip (s_then (s_seq (c_reg ?_)))
 refine qd rfl rfl rfl (r_ldpA (cs := [(.int .i64 a), (.int .i64 zp)]) ag50 sz50 rfl (fun j u hj => (Pins.of_le hX83.pins hx82.le) _ _ _ (hbp77 _ _ (by simpa using hj)))) (q0 rfl rfl rfl (o_stp (cs' := [(.int .i64 a), (.int .i64 zp)]) (us := [(.int .i64 a), (.int .i64 zp)]) (v := (.agg [(.int .i64 a), (.int .i64 zp)].toArray)) sz50 rfl rfl rfl (ones2 (by rfl) (by rfl)) hX83.pins hb84 (Nat.le_of_ble_eq_true rfl) rfl (fun w86 hb87 hp88 hg89 hz90 => ?_)))
 have hX91 := hX83.write hp88 hg89 ((lo_box hlo8))
 refine qd rfl rfl rfl (r_assign (v := (.bool true)) rfl) (qe (s_then ?_))
 refine wp_ret (s_ret (c_retct (cs := [(.int .i64 a), (.int .i64 zp)]) (v := (.bool true)) rfl rfl rfl rfl rfl ag50 sz50 (fun j u hj => by rw [Nat.zero_add]; exact hb87.cell hj) ?_))
 have hst := hr.trans (low_stop hz.1 (by first | exact Or.inl h14 | exact Or.inr h14))
 have hz3 : ((zp.toNat : Nat) : Int) = zp := Int.toNat_of_nonneg hz.1
 rw [hst]
 simp only [hz3]
 exact ⟨_, by rw [h85]; rfl, hX91⟩
 refine s_seq (c_reg ?_)
 refine qd rfl rfl rfl (r_build [(.int .i64 0), (.int .i64 0)] [(.int .i64 0), (.int .i64 0)] [] Tryz.underlying50 zr50 rfl pl50 rfl (fun _ h => by cases h) rfl) (q0 rfl rfl rfl (o_stp (cs' := [(.int .i64 0), (.int .i64 0)]) (us := [(.int .i64 0), (.int .i64 0)]) (v := (.agg [(.int .i64 0), (.int .i64 0)].toArray)) sz50 rfl rfl rfl (ones2 (by rfl) (by rfl)) hX83.pins hb84 (Nat.le_of_ble_eq_true rfl) rfl (fun w92 hb93 hp94 hg95 hz96 => ?_)))
 have hX97 := hX83.write hp94 hg95 ((lo_box hlo8))
 refine qd rfl rfl rfl (r_assign (v := (.bool false)) rfl) (qe (s_then ?_))
 refine wp_ret (s_ret (c_retct (cs := [(.int .i64 0), (.int .i64 0)]) (v := (.bool false)) rfl rfl rfl rfl rfl ag50 sz50 (fun j u hj => by rw [Nat.zero_add]; exact hb93.cell hj) ?_))
 have hst := hr.trans (low_stop hz.1 (by first | exact Or.inl h14 | exact Or.inr h14))
 have hz3 : ((zp.toNat : Nat) : Int) = zp := Int.toNat_of_nonneg hz.1
 rw [hst]
 simp only [hz3]
 exact ⟨_, by rw [h85]; rfl, hX97⟩

end NU2
end Go.Proofs.YtkfgdhanaijddaaGreatDoor

set_option maxRecDepth 20000
set_option maxHeartbeats 2000000
namespace Go.Proofs.YtkfgdhanaijddaaGreatDoor
namespace NU3
open Go.RowKit Go.GL Go.Proofs
open B1 C1 D1 E1 K1 PO1 PL1 NU1

theorem pl50 : (Tryz.prog.underlying 50).bind (placesD Tryz.prog) = some [(0, 1), (1, 1)] := by kernel_rfl


theorem l2Make_spec {w : World} {G : Pin} {t : Int} {p : Nat} (hP : Pins G w) (hb : -1000000000000000 ≤ t ∧ t ≤ 1000000000000000) (hp : p ≤ 64) :
  Calls Tryz.prog 155 [(.int .i64 t), (.int .i64 (p : Int))].toArray w fun e w' => ∃ G', e = .returned (.agg [.int .i64 (lowD p t).1, .int .i64 (((lowD p t).2 : Nat) : Int)].toArray) ∧ Ext noS G w G' w' := by
 refine s_enter (n := 19) Tryz.func155 Tryz.ntmps155 rfl rfl ?_
 have hX0 : Ext noS G w G w := Ext.refl hP
 refine s_seq (c_reg ?_)
 refine q1 rfl rfl rfl (o_alloc [(.int .i64 0), (.int .i64 0)] zr50 rfl hX0.pins (fun b1 w2 hk3 hb4 hp5 hl6 => ?_))
 have hX7 := hX0.step hp5 hl6
 have hlo8 : w.heap.size ≤ b1 := by have := hX0.size; omega
 refine qe (s_then (s_seq ?_))
 refine s_blk (s_loop (fun (k : Nat) (en : Nat → Value) (W : World) => ∃ (env1 : Nat → Value) (a : Int) (zp : Int) (GL1 : Pin), en = (upd (upd (upd env1 0 (.int .i64 a)) 1 (.int .i64 zp)) 4 (.pointer (some ⟨b1, 0, none⟩))) ∧ k = zp.toNat ∧ Ext noS G w GL1 W ∧ Pin.le G GL1 ∧ (lowD p t = lowD zp.toNat a) ∧ (0 ≤ zp ∧ zp ≤ 64) ∧ (-1000000000000000 ≤ a ∧ a ≤ 1000000000000000) ∧ (Bx GL1 W b1 [(.int .i64 0), (.int .i64 0)])) _ ⟨_, t, (p : Int), G, (packS (x := 4) (packS (x := 1) (pack1 (x := 0) rfl) rfl) rfl), rfl, hX7, Pin.le_refl _, (by rw [Int.toNat_natCast]), (by omega), hb, hb4⟩ ?_)
 rintro k9 _ w10 ⟨env1, a, zp, GL1, rfl, hk11, hX12, hlek9, hr, hz, hab, hw13⟩
 refine s_seq (s_seq (c_reg ?_))
 refine qd rfl rfl rfl (r_move (v := (.int .i64 zp)) rfl) (qd rfl rfl rfl (r_gtr rfl rfl) (qd rfl rfl rfl (r_move (v := (.bool (decide ((0 : Int) < zp)))) rfl) (qbd (p := (0 : Int) < zp) (t := 7) rfl (fun h14 => ?_) (fun h14 => ?_))))
 refine qdg rfl rfl rfl rfl rfl rfl (r_move (v := (.int .i64 a)) rfl) (qdg rfl rfl rfl rfl rfl rfl (r_rem2 rfl rfl) (qdg rfl rfl rfl rfl rfl rfl (r_eql rfl rfl) (qd rfl rfl rfl (r_pickT (v := (.bool (decide ((a.tmod 2 : Int) = 0)))) rfl rfl) (qe (s_then ?_)))))
 refine c_ifd (p := (a.tmod 2 : Int) = 0) rfl rfl (fun h15 => ?_) (fun h15 => ?_)
 refine wp_skip (s_then (s_blk (s_seq (c_reg ?_))))
 refine qd rfl rfl rfl (r_move (v := (.int .i64 a)) rfl) (qd rfl rfl rfl (r_quo2 rfl rfl ((tmod2 _).1 h15) (by omega)) (qd rfl rfl rfl (r_assign (v := (.int .i64 (a / 2))) rfl) (qe (s_then (c_reg ?_)))))
 refine qd rfl rfl rfl (r_move (v := (.int .i64 zp)) rfl) (qd rfl rfl rfl (r_sub rfl rfl (by omega)) (qd rfl rfl rfl (r_assign (v := (.int .i64 (zp - 1))) rfl) (qe (s_blkN (s_lopN (⟨_, ?_, _, rfl, _, a / 2, zp - 1, GL1, (packS (x := 4) (packS (x := 1) (pack1 (x := 0) rfl) rfl) rfl), rfl, hX12, hlek9, (hr.trans (low_even (by omega) h15)), (by omega), (by omega), hw13⟩))))))
 omega
 refine wp_exit (s_thenE (s_lopE (s_blkE (s_then (s_seq (c_reg ?_))))))
 refine qd rfl rfl rfl (r_move (v := (.int .i64 a)) rfl) (qd rfl rfl rfl (r_move (v := (.int .i64 zp)) rfl) (qd rfl rfl rfl (r_build [(.int .i64 0), (.int .i64 0)] [(.int .i64 a), (.int .i64 zp)] [(0, (.int .i64 a), [(.int .i64 a)]), (1, (.int .i64 zp), [(.int .i64 zp)])] Tryz.underlying50 zr50 rfl pl50 rfl (List.forall_mem_cons.2 ⟨rfl, (List.forall_mem_cons.2 ⟨rfl, (fun _ h => by cases h)⟩)⟩) rfl) (q0 rfl rfl rfl (o_stp (cs' := [(.int .i64 a), (.int .i64 zp)]) (us := [(.int .i64 a), (.int .i64 zp)]) (v := (.agg [(.int .i64 a), (.int .i64 zp)].toArray)) sz50 rfl rfl rfl (ones2 (by rfl) (by rfl)) hX12.pins hw13 (Nat.le_of_ble_eq_true rfl) rfl (fun w16 hb17 hp18 hg19 hz20 => ?_)))))
 have hX21 := hX12.write hp18 hg19 ((lo_box hlo8))
 refine qe (s_then ?_)
 refine wp_ret (s_ret (c_retc (cs := [(.int .i64 a), (.int .i64 zp)]) rfl rfl rfl ag50 sz50 (fun j u hj => by rw [Nat.zero_add]; exact hb17.cell hj) ?_))
 have hst := hr.trans (low_stop hz.1 (by first | exact Or.inl h15 | exact Or.inr h15))
 have hz3 : ((zp.toNat : Nat) : Int) = zp := Int.toNat_of_nonneg hz.1
 exact ⟨_, by rw [hst]; simp only [hz3], hX21⟩
 refine qs rfl rfl rfl rfl rfl rfl (qs rfl rfl rfl rfl rfl rfl (qs rfl rfl rfl rfl rfl rfl (qd rfl rfl rfl (r_pickF (v := (.bool false)) rfl rfl) (qe (s_then ?_)))))
 refine c_ifF rfl rfl (wp_exit (s_thenE (s_lopE (s_blkE (s_then (s_seq (c_reg ?_)))))))
 refine qd rfl rfl rfl (r_move (v := (.int .i64 a)) rfl) (qd rfl rfl rfl (r_move (v := (.int .i64 zp)) rfl) (qd rfl rfl rfl (r_build [(.int .i64 0), (.int .i64 0)] [(.int .i64 a), (.int .i64 zp)] [(0, (.int .i64 a), [(.int .i64 a)]), (1, (.int .i64 zp), [(.int .i64 zp)])] Tryz.underlying50 zr50 rfl pl50 rfl (List.forall_mem_cons.2 ⟨rfl, (List.forall_mem_cons.2 ⟨rfl, (fun _ h => by cases h)⟩)⟩) rfl) (q0 rfl rfl rfl (o_stp (cs' := [(.int .i64 a), (.int .i64 zp)]) (us := [(.int .i64 a), (.int .i64 zp)]) (v := (.agg [(.int .i64 a), (.int .i64 zp)].toArray)) sz50 rfl rfl rfl (ones2 (by rfl) (by rfl)) hX12.pins hw13 (Nat.le_of_ble_eq_true rfl) rfl (fun w22 hb23 hp24 hg25 hz26 => ?_)))))
 have hX27 := hX12.write hp24 hg25 ((lo_box hlo8))
 refine qe (s_then ?_)
 refine wp_ret (s_ret (c_retc (cs := [(.int .i64 a), (.int .i64 zp)]) rfl rfl rfl ag50 sz50 (fun j u hj => by rw [Nat.zero_add]; exact hb23.cell hj) ?_))
 have hst := hr.trans (low_stop hz.1 (by first | exact Or.inl h14 | exact Or.inr h14))
 have hz3 : ((zp.toNat : Nat) : Int) = zp := Int.toNat_of_nonneg hz.1
 exact ⟨_, by rw [hst]; simp only [hz3], hX27⟩

end NU3
end Go.Proofs.YtkfgdhanaijddaaGreatDoor
