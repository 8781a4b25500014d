/- Texts of this claim in one file: PL1, PF1, OR1, SF1, GS1, GI1, DR1, MK1. -/
import Derived.Test.YtkfgdhanaijddaaDoorGw5
import Derived.Test.YtkfgdhanaijddaaDoorChecked
set_option maxRecDepth 20000
set_option maxHeartbeats 2000000
namespace Go.Proofs.YtkfgdhanaijddaaDoor
namespace PL1
open Go.RowKit Go.GL Go.Proofs
open Go.Proofs.YtkfgdhanaijddaaDoor.B1
open Go.Proofs.YtkfgdhanaijddaaDoor.K1
open Go.Proofs.YtkfgdhanaijddaaDoor.PO1









theorem mk3 : (Tryd.prog.info? 3).map (fun i => (i.size, i.bytes, i.zero)) = some (1, 8, some (.int .i64 0)) := by kernel_rfl








theorem pl77 : (Tryd.prog.underlying 77).bind (placesD Tryd.prog) = some [(0, 1), (1, 1), (2, 1), (3, 1), (4, 1), (5, 1), (6, 1), (7, 1)] := by kernel_rfl










theorem newPool_spec {w : World} {G : Pin} (hP : Pins G w) :
  Calls Tryd.prog 26 [].toArray w fun e w' => ∃ (p : Nat) (mm : PM) (G' : Pin), e = .returned (.pointer (some ⟨p, 0, none⟩)) ∧ Pk 40 3 G' w' p (.slice none 0 0) (.slice none 0 0) (.slice none 0 0) mm ⟨[], [], [], [], [], [], []⟩ ∧ (∀ k, inP p (.slice none 0 0) (.slice none 0 0) (.slice none 0 0) mm k → w.heap.size ≤ k) ∧ Ext noS G w G' w' := by
 refine s_enter (n := 8) Tryd.func26 Tryd.ntmps26 rfl rfl ?_
 have hX0 : Ext noS G w G w := Ext.refl hP
 refine s_seq (c_reg ?_)
 refine qd rfl rfl rfl (r_assign (v := (.pointer none)) rfl) ?_
 refine qe (s_then (s_seq (c_reg ?_)))
 refine q1 rfl rfl rfl (o_makeMap (fun k : ByteArray => Value.string k) (fun v : Int => Value.int .i64 v) hX0.pins (fun m1 w2 hk3 hm4 hp5 hl6 => ?_))
 have hX7 := hX0.step hp5 hl6
 have hlo8 : w.heap.size ≤ m1 := by have := hX0.size; omega
 refine q1 rfl rfl rfl (o_makeMap encP2 (fun v : Bool => Value.bool v) hX7.pins (fun m9 w10 hk11 hm12 hp13 hl14 => ?_))
 have hX15 := hX7.step hp13 hl14
 have hm16 := hm4.below hl14
 have ha17 : Apart (some m9) (some m1) := new_ne_box (congrArg some hk11) hm4.lt
 have hlo18 : w.heap.size ≤ m9 := by have := hX7.size; omega
 refine q1 rfl rfl rfl (o_makeMap (fun k : Int => Value.int .i64 k) (fun v : Int => Value.int .i64 v) hX15.pins (fun m19 w20 hk21 hm22 hp23 hl24 => ?_))
 have hX25 := hX15.step hp23 hl24
 have hm26 := hm16.below hl24
 have hm27 := hm12.below hl24
 have ha28 : Apart (some m19) (some m1) := new_ne_box (congrArg some hk21) hm16.lt
 have ha29 : Apart (some m19) (some m9) := new_ne_box (congrArg some hk21) hm12.lt
 have hlo30 : w.heap.size ≤ m19 := by have := hX15.size; omega
 refine q1 rfl rfl rfl (o_makeMap encP2 (fun v : Int => Value.int .i64 v) hX25.pins (fun m31 w32 hk33 hm34 hp35 hl36 => ?_))
 have hX37 := hX25.step hp35 hl36
 have hm38 := hm26.below hl36
 have hm39 := hm27.below hl36
 have hm40 := hm22.below hl36
 have ha41 : Apart (some m31) (some m1) := new_ne_box (congrArg some hk33) hm26.lt
 have ha42 : Apart (some m31) (some m9) := new_ne_box (congrArg some hk33) hm27.lt
 have ha43 : Apart (some m31) (some m19) := new_ne_box (congrArg some hk33) hm22.lt
 have hlo44 : w.heap.size ≤ m31 := by have := hX25.size; omega
 refine q1 rfl rfl rfl (o_makeMap (fun k : Int => Value.int .i64 k) (fun v : Int => Value.int .i64 v) hX37.pins (fun m45 w46 hk47 hm48 hp49 hl50 => ?_))
 have hX51 := hX37.step hp49 hl50
 have hm52 := hm38.below hl50
 have hm53 := hm39.below hl50
 have hm54 := hm40.below hl50
 have hm55 := hm34.below hl50
 have ha56 : Apart (some m45) (some m1) := new_ne_box (congrArg some hk47) hm38.lt
 have ha57 : Apart (some m45) (some m9) := new_ne_box (congrArg some hk47) hm39.lt
 have ha58 : Apart (some m45) (some m19) := new_ne_box (congrArg some hk47) hm40.lt
 have ha59 : Apart (some m45) (some m31) := new_ne_box (congrArg some hk47) hm34.lt
 have hlo60 : w.heap.size ≤ m45 := by have := hX37.size; omega
 refine qd rfl rfl rfl (r_build [(.slice none 0 0), (.slice none 0 0), (.slice none 0 0), (.map none), (.map none), (.map none), (.map none), (.map none)] [(.slice none 0 0), (.slice none 0 0), (.slice none 0 0), (.map (some m1)), (.map (some m9)), (.map (some m19)), (.map (some m31)), (.map (some m45))] [(3, (.map (some m1)), [(.map (some m1))]), (4, (.map (some m9)), [(.map (some m9))]), (5, (.map (some m19)), [(.map (some m19))]), (6, (.map (some m31)), [(.map (some m31))]), (7, (.map (some m45)), [(.map (some m45))])] Tryd.underlying77 zr77 rfl pl77 rfl (List.forall_mem_cons.2 ⟨rfl, (List.forall_mem_cons.2 ⟨rfl, (List.forall_mem_cons.2 ⟨rfl, (List.forall_mem_cons.2 ⟨rfl, (List.forall_mem_cons.2 ⟨rfl, (fun _ h => by cases h)⟩)⟩)⟩)⟩)⟩) rfl) ?_
 refine q1 rfl rfl rfl (o_box [(.slice none 0 0), (.slice none 0 0), (.slice none 0 0), (.map (some m1)), (.map (some m9)), (.map (some m19)), (.map (some m31)), (.map (some m45))] (v := (.agg [(.slice none 0 0), (.slice none 0 0), (.slice none 0 0), (.map (some m1)), (.map (some m9)), (.map (some m19)), (.map (some m31)), (.map (some m45))].toArray)) rfl rfl hX51.pins (fun b61 w62 hk63 hb64 hp65 hl66 => ?_))
 have hX67 := hX51.step hp65 hl66
 have hm68 := hm52.below hl66
 have hm69 := hm53.below hl66
 have hm70 := hm54.below hl66
 have hm71 := hm55.below hl66
 have hm72 := hm48.below hl66
 have hlo73 : w.heap.size ≤ b61 := by have := hX51.size; omega
 refine qd rfl rfl rfl (r_assign (v := (.pointer (some ⟨b61, 0, none⟩))) rfl) ?_
 refine qe (s_then ?_)
 refine wp_ret ?_
 refine s_ret ?_
 refine c_ret1 (v := (.pointer (some ⟨b61, 0, none⟩))) rfl rfl rfl ?_
 have hdf : PDiff ⟨m1, m9, m19, m31, m45⟩ := ⟨fun e => ha17.symm _ rfl (congrArg some e.symm), fun e => ha28.symm _ rfl (congrArg some e.symm), fun e => ha41.symm _ rfl (congrArg some e.symm), fun e => ha56.symm _ rfl (congrArg some e.symm), fun e => ha29.symm _ rfl (congrArg some e.symm), fun e => ha42.symm _ rfl (congrArg some e.symm), fun e => ha57.symm _ rfl (congrArg some e.symm), fun e => ha43.symm _ rfl (congrArg some e.symm), fun e => ha58.symm _ rfl (congrArg some e.symm), fun e => ha59.symm _ rfl (congrArg some e.symm)⟩
 have hfr : ∀ k, inP b61 (.slice none 0 0) (.slice none 0 0) (.slice none 0 0) ⟨m1, m9, m19, m31, m45⟩ k → w.heap.size ≤ k := by rintro k (rfl | hk | hk | hk | rfl | rfl | rfl | rfl | rfl) <;> first | (cases hk; done) | exact hlo73 | exact hlo8 | exact hlo18 | exact hlo30 | exact hlo44 | exact hlo60
 exact ⟨b61, ⟨m1, m9, m19, m31, m45⟩, _, rfl, ⟨hb64, (Own.nil _ _ _ _ _), (Own.nil _ _ _ _ _), (Own.nil _ _ _ _ _), hm68, hm69, hm70, hm71, hm72, apart_none.symm, apart_none.symm, apart_none.symm, apart_none, apart_none, apart_none, hdf⟩, hfr, hX67⟩

theorem renamed_spec {w : World} {G : Pin} {u v : Value} {xs ys : List Int} (hP : Pins G w) (hu : RSl eInt G u xs) (hv : RSl eInt G v ys) (hs : xs.length ≤ 1048576) (hb : ∀ i, i < xs.length → 0 ≤ xs.getD i 0 ∧ xs.getD i 0 < ys.length) :
  Calls Tryd.prog 67 [u, v].toArray w fun e w' => ∃ (u : Value) (G' : Pin), e = .returned u ∧ Own eInt 3 G' w' w.heap.size u (atL ys xs) ∧ Ext noS G w G' w' := by
 refine s_enter (n := 27) Tryd.func67 Tryd.ntmps67 rfl rfl ?_
 have hX0 : Ext noS G w G w := Ext.refl hP
 have hm := hu.max
 have hal : (atL ys xs).length = xs.length := at_length
 have hrl : (List.replicate xs.length (0 : Int)).length = xs.length := List.length_replicate
 refine s_seq (c_reg ?_)
 refine qd rfl rfl rfl (r_assign (v := (.slice none 0 0)) rfl) ?_
 refine qe (s_then (s_seq (c_reg ?_)))
 refine qd rfl rfl rfl (r_move (v := u) rfl) ?_
 refine qd rfl rfl rfl (run_len Tryd.underlying40 (v := u) rfl hu) ?_
 refine q1 rfl rfl rfl (o_make (E := eInt) 0 8 (.int .i64 0) Tryd.underlying40 mk3 (fun _ => rfl) rfl rfl hX0.pins (by omega) (by omega) (by omega) (fun u1 w2 ho3 hp4 hl5 hk6 => ?_))
 have hX7 := hX0.step hp4 hl5
 have ho8 : Own eInt 3 G w2 w.heap.size u1 (List.replicate xs.length 0) := ho3.weaken hX0.size
 have hm9 : (List.replicate xs.length 0).length = xs.length := List.length_replicate ..
 refine qd rfl rfl rfl (r_assign (v := u1) rfl) ?_
 refine qe (s_then (s_seq (s_seq (c_reg ?_))))
 refine qd rfl rfl rfl (r_move (v := u) rfl) ?_
 refine qd rfl rfl rfl (run_len Tryd.underlying40 (v := u) rfl hu) ?_
 refine qd rfl rfl rfl (r_move (v := (.int .i64 0)) rfl) ?_
 refine qe (s_then ?_)
 refine s_blk ?_
 refine s_loop (fun (k : Nat) (en : Nat → Value) (W : World) => ∃ (env1 : Nat → Value) (j : Nat) (os : List Int), en = (upd (upd (upd (upd (upd (upd env1 1 v) 4 (.slice none 0 0)) 5 u1) 11 u) 12 (.int .i64 (xs.length : Int))) 13 (.int .i64 (j : Int))) ∧ k = xs.length - j ∧ Ext noS G w G W ∧ (j ≤ xs.length) ∧ (os = (atL ys xs).take j ++ (List.replicate xs.length 0).drop j) ∧ (os.length = xs.length) ∧ (Own eInt 3 G W w.heap.size u1 (os))) _ ⟨_, 0, List.replicate xs.length 0, (packS (x := 13) (packS (x := 12) (packS (x := 11) (packS (x := 5) (packS (x := 4) (pack1 (x := 1) rfl) rfl) rfl) rfl) rfl) rfl), rfl, hX7, Nat.zero_le _, rfl, hrl, ho8⟩ ?_
 rintro k10 _ w11 ⟨env1, j, os, rfl, hk12, hX13, hj, hr, hol, hw14⟩
 refine s_seq (c_reg ?_)
 refine qd rfl rfl rfl (r_lss rfl rfl) ?_
 refine qe (s_then (s_seq ?_))
 refine c_ifd (p := ((j : Int) : Int) < (xs.length : Int)) rfl rfl (fun h15 => ?_) (fun h15 => ?_)
 ·skip
  have hbj := hb j (by omega)
  refine wp_skip ?_
  refine s_then (s_seq ?_)
  refine s_blk ?_
  refine s_seq (c_reg ?_)
  refine qd rfl rfl rfl (r_move (v := (.int .i64 (j : Int))) rfl) ?_
  refine qd rfl rfl rfl (run_idx Tryd.underlying40 sz3 (v := u) rfl rfl hu (by omega) (by omega)) ?_
  refine qd rfl rfl rfl (run_load_int (r := xs.getD j 0) rfl ag3 (z := (j : Int)) rfl hu hX13.pins (by omega) (by omega)) ?_
  refine qd rfl rfl rfl (r_assign (v := (.int .i64 (j : Int))) rfl) ?_
  refine qd rfl rfl rfl (r_assign (v := (.int .i64 (xs.getD j 0))) rfl) ?_
  refine qe (s_then (c_reg ?_))
  refine qd rfl rfl rfl (r_move (v := u1) rfl) ?_
  refine qd rfl rfl rfl (r_move (v := (.int .i64 (j : Int))) rfl) ?_
  refine qd rfl rfl rfl (r_move (v := v) rfl) ?_
  refine qd rfl rfl rfl (r_move (v := (.int .i64 (xs.getD j 0))) rfl) ?_
  refine qd rfl rfl rfl (run_idx Tryd.underlying40 sz3 (v := v) rfl rfl hv (by omega) (by omega)) ?_
  refine qd rfl rfl rfl (run_load_int (r := ys.getD (xs.getD j 0).toNat 0) rfl ag3 (z := (xs.getD j 0)) rfl hv hX13.pins (by omega) (by omega)) ?_
  refine qd rfl rfl rfl (run_idx Tryd.underlying40 sz3 (v := u1) rfl rfl hw14.read (by omega) (by omega)) ?_
  refine q0 rfl rfl rfl (o_set (E := eInt) (v := u1) (u := (.int .i64 (ys.getD (xs.getD j 0).toNat 0))) (z := (j : Int)) (ys.getD (xs.getD j 0).toNat 0) sz3 rfl rfl rfl rfl hX13.pins hw14 (by omega) (by omega) (fun w16 ho17 hp18 hg19 hz20 => ?_))
  have hX21 := hX13.write hp18 hg19 ((lo_own hw14))
  refine qe ?_
  refine s_blkN ?_
  refine s_then (c_reg ?_)
  refine qd rfl rfl rfl (r_add rfl rfl (by omega)) ?_
  refine qd rfl rfl rfl (r_move (v := (.int .i64 ((j : Int) + 1))) rfl) ?_
  refine qe ?_
  refine s_lopN ?_
  refine ⟨_, ?_, _, rfl, _, j + 1, os.set j (ys.getD (xs.getD j 0).toNat 0), (packS (x := 13) (packS (x := 12) (packS (x := 11) (packS (x := 5) (packS (x := 4) (pack1 (x := 1) rfl) rfl) rfl) rfl) rfl) rfl), rfl, hX21, (by omega), (by rw [hr]; exact cur_set 0 (by omega) (by omega) (at_getD (by omega))), ((List.length_set ..).trans hol), ho17⟩
  omega
 refine wp_exit ?_
 refine s_thenE ?_
 refine s_lopE ?_
 refine s_blkE ?_
 refine s_then (s_seq (c_reg ?_))
 refine qd rfl rfl rfl (r_move (v := u1) rfl) ?_
 refine qd rfl rfl rfl (r_assign (v := u1) rfl) ?_
 refine qe (s_then ?_)
 refine wp_ret ?_
 refine s_ret ?_
 refine c_ret1 (v := u1) rfl rfl rfl ?_
 rw [cur_end (by omega) (by omega)] at hr
 exact ⟨_, _, rfl, (by rw [← hr]; exact hw14), hX13⟩

theorem load_spec {w : World} {G : Pin} {p : Nat} {L R B : Value} {mm : PM} {q : PSt} (hP : Pins G w) (hpk : Pk 40 3 G w p L R B mm q) (hok : PoolOk q) {x : Value} {fs : List Nd} (hx : RSl eNode G x fs) (hf : FormOk fs) (hl : q.ns.length + fs.length ≤ 1048576) :
  Calls Tryd.prog 48 [(.pointer (some ⟨p, 0, none⟩)), (.agg [x].toArray)].toArray w fun e w' => ∃ (u : Value) (ats : List Int) (L' R' B' : Value) (q' : PSt) (G' : Pin), e = .returned u ∧ Pk 40 3 G' w' p L' R' B' mm q' ∧ PoolOk q' ∧ PX q q' ∧ PLo w p L R B mm L' R' B' ∧ Ext (inP p L R B mm) G w G' w' ∧ Own eInt 3 G' w' w.heap.size u ats ∧ NP p L' R' B' mm u.ownBlock ∧ LdOk fs q q' fs.length ats := by
 refine s_enter (n := 34) Tryd.func48 Tryd.ntmps48 rfl rfl ?_
 have hX0 : Ext (inP p L R B mm) G w G w := Ext.refl hP
 have hpin : PIn w (inP p L R B mm) p L R B mm := PIn.self
 have hml1 : (q.ns.map Nd.l).length = q.ns.length ∧ (q.ns.map Nd.r).length = q.ns.length := ⟨List.length_map .., List.length_map ..⟩
 have hml2 : q.bs.length = q.ns.length ∧ q.ns.length ≤ 1048576 := ⟨hok.ar.ok.len, hok.ar.ok.lim⟩
 refine s_seq (c_reg ?_)
 refine q1 rfl rfl rfl (o_box [x] (v := (.agg [x].toArray)) rfl rfl hX0.pins (fun b3 w4 hk5 hb6 hp7 hl8 => ?_))
 have hX9 := hX0.step hp7 hl8
 have hpk10 := hpk.below hl8 hp7
 have ha15 := hpk.new (x := (some b3)) (fun k hk => by rw [(congrArg some hk5)] at hk; cases hk; exact Nat.le_refl _)
 have hlo16 : w.heap.size ≤ b3 := by have := hX0.size; omega
 obtain ⟨G17, hle18, hX19, hbp20, hf21⟩ := hb6.shut hX9 hlo16
 have hpk22 := hpk10.more hle18 hf21 ha15
 refine qd rfl rfl rfl (r_assign (v := (.slice none 0 0)) rfl) ?_
 refine qe (s_then (s_seq (c_reg ?_)))
 refine qd rfl rfl rfl (r_fldp (k := 0) rfl Tryd.underlying26 rfl nz24 rfl) ?_
 refine qd rfl rfl rfl (r_ldp1 (u := x) ag24 rfl (hX19.pins _ _ _ (hbp20 0 _ rfl))) ?_
 refine qd rfl rfl rfl (run_len Tryd.underlying24 (v := x) rfl hx) ?_
 refine q1 rfl rfl rfl (o_make0 (E := eInt) Tryd.underlying40 mk3 rfl rfl hX19.pins (by omega) (by omega) (by omega) (fun u23 w24 ho25 hp26 hl27 hk28 => ?_))
 have hX29 := hX19.step hp26 hl27
 have hpk30 := hpk22.below hl27 hp26
 have ha35 := hpk22.new (x := u23.ownBlock) (fun k hk => by rw [hk28] at hk; cases hk; exact Nat.le_refl _)
 have ho36 : Own eInt 3 G17 w24 w.heap.size u23 ([]) := ho25.weaken hX19.size
 refine qd rfl rfl rfl (r_assign (v := u23) rfl) ?_
 refine qe (s_then (s_seq (s_seq (c_reg ?_))))
 refine qd rfl rfl rfl (r_fldp (k := 0) rfl Tryd.underlying26 rfl nz24 rfl) ?_
 refine qd rfl rfl rfl (r_ldp1 (u := x) ag24 rfl (hX29.pins _ _ _ (hbp20 0 _ rfl))) ?_
 refine qd rfl rfl rfl (run_len Tryd.underlying24 (v := x) rfl hx) ?_
 refine qd rfl rfl rfl (r_move (v := (.int .i64 0)) rfl) ?_
 refine qe (s_then ?_)
 refine s_blk ?_
 refine s_loop (fun (k : Nat) (en : Nat → Value) (W : World) => ∃ (env1 : Nat → Value) (k4 : Nat) (at_ : Value) (ats : List Int) (L37 : Value) (R38 : Value) (B39 : Value) (q40 : PSt) (GL1 : Pin), en = (upd (upd (upd (upd (upd (upd env1 0 (.pointer (some ⟨p, 0, none⟩))) 4 (.slice none 0 0)) 5 at_) 13 x) 14 (.int .i64 (fs.length : Int))) 15 (.int .i64 (k4 : Int))) ∧ k = fs.length - k4 ∧ Ext (inP p L R B mm) G w GL1 W ∧ Pin.le G17 GL1 ∧ (k4 ≤ fs.length) ∧ (LdOk fs q q40 k4 ats) ∧ (Own eInt 3 GL1 W w.heap.size at_ (ats)) ∧ (Pk 40 3 GL1 W p L37 R38 B39 mm q40) ∧ (PIn w ((inP p L R B mm)) p L37 R38 B39 mm) ∧ (PoolOk q40) ∧ (PX q q40) ∧ (NP p L37 R38 B39 mm at_.ownBlock)) _ ⟨_, 0, u23, [], L, R, B, q, G17, (packS (x := 15) (packS (x := 14) (packS (x := 13) (packS (x := 5) (packS (x := 4) (pack1 (x := 0) rfl) rfl) rfl) rfl) rfl) rfl), rfl, hX29, Pin.le_refl _, Nat.zero_le _, LdOk.start, ho36, hpk30, hpin, hok, (PX.refl _), ha35⟩ ?_
 rintro k41 _ w42 ⟨env1, k4, at_, ats, L37, R38, B39, q40, GL1, rfl, hk43, hX44, hlek41, hk, hld, hw45, hpk46, hpin47, hok48, hpx49, hnp50⟩
 have hql51 := hpx49.len
 have hml52 : (q40.ns.map Nd.l).length = q40.ns.length ∧ (q40.ns.map Nd.r).length = q40.ns.length := ⟨List.length_map .., List.length_map ..⟩
 have hml53 : q40.bs.length = q40.ns.length ∧ q40.ns.length ≤ 1048576 := ⟨hok48.ar.ok.len, hok48.ar.ok.lim⟩
 have hal := hld.len
 have hah := hld.hi
 have hfl := hf.len
 refine s_seq (c_reg ?_)
 refine qd rfl rfl rfl (r_lss rfl rfl) ?_
 refine qe (s_then (s_seq ?_))
 refine c_ifd (p := ((k4 : Int) : Int) < (fs.length : Int)) rfl rfl (fun h54 => ?_) (fun h54 => ?_)
 ·skip
  have oo := optsAt hf.opts (show k4 < fs.length by omega)
  have hfe := hf.lens k4 (by omega)
  refine wp_skip ?_
  refine s_then (s_seq ?_)
  refine s_blk ?_
  refine s_seq (c_reg ?_)
  refine qd rfl rfl rfl (run_idx Tryd.underlying24 sz60 (v := x) rfl rfl hx (by omega) (by omega)) ?_
  obtain ⟨u55, u56, hr57, hr58, hl59⟩ := nm_node (hx.at (z := (k4 : Int)) (by omega) (by omega)) (j := k4) rfl
  have hm60 := hr57.max
  have hm61 := hr58.max
  refine qd rfl rfl rfl (hl59 ag60 sz60 rfl (Pins.of_le hX44.pins (Pin.le_trans hle18 hlek41))) ?_
  refine q1 rfl rfl rfl (o_alloc [(.slice none 0 0), (.slice none 0 0)] zr60 rfl hX44.pins (fun b62 w63 hk64 hb65 hp66 hl67 => ?_))
  have hX68 := hX44.step hp66 hl67
  have ho69 := hw45.below hl67
  have hpk70 := hpk46.below hl67 hp66
  have ha71 : Apart (some b62) at_.ownBlock := new_ne_own (congrArg some hk64) hw45.lt
  have ha76 := hpk46.new (x := (some b62)) (fun k hk => by rw [(congrArg some hk64)] at hk; cases hk; exact Nat.le_refl _)
  have hlo77 : w.heap.size ≤ b62 := by have := hX44.size; omega
  refine q0 rfl rfl rfl (o_stp (cs' := [u55, u56]) (us := [u55, u56]) (v := (.agg [u55, u56].toArray)) sz60 rfl rfl rfl (ones2 hr57.one hr58.one) hX68.pins hb65 (Nat.le_of_ble_eq_true rfl) rfl (fun w78 hb79 hp80 hg81 hz82 => ?_))
  have hX83 := hX68.write hp80 hg81 ((lo_box hlo77))
  have ho84 := ho69.keptA hg81 ha71.symm
  have hpk85 := hpk70.kept hg81 hp80 ha76
  obtain ⟨G86, hle87, hX88, hbp89, hf90⟩ := hb79.shut hX83 hlo77
  have ho91 := ho84.moreA hle87 hf90 ha71.symm
  have hpk92 := hpk85.more hle87 hf90 ha76
  refine qe (s_then ?_)
  refine c_draw (S := fun wz => Pins G86 wz) (last := 14) (by kernel_rfl) rfl ?_
  have hl93 : Below w78.heap.size w78 w78.drew := (Below.refl _ _).drew
  have hp94 := hX88.pins.below hl93
  have hX95 := hX88.step hp94 hl93
  have ho96 := ho91.below hl93
  have hpk97 := hpk92.below hl93 hp94
  refine dr_take (i := 0) rfl rfl rfl (want_none rfl _) (by kernel_rfl) (fun _ _ => r_move (v := at_) rfl) hX95.pins ?_
  refine dr_take (i := 1) rfl rfl rfl (want_none rfl _) (by kernel_rfl) (fun _ _ => r_move (v := (.pointer (some ⟨p, 0, none⟩))) rfl) hX95.pins ?_
  refine dr_take (i := 2) rfl rfl rfl (want_none rfl _) (by kernel_rfl) (fun _ _ => r_fldp (k := 0) rfl Tryd.underlying60 rfl nz40 rfl) hX95.pins ?_
  refine dr_take (i := 3) rfl rfl rfl (want_none rfl _) (by kernel_rfl) (fun _ hS => r_ldp1 (u := u55) ag40 rfl (hS _ _ _ (hbp89 0 _ rfl))) hX95.pins ?_
  refine dr_take (i := 4) rfl rfl rfl (want_none rfl _) (by kernel_rfl) (fun _ _ => r_move (v := at_) rfl) hX95.pins ?_
  refine dr_take (i := 6) rfl rfl rfl (want_none rfl _) (by kernel_rfl) (fun _ _ => r_fldp (k := 1) rfl Tryd.underlying60 rfl nz40 rfl) hX95.pins ?_
  refine dr_take (i := 7) rfl rfl rfl (want_none rfl _) (by kernel_rfl) (fun _ hS => r_ldp1 (u := u56) ag40 rfl (hS _ _ _ (hbp89 1 _ rfl))) hX95.pins ?_
  refine dr_take (i := 8) rfl rfl rfl (want_none rfl _) (by kernel_rfl) (fun _ _ => r_move (v := at_) rfl) hX95.pins ?_
  refine dr_one (i := 5) (by kernel_rfl) (drOp1 (i := 5) rfl rfl rfl (want_none rfl _) (o_call (vs := [u55, at_]) Tryd.func67 nm67 rfl rfl rfl ?_))
  refine Calls.mono (renamed_spec (Gadd.pins hX95.pins at_) ((hr57.mono (Pin.le_trans (Pin.le_trans hle18 hlek41) hle87)).mono (Gadd.le _ _ _)) ho96.read (by omega) (fun i hi => by have h7 := oo.1 _ (getD_mem (d := (0 : Int)) hi); omega)) ?_
  rintro _ w100 ⟨u98, G99, rfl, ho101, hx102⟩
  refine ⟨_, rfl, ?_⟩
  have hx103 := deep_back hX95.pins hx102
  have ho104 := ho101.anti flat_int (Pin.le_trans (Gadd.le G86 w78.drew at_) hx102.le)
  have hX105 := hX95.step hx103.pins hx103.below
  have ho106 := ho96.below hx103.below
  have hpk107 := hpk97.below hx103.below hx103.pins
  have ha108 : Apart u98.ownBlock at_.ownBlock := made_ne_own ho104.lt ho96.lt
  have ha109 := hpk97.new (x := u98.ownBlock) (fun k hk => (ho104.lt k hk).1)
  have ho110 : Own eInt 3 G86 w100 w.heap.size u98 (atL ats ((fs.getD k4 default).l)) := ho104.weaken hX95.size
  have hm111 : (atL ats ((fs.getD k4 default).l)).length = ((fs.getD k4 default).l).length := at_length
  refine ⟨fun _ => hX105.pins, ?_⟩
  refine dr_one (i := 9) (by kernel_rfl) (drOp1 (i := 9) rfl rfl rfl (want_none rfl _) (o_call (vs := [u56, at_]) Tryd.func67 nm67 rfl rfl rfl ?_))
  refine Calls.mono (renamed_spec (Gadd.pins hX105.pins at_) ((hr58.mono (Pin.le_trans (Pin.le_trans hle18 hlek41) hle87)).mono (Gadd.le _ _ _)) ho106.read (by omega) (fun i hi => by have h7 := oo.2 _ (getD_mem (d := (0 : Int)) hi); omega)) ?_
  rintro _ w114 ⟨u112, G113, rfl, ho115, hx116⟩
  refine ⟨_, rfl, ?_⟩
  have hx117 := deep_back hX105.pins hx116
  have ho118 := ho115.anti flat_int (Pin.le_trans (Gadd.le G86 w100 at_) hx116.le)
  have hX119 := hX105.step hx117.pins hx117.below
  have ho120 := ho106.below hx117.below
  have ho121 := ho110.below hx117.below
  have hpk122 := hpk107.below hx117.below hx117.pins
  have ha123 : Apart u112.ownBlock at_.ownBlock := made_ne_own ho118.lt ho106.lt
  have ha124 : Apart u112.ownBlock u98.ownBlock := made_ne_own ho118.lt ho110.lt
  have ha125 := hpk107.new (x := u112.ownBlock) (fun k hk => (ho118.lt k hk).1)
  have ho126 : Own eInt 3 G86 w114 w.heap.size u112 (atL ats ((fs.getD k4 default).r)) := ho118.weaken hX105.size
  have hm127 : (atL ats ((fs.getD k4 default).r)).length = ((fs.getD k4 default).r).length := at_length
  refine ⟨fun _ => hX119.pins, ?_⟩
  obtain ⟨G128, hle131, hX130, hr129, hf132⟩ := ho121.sealed hX119
  have ho133 := ho120.moreO hle131 hf132 ha108.symm
  have ho134 := ho126.moreO hle131 hf132 ha124
  have hpk135 := hpk122.moreO hle131 hf132 ha109
  obtain ⟨G136, hle139, hX138, hr137, hf140⟩ := ho134.sealed hX130
  have ho141 := ho133.moreO hle139 hf140 ha123.symm
  have hpk142 := hpk135.moreO hle139 hf140 ha125
  refine dr_one (i := 10) (by kernel_rfl) (drOp1 (i := 10) rfl rfl rfl (want_none rfl _) (o_call (vs := [(.pointer (some ⟨p, 0, none⟩)), u98, u112]) Tryd.func66 nm66 rfl rfl rfl ?_))
  refine Calls.mono (node_spec hX138.pins hpk142 hok48 (hr129.mono hle139) hr137 (by omega) ⟨by rw [at_length]; omega, by rw [at_length]; omega⟩ (hld.opt oo.1) (hld.opt oo.2)) ?_
  rintro _ w153 ⟨z143, L148, R149, B150, q151, G152, rfl, hpk154, hok155, hpx156, hlo157, hx158, hpl144, hpd145, hqn146, hcm147⟩
  refine ⟨_, rfl, ?_⟩
  have hX159 := hX138.trans hx158 hpin47
  have ho160 := ho141.extS hx158 hnp50
  have hnp161 := NP.call hnp50 hlo157 (own_lt ho141)
  have hpin162 := PIn.call hpin47 hlo157 hX138.size
  have hql163 := hpx156.len
  have hml164 : (q151.ns.map Nd.l).length = q151.ns.length ∧ (q151.ns.map Nd.r).length = q151.ns.length := ⟨List.length_map .., List.length_map ..⟩
  have hml165 : q151.bs.length = q151.ns.length ∧ q151.ns.length ≤ 1048576 := ⟨hok155.ar.ok.len, hok155.ar.ok.lim⟩
  refine ⟨fun _ => (Pins.of_le hX159.pins (Pin.le_trans (Pin.le_trans hle131 hle139) hx158.le)), ?_⟩
  refine dr_one (i := 11) (by kernel_rfl) (drOp1 (i := 11) rfl rfl rfl (want_none rfl _) (o_buildF (E := eInt) (e := 3) [(.int .i64 z143)] [z143] Tryd.underlying40 sz3 zr3 (by exact reps1 (by rfl)) (ones1 (by rfl)) rfl rfl rfl rfl (by decide) hX159.pins (fun u166 w167 ho168 hp169 hl170 hk171 => ?_)))
  have hX172 := hX159.step hp169 hl170
  have ho173 := ho160.below hl170
  have hpk174 := hpk154.below hl170 hp169
  have ho181 : Own eInt 3 G152 w167 w.heap.size u166 ([z143]) := ho168.weaken hX159.size
  refine ⟨fun _ => (Pins.of_le hX172.pins (Pin.le_trans (Pin.le_trans hle131 hle139) hx158.le)), ?_⟩
  refine dr_one (i := 12) (by kernel_rfl) (drOp1 (i := 12) rfl rfl rfl (want_none rfl _) (o_append (E := eInt) (v := at_) (u := u166) 8 Tryd.underlying40 ap3 (by decide) rfl rfl hX172.pins ho173 ho181.src (by first | omega | (rw [List.nil_append]; omega) | (rw [List.length_nil]; omega) | (rw [List.length_append]; omega) | (simp; done) | (simp; omega) | (simp only [List.length_append, List.length_cons, List.length_nil]; omega)) (by first | omega | (rw [List.nil_append]; omega) | (rw [List.length_nil]; omega) | (rw [List.length_append]; omega) | (simp; done) | (simp; omega) | (simp only [List.length_append, List.length_cons, List.length_nil]; omega)) (hX172.size) (fun u182 w183 ho184 hp185 hg186 hw187 => ?_)))
  have hX188 := hX172.write hp185 hg186 ((lo_own ho173))
  have hpk190 := hpk174.kept hg186 hp185 hnp161
  have hnp192 := np_app hnp161 hpk174 hw187
  have hm193 : (ats ++ ([z143])).length = ats.length + 1 := List.length_append
  refine ⟨fun _ => (Pins.of_le hX188.pins (Pin.le_trans (Pin.le_trans hle131 hle139) hx158.le)), ?_⟩
  refine dr_take (i := 13) rfl rfl rfl (want_none rfl _) (by kernel_rfl) (fun _ _ => r_assign (v := u182) rfl) (Pins.of_le hX188.pins (Pin.le_trans (Pin.le_trans hle131 hle139) hx158.le)) ?_
  refine dr_end (by kernel_rfl) ?_
  refine s_blkN ?_
  refine s_then (c_reg ?_)
  refine qd rfl rfl rfl (r_add rfl rfl (by omega)) ?_
  refine qd rfl rfl rfl (r_move (v := (.int .i64 ((k4 : Int) + 1))) rfl) ?_
  refine qe ?_
  refine s_lopN ?_
  refine ⟨_, ?_, _, rfl, _, k4 + 1, u182, ats ++ ([z143]), L148, R149, B150, q151, G152, (packS (x := 15) (packS (x := 14) (packS (x := 13) (packS (x := 5) (packS (x := 4) (pack1 (x := 0) rfl) rfl) rfl) rfl) rfl) rfl), rfl, hX188, (Pin.le_trans (Pin.le_trans (Pin.le_trans (Pin.le_trans hlek41 hle87) hle131) hle139) hx158.le), (by omega), (hld.step hf (by omega) hok48 hok155 hpx156 hpl144 hpd145 hqn146), ho184, hpk190, hpin162, hok155, (PX.trans hpx49 hpx156), hnp192⟩
  omega
 refine wp_exit ?_
 refine s_thenE ?_
 refine s_lopE ?_
 refine s_blkE ?_
 refine s_then (s_seq (c_reg ?_))
 refine qd rfl rfl rfl (r_move (v := at_) rfl) ?_
 refine qd rfl rfl rfl (r_assign (v := at_) rfl) ?_
 refine qe (s_then ?_)
 refine wp_ret ?_
 refine s_ret ?_
 refine c_ret1 (v := at_) rfl rfl rfl ?_
 have hkf : k4 = fs.length := by omega
 rw [hkf] at hld
 exact ⟨at_, ats, L37, R38, B39, q40, GL1, rfl, hpk46, hok48, hpx49, PIn.lo hpin47 rfl, hX44, hw45, hnp50, hld⟩

theorem root_spec {w : World} {G : Pin} {p : Nat} {L R B : Value} {mm : PM} {q : PSt} (hP : Pins G w) (hpk : Pk 40 3 G w p L R B mm q) (hok : PoolOk q) {x : Value} {fs : List Nd} (hx : RSl eNode G x fs) (hf : FormOk fs) (hl : q.ns.length + fs.length ≤ 1048576) (hf1 : 1 ≤ fs.length) :
  Calls Tryd.prog 28 [(.pointer (some ⟨p, 0, none⟩)), (.agg [x].toArray)].toArray w fun e w' => ∃ (z : Int) (L' R' B' : Value) (q' : PSt) (G' : Pin), e = .returned (.int .i64 z) ∧ Pk 40 3 G' w' p L' R' B' mm q' ∧ PoolOk q' ∧ PX q q' ∧ PLo w p L R B mm L' R' B' ∧ Ext (inP p L R B mm) G w G' w' ∧ PlaceOk q' z ∧ pd q' z = gOf fs ∧ q'.ns.length ≤ q.ns.length + fs.length := by
 refine s_enter (n := 15) Tryd.func28 Tryd.ntmps28 rfl rfl ?_
 have hX0 : Ext (inP p L R B mm) G w G w := Ext.refl hP
 have hpin : PIn w (inP p L R B mm) p L R B mm := PIn.self
 have hml1 : (q.ns.map Nd.l).length = q.ns.length ∧ (q.ns.map Nd.r).length = q.ns.length := ⟨List.length_map .., List.length_map ..⟩
 have hml2 : q.bs.length = q.ns.length ∧ q.ns.length ≤ 1048576 := ⟨hok.ar.ok.len, hok.ar.ok.lim⟩
 have hfl := hf.len
 refine s_seq (c_reg ?_)
 refine q1 rfl rfl rfl (o_box [x] (v := (.agg [x].toArray)) rfl rfl hX0.pins (fun b3 w4 hk5 hb6 hp7 hl8 => ?_))
 have hX9 := hX0.step hp7 hl8
 have hpk10 := hpk.below hl8 hp7
 have ha15 := hpk.new (x := (some b3)) (fun k hk => by rw [(congrArg some hk5)] at hk; cases hk; exact Nat.le_refl _)
 have hlo16 : w.heap.size ≤ b3 := by have := hX0.size; omega
 obtain ⟨G17, hle18, hX19, hbp20, hf21⟩ := hb6.shut hX9 hlo16
 have hpk22 := hpk10.more hle18 hf21 ha15
 refine qd rfl rfl rfl (r_assign (v := (.int .i64 0)) rfl) ?_
 refine qe (s_then (s_seq (c_reg ?_)))
 refine qd rfl rfl rfl (r_move (v := (.pointer (some ⟨p, 0, none⟩))) rfl) ?_
 refine qd rfl rfl rfl (r_ldpA (cs := [x]) ag26 sz26 rfl (fun j u hj => hX19.pins _ _ _ (hbp20 _ _ (by simpa using hj)))) ?_
 refine q1 rfl rfl rfl (o_call (vs := [(.pointer (some ⟨p, 0, none⟩)), (.agg [x].toArray)]) Tryd.func48 nm48 rfl rfl rfl ?_)
 refine Calls.mono (load_spec hX19.pins hpk22 hok (hx.mono hle18) hf hl) ?_
 rintro _ w29 ⟨u23, ats, L24, R25, B26, q27, G28, rfl, hpk31, hok32, hpx33, hlo34, hx35, ho30, hnp37, hld36⟩
 refine ⟨_, rfl, ?_⟩
 have hX38 := hX19.trans hx35 hpin
 have hpin39 := PIn.call hpin hlo34 hX19.size
 have hql40 := hpx33.len
 have hml41 : (q27.ns.map Nd.l).length = q27.ns.length ∧ (q27.ns.map Nd.r).length = q27.ns.length := ⟨List.length_map .., List.length_map ..⟩
 have hml42 : q27.bs.length = q27.ns.length ∧ q27.ns.length ≤ 1048576 := ⟨hok32.ar.ok.len, hok32.ar.ok.lim⟩
 have ho43 := ho30.weaken hX19.size
 have hll44 := hld36.len
 refine qd rfl rfl rfl (r_assign (v := u23) rfl) ?_
 refine qe (s_then (s_seq (c_reg ?_)))
 refine qd rfl rfl rfl (r_move (v := u23) rfl) ?_
 refine qd rfl rfl rfl (r_move (v := u23) rfl) ?_
 refine qd rfl rfl rfl (run_len Tryd.underlying40 (v := u23) rfl ho43.read) ?_
 refine qd rfl rfl rfl (r_sub rfl rfl (by omega)) ?_
 refine qd rfl rfl rfl (run_idx Tryd.underlying40 sz3 (v := u23) rfl rfl ho43.read (by omega) (by omega)) ?_
 refine qd rfl rfl rfl (run_load_int (r := ats.getD ((ats.length : Int) - 1).toNat 0) rfl ag3 (z := ((ats.length : Int) - 1)) rfl ho43.read (Gadd.pins hX38.pins u23) (by omega) (by omega)) ?_
 refine qd rfl rfl rfl (r_assign (v := (.int .i64 (ats.getD ((ats.length : Int) - 1).toNat 0))) rfl) ?_
 refine qe (s_then ?_)
 refine wp_ret ?_
 refine s_ret ?_
 refine c_ret1 (v := (.int .i64 (ats.getD ((ats.length : Int) - 1).toNat 0))) rfl rfl rfl ?_
 have hrt := hld36.root hf1
 rw [show fs.length - 1 = ((ats.length : Int) - 1).toNat by omega] at hrt
 exact ⟨_, L24, R25, B26, q27, G28, rfl, hpk31, hok32, hpx33, PIn.lo hpin39 rfl, hX38, hrt.1, hrt.2, hld36.hi⟩

def GeP (m : Nat) (p : Nat) (L R B : Value) (mm : PM) : Prop := ∀ {w : World} {G : Pin} {q : PSt} {a b : Int} (_ : Pins G w) (_ : Pk 40 3 G w p L R B mm q) (_ : PoolOk q) (_ : PlaceOk q a) (_ : PlaceOk q b), a.toNat + b.toNat < m →
  Calls Tryd.prog 27 [(.pointer (some ⟨p, 0, none⟩)), (.int .i64 a), (.int .i64 b)].toArray w fun e w' => ∃ (q' : PSt) (G' : Pin), e = .returned (.bool (geB q.ns a b)) ∧ Pk 40 3 G' w' p L R B mm q' ∧ PoolOk q' ∧ PX q q' ∧ (q'.ns = q.ns ∧ q'.bs = q.bs) ∧ Ext (inO (some mm.o)) G w G' w'

theorem ge_step {p : Nat} {L R B : Value} {mm : PM} {m : Nat} {w : World} {G : Pin} {q : PSt} {a b : Int} (hP : Pins G w) (hpk : Pk 40 3 G w p L R B mm q) (hok : PoolOk q) (ha : PlaceOk q a) (hb : PlaceOk q b) (ih : GeP m p L R B mm) (hm : a.toNat + b.toNat < m + 1) :
  Calls Tryd.prog 27 [(.pointer (some ⟨p, 0, none⟩)), (.int .i64 a), (.int .i64 b)].toArray w fun e w' => ∃ (q' : PSt) (G' : Pin), e = .returned (.bool (geB q.ns a b)) ∧ Pk 40 3 G' w' p L R B mm q' ∧ PoolOk q' ∧ PX q q' ∧ (q'.ns = q.ns ∧ q'.bs = q.bs) ∧ Ext (inO (some mm.o)) G w G' w' := by
 refine s_enter (n := 74) Tryd.func27 Tryd.ntmps27 rfl rfl ?_
 have hX0 : Ext (inO (some mm.o)) G w G w := Ext.refl hP
 have hpin : PIn w (inP p L R B mm) p L R B mm := PIn.self
 have hml1 : (q.ns.map Nd.l).length = q.ns.length ∧ (q.ns.map Nd.r).length = q.ns.length := ⟨List.length_map .., List.length_map ..⟩
 have hml2 : q.bs.length = q.ns.length ∧ q.ns.length ≤ 1048576 := ⟨hok.ar.ok.len, hok.ar.ok.lim⟩
 have ha0 := ha.1
 have ha1 := ha.2
 have hb0 := hb.1
 have hb1 := hb.2
 refine s_seq (c_reg ?_)
 refine qd rfl rfl rfl (r_assign (v := (.bool false)) rfl) ?_
 refine qe (s_then (s_seq (s_seq (c_reg ?_))))
 refine qd rfl rfl rfl (r_move (v := (.int .i64 a)) rfl) ?_
 refine qd rfl rfl rfl (r_move (v := (.int .i64 b)) rfl) ?_
 refine qd rfl rfl rfl (r_eql rfl rfl) ?_
 refine qe (s_then ?_)
 refine c_ifd (p := (a : Int) = b) rfl rfl (fun h3 => ?_) (fun h3 => ?_)
 ·skip
  refine s_seq (c_reg ?_)
  refine qd rfl rfl rfl (r_assign (v := (.bool true)) rfl) ?_
  refine qe (s_then ?_)
  refine wp_ret ?_
  refine s_ret ?_
  refine c_ret1 (v := (.bool true)) rfl rfl rfl ?_
  exact ⟨q, _, congrArg (fun z => Ending.returned (Value.bool z)) (by rw [h3]; exact geB_refl.symm), hpk, hok, (PX.refl _), ⟨rfl, rfl⟩, hX0⟩
 refine wp_skip ?_
 refine s_then (s_seq (c_reg ?_))
 refine qd rfl rfl rfl (r_move (v := (.int .i64 a)) rfl) ?_
 refine qd rfl rfl rfl (r_move (v := (.int .i64 b)) rfl) ?_
 refine qd rfl rfl rfl (r_buildA (m := 1) [(.int .i64 0), (.int .i64 0)] [(.int .i64 a), (.int .i64 b)] [(0, (.int .i64 a), [(.int .i64 a)]), (1, (.int .i64 b), [(.int .i64 b)])] Tryd.underlying78 zr78 rfl sz3 rfl (List.forall_mem_cons.2 ⟨rfl, (List.forall_mem_cons.2 ⟨rfl, (fun _ h => by cases h)⟩)⟩) rfl) ?_
 refine q1 rfl rfl rfl (o_alloc [(.int .i64 0), (.int .i64 0)] zr78 rfl hX0.pins (fun b4 w5 hk6 hb7 hp8 hl9 => ?_))
 have hX10 := hX0.step hp8 hl9
 have hpk11 := hpk.below hl9 hp8
 have ha16 := hpk.new (x := (some b4)) (fun k hk => by rw [(congrArg some hk6)] at hk; cases hk; exact Nat.le_refl _)
 have hlo17 : w.heap.size ≤ b4 := by have := hX0.size; omega
 refine q0 rfl rfl rfl (o_stp (cs' := [(.int .i64 a), (.int .i64 b)]) (us := [(.int .i64 a), (.int .i64 b)]) (v := (.agg [(.int .i64 a), (.int .i64 b)].toArray)) sz78 rfl rfl rfl (ones2 (by rfl) (by rfl)) hX10.pins hb7 (Nat.le_of_ble_eq_true rfl) rfl (fun w18 hb19 hp20 hg21 hz22 => ?_))
 have hX23 := hX10.write hp20 hg21 ((lo_box hlo17))
 have hpk24 := hpk11.kept hg21 hp20 ha16
 obtain ⟨G25, hle26, hX27, hbp28, hf29⟩ := hb19.shut hX23 hlo17
 have hpk30 := hpk24.more hle26 hf29 ha16
 refine qe (s_then (s_seq (s_seq ?_)))
 refine c_draw (S := fun wz => BxR wz p [L, R, B, (.map (some mm.f)), (.map (some mm.o)), (.map (some mm.c)), (.map (some mm.s)), (.map (some mm.n))] ∧ Pins G25 wz) (last := 11) (by kernel_rfl) rfl ?_
 have hl31 : Below w18.heap.size w18 w18.drew := (Below.refl _ _).drew
 have hp32 := hX27.pins.below hl31
 have hX33 := hX27.step hp32 hl31
 have hpk34 := hpk30.below hl31 hp32
 refine dr_take (i := 0) rfl rfl rfl (want_none rfl _) (by kernel_rfl) (fun _ _ => r_move (v := (.pointer (some ⟨p, 0, none⟩))) rfl) ⟨hpk34.bx.reads, hX33.pins⟩ ?_
 refine dr_take (i := 1) rfl rfl rfl (want_none rfl _) (by kernel_rfl) (fun _ _ => r_nil rfl) ⟨hpk34.bx.reads, hX33.pins⟩ ?_
 refine dr_take (i := 2) rfl rfl rfl (want_none rfl _) (by kernel_rfl) (fun _ _ => r_fldp (k := 4) rfl Tryd.underlying77 rfl nz72 rfl) ⟨hpk34.bx.reads, hX33.pins⟩ ?_
 refine dr_take (i := 3) rfl rfl rfl (want_none rfl _) (by kernel_rfl) (fun _ hS => r_ldp1 (u := (.map (some mm.o))) ag72 rfl (hS.1 4 _ rfl)) ⟨hpk34.bx.reads, hX33.pins⟩ ?_
 refine dr_take (i := 4) rfl rfl rfl (want_none rfl _) (by kernel_rfl) (fun _ hS => r_ldpA (cs := [(.int .i64 a), (.int .i64 b)]) ag78 sz78 rfl (fun j u hj => hS.2 _ _ _ (hbp28 _ _ (by simpa using hj)))) ⟨hpk34.bx.reads, hX33.pins⟩ ?_
 refine dr_one (i := 5) (by kernel_rfl) (drOp1 (i := 5) rfl rfl rfl (want_none rfl _) (EO.run (run_lookv_bool (k := ((a, b) : Int × Int)) (key_pair Tryd.underlying78 Tryd.underlying3 sz3) Tryd.underlying72 zr4 hpk34.fo rfl rfl) ?_))
 refine ⟨fun _ => ⟨hpk34.bx.reads, hX33.pins⟩, ?_⟩
 refine dr_take (i := 6) rfl rfl rfl (want_none rfl _) (by kernel_rfl) (fun _ _ => r_move (v := (.tuple #[(.bool ((Go.GL.look q.om ((a, b) : Int × Int)).getD false)), (.bool ((Go.GL.look q.om ((a, b) : Int × Int)).isSome))])) rfl) ⟨hpk34.bx.reads, hX33.pins⟩ ?_
 refine dr_take (i := 7) rfl rfl rfl (want_none rfl _) (by kernel_rfl) (fun _ _ => r_extract (v := (.bool ((Go.GL.look q.om ((a, b) : Int × Int)).getD false))) rfl rfl) ⟨hpk34.bx.reads, hX33.pins⟩ ?_
 refine dr_take (i := 8) rfl rfl rfl (want_none rfl _) (by kernel_rfl) (fun _ _ => r_extract (v := (.bool ((Go.GL.look q.om ((a, b) : Int × Int)).isSome))) rfl rfl) ⟨hpk34.bx.reads, hX33.pins⟩ ?_
 refine dr_take (i := 9) rfl rfl rfl (want_none rfl _) (by kernel_rfl) (fun _ _ => r_assign (v := (.bool ((Go.GL.look q.om ((a, b) : Int × Int)).getD false))) rfl) ⟨hpk34.bx.reads, hX33.pins⟩ ?_
 refine dr_take (i := 10) rfl rfl rfl (want_none rfl _) (by kernel_rfl) (fun _ _ => r_assign (v := (.bool ((Go.GL.look q.om ((a, b) : Int × Int)).isSome))) rfl) ⟨hpk34.bx.reads, hX33.pins⟩ ?_
 refine dr_end (by kernel_rfl) ?_
 refine s_then (s_seq (c_reg ?_))
 refine qd rfl rfl rfl (r_move (v := (.bool ((Go.GL.look q.om ((a, b) : Int × Int)).isSome))) rfl) ?_
 refine qe (s_then ?_)
 refine c_if rfl rfl (fun h35 => ?_) (fun h35 => ?_)
 ·skip
  refine s_seq (c_reg ?_)
  refine qd rfl rfl rfl (r_move (v := (.bool ((Go.GL.look q.om ((a, b) : Int × Int)).getD false))) rfl) ?_
  refine qd rfl rfl rfl (r_assign (v := (.bool ((Go.GL.look q.om ((a, b) : Int × Int)).getD false))) rfl) ?_
  refine qe (s_then ?_)
  refine wp_ret ?_
  refine s_ret ?_
  refine c_ret1 (v := (.bool ((Go.GL.look q.om ((a, b) : Int × Int)).getD false))) rfl rfl rfl ?_
  obtain ⟨z, hz⟩ := Option.isSome_iff_exists.1 h35
  exact ⟨q, _, congrArg (fun z => Ending.returned (Value.bool z)) (by rw [hz]; exact (hok.ord _ _ _ hz).2.2), hpk34, hok, (PX.refl _), ⟨rfl, rfl⟩, hX33⟩
 refine wp_skip ?_
 refine s_then (s_seq (c_reg ?_))
 refine qd rfl rfl rfl (r_assign (v := (.bool true)) rfl) ?_
 refine qe (s_then (s_seq (s_seq (c_reg ?_))))
 refine qd rfl rfl rfl (r_move (v := (.pointer (some ⟨p, 0, none⟩))) rfl) ?_
 refine qd rfl rfl rfl (r_nil rfl) ?_
 refine qd rfl rfl rfl (r_fldp (k := 1) rfl Tryd.underlying77 rfl nz75 rfl) ?_
 refine qd rfl rfl rfl (r_ldp1 (u := R) ag75 rfl (hpk34.bx.cell (o := 1) rfl)) ?_
 refine qd rfl rfl rfl (r_move (v := (.int .i64 a)) rfl) ?_
 refine qd rfl rfl rfl (run_idx Tryd.underlying75 sz40 (v := R) rfl rfl hpk34.rr.read (by omega) (by omega)) ?_
 obtain ⟨u36, hr37, hl38⟩ := nm_sl (hpk34.rr.at (z := a) (by omega) (by omega)) (j := (a).toNat) rfl
 rw [mapr_getD] at hr37
 have hm39 := hr37.max
 refine qd rfl rfl rfl (hl38 ag40 rfl (Gadd.pins hX33.pins R)) ?_
 refine qd rfl rfl rfl (run_len Tryd.underlying40 (v := u36) rfl hr37) ?_
 refine qd rfl rfl rfl (r_move (v := (.int .i64 0)) rfl) ?_
 refine qe (s_then ?_)
 refine s_blk ?_
 have lx44 : (q.ns.getD (a).toNat default).r = (q.ns.getD (a).toNat default).r := rfl
 refine s_loop (fun (k : Nat) (en : Nat → Value) (W : World) => ∃ (env1 : Nat → Value) (i : Nat) (q43 : PSt) (GLr : Pin), en = (upd (upd (upd (upd (upd (upd (upd (upd (upd env1 0 (.pointer (some ⟨p, 0, none⟩))) 1 (.int .i64 a)) 2 (.int .i64 b)) 6 (.bool false)) 7 (.pointer (some ⟨b4, 0, none⟩))) 10 (.bool true)) 38 u36) 39 (.int .i64 (((q.ns.getD (a).toNat default).r).length : Int))) 40 (.int .i64 (i : Int))) ∧ k = (q.ns.getD (a).toNat default).r.length - i ∧ Ext (inO (some mm.o)) G w GLr W ∧ Pin.le G25 GLr ∧ (i ≤ (q.ns.getD (a).toNat default).r.length) ∧ (∀ x, x < i → geB q.ns b ((q.ns.getD (a).toNat default).r.getD x 0) = false) ∧ (Pk 40 3 GLr W p L R B mm q43) ∧ (PoolOk q43) ∧ (PX q q43) ∧ (q43.ns = q.ns ∧ q43.bs = q.bs)) _ ⟨_, 0, q, G25, (packS (x := 40) (packS (x := 39) (packS (x := 38) (packS (x := 10) (packS (x := 7) (packS (x := 6) (packS (x := 2) (packS (x := 1) (pack1 (x := 0) rfl) rfl) rfl) rfl) rfl) rfl) rfl) rfl) rfl), rfl, hX33, Pin.le_refl _, Nat.zero_le _, (fun q hq => absurd hq (Nat.not_lt_zero q)), hpk34, hok, (PX.refl _), ⟨rfl, rfl⟩⟩ ?_
 rintro k45 _ w46 ⟨env1, i, q43, GLr, rfl, hk47, hX48, hlek45, hji, hpr, hpk49, hok50, hpx51, hqn52⟩
 have hql53 := hpx51.len
 have hml54 : (q43.ns.map Nd.l).length = q43.ns.length ∧ (q43.ns.map Nd.r).length = q43.ns.length := ⟨List.length_map .., List.length_map ..⟩
 have hml55 : q43.bs.length = q43.ns.length ∧ q43.ns.length ≤ 1048576 := ⟨hok50.ar.ok.len, hok50.ar.ok.lim⟩
 have hlnr := congrArg List.length lx44
 refine s_seq (c_reg ?_)
 refine qd rfl rfl rfl (r_lss rfl rfl) ?_
 refine qe (s_then (s_seq ?_))
 refine c_ifd (p := ((i : Int) : Int) < (((q.ns.getD (a).toNat default).r).length : Int)) rfl rfl (fun h56 => ?_) (fun h56 => ?_)
 ·skip
  have hki := (optsAt hok.ar.opts (show (a).toNat < q.ns.length by omega)).2 _ (getD_mem (d := (0 : Int)) (show i < (q.ns.getD (a).toNat default).r.length by omega))
  rw [← lx44] at hki
  refine wp_skip ?_
  refine s_then (s_seq ?_)
  refine s_blk ?_
  refine s_seq (c_reg ?_)
  refine qd rfl rfl rfl (run_idx Tryd.underlying40 sz3 (v := u36) rfl rfl hr37 (by omega) (by omega)) ?_
  refine qd rfl rfl rfl (run_load_int (r := ((q.ns.getD (a).toNat default).r).getD i 0) rfl ag3 (z := (i : Int)) rfl hr37 (Pins.of_le hX48.pins hlek45) (by omega) (by omega)) ?_
  refine qd rfl rfl rfl (r_assign (v := (.int .i64 (((q.ns.getD (a).toNat default).r).getD i 0))) rfl) ?_
  refine qe (s_then (s_seq (c_reg ?_)))
  refine qd rfl rfl rfl (r_move (v := (.pointer (some ⟨p, 0, none⟩))) rfl) ?_
  refine qd rfl rfl rfl (r_move (v := (.int .i64 b)) rfl) ?_
  refine qd rfl rfl rfl (r_move (v := (.int .i64 (((q.ns.getD (a).toNat default).r).getD i 0))) rfl) ?_
  refine q1 rfl rfl rfl (o_call (vs := [(.pointer (some ⟨p, 0, none⟩)), (.int .i64 b), (.int .i64 (((q.ns.getD (a).toNat default).r).getD i 0))]) Tryd.func27 nm27 rfl rfl rfl ?_)
  refine Calls.mono (ih hX48.pins hpk49 hok50 ⟨by omega, by omega⟩ ⟨by omega, by omega⟩ (by omega)) ?_
  rintro _ w59 ⟨q57, G58, rfl, hpk60, hok61, hpx62, hqn63, hx64⟩
  refine ⟨_, rfl, ?_⟩
  have hX65 := hX48.trans hx64 (fun i hi => lo_self i hi)
  have hql66 := hpx62.len
  have hml67 : (q57.ns.map Nd.l).length = q57.ns.length ∧ (q57.ns.map Nd.r).length = q57.ns.length := ⟨List.length_map .., List.length_map ..⟩
  have hml68 : q57.bs.length = q57.ns.length ∧ q57.ns.length ≤ 1048576 := ⟨hok61.ar.ok.len, hok61.ar.ok.lim⟩
  have hql69 := congrArg List.length hqn63.1
  refine qe (s_then ?_)
  refine c_if rfl rfl (fun h70 => ?_) (fun h70 => ?_)
  ·skip
   refine s_seq (c_reg ?_)
   refine qd rfl rfl rfl (r_assign (v := (.bool false)) rfl) ?_
   refine qe (s_then ?_)
   refine wp_exit ?_
   refine s_blkO rfl ?_
   refine s_thenE ?_
   refine s_lopE ?_
   refine s_blkE ?_
   refine s_then (s_seq (s_seq (c_reg ?_)))
   refine qd rfl rfl rfl (r_move (v := (.bool false)) rfl) ?_
   refine qe (s_then ?_)
   refine c_ifF rfl rfl ?_
   refine wp_skip ?_
   refine s_then (s_seq ?_)
   refine c_draw (S := fun wz => BxR wz p [L, R, B, (.map (some mm.f)), (.map (some mm.o)), (.map (some mm.c)), (.map (some mm.s)), (.map (some mm.n))] ∧ Pins G58 wz) (last := 6) (by kernel_rfl) rfl ?_
   have hl71 : Below w59.heap.size w59 w59.drew := (Below.refl _ _).drew
   have hp72 := hX65.pins.below hl71
   have hX73 := hX65.step hp72 hl71
   have hpk74 := hpk60.below hl71 hp72
   refine dr_take (i := 0) rfl rfl rfl (want_none rfl _) (by kernel_rfl) (fun _ _ => r_move (v := (.pointer (some ⟨p, 0, none⟩))) rfl) ⟨hpk74.bx.reads, hX73.pins⟩ ?_
   refine dr_take (i := 1) rfl rfl rfl (want_none rfl _) (by kernel_rfl) (fun _ _ => r_nil rfl) ⟨hpk74.bx.reads, hX73.pins⟩ ?_
   refine dr_take (i := 2) rfl rfl rfl (want_none rfl _) (by kernel_rfl) (fun _ _ => r_fldp (k := 4) rfl Tryd.underlying77 rfl nz72 rfl) ⟨hpk74.bx.reads, hX73.pins⟩ ?_
   refine dr_take (i := 3) rfl rfl rfl (want_none rfl _) (by kernel_rfl) (fun _ hS => r_ldp1 (u := (.map (some mm.o))) ag72 rfl (hS.1 4 _ rfl)) ⟨hpk74.bx.reads, hX73.pins⟩ ?_
   refine dr_take (i := 4) rfl rfl rfl (want_none rfl _) (by kernel_rfl) (fun _ hS => r_ldpA (cs := [(.int .i64 a), (.int .i64 b)]) ag78 sz78 rfl (fun j u hj => (Pins.of_le hS.2 (Pin.le_trans hlek45 hx64.le)) _ _ _ (hbp28 _ _ (by simpa using hj)))) ⟨hpk74.bx.reads, hX73.pins⟩ ?_
   refine dr_take (i := 5) rfl rfl rfl (want_none rfl _) (by kernel_rfl) (fun _ _ => r_move (v := (.bool false)) rfl) ⟨hpk74.bx.reads, hX73.pins⟩ ?_
   refine dr_one (i := 6) (by kernel_rfl) (drOp0 (i := 6) rfl rfl rfl (want_none rfl _) (o_mapUpdate (val := (fun v : Bool => Value.bool v)) (k := ((a, b) : Int × Int)) (v := false) (key_pair Tryd.underlying78 Tryd.underlying3 sz3) Tryd.underlying72 rfl rfl rfl hX73.pins hpk74.fo (fun w75 hm76 hp77 hg78 hz79 => ?_)))
   have hX81 := hX73.trans (Ext.one hp77 hg78) (fun i hi => lo_self i hi)
   have hpk80 := hpk74.setO (Ext.one hp77 hg78) hm76
   have hgv : geB q.ns a b = false := geB_no_right hok.ar.opts ha (i := i) (by omega) (by rw [← lx44, ← geB_same hqn52]; exact h70)
   have hok84 := PoolOk.setO hok61 (ha.same (ns_trans hqn52 hqn63)) (hb.same (ns_trans hqn52 hqn63)) (setO_ok (ns_trans hqn52 hqn63) hgv)
   obtain ⟨q82, hq83⟩ : ∃ q, q = ({ q57 with om := putE q57.om ((a, b) : Int × Int) false } : PSt) := ⟨_, rfl⟩
   rw [← hq83] at hpk80 hok84
   have hq83n : q82.ns = q57.ns ∧ q82.bs = q57.bs := by rw [hq83]; exact ⟨rfl, rfl⟩
   have hq83x : PX q57 q82 := by rw [hq83]; exact ⟨Nat.le_refl _, fun _ _ => rfl, fun _ h => h⟩
   have hml85 : (q82.ns.map Nd.l).length = q82.ns.length ∧ (q82.ns.map Nd.r).length = q82.ns.length := ⟨List.length_map .., List.length_map ..⟩
   have hml86 : q82.bs.length = q82.ns.length ∧ q82.ns.length ≤ 1048576 := ⟨hok84.ar.ok.len, hok84.ar.ok.lim⟩
   have hql87 := hq83x.len
   refine ⟨fun h => absurd rfl h, ?_⟩
   refine dr_end (by kernel_rfl) ?_
   refine s_then (s_seq (c_reg ?_))
   refine qd rfl rfl rfl (r_move (v := (.bool false)) rfl) ?_
   refine qd rfl rfl rfl (r_assign (v := (.bool false)) rfl) ?_
   refine qe (s_then ?_)
   refine wp_ret ?_
   refine s_ret ?_
   refine c_ret1 (v := (.bool false)) rfl rfl rfl ?_
   exact ⟨q82, _, congrArg (fun z => Ending.returned (Value.bool z)) (hgv.symm), hpk80, hok84, (PX.trans (PX.trans hpx51 hpx62) hq83x), (ns_trans (ns_trans hqn52 hqn63) hq83n), hX81⟩
  refine wp_skip ?_
  refine s_blkN ?_
  refine s_then (c_reg ?_)
  refine qd rfl rfl rfl (r_add rfl rfl (by omega)) ?_
  refine qd rfl rfl rfl (r_move (v := (.int .i64 ((i : Int) + 1))) rfl) ?_
  refine qe ?_
  refine s_lopN ?_
  refine ⟨_, ?_, _, rfl, _, i + 1, q57, G58, (packS (x := 40) (packS (x := 39) (packS (x := 38) (packS (x := 10) (packS (x := 7) (packS (x := 6) (packS (x := 2) (packS (x := 1) (pack1 (x := 0) rfl) rfl) rfl) rfl) rfl) rfl) rfl) rfl) rfl), rfl, hX65, (Pin.le_trans hlek45 hx64.le), (by omega), (fun x h2 => if h3 : x = i then h3 ▸ (by rw [← lx44, ← geB_same hqn52]; exact h70) else hpr x (by omega)), hpk60, hok61, (PX.trans hpx51 hpx62), (ns_trans hqn52 hqn63)⟩
  omega
 refine wp_exit ?_
 refine s_thenE ?_
 refine s_lopE ?_
 refine s_blkE ?_
 refine s_then (s_seq (s_seq (c_reg ?_)))
 refine qd rfl rfl rfl (r_move (v := (.bool true)) rfl) ?_
 refine qe (s_then ?_)
 refine c_ifT rfl rfl ?_
 refine s_seq (c_reg ?_)
 refine qd rfl rfl rfl (r_move (v := (.pointer (some ⟨p, 0, none⟩))) rfl) ?_
 refine qd rfl rfl rfl (r_nil rfl) ?_
 refine qd rfl rfl rfl (r_fldp (k := 0) rfl Tryd.underlying77 rfl nz75 rfl) ?_
 refine qd rfl rfl rfl (r_ldp1 (u := L) ag75 rfl (hpk49.bx.cell (o := 0) rfl)) ?_
 refine qd rfl rfl rfl (r_move (v := (.int .i64 b)) rfl) ?_
 refine qd rfl rfl rfl (run_idx Tryd.underlying75 sz40 (v := L) rfl rfl hpk49.ol.read (by omega) (by omega)) ?_
 obtain ⟨u88, hr89, hl90⟩ := nm_sl (hpk49.ol.at (z := b) (by omega) (by omega)) (j := (b).toNat) rfl
 rw [mapl_getD] at hr89
 have hm91 := hr89.max
 refine qd rfl rfl rfl (hl90 ag40 rfl (Gadd.pins hX48.pins L)) ?_
 refine qd rfl rfl rfl (run_len Tryd.underlying40 (v := u88) rfl hr89) ?_
 refine qd rfl rfl rfl (r_move (v := (.int .i64 0)) rfl) ?_
 refine qe (s_then ?_)
 refine s_blk ?_
 have lx96 : (q43.ns.getD (b).toNat default).l = (q.ns.getD (b).toNat default).l := by rw [hqn52.1]
 refine s_loop (fun (k : Nat) (en : Nat → Value) (W : World) => ∃ (env1 : Nat → Value) (i2 : Nat) (q95 : PSt) (GLl : Pin), en = (upd (upd (upd (upd (upd (upd (upd (upd env1 0 (.pointer (some ⟨p, 0, none⟩))) 1 (.int .i64 a)) 6 (.bool false)) 7 (.pointer (some ⟨b4, 0, none⟩))) 10 (.bool true)) 56 u88) 57 (.int .i64 (((q43.ns.getD (b).toNat default).l).length : Int))) 58 (.int .i64 (i2 : Int))) ∧ k = (q.ns.getD (b).toNat default).l.length - i2 ∧ Ext (inO (some mm.o)) G w GLl W ∧ Pin.le GLr GLl ∧ (i2 ≤ (q.ns.getD (b).toNat default).l.length) ∧ (∀ x, x < i2 → geB q.ns ((q.ns.getD (b).toNat default).l.getD x 0) a = false) ∧ (Pk 40 3 GLl W p L R B mm q95) ∧ (PoolOk q95) ∧ (PX q43 q95) ∧ (q95.ns = q43.ns ∧ q95.bs = q43.bs)) _ ⟨_, 0, q43, GLr, (packS (x := 58) (packS (x := 57) (packS (x := 56) (packS (x := 10) (packS (x := 7) (packS (x := 6) (packS (x := 1) (pack1 (x := 0) rfl) rfl) rfl) rfl) rfl) rfl) rfl) rfl), rfl, hX48, Pin.le_refl _, Nat.zero_le _, (fun q hq => absurd hq (Nat.not_lt_zero q)), hpk49, hok50, (PX.refl _), ⟨rfl, rfl⟩⟩ ?_
 rintro k97 _ w98 ⟨env1, i2, q95, GLl, rfl, hk99, hX100, hlek97, hji2, hpl, hpk101, hok102, hpx103, hqn104⟩
 have hql105 := hpx103.len
 have hml106 : (q95.ns.map Nd.l).length = q95.ns.length ∧ (q95.ns.map Nd.r).length = q95.ns.length := ⟨List.length_map .., List.length_map ..⟩
 have hml107 : q95.bs.length = q95.ns.length ∧ q95.ns.length ≤ 1048576 := ⟨hok102.ar.ok.len, hok102.ar.ok.lim⟩
 have hlnl := congrArg List.length lx96
 refine s_seq (c_reg ?_)
 refine qd rfl rfl rfl (r_lss rfl rfl) ?_
 refine qe (s_then (s_seq ?_))
 refine c_ifd (p := ((i2 : Int) : Int) < (((q43.ns.getD (b).toNat default).l).length : Int)) rfl rfl (fun h108 => ?_) (fun h108 => ?_)
 ·skip
  have hki := (optsAt hok.ar.opts (show (b).toNat < q.ns.length by omega)).1 _ (getD_mem (d := (0 : Int)) (show i2 < (q.ns.getD (b).toNat default).l.length by omega))
  rw [← lx96] at hki
  refine wp_skip ?_
  refine s_then (s_seq ?_)
  refine s_blk ?_
  refine s_seq (c_reg ?_)
  refine qd rfl rfl rfl (run_idx Tryd.underlying40 sz3 (v := u88) rfl rfl hr89 (by omega) (by omega)) ?_
  refine qd rfl rfl rfl (run_load_int (r := ((q43.ns.getD (b).toNat default).l).getD i2 0) rfl ag3 (z := (i2 : Int)) rfl hr89 (Pins.of_le hX100.pins hlek97) (by omega) (by omega)) ?_
  refine qd rfl rfl rfl (r_assign (v := (.int .i64 (((q43.ns.getD (b).toNat default).l).getD i2 0))) rfl) ?_
  refine qe (s_then (s_seq (c_reg ?_)))
  refine qd rfl rfl rfl (r_move (v := (.pointer (some ⟨p, 0, none⟩))) rfl) ?_
  refine qd rfl rfl rfl (r_move (v := (.int .i64 (((q43.ns.getD (b).toNat default).l).getD i2 0))) rfl) ?_
  refine qd rfl rfl rfl (r_move (v := (.int .i64 a)) rfl) ?_
  refine q1 rfl rfl rfl (o_call (vs := [(.pointer (some ⟨p, 0, none⟩)), (.int .i64 (((q43.ns.getD (b).toNat default).l).getD i2 0)), (.int .i64 a)]) Tryd.func27 nm27 rfl rfl rfl ?_)
  refine Calls.mono (ih hX100.pins hpk101 hok102 ⟨by omega, by omega⟩ ⟨by omega, by omega⟩ (by omega)) ?_
  rintro _ w111 ⟨q109, G110, rfl, hpk112, hok113, hpx114, hqn115, hx116⟩
  refine ⟨_, rfl, ?_⟩
  have hX117 := hX100.trans hx116 (fun i hi => lo_self i hi)
  have hql118 := hpx114.len
  have hml119 : (q109.ns.map Nd.l).length = q109.ns.length ∧ (q109.ns.map Nd.r).length = q109.ns.length := ⟨List.length_map .., List.length_map ..⟩
  have hml120 : q109.bs.length = q109.ns.length ∧ q109.ns.length ≤ 1048576 := ⟨hok113.ar.ok.len, hok113.ar.ok.lim⟩
  have hql121 := congrArg List.length hqn115.1
  refine qe (s_then ?_)
  refine c_if rfl rfl (fun h122 => ?_) (fun h122 => ?_)
  ·skip
   refine s_seq (c_reg ?_)
   refine qd rfl rfl rfl (r_assign (v := (.bool false)) rfl) ?_
   refine qe (s_then ?_)
   refine wp_exit ?_
   refine s_blkO rfl ?_
   refine s_thenE ?_
   refine s_lopE ?_
   refine s_blkE ?_
   refine s_then (s_seq ?_)
   refine c_draw (S := fun wz => BxR wz p [L, R, B, (.map (some mm.f)), (.map (some mm.o)), (.map (some mm.c)), (.map (some mm.s)), (.map (some mm.n))] ∧ Pins G110 wz) (last := 6) (by kernel_rfl) rfl ?_
   have hl123 : Below w111.heap.size w111 w111.drew := (Below.refl _ _).drew
   have hp124 := hX117.pins.below hl123
   have hX125 := hX117.step hp124 hl123
   have hpk126 := hpk112.below hl123 hp124
   refine dr_take (i := 0) rfl rfl rfl (want_none rfl _) (by kernel_rfl) (fun _ _ => r_move (v := (.pointer (some ⟨p, 0, none⟩))) rfl) ⟨hpk126.bx.reads, hX125.pins⟩ ?_
   refine dr_take (i := 1) rfl rfl rfl (want_none rfl _) (by kernel_rfl) (fun _ _ => r_nil rfl) ⟨hpk126.bx.reads, hX125.pins⟩ ?_
   refine dr_take (i := 2) rfl rfl rfl (want_none rfl _) (by kernel_rfl) (fun _ _ => r_fldp (k := 4) rfl Tryd.underlying77 rfl nz72 rfl) ⟨hpk126.bx.reads, hX125.pins⟩ ?_
   refine dr_take (i := 3) rfl rfl rfl (want_none rfl _) (by kernel_rfl) (fun _ hS => r_ldp1 (u := (.map (some mm.o))) ag72 rfl (hS.1 4 _ rfl)) ⟨hpk126.bx.reads, hX125.pins⟩ ?_
   refine dr_take (i := 4) rfl rfl rfl (want_none rfl _) (by kernel_rfl) (fun _ hS => r_ldpA (cs := [(.int .i64 a), (.int .i64 b)]) ag78 sz78 rfl (fun j u hj => (Pins.of_le hS.2 (Pin.le_trans (Pin.le_trans hlek45 hlek97) hx116.le)) _ _ _ (hbp28 _ _ (by simpa using hj)))) ⟨hpk126.bx.reads, hX125.pins⟩ ?_
   refine dr_take (i := 5) rfl rfl rfl (want_none rfl _) (by kernel_rfl) (fun _ _ => r_move (v := (.bool false)) rfl) ⟨hpk126.bx.reads, hX125.pins⟩ ?_
   refine dr_one (i := 6) (by kernel_rfl) (drOp0 (i := 6) rfl rfl rfl (want_none rfl _) (o_mapUpdate (val := (fun v : Bool => Value.bool v)) (k := ((a, b) : Int × Int)) (v := false) (key_pair Tryd.underlying78 Tryd.underlying3 sz3) Tryd.underlying72 rfl rfl rfl hX125.pins hpk126.fo (fun w127 hm128 hp129 hg130 hz131 => ?_)))
   have hX133 := hX125.trans (Ext.one hp129 hg130) (fun i hi => lo_self i hi)
   have hpk132 := hpk126.setO (Ext.one hp129 hg130) hm128
   have hgv : geB q.ns a b = false := geB_no_left hok.ar.opts hb (i := i2) (by omega) (by rw [← lx96, ← geB_same (ns_trans hqn52 hqn104)]; exact h122)
   have hok136 := PoolOk.setO hok113 (ha.same (ns_trans (ns_trans hqn52 hqn104) hqn115)) (hb.same (ns_trans (ns_trans hqn52 hqn104) hqn115)) (setO_ok (ns_trans (ns_trans hqn52 hqn104) hqn115) hgv)
   obtain ⟨q134, hq135⟩ : ∃ q, q = ({ q109 with om := putE q109.om ((a, b) : Int × Int) false } : PSt) := ⟨_, rfl⟩
   rw [← hq135] at hpk132 hok136
   have hq135n : q134.ns = q109.ns ∧ q134.bs = q109.bs := by rw [hq135]; exact ⟨rfl, rfl⟩
   have hq135x : PX q109 q134 := by rw [hq135]; exact ⟨Nat.le_refl _, fun _ _ => rfl, fun _ h => h⟩
   have hml137 : (q134.ns.map Nd.l).length = q134.ns.length ∧ (q134.ns.map Nd.r).length = q134.ns.length := ⟨List.length_map .., List.length_map ..⟩
   have hml138 : q134.bs.length = q134.ns.length ∧ q134.ns.length ≤ 1048576 := ⟨hok136.ar.ok.len, hok136.ar.ok.lim⟩
   have hql139 := hq135x.len
   refine ⟨fun h => absurd rfl h, ?_⟩
   refine dr_end (by kernel_rfl) ?_
   refine s_then (s_seq (c_reg ?_))
   refine qd rfl rfl rfl (r_move (v := (.bool false)) rfl) ?_
   refine qd rfl rfl rfl (r_assign (v := (.bool false)) rfl) ?_
   refine qe (s_then ?_)
   refine wp_ret ?_
   refine s_ret ?_
   refine c_ret1 (v := (.bool false)) rfl rfl rfl ?_
   exact ⟨q134, _, congrArg (fun z => Ending.returned (Value.bool z)) (hgv.symm), hpk132, hok136, (PX.trans (PX.trans (PX.trans hpx51 hpx103) hpx114) hq135x), (ns_trans (ns_trans (ns_trans hqn52 hqn104) hqn115) hq135n), hX133⟩
  refine wp_skip ?_
  refine s_blkN ?_
  refine s_then (c_reg ?_)
  refine qd rfl rfl rfl (r_add rfl rfl (by omega)) ?_
  refine qd rfl rfl rfl (r_move (v := (.int .i64 ((i2 : Int) + 1))) rfl) ?_
  refine qe ?_
  refine s_lopN ?_
  refine ⟨_, ?_, _, rfl, _, i2 + 1, q109, G110, (packS (x := 58) (packS (x := 57) (packS (x := 56) (packS (x := 10) (packS (x := 7) (packS (x := 6) (packS (x := 1) (pack1 (x := 0) rfl) rfl) rfl) rfl) rfl) rfl) rfl) rfl), rfl, hX117, (Pin.le_trans hlek97 hx116.le), (by omega), (fun x h2 => if h3 : x = i2 then h3 ▸ (by rw [← lx96, ← geB_same (ns_trans hqn52 hqn104)]; exact h122) else hpl x (by omega)), hpk112, hok113, (PX.trans hpx103 hpx114), (ns_trans hqn104 hqn115)⟩
  omega
 refine wp_exit ?_
 refine s_thenE ?_
 refine s_lopE ?_
 refine s_blkE ?_
 refine s_then (s_seq ?_)
 refine c_draw (S := fun wz => BxR wz p [L, R, B, (.map (some mm.f)), (.map (some mm.o)), (.map (some mm.c)), (.map (some mm.s)), (.map (some mm.n))] ∧ Pins GLl wz) (last := 6) (by kernel_rfl) rfl ?_
 have hl140 : Below w98.heap.size w98 w98.drew := (Below.refl _ _).drew
 have hp141 := hX100.pins.below hl140
 have hX142 := hX100.step hp141 hl140
 have hpk143 := hpk101.below hl140 hp141
 refine dr_take (i := 0) rfl rfl rfl (want_none rfl _) (by kernel_rfl) (fun _ _ => r_move (v := (.pointer (some ⟨p, 0, none⟩))) rfl) ⟨hpk143.bx.reads, hX142.pins⟩ ?_
 refine dr_take (i := 1) rfl rfl rfl (want_none rfl _) (by kernel_rfl) (fun _ _ => r_nil rfl) ⟨hpk143.bx.reads, hX142.pins⟩ ?_
 refine dr_take (i := 2) rfl rfl rfl (want_none rfl _) (by kernel_rfl) (fun _ _ => r_fldp (k := 4) rfl Tryd.underlying77 rfl nz72 rfl) ⟨hpk143.bx.reads, hX142.pins⟩ ?_
 refine dr_take (i := 3) rfl rfl rfl (want_none rfl _) (by kernel_rfl) (fun _ hS => r_ldp1 (u := (.map (some mm.o))) ag72 rfl (hS.1 4 _ rfl)) ⟨hpk143.bx.reads, hX142.pins⟩ ?_
 refine dr_take (i := 4) rfl rfl rfl (want_none rfl _) (by kernel_rfl) (fun _ hS => r_ldpA (cs := [(.int .i64 a), (.int .i64 b)]) ag78 sz78 rfl (fun j u hj => (Pins.of_le hS.2 (Pin.le_trans hlek45 hlek97)) _ _ _ (hbp28 _ _ (by simpa using hj)))) ⟨hpk143.bx.reads, hX142.pins⟩ ?_
 refine dr_take (i := 5) rfl rfl rfl (want_none rfl _) (by kernel_rfl) (fun _ _ => r_move (v := (.bool true)) rfl) ⟨hpk143.bx.reads, hX142.pins⟩ ?_
 refine dr_one (i := 6) (by kernel_rfl) (drOp0 (i := 6) rfl rfl rfl (want_none rfl _) (o_mapUpdate (val := (fun v : Bool => Value.bool v)) (k := ((a, b) : Int × Int)) (v := true) (key_pair Tryd.underlying78 Tryd.underlying3 sz3) Tryd.underlying72 rfl rfl rfl hX142.pins hpk143.fo (fun w144 hm145 hp146 hg147 hz148 => ?_)))
 have hX150 := hX142.trans (Ext.one hp146 hg147) (fun i hi => lo_self i hi)
 have hpk149 := hpk143.setO (Ext.one hp146 hg147) hm145
 have hgv : geB q.ns a b = true := geB_yes hok.ar.opts ha hb (fun i hi => hpr i (by omega)) (fun i hi => hpl i (by omega))
 have hok153 := PoolOk.setO hok102 (ha.same (ns_trans hqn52 hqn104)) (hb.same (ns_trans hqn52 hqn104)) (setO_ok (ns_trans hqn52 hqn104) hgv)
 obtain ⟨q151, hq152⟩ : ∃ q, q = ({ q95 with om := putE q95.om ((a, b) : Int × Int) true } : PSt) := ⟨_, rfl⟩
 rw [← hq152] at hpk149 hok153
 have hq152n : q151.ns = q95.ns ∧ q151.bs = q95.bs := by rw [hq152]; exact ⟨rfl, rfl⟩
 have hq152x : PX q95 q151 := by rw [hq152]; exact ⟨Nat.le_refl _, fun _ _ => rfl, fun _ h => h⟩
 have hml154 : (q151.ns.map Nd.l).length = q151.ns.length ∧ (q151.ns.map Nd.r).length = q151.ns.length := ⟨List.length_map .., List.length_map ..⟩
 have hml155 : q151.bs.length = q151.ns.length ∧ q151.ns.length ≤ 1048576 := ⟨hok153.ar.ok.len, hok153.ar.ok.lim⟩
 have hql156 := hq152x.len
 refine ⟨fun h => absurd rfl h, ?_⟩
 refine dr_end (by kernel_rfl) ?_
 refine s_then (s_seq (c_reg ?_))
 refine qd rfl rfl rfl (r_move (v := (.bool true)) rfl) ?_
 refine qd rfl rfl rfl (r_assign (v := (.bool true)) rfl) ?_
 refine qe (s_then ?_)
 refine wp_ret ?_
 refine s_ret ?_
 refine c_ret1 (v := (.bool true)) rfl rfl rfl ?_
 exact ⟨q151, _, congrArg (fun z => Ending.returned (Value.bool z)) (hgv.symm), hpk149, hok153, (PX.trans (PX.trans hpx51 hpx103) hq152x), (ns_trans (ns_trans hqn52 hqn104) hq152n), hX150⟩

theorem geP_all {p : Nat} {L R B : Value} {mm : PM} : ∀ m, GeP m p L R B mm
 | 0 => fun _ _ _ _ _ h => absurd h (Nat.not_lt_zero _)
 | m + 1 => fun hP hpk hok ha hb hm => ge_step hP hpk hok ha hb (geP_all m) hm
theorem ge_spec {p : Nat} {L R B : Value} {mm : PM} {w : World} {G : Pin} {q : PSt} {a b : Int} (hP : Pins G w) (hpk : Pk 40 3 G w p L R B mm q) (hok : PoolOk q) (ha : PlaceOk q a) (hb : PlaceOk q b) :
  Calls Tryd.prog 27 [(.pointer (some ⟨p, 0, none⟩)), (.int .i64 a), (.int .i64 b)].toArray w fun e w' => ∃ (q' : PSt) (G' : Pin), e = .returned (.bool (geB q.ns a b)) ∧ Pk 40 3 G' w' p L R B mm q' ∧ PoolOk q' ∧ PX q q' ∧ (q'.ns = q.ns ∧ q'.bs = q.bs) ∧ Ext (inO (some mm.o)) G w G' w' :=
 geP_all _ hP hpk hok ha hb (Nat.lt_succ_self _)

end PL1
end Go.Proofs.YtkfgdhanaijddaaDoor

set_option maxRecDepth 20000
set_option maxHeartbeats 2000000
namespace Go.Proofs.YtkfgdhanaijddaaDoor
namespace PF1
open Go.RowKit Go.GL Go.Proofs
open Go.Proofs.YtkfgdhanaijddaaDoor.B1
open Go.Proofs.YtkfgdhanaijddaaDoor.K1
open Go.Proofs.YtkfgdhanaijddaaDoor.PO1
open Go.Proofs.YtkfgdhanaijddaaDoor.PL1






theorem iAtLeast_spec {w : World} {G : Pin} {u v : Value} {ax bs : List Nd} (hP : Pins G w) (hu : RSl eNode G u ax) (hv : RSl eNode G v bs) :
  Calls Tryd.prog 10 [(.agg [u].toArray), (.agg [v].toArray)].toArray w fun e w' => ∃ G', e = .returned (.tuple #[.bool (alB ax bs), .bool (goodB ax && goodB bs)]) ∧ Ext noS G w G' w' := by
 refine s_enter (n := 24) Tryd.func10 Tryd.ntmps10 rfl rfl ?_
 have hX0 : Ext noS G w G w := Ext.refl hP
 refine s_seq (c_reg ?_)
 refine q1 rfl rfl rfl (o_box [u] (v := (.agg [u].toArray)) rfl rfl hX0.pins (fun b1 w2 hk3 hb4 hp5 hl6 => ?_))
 have hX7 := hX0.step hp5 hl6
 have hlo8 : w.heap.size ≤ b1 := by have := hX0.size; omega
 obtain ⟨G9, hle10, hX11, hbp12, hf13⟩ := hb4.shut hX7 hlo8
 refine q1 rfl rfl rfl (o_box [v] (v := (.agg [v].toArray)) rfl rfl hX11.pins (fun b14 w15 hk16 hb17 hp18 hl19 => ?_))
 have hX20 := hX11.step hp18 hl19
 have hlo21 : w.heap.size ≤ b14 := by have := hX11.size; omega
 obtain ⟨G22, hle23, hX24, hbp25, hf26⟩ := hb17.shut hX20 hlo21
 refine qd rfl rfl rfl (r_assign (v := (.bool false)) rfl) ?_
 refine qd rfl rfl rfl (r_assign (v := (.bool false)) rfl) ?_
 refine qe (s_then (s_seq (s_seq (c_reg ?_))))
 refine qd rfl rfl rfl (r_ldpA (cs := [u]) ag26 sz26 rfl (fun j u hj => (Pins.of_le hX24.pins hle23) _ _ _ (hbp12 _ _ (by simpa using hj)))) ?_
 refine q1 rfl rfl rfl (o_call (vs := [(.agg [u].toArray)]) Tryd.func25 nm25 rfl rfl rfl ?_)
 refine Calls.mono (goodForm_spec hX24.pins (hu.mono (Pin.le_trans hle10 hle23))) ?_
 rintro _ w28 ⟨G27, rfl, hx29⟩
 refine ⟨_, rfl, ?_⟩
 have hX30 := hX24.tr hx29
 refine qd rfl rfl rfl (r_not rfl) ?_
 refine qd rfl rfl rfl (r_move (v := (.bool (!(goodB ax)))) rfl) ?_
 refine qbn (t := 10) rfl (fun h31 => ?_) (fun h31 => ?_)
 ·skip
  refine qdg rfl rfl rfl rfl rfl rfl (r_ldpA (cs := [v]) ag26 sz26 rfl (fun j u hj => (Pins.of_le hX30.pins hx29.le) _ _ _ (hbp25 _ _ (by simpa using hj)))) ?_
  refine q1g rfl rfl rfl rfl rfl rfl (o_call (vs := [(.agg [v].toArray)]) Tryd.func25 nm25 rfl rfl rfl ?_)
  refine Calls.mono (goodForm_spec hX30.pins (hv.mono (Pin.le_trans (Pin.le_trans hle10 hle23) hx29.le))) ?_
  rintro _ w33 ⟨G32, rfl, hx34⟩
  refine ⟨_, rfl, ?_⟩
  have hX35 := hX30.tr hx34
  refine qdg rfl rfl rfl rfl rfl rfl (r_not rfl) ?_
  refine qd rfl rfl rfl (r_pickF (v := (.bool (!(goodB bs)))) rfl rfl) ?_
  refine qe (s_then ?_)
  refine c_ifn rfl rfl (fun h36 => ?_) (fun h36 => ?_)
  ·skip
   refine wp_skip ?_
   refine s_then (s_seq (c_reg ?_))
   have hga : GoodP ax := goodB_true.1 h31
   have hgb : GoodP bs := goodB_true.1 h36
   have hla := hga.lo
   have hlb := hgb.lo
   have hha := hga.hi
   have hhb := hgb.hi
   refine q1 rfl rfl rfl (o_call (vs := []) Tryd.func26 nm26 rfl rfl rfl ?_)
   refine Calls.mono (newPool_spec hX35.pins) ?_
   rintro _ w40 ⟨p37, mm38, G39, rfl, hpk41, hfr42, hx43⟩
   refine ⟨_, rfl, ?_⟩
   have hX47 := hX35.tr hx43
   have hpin48 : PIn w (noS) p37 (.slice none 0 0) (.slice none 0 0) (.slice none 0 0) mm38 := PIn.fresh hfr42 hX35.size
   obtain ⟨q44, hq45⟩ : ∃ q, q = (⟨[], [], [], [], [], [], []⟩ : PSt) := ⟨_, rfl⟩
   rw [← hq45] at hpk41
   have hok46 : PoolOk q44 := by rw [hq45]; exact PoolOk.empty
   have hq45l : q44.ns.length = 0 := by rw [hq45]; rfl
   obtain ⟨L49, R50, B51, eL49, eR50, eB51⟩ : ∃ (l r b : Value), l = .slice none 0 0 ∧ r = .slice none 0 0 ∧ b = .slice none 0 0 := ⟨_, _, _, rfl, rfl, rfl⟩
   have hpk412 : Pk 40 3 G39 w40 p37 L49 R50 B51 mm38 q44 := by rw [eL49, eR50, eB51]; exact hpk41
   have hpin482 : PIn w (noS) p37 L49 R50 B51 mm38 := by rw [eL49, eR50, eB51]; exact hpin48
   have hml52 : (q44.ns.map Nd.l).length = q44.ns.length ∧ (q44.ns.map Nd.r).length = q44.ns.length := ⟨List.length_map .., List.length_map ..⟩
   have hml53 : q44.bs.length = q44.ns.length ∧ q44.ns.length ≤ 1048576 := ⟨hok46.ar.ok.len, hok46.ar.ok.lim⟩
   refine qd rfl rfl rfl (r_assign (v := (.pointer (some ⟨p37, 0, none⟩))) rfl) ?_
   refine qe (s_then (s_seq ?_))
   refine c_draw (S := fun wz => Pins G39 wz) (last := 10) (by kernel_rfl) rfl ?_
   have hl54 : Below w40.heap.size w40 w40.drew := (Below.refl _ _).drew
   have hp55 := hX47.pins.below hl54
   have hX56 := hX47.step hp55 hl54
   have hpk57 := hpk412.below hl54 hp55
   refine dr_take (i := 0) rfl rfl rfl (want_none rfl _) (by kernel_rfl) (fun _ _ => r_move (v := (.pointer (some ⟨p37, 0, none⟩))) rfl) hX56.pins ?_
   refine dr_take (i := 1) rfl rfl rfl (want_none rfl _) (by kernel_rfl) (fun _ _ => r_move (v := (.pointer (some ⟨p37, 0, none⟩))) rfl) hX56.pins ?_
   refine dr_take (i := 2) rfl rfl rfl (want_none rfl _) (by kernel_rfl) (fun _ hS => r_ldpA (cs := [u]) ag26 sz26 rfl (fun j u hj => (Pins.of_le hS (Pin.le_trans (Pin.le_trans (Pin.le_trans hle23 hx29.le) hx34.le) hx43.le)) _ _ _ (hbp12 _ _ (by simpa using hj)))) hX56.pins ?_
   refine dr_take (i := 4) rfl rfl rfl (want_none rfl _) (by kernel_rfl) (fun _ _ => r_move (v := (.pointer (some ⟨p37, 0, none⟩))) rfl) hX56.pins ?_
   refine dr_take (i := 5) rfl rfl rfl (want_none rfl _) (by kernel_rfl) (fun _ hS => r_ldpA (cs := [v]) ag26 sz26 rfl (fun j u hj => (Pins.of_le hS (Pin.le_trans (Pin.le_trans hx29.le hx34.le) hx43.le)) _ _ _ (hbp25 _ _ (by simpa using hj)))) hX56.pins ?_
   refine dr_one (i := 3) (by kernel_rfl) (drOp1 (i := 3) rfl rfl rfl (want_none rfl _) (o_call (vs := [(.pointer (some ⟨p37, 0, none⟩)), (.agg [u].toArray)]) Tryd.func28 nm28 rfl rfl rfl ?_))
   refine Calls.mono (root_spec hX56.pins hpk57 hok46 (hu.mono (Pin.le_trans (Pin.le_trans (Pin.le_trans (Pin.le_trans hle10 hle23) hx29.le) hx34.le) hx43.le)) (good_form hga) (by omega) hla) ?_
   rintro _ w67 ⟨z58, L62, R63, B64, q65, G66, rfl, hpk68, hok69, hpx70, hlo71, hx72, hpl59, hpd60, hqn61⟩
   refine ⟨_, rfl, ?_⟩
   have hX73 := hX56.trans hx72 hpin482
   have hpin74 := PIn.call hpin482 hlo71 hX56.size
   have hql75 := hpx70.len
   have hml76 : (q65.ns.map Nd.l).length = q65.ns.length ∧ (q65.ns.map Nd.r).length = q65.ns.length := ⟨List.length_map .., List.length_map ..⟩
   have hml77 : q65.bs.length = q65.ns.length ∧ q65.ns.length ≤ 1048576 := ⟨hok69.ar.ok.len, hok69.ar.ok.lim⟩
   refine ⟨fun _ => (Pins.of_le hX73.pins hx72.le), ?_⟩
   refine dr_one (i := 6) (by kernel_rfl) (drOp1 (i := 6) rfl rfl rfl (want_none rfl _) (o_call (vs := [(.pointer (some ⟨p37, 0, none⟩)), (.agg [v].toArray)]) Tryd.func28 nm28 rfl rfl rfl ?_))
   refine Calls.mono (root_spec hX73.pins hpk68 hok69 (hv.mono (Pin.le_trans (Pin.le_trans (Pin.le_trans (Pin.le_trans (Pin.le_trans hle10 hle23) hx29.le) hx34.le) hx43.le) hx72.le)) (good_form hgb) (by omega) hlb) ?_
   rintro _ w87 ⟨z78, L82, R83, B84, q85, G86, rfl, hpk88, hok89, hpx90, hlo91, hx92, hpl79, hpd80, hqn81⟩
   refine ⟨_, rfl, ?_⟩
   have hX93 := hX73.trans hx92 hpin74
   have hpin94 := PIn.call hpin74 hlo91 hX73.size
   have hql95 := hpx90.len
   have hml96 : (q85.ns.map Nd.l).length = q85.ns.length ∧ (q85.ns.map Nd.r).length = q85.ns.length := ⟨List.length_map .., List.length_map ..⟩
   have hml97 : q85.bs.length = q85.ns.length ∧ q85.ns.length ≤ 1048576 := ⟨hok89.ar.ok.len, hok89.ar.ok.lim⟩
   refine ⟨fun _ => (Pins.of_le hX93.pins (Pin.le_trans hx72.le hx92.le)), ?_⟩
   refine dr_one (i := 7) (by kernel_rfl) (drOp1 (i := 7) rfl rfl rfl (want_none rfl _) (o_call (vs := [(.pointer (some ⟨p37, 0, none⟩)), (.int .i64 z58), (.int .i64 z78)]) Tryd.func27 nm27 rfl rfl rfl ?_))
   refine Calls.mono (ge_spec hX93.pins hpk88 hok89 (hpx90.place hpl59) hpl79) ?_
   rintro _ w100 ⟨q98, G99, rfl, hpk101, hok102, hpx103, hqn104, hx105⟩
   refine ⟨_, rfl, ?_⟩
   have hX106 := hX93.trans hx105 (fun i hi => (PIn.o hpin94) i hi)
   have hql107 := hpx103.len
   have hml108 : (q98.ns.map Nd.l).length = q98.ns.length ∧ (q98.ns.map Nd.r).length = q98.ns.length := ⟨List.length_map .., List.length_map ..⟩
   have hml109 : q98.bs.length = q98.ns.length ∧ q98.ns.length ≤ 1048576 := ⟨hok102.ar.ok.len, hok102.ar.ok.lim⟩
   have hql110 := congrArg List.length hqn104.1
   refine ⟨fun _ => (Pins.of_le hX106.pins (Pin.le_trans (Pin.le_trans hx72.le hx92.le) hx105.le)), ?_⟩
   refine dr_take (i := 8) rfl rfl rfl (want_none rfl _) (by kernel_rfl) (fun _ _ => r_assign (v := (.bool (geB q85.ns z58 z78))) rfl) (Pins.of_le hX106.pins (Pin.le_trans (Pin.le_trans hx72.le hx92.le) hx105.le)) ?_
   refine dr_take (i := 9) rfl rfl rfl (want_none rfl _) (by kernel_rfl) (fun _ _ => r_assign (v := (.bool true)) rfl) (Pins.of_le hX106.pins (Pin.le_trans (Pin.le_trans hx72.le hx92.le) hx105.le)) ?_
   refine dr_end (by kernel_rfl) ?_
   refine s_then ?_
   refine wp_ret ?_
   refine s_ret ?_
   refine c_ret2 (v := (.bool (geB q85.ns z58 z78))) (u := (.bool true)) rfl rfl rfl rfl rfl ?_
   have hr1 := (hpx90.pd hok69 hok89 hpl59).trans hpd60
   have hr2 := hpd80
   obtain ⟨e1, e2⟩ := alB_good hga hgb
   rw [e1, e2]
   exact ⟨_, congrArg (fun z => Ending.returned (Value.tuple #[Value.bool z, Value.bool true])) (geB_roots hr1 hr2), hX106⟩
  refine s_seq (c_reg ?_)
  refine qd rfl rfl rfl (r_assign (v := (.bool false)) rfl) ?_
  refine qd rfl rfl rfl (r_assign (v := (.bool false)) rfl) ?_
  refine qe (s_then ?_)
  refine wp_ret ?_
  refine s_ret ?_
  refine c_ret2 (v := (.bool false)) (u := (.bool false)) rfl rfl rfl rfl rfl ?_
  obtain ⟨e1, e2⟩ := alB_bad (Or.inr h36)
  rw [e1, e2]
  exact ⟨_, rfl, hX35⟩
 refine qs rfl rfl rfl rfl rfl rfl ?_
 refine qs rfl rfl rfl rfl rfl rfl ?_
 refine qs rfl rfl rfl rfl rfl rfl ?_
 refine qd rfl rfl rfl (r_pickT (v := (.bool true)) rfl rfl) ?_
 refine qe (s_then ?_)
 refine c_ifT rfl rfl ?_
 refine s_seq (c_reg ?_)
 refine qd rfl rfl rfl (r_assign (v := (.bool false)) rfl) ?_
 refine qd rfl rfl rfl (r_assign (v := (.bool false)) rfl) ?_
 refine qe (s_then ?_)
 refine wp_ret ?_
 refine s_ret ?_
 refine c_ret2 (v := (.bool false)) (u := (.bool false)) rfl rfl rfl rfl rfl ?_
 obtain ⟨e1, e2⟩ := alB_bad (Or.inl h31)
 rw [e1, e2]
 exact ⟨_, rfl, hX30⟩

end PF1
end Go.Proofs.YtkfgdhanaijddaaDoor

set_option maxRecDepth 20000
set_option maxHeartbeats 2000000
namespace Go.Proofs.YtkfgdhanaijddaaDoor
namespace OR1
open Go.RowKit Go.GL Go.Proofs
open Go.Proofs.YtkfgdhanaijddaaDoor.B1
open Go.Proofs.YtkfgdhanaijddaaDoor.C1
open Go.Proofs.YtkfgdhanaijddaaDoor.D1
open Go.Proofs.YtkfgdhanaijddaaDoor.E1











def GeqC (m : Nat) (o b : Nat) (bu bv kv : Value) (ns : List Nd) (bs : List Int) : Prop := ∀ {w : World} {G : Pin} {ks : List Int} {x y : Int} (_ : Pins G w) (_ : Od 60 3 G w o b bu bv kv ns bs ks) (_ : 0 ≤ x ∧ x < ns.length) (_ : 0 ≤ y ∧ y < ns.length) (_ : ks.length = ns.length * ns.length), x.toNat + y.toNat < m → KOk ns ks (x.toNat + y.toNat + 1) →
  Calls Tryd.prog 55 [(.pointer (some ⟨o, 0, none⟩)), (.int .i64 x), (.int .i64 y)].toArray w fun e w' => ∃ (ks' : List Int) (G' : Pin), e = .returned (.bool (geB ns x y)) ∧ Od 60 3 G' w' o b bu bv kv ns bs ks' ∧ KRes ns ks ks' (x.toNat + y.toNat + 1) ∧ Ext (inO kv.ownBlock) G w G' w'

theorem look_spec {w : World} {G : Pin} {m : Nat} {o b : Nat} {bu bv kv : Value} {ns : List Nd} {bs : List Int} {ks : List Int} {x y : Int} (hP : Pins G w) (hO : Od 60 3 G w o b bu bv kv ns bs ks) (hx : 0 ≤ x ∧ x < ns.length) (hy : 0 ≤ y ∧ y < ns.length) (hkl : ks.length = ns.length * ns.length) (hok : BookOk ns bs) (ih : GeqC m o b bu bv kv ns bs) (hm : x.toNat + y.toNat ≤ m) (hkok : KOk ns ks (x.toNat + y.toNat)) :
  Calls Tryd.prog 75 [(.pointer (some ⟨o, 0, none⟩)), (.int .i64 x), (.int .i64 y)].toArray w fun e w' => ∃ (ks' : List Int) (G' : Pin), e = .returned (.bool (geB ns x y)) ∧ Od 60 3 G' w' o b bu bv kv ns bs ks' ∧ KRes ns ks ks' (x.toNat + y.toNat) ∧ Ext (inO kv.ownBlock) G w G' w' := by
 refine s_enter (n := 75) Tryd.func75 Tryd.ntmps75 rfl rfl ?_
 have hX0 : Ext (inO kv.ownBlock) G w G w := Ext.refl hP
 have hB := hO.bk
 have hbx := hB.bx
 have hou := hB.ou
 have hov := hB.ov
 have habu := hB.abu
 have habv := hB.abv
 have hauv := hB.auv
 have hlen := hok.len
 have hlim := hok.lim
 have hox := hO.ox
 have hok2 := hO.ok
 have haok := hO.aok
 have habk := hO.abk
 have hauk := hO.auk
 have havk := hO.avk
 have hlok : Lo w (inO kv.ownBlock) kv.ownBlock := lo_self
 have hoo : OptsOk ns := hok.optsOk
 have hlens := hok.lens
 refine s_seq (c_reg ?_)
 refine qd rfl rfl rfl (r_assign (v := (.bool false)) rfl) ?_
 refine qe (s_then (s_seq (s_seq (c_reg ?_))))
 refine qd rfl rfl rfl (r_assign (v := (.int .i64 0)) rfl) ?_
 refine qe (s_then ?_)
 refine s_blk ?_
 refine s_loop (fun (k : Nat) (en : Nat → Value) (W : World) => ∃ (env1 : Nat → Value) (i : Nat) (kqr : List Int) (GLr : Pin), en = (upd (upd (upd (upd env1 0 (.pointer (some ⟨o, 0, none⟩))) 1 (.int .i64 x)) 2 (.int .i64 y)) 7 (.int .i64 (i : Int))) ∧ k = (ns.getD (x).toNat default).r.length - i ∧ Ext (inO kv.ownBlock) G w GLr W ∧ Pin.le G GLr ∧ (i ≤ (ns.getD (x).toNat default).r.length) ∧ (KRes ns ks kqr (x.toNat + y.toNat)) ∧ (∀ q, q < i → geB ns y ((ns.getD (x).toNat default).r.getD q 0) = false) ∧ (Own eInt 3 GLr W 0 kv (kqr)) ∧ (Own eNode 60 GLr W 0 bu (ns)) ∧ (Own eInt 3 GLr W 0 bv (bs)) ∧ (Bx GLr W b [bu, bv]) ∧ (Bx GLr W o [(.pointer (some ⟨b, 0, none⟩)), kv])) _ ⟨_, 0, ks, G, (packS (x := 7) (packS (x := 2) (packS (x := 1) (pack1 (x := 0) rfl) rfl) rfl) rfl), rfl, hX0, Pin.le_refl _, Nat.zero_le _, (KRes.refl hkok), (fun q hq => absurd hq (Nat.not_lt_zero q)), hok2, hou, hov, hbx, hox⟩ ?_
 rintro k1 _ w2 ⟨env1, i, kqr, GLr, rfl, hk3, hX4, hlek1, hji, hkrr, hpr, hw5, hw6, hw7, hw8, hw9⟩
 have hklr := hkrr.len
 refine s_seq (s_seq (c_reg ?_))
 refine qd rfl rfl rfl (r_move (v := (.int .i64 (i : Int))) rfl) ?_
 refine qd rfl rfl rfl (r_move (v := (.pointer (some ⟨o, 0, none⟩))) rfl) ?_
 refine qd rfl rfl rfl (r_nil rfl) ?_
 refine qd rfl rfl rfl (r_fldp (k := 0) rfl Tryd.underlying99 rfl nz81 rfl) ?_
 refine qd rfl rfl rfl (r_ldp1 (u := (.pointer (some ⟨b, 0, none⟩))) ag81 rfl (hw9.cell (o := 0) rfl)) ?_
 refine qd rfl rfl rfl (r_nil rfl) ?_
 refine qd rfl rfl rfl (r_fldp (k := 0) rfl Tryd.underlying83 rfl nz24 rfl) ?_
 refine qd rfl rfl rfl (r_ldp1 (u := bu) ag24 rfl (hw8.cell (o := 0) rfl)) ?_
 refine qd rfl rfl rfl (r_move (v := (.int .i64 x)) rfl) ?_
 refine qd rfl rfl rfl (run_idx Tryd.underlying24 sz60 (v := bu) rfl rfl hw6.read (by omega) (by omega)) ?_
 refine qd rfl rfl rfl (run_fld (off := 1) Tryd.underlying60 rfl rfl nz40 (z := x) (k := 0) rfl hw6.read (by omega) (by omega)) ?_
 obtain ⟨u10, hr11, hl12⟩ := nm_nr (hw6.at (z := x) (by omega) (by omega)) (j := (x).toNat) rfl
 have hm13 := hr11.max
 refine qd rfl rfl rfl (hl12 ag40 rfl (Gadd.pins hX4.pins bu)) ?_
 refine qd rfl rfl rfl (run_len Tryd.underlying40 (v := u10) rfl hr11) ?_
 refine qd rfl rfl rfl (r_lss rfl rfl) ?_
 refine qe (s_then ?_)
 refine c_ifd (p := ((i : Int) : Int) < (((ns.getD (x).toNat default).r).length : Int)) rfl rfl (fun h14 => ?_) (fun h14 => ?_)
 ·skip
  have hki := hoo.right (j := (x).toNat) (i := i) (by omega) (by omega)
  refine wp_skip ?_
  refine s_then (s_seq ?_)
  refine s_blk ?_
  refine s_seq (c_reg ?_)
  refine qd rfl rfl rfl (r_move (v := (.pointer (some ⟨o, 0, none⟩))) rfl) ?_
  refine qd rfl rfl rfl (r_move (v := (.int .i64 y)) rfl) ?_
  refine qd rfl rfl rfl (r_move (v := (.pointer (some ⟨o, 0, none⟩))) rfl) ?_
  refine qd rfl rfl rfl (r_nil rfl) ?_
  refine qd rfl rfl rfl (r_fldp (k := 0) rfl Tryd.underlying99 rfl nz81 rfl) ?_
  refine qd rfl rfl rfl (r_ldp1 (u := (.pointer (some ⟨b, 0, none⟩))) ag81 rfl (hw9.cell (o := 0) rfl)) ?_
  refine qd rfl rfl rfl (r_nil rfl) ?_
  refine qd rfl rfl rfl (r_fldp (k := 0) rfl Tryd.underlying83 rfl nz24 rfl) ?_
  refine qd rfl rfl rfl (r_ldp1 (u := bu) ag24 rfl (hw8.cell (o := 0) rfl)) ?_
  refine qd rfl rfl rfl (r_move (v := (.int .i64 x)) rfl) ?_
  refine qd rfl rfl rfl (run_idx Tryd.underlying24 sz60 (v := bu) rfl rfl hw6.read (by omega) (by omega)) ?_
  refine qd rfl rfl rfl (run_fld (off := 1) Tryd.underlying60 rfl rfl nz40 (z := x) (k := 0) rfl hw6.read (by omega) (by omega)) ?_
  obtain ⟨u15, hr16, hl17⟩ := nm_nr (hw6.at (z := x) (by omega) (by omega)) (j := (x).toNat) rfl
  have hm18 := hr16.max
  refine qd rfl rfl rfl (hl17 ag40 rfl (Gadd.pins hX4.pins bu)) ?_
  refine qd rfl rfl rfl (r_move (v := (.int .i64 (i : Int))) rfl) ?_
  refine qd rfl rfl rfl (run_idx Tryd.underlying40 sz3 (v := u15) rfl rfl hr16 (by omega) (by omega)) ?_
  refine qd rfl rfl rfl (run_load_int (r := ((ns.getD (x).toNat default).r).getD i 0) rfl ag3 (z := (i : Int)) rfl hr16 hX4.pins (by omega) (by omega)) ?_
  refine q1 rfl rfl rfl (o_call (vs := [(.pointer (some ⟨o, 0, none⟩)), (.int .i64 y), (.int .i64 (((ns.getD (x).toNat default).r).getD i 0))]) Tryd.func55 nm55 rfl rfl rfl ?_)
  refine Calls.mono (ih hX4.pins ⟨⟨hw8, hw6, hw7, habu, habv, hauv⟩, hw9, hw5, haok, habk, hauk, havk⟩ (by omega) (by omega) (by omega) (by omega) (hkrr.ok.mono (by omega))) ?_
  rintro _ w21 ⟨ks19, G20, rfl, hd22, hr23, hx24⟩
  refine ⟨_, rfl, ?_⟩
  have hX25 := hX4.trans hx24 (fun i hi => hlok i hi)
  have ho26 := hw6.extS hx24 (notO hauk)
  have ho27 := hw7.extS hx24 (notO havk)
  have hb28 := hw8.extS hx24 (notOb habk)
  have hb29 := hw9.extS hx24 (notOb haok)
  have hkl31 := hr23.len
  refine qe (s_then ?_)
  refine c_if rfl rfl (fun h32 => ?_) (fun h32 => ?_)
  ·skip
   refine s_seq (c_reg ?_)
   refine qd rfl rfl rfl (r_assign (v := (.bool false)) rfl) ?_
   refine qe (s_then ?_)
   refine wp_ret ?_
   refine s_ret ?_
   refine c_ret1 (v := (.bool false)) rfl rfl rfl ?_
   exact ⟨_, _, congrArg (fun z => Ending.returned (Value.bool z)) (geB_no_right hoo hx (by omega) h32).symm, ⟨⟨hb28, ho26, ho27, habu, habv, hauv⟩, hb29, hd22.ok, haok, habk, hauk, havk⟩, (hkrr.wide hr23 (by omega)), hX25⟩
  refine wp_skip ?_
  refine s_blkN ?_
  refine s_then (c_reg ?_)
  refine qd rfl rfl rfl (r_move (v := (.int .i64 (i : Int))) rfl) ?_
  refine qd rfl rfl rfl (r_add rfl rfl (by omega)) ?_
  refine qd rfl rfl rfl (r_assign (v := (.int .i64 ((i : Int) + 1))) rfl) ?_
  refine qe ?_
  refine s_lopN ?_
  refine ⟨_, ?_, _, rfl, _, i + 1, ks19, G20, (packS (x := 7) (packS (x := 2) (packS (x := 1) (pack1 (x := 0) rfl) rfl) rfl) rfl), rfl, hX25, (Pin.le_trans hlek1 hx24.le), (by omega), (hkrr.wide hr23 (by omega)), (fun q hq => if h3 : q = i then h3 ▸ h32 else hpr q (by omega)), hd22.ok, ho26, ho27, hb28, hb29⟩
  omega
 refine wp_exit ?_
 refine s_thenE ?_
 refine s_lopE ?_
 refine s_blkE ?_
 refine s_then (s_seq (s_seq (c_reg ?_)))
 refine qd rfl rfl rfl (r_assign (v := (.int .i64 0)) rfl) ?_
 refine qe (s_then ?_)
 refine s_blk ?_
 refine s_loop (fun (k : Nat) (en : Nat → Value) (W : World) => ∃ (env1 : Nat → Value) (i2 : Nat) (kql : List Int) (GLl : Pin), en = (upd (upd (upd (upd env1 0 (.pointer (some ⟨o, 0, none⟩))) 1 (.int .i64 x)) 2 (.int .i64 y)) 8 (.int .i64 (i2 : Int))) ∧ k = (ns.getD (y).toNat default).l.length - i2 ∧ Ext (inO kv.ownBlock) G w GLl W ∧ Pin.le GLr GLl ∧ (i2 ≤ (ns.getD (y).toNat default).l.length) ∧ (KRes ns ks kql (x.toNat + y.toNat)) ∧ (∀ q, q < i2 → geB ns ((ns.getD (y).toNat default).l.getD q 0) x = false) ∧ (Own eInt 3 GLl W 0 kv (kql)) ∧ (Own eNode 60 GLl W 0 bu (ns)) ∧ (Own eInt 3 GLl W 0 bv (bs)) ∧ (Bx GLl W b [bu, bv]) ∧ (Bx GLl W o [(.pointer (some ⟨b, 0, none⟩)), kv])) _ ⟨_, 0, kqr, GLr, (packS (x := 8) (packS (x := 2) (packS (x := 1) (pack1 (x := 0) rfl) rfl) rfl) rfl), rfl, hX4, Pin.le_refl _, Nat.zero_le _, hkrr, (fun q hq => absurd hq (Nat.not_lt_zero q)), hw5, hw6, hw7, hw8, hw9⟩ ?_
 rintro k33 _ w34 ⟨env1, i2, kql, GLl, rfl, hk35, hX36, hlek33, hji2, hkrl, hpl, hw37, hw38, hw39, hw40, hw41⟩
 have hkll := hkrl.len
 refine s_seq (s_seq (c_reg ?_))
 refine qd rfl rfl rfl (r_move (v := (.int .i64 (i2 : Int))) rfl) ?_
 refine qd rfl rfl rfl (r_move (v := (.pointer (some ⟨o, 0, none⟩))) rfl) ?_
 refine qd rfl rfl rfl (r_nil rfl) ?_
 refine qd rfl rfl rfl (r_fldp (k := 0) rfl Tryd.underlying99 rfl nz81 rfl) ?_
 refine qd rfl rfl rfl (r_ldp1 (u := (.pointer (some ⟨b, 0, none⟩))) ag81 rfl (hw41.cell (o := 0) rfl)) ?_
 refine qd rfl rfl rfl (r_nil rfl) ?_
 refine qd rfl rfl rfl (r_fldp (k := 0) rfl Tryd.underlying83 rfl nz24 rfl) ?_
 refine qd rfl rfl rfl (r_ldp1 (u := bu) ag24 rfl (hw40.cell (o := 0) rfl)) ?_
 refine qd rfl rfl rfl (r_move (v := (.int .i64 y)) rfl) ?_
 refine qd rfl rfl rfl (run_idx Tryd.underlying24 sz60 (v := bu) rfl rfl hw38.read (by omega) (by omega)) ?_
 refine qd rfl rfl rfl (run_fld (off := 0) Tryd.underlying60 rfl rfl nz40 (z := y) (k := 0) rfl hw38.read (by omega) (by omega)) ?_
 obtain ⟨u42, hr43, hl44⟩ := nm_nl (hw38.at (z := y) (by omega) (by omega)) (j := (y).toNat) rfl
 have hm45 := hr43.max
 refine qd rfl rfl rfl (hl44 ag40 rfl (Gadd.pins hX36.pins bu)) ?_
 refine qd rfl rfl rfl (run_len Tryd.underlying40 (v := u42) rfl hr43) ?_
 refine qd rfl rfl rfl (r_lss rfl rfl) ?_
 refine qe (s_then ?_)
 refine c_ifd (p := ((i2 : Int) : Int) < (((ns.getD (y).toNat default).l).length : Int)) rfl rfl (fun h46 => ?_) (fun h46 => ?_)
 ·skip
  have hki := hoo.left (j := (y).toNat) (i := i2) (by omega) (by omega)
  refine wp_skip ?_
  refine s_then (s_seq ?_)
  refine s_blk ?_
  refine s_seq (c_reg ?_)
  refine qd rfl rfl rfl (r_move (v := (.pointer (some ⟨o, 0, none⟩))) rfl) ?_
  refine qd rfl rfl rfl (r_move (v := (.pointer (some ⟨o, 0, none⟩))) rfl) ?_
  refine qd rfl rfl rfl (r_nil rfl) ?_
  refine qd rfl rfl rfl (r_fldp (k := 0) rfl Tryd.underlying99 rfl nz81 rfl) ?_
  refine qd rfl rfl rfl (r_ldp1 (u := (.pointer (some ⟨b, 0, none⟩))) ag81 rfl (hw41.cell (o := 0) rfl)) ?_
  refine qd rfl rfl rfl (r_nil rfl) ?_
  refine qd rfl rfl rfl (r_fldp (k := 0) rfl Tryd.underlying83 rfl nz24 rfl) ?_
  refine qd rfl rfl rfl (r_ldp1 (u := bu) ag24 rfl (hw40.cell (o := 0) rfl)) ?_
  refine qd rfl rfl rfl (r_move (v := (.int .i64 y)) rfl) ?_
  refine qd rfl rfl rfl (run_idx Tryd.underlying24 sz60 (v := bu) rfl rfl hw38.read (by omega) (by omega)) ?_
  refine qd rfl rfl rfl (run_fld (off := 0) Tryd.underlying60 rfl rfl nz40 (z := y) (k := 0) rfl hw38.read (by omega) (by omega)) ?_
  obtain ⟨u47, hr48, hl49⟩ := nm_nl (hw38.at (z := y) (by omega) (by omega)) (j := (y).toNat) rfl
  have hm50 := hr48.max
  refine qd rfl rfl rfl (hl49 ag40 rfl (Gadd.pins hX36.pins bu)) ?_
  refine qd rfl rfl rfl (r_move (v := (.int .i64 (i2 : Int))) rfl) ?_
  refine qd rfl rfl rfl (run_idx Tryd.underlying40 sz3 (v := u47) rfl rfl hr48 (by omega) (by omega)) ?_
  refine qd rfl rfl rfl (run_load_int (r := ((ns.getD (y).toNat default).l).getD i2 0) rfl ag3 (z := (i2 : Int)) rfl hr48 hX36.pins (by omega) (by omega)) ?_
  refine qd rfl rfl rfl (r_move (v := (.int .i64 x)) rfl) ?_
  refine q1 rfl rfl rfl (o_call (vs := [(.pointer (some ⟨o, 0, none⟩)), (.int .i64 (((ns.getD (y).toNat default).l).getD i2 0)), (.int .i64 x)]) Tryd.func55 nm55 rfl rfl rfl ?_)
  refine Calls.mono (ih hX36.pins ⟨⟨hw40, hw38, hw39, habu, habv, hauv⟩, hw41, hw37, haok, habk, hauk, havk⟩ (by omega) (by omega) (by omega) (by omega) (hkrl.ok.mono (by omega))) ?_
  rintro _ w53 ⟨ks51, G52, rfl, hd54, hr55, hx56⟩
  refine ⟨_, rfl, ?_⟩
  have hX57 := hX36.trans hx56 (fun i hi => hlok i hi)
  have ho58 := hw38.extS hx56 (notO hauk)
  have ho59 := hw39.extS hx56 (notO havk)
  have hb60 := hw40.extS hx56 (notOb habk)
  have hb61 := hw41.extS hx56 (notOb haok)
  have hkl63 := hr55.len
  refine qe (s_then ?_)
  refine c_if rfl rfl (fun h64 => ?_) (fun h64 => ?_)
  ·skip
   refine s_seq (c_reg ?_)
   refine qd rfl rfl rfl (r_assign (v := (.bool false)) rfl) ?_
   refine qe (s_then ?_)
   refine wp_ret ?_
   refine s_ret ?_
   refine c_ret1 (v := (.bool false)) rfl rfl rfl ?_
   exact ⟨_, _, congrArg (fun z => Ending.returned (Value.bool z)) (geB_no_left hoo hy (by omega) h64).symm, ⟨⟨hb60, ho58, ho59, habu, habv, hauv⟩, hb61, hd54.ok, haok, habk, hauk, havk⟩, (hkrl.wide hr55 (by omega)), hX57⟩
  refine wp_skip ?_
  refine s_blkN ?_
  refine s_then (c_reg ?_)
  refine qd rfl rfl rfl (r_move (v := (.int .i64 (i2 : Int))) rfl) ?_
  refine qd rfl rfl rfl (r_add rfl rfl (by omega)) ?_
  refine qd rfl rfl rfl (r_assign (v := (.int .i64 ((i2 : Int) + 1))) rfl) ?_
  refine qe ?_
  refine s_lopN ?_
  refine ⟨_, ?_, _, rfl, _, i2 + 1, ks51, G52, (packS (x := 8) (packS (x := 2) (packS (x := 1) (pack1 (x := 0) rfl) rfl) rfl) rfl), rfl, hX57, (Pin.le_trans hlek33 hx56.le), (by omega), (hkrl.wide hr55 (by omega)), (fun q hq => if h3 : q = i2 then h3 ▸ h64 else hpl q (by omega)), hd54.ok, ho58, ho59, hb60, hb61⟩
  omega
 refine wp_exit ?_
 refine s_thenE ?_
 refine s_lopE ?_
 refine s_blkE ?_
 refine s_then (s_seq (c_reg ?_))
 refine qd rfl rfl rfl (r_assign (v := (.bool true)) rfl) ?_
 refine qe (s_then ?_)
 refine wp_ret ?_
 refine s_ret ?_
 refine c_ret1 (v := (.bool true)) rfl rfl rfl ?_
 exact ⟨_, _, congrArg (fun z => Ending.returned (Value.bool z)) (geB_yes hoo hx hy (fun q hq => hpr q (by omega)) (fun q hq => hpl q (by omega))).symm, ⟨⟨hw40, hw38, hw39, habu, habv, hauv⟩, hw41, hw37, haok, habk, hauk, havk⟩, hkrl, hX36⟩

theorem geq_step {w : World} {G : Pin} {m : Nat} {o b : Nat} {bu bv kv : Value} {ns : List Nd} {bs : List Int} {ks : List Int} {x y : Int} (hP : Pins G w) (hO : Od 60 3 G w o b bu bv kv ns bs ks) (hx : 0 ≤ x ∧ x < ns.length) (hy : 0 ≤ y ∧ y < ns.length) (hkl : ks.length = ns.length * ns.length) (hok : BookOk ns bs) (ih : GeqC m o b bu bv kv ns bs) (hm : x.toNat + y.toNat < m + 1) (hkok : KOk ns ks (x.toNat + y.toNat + 1)) :
  Calls Tryd.prog 55 [(.pointer (some ⟨o, 0, none⟩)), (.int .i64 x), (.int .i64 y)].toArray w fun e w' => ∃ (ks' : List Int) (G' : Pin), e = .returned (.bool (geB ns x y)) ∧ Od 60 3 G' w' o b bu bv kv ns bs ks' ∧ KRes ns ks ks' (x.toNat + y.toNat + 1) ∧ Ext (inO kv.ownBlock) G w G' w' := by
 refine s_enter (n := 52) Tryd.func55 Tryd.ntmps55 rfl rfl ?_
 have hX0 : Ext (inO kv.ownBlock) G w G w := Ext.refl hP
 have hB := hO.bk
 have hbx := hB.bx
 have hou := hB.ou
 have hov := hB.ov
 have habu := hB.abu
 have habv := hB.abv
 have hauv := hB.auv
 have hlen := hok.len
 have hlim := hok.lim
 have hox := hO.ox
 have hok2 := hO.ok
 have haok := hO.aok
 have habk := hO.abk
 have hauk := hO.auk
 have havk := hO.avk
 have hlok : Lo w (inO kv.ownBlock) kv.ownBlock := lo_self
 have hoo : OptsOk ns := hok.optsOk
 have hlens := hok.lens
 have hib := idx_bd hx hy hok.lim
 refine s_seq (c_reg ?_)
 refine qd rfl rfl rfl (r_assign (v := (.bool false)) rfl) ?_
 refine qe (s_then (s_seq (c_reg ?_)))
 refine qd rfl rfl rfl (r_move (v := (.int .i64 x)) rfl) ?_
 refine qd rfl rfl rfl (r_move (v := (.pointer (some ⟨o, 0, none⟩))) rfl) ?_
 refine qd rfl rfl rfl (r_nil rfl) ?_
 refine qd rfl rfl rfl (r_fldp (k := 0) rfl Tryd.underlying99 rfl nz81 rfl) ?_
 refine qd rfl rfl rfl (r_ldp1 (u := (.pointer (some ⟨b, 0, none⟩))) ag81 rfl (hox.cell (o := 0) rfl)) ?_
 refine qd rfl rfl rfl (r_nil rfl) ?_
 refine qd rfl rfl rfl (r_fldp (k := 0) rfl Tryd.underlying83 rfl nz24 rfl) ?_
 refine qd rfl rfl rfl (r_ldp1 (u := bu) ag24 rfl (hbx.cell (o := 0) rfl)) ?_
 refine qd rfl rfl rfl (run_len Tryd.underlying24 (v := bu) rfl hou.read) ?_
 refine qd rfl rfl rfl (r_mul rfl rfl (by omega)) ?_
 refine qd rfl rfl rfl (r_move (v := (.int .i64 y)) rfl) ?_
 refine qd rfl rfl rfl (r_add rfl rfl (by omega)) ?_
 refine qd rfl rfl rfl (r_assign (v := (.int .i64 ((x * (ns.length : Int)) + y))) rfl) ?_
 refine qe (s_then (s_seq (s_seq (c_reg ?_))))
 refine qd rfl rfl rfl (r_move (v := (.pointer (some ⟨o, 0, none⟩))) rfl) ?_
 refine qd rfl rfl rfl (r_nil rfl) ?_
 refine qd rfl rfl rfl (r_fldp (k := 1) rfl Tryd.underlying99 rfl nz40 rfl) ?_
 refine qd rfl rfl rfl (r_ldp1 (u := kv) ag40 rfl (hox.cell (o := 1) rfl)) ?_
 refine qd rfl rfl rfl (r_move (v := (.int .i64 ((x * (ns.length : Int)) + y))) rfl) ?_
 refine qd rfl rfl rfl (run_idx Tryd.underlying40 sz3 (v := kv) rfl rfl hok2.read (by omega) (by omega)) ?_
 refine qd rfl rfl rfl (run_load_int (r := ks.getD ((x * (ns.length : Int)) + y).toNat 0) rfl ag3 (z := ((x * (ns.length : Int)) + y)) rfl hok2.read (Gadd.pins hX0.pins kv) (by omega) (by omega)) ?_
 refine qd rfl rfl rfl (r_eql rfl rfl) ?_
 refine qe (s_then ?_)
 refine c_ifd (p := (ks.getD ((x * (ns.length : Int)) + y).toNat 0 : Int) = 0) rfl rfl (fun h1 => ?_) (fun h1 => ?_)
 ·skip
  refine s_seq (c_reg ?_)
  refine qd rfl rfl rfl (r_move (v := (.pointer (some ⟨o, 0, none⟩))) rfl) ?_
  refine qd rfl rfl rfl (r_nil rfl) ?_
  refine qd rfl rfl rfl (r_fldp (k := 1) rfl Tryd.underlying99 rfl nz40 rfl) ?_
  refine qd rfl rfl rfl (r_ldp1 (u := kv) ag40 rfl (hox.cell (o := 1) rfl)) ?_
  refine qd rfl rfl rfl (r_move (v := (.int .i64 ((x * (ns.length : Int)) + y))) rfl) ?_
  refine qd rfl rfl rfl (run_idx Tryd.underlying40 sz3 (v := kv) rfl rfl hok2.read (by omega) (by omega)) ?_
  refine q0 rfl rfl rfl (o_set (E := eInt) (v := kv) (u := (.int .i64 2)) (z := ((x * (ns.length : Int)) + y)) (2) sz3 rfl rfl rfl rfl hX0.pins hok2 (by omega) (by omega) (fun w2 ho3 hp4 hg5 hz6 => ?_))
  have hX7 := hX0.write hp4 hg5 (hlok)
  have ho8 := hou.keptA hg5 hauk
  have ho9 := hov.keptA hg5 havk
  have hb10 := hbx.keptA hg5 habk
  have hb11 := hox.keptA hg5 haok
  have ho12 : Own eInt 3 G w2 0 kv ((ks).set ((x * (ns.length : Int)) + y).toNat 2) := ho3
  have hm13 : ((ks).set ((x * (ns.length : Int)) + y).toNat 2).length = ks.length := List.length_set ..
  refine qe (s_then (s_seq (c_reg ?_)))
  refine qd rfl rfl rfl (r_move (v := (.pointer (some ⟨o, 0, none⟩))) rfl) ?_
  refine qd rfl rfl rfl (r_move (v := (.int .i64 x)) rfl) ?_
  refine qd rfl rfl rfl (r_move (v := (.int .i64 y)) rfl) ?_
  refine q1 rfl rfl rfl (o_call (vs := [(.pointer (some ⟨o, 0, none⟩)), (.int .i64 x), (.int .i64 y)]) Tryd.func75 nm75 rfl rfl rfl ?_)
  refine Calls.mono (look_spec hX7.pins ⟨⟨hb10, ho8, ho9, habu, habv, hauv⟩, hb11, ho12, haok, habk, hauk, havk⟩ hx hy (by rw [List.length_set]; exact hkl) hok ih (by omega) (KRes.prov hx hy hkok).1) ?_
  rintro _ w16 ⟨ks14, G15, rfl, hd17, hr18, hx19⟩
  refine ⟨_, rfl, ?_⟩
  have hX20 := hX7.trans hx19 (fun i hi => hlok i hi)
  have ho21 := ho8.extS hx19 (notO hauk)
  have ho22 := ho9.extS hx19 (notO havk)
  have hb23 := hb10.extS hx19 (notOb habk)
  have hb24 := hb11.extS hx19 (notOb haok)
  have hkl26 := hr18.len
  refine qe (s_then ?_)
  refine c_if rfl rfl (fun h27 => ?_) (fun h27 => ?_)
  ·skip
   refine c_reg ?_
   refine qd rfl rfl rfl (r_move (v := (.pointer (some ⟨o, 0, none⟩))) rfl) ?_
   refine qd rfl rfl rfl (r_nil rfl) ?_
   refine qd rfl rfl rfl (r_fldp (k := 1) rfl Tryd.underlying99 rfl nz40 rfl) ?_
   refine qd rfl rfl rfl (r_ldp1 (u := kv) ag40 rfl (hb24.cell (o := 1) rfl)) ?_
   refine qd rfl rfl rfl (r_move (v := (.int .i64 ((x * (ns.length : Int)) + y))) rfl) ?_
   refine qd rfl rfl rfl (run_idx Tryd.underlying40 sz3 (v := kv) rfl rfl hd17.ok.read (by omega) (by omega)) ?_
   refine q0 rfl rfl rfl (o_set (E := eInt) (v := kv) (u := (.int .i64 1)) (z := ((x * (ns.length : Int)) + y)) (1) sz3 rfl rfl rfl rfl hX20.pins hd17.ok (by omega) (by omega) (fun w28 ho29 hp30 hg31 hz32 => ?_))
   have hX33 := hX20.write hp30 hg31 (hlok)
   have ho34 := ho21.keptA hg31 hauk
   have ho35 := ho22.keptA hg31 havk
   have hb36 := hb23.keptA hg31 habk
   have hb37 := hb24.keptA hg31 haok
   have ho38 : Own eInt 3 G15 w28 0 kv ((ks14).set ((x * (ns.length : Int)) + y).toNat 1) := ho29
   have hm39 : ((ks14).set ((x * (ns.length : Int)) + y).toNat 1).length = ks14.length := List.length_set ..
   refine qe (s_then (s_seq (c_reg ?_)))
   refine qd rfl rfl rfl (r_move (v := (.pointer (some ⟨o, 0, none⟩))) rfl) ?_
   refine qd rfl rfl rfl (r_nil rfl) ?_
   refine qd rfl rfl rfl (r_fldp (k := 1) rfl Tryd.underlying99 rfl nz40 rfl) ?_
   refine qd rfl rfl rfl (r_ldp1 (u := kv) ag40 rfl (hb37.cell (o := 1) rfl)) ?_
   refine qd rfl rfl rfl (r_move (v := (.int .i64 ((x * (ns.length : Int)) + y))) rfl) ?_
   refine qd rfl rfl rfl (run_idx Tryd.underlying40 sz3 (v := kv) rfl rfl ho38.read (by omega) (by omega)) ?_
   refine qd rfl rfl rfl (run_load_int (r := ((ks14).set ((x * (ns.length : Int)) + y).toNat 1).getD ((x * (ns.length : Int)) + y).toNat 0) rfl ag3 (z := ((x * (ns.length : Int)) + y)) rfl ho38.read (Gadd.pins hX33.pins kv) (by omega) (by omega)) ?_
   refine qd rfl rfl rfl (r_eql rfl rfl) ?_
   refine qd rfl rfl rfl (r_assign (v := (.bool (decide ((((ks14).set ((x * (ns.length : Int)) + y).toNat 1).getD ((x * (ns.length : Int)) + y).toNat 0 : Int) = 1)))) rfl) ?_
   refine qe (s_then ?_)
   refine wp_ret ?_
   refine s_ret ?_
   refine c_ret1 (v := (.bool (decide ((((ks14).set ((x * (ns.length : Int)) + y).toNat 1).getD ((x * (ns.length : Int)) + y).toNat 0 : Int) = 1)))) rfl rfl rfl ?_
   have htold := KRes.told hx hy hkl hkok hr18 (if_pos h27).symm
   exact ⟨_, _, congrArg (fun z => Ending.returned (Value.bool z)) htold.2, ⟨⟨hb36, ho34, ho35, habu, habv, hauv⟩, hb37, ho38, haok, habk, hauk, havk⟩, htold.1, hX33⟩
  refine wp_skip ?_
  refine s_then (s_seq (c_reg ?_))
  refine qd rfl rfl rfl (r_move (v := (.pointer (some ⟨o, 0, none⟩))) rfl) ?_
  refine qd rfl rfl rfl (r_nil rfl) ?_
  refine qd rfl rfl rfl (r_fldp (k := 1) rfl Tryd.underlying99 rfl nz40 rfl) ?_
  refine qd rfl rfl rfl (r_ldp1 (u := kv) ag40 rfl (hb24.cell (o := 1) rfl)) ?_
  refine qd rfl rfl rfl (r_move (v := (.int .i64 ((x * (ns.length : Int)) + y))) rfl) ?_
  refine qd rfl rfl rfl (run_idx Tryd.underlying40 sz3 (v := kv) rfl rfl hd17.ok.read (by omega) (by omega)) ?_
  refine qd rfl rfl rfl (run_load_int (r := ks14.getD ((x * (ns.length : Int)) + y).toNat 0) rfl ag3 (z := ((x * (ns.length : Int)) + y)) rfl hd17.ok.read (Gadd.pins hX20.pins kv) (by omega) (by omega)) ?_
  refine qd rfl rfl rfl (r_eql rfl rfl) ?_
  refine qd rfl rfl rfl (r_assign (v := (.bool (decide ((ks14.getD ((x * (ns.length : Int)) + y).toNat 0 : Int) = 1)))) rfl) ?_
  refine qe (s_then ?_)
  refine wp_ret ?_
  refine s_ret ?_
  refine c_ret1 (v := (.bool (decide ((ks14.getD ((x * (ns.length : Int)) + y).toNat 0 : Int) = 1)))) rfl rfl rfl ?_
  have htold := KRes.told hx hy hkl hkok hr18 (if_neg (by rw [h27]; decide)).symm
  exact ⟨_, _, congrArg (fun z => Ending.returned (Value.bool z)) htold.2, ⟨⟨hb23, ho21, ho22, habu, habv, hauv⟩, hb24, hd17.ok, haok, habk, hauk, havk⟩, htold.1, hX20⟩
 refine wp_skip ?_
 refine s_then (s_seq (c_reg ?_))
 refine qd rfl rfl rfl (r_move (v := (.pointer (some ⟨o, 0, none⟩))) rfl) ?_
 refine qd rfl rfl rfl (r_nil rfl) ?_
 refine qd rfl rfl rfl (r_fldp (k := 1) rfl Tryd.underlying99 rfl nz40 rfl) ?_
 refine qd rfl rfl rfl (r_ldp1 (u := kv) ag40 rfl (hox.cell (o := 1) rfl)) ?_
 refine qd rfl rfl rfl (r_move (v := (.int .i64 ((x * (ns.length : Int)) + y))) rfl) ?_
 refine qd rfl rfl rfl (run_idx Tryd.underlying40 sz3 (v := kv) rfl rfl hok2.read (by omega) (by omega)) ?_
 refine qd rfl rfl rfl (run_load_int (r := ks.getD ((x * (ns.length : Int)) + y).toNat 0) rfl ag3 (z := ((x * (ns.length : Int)) + y)) rfl hok2.read (Gadd.pins hX0.pins kv) (by omega) (by omega)) ?_
 refine qd rfl rfl rfl (r_eql rfl rfl) ?_
 refine qd rfl rfl rfl (r_assign (v := (.bool (decide ((ks.getD ((x * (ns.length : Int)) + y).toNat 0 : Int) = 1)))) rfl) ?_
 refine qe (s_then ?_)
 refine wp_ret ?_
 refine s_ret ?_
 refine c_ret1 (v := (.bool (decide ((ks.getD ((x * (ns.length : Int)) + y).toNat 0 : Int) = 1)))) rfl rfl rfl ?_
 exact ⟨_, _, congrArg (fun z => Ending.returned (Value.bool z)) (KOk.known hx hy hkok h1), ⟨⟨hbx, hou, hov, habu, habv, hauv⟩, hox, hok2, haok, habk, hauk, havk⟩, KRes.refl hkok, hX0⟩

theorem geq_all {o b : Nat} {bu bv kv : Value} {ns : List Nd} {bs : List Int} (hok : BookOk ns bs) : ∀ m, GeqC m o b bu bv kv ns bs
 | 0 => fun _ _ _ _ _ h _ => absurd h (Nat.not_lt_zero _)
 | m + 1 => fun hP hO hx hy hkl hm hk => geq_step hP hO hx hy hkl hok (geq_all hok m) hm hk
theorem geq_spec {w : World} {G : Pin} {o b : Nat} {bu bv kv : Value} {ns : List Nd} {bs : List Int} {ks : List Int} {x y : Int} (hP : Pins G w) (hO : Od 60 3 G w o b bu bv kv ns bs ks) (hx : 0 ≤ x ∧ x < ns.length) (hy : 0 ≤ y ∧ y < ns.length) (hkl : ks.length = ns.length * ns.length) (hok : BookOk ns bs) (hkok : KOk ns ks (x.toNat + y.toNat + 1)) :
  Calls Tryd.prog 55 [(.pointer (some ⟨o, 0, none⟩)), (.int .i64 x), (.int .i64 y)].toArray w fun e w' => ∃ (ks' : List Int) (G' : Pin), e = .returned (.bool (geB ns x y)) ∧ Od 60 3 G' w' o b bu bv kv ns bs ks' ∧ KRes ns ks ks' (x.toNat + y.toNat + 1) ∧ Ext (inO kv.ownBlock) G w G' w' :=
 geq_all hok _ hP hO hx hy hkl (Nat.lt_succ_self _) hkok

end OR1
end Go.Proofs.YtkfgdhanaijddaaDoor

set_option maxRecDepth 20000
set_option maxHeartbeats 2000000
namespace Go.Proofs.YtkfgdhanaijddaaDoor
namespace SF1
open Go.RowKit Go.GL Go.Proofs
open Go.Proofs.YtkfgdhanaijddaaDoor.B1
open Go.Proofs.YtkfgdhanaijddaaDoor.C1
open Go.Proofs.YtkfgdhanaijddaaDoor.D1
open Go.Proofs.YtkfgdhanaijddaaDoor.E1
open Go.Proofs.YtkfgdhanaijddaaDoor.OR1


theorem mk3 : (Tryd.prog.info? 3).map (fun i => (i.size, i.bytes, i.zero)) = some (1, 8, some (.int .i64 0)) := by kernel_rfl




theorem pl83 : (Tryd.prog.underlying 83).bind (placesD Tryd.prog) = some [(0, 1), (1, 1)] := by kernel_rfl
theorem pl99 : (Tryd.prog.underlying 99).bind (placesD Tryd.prog) = some [(0, 1), (1, 1)] := by kernel_rfl



theorem l4Of_spec {w : World} {G : Pin} {b : Nat} {bu bv : Value} {ns : List Nd} {bs : List Int} (hP : Pins G w) (hB : Bk 60 3 G w b bu bv ns bs) (hok : BookOk ns bs) :
  Calls Tryd.prog 54 [(.pointer (some ⟨b, 0, none⟩))].toArray w fun e w' => ∃ (o : Nat) (kv : Value) (G' : Pin), e = .returned (.pointer (some ⟨o, 0, none⟩)) ∧ Bx G' w' o [.pointer (some ⟨b, 0, none⟩), kv] ∧ Own eInt 3 G' w' w.heap.size kv (List.replicate (ns.length * ns.length) 0) ∧ w.heap.size ≤ o ∧ Apart (some o) kv.ownBlock ∧ Ext noS G w G' w' := by
 refine s_enter (n := 18) Tryd.func54 Tryd.ntmps54 rfl rfl ?_
 have hX0 : Ext noS G w G w := Ext.refl hP
 have hbx := hB.bx
 have hou := hB.ou
 have hov := hB.ov
 have habu := hB.abu
 have habv := hB.abv
 have hauv := hB.auv
 have hlen := hok.len
 have hlim := hok.lim
 have hsq := sq_bd hok.lim
 refine s_seq (c_reg ?_)
 refine qd rfl rfl rfl (r_assign (v := (.pointer none)) rfl) ?_
 refine qe (s_then (s_seq ?_))
 have hq1 := Gadd.pins hX0.pins bu
 have hr2 := hou.read
 refine c_draw (S := fun wz => BxR wz b [bu, bv] ∧ Pins (Gadd G w bu) wz) (last := 16) (by kernel_rfl) rfl ?_
 have hl3 : Below w.heap.size w w.drew := (Below.refl _ _).drew
 have hp4 := hX0.pins.below hl3
 have hX5 := hX0.step hp4 hl3
 have hb8 := hbx.below hl3
 have hq9 := hq1.below hl3
 refine dr_take (i := 0) rfl rfl rfl (want_none rfl _) (by kernel_rfl) (fun _ _ => r_move (v := (.pointer (some ⟨b, 0, none⟩))) rfl) ⟨hb8.reads, hq9⟩ ?_
 refine dr_take (i := 1) rfl rfl rfl (want_none rfl _) (by kernel_rfl) (fun _ _ => r_move (v := (.pointer (some ⟨b, 0, none⟩))) rfl) ⟨hb8.reads, hq9⟩ ?_
 refine dr_take (i := 2) rfl rfl rfl (want_none rfl _) (by kernel_rfl) (fun _ _ => r_nil rfl) ⟨hb8.reads, hq9⟩ ?_
 refine dr_take (i := 3) rfl rfl rfl (want_none rfl _) (by kernel_rfl) (fun _ _ => r_fldp (k := 0) rfl Tryd.underlying83 rfl nz24 rfl) ⟨hb8.reads, hq9⟩ ?_
 refine dr_take (i := 4) rfl rfl rfl (want_none rfl _) (by kernel_rfl) (fun _ hS => r_ldp1 (u := bu) ag24 rfl (hS.1 0 _ rfl)) ⟨hb8.reads, hq9⟩ ?_
 refine dr_take (i := 5) rfl rfl rfl (want_none rfl _) (by kernel_rfl) (fun _ _ => run_len Tryd.underlying24 (v := bu) rfl hr2) ⟨hb8.reads, hq9⟩ ?_
 refine dr_take (i := 6) rfl rfl rfl (want_none rfl _) (by kernel_rfl) (fun _ _ => r_move (v := (.pointer (some ⟨b, 0, none⟩))) rfl) ⟨hb8.reads, hq9⟩ ?_
 refine dr_take (i := 7) rfl rfl rfl (want_none rfl _) (by kernel_rfl) (fun _ _ => r_nil rfl) ⟨hb8.reads, hq9⟩ ?_
 refine dr_take (i := 8) rfl rfl rfl (want_none rfl _) (by kernel_rfl) (fun _ _ => r_fldp (k := 0) rfl Tryd.underlying83 rfl nz24 rfl) ⟨hb8.reads, hq9⟩ ?_
 refine dr_take (i := 9) rfl rfl rfl (want_none rfl _) (by kernel_rfl) (fun _ hS => r_ldp1 (u := bu) ag24 rfl (hS.1 0 _ rfl)) ⟨hb8.reads, hq9⟩ ?_
 refine dr_take (i := 10) rfl rfl rfl (want_none rfl _) (by kernel_rfl) (fun _ _ => run_len Tryd.underlying24 (v := bu) rfl hr2) ⟨hb8.reads, hq9⟩ ?_
 refine dr_take (i := 11) rfl rfl rfl (want_none rfl _) (by kernel_rfl) (fun _ _ => r_mul rfl rfl (by omega)) ⟨hb8.reads, hq9⟩ ?_
 refine dr_one (i := 12) (by kernel_rfl) (drOp1 (i := 12) rfl rfl rfl (want_none rfl _) (o_make (E := eInt) 0 8 (.int .i64 0) Tryd.underlying40 mk3 (fun _ => rfl) rfl rfl hX5.pins (by omega) (by omega) (by omega) (fun u10 w11 ho12 hp13 hl14 hk15 => ?_)))
 have hX16 := hX5.step hp13 hl14
 have hb19 := hb8.below hl14
 have ho23 : Own eInt 3 G w11 w.heap.size u10 (List.replicate ((ns.length : Int) * (ns.length : Int)).toNat 0) := ho12.weaken hX5.size
 have hm24 : (List.replicate ((ns.length : Int) * (ns.length : Int)).toNat 0).length = ((ns.length : Int) * (ns.length : Int)).toNat := List.length_replicate ..
 have hq25 := hq9.below hl14
 refine ⟨fun _ => ⟨hb19.reads, hq25⟩, ?_⟩
 refine dr_take (i := 13) rfl rfl rfl (want_none rfl _) (by kernel_rfl) (fun _ _ => r_build [(.pointer none), (.slice none 0 0)] [(.pointer (some ⟨b, 0, none⟩)), u10] [(0, (.pointer (some ⟨b, 0, none⟩)), [(.pointer (some ⟨b, 0, none⟩))]), (1, u10, [u10])] Tryd.underlying99 zr99 rfl pl99 rfl (List.forall_mem_cons.2 ⟨rfl, (List.forall_mem_cons.2 ⟨(cells_one ho23.one), (fun _ h => by cases h)⟩)⟩) rfl) ⟨hb19.reads, hq25⟩ ?_
 refine dr_one (i := 14) (by kernel_rfl) (drOp1 (i := 14) rfl rfl rfl (want_none rfl _) (o_box [(.pointer (some ⟨b, 0, none⟩)), u10] (v := (.agg [(.pointer (some ⟨b, 0, none⟩)), u10].toArray)) rfl rfl hX16.pins (fun b26 w27 hk28 hb29 hp30 hl31 => ?_)))
 have hX32 := hX16.step hp30 hl31
 have ho35 := ho23.below hl31
 have hb36 := hb19.below hl31
 have ha39 : Apart (some b26) u10.ownBlock := new_ne_own (congrArg some hk28) ho23.lt
 have hlo41 : w.heap.size ≤ b26 := by have := hX16.size; omega
 have hq42 := hq25.below hl31
 refine ⟨fun _ => ⟨hb36.reads, hq42⟩, ?_⟩
 refine dr_take (i := 15) rfl rfl rfl (want_none rfl _) (by kernel_rfl) (fun _ _ => r_assign (v := (.pointer (some ⟨b26, 0, none⟩))) rfl) ⟨hb36.reads, hq42⟩ ?_
 refine dr_end (by kernel_rfl) ?_
 refine s_then ?_
 refine wp_ret ?_
 refine s_ret ?_
 refine c_ret1 (v := (.pointer (some ⟨b26, 0, none⟩))) rfl rfl rfl ?_
 have hrow := ho35
 rw [sq_nat] at hrow
 exact ⟨_, _, _, rfl, hb29, hrow, hlo41, ha39, hX32⟩

theorem l4Geq_spec {w : World} {G : Pin} {u v : Value} {ax bs : List Nd} (hP : Pins G w) (hu : RSl eNode G u ax) (hv : RSl eNode G v bs) (ha : FormOk ax ∧ 1 ≤ ax.length) (hb : FormOk bs ∧ 1 ≤ bs.length) (hl : ax.length + bs.length ≤ 1048576) :
  Calls Tryd.prog 30 [(.agg [u].toArray), (.agg [v].toArray)].toArray w fun e w' => ∃ G', e = .returned (.bool (decP (geG (gOf ax) (gOf bs)))) ∧ Ext noS G w G' w' := by
 refine s_enter (n := 21) Tryd.func30 Tryd.ntmps30 rfl rfl ?_
 have hX0 : Ext noS G w G w := Ext.refl hP
 have h0 := addM_all book_empty ha.1 (by simp; omega)
 have hlen := h0.hi
 simp only [List.length_nil, Nat.zero_add] at hlen
 have h1 := addM_all h0.book hb.1 (by omega)
 have hl0 := root_lt h0 ha.2
 have hl1 := root_lt h1 hb.2
 have hlo1 := h1.lo
 have hge := ge_roots ha hb hl _ _ rfl rfl
 refine s_seq (c_reg ?_)
 refine q1 rfl rfl rfl (o_box [u] (v := (.agg [u].toArray)) rfl rfl hX0.pins (fun b1 w2 hk3 hb4 hp5 hl6 => ?_))
 have hX7 := hX0.step hp5 hl6
 have hlo8 : w.heap.size ≤ b1 := by have := hX0.size; omega
 obtain ⟨G9, hle10, hX11, hbp12, hf13⟩ := hb4.shut hX7 hlo8
 refine q1 rfl rfl rfl (o_box [v] (v := (.agg [v].toArray)) rfl rfl hX11.pins (fun b14 w15 hk16 hb17 hp18 hl19 => ?_))
 have hX20 := hX11.step hp18 hl19
 have hlo21 : w.heap.size ≤ b14 := by have := hX11.size; omega
 obtain ⟨G22, hle23, hX24, hbp25, hf26⟩ := hb17.shut hX20 hlo21
 refine qd rfl rfl rfl (r_assign (v := (.bool false)) rfl) ?_
 refine qe (s_then (s_seq (c_reg ?_)))
 refine qd rfl rfl rfl (r_build [(.slice none 0 0), (.slice none 0 0)] [(.slice none 0 0), (.slice none 0 0)] [] Tryd.underlying83 zr83 rfl pl83 rfl (fun _ h => by cases h) rfl) ?_
 refine q1 rfl rfl rfl (o_box [(.slice none 0 0), (.slice none 0 0)] (v := (.agg [(.slice none 0 0), (.slice none 0 0)].toArray)) rfl rfl hX24.pins (fun b27 w28 hk29 hb30 hp31 hl32 => ?_))
 have hX33 := hX24.step hp31 hl32
 have hlo34 : w.heap.size ≤ b27 := by have := hX24.size; omega
 refine qd rfl rfl rfl (r_assign (v := (.pointer (some ⟨b27, 0, none⟩))) rfl) ?_
 refine qe (s_then (s_seq (c_reg ?_)))
 refine qd rfl rfl rfl (r_move (v := (.pointer (some ⟨b27, 0, none⟩))) rfl) ?_
 refine qd rfl rfl rfl (r_ldpA (cs := [u]) ag26 sz26 rfl (fun j u hj => (Pins.of_le hX33.pins hle23) _ _ _ (hbp12 _ _ (by simpa using hj)))) ?_
 refine q1 rfl rfl rfl (o_call (vs := [(.pointer (some ⟨b27, 0, none⟩)), (.agg [u].toArray)]) Tryd.func53 nm53 rfl rfl rfl ?_)
 refine Calls.mono (root_spec hX33.pins ⟨hb30, (Own.nil _ _ _ _ _), (Own.nil _ _ _ _ _), apart_none.symm, apart_none.symm, apart_none⟩ book_empty (hu.mono (Pin.le_trans hle10 hle23)) ha (by first | omega | (simp; omega))) ?_
 rintro _ w38 ⟨u35, v36, G37, rfl, hbk39, hx40, hlu41, hlv42⟩
 refine ⟨_, rfl, ?_⟩
 have hin45 : ∀ i, inS b27 (.slice none 0 0) (.slice none 0 0) i → w.heap.size ≤ i ∨ noS i := inS_lo (lo_box hlo34) (lo_none _ _) (lo_none _ _)
 have hX46 := hX33.trans hx40 hin45
 have hb47 := hbk39.bx
 have ho48 := hbk39.ou
 have ho49 := hbk39.ov
 have ha50 := hbk39.abu
 have ha51 := hbk39.abv
 have ha52 := hbk39.auv
 have hlo53 := lo_call hlu41 hin45 hX33.size
 have hlo54 := lo_call hlv42 hin45 hX33.size
 refine qd rfl rfl rfl (r_assign (v := (.int .i64 (rootM ([]) ([]) ax))) rfl) ?_
 refine qe (s_then (s_seq (c_reg ?_)))
 refine qd rfl rfl rfl (r_move (v := (.pointer (some ⟨b27, 0, none⟩))) rfl) ?_
 refine qd rfl rfl rfl (r_ldpA (cs := [v]) ag26 sz26 rfl (fun j u hj => (Pins.of_le hX46.pins hx40.le) _ _ _ (hbp25 _ _ (by simpa using hj)))) ?_
 refine q1 rfl rfl rfl (o_call (vs := [(.pointer (some ⟨b27, 0, none⟩)), (.agg [v].toArray)]) Tryd.func53 nm53 rfl rfl rfl ?_)
 refine Calls.mono (root_spec hX46.pins ⟨hb47, ho48, ho49, ha50, ha51, ha52⟩ h0.book (hv.mono (Pin.le_trans (Pin.le_trans hle10 hle23) hx40.le)) hb (by first | omega | (simp; omega))) ?_
 rintro _ w58 ⟨u55, v56, G57, rfl, hbk59, hx60, hlu61, hlv62⟩
 refine ⟨_, rfl, ?_⟩
 have hin65 : ∀ i, inS b27 u35 v36 i → w.heap.size ≤ i ∨ noS i := inS_lo (lo_box hlo34) hlo53 hlo54
 have hX66 := hX46.trans hx60 hin65
 have hb67 := hbk59.bx
 have ho68 := hbk59.ou
 have ho69 := hbk59.ov
 have ha70 := hbk59.abu
 have ha71 := hbk59.abv
 have ha72 := hbk59.auv
 have hlo73 := lo_call hlu61 hin65 hX46.size
 have hlo74 := lo_call hlv62 hin65 hX46.size
 refine qd rfl rfl rfl (r_assign (v := (.int .i64 (rootM ((addM ([]) ([]) ax).2.1) ((addM ([]) ([]) ax).2.2) bs))) rfl) ?_
 refine qe (s_then (s_seq (c_reg ?_)))
 refine qd rfl rfl rfl (r_move (v := (.pointer (some ⟨b27, 0, none⟩))) rfl) ?_
 refine q1 rfl rfl rfl (o_call (vs := [(.pointer (some ⟨b27, 0, none⟩))]) Tryd.func54 nm54 rfl rfl rfl ?_)
 refine Calls.mono (l4Of_spec hX66.pins ⟨hb67, ho68, ho69, ha70, ha71, ha72⟩ h1.book) ?_
 rintro _ w78 ⟨b75, u76, G77, rfl, hb79, ho80, hlo81, ha82, hx83⟩
 refine ⟨_, rfl, ?_⟩
 have hX84 := hX66.tr hx83
 have ho85 := ho68.ext hx83
 have ho86 := ho69.ext hx83
 have hb87 := hb67.ext hx83
 have ha88 : Apart u76.ownBlock u55.ownBlock := made_ne_own ho80.lt ho68.lt
 have ha90 : Apart u76.ownBlock v56.ownBlock := made_ne_own ho80.lt ho69.lt
 have ha92 : Apart u76.ownBlock (some b27) := made_ne_box ho80.lt hb67.lt
 have hlo94 := Nat.le_trans hX66.size hlo81
 have ho95 := ho80.weaken hX66.size
 refine qd rfl rfl rfl (r_move (v := (.int .i64 (rootM ([]) ([]) ax))) rfl) ?_
 refine qd rfl rfl rfl (r_move (v := (.int .i64 (rootM ((addM ([]) ([]) ax).2.1) ((addM ([]) ([]) ax).2.2) bs))) rfl) ?_
 refine q1 rfl rfl rfl (o_call (vs := [(.pointer (some ⟨b75, 0, none⟩)), (.int .i64 (rootM ([]) ([]) ax)), (.int .i64 (rootM ((addM ([]) ([]) ax).2.1) ((addM ([]) ([]) ax).2.2) bs))]) Tryd.func55 nm55 rfl rfl rfl ?_)
 refine Calls.mono (geq_spec hX84.pins ⟨⟨hb87, ho85, ho86, ha70, ha71, ha72⟩, hb79, (ho95.weaken (Nat.zero_le _)), ha82, ha92.symm, ha88.symm, ha90.symm⟩ ⟨hl0.1, by omega⟩ hl1 (by simp) h1.book KOk.zero) ?_
 rintro _ w98 ⟨ks96, G97, rfl, hd99, hr100, hx101⟩
 refine ⟨_, rfl, ?_⟩
 have hX102 := hX84.trans hx101 (fun i hi => (lo_own ho95) i hi)
 have hkl108 := hr100.len
 refine qd rfl rfl rfl (r_assign (v := (.bool (geB ((addM ((addM ([]) ([]) ax).2.1) ((addM ([]) ([]) ax).2.2) bs).2.1) (rootM ([]) ([]) ax) (rootM ((addM ([]) ([]) ax).2.1) ((addM ([]) ([]) ax).2.2) bs)))) rfl) ?_
 refine qe (s_then ?_)
 refine wp_ret ?_
 refine s_ret ?_
 refine c_ret1 (v := (.bool (geB ((addM ((addM ([]) ([]) ax).2.1) ((addM ([]) ([]) ax).2.2) bs).2.1) (rootM ([]) ([]) ax) (rootM ((addM ([]) ([]) ax).2.1) ((addM ([]) ([]) ax).2.2) bs)))) rfl rfl rfl ?_
 exact ⟨_, congrArg (fun z => Ending.returned (Value.bool z)) hge.1, hX102⟩

end SF1
end Go.Proofs.YtkfgdhanaijddaaDoor

set_option maxRecDepth 20000
set_option maxHeartbeats 2000000
namespace Go.Proofs.YtkfgdhanaijddaaDoor
namespace GS1
open Go.RowKit Go.GL Go.Proofs
open Go.Proofs.YtkfgdhanaijddaaDoor.B1
open Go.Proofs.YtkfgdhanaijddaaDoor.C1
open Go.Proofs.YtkfgdhanaijddaaDoor.D1
open Go.Proofs.YtkfgdhanaijddaaDoor.E1
open Go.Proofs.YtkfgdhanaijddaaDoor.OR1
open Go.Proofs.YtkfgdhanaijddaaDoor.SF1








theorem l3All_spec {w : World} {G : Pin} {v : Value} {fs : List (List Nd)} {most : Int} (hP : Pins G w) (hv : RSl (eSl eNode) G v fs) :
  Calls Tryd.prog 39 [v, (.int .i64 most)].toArray w fun e w' => ∃ G', e = .returned (.bool (decP (((fs.length : Int) ≤ most) ∧ ∀ i, i < fs.length → GoodS (fs.getD i [])))) ∧ Ext noS G w G' w' := by
 refine s_enter (n := 27) Tryd.func39 Tryd.ntmps39 rfl rfl ?_
 have hX0 : Ext noS G w G w := Ext.refl hP
 have hm := hv.max
 refine s_seq (c_reg ?_)
 refine qd rfl rfl rfl (r_assign (v := (.bool false)) rfl) ?_
 refine qe (s_then (s_seq (s_seq (c_reg ?_))))
 refine qd rfl rfl rfl (r_assign (v := (.int .i64 0)) rfl) ?_
 refine qe (s_then ?_)
 refine s_blk ?_
 refine s_loop (fun (k : Nat) (en : Nat → Value) (W : World) => ∃ (env1 : Nat → Value) (j : Nat) (GL1 : Pin), en = (upd (upd (upd env1 0 v) 1 (.int .i64 most)) 5 (.int .i64 (j : Int))) ∧ k = fs.length - j ∧ Ext noS G w GL1 W ∧ Pin.le G GL1 ∧ (j ≤ fs.length) ∧ (∀ i, i < j → GoodS (fs.getD i []))) _ ⟨_, 0, G, (packS (x := 5) (packS (x := 1) (pack1 (x := 0) rfl) rfl) rfl), rfl, hX0, Pin.le_refl _, Nat.zero_le _, (fun i hi => absurd hi (Nat.not_lt_zero i))⟩ ?_
 rintro k1 _ w2 ⟨env1, j, GL1, rfl, hk3, hX4, hlek1, hj, hp⟩
 refine s_seq (s_seq (c_reg ?_))
 refine qd rfl rfl rfl (r_move (v := (.int .i64 (j : Int))) rfl) ?_
 refine qd rfl rfl rfl (r_move (v := v) rfl) ?_
 refine qd rfl rfl rfl (run_len Tryd.underlying38 (v := v) rfl hv) ?_
 refine qd rfl rfl rfl (r_lss rfl rfl) ?_
 refine qd rfl rfl rfl (r_move (v := (.bool (decide (((j : Int) : Int) < (fs.length : Int))))) rfl) ?_
 refine qbd (p := ((j : Int) : Int) < (fs.length : Int)) (t := 10) rfl (fun h5 => ?_) (fun h5 => ?_)
 ·skip
  refine qdg rfl rfl rfl rfl rfl rfl (r_move (v := (.int .i64 (j : Int))) rfl) ?_
  refine qdg rfl rfl rfl rfl rfl rfl (r_move (v := (.int .i64 most)) rfl) ?_
  refine qdg rfl rfl rfl rfl rfl rfl (r_leq rfl rfl) ?_
  refine qd rfl rfl rfl (r_pickT (v := (.bool (decide (((j : Int) : Int) ≤ most)))) rfl rfl) ?_
  refine qe (s_then ?_)
  refine c_ifd (p := ((j : Int) : Int) ≤ most) rfl rfl (fun h6 => ?_) (fun h6 => ?_)
  ·skip
   refine wp_skip ?_
   refine s_then (s_seq ?_)
   refine s_blk ?_
   refine s_seq (c_reg ?_)
   refine qd rfl rfl rfl (r_move (v := v) rfl) ?_
   refine qd rfl rfl rfl (r_move (v := (.int .i64 (j : Int))) rfl) ?_
   refine qd rfl rfl rfl (run_idx Tryd.underlying38 sz26 (v := v) rfl rfl hv (by omega) (by omega)) ?_
   obtain ⟨u7, hr8, hl9⟩ := nm_form (hv.at (z := (j : Int)) (by omega) (by omega)) (j := j) rfl
   have hm10 := hr8.max
   refine qd rfl rfl rfl (hl9 ag26 sz26 rfl (Pins.of_le hX4.pins hlek1)) ?_
   refine q1 rfl rfl rfl (o_call (vs := [(.agg [u7].toArray)]) Tryd.func29 nm29 rfl rfl rfl ?_)
   refine Calls.mono (l3Good_spec hX4.pins (hr8.mono hlek1)) ?_
   rintro _ w12 ⟨G11, rfl, hx13⟩
   refine ⟨_, rfl, ?_⟩
   have hX14 := hX4.tr hx13
   refine qd rfl rfl rfl (r_not rfl) ?_
   refine qe (s_then ?_)
   refine c_ifn rfl rfl (fun h15 => ?_) (fun h15 => ?_)
   ·skip
    refine wp_skip ?_
    refine s_blkN ?_
    refine s_then (c_reg ?_)
    refine qd rfl rfl rfl (r_move (v := (.int .i64 (j : Int))) rfl) ?_
    refine qd rfl rfl rfl (r_add rfl rfl (by omega)) ?_
    refine qd rfl rfl rfl (r_assign (v := (.int .i64 ((j : Int) + 1))) rfl) ?_
    refine qe ?_
    refine s_lopN ?_
    refine ⟨_, ?_, _, rfl, _, j + 1, G11, (packS (x := 5) (packS (x := 1) (pack1 (x := 0) rfl) rfl) rfl), rfl, hX14, (Pin.le_trans hlek1 hx13.le), (by omega), (fun i hi => if h3 : i = j then h3 ▸ decP_true.1 h15 else hp i (by omega))⟩
    omega
   refine s_seq (c_reg ?_)
   refine qd rfl rfl rfl (r_assign (v := (.bool false)) rfl) ?_
   refine qe (s_then ?_)
   refine wp_ret ?_
   refine s_ret ?_
   refine c_ret1 (v := (.bool false)) rfl rfl rfl ?_
   exact ⟨_, congrArg (fun z => Ending.returned (Value.bool z)) (decP_false.2 (fun g => by have := g.2 j (by omega); rw [decP_true.2 this] at h15; cases h15)).symm, hX14⟩
  refine wp_exit ?_
  refine s_thenE ?_
  refine s_lopE ?_
  refine s_blkE ?_
  refine s_then (s_seq (c_reg ?_))
  refine qd rfl rfl rfl (r_move (v := v) rfl) ?_
  refine qd rfl rfl rfl (run_len Tryd.underlying38 (v := v) rfl hv) ?_
  refine qd rfl rfl rfl (r_move (v := (.int .i64 most)) rfl) ?_
  refine qd rfl rfl rfl (r_leq rfl rfl) ?_
  refine qd rfl rfl rfl (r_assign (v := (.bool (decide (((fs.length : Int) : Int) ≤ most)))) rfl) ?_
  refine qe (s_then ?_)
  refine wp_ret ?_
  refine s_ret ?_
  refine c_ret1 (v := (.bool (decide (((fs.length : Int) : Int) ≤ most)))) rfl rfl rfl ?_
  exact ⟨_, congrArg (fun z => Ending.returned (Value.bool z)) (decP_dec.symm.trans (decP_iff ⟨fun h => ⟨h, fun i hi => hp i (by omega)⟩, fun h => h.1⟩)), hX4⟩
 refine qs rfl rfl rfl rfl rfl rfl ?_
 refine qs rfl rfl rfl rfl rfl rfl ?_
 refine qs rfl rfl rfl rfl rfl rfl ?_
 refine qd rfl rfl rfl (r_pickF (v := (.bool false)) rfl rfl) ?_
 refine qe (s_then ?_)
 refine c_ifF rfl rfl ?_
 refine wp_exit ?_
 refine s_thenE ?_
 refine s_lopE ?_
 refine s_blkE ?_
 refine s_then (s_seq (c_reg ?_))
 refine qd rfl rfl rfl (r_move (v := v) rfl) ?_
 refine qd rfl rfl rfl (run_len Tryd.underlying38 (v := v) rfl hv) ?_
 refine qd rfl rfl rfl (r_move (v := (.int .i64 most)) rfl) ?_
 refine qd rfl rfl rfl (r_leq rfl rfl) ?_
 refine qd rfl rfl rfl (r_assign (v := (.bool (decide (((fs.length : Int) : Int) ≤ most)))) rfl) ?_
 refine qe (s_then ?_)
 refine wp_ret ?_
 refine s_ret ?_
 refine c_ret1 (v := (.bool (decide (((fs.length : Int) : Int) ≤ most)))) rfl rfl rfl ?_
 exact ⟨_, congrArg (fun z => Ending.returned (Value.bool z)) (decP_dec.symm.trans (decP_iff ⟨fun h => ⟨h, fun i hi => hp i (by omega)⟩, fun h => h.1⟩)), hX4⟩

theorem sGreatestOf_spec {w : World} {G : Pin} {v : Value} {fs : List (List Nd)} (hP : Pins G w) (hv : RSl (eSl eNode) G v fs) :
  Calls Tryd.prog 21 [v].toArray w fun e w' => ∃ (u : Value) (G' : Pin), e = .returned (.tuple #[u, .bool (decP (AllG fs))]) ∧ Own eInt 3 G' w' w.heap.size u (grF fs) ∧ Ext noS G w G' w' := by
 refine s_enter (n := 62) Tryd.func21 Tryd.ntmps21 rfl rfl ?_
 have hX0 : Ext noS G w G w := Ext.refl hP
 have hm := hv.max
 refine s_seq (c_reg ?_)
 refine qd rfl rfl rfl (r_assign (v := (.slice none 0 0)) rfl) ?_
 refine qd rfl rfl rfl (r_assign (v := (.bool false)) rfl) ?_
 refine qe (s_then (s_seq (c_reg ?_)))
 refine q1 rfl rfl rfl (o_build0 (E := eInt) (e := 3) Tryd.underlying40 sz3 hX0.pins (fun u1 w2 ho3 hp4 hl5 hk6 => ?_))
 have hX7 := hX0.step hp4 hl5
 have ho8 : Own eInt 3 G w2 w.heap.size u1 ([]) := ho3.weaken hX0.size
 refine qd rfl rfl rfl (r_assign (v := u1) rfl) ?_
 refine qe (s_then (s_seq (s_seq (c_reg ?_))))
 refine qd rfl rfl rfl (r_move (v := v) rfl) ?_
 refine q1 rfl rfl rfl (o_call (vs := [v, (.int .i64 24)]) Tryd.func39 nm39 rfl rfl rfl ?_)
 refine Calls.mono (l3All_spec hX7.pins hv) ?_
 rintro _ w10 ⟨G9, rfl, hx11⟩
 refine ⟨_, rfl, ?_⟩
 have hX12 := hX7.tr hx11
 have ho13 := ho8.ext hx11
 refine qd rfl rfl rfl (r_not rfl) ?_
 refine qe (s_then ?_)
 refine c_ifn rfl rfl (fun h14 => ?_) (fun h14 => ?_)
 ·skip
  refine wp_skip ?_
  refine s_then (s_seq (s_seq (c_reg ?_)))
  have hAG : AllG fs := decP_true.1 h14
  have h24 := hAG.1
  refine qd rfl rfl rfl (r_assign (v := (.int .i64 0)) rfl) ?_
  refine qe (s_then ?_)
  refine s_blk ?_
  refine s_loop (fun (k : Nat) (en : Nat → Value) (W : World) => ∃ (env1 : Nat → Value) (i : Nat) (ov : Value) (out : List Int) (GL1 : Pin), en = (upd (upd (upd (upd (upd env1 0 v) 2 (.slice none 0 0)) 3 (.bool false)) 4 ov) 5 (.int .i64 (i : Int))) ∧ k = fs.length - i ∧ Ext noS G w GL1 W ∧ Pin.le G9 GL1 ∧ (i ≤ fs.length) ∧ (out = grL (gF fs) fs.length i) ∧ (Own eInt 3 GL1 W w.heap.size ov (out))) _ ⟨_, 0, u1, [], G9, (packS (x := 5) (packS (x := 4) (packS (x := 3) (packS (x := 2) (pack1 (x := 0) rfl) rfl) rfl) rfl) rfl), rfl, hX12, Pin.le_refl _, Nat.zero_le _, rfl, ho13⟩ ?_
  rintro k15 _ w16 ⟨env1, i, ov, out, GL1, rfl, hk17, hX18, hlek15, hi, hout, hw19⟩
  have hol : out.length ≤ i := by rw [hout]; exact gr_len i
  refine s_seq (s_seq (c_reg ?_))
  refine qd rfl rfl rfl (r_move (v := (.int .i64 (i : Int))) rfl) ?_
  refine qd rfl rfl rfl (r_move (v := v) rfl) ?_
  refine qd rfl rfl rfl (run_len Tryd.underlying38 (v := v) rfl hv) ?_
  refine qd rfl rfl rfl (r_lss rfl rfl) ?_
  refine qe (s_then ?_)
  refine c_ifd (p := ((i : Int) : Int) < (fs.length : Int)) rfl rfl (fun h20 => ?_) (fun h20 => ?_)
  ·skip
   refine wp_skip ?_
   refine s_then (s_seq ?_)
   refine s_blk ?_
   refine s_seq (c_reg ?_)
   refine qd rfl rfl rfl (r_assign (v := (.bool true)) rfl) ?_
   refine qe (s_then (s_seq (s_seq (c_reg ?_))))
   refine qd rfl rfl rfl (r_assign (v := (.int .i64 0)) rfl) ?_
   refine qe (s_then ?_)
   refine s_blk ?_
   refine s_loop (fun (k : Nat) (en : Nat → Value) (W : World) => ∃ (env1 : Nat → Value) (j : Nat) (bst : Bool) (GL2 : Pin), en = (upd (upd (upd (upd (upd (upd (upd env1 0 v) 2 (.slice none 0 0)) 3 (.bool false)) 4 ov) 5 (.int .i64 (i : Int))) 6 (.bool bst)) 7 (.int .i64 (j : Int))) ∧ k = fs.length - j ∧ Ext noS G w GL2 W ∧ Pin.le GL1 GL2 ∧ (j ≤ fs.length) ∧ (bst = grB (gF fs) i j) ∧ (Own eInt 3 GL2 W w.heap.size ov (out))) _ ⟨_, 0, true, GL1, (packS (x := 7) (packS (x := 6) (packS (x := 5) (packS (x := 4) (packS (x := 3) (packS (x := 2) (pack1 (x := 0) rfl) rfl) rfl) rfl) rfl) rfl) rfl), rfl, hX18, Pin.le_refl _, Nat.zero_le _, gr_start, hw19⟩ ?_
   rintro k21 _ w22 ⟨env1, j, bst, GL2, rfl, hk23, hX24, hlek21, hk, hbst, hw25⟩
   refine s_seq (s_seq (c_reg ?_))
   refine qd rfl rfl rfl (r_move (v := (.int .i64 (j : Int))) rfl) ?_
   refine qd rfl rfl rfl (r_move (v := v) rfl) ?_
   refine qd rfl rfl rfl (run_len Tryd.underlying38 (v := v) rfl hv) ?_
   refine qd rfl rfl rfl (r_lss rfl rfl) ?_
   refine qe (s_then ?_)
   refine c_ifd (p := ((j : Int) : Int) < (fs.length : Int)) rfl rfl (fun h26 => ?_) (fun h26 => ?_)
   ·skip
    refine wp_skip ?_
    refine s_then (s_seq ?_)
    refine s_blk ?_
    refine s_seq ?_
    refine c_draw (S := fun wz => Pins GL2 wz) (last := 31) (by kernel_rfl) rfl ?_
    have hl27 : Below w22.heap.size w22 w22.drew := (Below.refl _ _).drew
    have hp28 := hX24.pins.below hl27
    have hX29 := hX24.step hp28 hl27
    have ho30 := hw25.below hl27
    refine dr_take (i := 0) rfl rfl rfl (want_none rfl _) (by kernel_rfl) (fun _ _ => r_move (v := (.int .i64 (j : Int))) rfl) hX29.pins ?_
    refine dr_take (i := 1) rfl rfl rfl (want_none rfl _) (by kernel_rfl) (fun _ _ => r_move (v := (.int .i64 (i : Int))) rfl) hX29.pins ?_
    refine dr_take (i := 2) rfl rfl rfl (want_none rfl _) (by kernel_rfl) (fun _ _ => r_neq rfl rfl) hX29.pins ?_
    refine dr_take (i := 3) rfl rfl rfl (want_none rfl _) (by kernel_rfl) (fun _ _ => r_move (v := (.bool (decide (((j : Int) : Int) ≠ (i : Int))))) rfl) hX29.pins ?_
    refine drbd (p := ((j : Int) : Int) ≠ (i : Int)) (t := 28) rfl (fun h31 => ?_) (fun h31 => ?_)
    ·skip
     refine dr_take (i := 4) rfl rfl rfl (want_yes rfl rfl rfl rfl) (by kernel_rfl) (fun _ _ => r_move (v := v) rfl) hX29.pins ?_
     refine dr_take (i := 5) rfl rfl rfl (want_yes rfl rfl rfl rfl) (by kernel_rfl) (fun _ _ => r_move (v := (.int .i64 (j : Int))) rfl) hX29.pins ?_
     refine dr_take (i := 6) rfl rfl rfl (want_yes rfl rfl rfl rfl) (by kernel_rfl) (fun _ _ => run_idx Tryd.underlying38 sz26 (v := v) rfl rfl hv (by omega) (by omega)) hX29.pins ?_
     obtain ⟨u32, hr33, hl34⟩ := nm_form (hv.at (z := (j : Int)) (by omega) (by omega)) (j := j) rfl
     have hm35 := hr33.max
     refine dr_take (i := 7) rfl rfl rfl (want_yes rfl rfl rfl rfl) (by kernel_rfl) (fun _ hS => hl34 ag26 sz26 rfl (Pins.of_le hS (Pin.le_trans (Pin.le_trans hx11.le hlek15) hlek21))) hX29.pins ?_
     refine dr_take (i := 8) rfl rfl rfl (want_yes rfl rfl rfl rfl) (by kernel_rfl) (fun _ _ => r_move (v := v) rfl) hX29.pins ?_
     refine dr_take (i := 9) rfl rfl rfl (want_yes rfl rfl rfl rfl) (by kernel_rfl) (fun _ _ => r_move (v := (.int .i64 (i : Int))) rfl) hX29.pins ?_
     refine dr_take (i := 10) rfl rfl rfl (want_yes rfl rfl rfl rfl) (by kernel_rfl) (fun _ _ => run_idx Tryd.underlying38 sz26 (v := v) rfl rfl hv (by omega) (by omega)) hX29.pins ?_
     obtain ⟨u36, hr37, hl38⟩ := nm_form (hv.at (z := (i : Int)) (by omega) (by omega)) (j := i) rfl
     have hm39 := hr37.max
     refine dr_take (i := 11) rfl rfl rfl (want_yes rfl rfl rfl rfl) (by kernel_rfl) (fun _ hS => hl38 ag26 sz26 rfl (Pins.of_le hS (Pin.le_trans (Pin.le_trans hx11.le hlek15) hlek21))) hX29.pins ?_
     refine dr_one (i := 12) (by kernel_rfl) (drOp1 (i := 12) rfl rfl rfl (want_yes rfl rfl rfl rfl) (o_call (vs := [(.agg [u32].toArray), (.agg [u36].toArray)]) Tryd.func30 nm30 rfl rfl rfl ?_))
     refine Calls.mono (l4Geq_spec hX29.pins (hr33.mono (Pin.le_trans (Pin.le_trans hx11.le hlek15) hlek21)) (hr37.mono (Pin.le_trans (Pin.le_trans hx11.le hlek15) hlek21)) (hAG.form (i := j) (by omega)) (hAG.form (i := i) (by omega)) (by have h1 := (hAG.good (i := j) (by omega)).hi; have h2 := (hAG.good (i := i) (by omega)).hi; omega)) ?_
     rintro _ w41 ⟨G40, rfl, hx42⟩
     refine ⟨_, rfl, ?_⟩
     have hX43 := hX29.tr hx42
     have ho44 := ho30.ext hx42
     refine ⟨fun _ => (Pins.of_le hX43.pins hx42.le), ?_⟩
     refine dr_take (i := 13) rfl rfl rfl (want_none rfl _) (by kernel_rfl) (fun _ _ => r_pickT (v := (.bool (decP (geG (gOf (fs.getD j [])) (gOf (fs.getD i [])))))) rfl rfl) (Pins.of_le hX43.pins hx42.le) ?_
     refine dr_take (i := 14) rfl rfl rfl (want_none rfl _) (by kernel_rfl) (fun _ _ => r_move (v := (.bool (decP (geG (gOf (fs.getD j [])) (gOf (fs.getD i [])))))) rfl) (Pins.of_le hX43.pins hx42.le) ?_
     refine drb (t := 39) rfl (fun h45 => ?_) (fun h45 => ?_)
     ·skip
      refine dr_take (i := 15) rfl rfl rfl (want_yes rfl rfl rfl rfl) (by kernel_rfl) (fun _ _ => r_move (v := (.int .i64 (j : Int))) rfl) (Pins.of_le hX43.pins hx42.le) ?_
      refine dr_take (i := 16) rfl rfl rfl (want_yes rfl rfl rfl rfl) (by kernel_rfl) (fun _ _ => r_move (v := (.int .i64 (i : Int))) rfl) (Pins.of_le hX43.pins hx42.le) ?_
      refine dr_take (i := 17) rfl rfl rfl (want_yes rfl rfl rfl rfl) (by kernel_rfl) (fun _ _ => r_lss rfl rfl) (Pins.of_le hX43.pins hx42.le) ?_
      refine dr_take (i := 18) rfl rfl rfl (want_yes rfl rfl rfl rfl) (by kernel_rfl) (fun _ _ => r_move (v := (.bool (decide (((j : Int) : Int) < (i : Int))))) rfl) (Pins.of_le hX43.pins hx42.le) ?_
      refine drbd (p := ((j : Int) : Int) < (i : Int)) (t := 43) rfl (fun h46 => ?_) (fun h46 => ?_)
      ·skip
       refine dr_skip (i := 19) rfl rfl (want_no rfl rfl rfl rfl rfl) (by kernel_rfl) (Pins.of_le hX43.pins hx42.le) ?_
       refine dr_skip (i := 20) rfl rfl (want_no rfl rfl rfl rfl rfl) (by kernel_rfl) (Pins.of_le hX43.pins hx42.le) ?_
       refine dr_skip (i := 21) rfl rfl (want_no rfl rfl rfl rfl rfl) (by kernel_rfl) (Pins.of_le hX43.pins hx42.le) ?_
       refine dr_skip (i := 22) rfl rfl (want_no rfl rfl rfl rfl rfl) (by kernel_rfl) (Pins.of_le hX43.pins hx42.le) ?_
       refine dr_skip (i := 23) rfl rfl (want_no rfl rfl rfl rfl rfl) (by kernel_rfl) (Pins.of_le hX43.pins hx42.le) ?_
       refine dr_skip (i := 24) rfl rfl (want_no rfl rfl rfl rfl rfl) (by kernel_rfl) (Pins.of_le hX43.pins hx42.le) ?_
       refine dr_skip (i := 25) rfl rfl (want_no rfl rfl rfl rfl rfl) (by kernel_rfl) (Pins.of_le hX43.pins hx42.le) ?_
       refine dr_skip (i := 26) rfl rfl (want_no rfl rfl rfl rfl rfl) (by kernel_rfl) (Pins.of_le hX43.pins hx42.le) ?_
       refine dr_skip (i := 27) rfl rfl (want_no rfl rfl rfl rfl rfl) (by kernel_rfl) (Pins.of_le hX43.pins hx42.le) ?_
       refine dr_skip (i := 28) rfl rfl (want_no rfl rfl rfl rfl rfl) (by kernel_rfl) (Pins.of_le hX43.pins hx42.le) ?_
       refine dr_take (i := 29) rfl rfl rfl (want_yes rfl rfl rfl rfl) (by kernel_rfl) (fun _ _ => r_pickT (v := (.bool true)) rfl rfl) (Pins.of_le hX43.pins hx42.le) ?_
       refine dr_take (i := 30) rfl rfl rfl (want_none rfl _) (by kernel_rfl) (fun _ _ => r_pickT (v := (.bool true)) rfl rfl) (Pins.of_le hX43.pins hx42.le) ?_
       refine dr_end (by kernel_rfl) ?_
       refine s_then ?_
       refine c_ifT rfl rfl ?_
       refine c_reg ?_
       refine qd rfl rfl rfl (r_assign (v := (.bool false)) rfl) ?_
       refine qe ?_
       refine s_blkN ?_
       refine s_then (c_reg ?_)
       refine qd rfl rfl rfl (r_move (v := (.int .i64 (j : Int))) rfl) ?_
       refine qd rfl rfl rfl (r_add rfl rfl (by omega)) ?_
       refine qd rfl rfl rfl (r_assign (v := (.int .i64 ((j : Int) + 1))) rfl) ?_
       refine qe ?_
       refine s_lopN ?_
       refine ⟨_, ?_, _, rfl, _, j + 1, false, G40, (packS (x := 7) (packS (x := 6) (packS (x := 5) (packS (x := 4) (packS (x := 3) (packS (x := 2) (pack1 (x := 0) rfl) rfl) rfl) rfl) rfl) rfl) rfl), rfl, hX43, (Pin.le_trans hlek21 hx42.le), (by omega), (gr_yes ⟨h31, (decP_true.1 h45), Or.inl h46⟩), ho44⟩
       omega
      refine dr_take (i := 19) rfl rfl rfl (want_yes rfl rfl rfl rfl) (by kernel_rfl) (fun _ _ => r_move (v := v) rfl) (Pins.of_le hX43.pins hx42.le) ?_
      refine dr_take (i := 20) rfl rfl rfl (want_yes rfl rfl rfl rfl) (by kernel_rfl) (fun _ _ => r_move (v := (.int .i64 (i : Int))) rfl) (Pins.of_le hX43.pins hx42.le) ?_
      refine dr_take (i := 21) rfl rfl rfl (want_yes rfl rfl rfl rfl) (by kernel_rfl) (fun _ _ => run_idx Tryd.underlying38 sz26 (v := v) rfl rfl hv (by omega) (by omega)) (Pins.of_le hX43.pins hx42.le) ?_
      obtain ⟨u47, hr48, hl49⟩ := nm_form (hv.at (z := (i : Int)) (by omega) (by omega)) (j := i) rfl
      have hm50 := hr48.max
      refine dr_take (i := 22) rfl rfl rfl (want_yes rfl rfl rfl rfl) (by kernel_rfl) (fun _ hS => hl49 ag26 sz26 rfl (Pins.of_le hS (Pin.le_trans (Pin.le_trans hx11.le hlek15) hlek21))) (Pins.of_le hX43.pins hx42.le) ?_
      refine dr_take (i := 23) rfl rfl rfl (want_yes rfl rfl rfl rfl) (by kernel_rfl) (fun _ _ => r_move (v := v) rfl) (Pins.of_le hX43.pins hx42.le) ?_
      refine dr_take (i := 24) rfl rfl rfl (want_yes rfl rfl rfl rfl) (by kernel_rfl) (fun _ _ => r_move (v := (.int .i64 (j : Int))) rfl) (Pins.of_le hX43.pins hx42.le) ?_
      refine dr_take (i := 25) rfl rfl rfl (want_yes rfl rfl rfl rfl) (by kernel_rfl) (fun _ _ => run_idx Tryd.underlying38 sz26 (v := v) rfl rfl hv (by omega) (by omega)) (Pins.of_le hX43.pins hx42.le) ?_
      obtain ⟨u51, hr52, hl53⟩ := nm_form (hv.at (z := (j : Int)) (by omega) (by omega)) (j := j) rfl
      have hm54 := hr52.max
      refine dr_take (i := 26) rfl rfl rfl (want_yes rfl rfl rfl rfl) (by kernel_rfl) (fun _ hS => hl53 ag26 sz26 rfl (Pins.of_le hS (Pin.le_trans (Pin.le_trans hx11.le hlek15) hlek21))) (Pins.of_le hX43.pins hx42.le) ?_
      refine dr_one (i := 27) (by kernel_rfl) (drOp1 (i := 27) rfl rfl rfl (want_yes rfl rfl rfl rfl) (o_call (vs := [(.agg [u47].toArray), (.agg [u51].toArray)]) Tryd.func30 nm30 rfl rfl rfl ?_))
      refine Calls.mono (l4Geq_spec hX43.pins (hr48.mono (Pin.le_trans (Pin.le_trans (Pin.le_trans hx11.le hlek15) hlek21) hx42.le)) (hr52.mono (Pin.le_trans (Pin.le_trans (Pin.le_trans hx11.le hlek15) hlek21) hx42.le)) (hAG.form (i := i) (by omega)) (hAG.form (i := j) (by omega)) (by have h1 := (hAG.good (i := i) (by omega)).hi; have h2 := (hAG.good (i := j) (by omega)).hi; omega)) ?_
      rintro _ w56 ⟨G55, rfl, hx57⟩
      refine ⟨_, rfl, ?_⟩
      have hX58 := hX43.tr hx57
      have ho59 := ho44.ext hx57
      refine ⟨fun _ => (Pins.of_le hX58.pins (Pin.le_trans hx42.le hx57.le)), ?_⟩
      refine dr_take (i := 28) rfl rfl rfl (want_yes rfl rfl rfl rfl) (by kernel_rfl) (fun _ _ => r_not rfl) (Pins.of_le hX58.pins (Pin.le_trans hx42.le hx57.le)) ?_
      refine dr_take (i := 29) rfl rfl rfl (want_yes rfl rfl rfl rfl) (by kernel_rfl) (fun _ _ => r_pickF (v := (.bool (!(decP (geG (gOf (fs.getD i [])) (gOf (fs.getD j []))))))) rfl rfl) (Pins.of_le hX58.pins (Pin.le_trans hx42.le hx57.le)) ?_
      refine dr_take (i := 30) rfl rfl rfl (want_none rfl _) (by kernel_rfl) (fun _ _ => r_pickT (v := (.bool (!(decP (geG (gOf (fs.getD i [])) (gOf (fs.getD j []))))))) rfl rfl) (Pins.of_le hX58.pins (Pin.le_trans hx42.le hx57.le)) ?_
      refine dr_end (by kernel_rfl) ?_
      refine s_then ?_
      refine c_ifn rfl rfl (fun h60 => ?_) (fun h60 => ?_)
      ·skip
       refine wp_skip ?_
       refine s_blkN ?_
       refine s_then (c_reg ?_)
       refine qd rfl rfl rfl (r_move (v := (.int .i64 (j : Int))) rfl) ?_
       refine qd rfl rfl rfl (r_add rfl rfl (by omega)) ?_
       refine qd rfl rfl rfl (r_assign (v := (.int .i64 ((j : Int) + 1))) rfl) ?_
       refine qe ?_
       refine s_lopN ?_
       refine ⟨_, ?_, _, rfl, _, j + 1, bst, G55, (packS (x := 7) (packS (x := 6) (packS (x := 5) (packS (x := 4) (packS (x := 3) (packS (x := 2) (pack1 (x := 0) rfl) rfl) rfl) rfl) rfl) rfl) rfl), rfl, hX58, (Pin.le_trans (Pin.le_trans hlek21 hx42.le) hx57.le), (by omega), (gr_no hbst (fun p => p.2.2.elim h46 (fun h => h (decP_true.1 h60)))), ho59⟩
       omega
      refine c_reg ?_
      refine qd rfl rfl rfl (r_assign (v := (.bool false)) rfl) ?_
      refine qe ?_
      refine s_blkN ?_
      refine s_then (c_reg ?_)
      refine qd rfl rfl rfl (r_move (v := (.int .i64 (j : Int))) rfl) ?_
      refine qd rfl rfl rfl (r_add rfl rfl (by omega)) ?_
      refine qd rfl rfl rfl (r_assign (v := (.int .i64 ((j : Int) + 1))) rfl) ?_
      refine qe ?_
      refine s_lopN ?_
      refine ⟨_, ?_, _, rfl, _, j + 1, false, G55, (packS (x := 7) (packS (x := 6) (packS (x := 5) (packS (x := 4) (packS (x := 3) (packS (x := 2) (pack1 (x := 0) rfl) rfl) rfl) rfl) rfl) rfl) rfl), rfl, hX58, (Pin.le_trans (Pin.le_trans hlek21 hx42.le) hx57.le), (by omega), (gr_yes ⟨h31, (decP_true.1 h45), Or.inr (decP_false.1 h60)⟩), ho59⟩
      omega
     refine dr_skip (i := 15) rfl rfl (want_no rfl rfl rfl rfl rfl) (by kernel_rfl) (Pins.of_le hX43.pins hx42.le) ?_
     refine dr_skip (i := 16) rfl rfl (want_no rfl rfl rfl rfl rfl) (by kernel_rfl) (Pins.of_le hX43.pins hx42.le) ?_
     refine dr_skip (i := 17) rfl rfl (want_no rfl rfl rfl rfl rfl) (by kernel_rfl) (Pins.of_le hX43.pins hx42.le) ?_
     refine dr_skip (i := 18) rfl rfl (want_no rfl rfl rfl rfl rfl) (by kernel_rfl) (Pins.of_le hX43.pins hx42.le) ?_
     refine dr_skip (i := 19) rfl rfl (want_undef rfl rfl rfl rfl) (by kernel_rfl) (Pins.of_le hX43.pins hx42.le) ?_
     refine dr_skip (i := 20) rfl rfl (want_undef rfl rfl rfl rfl) (by kernel_rfl) (Pins.of_le hX43.pins hx42.le) ?_
     refine dr_skip (i := 21) rfl rfl (want_undef rfl rfl rfl rfl) (by kernel_rfl) (Pins.of_le hX43.pins hx42.le) ?_
     refine dr_skip (i := 22) rfl rfl (want_undef rfl rfl rfl rfl) (by kernel_rfl) (Pins.of_le hX43.pins hx42.le) ?_
     refine dr_skip (i := 23) rfl rfl (want_undef rfl rfl rfl rfl) (by kernel_rfl) (Pins.of_le hX43.pins hx42.le) ?_
     refine dr_skip (i := 24) rfl rfl (want_undef rfl rfl rfl rfl) (by kernel_rfl) (Pins.of_le hX43.pins hx42.le) ?_
     refine dr_skip (i := 25) rfl rfl (want_undef rfl rfl rfl rfl) (by kernel_rfl) (Pins.of_le hX43.pins hx42.le) ?_
     refine dr_skip (i := 26) rfl rfl (want_undef rfl rfl rfl rfl) (by kernel_rfl) (Pins.of_le hX43.pins hx42.le) ?_
     refine dr_skip (i := 27) rfl rfl (want_undef rfl rfl rfl rfl) (by kernel_rfl) (Pins.of_le hX43.pins hx42.le) ?_
     refine dr_skip (i := 28) rfl rfl (want_undef rfl rfl rfl rfl) (by kernel_rfl) (Pins.of_le hX43.pins hx42.le) ?_
     refine dr_skip (i := 29) rfl rfl (want_no rfl rfl rfl rfl rfl) (by kernel_rfl) (Pins.of_le hX43.pins hx42.le) ?_
     refine dr_take (i := 30) rfl rfl rfl (want_none rfl _) (by kernel_rfl) (fun _ _ => r_pickF (v := (.bool false)) rfl rfl) (Pins.of_le hX43.pins hx42.le) ?_
     refine dr_end (by kernel_rfl) ?_
     refine s_then ?_
     refine c_ifF rfl rfl ?_
     refine wp_skip ?_
     refine s_blkN ?_
     refine s_then (c_reg ?_)
     refine qd rfl rfl rfl (r_move (v := (.int .i64 (j : Int))) rfl) ?_
     refine qd rfl rfl rfl (r_add rfl rfl (by omega)) ?_
     refine qd rfl rfl rfl (r_assign (v := (.int .i64 ((j : Int) + 1))) rfl) ?_
     refine qe ?_
     refine s_lopN ?_
     refine ⟨_, ?_, _, rfl, _, j + 1, bst, G40, (packS (x := 7) (packS (x := 6) (packS (x := 5) (packS (x := 4) (packS (x := 3) (packS (x := 2) (pack1 (x := 0) rfl) rfl) rfl) rfl) rfl) rfl) rfl), rfl, hX43, (Pin.le_trans hlek21 hx42.le), (by omega), (gr_no hbst (fun p => (decP_false.1 h45) p.2.1)), ho44⟩
     omega
    refine dr_skip (i := 4) rfl rfl (want_no rfl rfl rfl rfl rfl) (by kernel_rfl) hX29.pins ?_
    refine dr_skip (i := 5) rfl rfl (want_no rfl rfl rfl rfl rfl) (by kernel_rfl) hX29.pins ?_
    refine dr_skip (i := 6) rfl rfl (want_no rfl rfl rfl rfl rfl) (by kernel_rfl) hX29.pins ?_
    refine dr_skip (i := 7) rfl rfl (want_no rfl rfl rfl rfl rfl) (by kernel_rfl) hX29.pins ?_
    refine dr_skip (i := 8) rfl rfl (want_no rfl rfl rfl rfl rfl) (by kernel_rfl) hX29.pins ?_
    refine dr_skip (i := 9) rfl rfl (want_no rfl rfl rfl rfl rfl) (by kernel_rfl) hX29.pins ?_
    refine dr_skip (i := 10) rfl rfl (want_no rfl rfl rfl rfl rfl) (by kernel_rfl) hX29.pins ?_
    refine dr_skip (i := 11) rfl rfl (want_no rfl rfl rfl rfl rfl) (by kernel_rfl) hX29.pins ?_
    refine dr_skip (i := 12) rfl rfl (want_no rfl rfl rfl rfl rfl) (by kernel_rfl) hX29.pins ?_
    refine dr_take (i := 13) rfl rfl rfl (want_none rfl _) (by kernel_rfl) (fun _ _ => r_pickF (v := (.bool false)) rfl rfl) hX29.pins ?_
    refine dr_take (i := 14) rfl rfl rfl (want_none rfl _) (by kernel_rfl) (fun _ _ => r_move (v := (.bool false)) rfl) hX29.pins ?_
    refine dr_skip (i := 15) rfl rfl (want_no rfl rfl rfl rfl rfl) (by kernel_rfl) hX29.pins ?_
    refine dr_skip (i := 16) rfl rfl (want_no rfl rfl rfl rfl rfl) (by kernel_rfl) hX29.pins ?_
    refine dr_skip (i := 17) rfl rfl (want_no rfl rfl rfl rfl rfl) (by kernel_rfl) hX29.pins ?_
    refine dr_skip (i := 18) rfl rfl (want_no rfl rfl rfl rfl rfl) (by kernel_rfl) hX29.pins ?_
    refine dr_skip (i := 19) rfl rfl (want_undef rfl rfl rfl rfl) (by kernel_rfl) hX29.pins ?_
    refine dr_skip (i := 20) rfl rfl (want_undef rfl rfl rfl rfl) (by kernel_rfl) hX29.pins ?_
    refine dr_skip (i := 21) rfl rfl (want_undef rfl rfl rfl rfl) (by kernel_rfl) hX29.pins ?_
    refine dr_skip (i := 22) rfl rfl (want_undef rfl rfl rfl rfl) (by kernel_rfl) hX29.pins ?_
    refine dr_skip (i := 23) rfl rfl (want_undef rfl rfl rfl rfl) (by kernel_rfl) hX29.pins ?_
    refine dr_skip (i := 24) rfl rfl (want_undef rfl rfl rfl rfl) (by kernel_rfl) hX29.pins ?_
    refine dr_skip (i := 25) rfl rfl (want_undef rfl rfl rfl rfl) (by kernel_rfl) hX29.pins ?_
    refine dr_skip (i := 26) rfl rfl (want_undef rfl rfl rfl rfl) (by kernel_rfl) hX29.pins ?_
    refine dr_skip (i := 27) rfl rfl (want_undef rfl rfl rfl rfl) (by kernel_rfl) hX29.pins ?_
    refine dr_skip (i := 28) rfl rfl (want_undef rfl rfl rfl rfl) (by kernel_rfl) hX29.pins ?_
    refine dr_skip (i := 29) rfl rfl (want_no rfl rfl rfl rfl rfl) (by kernel_rfl) hX29.pins ?_
    refine dr_take (i := 30) rfl rfl rfl (want_none rfl _) (by kernel_rfl) (fun _ _ => r_pickF (v := (.bool false)) rfl rfl) hX29.pins ?_
    refine dr_end (by kernel_rfl) ?_
    refine s_then ?_
    refine c_ifF rfl rfl ?_
    refine wp_skip ?_
    refine s_blkN ?_
    refine s_then (c_reg ?_)
    refine qd rfl rfl rfl (r_move (v := (.int .i64 (j : Int))) rfl) ?_
    refine qd rfl rfl rfl (r_add rfl rfl (by omega)) ?_
    refine qd rfl rfl rfl (r_assign (v := (.int .i64 ((j : Int) + 1))) rfl) ?_
    refine qe ?_
    refine s_lopN ?_
    refine ⟨_, ?_, _, rfl, _, j + 1, bst, GL2, (packS (x := 7) (packS (x := 6) (packS (x := 5) (packS (x := 4) (packS (x := 3) (packS (x := 2) (pack1 (x := 0) rfl) rfl) rfl) rfl) rfl) rfl) rfl), rfl, hX29, hlek21, (by omega), (gr_no hbst (fun p => h31 p.1)), ho30⟩
    omega
   refine wp_exit ?_
   refine s_thenE ?_
   refine s_lopE ?_
   refine s_blkE ?_
   refine s_then (s_seq (c_reg ?_))
   refine qd rfl rfl rfl (r_move (v := (.bool bst)) rfl) ?_
   refine qe (s_then ?_)
   refine c_if rfl rfl (fun h61 => ?_) (fun h61 => ?_)
   ·skip
    refine c_reg ?_
    refine qd rfl rfl rfl (r_move (v := ov) rfl) ?_
    refine qd rfl rfl rfl (r_move (v := (.int .i64 (i : Int))) rfl) ?_
    refine q1 rfl rfl rfl (o_buildF (E := eInt) (e := 3) [(.int .i64 (i : Int))] [(i : Int)] Tryd.underlying40 sz3 zr3 (by exact reps1 (by rfl)) (ones1 (by rfl)) rfl rfl rfl rfl (by decide) hX24.pins (fun u62 w63 ho64 hp65 hl66 hk67 => ?_))
    have hX68 := hX24.step hp65 hl66
    have ho69 := hw25.below hl66
    have ho71 : Own eInt 3 GL2 w63 w.heap.size u62 ([(i : Int)]) := ho64.weaken hX24.size
    refine q1 rfl rfl rfl (o_append (E := eInt) (v := ov) (u := u62) 8 Tryd.underlying40 ap3 (by decide) rfl rfl hX68.pins ho69 ho71.src (by first | omega | (rw [List.nil_append]; omega) | (rw [List.length_nil]; omega) | (rw [List.length_append]; omega) | (simp; done) | (simp; omega) | (simp only [List.length_append, List.length_cons, List.length_nil]; omega)) (by first | omega | (rw [List.nil_append]; omega) | (rw [List.length_nil]; omega) | (rw [List.length_append]; omega) | (simp; done) | (simp; omega) | (simp only [List.length_append, List.length_cons, List.length_nil]; omega)) (hX68.size) (fun u72 w73 ho74 hp75 hg76 hw77 => ?_))
    have hX78 := hX68.write hp75 hg76 ((lo_own ho69))
    have hm81 : (out ++ ([(i : Int)])).length = out.length + 1 := List.length_append
    refine qd rfl rfl rfl (r_assign (v := u72) rfl) ?_
    refine qe ?_
    refine s_blkN ?_
    refine s_then (c_reg ?_)
    refine qd rfl rfl rfl (r_move (v := (.int .i64 (i : Int))) rfl) ?_
    refine qd rfl rfl rfl (r_add rfl rfl (by omega)) ?_
    refine qd rfl rfl rfl (r_assign (v := (.int .i64 ((i : Int) + 1))) rfl) ?_
    refine qe ?_
    refine s_lopN ?_
    have hkn : j = fs.length := by omega
    rw [hkn] at hbst
    rw [h61] at hbst
    refine ⟨_, ?_, _, rfl, _, i + 1, u72, out ++ ([(i : Int)]), GL2, (packS (x := 5) (packS (x := 4) (packS (x := 3) (packS (x := 2) (pack1 (x := 0) rfl) rfl) rfl) rfl) rfl), rfl, hX78, (Pin.le_trans hlek15 hlek21), (by omega), (by rw [gr_take hbst, hout]), ho74⟩
    omega
   refine wp_skip ?_
   refine s_blkN ?_
   refine s_then (c_reg ?_)
   refine qd rfl rfl rfl (r_move (v := (.int .i64 (i : Int))) rfl) ?_
   refine qd rfl rfl rfl (r_add rfl rfl (by omega)) ?_
   refine qd rfl rfl rfl (r_assign (v := (.int .i64 ((i : Int) + 1))) rfl) ?_
   refine qe ?_
   refine s_lopN ?_
   have hkn : j = fs.length := by omega
   rw [hkn] at hbst
   refine ⟨_, ?_, _, rfl, _, i + 1, ov, out, GL2, (packS (x := 5) (packS (x := 4) (packS (x := 3) (packS (x := 2) (pack1 (x := 0) rfl) rfl) rfl) rfl) rfl), rfl, hX24, (Pin.le_trans hlek15 hlek21), (by omega), (by rw [gr_leave hbst h61, hout]), hw25⟩
   omega
  refine wp_exit ?_
  refine s_thenE ?_
  refine s_lopE ?_
  refine s_blkE ?_
  refine s_then (s_seq (c_reg ?_))
  refine qd rfl rfl rfl (r_move (v := ov) rfl) ?_
  refine qd rfl rfl rfl (r_assign (v := ov) rfl) ?_
  refine qd rfl rfl rfl (r_assign (v := (.bool true)) rfl) ?_
  refine qe (s_then ?_)
  refine wp_ret ?_
  refine s_ret ?_
  refine c_ret2 (v := ov) (u := (.bool true)) rfl rfl rfl rfl rfl ?_
  have hag : decP (AllG fs) = true := h14
  have hin : i = fs.length := by omega
  rw [hin] at hout
  rw [hag, gr_good (decP_true.1 hag), ← hout]
  exact ⟨_, _, rfl, hw19, hX18⟩
 refine s_seq (c_reg ?_)
 refine qd rfl rfl rfl (r_move (v := u1) rfl) ?_
 refine qd rfl rfl rfl (r_assign (v := u1) rfl) ?_
 refine qd rfl rfl rfl (r_assign (v := (.bool false)) rfl) ?_
 refine qe (s_then ?_)
 refine wp_ret ?_
 refine s_ret ?_
 refine c_ret2 (v := u1) (u := (.bool false)) rfl rfl rfl rfl rfl ?_
 have hag : decP (AllG fs) = false := h14
 rw [hag, gr_bad hag]
 exact ⟨_, _, rfl, ho13, hX12⟩

end GS1
end Go.Proofs.YtkfgdhanaijddaaDoor

set_option maxRecDepth 20000
set_option maxHeartbeats 2000000
namespace Go.Proofs.YtkfgdhanaijddaaDoor
namespace GI1
open Go.RowKit Go.GL Go.Proofs
open Go.Proofs.YtkfgdhanaijddaaDoor.B1
open Go.Proofs.YtkfgdhanaijddaaDoor.K1
open Go.Proofs.YtkfgdhanaijddaaDoor.PO1
open Go.Proofs.YtkfgdhanaijddaaDoor.PL1












theorem roots_spec {w : World} {G : Pin} {p : Nat} {L R B : Value} {mm : PM} {q : PSt} (hP : Pins G w) (hpk : Pk 40 3 G w p L R B mm q) (hok : PoolOk q) {x : Value} {fs : List (List Nd)} (hx : RSl (eSl eNode) G x fs) (hl : fs.length ≤ 24) (hq0 : q.ns.length + 120 * fs.length ≤ 1048576) :
  Calls Tryd.prog 38 [(.pointer (some ⟨p, 0, none⟩)), x].toArray w fun e w' => ∃ (u : Value) (zs : List Int) (ok : Bool) (L' R' B' : Value) (q' : PSt) (G' : Pin), e = .returned (.tuple #[u, .bool ok]) ∧ Pk 40 3 G' w' p L' R' B' mm q' ∧ PoolOk q' ∧ PX q q' ∧ PLo w p L R B mm L' R' B' ∧ Ext (inP p L R B mm) G w G' w' ∧ Own eInt 3 G' w' w.heap.size u zs ∧ NP p L' R' B' mm u.ownBlock ∧ ((ok = true → RtOk fs q q' fs.length zs) ∧ (ok = false → ∃ i, i < fs.length ∧ goodB (fs.getD i []) = false)) := by
 refine s_enter (n := 27) Tryd.func38 Tryd.ntmps38 rfl rfl ?_
 have hX0 : Ext (inP p L R B mm) G w G w := Ext.refl hP
 have hpin : PIn w (inP p L R B mm) p L R B mm := PIn.self
 have hml1 : (q.ns.map Nd.l).length = q.ns.length ∧ (q.ns.map Nd.r).length = q.ns.length := ⟨List.length_map .., List.length_map ..⟩
 have hml2 : q.bs.length = q.ns.length ∧ q.ns.length ≤ 1048576 := ⟨hok.ar.ok.len, hok.ar.ok.lim⟩
 have hm := hx.max
 refine s_seq (c_reg ?_)
 refine qd rfl rfl rfl (r_assign (v := (.slice none 0 0)) rfl) ?_
 refine qd rfl rfl rfl (r_assign (v := (.bool false)) rfl) ?_
 refine qe (s_then (s_seq (c_reg ?_)))
 refine q1 rfl rfl rfl (o_build0 (E := eInt) (e := 3) Tryd.underlying40 sz3 hX0.pins (fun u3 w4 ho5 hp6 hl7 hk8 => ?_))
 have hX9 := hX0.step hp6 hl7
 have hpk10 := hpk.below hl7 hp6
 have ha15 := hpk.new (x := u3.ownBlock) (fun k hk => by rw [hk8] at hk; cases hk; exact Nat.le_refl _)
 have ho16 : Own eInt 3 G w4 w.heap.size u3 ([]) := ho5.weaken hX0.size
 refine qd rfl rfl rfl (r_assign (v := u3) rfl) ?_
 refine qe (s_then (s_seq (s_seq (c_reg ?_))))
 refine qd rfl rfl rfl (r_move (v := x) rfl) ?_
 refine qd rfl rfl rfl (run_len Tryd.underlying38 (v := x) rfl hx) ?_
 refine qd rfl rfl rfl (r_move (v := (.int .i64 0)) rfl) ?_
 refine qe (s_then ?_)
 refine s_blk ?_
 refine s_loop (fun (k : Nat) (en : Nat → Value) (W : World) => ∃ (env1 : Nat → Value) (j : Nat) (zv : Value) (zs : List Int) (L17 : Value) (R18 : Value) (B19 : Value) (q20 : PSt) (GL1 : Pin), en = (upd (upd (upd (upd (upd env1 0 (.pointer (some ⟨p, 0, none⟩))) 6 zv) 10 x) 11 (.int .i64 (fs.length : Int))) 12 (.int .i64 (j : Int))) ∧ k = fs.length - j ∧ Ext (inP p L R B mm) G w GL1 W ∧ Pin.le G GL1 ∧ (j ≤ fs.length) ∧ (RtOk fs q q20 j zs) ∧ (Own eInt 3 GL1 W w.heap.size zv (zs)) ∧ (Pk 40 3 GL1 W p L17 R18 B19 mm q20) ∧ (PIn w ((inP p L R B mm)) p L17 R18 B19 mm) ∧ (PoolOk q20) ∧ (PX q q20) ∧ (NP p L17 R18 B19 mm zv.ownBlock)) _ ⟨_, 0, u3, [], L, R, B, q, G, (packS (x := 12) (packS (x := 11) (packS (x := 10) (packS (x := 6) (pack1 (x := 0) rfl) rfl) rfl) rfl) rfl), rfl, hX9, Pin.le_refl _, Nat.zero_le _, RtOk.start, ho16, hpk10, hpin, hok, (PX.refl _), ha15⟩ ?_
 rintro k21 _ w22 ⟨env1, j, zv, zs, L17, R18, B19, q20, GL1, rfl, hk23, hX24, hlek21, hj, hrt, hw25, hpk26, hpin27, hok28, hpx29, hnp30⟩
 have hql31 := hpx29.len
 have hml32 : (q20.ns.map Nd.l).length = q20.ns.length ∧ (q20.ns.map Nd.r).length = q20.ns.length := ⟨List.length_map .., List.length_map ..⟩
 have hml33 : q20.bs.length = q20.ns.length ∧ q20.ns.length ≤ 1048576 := ⟨hok28.ar.ok.len, hok28.ar.ok.lim⟩
 have hzl := hrt.len
 have hzh := hrt.hi
 refine s_seq (c_reg ?_)
 refine qd rfl rfl rfl (r_lss rfl rfl) ?_
 refine qe (s_then (s_seq ?_))
 refine c_ifd (p := ((j : Int) : Int) < (fs.length : Int)) rfl rfl (fun h34 => ?_) (fun h34 => ?_)
 ·skip
  refine wp_skip ?_
  refine s_then (s_seq ?_)
  refine s_blk ?_
  refine s_seq (c_reg ?_)
  refine qd rfl rfl rfl (run_idx Tryd.underlying38 sz26 (v := x) rfl rfl hx (by omega) (by omega)) ?_
  obtain ⟨u35, hr36, hl37⟩ := nm_form (hx.at (z := (j : Int)) (by omega) (by omega)) (j := j) rfl
  have hm38 := hr36.max
  refine qd rfl rfl rfl (hl37 ag26 sz26 rfl (Pins.of_le hX24.pins hlek21)) ?_
  refine q1 rfl rfl rfl (o_alloc [(.slice none 0 0)] zr26 rfl hX24.pins (fun b39 w40 hk41 hb42 hp43 hl44 => ?_))
  have hX45 := hX24.step hp43 hl44
  have ho46 := hw25.below hl44
  have hpk47 := hpk26.below hl44 hp43
  have ha48 : Apart (some b39) zv.ownBlock := new_ne_own (congrArg some hk41) hw25.lt
  have ha53 := hpk26.new (x := (some b39)) (fun k hk => by rw [(congrArg some hk41)] at hk; cases hk; exact Nat.le_refl _)
  have hlo54 : w.heap.size ≤ b39 := by have := hX24.size; omega
  refine q0 rfl rfl rfl (o_stp (cs' := [u35]) (us := [u35]) (v := (.agg [u35].toArray)) sz26 rfl rfl rfl (ones1 hr36.one) hX45.pins hb42 (Nat.le_of_ble_eq_true rfl) rfl (fun w55 hb56 hp57 hg58 hz59 => ?_))
  have hX60 := hX45.write hp57 hg58 ((lo_box hlo54))
  have ho61 := ho46.keptA hg58 ha48.symm
  have hpk62 := hpk47.kept hg58 hp57 ha53
  obtain ⟨G63, hle64, hX65, hbp66, hf67⟩ := hb56.shut hX60 hlo54
  have ho68 := ho61.moreA hle64 hf67 ha48.symm
  have hpk69 := hpk62.more hle64 hf67 ha53
  refine qe (s_then (s_seq (s_seq (c_reg ?_))))
  refine qd rfl rfl rfl (r_ldpA (cs := [u35]) ag26 sz26 rfl (fun j u hj => hX65.pins _ _ _ (hbp66 _ _ (by simpa using hj)))) ?_
  refine q1 rfl rfl rfl (o_call (vs := [(.agg [u35].toArray)]) Tryd.func25 nm25 rfl rfl rfl ?_)
  refine Calls.mono (goodForm_spec hX65.pins (hr36.mono (Pin.le_trans hlek21 hle64))) ?_
  rintro _ w71 ⟨G70, rfl, hx72⟩
  refine ⟨_, rfl, ?_⟩
  have hX73 := hX65.tr hx72
  have ho74 := ho68.ext hx72
  have hpk75 := hpk69.ext hx72
  refine qd rfl rfl rfl (r_not rfl) ?_
  refine qe (s_then ?_)
  refine c_ifn rfl rfl (fun h76 => ?_) (fun h76 => ?_)
  ·skip
   refine wp_skip ?_
   refine s_then (c_reg ?_)
   refine qd rfl rfl rfl (r_move (v := zv) rfl) ?_
   refine qd rfl rfl rfl (r_move (v := (.pointer (some ⟨p, 0, none⟩))) rfl) ?_
   refine qd rfl rfl rfl (r_ldpA (cs := [u35]) ag26 sz26 rfl (fun j u hj => (Pins.of_le hX73.pins hx72.le) _ _ _ (hbp66 _ _ (by simpa using hj)))) ?_
   have hgd77 : GoodP (fs.getD j []) := goodB_true.1 h76
   have hgd77l := hgd77.lo
   have hgd77h := hgd77.hi
   refine q1 rfl rfl rfl (o_call (vs := [(.pointer (some ⟨p, 0, none⟩)), (.agg [u35].toArray)]) Tryd.func28 nm28 rfl rfl rfl ?_)
   refine Calls.mono (root_spec hX73.pins hpk75 hok28 (hr36.mono (Pin.le_trans (Pin.le_trans hlek21 hle64) hx72.le)) (good_form hgd77) (by omega) (by omega)) ?_
   rintro _ w87 ⟨z78, L82, R83, B84, q85, G86, rfl, hpk88, hok89, hpx90, hlo91, hx92, hpl79, hpd80, hqn81⟩
   refine ⟨_, rfl, ?_⟩
   have hX93 := hX73.trans hx92 hpin27
   have ho94 := ho74.extS hx92 hnp30
   have hnp95 := NP.call hnp30 hlo91 (own_lt ho74)
   have hpin96 := PIn.call hpin27 hlo91 hX73.size
   have hql97 := hpx90.len
   have hml98 : (q85.ns.map Nd.l).length = q85.ns.length ∧ (q85.ns.map Nd.r).length = q85.ns.length := ⟨List.length_map .., List.length_map ..⟩
   have hml99 : q85.bs.length = q85.ns.length ∧ q85.ns.length ≤ 1048576 := ⟨hok89.ar.ok.len, hok89.ar.ok.lim⟩
   refine q1 rfl rfl rfl (o_buildF (E := eInt) (e := 3) [(.int .i64 z78)] [z78] Tryd.underlying40 sz3 zr3 (by exact reps1 (by rfl)) (ones1 (by rfl)) rfl rfl rfl rfl (by decide) hX93.pins (fun u100 w101 ho102 hp103 hl104 hk105 => ?_))
   have hX106 := hX93.step hp103 hl104
   have ho107 := ho94.below hl104
   have hpk108 := hpk88.below hl104 hp103
   have ho115 : Own eInt 3 G86 w101 w.heap.size u100 ([z78]) := ho102.weaken hX93.size
   refine q1 rfl rfl rfl (o_append (E := eInt) (v := zv) (u := u100) 8 Tryd.underlying40 ap3 (by decide) rfl rfl hX106.pins ho107 ho115.src (by first | omega | (rw [List.nil_append]; omega) | (rw [List.length_nil]; omega) | (rw [List.length_append]; omega) | (simp; done) | (simp; omega) | (simp only [List.length_append, List.length_cons, List.length_nil]; omega)) (by first | omega | (rw [List.nil_append]; omega) | (rw [List.length_nil]; omega) | (rw [List.length_append]; omega) | (simp; done) | (simp; omega) | (simp only [List.length_append, List.length_cons, List.length_nil]; omega)) (hX106.size) (fun u116 w117 ho118 hp119 hg120 hw121 => ?_))
   have hX122 := hX106.write hp119 hg120 ((lo_own ho107))
   have hpk124 := hpk108.kept hg120 hp119 hnp95
   have hnp126 := np_app hnp95 hpk108 hw121
   have hm127 : (zs ++ ([z78])).length = zs.length + 1 := List.length_append
   refine qd rfl rfl rfl (r_assign (v := u116) rfl) ?_
   refine qe ?_
   refine s_blkN ?_
   refine s_then (c_reg ?_)
   refine qd rfl rfl rfl (r_add rfl rfl (by omega)) ?_
   refine qd rfl rfl rfl (r_move (v := (.int .i64 ((j : Int) + 1))) rfl) ?_
   refine qe ?_
   refine s_lopN ?_
   refine ⟨_, ?_, _, rfl, _, j + 1, u116, zs ++ ([z78]), L82, R83, B84, q85, G86, (packS (x := 12) (packS (x := 11) (packS (x := 10) (packS (x := 6) (pack1 (x := 0) rfl) rfl) rfl) rfl) rfl), rfl, hX122, (Pin.le_trans (Pin.le_trans (Pin.le_trans hlek21 hle64) hx72.le) hx92.le), (by omega), (hrt.step hgd77 hok28 hok89 hpx90 hpl79 hpd80 hqn81), ho118, hpk124, hpin96, hok89, (PX.trans hpx29 hpx90), hnp126⟩
   omega
  refine s_seq (c_reg ?_)
  refine qd rfl rfl rfl (r_assign (v := (.slice none 0 0)) rfl) ?_
  refine qd rfl rfl rfl (r_assign (v := (.bool false)) rfl) ?_
  refine qe (s_then ?_)
  refine wp_ret ?_
  refine s_ret ?_
  refine c_ret2 (v := (.slice none 0 0)) (u := (.bool false)) rfl rfl rfl rfl rfl ?_
  exact ⟨.slice none 0 0, [], false, L17, R18, B19, q20, G70, rfl, hpk75, hok28, hpx29, PIn.lo hpin27 rfl, hX73, (Own.nil _ _ _ _ _), np_none, ⟨(fun h => by cases h), (fun _ => ⟨j, by omega, h76⟩)⟩⟩
 refine wp_exit ?_
 refine s_thenE ?_
 refine s_lopE ?_
 refine s_blkE ?_
 refine s_then (s_seq (c_reg ?_))
 refine qd rfl rfl rfl (r_move (v := zv) rfl) ?_
 refine qd rfl rfl rfl (r_assign (v := zv) rfl) ?_
 refine qd rfl rfl rfl (r_assign (v := (.bool true)) rfl) ?_
 refine qe (s_then ?_)
 refine wp_ret ?_
 refine s_ret ?_
 refine c_ret2 (v := zv) (u := (.bool true)) rfl rfl rfl rfl rfl ?_
 have hjn : j = fs.length := by omega
 rw [hjn] at hrt
 exact ⟨zv, zs, true, L17, R18, B19, q20, GL1, rfl, hpk26, hok28, hpx29, PIn.lo hpin27 rfl, hX24, hw25, hnp30, ⟨(fun _ => hrt), (fun h => by cases h)⟩⟩

theorem iGreatestOf_spec {w : World} {G : Pin} {v : Value} {fs : List (List Nd)} (hP : Pins G w) (hv : RSl (eSl eNode) G v fs) :
  Calls Tryd.prog 20 [v].toArray w fun e w' => ∃ (u : Value) (G' : Pin), e = .returned (.tuple #[u, .bool (decP (AllG fs))]) ∧ Own eInt 3 G' w' w.heap.size u (grF fs) ∧ Ext noS G w G' w' := by
 refine s_enter (n := 71) Tryd.func20 Tryd.ntmps20 rfl rfl ?_
 have hX0 : Ext noS G w G w := Ext.refl hP
 have hm := hv.max
 refine s_seq (c_reg ?_)
 refine qd rfl rfl rfl (r_assign (v := (.slice none 0 0)) rfl) ?_
 refine qd rfl rfl rfl (r_assign (v := (.bool false)) rfl) ?_
 refine qe (s_then (s_seq (c_reg ?_)))
 refine q1 rfl rfl rfl (o_call (vs := []) Tryd.func26 nm26 rfl rfl rfl ?_)
 refine Calls.mono (newPool_spec hX0.pins) ?_
 rintro _ w4 ⟨p1, mm2, G3, rfl, hpk5, hfr6, hx7⟩
 refine ⟨_, rfl, ?_⟩
 have hX11 := hX0.tr hx7
 have hpin12 : PIn w (noS) p1 (.slice none 0 0) (.slice none 0 0) (.slice none 0 0) mm2 := PIn.fresh hfr6 hX0.size
 obtain ⟨q8, hq9⟩ : ∃ q, q = (⟨[], [], [], [], [], [], []⟩ : PSt) := ⟨_, rfl⟩
 rw [← hq9] at hpk5
 have hok10 : PoolOk q8 := by rw [hq9]; exact PoolOk.empty
 have hq9l : q8.ns.length = 0 := by rw [hq9]; rfl
 obtain ⟨L13, R14, B15, eL13, eR14, eB15⟩ : ∃ (l r b : Value), l = .slice none 0 0 ∧ r = .slice none 0 0 ∧ b = .slice none 0 0 := ⟨_, _, _, rfl, rfl, rfl⟩
 have hpk52 : Pk 40 3 G3 w4 p1 L13 R14 B15 mm2 q8 := by rw [eL13, eR14, eB15]; exact hpk5
 have hpin122 : PIn w (noS) p1 L13 R14 B15 mm2 := by rw [eL13, eR14, eB15]; exact hpin12
 have hml16 : (q8.ns.map Nd.l).length = q8.ns.length ∧ (q8.ns.map Nd.r).length = q8.ns.length := ⟨List.length_map .., List.length_map ..⟩
 have hml17 : q8.bs.length = q8.ns.length ∧ q8.ns.length ≤ 1048576 := ⟨hok10.ar.ok.len, hok10.ar.ok.lim⟩
 refine qd rfl rfl rfl (r_assign (v := (.pointer (some ⟨p1, 0, none⟩))) rfl) ?_
 refine qe (s_then (s_seq (s_seq (c_reg ?_))))
 refine qd rfl rfl rfl (r_move (v := v) rfl) ?_
 refine qd rfl rfl rfl (run_len Tryd.underlying38 (v := v) rfl hv) ?_
 refine qd rfl rfl rfl (r_gtr rfl rfl) ?_
 refine qe (s_then ?_)
 refine c_ifd (p := (24 : Int) < (fs.length : Int)) rfl rfl (fun h18 => ?_) (fun h18 => ?_)
 ·skip
  refine s_seq (c_reg ?_)
  refine q1 rfl rfl rfl (o_build0 (E := eInt) (e := 3) Tryd.underlying40 sz3 hX11.pins (fun u19 w20 ho21 hp22 hl23 hk24 => ?_))
  have hX25 := hX11.step hp22 hl23
  have ho32 : Own eInt 3 G3 w20 w.heap.size u19 ([]) := ho21.weaken hX11.size
  refine qd rfl rfl rfl (r_assign (v := u19) rfl) ?_
  refine qd rfl rfl rfl (r_assign (v := (.bool false)) rfl) ?_
  refine qe (s_then ?_)
  refine wp_ret ?_
  refine s_ret ?_
  refine c_ret2 (v := u19) (u := (.bool false)) rfl rfl rfl rfl rfl ?_
  have hag : decP (AllG fs) = false := all_long (by omega)
  rw [hag, gr_bad hag]
  exact ⟨_, _, rfl, ho32, hX25⟩
 refine wp_skip ?_
 refine s_then (s_seq (c_reg ?_))
 refine qd rfl rfl rfl (r_move (v := (.pointer (some ⟨p1, 0, none⟩))) rfl) ?_
 refine qd rfl rfl rfl (r_move (v := v) rfl) ?_
 refine q1 rfl rfl rfl (o_call (vs := [(.pointer (some ⟨p1, 0, none⟩)), v]) Tryd.func38 nm38 rfl rfl rfl ?_)
 refine Calls.mono (roots_spec hX11.pins hpk52 hok10 (hv.mono hx7.le) (by omega) (by omega)) ?_
 rintro _ w39 ⟨u33, zs48, ok49, L34, R35, B36, q37, G38, rfl, hpk41, hok42, hpx43, hlo44, hx45, ho40, hnp47, hrt46⟩
 refine ⟨_, rfl, ?_⟩
 have hX50 := hX11.trans hx45 hpin122
 have hpin51 := PIn.call hpin122 hlo44 hX11.size
 have hql52 := hpx43.len
 have hml53 : (q37.ns.map Nd.l).length = q37.ns.length ∧ (q37.ns.map Nd.r).length = q37.ns.length := ⟨List.length_map .., List.length_map ..⟩
 have hml54 : q37.bs.length = q37.ns.length ∧ q37.ns.length ≤ 1048576 := ⟨hok42.ar.ok.len, hok42.ar.ok.lim⟩
 have ho55 := ho40.weaken hX11.size
 refine qd rfl rfl rfl (r_move (v := (.tuple #[u33, (.bool ok49)])) rfl) ?_
 refine qd rfl rfl rfl (r_extract (v := u33) rfl rfl) ?_
 refine qd rfl rfl rfl (r_extract (v := (.bool ok49)) rfl rfl) ?_
 refine qd rfl rfl rfl (r_assign (v := u33) rfl) ?_
 refine qd rfl rfl rfl (r_assign (v := (.bool ok49)) rfl) ?_
 refine qe (s_then (s_seq (s_seq (c_reg ?_))))
 refine qd rfl rfl rfl (r_move (v := (.bool ok49)) rfl) ?_
 refine qd rfl rfl rfl (r_not rfl) ?_
 refine qe (s_then ?_)
 refine c_ifn rfl rfl (fun h56 => ?_) (fun h56 => ?_)
 ·skip
  refine wp_skip ?_
  refine s_then (s_seq (c_reg ?_))
  have hrt := hrt46.1 h56
  have hzl := hrt.len
  have hAG : AllG fs := all_good (by omega) hrt.good
  refine q1 rfl rfl rfl (o_build0 (E := eInt) (e := 3) Tryd.underlying40 sz3 hX50.pins (fun u57 w58 ho59 hp60 hl61 hk62 => ?_))
  have hX63 := hX50.step hp60 hl61
  have ho64 := ho55.below hl61
  have hpk65 := hpk41.below hl61 hp60
  have ha69 : Apart u57.ownBlock u33.ownBlock := new_ne_own hk62 ho55.lt
  have ha71 := hpk41.new (x := u57.ownBlock) (fun k hk => by rw [hk62] at hk; cases hk; exact Nat.le_refl _)
  have ho72 : Own eInt 3 G38 w58 w.heap.size u57 ([]) := ho59.weaken hX50.size
  refine qd rfl rfl rfl (r_assign (v := u57) rfl) ?_
  refine qe (s_then (s_seq (s_seq (c_reg ?_))))
  refine qd rfl rfl rfl (r_move (v := u33) rfl) ?_
  refine qd rfl rfl rfl (run_len Tryd.underlying40 (v := u33) rfl ho64.read) ?_
  refine qd rfl rfl rfl (r_move (v := (.int .i64 0)) rfl) ?_
  refine qe (s_then ?_)
  refine s_blk ?_
  refine s_loop (fun (k : Nat) (en : Nat → Value) (W : World) => ∃ (env1 : Nat → Value) (i : Nat) (ov : Value) (out : List Int) (q76 : PSt) (GL1 : Pin), en = (upd (upd (upd (upd (upd (upd (upd (upd env1 2 (.slice none 0 0)) 3 (.bool false)) 4 (.pointer (some ⟨p1, 0, none⟩))) 5 u33) 7 ov) 28 u33) 29 (.int .i64 (zs48.length : Int))) 30 (.int .i64 (i : Int))) ∧ k = fs.length - i ∧ Ext noS G w GL1 W ∧ Pin.le G38 GL1 ∧ (i ≤ fs.length) ∧ (out = grL (gF fs) fs.length i) ∧ (Own eInt 3 GL1 W w.heap.size ov (out)) ∧ (Own eInt 3 GL1 W w.heap.size u33 (zs48)) ∧ (Apart ov.ownBlock u33.ownBlock) ∧ (Pk 40 3 GL1 W p1 L34 R35 B36 mm2 q76) ∧ (PoolOk q76) ∧ (PX q37 q76) ∧ (q76.ns = q37.ns ∧ q76.bs = q37.bs) ∧ (NP p1 L34 R35 B36 mm2 ov.ownBlock)) _ ⟨_, 0, u57, [], q37, G38, (packS (x := 30) (packS (x := 29) (packS (x := 28) (packS (x := 7) (packS (x := 5) (packS (x := 4) (packS (x := 3) (pack1 (x := 2) rfl) rfl) rfl) rfl) rfl) rfl) rfl) rfl), rfl, hX63, Pin.le_refl _, Nat.zero_le _, rfl, ho72, ho64, ha69, hpk65, hok42, (PX.refl _), ⟨rfl, rfl⟩, ha71⟩ ?_
  rintro k77 _ w78 ⟨env1, i, ov, out, q76, GL1, rfl, hk79, hX80, hlek77, hi, hout, hw81, hw82, ha83, hpk84, hok85, hpx86, hqn87, hnp88⟩
  have hql89 := hpx86.len
  have hml90 : (q76.ns.map Nd.l).length = q76.ns.length ∧ (q76.ns.map Nd.r).length = q76.ns.length := ⟨List.length_map .., List.length_map ..⟩
  have hml91 : q76.bs.length = q76.ns.length ∧ q76.ns.length ≤ 1048576 := ⟨hok85.ar.ok.len, hok85.ar.ok.lim⟩
  have hol : out.length ≤ i := by rw [hout]; exact gr_len i
  refine s_seq (c_reg ?_)
  refine qd rfl rfl rfl (r_lss rfl rfl) ?_
  refine qe (s_then (s_seq ?_))
  refine c_ifd (p := ((i : Int) : Int) < (zs48.length : Int)) rfl rfl (fun h92 => ?_) (fun h92 => ?_)
  ·skip
   refine wp_skip ?_
   refine s_then (s_seq ?_)
   refine s_blk ?_
   refine s_seq (c_reg ?_)
   refine qd rfl rfl rfl (r_move (v := (.int .i64 (i : Int))) rfl) ?_
   refine qd rfl rfl rfl (run_idx Tryd.underlying40 sz3 (v := u33) rfl rfl hw82.read (by omega) (by omega)) ?_
   refine qd rfl rfl rfl (run_load_int (r := zs48.getD i 0) rfl ag3 (z := (i : Int)) rfl hw82.read (Gadd.pins hX80.pins u33) (by omega) (by omega)) ?_
   refine qd rfl rfl rfl (r_assign (v := (.int .i64 (i : Int))) rfl) ?_
   refine qd rfl rfl rfl (r_assign (v := (.int .i64 (zs48.getD i 0))) rfl) ?_
   refine qe (s_then (s_seq (c_reg ?_)))
   refine qd rfl rfl rfl (r_assign (v := (.bool true)) rfl) ?_
   refine qe (s_then (s_seq (s_seq (c_reg ?_))))
   refine qd rfl rfl rfl (r_move (v := u33) rfl) ?_
   refine qd rfl rfl rfl (run_len Tryd.underlying40 (v := u33) rfl hw82.read) ?_
   refine qd rfl rfl rfl (r_move (v := (.int .i64 0)) rfl) ?_
   refine qe (s_then ?_)
   refine s_blk ?_
   refine s_loop (fun (k : Nat) (en : Nat → Value) (W : World) => ∃ (env1 : Nat → Value) (j : Nat) (bst : Bool) (q96 : PSt) (GL2 : Pin), en = (upd (upd (upd (upd (upd (upd (upd (upd (upd (upd (upd (upd (upd (upd env1 2 (.slice none 0 0)) 3 (.bool false)) 4 (.pointer (some ⟨p1, 0, none⟩))) 5 u33) 7 ov) 8 (.int .i64 (i : Int))) 9 (.int .i64 (zs48.getD i 0))) 10 (.bool bst)) 28 u33) 29 (.int .i64 (zs48.length : Int))) 30 (.int .i64 (i : Int))) 35 u33) 36 (.int .i64 (zs48.length : Int))) 37 (.int .i64 (j : Int))) ∧ k = fs.length - j ∧ Ext noS G w GL2 W ∧ Pin.le GL1 GL2 ∧ (j ≤ fs.length) ∧ (bst = grB (gF fs) i j) ∧ (Own eInt 3 GL2 W w.heap.size ov (out)) ∧ (Own eInt 3 GL2 W w.heap.size u33 (zs48)) ∧ (Pk 40 3 GL2 W p1 L34 R35 B36 mm2 q96) ∧ (PoolOk q96) ∧ (PX q76 q96) ∧ (q96.ns = q76.ns ∧ q96.bs = q76.bs)) _ ⟨_, 0, true, q76, GL1, (packS (x := 37) (packS (x := 36) (packS (x := 35) (packS (x := 30) (packS (x := 29) (packS (x := 28) (packS (x := 10) (packS (x := 9) (packS (x := 8) (packS (x := 7) (packS (x := 5) (packS (x := 4) (packS (x := 3) (pack1 (x := 2) rfl) rfl) rfl) rfl) rfl) rfl) rfl) rfl) rfl) rfl) rfl) rfl) rfl) rfl), rfl, hX80, Pin.le_refl _, Nat.zero_le _, gr_start, hw81, hw82, hpk84, hok85, (PX.refl _), ⟨rfl, rfl⟩⟩ ?_
   rintro k97 _ w98 ⟨env1, j, bst, q96, GL2, rfl, hk99, hX100, hlek97, hk, hbst, hw101, hw102, hpk103, hok104, hpx105, hqn106⟩
   have hql107 := hpx105.len
   have hml108 : (q96.ns.map Nd.l).length = q96.ns.length ∧ (q96.ns.map Nd.r).length = q96.ns.length := ⟨List.length_map .., List.length_map ..⟩
   have hml109 : q96.bs.length = q96.ns.length ∧ q96.ns.length ≤ 1048576 := ⟨hok104.ar.ok.len, hok104.ar.ok.lim⟩
   refine s_seq (c_reg ?_)
   refine qd rfl rfl rfl (r_lss rfl rfl) ?_
   refine qe (s_then (s_seq ?_))
   refine c_ifd (p := ((j : Int) : Int) < (zs48.length : Int)) rfl rfl (fun h110 => ?_) (fun h110 => ?_)
   ·skip
    refine wp_skip ?_
    refine s_then (s_seq ?_)
    refine s_blk ?_
    refine s_seq (c_reg ?_)
    refine qd rfl rfl rfl (r_move (v := (.int .i64 (j : Int))) rfl) ?_
    refine qd rfl rfl rfl (run_idx Tryd.underlying40 sz3 (v := u33) rfl rfl hw102.read (by omega) (by omega)) ?_
    refine qd rfl rfl rfl (run_load_int (r := zs48.getD j 0) rfl ag3 (z := (j : Int)) rfl hw102.read (Gadd.pins hX100.pins u33) (by omega) (by omega)) ?_
    refine qd rfl rfl rfl (r_assign (v := (.int .i64 (j : Int))) rfl) ?_
    refine qd rfl rfl rfl (r_assign (v := (.int .i64 (zs48.getD j 0))) rfl) ?_
    refine qe (s_then (s_seq (c_reg ?_)))
    refine qd rfl rfl rfl (r_move (v := (.int .i64 (j : Int))) rfl) ?_
    refine qd rfl rfl rfl (r_move (v := (.int .i64 (i : Int))) rfl) ?_
    refine qd rfl rfl rfl (r_neq rfl rfl) ?_
    refine qd rfl rfl rfl (r_move (v := (.bool (decide (((j : Int) : Int) ≠ (i : Int))))) rfl) ?_
    refine qbd (p := ((j : Int) : Int) ≠ (i : Int)) (t := 45) rfl (fun h111 => ?_) (fun h111 => ?_)
    ·skip
     refine qdg rfl rfl rfl rfl rfl rfl (r_move (v := (.pointer (some ⟨p1, 0, none⟩))) rfl) ?_
     refine qdg rfl rfl rfl rfl rfl rfl (r_move (v := (.int .i64 (zs48.getD j 0))) rfl) ?_
     refine qdg rfl rfl rfl rfl rfl rfl (r_move (v := (.int .i64 (zs48.getD i 0))) rfl) ?_
     refine q1g rfl rfl rfl rfl rfl rfl (o_call (vs := [(.pointer (some ⟨p1, 0, none⟩)), (.int .i64 (zs48.getD j 0)), (.int .i64 (zs48.getD i 0))]) Tryd.func27 nm27 rfl rfl rfl ?_)
     refine Calls.mono (ge_spec hX100.pins hpk103 hok104 (hrt.same (ns_trans hqn87 hqn106) (i := j) (by omega)) (hrt.same (ns_trans hqn87 hqn106) (i := i) (by omega))) ?_
     rintro _ w114 ⟨q112, G113, rfl, hpk115, hok116, hpx117, hqn118, hx119⟩
     refine ⟨_, rfl, ?_⟩
     have hX120 := hX100.trans hx119 (fun i hi => (PIn.o hpin51) i hi)
     have ho121 := hw101.extS hx119 (notO (NP.ho hnp88))
     have ho122 := hw102.extS hx119 (notO (NP.ho hnp47))
     have hql123 := hpx117.len
     have hml124 : (q112.ns.map Nd.l).length = q112.ns.length ∧ (q112.ns.map Nd.r).length = q112.ns.length := ⟨List.length_map .., List.length_map ..⟩
     have hml125 : q112.bs.length = q112.ns.length ∧ q112.ns.length ≤ 1048576 := ⟨hok116.ar.ok.len, hok116.ar.ok.lim⟩
     have hql126 := congrArg List.length hqn118.1
     refine qd rfl rfl rfl (r_pickT (v := (.bool (geB q96.ns (zs48.getD j 0) (zs48.getD i 0)))) rfl rfl) ?_
     refine qd rfl rfl rfl (r_move (v := (.bool (geB q96.ns (zs48.getD j 0) (zs48.getD i 0)))) rfl) ?_
     refine qb (t := 51) rfl (fun h127 => ?_) (fun h127 => ?_)
     ·skip
      refine qdg rfl rfl rfl rfl rfl rfl (r_move (v := (.int .i64 (j : Int))) rfl) ?_
      refine qdg rfl rfl rfl rfl rfl rfl (r_move (v := (.int .i64 (i : Int))) rfl) ?_
      refine qdg rfl rfl rfl rfl rfl rfl (r_lss rfl rfl) ?_
      refine qdg rfl rfl rfl rfl rfl rfl (r_move (v := (.bool (decide (((j : Int) : Int) < (i : Int))))) rfl) ?_
      refine qbd (p := ((j : Int) : Int) < (i : Int)) (t := 55) rfl (fun h128 => ?_) (fun h128 => ?_)
      ·skip
       refine qs rfl rfl rfl rfl rfl rfl ?_
       refine qs rfl rfl rfl rfl rfl rfl ?_
       refine qs rfl rfl rfl rfl rfl rfl ?_
       refine qs rfl rfl rfl rfl rfl rfl ?_
       refine qs rfl rfl rfl rfl rfl rfl ?_
       refine qdg rfl rfl rfl rfl rfl rfl (r_pickT (v := (.bool true)) rfl rfl) ?_
       refine qd rfl rfl rfl (r_pickT (v := (.bool true)) rfl rfl) ?_
       refine qe (s_then ?_)
       refine c_ifT rfl rfl ?_
       refine c_reg ?_
       refine qd rfl rfl rfl (r_assign (v := (.bool false)) rfl) ?_
       refine qe ?_
       refine s_blkN ?_
       refine s_then (c_reg ?_)
       refine qd rfl rfl rfl (r_add rfl rfl (by omega)) ?_
       refine qd rfl rfl rfl (r_move (v := (.int .i64 ((j : Int) + 1))) rfl) ?_
       refine qe ?_
       refine s_lopN ?_
       refine ⟨_, ?_, _, rfl, _, j + 1, false, q112, G113, (packS (x := 37) (packS (x := 36) (packS (x := 35) (packS (x := 30) (packS (x := 29) (packS (x := 28) (packS (x := 10) (packS (x := 9) (packS (x := 8) (packS (x := 7) (packS (x := 5) (packS (x := 4) (packS (x := 3) (pack1 (x := 2) rfl) rfl) rfl) rfl) rfl) rfl) rfl) rfl) rfl) rfl) rfl) rfl) rfl) rfl), rfl, hX120, (Pin.le_trans hlek97 hx119.le), (by omega), (gr_yes ⟨h111, (decP_true.1 ((hrt.ge (ns_trans hqn87 hqn106) (by omega) (by omega)).symm.trans h127)), Or.inl h128⟩), ho121, ho122, hpk115, hok116, (PX.trans hpx105 hpx117), (ns_trans hqn106 hqn118)⟩
       omega
      refine qdg rfl rfl rfl rfl rfl rfl (r_move (v := (.pointer (some ⟨p1, 0, none⟩))) rfl) ?_
      refine qdg rfl rfl rfl rfl rfl rfl (r_move (v := (.int .i64 (zs48.getD i 0))) rfl) ?_
      refine qdg rfl rfl rfl rfl rfl rfl (r_move (v := (.int .i64 (zs48.getD j 0))) rfl) ?_
      refine q1g rfl rfl rfl rfl rfl rfl (o_call (vs := [(.pointer (some ⟨p1, 0, none⟩)), (.int .i64 (zs48.getD i 0)), (.int .i64 (zs48.getD j 0))]) Tryd.func27 nm27 rfl rfl rfl ?_)
      refine Calls.mono (ge_spec hX120.pins hpk115 hok116 (hrt.same (ns_trans (ns_trans hqn87 hqn106) hqn118) (i := i) (by omega)) (hrt.same (ns_trans (ns_trans hqn87 hqn106) hqn118) (i := j) (by omega))) ?_
      rintro _ w131 ⟨q129, G130, rfl, hpk132, hok133, hpx134, hqn135, hx136⟩
      refine ⟨_, rfl, ?_⟩
      have hX137 := hX120.trans hx136 (fun i hi => (PIn.o hpin51) i hi)
      have ho138 := ho121.extS hx136 (notO (NP.ho hnp88))
      have ho139 := ho122.extS hx136 (notO (NP.ho hnp47))
      have hql140 := hpx134.len
      have hml141 : (q129.ns.map Nd.l).length = q129.ns.length ∧ (q129.ns.map Nd.r).length = q129.ns.length := ⟨List.length_map .., List.length_map ..⟩
      have hml142 : q129.bs.length = q129.ns.length ∧ q129.ns.length ≤ 1048576 := ⟨hok133.ar.ok.len, hok133.ar.ok.lim⟩
      have hql143 := congrArg List.length hqn135.1
      refine qdg rfl rfl rfl rfl rfl rfl (r_not rfl) ?_
      refine qdg rfl rfl rfl rfl rfl rfl (r_pickF (v := (.bool (!(geB q112.ns (zs48.getD i 0) (zs48.getD j 0))))) rfl rfl) ?_
      refine qd rfl rfl rfl (r_pickT (v := (.bool (!(geB q112.ns (zs48.getD i 0) (zs48.getD j 0))))) rfl rfl) ?_
      refine qe (s_then ?_)
      refine c_ifn rfl rfl (fun h144 => ?_) (fun h144 => ?_)
      ·skip
       refine wp_skip ?_
       refine s_blkN ?_
       refine s_then (c_reg ?_)
       refine qd rfl rfl rfl (r_add rfl rfl (by omega)) ?_
       refine qd rfl rfl rfl (r_move (v := (.int .i64 ((j : Int) + 1))) rfl) ?_
       refine qe ?_
       refine s_lopN ?_
       refine ⟨_, ?_, _, rfl, _, j + 1, bst, q129, G130, (packS (x := 37) (packS (x := 36) (packS (x := 35) (packS (x := 30) (packS (x := 29) (packS (x := 28) (packS (x := 10) (packS (x := 9) (packS (x := 8) (packS (x := 7) (packS (x := 5) (packS (x := 4) (packS (x := 3) (pack1 (x := 2) rfl) rfl) rfl) rfl) rfl) rfl) rfl) rfl) rfl) rfl) rfl) rfl) rfl) rfl), rfl, hX137, (Pin.le_trans (Pin.le_trans hlek97 hx119.le) hx136.le), (by omega), (gr_no hbst (fun p => p.2.2.elim h128 (fun h => h (decP_true.1 ((hrt.ge (ns_trans (ns_trans hqn87 hqn106) hqn118) (by omega) (by omega)).symm.trans h144))))), ho138, ho139, hpk132, hok133, (PX.trans (PX.trans hpx105 hpx117) hpx134), (ns_trans (ns_trans hqn106 hqn118) hqn135)⟩
       omega
      refine c_reg ?_
      refine qd rfl rfl rfl (r_assign (v := (.bool false)) rfl) ?_
      refine qe ?_
      refine s_blkN ?_
      refine s_then (c_reg ?_)
      refine qd rfl rfl rfl (r_add rfl rfl (by omega)) ?_
      refine qd rfl rfl rfl (r_move (v := (.int .i64 ((j : Int) + 1))) rfl) ?_
      refine qe ?_
      refine s_lopN ?_
      refine ⟨_, ?_, _, rfl, _, j + 1, false, q129, G130, (packS (x := 37) (packS (x := 36) (packS (x := 35) (packS (x := 30) (packS (x := 29) (packS (x := 28) (packS (x := 10) (packS (x := 9) (packS (x := 8) (packS (x := 7) (packS (x := 5) (packS (x := 4) (packS (x := 3) (pack1 (x := 2) rfl) rfl) rfl) rfl) rfl) rfl) rfl) rfl) rfl) rfl) rfl) rfl) rfl) rfl), rfl, hX137, (Pin.le_trans (Pin.le_trans hlek97 hx119.le) hx136.le), (by omega), (gr_yes ⟨h111, (decP_true.1 ((hrt.ge (ns_trans hqn87 hqn106) (by omega) (by omega)).symm.trans h127)), Or.inr (decP_false.1 ((hrt.ge (ns_trans (ns_trans hqn87 hqn106) hqn118) (by omega) (by omega)).symm.trans h144))⟩), ho138, ho139, hpk132, hok133, (PX.trans (PX.trans hpx105 hpx117) hpx134), (ns_trans (ns_trans hqn106 hqn118) hqn135)⟩
      omega
     refine qs rfl rfl rfl rfl rfl rfl ?_
     refine qs rfl rfl rfl rfl rfl rfl ?_
     refine qs rfl rfl rfl rfl rfl rfl ?_
     refine qs rfl rfl rfl rfl rfl rfl ?_
     refine qsu rfl rfl rfl rfl rfl ?_
     refine qsu rfl rfl rfl rfl rfl ?_
     refine qsu rfl rfl rfl rfl rfl ?_
     refine qsu rfl rfl rfl rfl rfl ?_
     refine qsu rfl rfl rfl rfl rfl ?_
     refine qs rfl rfl rfl rfl rfl rfl ?_
     refine qd rfl rfl rfl (r_pickF (v := (.bool false)) rfl rfl) ?_
     refine qe (s_then ?_)
     refine c_ifF rfl rfl ?_
     refine wp_skip ?_
     refine s_blkN ?_
     refine s_then (c_reg ?_)
     refine qd rfl rfl rfl (r_add rfl rfl (by omega)) ?_
     refine qd rfl rfl rfl (r_move (v := (.int .i64 ((j : Int) + 1))) rfl) ?_
     refine qe ?_
     refine s_lopN ?_
     refine ⟨_, ?_, _, rfl, _, j + 1, bst, q112, G113, (packS (x := 37) (packS (x := 36) (packS (x := 35) (packS (x := 30) (packS (x := 29) (packS (x := 28) (packS (x := 10) (packS (x := 9) (packS (x := 8) (packS (x := 7) (packS (x := 5) (packS (x := 4) (packS (x := 3) (pack1 (x := 2) rfl) rfl) rfl) rfl) rfl) rfl) rfl) rfl) rfl) rfl) rfl) rfl) rfl) rfl), rfl, hX120, (Pin.le_trans hlek97 hx119.le), (by omega), (gr_no hbst (fun p => (decP_false.1 ((hrt.ge (ns_trans hqn87 hqn106) (by omega) (by omega)).symm.trans h127)) p.2.1)), ho121, ho122, hpk115, hok116, (PX.trans hpx105 hpx117), (ns_trans hqn106 hqn118)⟩
     omega
    refine qs rfl rfl rfl rfl rfl rfl ?_
    refine qs rfl rfl rfl rfl rfl rfl ?_
    refine qs rfl rfl rfl rfl rfl rfl ?_
    refine qs rfl rfl rfl rfl rfl rfl ?_
    refine qd rfl rfl rfl (r_pickF (v := (.bool false)) rfl rfl) ?_
    refine qd rfl rfl rfl (r_move (v := (.bool false)) rfl) ?_
    refine qs rfl rfl rfl rfl rfl rfl ?_
    refine qs rfl rfl rfl rfl rfl rfl ?_
    refine qs rfl rfl rfl rfl rfl rfl ?_
    refine qs rfl rfl rfl rfl rfl rfl ?_
    refine qsu rfl rfl rfl rfl rfl ?_
    refine qsu rfl rfl rfl rfl rfl ?_
    refine qsu rfl rfl rfl rfl rfl ?_
    refine qsu rfl rfl rfl rfl rfl ?_
    refine qsu rfl rfl rfl rfl rfl ?_
    refine qs rfl rfl rfl rfl rfl rfl ?_
    refine qd rfl rfl rfl (r_pickF (v := (.bool false)) rfl rfl) ?_
    refine qe (s_then ?_)
    refine c_ifF rfl rfl ?_
    refine wp_skip ?_
    refine s_blkN ?_
    refine s_then (c_reg ?_)
    refine qd rfl rfl rfl (r_add rfl rfl (by omega)) ?_
    refine qd rfl rfl rfl (r_move (v := (.int .i64 ((j : Int) + 1))) rfl) ?_
    refine qe ?_
    refine s_lopN ?_
    refine ⟨_, ?_, _, rfl, _, j + 1, bst, q96, GL2, (packS (x := 37) (packS (x := 36) (packS (x := 35) (packS (x := 30) (packS (x := 29) (packS (x := 28) (packS (x := 10) (packS (x := 9) (packS (x := 8) (packS (x := 7) (packS (x := 5) (packS (x := 4) (packS (x := 3) (pack1 (x := 2) rfl) rfl) rfl) rfl) rfl) rfl) rfl) rfl) rfl) rfl) rfl) rfl) rfl) rfl), rfl, hX100, hlek97, (by omega), (gr_no hbst (fun p => h111 p.1)), hw101, hw102, hpk103, hok104, hpx105, hqn106⟩
    omega
   refine wp_exit ?_
   refine s_thenE ?_
   refine s_lopE ?_
   refine s_blkE ?_
   refine s_then (s_seq (c_reg ?_))
   refine qd rfl rfl rfl (r_move (v := (.bool bst)) rfl) ?_
   refine qe (s_then ?_)
   refine c_if rfl rfl (fun h145 => ?_) (fun h145 => ?_)
   ·skip
    refine c_reg ?_
    refine qd rfl rfl rfl (r_move (v := ov) rfl) ?_
    refine qd rfl rfl rfl (r_move (v := (.int .i64 (i : Int))) rfl) ?_
    refine q1 rfl rfl rfl (o_buildF (E := eInt) (e := 3) [(.int .i64 (i : Int))] [(i : Int)] Tryd.underlying40 sz3 zr3 (by exact reps1 (by rfl)) (ones1 (by rfl)) rfl rfl rfl rfl (by decide) hX100.pins (fun u146 w147 ho148 hp149 hl150 hk151 => ?_))
    have hX152 := hX100.step hp149 hl150
    have ho153 := hw101.below hl150
    have ho154 := hw102.below hl150
    have hpk155 := hpk103.below hl150 hp149
    have ho163 : Own eInt 3 GL2 w147 w.heap.size u146 ([(i : Int)]) := ho148.weaken hX100.size
    refine q1 rfl rfl rfl (o_append (E := eInt) (v := ov) (u := u146) 8 Tryd.underlying40 ap3 (by decide) rfl rfl hX152.pins ho153 ho163.src (by first | omega | (rw [List.nil_append]; omega) | (rw [List.length_nil]; omega) | (rw [List.length_append]; omega) | (simp; done) | (simp; omega) | (simp only [List.length_append, List.length_cons, List.length_nil]; omega)) (by first | omega | (rw [List.nil_append]; omega) | (rw [List.length_nil]; omega) | (rw [List.length_append]; omega) | (simp; done) | (simp; omega) | (simp only [List.length_append, List.length_cons, List.length_nil]; omega)) (hX152.size) (fun u164 w165 ho166 hp167 hg168 hw169 => ?_))
    have hX170 := hX152.write hp167 hg168 ((lo_own ho153))
    have ho171 := ho154.keptA hg168 ha83.symm
    have hpk173 := hpk155.kept hg168 hp167 hnp88
    have ha174 : Apart u33.ownBlock u164.ownBlock := app_ne_own ha83.symm hw169 ho154.lt
    have hnp176 := np_app hnp88 hpk155 hw169
    have hm177 : (out ++ ([(i : Int)])).length = out.length + 1 := List.length_append
    refine qd rfl rfl rfl (r_assign (v := u164) rfl) ?_
    refine qe ?_
    refine s_blkN ?_
    refine s_then (c_reg ?_)
    refine qd rfl rfl rfl (r_add rfl rfl (by omega)) ?_
    refine qd rfl rfl rfl (r_move (v := (.int .i64 ((i : Int) + 1))) rfl) ?_
    refine qe ?_
    refine s_lopN ?_
    have hkn : j = fs.length := by omega
    rw [hkn] at hbst
    rw [h145] at hbst
    refine ⟨_, ?_, _, rfl, _, i + 1, u164, out ++ ([(i : Int)]), q96, GL2, (packS (x := 30) (packS (x := 29) (packS (x := 28) (packS (x := 7) (packS (x := 5) (packS (x := 4) (packS (x := 3) (pack1 (x := 2) rfl) rfl) rfl) rfl) rfl) rfl) rfl) rfl), rfl, hX170, (Pin.le_trans hlek77 hlek97), (by omega), (by rw [gr_take hbst, hout]), ho166, ho171, ha174.symm, hpk173, hok104, (PX.trans hpx86 hpx105), (ns_trans hqn87 hqn106), hnp176⟩
    omega
   refine wp_skip ?_
   refine s_blkN ?_
   refine s_then (c_reg ?_)
   refine qd rfl rfl rfl (r_add rfl rfl (by omega)) ?_
   refine qd rfl rfl rfl (r_move (v := (.int .i64 ((i : Int) + 1))) rfl) ?_
   refine qe ?_
   refine s_lopN ?_
   have hkn : j = fs.length := by omega
   rw [hkn] at hbst
   refine ⟨_, ?_, _, rfl, _, i + 1, ov, out, q96, GL2, (packS (x := 30) (packS (x := 29) (packS (x := 28) (packS (x := 7) (packS (x := 5) (packS (x := 4) (packS (x := 3) (pack1 (x := 2) rfl) rfl) rfl) rfl) rfl) rfl) rfl) rfl), rfl, hX100, (Pin.le_trans hlek77 hlek97), (by omega), (by rw [gr_leave hbst h145, hout]), hw101, hw102, ha83, hpk103, hok104, (PX.trans hpx86 hpx105), (ns_trans hqn87 hqn106), hnp88⟩
   omega
  refine wp_exit ?_
  refine s_thenE ?_
  refine s_lopE ?_
  refine s_blkE ?_
  refine s_then (s_seq (c_reg ?_))
  refine qd rfl rfl rfl (r_move (v := ov) rfl) ?_
  refine qd rfl rfl rfl (r_assign (v := ov) rfl) ?_
  refine qd rfl rfl rfl (r_assign (v := (.bool true)) rfl) ?_
  refine qe (s_then ?_)
  refine wp_ret ?_
  refine s_ret ?_
  refine c_ret2 (v := ov) (u := (.bool true)) rfl rfl rfl rfl rfl ?_
  have hin : i = fs.length := by omega
  rw [hin] at hout
  rw [decP_true.2 hAG, gr_good hAG, ← hout]
  exact ⟨_, _, rfl, hw81, hX80⟩
 refine s_seq (c_reg ?_)
 refine q1 rfl rfl rfl (o_build0 (E := eInt) (e := 3) Tryd.underlying40 sz3 hX50.pins (fun u178 w179 ho180 hp181 hl182 hk183 => ?_))
 have hX184 := hX50.step hp181 hl182
 have ho193 : Own eInt 3 G38 w179 w.heap.size u178 ([]) := ho180.weaken hX50.size
 refine qd rfl rfl rfl (r_assign (v := u178) rfl) ?_
 refine qd rfl rfl rfl (r_assign (v := (.bool false)) rfl) ?_
 refine qe (s_then ?_)
 refine wp_ret ?_
 refine s_ret ?_
 refine c_ret2 (v := u178) (u := (.bool false)) rfl rfl rfl rfl rfl ?_
 obtain ⟨i, hi, hgi⟩ := hrt46.2 h56
 have hag : decP (AllG fs) = false := all_bad hi hgi
 rw [hag, gr_bad hag]
 exact ⟨_, _, rfl, ho193, hX184⟩

end GI1
end Go.Proofs.YtkfgdhanaijddaaDoor

set_option maxRecDepth 20000
set_option maxHeartbeats 2000000
namespace Go.Proofs.YtkfgdhanaijddaaDoor
namespace DR1
open Go.RowKit Go.GL Go.Proofs
open Go.Proofs.YtkfgdhanaijddaaDoor.B1












theorem next_spec {w : World} {G : Pin} {c : Nat} {cv : Value} {code : List UInt8} {a s : Int} (hP : Pins G w) (hB : Bx G w c [cv, .int .i64 a, .int .u64 s]) (hc : RSl eByte G cv code) (ha : 0 ≤ a ∧ a + 1 ≤ 1000000) (_ : 0 ≤ s ∧ s < 18446744073709551616) :
  Calls Tryd.prog 60 [(.pointer (some ⟨c, 0, none⟩))].toArray w fun e w' => ∃ (z : Int) (a' s' : Int), e = .returned (.int .i64 z) ∧ (0 ≤ z ∧ z ≤ 255) ∧ Bx G w' c [cv, .int .i64 a', .int .u64 s'] ∧ (a ≤ a' ∧ a' ≤ a + 1) ∧ (0 ≤ s' ∧ s' < 18446744073709551616) ∧ Ext (inO (some c)) G w G w' := by
 refine s_enter (n := 62) Tryd.func60 Tryd.ntmps60 rfl rfl ?_
 have hX0 : Ext (inO (some c)) G w G w := Ext.refl hP
 have hm := hc.max
 refine s_seq (c_reg ?_)
 refine qd rfl rfl rfl (r_assign (v := (.int .i64 0)) rfl) ?_
 refine qe (s_then (s_seq (c_reg ?_)))
 refine qd rfl rfl rfl (r_assign (v := (.int .i64 0)) rfl) ?_
 refine qe (s_then (s_seq (s_seq ?_)))
 refine c_draw (S := fun wz => BxR wz c [cv, (.int .i64 a), (.int .u64 s)]) (last := 10) (by kernel_rfl) rfl ?_
 have hl1 : Below w.heap.size w w.drew := (Below.refl _ _).drew
 have hp2 := hX0.pins.below hl1
 have hX3 := hX0.step hp2 hl1
 have hb4 := hB.below hl1
 refine dr_take (i := 0) rfl rfl rfl (want_none rfl _) (by kernel_rfl) (fun _ _ => r_move (v := (.pointer (some ⟨c, 0, none⟩))) rfl) hb4.reads ?_
 refine dr_take (i := 1) rfl rfl rfl (want_none rfl _) (by kernel_rfl) (fun _ _ => r_nil rfl) hb4.reads ?_
 refine dr_take (i := 2) rfl rfl rfl (want_none rfl _) (by kernel_rfl) (fun _ _ => r_fldp (k := 1) rfl Tryd.underlying53 rfl nz3 rfl) hb4.reads ?_
 refine dr_take (i := 3) rfl rfl rfl (want_none rfl _) (by kernel_rfl) (fun _ hS => r_ldp1 (u := (.int .i64 a)) ag3 rfl (hS 1 _ rfl)) hb4.reads ?_
 refine dr_take (i := 4) rfl rfl rfl (want_none rfl _) (by kernel_rfl) (fun _ _ => r_move (v := (.pointer (some ⟨c, 0, none⟩))) rfl) hb4.reads ?_
 refine dr_take (i := 5) rfl rfl rfl (want_none rfl _) (by kernel_rfl) (fun _ _ => r_nil rfl) hb4.reads ?_
 refine dr_take (i := 6) rfl rfl rfl (want_none rfl _) (by kernel_rfl) (fun _ _ => r_fldp (k := 0) rfl Tryd.underlying53 rfl nz22 rfl) hb4.reads ?_
 refine dr_take (i := 7) rfl rfl rfl (want_none rfl _) (by kernel_rfl) (fun _ hS => r_ldp1 (u := cv) ag22 rfl (hS 0 _ rfl)) hb4.reads ?_
 refine dr_take (i := 8) rfl rfl rfl (want_none rfl _) (by kernel_rfl) (fun _ _ => run_len Tryd.underlying22 (v := cv) rfl hc) hb4.reads ?_
 refine dr_take (i := 9) rfl rfl rfl (want_none rfl _) (by kernel_rfl) (fun _ _ => r_lss rfl rfl) hb4.reads ?_
 refine dr_end (by kernel_rfl) ?_
 refine s_then ?_
 refine c_ifd (p := (a : Int) < (code.length : Int)) rfl rfl (fun h5 => ?_) (fun h5 => ?_)
 ·skip
  have h255 := (code.getD a.toNat 0).toNat_lt
  refine c_draw (S := fun wz => BxR wz c [cv, (.int .i64 a), (.int .u64 s)] ∧ Pins G wz) (last := 12) (by kernel_rfl) rfl ?_
  have hl6 : Below w.drew.heap.size w.drew w.drew.drew := (Below.refl _ _).drew
  have hp7 := hX3.pins.below hl6
  have hX8 := hX3.step hp7 hl6
  have hb9 := hb4.below hl6
  refine dr_take (i := 0) rfl rfl rfl (want_none rfl _) (by kernel_rfl) (fun _ _ => r_move (v := (.pointer (some ⟨c, 0, none⟩))) rfl) ⟨hb9.reads, hX8.pins⟩ ?_
  refine dr_take (i := 1) rfl rfl rfl (want_none rfl _) (by kernel_rfl) (fun _ _ => r_nil rfl) ⟨hb9.reads, hX8.pins⟩ ?_
  refine dr_take (i := 2) rfl rfl rfl (want_none rfl _) (by kernel_rfl) (fun _ _ => r_fldp (k := 0) rfl Tryd.underlying53 rfl nz22 rfl) ⟨hb9.reads, hX8.pins⟩ ?_
  refine dr_take (i := 3) rfl rfl rfl (want_none rfl _) (by kernel_rfl) (fun _ hS => r_ldp1 (u := cv) ag22 rfl (hS.1 0 _ rfl)) ⟨hb9.reads, hX8.pins⟩ ?_
  refine dr_take (i := 4) rfl rfl rfl (want_none rfl _) (by kernel_rfl) (fun _ _ => r_move (v := (.pointer (some ⟨c, 0, none⟩))) rfl) ⟨hb9.reads, hX8.pins⟩ ?_
  refine dr_take (i := 5) rfl rfl rfl (want_none rfl _) (by kernel_rfl) (fun _ _ => r_nil rfl) ⟨hb9.reads, hX8.pins⟩ ?_
  refine dr_take (i := 6) rfl rfl rfl (want_none rfl _) (by kernel_rfl) (fun _ _ => r_fldp (k := 1) rfl Tryd.underlying53 rfl nz3 rfl) ⟨hb9.reads, hX8.pins⟩ ?_
  refine dr_take (i := 7) rfl rfl rfl (want_none rfl _) (by kernel_rfl) (fun _ hS => r_ldp1 (u := (.int .i64 a)) ag3 rfl (hS.1 1 _ rfl)) ⟨hb9.reads, hX8.pins⟩ ?_
  refine dr_take (i := 8) rfl rfl rfl (want_none rfl _) (by kernel_rfl) (fun _ _ => run_idx Tryd.underlying22 sz5 (v := cv) rfl rfl hc (by omega) (by omega)) ⟨hb9.reads, hX8.pins⟩ ?_
  refine dr_take (i := 9) rfl rfl rfl (want_none rfl _) (by kernel_rfl) (fun _ hS => run_load_byte (r := code.getD (a).toNat 0) rfl ag5 (z := a) rfl hc hS.2 (by omega) (by omega)) ⟨hb9.reads, hX8.pins⟩ ?_
  refine dr_take (i := 10) rfl rfl rfl (want_none rfl _) (by kernel_rfl) (fun _ _ => r_conv (j := ((code.getD (a).toNat 0).toNat : Int)) Tryd.underlying5 Tryd.underlying3 rfl (wrapI (by omega))) ⟨hb9.reads, hX8.pins⟩ ?_
  refine dr_take (i := 11) rfl rfl rfl (want_none rfl _) (by kernel_rfl) (fun _ _ => r_assign (v := (.int .i64 ((code.getD (a).toNat 0).toNat : Int))) rfl) ⟨hb9.reads, hX8.pins⟩ ?_
  refine dr_end (by kernel_rfl) ?_
  refine s_then (s_seq (c_reg ?_))
  refine qd rfl rfl rfl (r_move (v := (.pointer (some ⟨c, 0, none⟩))) rfl) ?_
  refine qd rfl rfl rfl (r_nil rfl) ?_
  refine qd rfl rfl rfl (r_fldp (k := 1) rfl Tryd.underlying53 rfl nz3 rfl) ?_
  refine qd rfl rfl rfl (r_ldp1 (u := (.int .i64 a)) ag3 rfl (hb9.cell (o := 1) rfl)) ?_
  refine qd rfl rfl rfl (r_add rfl rfl (by omega)) ?_
  refine qd rfl rfl rfl (r_nil rfl) ?_
  refine qd rfl rfl rfl (r_fldp (k := 1) rfl Tryd.underlying53 rfl nz3 rfl) ?_
  refine q0 rfl rfl rfl (o_stp (cs' := [cv, (.int .i64 (a + 1)), (.int .u64 s)]) (us := [(.int .i64 (a + 1))]) (v := (.int .i64 (a + 1))) sz3 rfl rfl rfl (ones1 (by rfl)) hX8.pins hb9 (Nat.le_of_ble_eq_true rfl) rfl (fun w10 hb11 hp12 hg13 hz14 => ?_))
  have hX15 := hX8.write hp12 hg13 (lo_self)
  refine qe (s_then (s_seq (c_reg ?_)))
  refine qd rfl rfl rfl (r_move (v := (.pointer (some ⟨c, 0, none⟩))) rfl) ?_
  refine qd rfl rfl rfl (r_move (v := (.pointer (some ⟨c, 0, none⟩))) rfl) ?_
  refine qd rfl rfl rfl (r_nil rfl) ?_
  refine qd rfl rfl rfl (r_fldp (k := 2) rfl Tryd.underlying53 rfl nz51 rfl) ?_
  refine qd rfl rfl rfl (r_ldp1 (u := (.int .u64 s)) ag51 rfl (hb11.cell (o := 2) rfl)) ?_
  refine qd rfl rfl rfl (r_mulU rfl rfl) ?_
  refine qd rfl rfl rfl (r_move (v := (.int .i64 ((code.getD (a).toNat 0).toNat : Int))) rfl) ?_
  refine qd rfl rfl rfl (r_conv (j := ((code.getD (a).toNat 0).toNat : Int)) Tryd.underlying3 Tryd.underlying51 rfl (wrapU (by omega))) ?_
  refine qd rfl rfl rfl (r_addU rfl rfl) ?_
  refine qd rfl rfl rfl (r_addU rfl rfl) ?_
  refine qd rfl rfl rfl (r_nil rfl) ?_
  refine qd rfl rfl rfl (r_fldp (k := 2) rfl Tryd.underlying53 rfl nz51 rfl) ?_
  refine q0 rfl rfl rfl (o_stp (cs' := [cv, (.int .i64 (a + 1)), (.int .u64 (IntKind.u64.wrap ((IntKind.u64.wrap ((IntKind.u64.wrap (s * 6364136223846793005)) + ((code.getD (a).toNat 0).toNat : Int))) + 868868)))]) (us := [(.int .u64 (IntKind.u64.wrap ((IntKind.u64.wrap ((IntKind.u64.wrap (s * 6364136223846793005)) + ((code.getD (a).toNat 0).toNat : Int))) + 868868)))]) (v := (.int .u64 (IntKind.u64.wrap ((IntKind.u64.wrap ((IntKind.u64.wrap (s * 6364136223846793005)) + ((code.getD (a).toNat 0).toNat : Int))) + 868868)))) sz51 rfl rfl rfl (ones1 (by rfl)) hX15.pins hb11 (Nat.le_of_ble_eq_true rfl) rfl (fun w16 hb17 hp18 hg19 hz20 => ?_))
  have hX21 := hX15.write hp18 hg19 (lo_self)
  refine qe (s_then (s_seq (s_seq ?_)))
  refine c_draw (S := fun wz => BxR wz c [cv, (.int .i64 (a + 1)), (.int .u64 (IntKind.u64.wrap ((IntKind.u64.wrap ((IntKind.u64.wrap (s * 6364136223846793005)) + ((code.getD (a).toNat 0).toNat : Int))) + 868868)))]) (last := 10) (by kernel_rfl) rfl ?_
  have hl22 : Below w16.heap.size w16 w16.drew := (Below.refl _ _).drew
  have hp23 := hX21.pins.below hl22
  have hX24 := hX21.step hp23 hl22
  have hb25 := hb17.below hl22
  refine dr_take (i := 0) rfl rfl rfl (want_none rfl _) (by kernel_rfl) (fun _ _ => r_move (v := (.pointer (some ⟨c, 0, none⟩))) rfl) hb25.reads ?_
  refine dr_take (i := 1) rfl rfl rfl (want_none rfl _) (by kernel_rfl) (fun _ _ => r_nil rfl) hb25.reads ?_
  refine dr_take (i := 2) rfl rfl rfl (want_none rfl _) (by kernel_rfl) (fun _ _ => r_fldp (k := 1) rfl Tryd.underlying53 rfl nz3 rfl) hb25.reads ?_
  refine dr_take (i := 3) rfl rfl rfl (want_none rfl _) (by kernel_rfl) (fun _ hS => r_ldp1 (u := (.int .i64 (a + 1))) ag3 rfl (hS 1 _ rfl)) hb25.reads ?_
  refine dr_take (i := 4) rfl rfl rfl (want_none rfl _) (by kernel_rfl) (fun _ _ => r_move (v := (.pointer (some ⟨c, 0, none⟩))) rfl) hb25.reads ?_
  refine dr_take (i := 5) rfl rfl rfl (want_none rfl _) (by kernel_rfl) (fun _ _ => r_nil rfl) hb25.reads ?_
  refine dr_take (i := 6) rfl rfl rfl (want_none rfl _) (by kernel_rfl) (fun _ _ => r_fldp (k := 0) rfl Tryd.underlying53 rfl nz22 rfl) hb25.reads ?_
  refine dr_take (i := 7) rfl rfl rfl (want_none rfl _) (by kernel_rfl) (fun _ hS => r_ldp1 (u := cv) ag22 rfl (hS 0 _ rfl)) hb25.reads ?_
  refine dr_take (i := 8) rfl rfl rfl (want_none rfl _) (by kernel_rfl) (fun _ _ => run_len Tryd.underlying22 (v := cv) rfl hc) hb25.reads ?_
  refine dr_take (i := 9) rfl rfl rfl (want_none rfl _) (by kernel_rfl) (fun _ _ => r_leq rfl rfl) hb25.reads ?_
  refine dr_end (by kernel_rfl) ?_
  refine s_then ?_
  refine c_ifd (p := (a + 1 : Int) ≤ (code.length : Int)) rfl rfl (fun h26 => ?_) (fun h26 => ?_)
  ·skip
   refine s_seq (c_reg ?_)
   refine qd rfl rfl rfl (r_move (v := (.int .i64 ((code.getD (a).toNat 0).toNat : Int))) rfl) ?_
   refine qd rfl rfl rfl (r_assign (v := (.int .i64 ((code.getD (a).toNat 0).toNat : Int))) rfl) ?_
   refine qe (s_then ?_)
   refine wp_ret ?_
   refine s_ret ?_
   refine c_ret1 (v := (.int .i64 ((code.getD (a).toNat 0).toNat : Int))) rfl rfl rfl ?_
   have hwr := wrapU_lt (((IntKind.u64.wrap ((IntKind.u64.wrap (s * 6364136223846793005)) + ((code.getD (a).toNat 0).toNat : Int))) + 868868))
   exact ⟨_, _, _, rfl, (by omega), hb25, (by omega), (by omega), hX24⟩
  refine wp_skip ?_
  refine s_then (s_seq (c_reg ?_))
  refine qd rfl rfl rfl (r_move (v := (.pointer (some ⟨c, 0, none⟩))) rfl) ?_
  refine qd rfl rfl rfl (r_nil rfl) ?_
  refine qd rfl rfl rfl (r_fldp (k := 2) rfl Tryd.underlying53 rfl nz51 rfl) ?_
  refine qd rfl rfl rfl (r_ldp1 (u := (.int .u64 (IntKind.u64.wrap ((IntKind.u64.wrap ((IntKind.u64.wrap (s * 6364136223846793005)) + ((code.getD (a).toNat 0).toNat : Int))) + 868868)))) ag51 rfl (hb25.cell (o := 2) rfl)) ?_
  refine qd rfl rfl rfl (r_shrU rfl rfl (by omega)) ?_
  refine qd rfl rfl rfl (r_and rfl rfl) ?_
  have hl827 := low8_lt (Int.fdiv (IntKind.u64.wrap ((IntKind.u64.wrap ((IntKind.u64.wrap (s * 6364136223846793005)) + ((code.getD (a).toNat 0).toNat : Int))) + 868868)) (2 ^ (min (40 : Int).toNat 64)))
  refine qd rfl rfl rfl (r_conv (j := andW .u64 (Int.fdiv (IntKind.u64.wrap ((IntKind.u64.wrap ((IntKind.u64.wrap (s * 6364136223846793005)) + ((code.getD (a).toNat 0).toNat : Int))) + 868868)) (2 ^ (min (40 : Int).toNat 64))) 255) Tryd.underlying51 Tryd.underlying3 rfl (wrapI (by omega))) ?_
  refine qd rfl rfl rfl (r_assign (v := (.int .i64 (andW .u64 (Int.fdiv (IntKind.u64.wrap ((IntKind.u64.wrap ((IntKind.u64.wrap (s * 6364136223846793005)) + ((code.getD (a).toNat 0).toNat : Int))) + 868868)) (2 ^ (min (40 : Int).toNat 64))) 255))) rfl) ?_
  refine qe (s_then ?_)
  refine wp_ret ?_
  refine s_ret ?_
  refine c_ret1 (v := (.int .i64 (andW .u64 (Int.fdiv (IntKind.u64.wrap ((IntKind.u64.wrap ((IntKind.u64.wrap (s * 6364136223846793005)) + ((code.getD (a).toNat 0).toNat : Int))) + 868868)) (2 ^ (min (40 : Int).toNat 64))) 255))) rfl rfl rfl ?_
  have hwr := wrapU_lt (((IntKind.u64.wrap ((IntKind.u64.wrap (s * 6364136223846793005)) + ((code.getD (a).toNat 0).toNat : Int))) + 868868))
  exact ⟨_, _, _, rfl, (by omega), hb25, (by omega), (by omega), hX24⟩
 refine wp_skip ?_
 refine s_then (s_seq (c_reg ?_))
 refine qd rfl rfl rfl (r_move (v := (.pointer (some ⟨c, 0, none⟩))) rfl) ?_
 refine qd rfl rfl rfl (r_nil rfl) ?_
 refine qd rfl rfl rfl (r_fldp (k := 1) rfl Tryd.underlying53 rfl nz3 rfl) ?_
 refine qd rfl rfl rfl (r_ldp1 (u := (.int .i64 a)) ag3 rfl (hb4.cell (o := 1) rfl)) ?_
 refine qd rfl rfl rfl (r_add rfl rfl (by omega)) ?_
 refine qd rfl rfl rfl (r_nil rfl) ?_
 refine qd rfl rfl rfl (r_fldp (k := 1) rfl Tryd.underlying53 rfl nz3 rfl) ?_
 refine q0 rfl rfl rfl (o_stp (cs' := [cv, (.int .i64 (a + 1)), (.int .u64 s)]) (us := [(.int .i64 (a + 1))]) (v := (.int .i64 (a + 1))) sz3 rfl rfl rfl (ones1 (by rfl)) hX3.pins hb4 (Nat.le_of_ble_eq_true rfl) rfl (fun w28 hb29 hp30 hg31 hz32 => ?_))
 have hX33 := hX3.write hp30 hg31 (lo_self)
 refine qe (s_then (s_seq (c_reg ?_)))
 refine qd rfl rfl rfl (r_move (v := (.pointer (some ⟨c, 0, none⟩))) rfl) ?_
 refine qd rfl rfl rfl (r_move (v := (.pointer (some ⟨c, 0, none⟩))) rfl) ?_
 refine qd rfl rfl rfl (r_nil rfl) ?_
 refine qd rfl rfl rfl (r_fldp (k := 2) rfl Tryd.underlying53 rfl nz51 rfl) ?_
 refine qd rfl rfl rfl (r_ldp1 (u := (.int .u64 s)) ag51 rfl (hb29.cell (o := 2) rfl)) ?_
 refine qd rfl rfl rfl (r_mulU rfl rfl) ?_
 refine qd rfl rfl rfl (r_move (v := (.int .i64 0)) rfl) ?_
 refine qd rfl rfl rfl (r_conv (j := 0) Tryd.underlying3 Tryd.underlying51 rfl (wrapU (by omega))) ?_
 refine qd rfl rfl rfl (r_addU rfl rfl) ?_
 refine qd rfl rfl rfl (r_addU rfl rfl) ?_
 refine qd rfl rfl rfl (r_nil rfl) ?_
 refine qd rfl rfl rfl (r_fldp (k := 2) rfl Tryd.underlying53 rfl nz51 rfl) ?_
 refine q0 rfl rfl rfl (o_stp (cs' := [cv, (.int .i64 (a + 1)), (.int .u64 (IntKind.u64.wrap ((IntKind.u64.wrap ((IntKind.u64.wrap (s * 6364136223846793005)) + 0)) + 868868)))]) (us := [(.int .u64 (IntKind.u64.wrap ((IntKind.u64.wrap ((IntKind.u64.wrap (s * 6364136223846793005)) + 0)) + 868868)))]) (v := (.int .u64 (IntKind.u64.wrap ((IntKind.u64.wrap ((IntKind.u64.wrap (s * 6364136223846793005)) + 0)) + 868868)))) sz51 rfl rfl rfl (ones1 (by rfl)) hX33.pins hb29 (Nat.le_of_ble_eq_true rfl) rfl (fun w34 hb35 hp36 hg37 hz38 => ?_))
 have hX39 := hX33.write hp36 hg37 (lo_self)
 refine qe (s_then (s_seq (s_seq ?_)))
 refine c_draw (S := fun wz => BxR wz c [cv, (.int .i64 (a + 1)), (.int .u64 (IntKind.u64.wrap ((IntKind.u64.wrap ((IntKind.u64.wrap (s * 6364136223846793005)) + 0)) + 868868)))]) (last := 10) (by kernel_rfl) rfl ?_
 have hl40 : Below w34.heap.size w34 w34.drew := (Below.refl _ _).drew
 have hp41 := hX39.pins.below hl40
 have hX42 := hX39.step hp41 hl40
 have hb43 := hb35.below hl40
 refine dr_take (i := 0) rfl rfl rfl (want_none rfl _) (by kernel_rfl) (fun _ _ => r_move (v := (.pointer (some ⟨c, 0, none⟩))) rfl) hb43.reads ?_
 refine dr_take (i := 1) rfl rfl rfl (want_none rfl _) (by kernel_rfl) (fun _ _ => r_nil rfl) hb43.reads ?_
 refine dr_take (i := 2) rfl rfl rfl (want_none rfl _) (by kernel_rfl) (fun _ _ => r_fldp (k := 1) rfl Tryd.underlying53 rfl nz3 rfl) hb43.reads ?_
 refine dr_take (i := 3) rfl rfl rfl (want_none rfl _) (by kernel_rfl) (fun _ hS => r_ldp1 (u := (.int .i64 (a + 1))) ag3 rfl (hS 1 _ rfl)) hb43.reads ?_
 refine dr_take (i := 4) rfl rfl rfl (want_none rfl _) (by kernel_rfl) (fun _ _ => r_move (v := (.pointer (some ⟨c, 0, none⟩))) rfl) hb43.reads ?_
 refine dr_take (i := 5) rfl rfl rfl (want_none rfl _) (by kernel_rfl) (fun _ _ => r_nil rfl) hb43.reads ?_
 refine dr_take (i := 6) rfl rfl rfl (want_none rfl _) (by kernel_rfl) (fun _ _ => r_fldp (k := 0) rfl Tryd.underlying53 rfl nz22 rfl) hb43.reads ?_
 refine dr_take (i := 7) rfl rfl rfl (want_none rfl _) (by kernel_rfl) (fun _ hS => r_ldp1 (u := cv) ag22 rfl (hS 0 _ rfl)) hb43.reads ?_
 refine dr_take (i := 8) rfl rfl rfl (want_none rfl _) (by kernel_rfl) (fun _ _ => run_len Tryd.underlying22 (v := cv) rfl hc) hb43.reads ?_
 refine dr_take (i := 9) rfl rfl rfl (want_none rfl _) (by kernel_rfl) (fun _ _ => r_leq rfl rfl) hb43.reads ?_
 refine dr_end (by kernel_rfl) ?_
 refine s_then ?_
 refine c_ifd (p := (a + 1 : Int) ≤ (code.length : Int)) rfl rfl (fun h44 => ?_) (fun h44 => ?_)
 ·skip
  refine s_seq (c_reg ?_)
  refine qd rfl rfl rfl (r_move (v := (.int .i64 0)) rfl) ?_
  refine qd rfl rfl rfl (r_assign (v := (.int .i64 0)) rfl) ?_
  refine qe (s_then ?_)
  refine wp_ret ?_
  refine s_ret ?_
  refine c_ret1 (v := (.int .i64 0)) rfl rfl rfl ?_
  have hwr := wrapU_lt (((IntKind.u64.wrap ((IntKind.u64.wrap (s * 6364136223846793005)) + 0)) + 868868))
  exact ⟨_, _, _, rfl, (by omega), hb43, (by omega), (by omega), hX42⟩
 refine wp_skip ?_
 refine s_then (s_seq (c_reg ?_))
 refine qd rfl rfl rfl (r_move (v := (.pointer (some ⟨c, 0, none⟩))) rfl) ?_
 refine qd rfl rfl rfl (r_nil rfl) ?_
 refine qd rfl rfl rfl (r_fldp (k := 2) rfl Tryd.underlying53 rfl nz51 rfl) ?_
 refine qd rfl rfl rfl (r_ldp1 (u := (.int .u64 (IntKind.u64.wrap ((IntKind.u64.wrap ((IntKind.u64.wrap (s * 6364136223846793005)) + 0)) + 868868)))) ag51 rfl (hb43.cell (o := 2) rfl)) ?_
 refine qd rfl rfl rfl (r_shrU rfl rfl (by omega)) ?_
 refine qd rfl rfl rfl (r_and rfl rfl) ?_
 have hl845 := low8_lt (Int.fdiv (IntKind.u64.wrap ((IntKind.u64.wrap ((IntKind.u64.wrap (s * 6364136223846793005)) + 0)) + 868868)) (2 ^ (min (40 : Int).toNat 64)))
 refine qd rfl rfl rfl (r_conv (j := andW .u64 (Int.fdiv (IntKind.u64.wrap ((IntKind.u64.wrap ((IntKind.u64.wrap (s * 6364136223846793005)) + 0)) + 868868)) (2 ^ (min (40 : Int).toNat 64))) 255) Tryd.underlying51 Tryd.underlying3 rfl (wrapI (by omega))) ?_
 refine qd rfl rfl rfl (r_assign (v := (.int .i64 (andW .u64 (Int.fdiv (IntKind.u64.wrap ((IntKind.u64.wrap ((IntKind.u64.wrap (s * 6364136223846793005)) + 0)) + 868868)) (2 ^ (min (40 : Int).toNat 64))) 255))) rfl) ?_
 refine qe (s_then ?_)
 refine wp_ret ?_
 refine s_ret ?_
 refine c_ret1 (v := (.int .i64 (andW .u64 (Int.fdiv (IntKind.u64.wrap ((IntKind.u64.wrap ((IntKind.u64.wrap (s * 6364136223846793005)) + 0)) + 868868)) (2 ^ (min (40 : Int).toNat 64))) 255))) rfl rfl rfl ?_
 have hwr := wrapU_lt (((IntKind.u64.wrap ((IntKind.u64.wrap (s * 6364136223846793005)) + 0)) + 868868))
 exact ⟨_, _, _, rfl, (by omega), hb43, (by omega), (by omega), hX42⟩

theorem pick_spec {w : World} {G : Pin} {c : Nat} {cv : Value} {code : List UInt8} {a s : Int} {n : Int} (hP : Pins G w) (hB : Bx G w c [cv, .int .i64 a, .int .u64 s]) (hc : RSl eByte G cv code) (ha : 0 ≤ a ∧ a + 2 ≤ 1000000) (hs : 0 ≤ s ∧ s < 18446744073709551616) (hn : n ≤ 1000) :
  Calls Tryd.prog 35 [(.pointer (some ⟨c, 0, none⟩)), (.int .i64 n)].toArray w fun e w' => ∃ (z : Int) (a' s' : Int), e = .returned (.int .i64 z) ∧ (0 ≤ z ∧ (z < n ∨ z = 0)) ∧ Bx G w' c [cv, .int .i64 a', .int .u64 s'] ∧ (a ≤ a' ∧ a' ≤ a + 2) ∧ (0 ≤ s' ∧ s' < 18446744073709551616) ∧ Ext (inO (some c)) G w G w' := by
 refine s_enter (n := 20) Tryd.func35 Tryd.ntmps35 rfl rfl ?_
 have hX0 : Ext (inO (some c)) G w G w := Ext.refl hP
 have hm := hc.max
 refine s_seq (c_reg ?_)
 refine qd rfl rfl rfl (r_assign (v := (.int .i64 0)) rfl) ?_
 refine qe (s_then (s_seq (s_seq (c_reg ?_))))
 refine qd rfl rfl rfl (r_move (v := (.int .i64 n)) rfl) ?_
 refine qd rfl rfl rfl (r_leq rfl rfl) ?_
 refine qe (s_then ?_)
 refine c_ifd (p := (n : Int) ≤ 1) rfl rfl (fun h1 => ?_) (fun h1 => ?_)
 ·skip
  refine s_seq (c_reg ?_)
  refine qd rfl rfl rfl (r_assign (v := (.int .i64 0)) rfl) ?_
  refine qe (s_then ?_)
  refine wp_ret ?_
  refine s_ret ?_
  refine c_ret1 (v := (.int .i64 0)) rfl rfl rfl ?_
  exact ⟨_, _, _, rfl, (by omega), hB, (by omega), (by omega), hX0⟩
 refine wp_skip ?_
 refine s_then (s_seq (c_reg ?_))
 refine qd rfl rfl rfl (r_move (v := (.pointer (some ⟨c, 0, none⟩))) rfl) ?_
 refine q1 rfl rfl rfl (o_call (vs := [(.pointer (some ⟨c, 0, none⟩))]) Tryd.func60 nm60 rfl rfl rfl ?_)
 refine Calls.mono (next_spec hX0.pins hB hc (by omega) (by omega)) ?_
 rintro _ w6 ⟨z2, a4, s5, rfl, hz3, hb7, hda8, hds9, hx10⟩
 refine ⟨_, rfl, ?_⟩
 have hX11 := hX0.trans hx10 (fun i hi => lo_self i hi)
 refine qd rfl rfl rfl (r_assign (v := (.int .i64 z2)) rfl) ?_
 refine qe (s_then (s_seq (s_seq (c_reg ?_))))
 refine qd rfl rfl rfl (r_move (v := (.int .i64 n)) rfl) ?_
 refine qd rfl rfl rfl (r_gtr rfl rfl) ?_
 refine qe (s_then ?_)
 refine c_ifd (p := (200 : Int) < n) rfl rfl (fun h12 => ?_) (fun h12 => ?_)
 ·skip
  refine c_reg ?_
  refine qd rfl rfl rfl (r_move (v := (.int .i64 z2)) rfl) ?_
  refine qd rfl rfl rfl (r_mul rfl rfl (by omega)) ?_
  refine qd rfl rfl rfl (r_move (v := (.pointer (some ⟨c, 0, none⟩))) rfl) ?_
  refine q1 rfl rfl rfl (o_call (vs := [(.pointer (some ⟨c, 0, none⟩))]) Tryd.func60 nm60 rfl rfl rfl ?_)
  refine Calls.mono (next_spec hX11.pins hb7 hc (by omega) (by omega)) ?_
  rintro _ w17 ⟨z13, a15, s16, rfl, hz14, hb18, hda19, hds20, hx21⟩
  refine ⟨_, rfl, ?_⟩
  have hX22 := hX11.trans hx21 (fun i hi => lo_self i hi)
  refine qd rfl rfl rfl (r_add rfl rfl (by omega)) ?_
  refine qd rfl rfl rfl (r_assign (v := (.int .i64 ((z2 * 256) + z13))) rfl) ?_
  refine qe (s_then (s_seq (c_reg ?_)))
  refine qd rfl rfl rfl (r_move (v := (.int .i64 ((z2 * 256) + z13))) rfl) ?_
  refine qd rfl rfl rfl (r_move (v := (.int .i64 n)) rfl) ?_
  refine qd rfl rfl rfl (r_rem rfl rfl (by omega) (by omega)) ?_
  refine qd rfl rfl rfl (r_assign (v := (.int .i64 (((z2 * 256) + z13) % n))) rfl) ?_
  refine qe (s_then ?_)
  refine wp_ret ?_
  refine s_ret ?_
  refine c_ret1 (v := (.int .i64 (((z2 * 256) + z13) % n))) rfl rfl rfl ?_
  have hr1 := Int.emod_nonneg (((z2 * 256) + z13)) (show n ≠ 0 by omega)
  have hr2 := Int.emod_lt_of_pos (((z2 * 256) + z13)) (show 0 < n by omega)
  exact ⟨_, _, _, rfl, (by omega), hb18, (by omega), (by omega), hX22⟩
 refine wp_skip ?_
 refine s_then (s_seq (c_reg ?_))
 refine qd rfl rfl rfl (r_move (v := (.int .i64 z2)) rfl) ?_
 refine qd rfl rfl rfl (r_move (v := (.int .i64 n)) rfl) ?_
 refine qd rfl rfl rfl (r_rem rfl rfl (by omega) (by omega)) ?_
 refine qd rfl rfl rfl (r_assign (v := (.int .i64 (z2 % n))) rfl) ?_
 refine qe (s_then ?_)
 refine wp_ret ?_
 refine s_ret ?_
 refine c_ret1 (v := (.int .i64 (z2 % n))) rfl rfl rfl ?_
 have hr1 := Int.emod_nonneg (z2) (show n ≠ 0 by omega)
 have hr2 := Int.emod_lt_of_pos (z2) (show 0 < n by omega)
 exact ⟨_, _, _, rfl, (by omega), hb7, (by omega), (by omega), hX11⟩

theorem one_spec {w : World} {G : Pin} {c : Nat} {cv : Value} {code : List UInt8} {a s : Int} {n : Int} (hP : Pins G w) (hB : Bx G w c [cv, .int .i64 a, .int .u64 s]) (hc : RSl eByte G cv code) (ha : 0 ≤ a ∧ a + 2 ≤ 1000000) (hs : 0 ≤ s ∧ s < 18446744073709551616) (hn : n ≤ 1000) :
  Calls Tryd.prog 37 [(.pointer (some ⟨c, 0, none⟩)), (.int .i64 n)].toArray w fun e w' => ∃ (z : Bool) (a' s' : Int), e = .returned (.bool z) ∧ Bx G w' c [cv, .int .i64 a', .int .u64 s'] ∧ (a ≤ a' ∧ a' ≤ a + 2) ∧ (0 ≤ s' ∧ s' < 18446744073709551616) ∧ Ext (inO (some c)) G w G w' := by
 refine s_enter (n := 9) Tryd.func37 Tryd.ntmps37 rfl rfl ?_
 have hX0 : Ext (inO (some c)) G w G w := Ext.refl hP
 have hm := hc.max
 refine s_seq (c_reg ?_)
 refine qd rfl rfl rfl (r_assign (v := (.bool false)) rfl) ?_
 refine qe (s_then (s_seq (c_reg ?_)))
 refine qd rfl rfl rfl (r_move (v := (.pointer (some ⟨c, 0, none⟩))) rfl) ?_
 refine qd rfl rfl rfl (r_move (v := (.int .i64 n)) rfl) ?_
 refine q1 rfl rfl rfl (o_call (vs := [(.pointer (some ⟨c, 0, none⟩)), (.int .i64 n)]) Tryd.func35 nm35 rfl rfl rfl ?_)
 refine Calls.mono (pick_spec hX0.pins hB hc (by omega) (by omega) (n := n) (by omega)) ?_
 rintro _ w5 ⟨z1, a3, s4, rfl, hz2, hb6, hda7, hds8, hx9⟩
 refine ⟨_, rfl, ?_⟩
 have hX10 := hX0.trans hx9 (fun i hi => lo_self i hi)
 refine qd rfl rfl rfl (r_eql rfl rfl) ?_
 refine qd rfl rfl rfl (r_assign (v := (.bool (decide ((z1 : Int) = 0)))) rfl) ?_
 refine qe (s_then ?_)
 refine wp_ret ?_
 refine s_ret ?_
 refine c_ret1 (v := (.bool (decide ((z1 : Int) = 0)))) rfl rfl rfl ?_
 exact ⟨_, _, _, rfl, hb6, (by omega), (by omega), hX10⟩

theorem among_spec {w : World} {G : Pin} {c : Nat} {cv : Value} {code : List UInt8} {a s : Int} {l : Value} {xs : List Int} (hP : Pins G w) (hB : Bx G w c [cv, .int .i64 a, .int .u64 s]) (hc : RSl eByte G cv code) (ha : 0 ≤ a ∧ a + 2 ≤ 1000000) (hs : 0 ≤ s ∧ s < 18446744073709551616) (hl : RSl eInt G l xs) (hx : 1 ≤ xs.length ∧ xs.length ≤ 1000) :
  Calls Tryd.prog 57 [(.pointer (some ⟨c, 0, none⟩)), l].toArray w fun e w' => ∃ (z : Int) (a' s' : Int), e = .returned (.int .i64 z) ∧ z ∈ xs ∧ Bx G w' c [cv, .int .i64 a', .int .u64 s'] ∧ (a ≤ a' ∧ a' ≤ a + 2) ∧ (0 ≤ s' ∧ s' < 18446744073709551616) ∧ Ext (inO (some c)) G w G w' := by
 refine s_enter (n := 12) Tryd.func57 Tryd.ntmps57 rfl rfl ?_
 have hX0 : Ext (inO (some c)) G w G w := Ext.refl hP
 have hm := hc.max
 have hml := hl.max
 refine s_seq (c_reg ?_)
 refine qd rfl rfl rfl (r_assign (v := (.int .i64 0)) rfl) ?_
 refine qe (s_then (s_seq (c_reg ?_)))
 refine qd rfl rfl rfl (r_move (v := l) rfl) ?_
 refine qd rfl rfl rfl (r_move (v := (.pointer (some ⟨c, 0, none⟩))) rfl) ?_
 refine qd rfl rfl rfl (r_move (v := l) rfl) ?_
 refine qd rfl rfl rfl (run_len Tryd.underlying40 (v := l) rfl hl) ?_
 refine q1 rfl rfl rfl (o_call (vs := [(.pointer (some ⟨c, 0, none⟩)), (.int .i64 (xs.length : Int))]) Tryd.func35 nm35 rfl rfl rfl ?_)
 refine Calls.mono (pick_spec hX0.pins hB hc (by omega) (by omega) (n := (xs.length : Int)) (by omega)) ?_
 rintro _ w5 ⟨z1, a3, s4, rfl, hz2, hb6, hda7, hds8, hx9⟩
 refine ⟨_, rfl, ?_⟩
 have hX10 := hX0.trans hx9 (fun i hi => lo_self i hi)
 refine qd rfl rfl rfl (run_idx Tryd.underlying40 sz3 (v := l) rfl rfl hl (by omega) (by omega)) ?_
 refine qd rfl rfl rfl (run_load_int (r := xs.getD (z1).toNat 0) rfl ag3 (z := z1) rfl hl hX10.pins (by omega) (by omega)) ?_
 refine qd rfl rfl rfl (r_assign (v := (.int .i64 (xs.getD (z1).toNat 0))) rfl) ?_
 refine qe (s_then ?_)
 refine wp_ret ?_
 refine s_ret ?_
 refine c_ret1 (v := (.int .i64 (xs.getD (z1).toNat 0))) rfl rfl rfl ?_
 exact ⟨_, _, _, rfl, getD_mem (by omega), hb6, (by omega), (by omega), hX10⟩

end DR1
end Go.Proofs.YtkfgdhanaijddaaDoor

set_option maxRecDepth 20000
set_option maxHeartbeats 2000000
namespace Go.Proofs.YtkfgdhanaijddaaDoor
namespace MK1
open Go.RowKit Go.GL Go.Proofs
open Go.Proofs.YtkfgdhanaijddaaDoor.B1
open Go.Proofs.YtkfgdhanaijddaaDoor.C1
open Go.Proofs.YtkfgdhanaijddaaDoor.D1
open Go.Proofs.YtkfgdhanaijddaaDoor.E1





theorem pl83 : (Tryd.prog.underlying 83).bind (placesD Tryd.prog) = some [(0, 1), (1, 1)] := by kernel_rfl





theorem l3Make_own {w : World} {G : Pin} {u v : Value} {fs gs : List (List Nd)} (hP : Pins G w) (hu : RSl (eSl eNode) G u fs) (hv : RSl (eSl eNode) G v gs) (hfa : AllW fs) (hga : AllW gs) :
  Calls Tryd.prog 40 [u, v].toArray w fun e w' => ∃ (u : Value) (G' : Pin), e = .returned (.agg [u].toArray) ∧ RSl eNode G' u (formG (mkGm fs gs)) ∧ Ext noS G w G' w' ∧ ∃ Gi, Own eNode 60 Gi w' w.heap.size u (formG (mkGm fs gs)) ∧ Pin.le Gi G' := by
 refine s_enter (n := 50) Tryd.func40 Tryd.ntmps40 rfl rfl ?_
 have hX0 : Ext noS G w G w := Ext.refl hP
 have hmu := hu.max
 have hmv := hv.max
 have hfle := hfa.len
 have hgle := hga.len
 refine s_seq (c_reg ?_)
 refine q1 rfl rfl rfl (o_alloc [(.slice none 0 0)] zr26 rfl hX0.pins (fun b1 w2 hk3 hb4 hp5 hl6 => ?_))
 have hX7 := hX0.step hp5 hl6
 have hlo8 : w.heap.size ≤ b1 := by have := hX0.size; omega
 refine qe (s_then (s_seq (c_reg ?_)))
 refine qd rfl rfl rfl (r_build [(.slice none 0 0), (.slice none 0 0)] [(.slice none 0 0), (.slice none 0 0)] [] Tryd.underlying83 zr83 rfl pl83 rfl (fun _ h => by cases h) rfl) ?_
 refine q1 rfl rfl rfl (o_box [(.slice none 0 0), (.slice none 0 0)] (v := (.agg [(.slice none 0 0), (.slice none 0 0)].toArray)) rfl rfl hX7.pins (fun b9 w10 hk11 hb12 hp13 hl14 => ?_))
 have hX15 := hX7.step hp13 hl14
 have hb16 := hb4.below hl14
 have ha17 : Apart (some b9) (some b1) := new_ne_box (congrArg some hk11) hb4.lt
 have hlo18 : w.heap.size ≤ b9 := by have := hX7.size; omega
 refine qd rfl rfl rfl (r_assign (v := (.pointer (some ⟨b9, 0, none⟩))) rfl) ?_
 refine qe (s_then (s_seq (c_reg ?_)))
 refine q1 rfl rfl rfl (o_build0 (E := eInt) (e := 3) Tryd.underlying40 sz3 hX15.pins (fun u19 w20 ho21 hp22 hl23 hk24 => ?_))
 have hX25 := hX15.step hp22 hl23
 have hb26 := hb16.below hl23
 have hb27 := hb12.below hl23
 have ha28 : Apart u19.ownBlock (some b1) := new_ne_box hk24 hb16.lt
 have ha29 : Apart u19.ownBlock (some b9) := new_ne_box hk24 hb12.lt
 have ho30 : Own eInt 3 G w20 w.heap.size u19 ([]) := ho21.weaken hX15.size
 refine q1 rfl rfl rfl (o_build0 (E := eInt) (e := 3) Tryd.underlying40 sz3 hX25.pins (fun u31 w32 ho33 hp34 hl35 hk36 => ?_))
 have hX37 := hX25.step hp34 hl35
 have ho38 := ho30.below hl35
 have hb39 := hb26.below hl35
 have hb40 := hb27.below hl35
 have ha41 : Apart u31.ownBlock u19.ownBlock := new_ne_own hk36 ho30.lt
 have ha42 : Apart u31.ownBlock (some b1) := new_ne_box hk36 hb26.lt
 have ha43 : Apart u31.ownBlock (some b9) := new_ne_box hk36 hb27.lt
 have ho44 : Own eInt 3 G w32 w.heap.size u31 ([]) := ho33.weaken hX25.size
 refine qd rfl rfl rfl (r_assign (v := u19) rfl) ?_
 refine qd rfl rfl rfl (r_assign (v := u31) rfl) ?_
 refine qe (s_then (s_seq (s_seq (c_reg ?_))))
 refine qd rfl rfl rfl (r_assign (v := (.int .i64 0)) rfl) ?_
 refine qe (s_then ?_)
 refine s_blk ?_
 refine s_loop (fun (k : Nat) (en : Nat → Value) (W : World) => ∃ (env1 : Nat → Value) (i5 : Nat) (atA : Value) (atsA : List Int) (uA : Value) (vA : Value) (nsA : List Nd) (bsA : List Int) (GLA : Pin), en = (upd (upd (upd (upd (upd (upd (upd env1 0 u) 1 v) 4 (.pointer (some ⟨b1, 0, none⟩))) 5 (.pointer (some ⟨b9, 0, none⟩))) 6 atA) 7 u31) 8 (.int .i64 (i5 : Int))) ∧ k = fs.length - i5 ∧ Ext noS G w GLA W ∧ Pin.le G GLA ∧ (i5 ≤ fs.length) ∧ (PoolOk (bkq nsA bsA)) ∧ (GsOk (bkq nsA bsA) atsA ((fs.take i5).map gOf)) ∧ (nsA.length ≤ 1000 * i5) ∧ (Own eInt 3 GLA W w.heap.size atA (atsA)) ∧ (Own eNode 60 GLA W 0 uA (nsA)) ∧ (Own eInt 3 GLA W 0 vA (bsA)) ∧ (Own eInt 3 GLA W w.heap.size u31 ([])) ∧ (Bx GLA W b1 [(.slice none 0 0)]) ∧ (Bx GLA W b9 [uA, vA]) ∧ (Apart atA.ownBlock uA.ownBlock) ∧ (Apart atA.ownBlock vA.ownBlock) ∧ (Apart atA.ownBlock u31.ownBlock) ∧ (Apart atA.ownBlock (some b1)) ∧ (Apart atA.ownBlock (some b9)) ∧ (Apart uA.ownBlock vA.ownBlock) ∧ (Apart uA.ownBlock u31.ownBlock) ∧ (Apart uA.ownBlock (some b1)) ∧ (Apart uA.ownBlock (some b9)) ∧ (Apart vA.ownBlock u31.ownBlock) ∧ (Apart vA.ownBlock (some b1)) ∧ (Apart vA.ownBlock (some b9)) ∧ (Lo w noS uA.ownBlock) ∧ (Lo w noS vA.ownBlock)) _ ⟨_, 0, u19, [], (.slice none 0 0), (.slice none 0 0), [], [], G, (packS (x := 8) (packS (x := 7) (packS (x := 6) (packS (x := 5) (packS (x := 4) (packS (x := 1) (pack1 (x := 0) rfl) rfl) rfl) rfl) rfl) rfl) rfl), rfl, hX37, Pin.le_refl _, Nat.zero_le _, (bkq_ok Ar.empty), GsOk.nil, (by simp), ho38, (Own.nil _ _ _ _ _), (Own.nil _ _ _ _ _), ho44, hb39, hb40, apart_none.symm, apart_none.symm, ha41.symm, ha28, ha29, apart_none, apart_none, apart_none, apart_none, apart_none, apart_none, apart_none, (lo_none _ _), (lo_none _ _)⟩ ?_
 rintro k45 _ w46 ⟨env1, i5, atA, atsA, uA, vA, nsA, bsA, GLA, rfl, hk47, hX48, hlek45, hki5, hokA, hgsA, hblA, hw49, hw50, hw51, hw52, hw53, hw54, ha55, ha56, ha57, ha58, ha59, ha60, ha61, ha62, ha63, ha64, ha65, ha66, hlo67, hlo68⟩
 have hglA := hgsA.len
 rw [List.length_map, List.length_take] at hglA
 refine s_seq (s_seq (c_reg ?_))
 refine qd rfl rfl rfl (r_move (v := (.int .i64 (i5 : Int))) rfl) ?_
 refine qd rfl rfl rfl (r_move (v := u) rfl) ?_
 refine qd rfl rfl rfl (run_len Tryd.underlying38 (v := u) rfl hu) ?_
 refine qd rfl rfl rfl (r_lss rfl rfl) ?_
 refine qe (s_then ?_)
 refine c_ifd (p := ((i5 : Int) : Int) < (fs.length : Int)) rfl rfl (fun h69 => ?_) (fun h69 => ?_)
 ·skip
  have hgd := hfa.ok i5 (by omega)
  have hgdl := hgd.2.1
  have hgdh := hgd.2.2
  have hrk := bk_root (fs := fs.getD i5 []) hokA hgd.1 (by omega) (by omega)
  refine wp_skip ?_
  refine s_then (s_seq ?_)
  refine s_blk ?_
  refine c_reg ?_
  refine qd rfl rfl rfl (r_move (v := atA) rfl) ?_
  refine qd rfl rfl rfl (r_move (v := (.pointer (some ⟨b9, 0, none⟩))) rfl) ?_
  refine qd rfl rfl rfl (r_move (v := u) rfl) ?_
  refine qd rfl rfl rfl (r_move (v := (.int .i64 (i5 : Int))) rfl) ?_
  refine qd rfl rfl rfl (run_idx Tryd.underlying38 sz26 (v := u) rfl rfl hu (by omega) (by omega)) ?_
  obtain ⟨u70, hr71, hl72⟩ := nm_form (hu.at (z := (i5 : Int)) (by omega) (by omega)) (j := i5) rfl
  have hm73 := hr71.max
  refine qd rfl rfl rfl (hl72 ag26 sz26 rfl (Pins.of_le hX48.pins hlek45)) ?_
  refine q1 rfl rfl rfl (o_call (vs := [(.pointer (some ⟨b9, 0, none⟩)), (.agg [u70].toArray)]) Tryd.func53 nm53 rfl rfl rfl ?_)
  refine Calls.mono (root_spec hX48.pins ⟨hw54, hw50, hw51, ha63.symm, ha66.symm, ha60⟩ hokA.ar.ok (hr71.mono hlek45) ⟨hgd.1, hgdl⟩ (by first | omega | (simp; omega))) ?_
  rintro _ w77 ⟨u74, v75, G76, rfl, hbk78, hx79, hlu80, hlv81⟩
  refine ⟨_, rfl, ?_⟩
  have hin84 : ∀ i, inS b9 uA vA i → w.heap.size ≤ i ∨ noS i := inS_lo (lo_box hlo18) hlo67 hlo68
  have hX85 := hX48.trans hx79 hin84
  have hn86 := notS (u := uA) (v := vA) ha59 ha55 ha56
  have ho87 := hw49.extS hx79 hn86
  have ha88 : Apart atA.ownBlock u74.ownBlock := ap_call hlu80 hn86 (own_lt hw49)
  have ha89 : Apart atA.ownBlock v75.ownBlock := ap_call hlv81 hn86 (own_lt hw49)
  have hn90 := notS (u := uA) (v := vA) ha43 ha61.symm ha64.symm
  have ho91 := hw52.extS hx79 hn90
  have ha92 : Apart u31.ownBlock u74.ownBlock := ap_call hlu80 hn90 (own_lt hw52)
  have ha93 : Apart u31.ownBlock v75.ownBlock := ap_call hlv81 hn90 (own_lt hw52)
  have hn94 := notS (u := uA) (v := vA) ha17.symm ha62.symm ha65.symm
  have ho95 := hw53.extS hx79 (notSb hn94)
  have ha96 : Apart (some b1) u74.ownBlock := ap_call hlu80 hn94 (box_lt hw53)
  have ha97 : Apart (some b1) v75.ownBlock := ap_call hlv81 hn94 (box_lt hw53)
  have hb98 := hbk78.bx
  have ho99 := hbk78.ou
  have ho100 := hbk78.ov
  have ha101 := hbk78.abu
  have ha102 := hbk78.abv
  have ha103 := hbk78.auv
  have hlo104 := lo_call hlu80 hin84 hX48.size
  have hlo105 := lo_call hlv81 hin84 hX48.size
  refine q1 rfl rfl rfl (o_buildF (E := eInt) (e := 3) [(.int .i64 (rootM nsA bsA (fs.getD i5 [])))] [rootM nsA bsA (fs.getD i5 [])] Tryd.underlying40 sz3 zr3 (by exact reps1 (by rfl)) (ones1 (by rfl)) rfl rfl rfl rfl (by decide) hX85.pins (fun u106 w107 ho108 hp109 hl110 hk111 => ?_))
  have hX112 := hX85.step hp109 hl110
  have ho113 := ho87.below hl110
  have ho114 := ho91.below hl110
  have ho115 := ho99.below hl110
  have ho116 := ho100.below hl110
  have hb117 := ho95.below hl110
  have hb118 := hb98.below hl110
  have ho125 : Own eInt 3 G76 w107 w.heap.size u106 ([rootM nsA bsA (fs.getD i5 [])]) := ho108.weaken hX85.size
  refine q1 rfl rfl rfl (o_append (E := eInt) (v := atA) (u := u106) 8 Tryd.underlying40 ap3 (by decide) rfl rfl hX112.pins ho113 ho125.src (by first | omega | (rw [List.nil_append]; omega) | (rw [List.length_nil]; omega) | (rw [List.length_append]; omega) | (simp; done) | (simp; omega) | (simp only [List.length_append, List.length_cons, List.length_nil]; omega)) (by first | omega | (rw [List.nil_append]; omega) | (rw [List.length_nil]; omega) | (rw [List.length_append]; omega) | (simp; done) | (simp; omega) | (simp only [List.length_append, List.length_cons, List.length_nil]; omega)) (hX112.size) (fun u126 w127 ho128 hp129 hg130 hw131 => ?_))
  have hX132 := hX112.write hp129 hg130 ((lo_own ho113))
  have ho133 := ho114.keptA hg130 ha57.symm
  have ho134 := ho115.keptA hg130 ha88.symm
  have ho135 := ho116.keptA hg130 ha89.symm
  have hb137 := hb117.keptA hg130 ha58.symm
  have hb138 := hb118.keptA hg130 ha59.symm
  have ha139 : Apart u31.ownBlock u126.ownBlock := app_ne_own ha57.symm hw131 ho114.lt
  have ha140 : Apart u74.ownBlock u126.ownBlock := app_ne_own ha88.symm hw131 ho115.lt
  have ha141 : Apart v75.ownBlock u126.ownBlock := app_ne_own ha89.symm hw131 ho116.lt
  have ha143 : Apart (some b1) u126.ownBlock := app_ne_box ha58.symm hw131 hb117.lt
  have ha144 : Apart (some b9) u126.ownBlock := app_ne_box ha59.symm hw131 hb118.lt
  have hm145 : (atsA ++ ([rootM nsA bsA (fs.getD i5 [])])).length = atsA.length + 1 := List.length_append
  refine qd rfl rfl rfl (r_assign (v := u126) rfl) ?_
  refine qe ?_
  refine s_blkN ?_
  refine s_then (c_reg ?_)
  refine qd rfl rfl rfl (r_move (v := (.int .i64 (i5 : Int))) rfl) ?_
  refine qd rfl rfl rfl (r_add rfl rfl (by omega)) ?_
  refine qd rfl rfl rfl (r_assign (v := (.int .i64 ((i5 : Int) + 1))) rfl) ?_
  refine qe ?_
  refine s_lopN ?_
  refine ⟨_, ?_, _, rfl, _, i5 + 1, u126, atsA ++ ([rootM nsA bsA (fs.getD i5 [])]), u74, v75, (addM nsA bsA (fs.getD i5 [])).2.1, (addM nsA bsA (fs.getD i5 [])).2.2, G76, (packS (x := 8) (packS (x := 7) (packS (x := 6) (packS (x := 5) (packS (x := 4) (packS (x := 1) (pack1 (x := 0) rfl) rfl) rfl) rfl) rfl) rfl) rfl), rfl, hX132, (Pin.le_trans hlek45 hx79.le), (by omega), hrk.ok, (by rw [take_map (by omega)]; exact (hgsA.px hrk.px hokA hrk.ok).snoc hrk.pl hrk.pd), (by have h8 := hrk.len; have h9 := hgd.2.2; omega), ho128, ho134, ho135, ho133, hb137, hb138, ha140.symm, ha141.symm, ha139.symm, ha143.symm, ha144.symm, ha103, ha92.symm, ha96.symm, ha101.symm, ha93.symm, ha97.symm, ha102.symm, hlo104, hlo105⟩
  omega
 refine wp_exit ?_
 refine s_thenE ?_
 refine s_lopE ?_
 refine s_blkE ?_
 refine s_then (s_seq (s_seq (c_reg ?_)))
 refine qd rfl rfl rfl (r_assign (v := (.int .i64 0)) rfl) ?_
 refine qe (s_then ?_)
 refine s_blk ?_
 have hi5n : i5 = fs.length := by omega
 have hgsF : GsOk (bkq nsA bsA) atsA (fs.map gOf) := by rw [hi5n, List.take_length] at hgsA; exact hgsA
 refine s_loop (fun (k : Nat) (en : Nat → Value) (W : World) => ∃ (env1 : Nat → Value) (j5 : Nat) (atB : Value) (atsB : List Int) (uB : Value) (vB : Value) (nsB : List Nd) (bsB : List Int) (GLB : Pin), en = (upd (upd (upd (upd (upd (upd env1 1 v) 4 (.pointer (some ⟨b1, 0, none⟩))) 5 (.pointer (some ⟨b9, 0, none⟩))) 6 atA) 7 atB) 9 (.int .i64 (j5 : Int))) ∧ k = gs.length - j5 ∧ Ext noS G w GLB W ∧ Pin.le GLA GLB ∧ (j5 ≤ gs.length) ∧ (PoolOk (bkq nsB bsB)) ∧ (GsOk (bkq nsB bsB) atsB ((gs.take j5).map gOf)) ∧ (nsB.length ≤ 100000 + 1000 * j5) ∧ (GsOk (bkq nsB bsB) atsA (fs.map gOf)) ∧ (Own eInt 3 GLB W w.heap.size atB (atsB)) ∧ (Own eNode 60 GLB W 0 uB (nsB)) ∧ (Own eInt 3 GLB W 0 vB (bsB)) ∧ (Own eInt 3 GLB W w.heap.size atA (atsA)) ∧ (Bx GLB W b1 [(.slice none 0 0)]) ∧ (Bx GLB W b9 [uB, vB]) ∧ (Apart atB.ownBlock uB.ownBlock) ∧ (Apart atB.ownBlock vB.ownBlock) ∧ (Apart atB.ownBlock atA.ownBlock) ∧ (Apart atB.ownBlock (some b1)) ∧ (Apart atB.ownBlock (some b9)) ∧ (Apart uB.ownBlock vB.ownBlock) ∧ (Apart uB.ownBlock atA.ownBlock) ∧ (Apart uB.ownBlock (some b1)) ∧ (Apart uB.ownBlock (some b9)) ∧ (Apart vB.ownBlock atA.ownBlock) ∧ (Apart vB.ownBlock (some b1)) ∧ (Apart vB.ownBlock (some b9)) ∧ (Lo w noS uB.ownBlock) ∧ (Lo w noS vB.ownBlock)) _ ⟨_, 0, u31, [], uA, vA, nsA, bsA, GLA, (packS (x := 9) (packS (x := 7) (packS (x := 6) (packS (x := 5) (packS (x := 4) (pack1 (x := 1) rfl) rfl) rfl) rfl) rfl) rfl), rfl, hX48, Pin.le_refl _, Nat.zero_le _, hokA, GsOk.nil, (by omega), hgsF, hw52, hw50, hw51, hw49, hw53, hw54, ha61.symm, ha64.symm, ha57.symm, ha42, ha43, ha60, ha55.symm, ha62, ha63, ha56.symm, ha65, ha66, hlo67, hlo68⟩ ?_
 rintro k146 _ w147 ⟨env1, j5, atB, atsB, uB, vB, nsB, bsB, GLB, rfl, hk148, hX149, hlek146, hkj5, hokB, hgsB, hblB, hgsL, hw150, hw151, hw152, hw153, hw154, hw155, ha156, ha157, ha158, ha159, ha160, ha161, ha162, ha163, ha164, ha165, ha166, ha167, hlo168, hlo169⟩
 have hglB := hgsB.len
 rw [List.length_map, List.length_take] at hglB
 refine s_seq (s_seq (c_reg ?_))
 refine qd rfl rfl rfl (r_move (v := (.int .i64 (j5 : Int))) rfl) ?_
 refine qd rfl rfl rfl (r_move (v := v) rfl) ?_
 refine qd rfl rfl rfl (run_len Tryd.underlying38 (v := v) rfl hv) ?_
 refine qd rfl rfl rfl (r_lss rfl rfl) ?_
 refine qe (s_then ?_)
 refine c_ifd (p := ((j5 : Int) : Int) < (gs.length : Int)) rfl rfl (fun h170 => ?_) (fun h170 => ?_)
 ·skip
  have hgd := hga.ok j5 (by omega)
  have hgdl := hgd.2.1
  have hgdh := hgd.2.2
  have hrk := bk_root (fs := gs.getD j5 []) hokB hgd.1 (by omega) (by omega)
  refine wp_skip ?_
  refine s_then (s_seq ?_)
  refine s_blk ?_
  refine c_reg ?_
  refine qd rfl rfl rfl (r_move (v := atB) rfl) ?_
  refine qd rfl rfl rfl (r_move (v := (.pointer (some ⟨b9, 0, none⟩))) rfl) ?_
  refine qd rfl rfl rfl (r_move (v := v) rfl) ?_
  refine qd rfl rfl rfl (r_move (v := (.int .i64 (j5 : Int))) rfl) ?_
  refine qd rfl rfl rfl (run_idx Tryd.underlying38 sz26 (v := v) rfl rfl hv (by omega) (by omega)) ?_
  obtain ⟨u171, hr172, hl173⟩ := nm_form (hv.at (z := (j5 : Int)) (by omega) (by omega)) (j := j5) rfl
  have hm174 := hr172.max
  refine qd rfl rfl rfl (hl173 ag26 sz26 rfl (Pins.of_le hX149.pins (Pin.le_trans hlek45 hlek146))) ?_
  refine q1 rfl rfl rfl (o_call (vs := [(.pointer (some ⟨b9, 0, none⟩)), (.agg [u171].toArray)]) Tryd.func53 nm53 rfl rfl rfl ?_)
  refine Calls.mono (root_spec hX149.pins ⟨hw155, hw151, hw152, ha164.symm, ha167.symm, ha161⟩ hokB.ar.ok (hr172.mono (Pin.le_trans hlek45 hlek146)) ⟨hgd.1, hgdl⟩ (by first | omega | (simp; omega))) ?_
  rintro _ w178 ⟨u175, v176, G177, rfl, hbk179, hx180, hlu181, hlv182⟩
  refine ⟨_, rfl, ?_⟩
  have hin185 : ∀ i, inS b9 uB vB i → w.heap.size ≤ i ∨ noS i := inS_lo (lo_box hlo18) hlo168 hlo169
  have hX186 := hX149.trans hx180 hin185
  have hn187 := notS (u := uB) (v := vB) ha160 ha156 ha157
  have ho188 := hw150.extS hx180 hn187
  have ha189 : Apart atB.ownBlock u175.ownBlock := ap_call hlu181 hn187 (own_lt hw150)
  have ha190 : Apart atB.ownBlock v176.ownBlock := ap_call hlv182 hn187 (own_lt hw150)
  have hn191 := notS (u := uB) (v := vB) ha59 ha162.symm ha165.symm
  have ho192 := hw153.extS hx180 hn191
  have ha193 : Apart atA.ownBlock u175.ownBlock := ap_call hlu181 hn191 (own_lt hw153)
  have ha194 : Apart atA.ownBlock v176.ownBlock := ap_call hlv182 hn191 (own_lt hw153)
  have hn195 := notS (u := uB) (v := vB) ha17.symm ha163.symm ha166.symm
  have ho196 := hw154.extS hx180 (notSb hn195)
  have ha197 : Apart (some b1) u175.ownBlock := ap_call hlu181 hn195 (box_lt hw154)
  have ha198 : Apart (some b1) v176.ownBlock := ap_call hlv182 hn195 (box_lt hw154)
  have hb199 := hbk179.bx
  have ho200 := hbk179.ou
  have ho201 := hbk179.ov
  have ha202 := hbk179.abu
  have ha203 := hbk179.abv
  have ha204 := hbk179.auv
  have hlo205 := lo_call hlu181 hin185 hX149.size
  have hlo206 := lo_call hlv182 hin185 hX149.size
  refine q1 rfl rfl rfl (o_buildF (E := eInt) (e := 3) [(.int .i64 (rootM nsB bsB (gs.getD j5 [])))] [rootM nsB bsB (gs.getD j5 [])] Tryd.underlying40 sz3 zr3 (by exact reps1 (by rfl)) (ones1 (by rfl)) rfl rfl rfl rfl (by decide) hX186.pins (fun u207 w208 ho209 hp210 hl211 hk212 => ?_))
  have hX213 := hX186.step hp210 hl211
  have ho214 := ho188.below hl211
  have ho215 := ho192.below hl211
  have ho216 := ho200.below hl211
  have ho217 := ho201.below hl211
  have hb218 := ho196.below hl211
  have hb219 := hb199.below hl211
  have ho226 : Own eInt 3 G177 w208 w.heap.size u207 ([rootM nsB bsB (gs.getD j5 [])]) := ho209.weaken hX186.size
  refine q1 rfl rfl rfl (o_append (E := eInt) (v := atB) (u := u207) 8 Tryd.underlying40 ap3 (by decide) rfl rfl hX213.pins ho214 ho226.src (by first | omega | (rw [List.nil_append]; omega) | (rw [List.length_nil]; omega) | (rw [List.length_append]; omega) | (simp; done) | (simp; omega) | (simp only [List.length_append, List.length_cons, List.length_nil]; omega)) (by first | omega | (rw [List.nil_append]; omega) | (rw [List.length_nil]; omega) | (rw [List.length_append]; omega) | (simp; done) | (simp; omega) | (simp only [List.length_append, List.length_cons, List.length_nil]; omega)) (hX213.size) (fun u227 w228 ho229 hp230 hg231 hw232 => ?_))
  have hX233 := hX213.write hp230 hg231 ((lo_own ho214))
  have ho234 := ho215.keptA hg231 ha158.symm
  have ho235 := ho216.keptA hg231 ha189.symm
  have ho236 := ho217.keptA hg231 ha190.symm
  have hb238 := hb218.keptA hg231 ha159.symm
  have hb239 := hb219.keptA hg231 ha160.symm
  have ha240 : Apart atA.ownBlock u227.ownBlock := app_ne_own ha158.symm hw232 ho215.lt
  have ha241 : Apart u175.ownBlock u227.ownBlock := app_ne_own ha189.symm hw232 ho216.lt
  have ha242 : Apart v176.ownBlock u227.ownBlock := app_ne_own ha190.symm hw232 ho217.lt
  have ha244 : Apart (some b1) u227.ownBlock := app_ne_box ha159.symm hw232 hb218.lt
  have ha245 : Apart (some b9) u227.ownBlock := app_ne_box ha160.symm hw232 hb219.lt
  have hm246 : (atsB ++ ([rootM nsB bsB (gs.getD j5 [])])).length = atsB.length + 1 := List.length_append
  refine qd rfl rfl rfl (r_assign (v := u227) rfl) ?_
  refine qe ?_
  refine s_blkN ?_
  refine s_then (c_reg ?_)
  refine qd rfl rfl rfl (r_move (v := (.int .i64 (j5 : Int))) rfl) ?_
  refine qd rfl rfl rfl (r_add rfl rfl (by omega)) ?_
  refine qd rfl rfl rfl (r_assign (v := (.int .i64 ((j5 : Int) + 1))) rfl) ?_
  refine qe ?_
  refine s_lopN ?_
  refine ⟨_, ?_, _, rfl, _, j5 + 1, u227, atsB ++ ([rootM nsB bsB (gs.getD j5 [])]), u175, v176, (addM nsB bsB (gs.getD j5 [])).2.1, (addM nsB bsB (gs.getD j5 [])).2.2, G177, (packS (x := 9) (packS (x := 7) (packS (x := 6) (packS (x := 5) (packS (x := 4) (pack1 (x := 1) rfl) rfl) rfl) rfl) rfl) rfl), rfl, hX233, (Pin.le_trans hlek146 hx180.le), (by omega), hrk.ok, (by rw [take_map (by omega)]; exact (hgsB.px hrk.px hokB hrk.ok).snoc hrk.pl hrk.pd), (by have h8 := hrk.len; have h9 := hgd.2.2; omega), (hgsL.px hrk.px hokB hrk.ok), ho229, ho235, ho236, ho234, hb238, hb239, ha241.symm, ha242.symm, ha240.symm, ha244.symm, ha245.symm, ha204, ha193.symm, ha197.symm, ha202.symm, ha194.symm, ha198.symm, ha203.symm, hlo205, hlo206⟩
  omega
 refine wp_exit ?_
 refine s_thenE ?_
 refine s_lopE ?_
 refine s_blkE ?_
 refine s_then (s_seq (c_reg ?_))
 have hj5n : j5 = gs.length := by omega
 have hgsR : GsOk (bkq nsB bsB) atsB (gs.map gOf) := by rw [hj5n, List.take_length] at hgsB; exact hgsB
 have hl1 := hgsL.len
 have hl2 := hgsR.len
 rw [List.length_map] at hl1 hl2
 have hpt := bk_put (xs := atsA) (ys := atsB) hokB (by omega) ⟨by omega, by omega⟩ hgsL.pl hgsR.pl
 have hpd := hpt.pd
 rw [hgsL.eq, hgsR.eq] at hpd
 refine qd rfl rfl rfl (r_move (v := (.pointer (some ⟨b9, 0, none⟩))) rfl) ?_
 refine qd rfl rfl rfl (r_move (v := (.pointer (some ⟨b9, 0, none⟩))) rfl) ?_
 refine qd rfl rfl rfl (r_move (v := atA) rfl) ?_
 refine qd rfl rfl rfl (r_move (v := atB) rfl) ?_
 obtain ⟨G247, hle250, hX249, hr248, hf251⟩ := hw153.sealed hX149
 have ho252 := hw150.moreO hle250 hf251 ha158
 have ho253 := hw151.moreO hle250 hf251 ha162
 have ho254 := hw152.moreO hle250 hf251 ha165
 have hb255 := hw154.moreO hf251 ha58.symm
 have hb256 := hw155.moreO hf251 ha59.symm
 obtain ⟨G257, hle260, hX259, hr258, hf261⟩ := ho252.sealed hX249
 have ho262 := ho253.moreO hle260 hf261 ha156.symm
 have ho263 := ho254.moreO hle260 hf261 ha157.symm
 have hb264 := hb255.moreO hf261 ha159.symm
 have hb265 := hb256.moreO hf261 ha160.symm
 refine q1 rfl rfl rfl (o_call (vs := [(.pointer (some ⟨b9, 0, none⟩)), atA, atB]) Tryd.func63 nm63 rfl rfl rfl ?_)
 refine Calls.mono (put_spec hX259.pins ⟨hb265, ho262, ho263, ha164.symm, ha167.symm, ha161⟩ hokB.ar.ok (hr248.mono hle260) hr258 ⟨by omega, by omega⟩ (places_of hgsL.pl) (places_of hgsR.pl)) ?_
 rintro _ w269 ⟨u266, v267, G268, rfl, hbk270, hx271, hlu272, hlv273⟩
 refine ⟨_, rfl, ?_⟩
 have hin276 : ∀ i, inS b9 uB vB i → w.heap.size ≤ i ∨ noS i := inS_lo (lo_box hlo18) hlo168 hlo169
 have hX277 := hX259.trans hx271 hin276
 have hn278 := notS (u := uB) (v := vB) ha17.symm ha163.symm ha166.symm
 have ho279 := hb264.extS hx271 (notSb hn278)
 have hb282 := hbk270.bx
 have ho283 := hbk270.ou
 have ho284 := hbk270.ov
 have ha285 := hbk270.abu
 have ha286 := hbk270.abv
 have ha287 := hbk270.auv
 have hlo288 := lo_call hlu272 hin276 hX259.size
 have hlo289 := lo_call hlv273 hin276 hX259.size
 refine q1 rfl rfl rfl (o_call (vs := [(.pointer (some ⟨b9, 0, none⟩)), (.int .i64 (putK nsB bsB atsA atsB))]) Tryd.func52 nm52 rfl rfl rfl ?_)
 refine Calls.mono (form_own hX277.pins ⟨hb282, ho283, ho284, ha285, ha286, ha287⟩ hpt.ok.ar.ok hpt.pl) ?_
 rintro _ w292 ⟨u290, G291, rfl, hr293, hx294, hfr295⟩
 refine ⟨_, rfl, ?_⟩
 have hlb296 : b1 < w269.heap.size := ho279.lt
 have hlb297 : b9 < w269.heap.size := hb282.lt
 have hX298 := hX277.tr hx294
 have hb301 := ho279.ext hx294
 refine q0 rfl rfl rfl (o_stp (cs' := [u290]) (us := [u290]) (v := (.agg [u290].toArray)) sz26 rfl rfl rfl (ones1 hr293.one) hX298.pins hb301 (Nat.le_of_ble_eq_true rfl) rfl (fun w303 hb304 hp305 hg306 hz307 => ?_))
 have hX308 := hX298.write hp305 hg306 ((lo_box hlo8))
 have hgi312 : ∃ Gi, Own eNode 60 Gi w303 w269.heap.size u290 (formM (putN nsB bsB atsA atsB) (putB nsB bsB atsA atsB) (putK nsB bsB atsA atsB).toNat) ∧ Pin.le Gi G291 := let ⟨Gi, a, b⟩ := hfr295; ⟨Gi, a.keptA hg306 (fun k hk1 hk2 => by cases hk2; have := (a.lt _ hk1).1; omega), b⟩
 refine qe (s_then ?_)
 refine wp_ret ?_
 refine s_ret ?_
 refine c_retc (cs := [u290]) rfl rfl rfl ag26 sz26 (fun j u hj => by rw [Nat.zero_add]; exact hb304.cell hj) ?_
 have hfe : mkGm fs gs = _ := hpd.symm
 obtain ⟨Gi, hoi, hli⟩ := hgi312
 exact ⟨_, _, rfl, (by rw [hfe, ← book_form hpt.ok hpt.pl]; exact hr293), hX308, (by rw [hfe, ← book_form hpt.ok hpt.pl]; exact ⟨Gi, hoi.weaken hX277.size, hli⟩)⟩

end MK1
end Go.Proofs.YtkfgdhanaijddaaDoor
