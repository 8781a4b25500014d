/- Walks, printed by a program (walkgen.py) from the spec specs_pl. -/
import Derived.Test.YtndhhpaldhlghaaDoorChecked
import Derived.Test.YtndhhpaldhlghaaDoorRow
import Derived.Test.YtndhhpaldhlghaaDoorLoad
import Derived.Test.YtndhhpaldhlghaaDoorShelf
import Derived.Test.YtndhhpaldhlghaaDoorB1
import Derived.Test.YtndhhpaldhlghaaDoorK1
import Derived.Test.YtndhhpaldhlghaaDoorPO1
set_option maxRecDepth 20000
set_option maxHeartbeats 2000000
namespace Go.Proofs.YtndhhpaldhlghaaDoor
namespace PL1
open Go.RowKit Go.GL Go.Proofs
open Go.Proofs.YtndhhpaldhlghaaDoor.B1
open Go.Proofs.YtndhhpaldhlghaaDoor.K1
open Go.Proofs.YtndhhpaldhlghaaDoor.PO1
theorem ag100 : (Tryd.prog.underlying 100).map aggD = some true := by kernel_rfl
theorem ag28 : (Tryd.prog.underlying 28).map aggD = some false := by kernel_rfl
theorem ag3 : (Tryd.prog.underlying 3).map aggD = some false := by kernel_rfl
theorem ag30 : (Tryd.prog.underlying 30).map aggD = some true := by kernel_rfl
theorem ag38 : (Tryd.prog.underlying 38).map aggD = some false := by kernel_rfl
theorem ag69 : (Tryd.prog.underlying 69).map aggD = some true := by kernel_rfl
theorem ag94 : (Tryd.prog.underlying 94).map aggD = some false := by kernel_rfl
theorem ag97 : (Tryd.prog.underlying 97).map aggD = some false := by kernel_rfl
theorem ap3 : (Tryd.prog.info? 3).map (fun i => (i.size, i.bytes, (i.zero.map (·.cells.size)))) = some (1, 8, some 1) := by kernel_rfl
theorem mk3 : (Tryd.prog.info? 3).map (fun i => (i.size, i.bytes, i.zero)) = some (1, 8, some (.int .i64 0)) := by kernel_rfl
theorem nm38 : (Tryd.f38.name == "runtime.NumGoroutine") = false := by kernel_rfl
theorem nm69 : (Tryd.f69.name == "runtime.NumGoroutine") = false := by kernel_rfl
theorem nm73 : (Tryd.f73.name == "runtime.NumGoroutine") = false := by kernel_rfl
theorem nm88 : (Tryd.f88.name == "runtime.NumGoroutine") = false := by kernel_rfl
theorem nz28 : (Tryd.prog.info? 28).map (·.size == 0) = some false := by kernel_rfl
theorem nz38 : (Tryd.prog.info? 38).map (·.size == 0) = some false := by kernel_rfl
theorem nz94 : (Tryd.prog.info? 94).map (·.size == 0) = some false := by kernel_rfl
theorem nz97 : (Tryd.prog.info? 97).map (·.size == 0) = some false := by kernel_rfl
theorem pl99 : (Tryd.prog.underlying 99).bind (placesD Tryd.prog) = some [(0, 1), (1, 1), (2, 1), (3, 1), (4, 1), (5, 1), (6, 1), (7, 1)] := by kernel_rfl
theorem sz100 : (Tryd.prog.info? 100).map (·.size) = some 2 := by kernel_rfl
theorem sz3 : (Tryd.prog.info? 3).map (·.size) = some 1 := by kernel_rfl
theorem sz30 : (Tryd.prog.info? 30).map (·.size) = some 1 := by kernel_rfl
theorem sz38 : (Tryd.prog.info? 38).map (·.size) = some 1 := by kernel_rfl
theorem sz69 : (Tryd.prog.info? 69).map (·.size) = some 2 := by kernel_rfl
theorem zr100 : (Tryd.prog.info? 100).bind (·.zero) = some (.agg #[(.int .i64 0), (.int .i64 0)]) := by kernel_rfl
theorem zr3 : (Tryd.prog.info? 3).bind (·.zero) = some (.int .i64 0) := by kernel_rfl
theorem zr4 : (Tryd.prog.info? 4).bind (·.zero) = some (.bool false) := by kernel_rfl
theorem zr69 : (Tryd.prog.info? 69).bind (·.zero) = some (.agg #[(.slice none 0 0), (.slice none 0 0)]) := by kernel_rfl
theorem zr99 : (Tryd.prog.info? 99).bind (·.zero) = some (.agg #[(.slice none 0 0), (.slice none 0 0), (.slice none 0 0), (.map none), (.map none), (.map none), (.map none), (.map none)]) := by kernel_rfl

theorem newPool_spec {w : World} {G : Pin} (hP : Pins G w) :
    Calls Tryd.prog 37 [].toArray w fun e w' => ∃ (p : Nat) (mm : PM) (G' : Pin), e = .returned (.pointer (some ⟨p, 0, none⟩)) ∧ Pk 38 3 G' w' p (.slice none 0 0) (.slice none 0 0) (.slice none 0 0) mm ⟨[], [], [], [], [], [], []⟩ ∧ (∀ k, inP p (.slice none 0 0) (.slice none 0 0) (.slice none 0 0) mm k → w.heap.size ≤ k) ∧ Ext noS G w G' w' := by
  refine s_enter (n := 8) Tryd.func37 Tryd.ntmps37 rfl rfl ?_
  have hX0 : Ext noS G w G w := Ext.refl hP
  refine s_seq ?_
  refine c_reg ?_
  refine qd rfl rfl rfl (r_assign (v := (.pointer none)) rfl) ?_
  refine qe ?_
  refine s_then ?_
  refine s_seq ?_
  refine c_reg ?_
  refine q1 rfl rfl rfl (o_makeMap (fun k : ByteArray => Value.string k) (fun v : Int => Value.int .i64 v) hX0.pins (fun m1 w2 hk3 hm4 hp5 hl6 => ?_))
  have hX7 := hX0.step hp5 hl6
  have hlo8 : w.heap.size ≤ m1 := by have := hX0.size; omega
  refine q1 rfl rfl rfl (o_makeMap encP2 (fun v : Bool => Value.bool v) hX7.pins (fun m9 w10 hk11 hm12 hp13 hl14 => ?_))
  have hX15 := hX7.step hp13 hl14
  have hm16 := hm4.below hl14
  have ha17 : Apart (some m9) (some m1) := new_ne_box (congrArg some hk11) hm4.lt
  have hlo18 : w.heap.size ≤ m9 := by have := hX7.size; omega
  refine q1 rfl rfl rfl (o_makeMap (fun k : Int => Value.int .i64 k) (fun v : Int => Value.int .i64 v) hX15.pins (fun m19 w20 hk21 hm22 hp23 hl24 => ?_))
  have hX25 := hX15.step hp23 hl24
  have hm26 := hm16.below hl24
  have hm27 := hm12.below hl24
  have ha28 : Apart (some m19) (some m1) := new_ne_box (congrArg some hk21) hm16.lt
  have ha29 : Apart (some m19) (some m9) := new_ne_box (congrArg some hk21) hm12.lt
  have hlo30 : w.heap.size ≤ m19 := by have := hX15.size; omega
  refine q1 rfl rfl rfl (o_makeMap encP2 (fun v : Int => Value.int .i64 v) hX25.pins (fun m31 w32 hk33 hm34 hp35 hl36 => ?_))
  have hX37 := hX25.step hp35 hl36
  have hm38 := hm26.below hl36
  have hm39 := hm27.below hl36
  have hm40 := hm22.below hl36
  have ha41 : Apart (some m31) (some m1) := new_ne_box (congrArg some hk33) hm26.lt
  have ha42 : Apart (some m31) (some m9) := new_ne_box (congrArg some hk33) hm27.lt
  have ha43 : Apart (some m31) (some m19) := new_ne_box (congrArg some hk33) hm22.lt
  have hlo44 : w.heap.size ≤ m31 := by have := hX25.size; omega
  refine q1 rfl rfl rfl (o_makeMap (fun k : Int => Value.int .i64 k) (fun v : Int => Value.int .i64 v) hX37.pins (fun m45 w46 hk47 hm48 hp49 hl50 => ?_))
  have hX51 := hX37.step hp49 hl50
  have hm52 := hm38.below hl50
  have hm53 := hm39.below hl50
  have hm54 := hm40.below hl50
  have hm55 := hm34.below hl50
  have ha56 : Apart (some m45) (some m1) := new_ne_box (congrArg some hk47) hm38.lt
  have ha57 : Apart (some m45) (some m9) := new_ne_box (congrArg some hk47) hm39.lt
  have ha58 : Apart (some m45) (some m19) := new_ne_box (congrArg some hk47) hm40.lt
  have ha59 : Apart (some m45) (some m31) := new_ne_box (congrArg some hk47) hm34.lt
  have hlo60 : w.heap.size ≤ m45 := by have := hX37.size; omega
  refine qd rfl rfl rfl (r_build [(.slice none 0 0), (.slice none 0 0), (.slice none 0 0), (.map none), (.map none), (.map none), (.map none), (.map none)] [(.slice none 0 0), (.slice none 0 0), (.slice none 0 0), (.map (some m1)), (.map (some m9)), (.map (some m19)), (.map (some m31)), (.map (some m45))] [(3, (.map (some m1)), [(.map (some m1))]), (4, (.map (some m9)), [(.map (some m9))]), (5, (.map (some m19)), [(.map (some m19))]), (6, (.map (some m31)), [(.map (some m31))]), (7, (.map (some m45)), [(.map (some m45))])] Tryd.underlying99 zr99 rfl pl99 rfl (List.forall_mem_cons.2 ⟨rfl, (List.forall_mem_cons.2 ⟨rfl, (List.forall_mem_cons.2 ⟨rfl, (List.forall_mem_cons.2 ⟨rfl, (List.forall_mem_cons.2 ⟨rfl, (fun _ h => by cases h)⟩)⟩)⟩)⟩)⟩) rfl) ?_
  refine q1 rfl rfl rfl (o_box [(.slice none 0 0), (.slice none 0 0), (.slice none 0 0), (.map (some m1)), (.map (some m9)), (.map (some m19)), (.map (some m31)), (.map (some m45))] (v := (.agg [(.slice none 0 0), (.slice none 0 0), (.slice none 0 0), (.map (some m1)), (.map (some m9)), (.map (some m19)), (.map (some m31)), (.map (some m45))].toArray)) rfl rfl hX51.pins (fun b61 w62 hk63 hb64 hp65 hl66 => ?_))
  have hX67 := hX51.step hp65 hl66
  have hm68 := hm52.below hl66
  have hm69 := hm53.below hl66
  have hm70 := hm54.below hl66
  have hm71 := hm55.below hl66
  have hm72 := hm48.below hl66
  have hlo73 : w.heap.size ≤ b61 := by have := hX51.size; omega
  refine qd rfl rfl rfl (r_assign (v := (.pointer (some ⟨b61, 0, none⟩))) rfl) ?_
  refine qe ?_
  refine s_then ?_
  refine wp_ret ?_
  refine s_ret ?_
  refine c_ret1 (v := (.pointer (some ⟨b61, 0, none⟩))) rfl rfl rfl ?_
  have hdf : PDiff ⟨m1, m9, m19, m31, m45⟩ := ⟨fun e => ha17.symm _ rfl (congrArg some e.symm), fun e => ha28.symm _ rfl (congrArg some e.symm), fun e => ha41.symm _ rfl (congrArg some e.symm), fun e => ha56.symm _ rfl (congrArg some e.symm), fun e => ha29.symm _ rfl (congrArg some e.symm), fun e => ha42.symm _ rfl (congrArg some e.symm), fun e => ha57.symm _ rfl (congrArg some e.symm), fun e => ha43.symm _ rfl (congrArg some e.symm), fun e => ha58.symm _ rfl (congrArg some e.symm), fun e => ha59.symm _ rfl (congrArg some e.symm)⟩
  have hfr : ∀ k, inP b61 (.slice none 0 0) (.slice none 0 0) (.slice none 0 0) ⟨m1, m9, m19, m31, m45⟩ k → w.heap.size ≤ k := by rintro k (rfl | hk | hk | hk | rfl | rfl | rfl | rfl | rfl) <;> first | (cases hk; done) | exact hlo73 | exact hlo8 | exact hlo18 | exact hlo30 | exact hlo44 | exact hlo60
  exact ⟨b61, ⟨m1, m9, m19, m31, m45⟩, _, rfl, ⟨hb64, (Own.nil _ _ _ _ _), (Own.nil _ _ _ _ _), (Own.nil _ _ _ _ _), hm68, hm69, hm70, hm71, hm72, apart_none.symm, apart_none.symm, apart_none.symm, apart_none, apart_none, apart_none, hdf⟩, hfr, hX67⟩

theorem renamed_spec {w : World} {G : Pin} {u v : Value} {xs ys : List Int} (hP : Pins G w) (hu : RSl eInt G u xs) (hv : RSl eInt G v ys) (hs : xs.length ≤ 1048576) (hb : ∀ i, i < xs.length → 0 ≤ xs.getD i 0 ∧ xs.getD i 0 < ys.length) :
    Calls Tryd.prog 73 [u, v].toArray w fun e w' => ∃ (u : Value) (G' : Pin), e = .returned u ∧ Own eInt 3 G' w' w.heap.size u (atL ys xs) ∧ Ext noS G w G' w' := by
  refine s_enter (n := 27) Tryd.func73 Tryd.ntmps73 rfl rfl ?_
  have hX0 : Ext noS G w G w := Ext.refl hP
  have hm := hu.max
  have hal : (atL ys xs).length = xs.length := at_length
  have hrl : (List.replicate xs.length (0 : Int)).length = xs.length := List.length_replicate
  refine s_seq ?_
  refine c_reg ?_
  refine qd rfl rfl rfl (r_assign (v := (.slice none 0 0)) rfl) ?_
  refine qe ?_
  refine s_then ?_
  refine s_seq ?_
  refine c_reg ?_
  refine qd rfl rfl rfl (r_move (v := u) rfl) ?_
  refine qd rfl rfl rfl (run_len Tryd.underlying38 (v := u) rfl hu) ?_
  refine q1 rfl rfl rfl (o_make (E := eInt) 0 8 (.int .i64 0) Tryd.underlying38 mk3 (fun _ => rfl) rfl rfl hX0.pins (by omega) (by omega) (by omega) (fun u1 w2 ho3 hp4 hl5 hk6 => ?_))
  have hX7 := hX0.step hp4 hl5
  have ho8 : Own eInt 3 G w2 w.heap.size u1 (List.replicate xs.length 0) := ho3.weaken hX0.size
  have hm9 : (List.replicate xs.length 0).length = xs.length := List.length_replicate ..
  refine qd rfl rfl rfl (r_assign (v := u1) rfl) ?_
  refine qe ?_
  refine s_then ?_
  refine s_seq ?_
  refine s_seq ?_
  refine c_reg ?_
  refine qd rfl rfl rfl (r_move (v := u) rfl) ?_
  refine qd rfl rfl rfl (run_len Tryd.underlying38 (v := u) rfl hu) ?_
  refine qd rfl rfl rfl (r_move (v := (.int .i64 0)) rfl) ?_
  refine qe ?_
  refine s_then ?_
  refine s_blk ?_
  refine s_loop (fun (k : Nat) (en : Nat → Value) (W : World) => ∃ (env1 : Nat → Value) (j : Nat) (os : List Int), en = (upd (upd (upd (upd (upd (upd env1 1 v) 4 (.slice none 0 0)) 5 u1) 11 u) 12 (.int .i64 (xs.length : Int))) 13 (.int .i64 (j : Int))) ∧ k = xs.length - j ∧ Ext noS G w G W ∧ (j ≤ xs.length) ∧ (os = (atL ys xs).take j ++ (List.replicate xs.length 0).drop j) ∧ (os.length = xs.length) ∧ (Own eInt 3 G W w.heap.size u1 (os))) _ ⟨_, 0, List.replicate xs.length 0, (packS (x := 13) (packS (x := 12) (packS (x := 11) (packS (x := 5) (packS (x := 4) (pack1 (x := 1) rfl) rfl) rfl) rfl) rfl) rfl), rfl, hX7, Nat.zero_le _, rfl, hrl, ho8⟩ ?_
  rintro k10 _ w11 ⟨env1, j, os, rfl, hk12, hX13, hj, hr, hol, hw14⟩
  refine s_seq ?_
  refine c_reg ?_
  refine qd rfl rfl rfl (r_lss rfl rfl) ?_
  refine qe ?_
  refine s_then ?_
  refine s_seq ?_
  refine c_ifd (p := ((j : Int) : Int) < (xs.length : Int)) rfl rfl (fun h15 => ?_) (fun h15 => ?_)
  · skip
    have hbj := hb j (by omega)
    refine wp_skip ?_
    refine s_then ?_
    refine s_seq ?_
    refine s_blk ?_
    refine s_seq ?_
    refine c_reg ?_
    refine qd rfl rfl rfl (r_move (v := (.int .i64 (j : Int))) rfl) ?_
    refine qd rfl rfl rfl (run_idx Tryd.underlying38 sz3 (v := u) rfl rfl hu (by omega) (by omega)) ?_
    refine qd rfl rfl rfl (run_load_int (r := xs.getD j 0) rfl ag3 (z := (j : Int)) rfl hu hX13.pins (by omega) (by omega)) ?_
    refine qd rfl rfl rfl (r_assign (v := (.int .i64 (j : Int))) rfl) ?_
    refine qd rfl rfl rfl (r_assign (v := (.int .i64 (xs.getD j 0))) rfl) ?_
    refine qe ?_
    refine s_then ?_
    refine c_reg ?_
    refine qd rfl rfl rfl (r_move (v := u1) rfl) ?_
    refine qd rfl rfl rfl (r_move (v := (.int .i64 (j : Int))) rfl) ?_
    refine qd rfl rfl rfl (r_move (v := v) rfl) ?_
    refine qd rfl rfl rfl (r_move (v := (.int .i64 (xs.getD j 0))) rfl) ?_
    refine qd rfl rfl rfl (run_idx Tryd.underlying38 sz3 (v := v) rfl rfl hv (by omega) (by omega)) ?_
    refine qd rfl rfl rfl (run_load_int (r := ys.getD (xs.getD j 0).toNat 0) rfl ag3 (z := (xs.getD j 0)) rfl hv hX13.pins (by omega) (by omega)) ?_
    refine qd rfl rfl rfl (run_idx Tryd.underlying38 sz3 (v := u1) rfl rfl hw14.read (by omega) (by omega)) ?_
    refine q0 rfl rfl rfl (o_set (E := eInt) (v := u1) (u := (.int .i64 (ys.getD (xs.getD j 0).toNat 0))) (z := (j : Int)) (ys.getD (xs.getD j 0).toNat 0) sz3 rfl rfl rfl rfl hX13.pins hw14 (by omega) (by omega) (fun w16 ho17 hp18 hg19 hz20 => ?_))
    have hX21 := hX13.write hp18 hg19 ((lo_own hw14))
    refine qe ?_
    refine s_blkN ?_
    refine s_then ?_
    refine c_reg ?_
    refine qd rfl rfl rfl (r_add rfl rfl (by omega)) ?_
    refine qd rfl rfl rfl (r_move (v := (.int .i64 ((j : Int) + 1))) rfl) ?_
    refine qe ?_
    refine s_lopN ?_
    refine ⟨_, ?_, _, rfl, _, j + 1, os.set j (ys.getD (xs.getD j 0).toNat 0), (packS (x := 13) (packS (x := 12) (packS (x := 11) (packS (x := 5) (packS (x := 4) (pack1 (x := 1) rfl) rfl) rfl) rfl) rfl) rfl), rfl, hX21, (by omega), (by rw [hr]; exact cur_set 0 (by omega) (by omega) (at_getD (by omega))), ((List.length_set ..).trans hol), ho17⟩
    omega
  refine wp_exit ?_
  refine s_thenE ?_
  refine s_lopE ?_
  refine s_blkE ?_
  refine s_then ?_
  refine s_seq ?_
  refine c_reg ?_
  refine qd rfl rfl rfl (r_move (v := u1) rfl) ?_
  refine qd rfl rfl rfl (r_assign (v := u1) rfl) ?_
  refine qe ?_
  refine s_then ?_
  refine wp_ret ?_
  refine s_ret ?_
  refine c_ret1 (v := u1) rfl rfl rfl ?_
  rw [cur_end (by omega) (by omega)] at hr
  exact ⟨_, _, rfl, (by rw [← hr]; exact hw14), hX13⟩

theorem load_spec {w : World} {G : Pin} {p : Nat} {L R B : Value} {mm : PM} {q : PSt} (hP : Pins G w) (hpk : Pk 38 3 G w p L R B mm q) (hok : PoolOk q) {x : Value} {fs : List Nd} (hx : RSl eNode G x fs) (hf : FormOk fs) (hl : q.ns.length + fs.length ≤ 1048576) :
    Calls Tryd.prog 69 [(.pointer (some ⟨p, 0, none⟩)), (.agg [x].toArray)].toArray w fun e w' => ∃ (u : Value) (ats : List Int) (L' R' B' : Value) (q' : PSt) (G' : Pin), e = .returned u ∧ Pk 38 3 G' w' p L' R' B' mm q' ∧ PoolOk q' ∧ PX q q' ∧ PLo w p L R B mm L' R' B' ∧ Ext (inP p L R B mm) G w G' w' ∧ Own eInt 3 G' w' w.heap.size u ats ∧ NP p L' R' B' mm u.ownBlock ∧ LdOk fs q q' fs.length ats := by
  refine s_enter (n := 34) Tryd.func69 Tryd.ntmps69 rfl rfl ?_
  have hX0 : Ext (inP p L R B mm) G w G w := Ext.refl hP
  have hpin : PIn w (inP p L R B mm) p L R B mm := PIn.self
  have hml1 : (q.ns.map Nd.l).length = q.ns.length ∧ (q.ns.map Nd.r).length = q.ns.length := ⟨List.length_map .., List.length_map ..⟩
  have hml2 : q.bs.length = q.ns.length ∧ q.ns.length ≤ 1048576 := ⟨hok.ar.ok.len, hok.ar.ok.lim⟩
  refine s_seq ?_
  refine c_reg ?_
  refine q1 rfl rfl rfl (o_box [x] (v := (.agg [x].toArray)) rfl rfl hX0.pins (fun b3 w4 hk5 hb6 hp7 hl8 => ?_))
  have hX9 := hX0.step hp7 hl8
  have hpk10 := hpk.below hl8 hp7
  have ha15 := hpk.new (x := (some b3)) (fun k hk => by rw [(congrArg some hk5)] at hk; cases hk; exact Nat.le_refl _)
  have hlo16 : w.heap.size ≤ b3 := by have := hX0.size; omega
  obtain ⟨G17, hle18, hX19, hbp20, hf21⟩ := hb6.shut hX9 hlo16
  have hpk22 := hpk10.more hle18 hf21 ha15
  refine qd rfl rfl rfl (r_assign (v := (.slice none 0 0)) rfl) ?_
  refine qe ?_
  refine s_then ?_
  refine s_seq ?_
  refine c_reg ?_
  refine qd rfl rfl rfl (r_fldp (k := 0) rfl Tryd.underlying30 rfl nz28 rfl) ?_
  refine qd rfl rfl rfl (r_ldp1 (u := x) ag28 rfl (hX19.pins _ _ _ (hbp20 0 _ rfl))) ?_
  refine qd rfl rfl rfl (run_len Tryd.underlying28 (v := x) rfl hx) ?_
  refine q1 rfl rfl rfl (o_make0 (E := eInt) Tryd.underlying38 mk3 rfl rfl hX19.pins (by omega) (by omega) (by omega) (fun u23 w24 ho25 hp26 hl27 hk28 => ?_))
  have hX29 := hX19.step hp26 hl27
  have hpk30 := hpk22.below hl27 hp26
  have ha35 := hpk22.new (x := u23.ownBlock) (fun k hk => by rw [hk28] at hk; cases hk; exact Nat.le_refl _)
  have ho36 : Own eInt 3 G17 w24 w.heap.size u23 ([]) := ho25.weaken hX19.size
  refine qd rfl rfl rfl (r_assign (v := u23) rfl) ?_
  refine qe ?_
  refine s_then ?_
  refine s_seq ?_
  refine s_seq ?_
  refine c_reg ?_
  refine qd rfl rfl rfl (r_fldp (k := 0) rfl Tryd.underlying30 rfl nz28 rfl) ?_
  refine qd rfl rfl rfl (r_ldp1 (u := x) ag28 rfl (hX29.pins _ _ _ (hbp20 0 _ rfl))) ?_
  refine qd rfl rfl rfl (run_len Tryd.underlying28 (v := x) rfl hx) ?_
  refine qd rfl rfl rfl (r_move (v := (.int .i64 0)) rfl) ?_
  refine qe ?_
  refine s_then ?_
  refine s_blk ?_
  refine s_loop (fun (k : Nat) (en : Nat → Value) (W : World) => ∃ (env1 : Nat → Value) (k4 : Nat) (at_ : Value) (ats : List Int) (L37 : Value) (R38 : Value) (B39 : Value) (q40 : PSt) (GL1 : Pin), en = (upd (upd (upd (upd (upd (upd env1 0 (.pointer (some ⟨p, 0, none⟩))) 4 (.slice none 0 0)) 5 at_) 13 x) 14 (.int .i64 (fs.length : Int))) 15 (.int .i64 (k4 : Int))) ∧ k = fs.length - k4 ∧ Ext (inP p L R B mm) G w GL1 W ∧ Pin.le G17 GL1 ∧ (k4 ≤ fs.length) ∧ (LdOk fs q q40 k4 ats) ∧ (Own eInt 3 GL1 W w.heap.size at_ (ats)) ∧ (Pk 38 3 GL1 W p L37 R38 B39 mm q40) ∧ (PIn w ((inP p L R B mm)) p L37 R38 B39 mm) ∧ (PoolOk q40) ∧ (PX q q40) ∧ (NP p L37 R38 B39 mm at_.ownBlock)) _ ⟨_, 0, u23, [], L, R, B, q, G17, (packS (x := 15) (packS (x := 14) (packS (x := 13) (packS (x := 5) (packS (x := 4) (pack1 (x := 0) rfl) rfl) rfl) rfl) rfl) rfl), rfl, hX29, Pin.le_refl _, Nat.zero_le _, LdOk.start, ho36, hpk30, hpin, hok, (PX.refl _), ha35⟩ ?_
  rintro k41 _ w42 ⟨env1, k4, at_, ats, L37, R38, B39, q40, GL1, rfl, hk43, hX44, hlek41, hk, hld, hw45, hpk46, hpin47, hok48, hpx49, hnp50⟩
  have hql51 := hpx49.len
  have hml52 : (q40.ns.map Nd.l).length = q40.ns.length ∧ (q40.ns.map Nd.r).length = q40.ns.length := ⟨List.length_map .., List.length_map ..⟩
  have hml53 : q40.bs.length = q40.ns.length ∧ q40.ns.length ≤ 1048576 := ⟨hok48.ar.ok.len, hok48.ar.ok.lim⟩
  have hal := hld.len
  have hah := hld.hi
  have hfl := hf.len
  refine s_seq ?_
  refine c_reg ?_
  refine qd rfl rfl rfl (r_lss rfl rfl) ?_
  refine qe ?_
  refine s_then ?_
  refine s_seq ?_
  refine c_ifd (p := ((k4 : Int) : Int) < (fs.length : Int)) rfl rfl (fun h54 => ?_) (fun h54 => ?_)
  · skip
    have oo := optsAt hf.opts (show k4 < fs.length by omega)
    have hfe := hf.lens k4 (by omega)
    refine wp_skip ?_
    refine s_then ?_
    refine s_seq ?_
    refine s_blk ?_
    refine s_seq ?_
    refine c_reg ?_
    refine qd rfl rfl rfl (run_idx Tryd.underlying28 sz69 (v := x) rfl rfl hx (by omega) (by omega)) ?_
    obtain ⟨u55, u56, hr57, hr58, hl59⟩ := nm_node (hx.at (z := (k4 : Int)) (by omega) (by omega)) (j := k4) rfl
    have hm60 := hr57.max
    have hm61 := hr58.max
    refine qd rfl rfl rfl (hl59 ag69 sz69 rfl (Pins.of_le hX44.pins (Pin.le_trans hle18 hlek41))) ?_
    refine q1 rfl rfl rfl (o_alloc [(.slice none 0 0), (.slice none 0 0)] zr69 rfl hX44.pins (fun b62 w63 hk64 hb65 hp66 hl67 => ?_))
    have hX68 := hX44.step hp66 hl67
    have ho69 := hw45.below hl67
    have hpk70 := hpk46.below hl67 hp66
    have ha71 : Apart (some b62) at_.ownBlock := new_ne_own (congrArg some hk64) hw45.lt
    have ha76 := hpk46.new (x := (some b62)) (fun k hk => by rw [(congrArg some hk64)] at hk; cases hk; exact Nat.le_refl _)
    have hlo77 : w.heap.size ≤ b62 := by have := hX44.size; omega
    refine q0 rfl rfl rfl (o_stp (cs' := [u55, u56]) (us := [u55, u56]) (v := (.agg [u55, u56].toArray)) sz69 rfl rfl rfl (ones2 hr57.one hr58.one) hX68.pins hb65 (Nat.le_of_ble_eq_true rfl) rfl (fun w78 hb79 hp80 hg81 hz82 => ?_))
    have hX83 := hX68.write hp80 hg81 ((lo_box hlo77))
    have ho84 := ho69.keptA hg81 ha71.symm
    have hpk85 := hpk70.kept hg81 hp80 ha76
    obtain ⟨G86, hle87, hX88, hbp89, hf90⟩ := hb79.shut hX83 hlo77
    have ho91 := ho84.moreA hle87 hf90 ha71.symm
    have hpk92 := hpk85.more hle87 hf90 ha76
    refine qe ?_
    refine s_then ?_
    refine c_draw (S := fun wz => Pins G86 wz) (last := 14) (by kernel_rfl) rfl ?_
    have hl93 : Below w78.heap.size w78 w78.drew := (Below.refl _ _).drew
    have hp94 := hX88.pins.below hl93
    have hX95 := hX88.step hp94 hl93
    have ho96 := ho91.below hl93
    have hpk97 := hpk92.below hl93 hp94
    refine dr_take (i := 0) rfl rfl rfl (want_none rfl _) (by kernel_rfl) (fun _ _ => r_move (v := at_) rfl) hX95.pins ?_
    refine dr_take (i := 1) rfl rfl rfl (want_none rfl _) (by kernel_rfl) (fun _ _ => r_move (v := (.pointer (some ⟨p, 0, none⟩))) rfl) hX95.pins ?_
    refine dr_take (i := 2) rfl rfl rfl (want_none rfl _) (by kernel_rfl) (fun _ _ => r_fldp (k := 0) rfl Tryd.underlying69 rfl nz38 rfl) hX95.pins ?_
    refine dr_take (i := 3) rfl rfl rfl (want_none rfl _) (by kernel_rfl) (fun _ hS => r_ldp1 (u := u55) ag38 rfl (hS _ _ _ (hbp89 0 _ rfl))) hX95.pins ?_
    refine dr_take (i := 4) rfl rfl rfl (want_none rfl _) (by kernel_rfl) (fun _ _ => r_move (v := at_) rfl) hX95.pins ?_
    refine dr_take (i := 6) rfl rfl rfl (want_none rfl _) (by kernel_rfl) (fun _ _ => r_fldp (k := 1) rfl Tryd.underlying69 rfl nz38 rfl) hX95.pins ?_
    refine dr_take (i := 7) rfl rfl rfl (want_none rfl _) (by kernel_rfl) (fun _ hS => r_ldp1 (u := u56) ag38 rfl (hS _ _ _ (hbp89 1 _ rfl))) hX95.pins ?_
    refine dr_take (i := 8) rfl rfl rfl (want_none rfl _) (by kernel_rfl) (fun _ _ => r_move (v := at_) rfl) hX95.pins ?_
    refine dr_one (i := 5) (by kernel_rfl) (drOp1 (i := 5) rfl rfl rfl (want_none rfl _) (o_call (vs := [u55, at_]) Tryd.func73 nm73 rfl rfl rfl ?_))
    refine Calls.mono (renamed_spec (Gadd.pins hX95.pins at_) ((hr57.mono (Pin.le_trans (Pin.le_trans hle18 hlek41) hle87)).mono (Gadd.le _ _ _)) ho96.read (by omega) (fun i hi => by have h7 := oo.1 _ (getD_mem (d := (0 : Int)) hi); omega)) ?_
    rintro _ w100 ⟨u98, G99, rfl, ho101, hx102⟩
    refine ⟨_, rfl, ?_⟩
    have hx103 := deep_back hX95.pins hx102
    have ho104 := ho101.anti flat_int (Pin.le_trans (Gadd.le G86 w78.drew at_) hx102.le)
    have hX105 := hX95.step hx103.pins hx103.below
    have ho106 := ho96.below hx103.below
    have hpk107 := hpk97.below hx103.below hx103.pins
    have ha108 : Apart u98.ownBlock at_.ownBlock := made_ne_own ho104.lt ho96.lt
    have ha109 := hpk97.new (x := u98.ownBlock) (fun k hk => (ho104.lt k hk).1)
    have ho110 : Own eInt 3 G86 w100 w.heap.size u98 (atL ats ((fs.getD k4 default).l)) := ho104.weaken hX95.size
    have hm111 : (atL ats ((fs.getD k4 default).l)).length = ((fs.getD k4 default).l).length := at_length
    refine ⟨fun _ => hX105.pins, ?_⟩
    refine dr_one (i := 9) (by kernel_rfl) (drOp1 (i := 9) rfl rfl rfl (want_none rfl _) (o_call (vs := [u56, at_]) Tryd.func73 nm73 rfl rfl rfl ?_))
    refine Calls.mono (renamed_spec (Gadd.pins hX105.pins at_) ((hr58.mono (Pin.le_trans (Pin.le_trans hle18 hlek41) hle87)).mono (Gadd.le _ _ _)) ho106.read (by omega) (fun i hi => by have h7 := oo.2 _ (getD_mem (d := (0 : Int)) hi); omega)) ?_
    rintro _ w114 ⟨u112, G113, rfl, ho115, hx116⟩
    refine ⟨_, rfl, ?_⟩
    have hx117 := deep_back hX105.pins hx116
    have ho118 := ho115.anti flat_int (Pin.le_trans (Gadd.le G86 w100 at_) hx116.le)
    have hX119 := hX105.step hx117.pins hx117.below
    have ho120 := ho106.below hx117.below
    have ho121 := ho110.below hx117.below
    have hpk122 := hpk107.below hx117.below hx117.pins
    have ha123 : Apart u112.ownBlock at_.ownBlock := made_ne_own ho118.lt ho106.lt
    have ha124 : Apart u112.ownBlock u98.ownBlock := made_ne_own ho118.lt ho110.lt
    have ha125 := hpk107.new (x := u112.ownBlock) (fun k hk => (ho118.lt k hk).1)
    have ho126 : Own eInt 3 G86 w114 w.heap.size u112 (atL ats ((fs.getD k4 default).r)) := ho118.weaken hX105.size
    have hm127 : (atL ats ((fs.getD k4 default).r)).length = ((fs.getD k4 default).r).length := at_length
    refine ⟨fun _ => hX119.pins, ?_⟩
    obtain ⟨G128, hle131, hX130, hr129, hf132⟩ := ho121.sealed hX119
    have ho133 := ho120.moreO hle131 hf132 ha108.symm
    have ho134 := ho126.moreO hle131 hf132 ha124
    have hpk135 := hpk122.moreO hle131 hf132 ha109
    obtain ⟨G136, hle139, hX138, hr137, hf140⟩ := ho134.sealed hX130
    have ho141 := ho133.moreO hle139 hf140 ha123.symm
    have hpk142 := hpk135.moreO hle139 hf140 ha125
    refine dr_one (i := 10) (by kernel_rfl) (drOp1 (i := 10) rfl rfl rfl (want_none rfl _) (o_call (vs := [(.pointer (some ⟨p, 0, none⟩)), u98, u112]) Tryd.func88 nm88 rfl rfl rfl ?_))
    refine Calls.mono (node_spec hX138.pins hpk142 hok48 (hr129.mono hle139) hr137 (by omega) ⟨by rw [at_length]; omega, by rw [at_length]; omega⟩ (hld.opt oo.1) (hld.opt oo.2)) ?_
    rintro _ w152 ⟨z143, L147, R148, B149, q150, G151, rfl, hpk153, hok154, hpx155, hlo156, hx157, hpl144, hpd145, hqn146⟩
    refine ⟨_, rfl, ?_⟩
    have hX158 := hX138.trans hx157 hpin47
    have ho159 := ho141.extS hx157 hnp50
    have hnp160 := NP.call hnp50 hlo156 (own_lt ho141)
    have hpin161 := PIn.call hpin47 hlo156 hX138.size
    have hql162 := hpx155.len
    have hml163 : (q150.ns.map Nd.l).length = q150.ns.length ∧ (q150.ns.map Nd.r).length = q150.ns.length := ⟨List.length_map .., List.length_map ..⟩
    have hml164 : q150.bs.length = q150.ns.length ∧ q150.ns.length ≤ 1048576 := ⟨hok154.ar.ok.len, hok154.ar.ok.lim⟩
    refine ⟨fun _ => (Pins.of_le hX158.pins (Pin.le_trans (Pin.le_trans hle131 hle139) hx157.le)), ?_⟩
    refine dr_one (i := 11) (by kernel_rfl) (drOp1 (i := 11) rfl rfl rfl (want_none rfl _) (o_buildF (E := eInt) (e := 3) [(.int .i64 z143)] [z143] Tryd.underlying38 sz3 zr3 (by exact reps1 (by rfl)) (ones1 (by rfl)) rfl rfl rfl rfl (by decide) hX158.pins (fun u165 w166 ho167 hp168 hl169 hk170 => ?_)))
    have hX171 := hX158.step hp168 hl169
    have ho172 := ho159.below hl169
    have hpk173 := hpk153.below hl169 hp168
    have ha174 : Apart u165.ownBlock at_.ownBlock := new_ne_own hk170 ho159.lt
    have ho180 : Own eInt 3 G151 w166 w.heap.size u165 ([z143]) := ho167.weaken hX158.size
    refine ⟨fun _ => (Pins.of_le hX171.pins (Pin.le_trans (Pin.le_trans hle131 hle139) hx157.le)), ?_⟩
    refine dr_one (i := 12) (by kernel_rfl) (drOp1 (i := 12) rfl rfl rfl (want_none rfl _) (o_append (E := eInt) (v := at_) (u := u165) 8 Tryd.underlying38 ap3 (by decide) rfl rfl hX171.pins ho172 ho180.src (by first | omega | (rw [List.nil_append]; omega) | (rw [List.length_nil]; omega) | (rw [List.length_append]; omega) | (simp; done) | (simp; omega) | (simp only [List.length_append, List.length_cons, List.length_nil]; omega)) (by first | omega | (rw [List.nil_append]; omega) | (rw [List.length_nil]; omega) | (rw [List.length_append]; omega) | (simp; done) | (simp; omega) | (simp only [List.length_append, List.length_cons, List.length_nil]; omega)) (hX171.size) (fun u181 w182 ho183 hp184 hg185 hw186 => ?_)))
    have hX187 := hX171.write hp184 hg185 ((lo_own ho172))
    have hpk189 := hpk173.kept hg185 hp184 hnp160
    have ha190 : Apart u165.ownBlock u181.ownBlock := app_ne_own ha174 hw186 ho180.lt
    have hnp191 := np_app hnp160 hpk173 hw186
    have hm192 : (ats ++ ([z143])).length = ats.length + 1 := List.length_append
    refine ⟨fun _ => (Pins.of_le hX187.pins (Pin.le_trans (Pin.le_trans hle131 hle139) hx157.le)), ?_⟩
    refine dr_take (i := 13) rfl rfl rfl (want_none rfl _) (by kernel_rfl) (fun _ _ => r_assign (v := u181) rfl) (Pins.of_le hX187.pins (Pin.le_trans (Pin.le_trans hle131 hle139) hx157.le)) ?_
    refine dr_end (by kernel_rfl) ?_
    refine s_blkN ?_
    refine s_then ?_
    refine c_reg ?_
    refine qd rfl rfl rfl (r_add rfl rfl (by omega)) ?_
    refine qd rfl rfl rfl (r_move (v := (.int .i64 ((k4 : Int) + 1))) rfl) ?_
    refine qe ?_
    refine s_lopN ?_
    refine ⟨_, ?_, _, rfl, _, k4 + 1, u181, ats ++ ([z143]), L147, R148, B149, q150, G151, (packS (x := 15) (packS (x := 14) (packS (x := 13) (packS (x := 5) (packS (x := 4) (pack1 (x := 0) rfl) rfl) rfl) rfl) rfl) rfl), rfl, hX187, (Pin.le_trans (Pin.le_trans (Pin.le_trans (Pin.le_trans hlek41 hle87) hle131) hle139) hx157.le), (by omega), (hld.step hf (by omega) hok48 hok154 hpx155 hpl144 hpd145 hqn146), ho183, hpk189, hpin161, hok154, (PX.trans hpx49 hpx155), hnp191⟩
    omega
  refine wp_exit ?_
  refine s_thenE ?_
  refine s_lopE ?_
  refine s_blkE ?_
  refine s_then ?_
  refine s_seq ?_
  refine c_reg ?_
  refine qd rfl rfl rfl (r_move (v := at_) rfl) ?_
  refine qd rfl rfl rfl (r_assign (v := at_) rfl) ?_
  refine qe ?_
  refine s_then ?_
  refine wp_ret ?_
  refine s_ret ?_
  refine c_ret1 (v := at_) rfl rfl rfl ?_
  have hkf : k4 = fs.length := by omega
  rw [hkf] at hld
  exact ⟨at_, ats, L37, R38, B39, q40, GL1, rfl, hpk46, hok48, hpx49, PIn.lo hpin47 rfl, hX44, hw45, hnp50, hld⟩

theorem root_spec {w : World} {G : Pin} {p : Nat} {L R B : Value} {mm : PM} {q : PSt} (hP : Pins G w) (hpk : Pk 38 3 G w p L R B mm q) (hok : PoolOk q) {x : Value} {fs : List Nd} (hx : RSl eNode G x fs) (hf : FormOk fs) (hl : q.ns.length + fs.length ≤ 1048576) (hf1 : 1 ≤ fs.length) :
    Calls Tryd.prog 39 [(.pointer (some ⟨p, 0, none⟩)), (.agg [x].toArray)].toArray w fun e w' => ∃ (z : Int) (L' R' B' : Value) (q' : PSt) (G' : Pin), e = .returned (.int .i64 z) ∧ Pk 38 3 G' w' p L' R' B' mm q' ∧ PoolOk q' ∧ PX q q' ∧ PLo w p L R B mm L' R' B' ∧ Ext (inP p L R B mm) G w G' w' ∧ PlaceOk q' z ∧ pd q' z = gOf fs ∧ q'.ns.length ≤ q.ns.length + fs.length := by
  refine s_enter (n := 15) Tryd.func39 Tryd.ntmps39 rfl rfl ?_
  have hX0 : Ext (inP p L R B mm) G w G w := Ext.refl hP
  have hpin : PIn w (inP p L R B mm) p L R B mm := PIn.self
  have hml1 : (q.ns.map Nd.l).length = q.ns.length ∧ (q.ns.map Nd.r).length = q.ns.length := ⟨List.length_map .., List.length_map ..⟩
  have hml2 : q.bs.length = q.ns.length ∧ q.ns.length ≤ 1048576 := ⟨hok.ar.ok.len, hok.ar.ok.lim⟩
  have hfl := hf.len
  refine s_seq ?_
  refine c_reg ?_
  refine q1 rfl rfl rfl (o_box [x] (v := (.agg [x].toArray)) rfl rfl hX0.pins (fun b3 w4 hk5 hb6 hp7 hl8 => ?_))
  have hX9 := hX0.step hp7 hl8
  have hpk10 := hpk.below hl8 hp7
  have ha15 := hpk.new (x := (some b3)) (fun k hk => by rw [(congrArg some hk5)] at hk; cases hk; exact Nat.le_refl _)
  have hlo16 : w.heap.size ≤ b3 := by have := hX0.size; omega
  obtain ⟨G17, hle18, hX19, hbp20, hf21⟩ := hb6.shut hX9 hlo16
  have hpk22 := hpk10.more hle18 hf21 ha15
  refine qd rfl rfl rfl (r_assign (v := (.int .i64 0)) rfl) ?_
  refine qe ?_
  refine s_then ?_
  refine s_seq ?_
  refine c_reg ?_
  refine qd rfl rfl rfl (r_move (v := (.pointer (some ⟨p, 0, none⟩))) rfl) ?_
  refine qd rfl rfl rfl (r_ldpA (cs := [x]) ag30 sz30 rfl (fun j u hj => hX19.pins _ _ _ (hbp20 _ _ (by simpa using hj)))) ?_
  refine q1 rfl rfl rfl (o_call (vs := [(.pointer (some ⟨p, 0, none⟩)), (.agg [x].toArray)]) Tryd.func69 nm69 rfl rfl rfl ?_)
  refine Calls.mono (load_spec hX19.pins hpk22 hok (hx.mono hle18) hf hl) ?_
  rintro _ w29 ⟨u23, ats, L24, R25, B26, q27, G28, rfl, hpk31, hok32, hpx33, hlo34, hx35, ho30, hnp37, hld36⟩
  refine ⟨_, rfl, ?_⟩
  have hX38 := hX19.trans hx35 hpin
  have hpin39 := PIn.call hpin hlo34 hX19.size
  have hql40 := hpx33.len
  have hml41 : (q27.ns.map Nd.l).length = q27.ns.length ∧ (q27.ns.map Nd.r).length = q27.ns.length := ⟨List.length_map .., List.length_map ..⟩
  have hml42 : q27.bs.length = q27.ns.length ∧ q27.ns.length ≤ 1048576 := ⟨hok32.ar.ok.len, hok32.ar.ok.lim⟩
  have ho43 := ho30.weaken hX19.size
  have hll44 := hld36.len
  refine qd rfl rfl rfl (r_assign (v := u23) rfl) ?_
  refine qe ?_
  refine s_then ?_
  refine s_seq ?_
  refine c_reg ?_
  refine qd rfl rfl rfl (r_move (v := u23) rfl) ?_
  refine qd rfl rfl rfl (r_move (v := u23) rfl) ?_
  refine qd rfl rfl rfl (run_len Tryd.underlying38 (v := u23) rfl ho43.read) ?_
  refine qd rfl rfl rfl (r_sub rfl rfl (by omega)) ?_
  refine qd rfl rfl rfl (run_idx Tryd.underlying38 sz3 (v := u23) rfl rfl ho43.read (by omega) (by omega)) ?_
  refine qd rfl rfl rfl (run_load_int (r := ats.getD ((ats.length : Int) - 1).toNat 0) rfl ag3 (z := ((ats.length : Int) - 1)) rfl ho43.read (Gadd.pins hX38.pins u23) (by omega) (by omega)) ?_
  refine qd rfl rfl rfl (r_assign (v := (.int .i64 (ats.getD ((ats.length : Int) - 1).toNat 0))) rfl) ?_
  refine qe ?_
  refine s_then ?_
  refine wp_ret ?_
  refine s_ret ?_
  refine c_ret1 (v := (.int .i64 (ats.getD ((ats.length : Int) - 1).toNat 0))) rfl rfl rfl ?_
  have hrt := hld36.root hf1
  rw [show fs.length - 1 = ((ats.length : Int) - 1).toNat by omega] at hrt
  exact ⟨_, L24, R25, B26, q27, G28, rfl, hpk31, hok32, hpx33, PIn.lo hpin39 rfl, hX38, hrt.1, hrt.2, hld36.hi⟩

/-- What ge answers for pairs below m. -/
def GeP (m : Nat) (p : Nat) (L R B : Value) (mm : PM) : Prop := ∀ {w : World} {G : Pin} {q : PSt} {a b : Int} (_ : Pins G w) (_ : Pk 38 3 G w p L R B mm q) (_ : PoolOk q) (_ : PlaceOk q a) (_ : PlaceOk q b), a.toNat + b.toNat < m →
    Calls Tryd.prog 38 [(.pointer (some ⟨p, 0, none⟩)), (.int .i64 a), (.int .i64 b)].toArray w fun e w' => ∃ (q' : PSt) (G' : Pin), e = .returned (.bool (geB q.ns a b)) ∧ Pk 38 3 G' w' p L R B mm q' ∧ PoolOk q' ∧ PX q q' ∧ (q'.ns = q.ns ∧ q'.bs = q.bs) ∧ Ext (inO (some mm.o)) G w G' w'

theorem ge_step {p : Nat} {L R B : Value} {mm : PM} {m : Nat} {w : World} {G : Pin} {q : PSt} {a b : Int} (hP : Pins G w) (hpk : Pk 38 3 G w p L R B mm q) (hok : PoolOk q) (ha : PlaceOk q a) (hb : PlaceOk q b) (ih : GeP m p L R B mm) (hm : a.toNat + b.toNat < m + 1) :
    Calls Tryd.prog 38 [(.pointer (some ⟨p, 0, none⟩)), (.int .i64 a), (.int .i64 b)].toArray w fun e w' => ∃ (q' : PSt) (G' : Pin), e = .returned (.bool (geB q.ns a b)) ∧ Pk 38 3 G' w' p L R B mm q' ∧ PoolOk q' ∧ PX q q' ∧ (q'.ns = q.ns ∧ q'.bs = q.bs) ∧ Ext (inO (some mm.o)) G w G' w' := by
  refine s_enter (n := 74) Tryd.func38 Tryd.ntmps38 rfl rfl ?_
  have hX0 : Ext (inO (some mm.o)) G w G w := Ext.refl hP
  have hpin : PIn w (inP p L R B mm) p L R B mm := PIn.self
  have hml1 : (q.ns.map Nd.l).length = q.ns.length ∧ (q.ns.map Nd.r).length = q.ns.length := ⟨List.length_map .., List.length_map ..⟩
  have hml2 : q.bs.length = q.ns.length ∧ q.ns.length ≤ 1048576 := ⟨hok.ar.ok.len, hok.ar.ok.lim⟩
  have ha0 := ha.1
  have ha1 := ha.2
  have hb0 := hb.1
  have hb1 := hb.2
  refine s_seq ?_
  refine c_reg ?_
  refine qd rfl rfl rfl (r_assign (v := (.bool false)) rfl) ?_
  refine qe ?_
  refine s_then ?_
  refine s_seq ?_
  refine s_seq ?_
  refine c_reg ?_
  refine qd rfl rfl rfl (r_move (v := (.int .i64 a)) rfl) ?_
  refine qd rfl rfl rfl (r_move (v := (.int .i64 b)) rfl) ?_
  refine qd rfl rfl rfl (r_eql rfl rfl) ?_
  refine qe ?_
  refine s_then ?_
  refine c_ifd (p := (a : Int) = b) rfl rfl (fun h3 => ?_) (fun h3 => ?_)
  · skip
    refine s_seq ?_
    refine c_reg ?_
    refine qd rfl rfl rfl (r_assign (v := (.bool true)) rfl) ?_
    refine qe ?_
    refine s_then ?_
    refine wp_ret ?_
    refine s_ret ?_
    refine c_ret1 (v := (.bool true)) rfl rfl rfl ?_
    exact ⟨q, _, congrArg (fun z => Ending.returned (Value.bool z)) (by rw [h3]; exact geB_refl.symm), hpk, hok, (PX.refl _), ⟨rfl, rfl⟩, hX0⟩
  refine wp_skip ?_
  refine s_then ?_
  refine s_seq ?_
  refine c_reg ?_
  refine qd rfl rfl rfl (r_move (v := (.int .i64 a)) rfl) ?_
  refine qd rfl rfl rfl (r_move (v := (.int .i64 b)) rfl) ?_
  refine qd rfl rfl rfl (r_buildA (m := 1) [(.int .i64 0), (.int .i64 0)] [(.int .i64 a), (.int .i64 b)] [(0, (.int .i64 a), [(.int .i64 a)]), (1, (.int .i64 b), [(.int .i64 b)])] Tryd.underlying100 zr100 rfl sz3 rfl (List.forall_mem_cons.2 ⟨rfl, (List.forall_mem_cons.2 ⟨rfl, (fun _ h => by cases h)⟩)⟩) rfl) ?_
  refine q1 rfl rfl rfl (o_alloc [(.int .i64 0), (.int .i64 0)] zr100 rfl hX0.pins (fun b4 w5 hk6 hb7 hp8 hl9 => ?_))
  have hX10 := hX0.step hp8 hl9
  have hpk11 := hpk.below hl9 hp8
  have ha16 := hpk.new (x := (some b4)) (fun k hk => by rw [(congrArg some hk6)] at hk; cases hk; exact Nat.le_refl _)
  have hlo17 : w.heap.size ≤ b4 := by have := hX0.size; omega
  refine q0 rfl rfl rfl (o_stp (cs' := [(.int .i64 a), (.int .i64 b)]) (us := [(.int .i64 a), (.int .i64 b)]) (v := (.agg [(.int .i64 a), (.int .i64 b)].toArray)) sz100 rfl rfl rfl (ones2 (by rfl) (by rfl)) hX10.pins hb7 (Nat.le_of_ble_eq_true rfl) rfl (fun w18 hb19 hp20 hg21 hz22 => ?_))
  have hX23 := hX10.write hp20 hg21 ((lo_box hlo17))
  have hpk24 := hpk11.kept hg21 hp20 ha16
  obtain ⟨G25, hle26, hX27, hbp28, hf29⟩ := hb19.shut hX23 hlo17
  have hpk30 := hpk24.more hle26 hf29 ha16
  refine qe ?_
  refine s_then ?_
  refine s_seq ?_
  refine s_seq ?_
  refine c_draw (S := fun wz => BxR wz p [L, R, B, (.map (some mm.f)), (.map (some mm.o)), (.map (some mm.c)), (.map (some mm.s)), (.map (some mm.n))] ∧ Pins G25 wz) (last := 11) (by kernel_rfl) rfl ?_
  have hl31 : Below w18.heap.size w18 w18.drew := (Below.refl _ _).drew
  have hp32 := hX27.pins.below hl31
  have hX33 := hX27.step hp32 hl31
  have hpk34 := hpk30.below hl31 hp32
  refine dr_take (i := 0) rfl rfl rfl (want_none rfl _) (by kernel_rfl) (fun _ _ => r_move (v := (.pointer (some ⟨p, 0, none⟩))) rfl) ⟨hpk34.bx.reads, hX33.pins⟩ ?_
  refine dr_take (i := 1) rfl rfl rfl (want_none rfl _) (by kernel_rfl) (fun _ _ => r_nil rfl) ⟨hpk34.bx.reads, hX33.pins⟩ ?_
  refine dr_take (i := 2) rfl rfl rfl (want_none rfl _) (by kernel_rfl) (fun _ _ => r_fldp (k := 4) rfl Tryd.underlying99 rfl nz94 rfl) ⟨hpk34.bx.reads, hX33.pins⟩ ?_
  refine dr_take (i := 3) rfl rfl rfl (want_none rfl _) (by kernel_rfl) (fun _ hS => r_ldp1 (u := (.map (some mm.o))) ag94 rfl (hS.1 4 _ rfl)) ⟨hpk34.bx.reads, hX33.pins⟩ ?_
  refine dr_take (i := 4) rfl rfl rfl (want_none rfl _) (by kernel_rfl) (fun _ hS => r_ldpA (cs := [(.int .i64 a), (.int .i64 b)]) ag100 sz100 rfl (fun j u hj => hS.2 _ _ _ (hbp28 _ _ (by simpa using hj)))) ⟨hpk34.bx.reads, hX33.pins⟩ ?_
  refine dr_one (i := 5) (by kernel_rfl) (drOp1 (i := 5) rfl rfl rfl (want_none rfl _) (EO.run (run_lookv_bool (k := ((a, b) : Int × Int)) (key_pair Tryd.underlying100 Tryd.underlying3 sz3) Tryd.underlying94 zr4 hpk34.fo rfl rfl) ?_))
  refine ⟨fun _ => ⟨hpk34.bx.reads, hX33.pins⟩, ?_⟩
  refine dr_take (i := 6) rfl rfl rfl (want_none rfl _) (by kernel_rfl) (fun _ _ => r_move (v := (.tuple #[(.bool ((Go.GL.look q.om ((a, b) : Int × Int)).getD false)), (.bool ((Go.GL.look q.om ((a, b) : Int × Int)).isSome))])) rfl) ⟨hpk34.bx.reads, hX33.pins⟩ ?_
  refine dr_take (i := 7) rfl rfl rfl (want_none rfl _) (by kernel_rfl) (fun _ _ => r_extract (v := (.bool ((Go.GL.look q.om ((a, b) : Int × Int)).getD false))) rfl rfl) ⟨hpk34.bx.reads, hX33.pins⟩ ?_
  refine dr_take (i := 8) rfl rfl rfl (want_none rfl _) (by kernel_rfl) (fun _ _ => r_extract (v := (.bool ((Go.GL.look q.om ((a, b) : Int × Int)).isSome))) rfl rfl) ⟨hpk34.bx.reads, hX33.pins⟩ ?_
  refine dr_take (i := 9) rfl rfl rfl (want_none rfl _) (by kernel_rfl) (fun _ _ => r_assign (v := (.bool ((Go.GL.look q.om ((a, b) : Int × Int)).getD false))) rfl) ⟨hpk34.bx.reads, hX33.pins⟩ ?_
  refine dr_take (i := 10) rfl rfl rfl (want_none rfl _) (by kernel_rfl) (fun _ _ => r_assign (v := (.bool ((Go.GL.look q.om ((a, b) : Int × Int)).isSome))) rfl) ⟨hpk34.bx.reads, hX33.pins⟩ ?_
  refine dr_end (by kernel_rfl) ?_
  refine s_then ?_
  refine s_seq ?_
  refine c_reg ?_
  refine qd rfl rfl rfl (r_move (v := (.bool ((Go.GL.look q.om ((a, b) : Int × Int)).isSome))) rfl) ?_
  refine qe ?_
  refine s_then ?_
  refine c_if rfl rfl (fun h35 => ?_) (fun h35 => ?_)
  · skip
    refine s_seq ?_
    refine c_reg ?_
    refine qd rfl rfl rfl (r_move (v := (.bool ((Go.GL.look q.om ((a, b) : Int × Int)).getD false))) rfl) ?_
    refine qd rfl rfl rfl (r_assign (v := (.bool ((Go.GL.look q.om ((a, b) : Int × Int)).getD false))) rfl) ?_
    refine qe ?_
    refine s_then ?_
    refine wp_ret ?_
    refine s_ret ?_
    refine c_ret1 (v := (.bool ((Go.GL.look q.om ((a, b) : Int × Int)).getD false))) rfl rfl rfl ?_
    obtain ⟨z, hz⟩ := Option.isSome_iff_exists.1 h35
    exact ⟨q, _, congrArg (fun z => Ending.returned (Value.bool z)) (by rw [hz]; exact (hok.ord _ _ _ hz).2.2), hpk34, hok, (PX.refl _), ⟨rfl, rfl⟩, hX33⟩
  refine wp_skip ?_
  refine s_then ?_
  refine s_seq ?_
  refine c_reg ?_
  refine qd rfl rfl rfl (r_assign (v := (.bool true)) rfl) ?_
  refine qe ?_
  refine s_then ?_
  refine s_seq ?_
  refine s_seq ?_
  refine c_reg ?_
  refine qd rfl rfl rfl (r_move (v := (.pointer (some ⟨p, 0, none⟩))) rfl) ?_
  refine qd rfl rfl rfl (r_nil rfl) ?_
  refine qd rfl rfl rfl (r_fldp (k := 1) rfl Tryd.underlying99 rfl nz97 rfl) ?_
  refine qd rfl rfl rfl (r_ldp1 (u := R) ag97 rfl (hpk34.bx.cell (o := 1) rfl)) ?_
  refine qd rfl rfl rfl (r_move (v := (.int .i64 a)) rfl) ?_
  refine qd rfl rfl rfl (run_idx Tryd.underlying97 sz38 (v := R) rfl rfl hpk34.rr.read (by omega) (by omega)) ?_
  obtain ⟨u36, hr37, hl38⟩ := nm_sl (hpk34.rr.at (z := a) (by omega) (by omega)) (j := (a).toNat) rfl
  rw [mapr_getD] at hr37
  have hm39 := hr37.max
  refine qd rfl rfl rfl (hl38 ag38 rfl (Gadd.pins hX33.pins R)) ?_
  refine qd rfl rfl rfl (run_len Tryd.underlying38 (v := u36) rfl hr37) ?_
  refine qd rfl rfl rfl (r_move (v := (.int .i64 0)) rfl) ?_
  refine qe ?_
  refine s_then ?_
  refine s_blk ?_
  have lx44 : (q.ns.getD (a).toNat default).r = (q.ns.getD (a).toNat default).r := rfl
  refine s_loop (fun (k : Nat) (en : Nat → Value) (W : World) => ∃ (env1 : Nat → Value) (i : Nat) (q43 : PSt) (GLr : Pin), en = (upd (upd (upd (upd (upd (upd (upd (upd (upd env1 0 (.pointer (some ⟨p, 0, none⟩))) 1 (.int .i64 a)) 2 (.int .i64 b)) 6 (.bool false)) 7 (.pointer (some ⟨b4, 0, none⟩))) 10 (.bool true)) 38 u36) 39 (.int .i64 (((q.ns.getD (a).toNat default).r).length : Int))) 40 (.int .i64 (i : Int))) ∧ k = (q.ns.getD (a).toNat default).r.length - i ∧ Ext (inO (some mm.o)) G w GLr W ∧ Pin.le G25 GLr ∧ (i ≤ (q.ns.getD (a).toNat default).r.length) ∧ (∀ x, x < i → geB q.ns b ((q.ns.getD (a).toNat default).r.getD x 0) = false) ∧ (Pk 38 3 GLr W p L R B mm q43) ∧ (PoolOk q43) ∧ (PX q q43) ∧ (q43.ns = q.ns ∧ q43.bs = q.bs)) _ ⟨_, 0, q, G25, (packS (x := 40) (packS (x := 39) (packS (x := 38) (packS (x := 10) (packS (x := 7) (packS (x := 6) (packS (x := 2) (packS (x := 1) (pack1 (x := 0) rfl) rfl) rfl) rfl) rfl) rfl) rfl) rfl) rfl), rfl, hX33, Pin.le_refl _, Nat.zero_le _, (fun q hq => absurd hq (Nat.not_lt_zero q)), hpk34, hok, (PX.refl _), ⟨rfl, rfl⟩⟩ ?_
  rintro k45 _ w46 ⟨env1, i, q43, GLr, rfl, hk47, hX48, hlek45, hji, hpr, hpk49, hok50, hpx51, hqn52⟩
  have hql53 := hpx51.len
  have hml54 : (q43.ns.map Nd.l).length = q43.ns.length ∧ (q43.ns.map Nd.r).length = q43.ns.length := ⟨List.length_map .., List.length_map ..⟩
  have hml55 : q43.bs.length = q43.ns.length ∧ q43.ns.length ≤ 1048576 := ⟨hok50.ar.ok.len, hok50.ar.ok.lim⟩
  have hlnr := congrArg List.length lx44
  refine s_seq ?_
  refine c_reg ?_
  refine qd rfl rfl rfl (r_lss rfl rfl) ?_
  refine qe ?_
  refine s_then ?_
  refine s_seq ?_
  refine c_ifd (p := ((i : Int) : Int) < (((q.ns.getD (a).toNat default).r).length : Int)) rfl rfl (fun h56 => ?_) (fun h56 => ?_)
  · skip
    have hki := (optsAt hok.ar.opts (show (a).toNat < q.ns.length by omega)).2 _ (getD_mem (d := (0 : Int)) (show i < (q.ns.getD (a).toNat default).r.length by omega))
    rw [← lx44] at hki
    refine wp_skip ?_
    refine s_then ?_
    refine s_seq ?_
    refine s_blk ?_
    refine s_seq ?_
    refine c_reg ?_
    refine qd rfl rfl rfl (run_idx Tryd.underlying38 sz3 (v := u36) rfl rfl hr37 (by omega) (by omega)) ?_
    refine qd rfl rfl rfl (run_load_int (r := ((q.ns.getD (a).toNat default).r).getD i 0) rfl ag3 (z := (i : Int)) rfl hr37 (Pins.of_le hX48.pins hlek45) (by omega) (by omega)) ?_
    refine qd rfl rfl rfl (r_assign (v := (.int .i64 (((q.ns.getD (a).toNat default).r).getD i 0))) rfl) ?_
    refine qe ?_
    refine s_then ?_
    refine s_seq ?_
    refine c_reg ?_
    refine qd rfl rfl rfl (r_move (v := (.pointer (some ⟨p, 0, none⟩))) rfl) ?_
    refine qd rfl rfl rfl (r_move (v := (.int .i64 b)) rfl) ?_
    refine qd rfl rfl rfl (r_move (v := (.int .i64 (((q.ns.getD (a).toNat default).r).getD i 0))) rfl) ?_
    refine q1 rfl rfl rfl (o_call (vs := [(.pointer (some ⟨p, 0, none⟩)), (.int .i64 b), (.int .i64 (((q.ns.getD (a).toNat default).r).getD i 0))]) Tryd.func38 nm38 rfl rfl rfl ?_)
    refine Calls.mono (ih hX48.pins hpk49 hok50 ⟨by omega, by omega⟩ ⟨by omega, by omega⟩ (by omega)) ?_
    rintro _ w59 ⟨q57, G58, rfl, hpk60, hok61, hpx62, hqn63, hx64⟩
    refine ⟨_, rfl, ?_⟩
    have hX65 := hX48.trans hx64 (fun i hi => lo_self i hi)
    have hql66 := hpx62.len
    have hml67 : (q57.ns.map Nd.l).length = q57.ns.length ∧ (q57.ns.map Nd.r).length = q57.ns.length := ⟨List.length_map .., List.length_map ..⟩
    have hml68 : q57.bs.length = q57.ns.length ∧ q57.ns.length ≤ 1048576 := ⟨hok61.ar.ok.len, hok61.ar.ok.lim⟩
    have hql69 := congrArg List.length hqn63.1
    refine qe ?_
    refine s_then ?_
    refine c_if rfl rfl (fun h70 => ?_) (fun h70 => ?_)
    · skip
      refine s_seq ?_
      refine c_reg ?_
      refine qd rfl rfl rfl (r_assign (v := (.bool false)) rfl) ?_
      refine qe ?_
      refine s_then ?_
      refine wp_exit ?_
      refine s_blkO rfl ?_
      refine s_thenE ?_
      refine s_lopE ?_
      refine s_blkE ?_
      refine s_then ?_
      refine s_seq ?_
      refine s_seq ?_
      refine c_reg ?_
      refine qd rfl rfl rfl (r_move (v := (.bool false)) rfl) ?_
      refine qe ?_
      refine s_then ?_
      refine c_ifF rfl rfl ?_
      refine wp_skip ?_
      refine s_then ?_
      refine s_seq ?_
      refine c_draw (S := fun wz => BxR wz p [L, R, B, (.map (some mm.f)), (.map (some mm.o)), (.map (some mm.c)), (.map (some mm.s)), (.map (some mm.n))] ∧ Pins G58 wz) (last := 6) (by kernel_rfl) rfl ?_
      have hl71 : Below w59.heap.size w59 w59.drew := (Below.refl _ _).drew
      have hp72 := hX65.pins.below hl71
      have hX73 := hX65.step hp72 hl71
      have hpk74 := hpk60.below hl71 hp72
      refine dr_take (i := 0) rfl rfl rfl (want_none rfl _) (by kernel_rfl) (fun _ _ => r_move (v := (.pointer (some ⟨p, 0, none⟩))) rfl) ⟨hpk74.bx.reads, hX73.pins⟩ ?_
      refine dr_take (i := 1) rfl rfl rfl (want_none rfl _) (by kernel_rfl) (fun _ _ => r_nil rfl) ⟨hpk74.bx.reads, hX73.pins⟩ ?_
      refine dr_take (i := 2) rfl rfl rfl (want_none rfl _) (by kernel_rfl) (fun _ _ => r_fldp (k := 4) rfl Tryd.underlying99 rfl nz94 rfl) ⟨hpk74.bx.reads, hX73.pins⟩ ?_
      refine dr_take (i := 3) rfl rfl rfl (want_none rfl _) (by kernel_rfl) (fun _ hS => r_ldp1 (u := (.map (some mm.o))) ag94 rfl (hS.1 4 _ rfl)) ⟨hpk74.bx.reads, hX73.pins⟩ ?_
      refine dr_take (i := 4) rfl rfl rfl (want_none rfl _) (by kernel_rfl) (fun _ hS => r_ldpA (cs := [(.int .i64 a), (.int .i64 b)]) ag100 sz100 rfl (fun j u hj => (Pins.of_le hS.2 (Pin.le_trans hlek45 hx64.le)) _ _ _ (hbp28 _ _ (by simpa using hj)))) ⟨hpk74.bx.reads, hX73.pins⟩ ?_
      refine dr_take (i := 5) rfl rfl rfl (want_none rfl _) (by kernel_rfl) (fun _ _ => r_move (v := (.bool false)) rfl) ⟨hpk74.bx.reads, hX73.pins⟩ ?_
      refine dr_one (i := 6) (by kernel_rfl) (drOp0 (i := 6) rfl rfl rfl (want_none rfl _) (o_mapUpdate (val := (fun v : Bool => Value.bool v)) (k := ((a, b) : Int × Int)) (v := false) (key_pair Tryd.underlying100 Tryd.underlying3 sz3) Tryd.underlying94 rfl rfl rfl hX73.pins hpk74.fo (fun w75 hm76 hp77 hg78 hz79 => ?_)))
      have hX81 := hX73.trans (Ext.one hp77 hg78) (fun i hi => lo_self i hi)
      have hpk80 := hpk74.setO (Ext.one hp77 hg78) hm76
      have hgv : geB q.ns a b = false := geB_no_right hok.ar.opts ha (i := i) (by omega) (by rw [← lx44, ← geB_same hqn52]; exact h70)
      have hok84 := PoolOk.setO hok61 (ha.same (ns_trans hqn52 hqn63)) (hb.same (ns_trans hqn52 hqn63)) (setO_ok (ns_trans hqn52 hqn63) hgv)
      obtain ⟨q82, hq83⟩ : ∃ q, q = ({ q57 with om := putE q57.om ((a, b) : Int × Int) false } : PSt) := ⟨_, rfl⟩
      rw [← hq83] at hpk80 hok84
      have hq83n : q82.ns = q57.ns ∧ q82.bs = q57.bs := by rw [hq83]; exact ⟨rfl, rfl⟩
      have hq83x : PX q57 q82 := by rw [hq83]; exact ⟨Nat.le_refl _, fun _ _ => rfl⟩
      have hml85 : (q82.ns.map Nd.l).length = q82.ns.length ∧ (q82.ns.map Nd.r).length = q82.ns.length := ⟨List.length_map .., List.length_map ..⟩
      have hml86 : q82.bs.length = q82.ns.length ∧ q82.ns.length ≤ 1048576 := ⟨hok84.ar.ok.len, hok84.ar.ok.lim⟩
      have hql87 := hq83x.len
      refine ⟨fun h => absurd rfl h, ?_⟩
      refine dr_end (by kernel_rfl) ?_
      refine s_then ?_
      refine s_seq ?_
      refine c_reg ?_
      refine qd rfl rfl rfl (r_move (v := (.bool false)) rfl) ?_
      refine qd rfl rfl rfl (r_assign (v := (.bool false)) rfl) ?_
      refine qe ?_
      refine s_then ?_
      refine wp_ret ?_
      refine s_ret ?_
      refine c_ret1 (v := (.bool false)) rfl rfl rfl ?_
      exact ⟨q82, _, congrArg (fun z => Ending.returned (Value.bool z)) (hgv.symm), hpk80, hok84, (PX.trans (PX.trans hpx51 hpx62) hq83x), (ns_trans (ns_trans hqn52 hqn63) hq83n), hX81⟩
    refine wp_skip ?_
    refine s_blkN ?_
    refine s_then ?_
    refine c_reg ?_
    refine qd rfl rfl rfl (r_add rfl rfl (by omega)) ?_
    refine qd rfl rfl rfl (r_move (v := (.int .i64 ((i : Int) + 1))) rfl) ?_
    refine qe ?_
    refine s_lopN ?_
    refine ⟨_, ?_, _, rfl, _, i + 1, q57, G58, (packS (x := 40) (packS (x := 39) (packS (x := 38) (packS (x := 10) (packS (x := 7) (packS (x := 6) (packS (x := 2) (packS (x := 1) (pack1 (x := 0) rfl) rfl) rfl) rfl) rfl) rfl) rfl) rfl) rfl), rfl, hX65, (Pin.le_trans hlek45 hx64.le), (by omega), (fun x h2 => if h3 : x = i then h3 ▸ (by rw [← lx44, ← geB_same hqn52]; exact h70) else hpr x (by omega)), hpk60, hok61, (PX.trans hpx51 hpx62), (ns_trans hqn52 hqn63)⟩
    omega
  refine wp_exit ?_
  refine s_thenE ?_
  refine s_lopE ?_
  refine s_blkE ?_
  refine s_then ?_
  refine s_seq ?_
  refine s_seq ?_
  refine c_reg ?_
  refine qd rfl rfl rfl (r_move (v := (.bool true)) rfl) ?_
  refine qe ?_
  refine s_then ?_
  refine c_ifT rfl rfl ?_
  refine s_seq ?_
  refine c_reg ?_
  refine qd rfl rfl rfl (r_move (v := (.pointer (some ⟨p, 0, none⟩))) rfl) ?_
  refine qd rfl rfl rfl (r_nil rfl) ?_
  refine qd rfl rfl rfl (r_fldp (k := 0) rfl Tryd.underlying99 rfl nz97 rfl) ?_
  refine qd rfl rfl rfl (r_ldp1 (u := L) ag97 rfl (hpk49.bx.cell (o := 0) rfl)) ?_
  refine qd rfl rfl rfl (r_move (v := (.int .i64 b)) rfl) ?_
  refine qd rfl rfl rfl (run_idx Tryd.underlying97 sz38 (v := L) rfl rfl hpk49.ol.read (by omega) (by omega)) ?_
  obtain ⟨u88, hr89, hl90⟩ := nm_sl (hpk49.ol.at (z := b) (by omega) (by omega)) (j := (b).toNat) rfl
  rw [mapl_getD] at hr89
  have hm91 := hr89.max
  refine qd rfl rfl rfl (hl90 ag38 rfl (Gadd.pins hX48.pins L)) ?_
  refine qd rfl rfl rfl (run_len Tryd.underlying38 (v := u88) rfl hr89) ?_
  refine qd rfl rfl rfl (r_move (v := (.int .i64 0)) rfl) ?_
  refine qe ?_
  refine s_then ?_
  refine s_blk ?_
  have lx96 : (q43.ns.getD (b).toNat default).l = (q.ns.getD (b).toNat default).l := by rw [hqn52.1]
  refine s_loop (fun (k : Nat) (en : Nat → Value) (W : World) => ∃ (env1 : Nat → Value) (i2 : Nat) (q95 : PSt) (GLl : Pin), en = (upd (upd (upd (upd (upd (upd (upd (upd env1 0 (.pointer (some ⟨p, 0, none⟩))) 1 (.int .i64 a)) 6 (.bool false)) 7 (.pointer (some ⟨b4, 0, none⟩))) 10 (.bool true)) 56 u88) 57 (.int .i64 (((q43.ns.getD (b).toNat default).l).length : Int))) 58 (.int .i64 (i2 : Int))) ∧ k = (q.ns.getD (b).toNat default).l.length - i2 ∧ Ext (inO (some mm.o)) G w GLl W ∧ Pin.le GLr GLl ∧ (i2 ≤ (q.ns.getD (b).toNat default).l.length) ∧ (∀ x, x < i2 → geB q.ns ((q.ns.getD (b).toNat default).l.getD x 0) a = false) ∧ (Pk 38 3 GLl W p L R B mm q95) ∧ (PoolOk q95) ∧ (PX q43 q95) ∧ (q95.ns = q43.ns ∧ q95.bs = q43.bs)) _ ⟨_, 0, q43, GLr, (packS (x := 58) (packS (x := 57) (packS (x := 56) (packS (x := 10) (packS (x := 7) (packS (x := 6) (packS (x := 1) (pack1 (x := 0) rfl) rfl) rfl) rfl) rfl) rfl) rfl) rfl), rfl, hX48, Pin.le_refl _, Nat.zero_le _, (fun q hq => absurd hq (Nat.not_lt_zero q)), hpk49, hok50, (PX.refl _), ⟨rfl, rfl⟩⟩ ?_
  rintro k97 _ w98 ⟨env1, i2, q95, GLl, rfl, hk99, hX100, hlek97, hji2, hpl, hpk101, hok102, hpx103, hqn104⟩
  have hql105 := hpx103.len
  have hml106 : (q95.ns.map Nd.l).length = q95.ns.length ∧ (q95.ns.map Nd.r).length = q95.ns.length := ⟨List.length_map .., List.length_map ..⟩
  have hml107 : q95.bs.length = q95.ns.length ∧ q95.ns.length ≤ 1048576 := ⟨hok102.ar.ok.len, hok102.ar.ok.lim⟩
  have hlnl := congrArg List.length lx96
  refine s_seq ?_
  refine c_reg ?_
  refine qd rfl rfl rfl (r_lss rfl rfl) ?_
  refine qe ?_
  refine s_then ?_
  refine s_seq ?_
  refine c_ifd (p := ((i2 : Int) : Int) < (((q43.ns.getD (b).toNat default).l).length : Int)) rfl rfl (fun h108 => ?_) (fun h108 => ?_)
  · skip
    have hki := (optsAt hok.ar.opts (show (b).toNat < q.ns.length by omega)).1 _ (getD_mem (d := (0 : Int)) (show i2 < (q.ns.getD (b).toNat default).l.length by omega))
    rw [← lx96] at hki
    refine wp_skip ?_
    refine s_then ?_
    refine s_seq ?_
    refine s_blk ?_
    refine s_seq ?_
    refine c_reg ?_
    refine qd rfl rfl rfl (run_idx Tryd.underlying38 sz3 (v := u88) rfl rfl hr89 (by omega) (by omega)) ?_
    refine qd rfl rfl rfl (run_load_int (r := ((q43.ns.getD (b).toNat default).l).getD i2 0) rfl ag3 (z := (i2 : Int)) rfl hr89 (Pins.of_le hX100.pins hlek97) (by omega) (by omega)) ?_
    refine qd rfl rfl rfl (r_assign (v := (.int .i64 (((q43.ns.getD (b).toNat default).l).getD i2 0))) rfl) ?_
    refine qe ?_
    refine s_then ?_
    refine s_seq ?_
    refine c_reg ?_
    refine qd rfl rfl rfl (r_move (v := (.pointer (some ⟨p, 0, none⟩))) rfl) ?_
    refine qd rfl rfl rfl (r_move (v := (.int .i64 (((q43.ns.getD (b).toNat default).l).getD i2 0))) rfl) ?_
    refine qd rfl rfl rfl (r_move (v := (.int .i64 a)) rfl) ?_
    refine q1 rfl rfl rfl (o_call (vs := [(.pointer (some ⟨p, 0, none⟩)), (.int .i64 (((q43.ns.getD (b).toNat default).l).getD i2 0)), (.int .i64 a)]) Tryd.func38 nm38 rfl rfl rfl ?_)
    refine Calls.mono (ih hX100.pins hpk101 hok102 ⟨by omega, by omega⟩ ⟨by omega, by omega⟩ (by omega)) ?_
    rintro _ w111 ⟨q109, G110, rfl, hpk112, hok113, hpx114, hqn115, hx116⟩
    refine ⟨_, rfl, ?_⟩
    have hX117 := hX100.trans hx116 (fun i hi => lo_self i hi)
    have hql118 := hpx114.len
    have hml119 : (q109.ns.map Nd.l).length = q109.ns.length ∧ (q109.ns.map Nd.r).length = q109.ns.length := ⟨List.length_map .., List.length_map ..⟩
    have hml120 : q109.bs.length = q109.ns.length ∧ q109.ns.length ≤ 1048576 := ⟨hok113.ar.ok.len, hok113.ar.ok.lim⟩
    have hql121 := congrArg List.length hqn115.1
    refine qe ?_
    refine s_then ?_
    refine c_if rfl rfl (fun h122 => ?_) (fun h122 => ?_)
    · skip
      refine s_seq ?_
      refine c_reg ?_
      refine qd rfl rfl rfl (r_assign (v := (.bool false)) rfl) ?_
      refine qe ?_
      refine s_then ?_
      refine wp_exit ?_
      refine s_blkO rfl ?_
      refine s_thenE ?_
      refine s_lopE ?_
      refine s_blkE ?_
      refine s_then ?_
      refine s_seq ?_
      refine c_draw (S := fun wz => BxR wz p [L, R, B, (.map (some mm.f)), (.map (some mm.o)), (.map (some mm.c)), (.map (some mm.s)), (.map (some mm.n))] ∧ Pins G110 wz) (last := 6) (by kernel_rfl) rfl ?_
      have hl123 : Below w111.heap.size w111 w111.drew := (Below.refl _ _).drew
      have hp124 := hX117.pins.below hl123
      have hX125 := hX117.step hp124 hl123
      have hpk126 := hpk112.below hl123 hp124
      refine dr_take (i := 0) rfl rfl rfl (want_none rfl _) (by kernel_rfl) (fun _ _ => r_move (v := (.pointer (some ⟨p, 0, none⟩))) rfl) ⟨hpk126.bx.reads, hX125.pins⟩ ?_
      refine dr_take (i := 1) rfl rfl rfl (want_none rfl _) (by kernel_rfl) (fun _ _ => r_nil rfl) ⟨hpk126.bx.reads, hX125.pins⟩ ?_
      refine dr_take (i := 2) rfl rfl rfl (want_none rfl _) (by kernel_rfl) (fun _ _ => r_fldp (k := 4) rfl Tryd.underlying99 rfl nz94 rfl) ⟨hpk126.bx.reads, hX125.pins⟩ ?_
      refine dr_take (i := 3) rfl rfl rfl (want_none rfl _) (by kernel_rfl) (fun _ hS => r_ldp1 (u := (.map (some mm.o))) ag94 rfl (hS.1 4 _ rfl)) ⟨hpk126.bx.reads, hX125.pins⟩ ?_
      refine dr_take (i := 4) rfl rfl rfl (want_none rfl _) (by kernel_rfl) (fun _ hS => r_ldpA (cs := [(.int .i64 a), (.int .i64 b)]) ag100 sz100 rfl (fun j u hj => (Pins.of_le hS.2 (Pin.le_trans (Pin.le_trans hlek45 hlek97) hx116.le)) _ _ _ (hbp28 _ _ (by simpa using hj)))) ⟨hpk126.bx.reads, hX125.pins⟩ ?_
      refine dr_take (i := 5) rfl rfl rfl (want_none rfl _) (by kernel_rfl) (fun _ _ => r_move (v := (.bool false)) rfl) ⟨hpk126.bx.reads, hX125.pins⟩ ?_
      refine dr_one (i := 6) (by kernel_rfl) (drOp0 (i := 6) rfl rfl rfl (want_none rfl _) (o_mapUpdate (val := (fun v : Bool => Value.bool v)) (k := ((a, b) : Int × Int)) (v := false) (key_pair Tryd.underlying100 Tryd.underlying3 sz3) Tryd.underlying94 rfl rfl rfl hX125.pins hpk126.fo (fun w127 hm128 hp129 hg130 hz131 => ?_)))
      have hX133 := hX125.trans (Ext.one hp129 hg130) (fun i hi => lo_self i hi)
      have hpk132 := hpk126.setO (Ext.one hp129 hg130) hm128
      have hgv : geB q.ns a b = false := geB_no_left hok.ar.opts hb (i := i2) (by omega) (by rw [← lx96, ← geB_same (ns_trans hqn52 hqn104)]; exact h122)
      have hok136 := PoolOk.setO hok113 (ha.same (ns_trans (ns_trans hqn52 hqn104) hqn115)) (hb.same (ns_trans (ns_trans hqn52 hqn104) hqn115)) (setO_ok (ns_trans (ns_trans hqn52 hqn104) hqn115) hgv)
      obtain ⟨q134, hq135⟩ : ∃ q, q = ({ q109 with om := putE q109.om ((a, b) : Int × Int) false } : PSt) := ⟨_, rfl⟩
      rw [← hq135] at hpk132 hok136
      have hq135n : q134.ns = q109.ns ∧ q134.bs = q109.bs := by rw [hq135]; exact ⟨rfl, rfl⟩
      have hq135x : PX q109 q134 := by rw [hq135]; exact ⟨Nat.le_refl _, fun _ _ => rfl⟩
      have hml137 : (q134.ns.map Nd.l).length = q134.ns.length ∧ (q134.ns.map Nd.r).length = q134.ns.length := ⟨List.length_map .., List.length_map ..⟩
      have hml138 : q134.bs.length = q134.ns.length ∧ q134.ns.length ≤ 1048576 := ⟨hok136.ar.ok.len, hok136.ar.ok.lim⟩
      have hql139 := hq135x.len
      refine ⟨fun h => absurd rfl h, ?_⟩
      refine dr_end (by kernel_rfl) ?_
      refine s_then ?_
      refine s_seq ?_
      refine c_reg ?_
      refine qd rfl rfl rfl (r_move (v := (.bool false)) rfl) ?_
      refine qd rfl rfl rfl (r_assign (v := (.bool false)) rfl) ?_
      refine qe ?_
      refine s_then ?_
      refine wp_ret ?_
      refine s_ret ?_
      refine c_ret1 (v := (.bool false)) rfl rfl rfl ?_
      exact ⟨q134, _, congrArg (fun z => Ending.returned (Value.bool z)) (hgv.symm), hpk132, hok136, (PX.trans (PX.trans (PX.trans hpx51 hpx103) hpx114) hq135x), (ns_trans (ns_trans (ns_trans hqn52 hqn104) hqn115) hq135n), hX133⟩
    refine wp_skip ?_
    refine s_blkN ?_
    refine s_then ?_
    refine c_reg ?_
    refine qd rfl rfl rfl (r_add rfl rfl (by omega)) ?_
    refine qd rfl rfl rfl (r_move (v := (.int .i64 ((i2 : Int) + 1))) rfl) ?_
    refine qe ?_
    refine s_lopN ?_
    refine ⟨_, ?_, _, rfl, _, i2 + 1, q109, G110, (packS (x := 58) (packS (x := 57) (packS (x := 56) (packS (x := 10) (packS (x := 7) (packS (x := 6) (packS (x := 1) (pack1 (x := 0) rfl) rfl) rfl) rfl) rfl) rfl) rfl) rfl), rfl, hX117, (Pin.le_trans hlek97 hx116.le), (by omega), (fun x h2 => if h3 : x = i2 then h3 ▸ (by rw [← lx96, ← geB_same (ns_trans hqn52 hqn104)]; exact h122) else hpl x (by omega)), hpk112, hok113, (PX.trans hpx103 hpx114), (ns_trans hqn104 hqn115)⟩
    omega
  refine wp_exit ?_
  refine s_thenE ?_
  refine s_lopE ?_
  refine s_blkE ?_
  refine s_then ?_
  refine s_seq ?_
  refine c_draw (S := fun wz => BxR wz p [L, R, B, (.map (some mm.f)), (.map (some mm.o)), (.map (some mm.c)), (.map (some mm.s)), (.map (some mm.n))] ∧ Pins GLl wz) (last := 6) (by kernel_rfl) rfl ?_
  have hl140 : Below w98.heap.size w98 w98.drew := (Below.refl _ _).drew
  have hp141 := hX100.pins.below hl140
  have hX142 := hX100.step hp141 hl140
  have hpk143 := hpk101.below hl140 hp141
  refine dr_take (i := 0) rfl rfl rfl (want_none rfl _) (by kernel_rfl) (fun _ _ => r_move (v := (.pointer (some ⟨p, 0, none⟩))) rfl) ⟨hpk143.bx.reads, hX142.pins⟩ ?_
  refine dr_take (i := 1) rfl rfl rfl (want_none rfl _) (by kernel_rfl) (fun _ _ => r_nil rfl) ⟨hpk143.bx.reads, hX142.pins⟩ ?_
  refine dr_take (i := 2) rfl rfl rfl (want_none rfl _) (by kernel_rfl) (fun _ _ => r_fldp (k := 4) rfl Tryd.underlying99 rfl nz94 rfl) ⟨hpk143.bx.reads, hX142.pins⟩ ?_
  refine dr_take (i := 3) rfl rfl rfl (want_none rfl _) (by kernel_rfl) (fun _ hS => r_ldp1 (u := (.map (some mm.o))) ag94 rfl (hS.1 4 _ rfl)) ⟨hpk143.bx.reads, hX142.pins⟩ ?_
  refine dr_take (i := 4) rfl rfl rfl (want_none rfl _) (by kernel_rfl) (fun _ hS => r_ldpA (cs := [(.int .i64 a), (.int .i64 b)]) ag100 sz100 rfl (fun j u hj => (Pins.of_le hS.2 (Pin.le_trans hlek45 hlek97)) _ _ _ (hbp28 _ _ (by simpa using hj)))) ⟨hpk143.bx.reads, hX142.pins⟩ ?_
  refine dr_take (i := 5) rfl rfl rfl (want_none rfl _) (by kernel_rfl) (fun _ _ => r_move (v := (.bool true)) rfl) ⟨hpk143.bx.reads, hX142.pins⟩ ?_
  refine dr_one (i := 6) (by kernel_rfl) (drOp0 (i := 6) rfl rfl rfl (want_none rfl _) (o_mapUpdate (val := (fun v : Bool => Value.bool v)) (k := ((a, b) : Int × Int)) (v := true) (key_pair Tryd.underlying100 Tryd.underlying3 sz3) Tryd.underlying94 rfl rfl rfl hX142.pins hpk143.fo (fun w144 hm145 hp146 hg147 hz148 => ?_)))
  have hX150 := hX142.trans (Ext.one hp146 hg147) (fun i hi => lo_self i hi)
  have hpk149 := hpk143.setO (Ext.one hp146 hg147) hm145
  have hgv : geB q.ns a b = true := geB_yes hok.ar.opts ha hb (fun i hi => hpr i (by omega)) (fun i hi => hpl i (by omega))
  have hok153 := PoolOk.setO hok102 (ha.same (ns_trans hqn52 hqn104)) (hb.same (ns_trans hqn52 hqn104)) (setO_ok (ns_trans hqn52 hqn104) hgv)
  obtain ⟨q151, hq152⟩ : ∃ q, q = ({ q95 with om := putE q95.om ((a, b) : Int × Int) true } : PSt) := ⟨_, rfl⟩
  rw [← hq152] at hpk149 hok153
  have hq152n : q151.ns = q95.ns ∧ q151.bs = q95.bs := by rw [hq152]; exact ⟨rfl, rfl⟩
  have hq152x : PX q95 q151 := by rw [hq152]; exact ⟨Nat.le_refl _, fun _ _ => rfl⟩
  have hml154 : (q151.ns.map Nd.l).length = q151.ns.length ∧ (q151.ns.map Nd.r).length = q151.ns.length := ⟨List.length_map .., List.length_map ..⟩
  have hml155 : q151.bs.length = q151.ns.length ∧ q151.ns.length ≤ 1048576 := ⟨hok153.ar.ok.len, hok153.ar.ok.lim⟩
  have hql156 := hq152x.len
  refine ⟨fun h => absurd rfl h, ?_⟩
  refine dr_end (by kernel_rfl) ?_
  refine s_then ?_
  refine s_seq ?_
  refine c_reg ?_
  refine qd rfl rfl rfl (r_move (v := (.bool true)) rfl) ?_
  refine qd rfl rfl rfl (r_assign (v := (.bool true)) rfl) ?_
  refine qe ?_
  refine s_then ?_
  refine wp_ret ?_
  refine s_ret ?_
  refine c_ret1 (v := (.bool true)) rfl rfl rfl ?_
  exact ⟨q151, _, congrArg (fun z => Ending.returned (Value.bool z)) (hgv.symm), hpk149, hok153, (PX.trans (PX.trans hpx51 hpx103) hq152x), (ns_trans (ns_trans hqn52 hqn104) hq152n), hX150⟩

theorem geP_all {p : Nat} {L R B : Value} {mm : PM} : ∀ m, GeP m p L R B mm
  | 0 => fun _ _ _ _ _ h => absurd h (Nat.not_lt_zero _)
  | m + 1 => fun hP hpk hok ha hb hm => ge_step hP hpk hok ha hb (geP_all m) hm
theorem ge_spec {p : Nat} {L R B : Value} {mm : PM} {w : World} {G : Pin} {q : PSt} {a b : Int} (hP : Pins G w) (hpk : Pk 38 3 G w p L R B mm q) (hok : PoolOk q) (ha : PlaceOk q a) (hb : PlaceOk q b) :
    Calls Tryd.prog 38 [(.pointer (some ⟨p, 0, none⟩)), (.int .i64 a), (.int .i64 b)].toArray w fun e w' => ∃ (q' : PSt) (G' : Pin), e = .returned (.bool (geB q.ns a b)) ∧ Pk 38 3 G' w' p L R B mm q' ∧ PoolOk q' ∧ PX q q' ∧ (q'.ns = q.ns ∧ q'.bs = q.bs) ∧ Ext (inO (some mm.o)) G w G' w' :=
  geP_all _ hP hpk hok ha hb (Nat.lt_succ_self _)

theorem outcome_spec {p : Nat} {L R B : Value} {mm : PM} {w : World} {G : Pin} {q : PSt} {a b : Int} (hP : Pins G w) (hpk : Pk 38 3 G w p L R B mm q) (hok : PoolOk q) (ha : PlaceOk q a) (hb : PlaceOk q b) :
    Calls Tryd.prog 43 [(.pointer (some ⟨p, 0, none⟩)), (.int .i64 a), (.int .i64 b)].toArray w fun e w' => ∃ (q' : PSt) (G' : Pin), e = .returned (.int .i64 (codeI (geB q.ns a b) (geB q.ns b a))) ∧ Pk 38 3 G' w' p L R B mm q' ∧ PoolOk q' ∧ PX q q' ∧ (q'.ns = q.ns ∧ q'.bs = q.bs) ∧ Ext (inO (some mm.o)) G w G' w' := by
  refine s_enter (n := 26) Tryd.func43 Tryd.ntmps43 rfl rfl ?_
  have hX0 : Ext (inO (some mm.o)) G w G w := Ext.refl hP
  have hpin : PIn w (inP p L R B mm) p L R B mm := PIn.self
  have hml1 : (q.ns.map Nd.l).length = q.ns.length ∧ (q.ns.map Nd.r).length = q.ns.length := ⟨List.length_map .., List.length_map ..⟩
  have hml2 : q.bs.length = q.ns.length ∧ q.ns.length ≤ 1048576 := ⟨hok.ar.ok.len, hok.ar.ok.lim⟩
  have ha0 := ha.1
  have ha1 := ha.2
  have hb0 := hb.1
  have hb1 := hb.2
  refine s_seq ?_
  refine c_reg ?_
  refine qd rfl rfl rfl (r_assign (v := (.int .i64 0)) rfl) ?_
  refine qe ?_
  refine s_then ?_
  refine s_seq ?_
  refine c_reg ?_
  refine qd rfl rfl rfl (r_move (v := (.pointer (some ⟨p, 0, none⟩))) rfl) ?_
  refine qd rfl rfl rfl (r_move (v := (.int .i64 a)) rfl) ?_
  refine qd rfl rfl rfl (r_move (v := (.int .i64 b)) rfl) ?_
  refine q1 rfl rfl rfl (o_call (vs := [(.pointer (some ⟨p, 0, none⟩)), (.int .i64 a), (.int .i64 b)]) Tryd.func38 nm38 rfl rfl rfl ?_)
  refine Calls.mono (ge_spec hX0.pins hpk hok (ha.same ⟨rfl, rfl⟩) (hb.same ⟨rfl, rfl⟩)) ?_
  rintro _ w5 ⟨q3, G4, rfl, hpk6, hok7, hpx8, hqn9, hx10⟩
  refine ⟨_, rfl, ?_⟩
  have hX11 := hX0.trans hx10 (fun i hi => lo_self i hi)
  have hql12 := hpx8.len
  have hml13 : (q3.ns.map Nd.l).length = q3.ns.length ∧ (q3.ns.map Nd.r).length = q3.ns.length := ⟨List.length_map .., List.length_map ..⟩
  have hml14 : q3.bs.length = q3.ns.length ∧ q3.ns.length ≤ 1048576 := ⟨hok7.ar.ok.len, hok7.ar.ok.lim⟩
  have hql15 := congrArg List.length hqn9.1
  refine qd rfl rfl rfl (r_move (v := (.pointer (some ⟨p, 0, none⟩))) rfl) ?_
  refine qd rfl rfl rfl (r_move (v := (.int .i64 b)) rfl) ?_
  refine qd rfl rfl rfl (r_move (v := (.int .i64 a)) rfl) ?_
  refine q1 rfl rfl rfl (o_call (vs := [(.pointer (some ⟨p, 0, none⟩)), (.int .i64 b), (.int .i64 a)]) Tryd.func38 nm38 rfl rfl rfl ?_)
  refine Calls.mono (ge_spec hX11.pins hpk6 hok7 (hb.same hqn9) (ha.same hqn9)) ?_
  rintro _ w18 ⟨q16, G17, rfl, hpk19, hok20, hpx21, hqn22, hx23⟩
  refine ⟨_, rfl, ?_⟩
  have hX24 := hX11.trans hx23 (fun i hi => lo_self i hi)
  have hql25 := hpx21.len
  have hml26 : (q16.ns.map Nd.l).length = q16.ns.length ∧ (q16.ns.map Nd.r).length = q16.ns.length := ⟨List.length_map .., List.length_map ..⟩
  have hml27 : q16.bs.length = q16.ns.length ∧ q16.ns.length ≤ 1048576 := ⟨hok20.ar.ok.len, hok20.ar.ok.lim⟩
  have hql28 := congrArg List.length hqn22.1
  refine qd rfl rfl rfl (r_assign (v := (.bool (geB q.ns a b))) rfl) ?_
  refine qd rfl rfl rfl (r_assign (v := (.bool (geB q3.ns b a))) rfl) ?_
  refine qe ?_
  refine s_then ?_
  refine s_seq ?_
  refine s_blk ?_
  refine s_seq ?_
  refine c_reg ?_
  refine qd rfl rfl rfl (r_move (v := (.bool (geB q.ns a b))) rfl) ?_
  refine qd rfl rfl rfl (r_move (v := (.bool (geB q.ns a b))) rfl) ?_
  refine qb (t := 19) rfl (fun h29 => ?_) (fun h29 => ?_)
  · skip
    refine qdg rfl rfl rfl rfl rfl rfl (r_move (v := (.bool (geB q3.ns b a))) rfl) ?_
    refine qd rfl rfl rfl (r_pickT (v := (.bool (geB q3.ns b a))) rfl rfl) ?_
    refine qd rfl rfl rfl (r_assign (v := (.bool (geB q3.ns b a))) rfl) ?_
    refine qe ?_
    refine s_then ?_
    refine c_if rfl rfl (fun h30 => ?_) (fun h30 => ?_)
    · skip
      refine s_seq ?_
      refine c_reg ?_
      refine qd rfl rfl rfl (r_assign (v := (.int .i64 4)) rfl) ?_
      refine qe ?_
      refine s_then ?_
      refine wp_ret ?_
      refine s_ret ?_
      refine c_ret1 (v := (.int .i64 4)) rfl rfl rfl ?_
      exact ⟨q16, _, congrArg (fun z => Ending.returned (Value.int .i64 z)) (by rw [← geB_same (a := b) (b := a) hqn9]; revert h29 h30; generalize geB _ b a = t1; generalize geB _ a b = t2; cases t1 <;> cases t2 <;> decide), hpk19, hok20, (PX.trans hpx8 hpx21), (ns_trans hqn9 hqn22), hX24⟩
    refine s_seq ?_
    refine c_reg ?_
    refine qd rfl rfl rfl (r_move (v := (.bool (geB q.ns a b))) rfl) ?_
    refine qd rfl rfl rfl (r_assign (v := (.bool (geB q.ns a b))) rfl) ?_
    refine qe ?_
    refine s_then ?_
    refine c_if rfl rfl (fun h31 => ?_) (fun h31 => ?_)
    · skip
      refine s_seq ?_
      refine c_reg ?_
      refine qd rfl rfl rfl (r_assign (v := (.int .i64 1)) rfl) ?_
      refine qe ?_
      refine s_then ?_
      refine wp_ret ?_
      refine s_ret ?_
      refine c_ret1 (v := (.int .i64 1)) rfl rfl rfl ?_
      exact ⟨q16, _, congrArg (fun z => Ending.returned (Value.int .i64 z)) (by rw [← geB_same (a := b) (b := a) hqn9]; revert h29 h30 h31; generalize geB _ b a = t1; generalize geB _ a b = t2; cases t1 <;> cases t2 <;> decide), hpk19, hok20, (PX.trans hpx8 hpx21), (ns_trans hqn9 hqn22), hX24⟩
    refine s_seq ?_
    refine c_reg ?_
    refine qd rfl rfl rfl (r_move (v := (.bool (geB q3.ns b a))) rfl) ?_
    refine qd rfl rfl rfl (r_assign (v := (.bool (geB q3.ns b a))) rfl) ?_
    refine qe ?_
    refine s_then ?_
    refine c_if rfl rfl (fun h32 => ?_) (fun h32 => ?_)
    · skip
      refine s_seq ?_
      refine c_reg ?_
      refine qd rfl rfl rfl (r_assign (v := (.int .i64 2)) rfl) ?_
      refine qe ?_
      refine s_then ?_
      refine wp_ret ?_
      refine s_ret ?_
      refine c_ret1 (v := (.int .i64 2)) rfl rfl rfl ?_
      exact ⟨q16, _, congrArg (fun z => Ending.returned (Value.int .i64 z)) (by rw [← geB_same (a := b) (b := a) hqn9]; revert h29 h30 h31 h32; generalize geB _ b a = t1; generalize geB _ a b = t2; cases t1 <;> cases t2 <;> decide), hpk19, hok20, (PX.trans hpx8 hpx21), (ns_trans hqn9 hqn22), hX24⟩
    refine wp_skip ?_
    refine s_blkN ?_
    refine s_then ?_
    refine s_seq ?_
    refine c_reg ?_
    refine qd rfl rfl rfl (r_assign (v := (.int .i64 3)) rfl) ?_
    refine qe ?_
    refine s_then ?_
    refine wp_ret ?_
    refine s_ret ?_
    refine c_ret1 (v := (.int .i64 3)) rfl rfl rfl ?_
    exact ⟨q16, _, congrArg (fun z => Ending.returned (Value.int .i64 z)) (by rw [← geB_same (a := b) (b := a) hqn9]; revert h29 h30 h31 h32; generalize geB _ b a = t1; generalize geB _ a b = t2; cases t1 <;> cases t2 <;> decide), hpk19, hok20, (PX.trans hpx8 hpx21), (ns_trans hqn9 hqn22), hX24⟩
  refine qs rfl rfl rfl rfl rfl rfl ?_
  refine qd rfl rfl rfl (r_pickF (v := (.bool false)) rfl rfl) ?_
  refine qd rfl rfl rfl (r_assign (v := (.bool false)) rfl) ?_
  refine qe ?_
  refine s_then ?_
  refine c_ifF rfl rfl ?_
  refine s_seq ?_
  refine c_reg ?_
  refine qd rfl rfl rfl (r_move (v := (.bool (geB q.ns a b))) rfl) ?_
  refine qd rfl rfl rfl (r_assign (v := (.bool (geB q.ns a b))) rfl) ?_
  refine qe ?_
  refine s_then ?_
  refine c_if rfl rfl (fun h33 => ?_) (fun h33 => ?_)
  · skip
    refine s_seq ?_
    refine c_reg ?_
    refine qd rfl rfl rfl (r_assign (v := (.int .i64 1)) rfl) ?_
    refine qe ?_
    refine s_then ?_
    refine wp_ret ?_
    refine s_ret ?_
    refine c_ret1 (v := (.int .i64 1)) rfl rfl rfl ?_
    exact ⟨q16, _, congrArg (fun z => Ending.returned (Value.int .i64 z)) (by rw [← geB_same (a := b) (b := a) hqn9]; revert h29 h33; generalize geB _ b a = t1; generalize geB _ a b = t2; cases t1 <;> cases t2 <;> decide), hpk19, hok20, (PX.trans hpx8 hpx21), (ns_trans hqn9 hqn22), hX24⟩
  refine s_seq ?_
  refine c_reg ?_
  refine qd rfl rfl rfl (r_move (v := (.bool (geB q3.ns b a))) rfl) ?_
  refine qd rfl rfl rfl (r_assign (v := (.bool (geB q3.ns b a))) rfl) ?_
  refine qe ?_
  refine s_then ?_
  refine c_if rfl rfl (fun h34 => ?_) (fun h34 => ?_)
  · skip
    refine s_seq ?_
    refine c_reg ?_
    refine qd rfl rfl rfl (r_assign (v := (.int .i64 2)) rfl) ?_
    refine qe ?_
    refine s_then ?_
    refine wp_ret ?_
    refine s_ret ?_
    refine c_ret1 (v := (.int .i64 2)) rfl rfl rfl ?_
    exact ⟨q16, _, congrArg (fun z => Ending.returned (Value.int .i64 z)) (by rw [← geB_same (a := b) (b := a) hqn9]; revert h29 h33 h34; generalize geB _ b a = t1; generalize geB _ a b = t2; cases t1 <;> cases t2 <;> decide), hpk19, hok20, (PX.trans hpx8 hpx21), (ns_trans hqn9 hqn22), hX24⟩
  refine wp_skip ?_
  refine s_blkN ?_
  refine s_then ?_
  refine s_seq ?_
  refine c_reg ?_
  refine qd rfl rfl rfl (r_assign (v := (.int .i64 3)) rfl) ?_
  refine qe ?_
  refine s_then ?_
  refine wp_ret ?_
  refine s_ret ?_
  refine c_ret1 (v := (.int .i64 3)) rfl rfl rfl ?_
  exact ⟨q16, _, congrArg (fun z => Ending.returned (Value.int .i64 z)) (by rw [← geB_same (a := b) (b := a) hqn9]; revert h29 h33 h34; generalize geB _ b a = t1; generalize geB _ a b = t2; cases t1 <;> cases t2 <;> decide), hpk19, hok20, (PX.trans hpx8 hpx21), (ns_trans hqn9 hqn22), hX24⟩

end PL1
end Go.Proofs.YtndhhpaldhlghaaDoor
