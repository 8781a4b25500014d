/- Texts of this claim in one file: PL1, DI1, RI1, Red, CN1, CN2, CN3, CN4, IK1. -/
import Derived.Test.YtfkompdmejpmmaaDoorIc5
import Derived.Test.YtfkompdmejpmmaaDoorChecked
/- Walks, printed by a program (walkgen.py) from the spec specs_pl. -/
set_option maxRecDepth 20000
set_option maxHeartbeats 2000000
namespace Go.Proofs.YtfkompdmejpmmaaDoor
namespace PL1
open Go.RowKit Go.GL Go.Proofs
open Go.Proofs.YtfkompdmejpmmaaDoor.B1
open Go.Proofs.YtfkompdmejpmmaaDoor.K1
open Go.Proofs.YtfkompdmejpmmaaDoor.PO1
theorem ag101 : (Tryd.prog.underlying 101).map aggD = some true := by kernel_rfl
theorem ag28 : (Tryd.prog.underlying 28).map aggD = some false := by kernel_rfl
theorem ag3 : (Tryd.prog.underlying 3).map aggD = some false := by kernel_rfl
theorem ag30 : (Tryd.prog.underlying 30).map aggD = some true := by kernel_rfl
theorem ag37 : (Tryd.prog.underlying 37).map aggD = some false := by kernel_rfl
theorem ag44 : (Tryd.prog.underlying 44).map aggD = some true := by kernel_rfl
theorem ag74 : (Tryd.prog.underlying 74).map aggD = some false := by kernel_rfl
theorem ag77 : (Tryd.prog.underlying 77).map aggD = some false := by kernel_rfl
theorem ap3 : (Tryd.prog.info? 3).map (fun i => (i.size, i.bytes, (i.zero.map (·.cells.size)))) = some (1, 8, some 1) := by kernel_rfl
theorem mk3 : (Tryd.prog.info? 3).map (fun i => (i.size, i.bytes, i.zero)) = some (1, 8, some (.int .i64 0)) := by kernel_rfl
theorem nm41 : (Tryd.f41.name == "runtime.NumGoroutine") = false := by kernel_rfl
theorem nm42 : (Tryd.f42.name == "runtime.NumGoroutine") = false := by kernel_rfl
theorem nm57 : (Tryd.f57.name == "runtime.NumGoroutine") = false := by kernel_rfl
theorem nm69 : (Tryd.f69.name == "runtime.NumGoroutine") = false := by kernel_rfl
theorem nz28 : (Tryd.prog.info? 28).map (·.size == 0) = some false := by kernel_rfl
theorem nz37 : (Tryd.prog.info? 37).map (·.size == 0) = some false := by kernel_rfl
theorem nz74 : (Tryd.prog.info? 74).map (·.size == 0) = some false := by kernel_rfl
theorem nz77 : (Tryd.prog.info? 77).map (·.size == 0) = some false := by kernel_rfl
theorem pl79 : (Tryd.prog.underlying 79).bind (placesD Tryd.prog) = some [(0, 1), (1, 1), (2, 1), (3, 1), (4, 1), (5, 1), (6, 1), (7, 1)] := by kernel_rfl
theorem sz101 : (Tryd.prog.info? 101).map (·.size) = some 2 := by kernel_rfl
theorem sz3 : (Tryd.prog.info? 3).map (·.size) = some 1 := by kernel_rfl
theorem sz30 : (Tryd.prog.info? 30).map (·.size) = some 1 := by kernel_rfl
theorem sz37 : (Tryd.prog.info? 37).map (·.size) = some 1 := by kernel_rfl
theorem sz44 : (Tryd.prog.info? 44).map (·.size) = some 2 := by kernel_rfl
theorem zr101 : (Tryd.prog.info? 101).bind (·.zero) = some (.agg #[(.int .i64 0), (.int .i64 0)]) := by kernel_rfl
theorem zr3 : (Tryd.prog.info? 3).bind (·.zero) = some (.int .i64 0) := by kernel_rfl
theorem zr4 : (Tryd.prog.info? 4).bind (·.zero) = some (.bool false) := by kernel_rfl
theorem zr44 : (Tryd.prog.info? 44).bind (·.zero) = some (.agg #[(.slice none 0 0), (.slice none 0 0)]) := by kernel_rfl
theorem zr79 : (Tryd.prog.info? 79).bind (·.zero) = some (.agg #[(.slice none 0 0), (.slice none 0 0), (.slice none 0 0), (.map none), (.map none), (.map none), (.map none), (.map none)]) := by kernel_rfl

theorem newPool_spec {w : World} {G : Pin} (hP : Pins G w) :
    Calls Tryd.prog 17 [].toArray w fun e w' => ∃ (p : Nat) (mm : PM) (G' : Pin), e = .returned (.pointer (some ⟨p, 0, none⟩)) ∧ Pk 37 3 G' w' p (.slice none 0 0) (.slice none 0 0) (.slice none 0 0) mm ⟨[], [], [], [], [], [], []⟩ ∧ (∀ k, inP p (.slice none 0 0) (.slice none 0 0) (.slice none 0 0) mm k → w.heap.size ≤ k) ∧ Ext noS G w G' w' := by
  refine s_enter (n := 8) Tryd.func17 Tryd.ntmps17 rfl rfl ?_
  have hX0 : Ext noS G w G w := Ext.refl hP
  refine s_seq ?_
  refine c_reg ?_
  refine qd rfl rfl rfl (r_assign (v := (.pointer none)) rfl) ?_
  refine qe ?_
  refine s_then ?_
  refine s_seq ?_
  refine c_reg ?_
  refine q1 rfl rfl rfl (o_makeMap (fun k : ByteArray => Value.string k) (fun v : Int => Value.int .i64 v) hX0.pins (fun m1 w2 hk3 hm4 hp5 hl6 => ?_))
  have hX7 := hX0.step hp5 hl6
  have hlo8 : w.heap.size ≤ m1 := by have := hX0.size; omega
  refine q1 rfl rfl rfl (o_makeMap encP2 (fun v : Bool => Value.bool v) hX7.pins (fun m9 w10 hk11 hm12 hp13 hl14 => ?_))
  have hX15 := hX7.step hp13 hl14
  have hm16 := hm4.below hl14
  have ha17 : Apart (some m9) (some m1) := new_ne_box (congrArg some hk11) hm4.lt
  have hlo18 : w.heap.size ≤ m9 := by have := hX7.size; omega
  refine q1 rfl rfl rfl (o_makeMap (fun k : Int => Value.int .i64 k) (fun v : Int => Value.int .i64 v) hX15.pins (fun m19 w20 hk21 hm22 hp23 hl24 => ?_))
  have hX25 := hX15.step hp23 hl24
  have hm26 := hm16.below hl24
  have hm27 := hm12.below hl24
  have ha28 : Apart (some m19) (some m1) := new_ne_box (congrArg some hk21) hm16.lt
  have ha29 : Apart (some m19) (some m9) := new_ne_box (congrArg some hk21) hm12.lt
  have hlo30 : w.heap.size ≤ m19 := by have := hX15.size; omega
  refine q1 rfl rfl rfl (o_makeMap encP2 (fun v : Int => Value.int .i64 v) hX25.pins (fun m31 w32 hk33 hm34 hp35 hl36 => ?_))
  have hX37 := hX25.step hp35 hl36
  have hm38 := hm26.below hl36
  have hm39 := hm27.below hl36
  have hm40 := hm22.below hl36
  have ha41 : Apart (some m31) (some m1) := new_ne_box (congrArg some hk33) hm26.lt
  have ha42 : Apart (some m31) (some m9) := new_ne_box (congrArg some hk33) hm27.lt
  have ha43 : Apart (some m31) (some m19) := new_ne_box (congrArg some hk33) hm22.lt
  have hlo44 : w.heap.size ≤ m31 := by have := hX25.size; omega
  refine q1 rfl rfl rfl (o_makeMap (fun k : Int => Value.int .i64 k) (fun v : Int => Value.int .i64 v) hX37.pins (fun m45 w46 hk47 hm48 hp49 hl50 => ?_))
  have hX51 := hX37.step hp49 hl50
  have hm52 := hm38.below hl50
  have hm53 := hm39.below hl50
  have hm54 := hm40.below hl50
  have hm55 := hm34.below hl50
  have ha56 : Apart (some m45) (some m1) := new_ne_box (congrArg some hk47) hm38.lt
  have ha57 : Apart (some m45) (some m9) := new_ne_box (congrArg some hk47) hm39.lt
  have ha58 : Apart (some m45) (some m19) := new_ne_box (congrArg some hk47) hm40.lt
  have ha59 : Apart (some m45) (some m31) := new_ne_box (congrArg some hk47) hm34.lt
  have hlo60 : w.heap.size ≤ m45 := by have := hX37.size; omega
  refine qd rfl rfl rfl (r_build [(.slice none 0 0), (.slice none 0 0), (.slice none 0 0), (.map none), (.map none), (.map none), (.map none), (.map none)] [(.slice none 0 0), (.slice none 0 0), (.slice none 0 0), (.map (some m1)), (.map (some m9)), (.map (some m19)), (.map (some m31)), (.map (some m45))] [(3, (.map (some m1)), [(.map (some m1))]), (4, (.map (some m9)), [(.map (some m9))]), (5, (.map (some m19)), [(.map (some m19))]), (6, (.map (some m31)), [(.map (some m31))]), (7, (.map (some m45)), [(.map (some m45))])] Tryd.underlying79 zr79 rfl pl79 rfl (List.forall_mem_cons.2 ⟨rfl, (List.forall_mem_cons.2 ⟨rfl, (List.forall_mem_cons.2 ⟨rfl, (List.forall_mem_cons.2 ⟨rfl, (List.forall_mem_cons.2 ⟨rfl, (fun _ h => by cases h)⟩)⟩)⟩)⟩)⟩) rfl) ?_
  refine q1 rfl rfl rfl (o_box [(.slice none 0 0), (.slice none 0 0), (.slice none 0 0), (.map (some m1)), (.map (some m9)), (.map (some m19)), (.map (some m31)), (.map (some m45))] (v := (.agg [(.slice none 0 0), (.slice none 0 0), (.slice none 0 0), (.map (some m1)), (.map (some m9)), (.map (some m19)), (.map (some m31)), (.map (some m45))].toArray)) rfl rfl hX51.pins (fun b61 w62 hk63 hb64 hp65 hl66 => ?_))
  have hX67 := hX51.step hp65 hl66
  have hm68 := hm52.below hl66
  have hm69 := hm53.below hl66
  have hm70 := hm54.below hl66
  have hm71 := hm55.below hl66
  have hm72 := hm48.below hl66
  have hlo73 : w.heap.size ≤ b61 := by have := hX51.size; omega
  refine qd rfl rfl rfl (r_assign (v := (.pointer (some ⟨b61, 0, none⟩))) rfl) ?_
  refine qe ?_
  refine s_then ?_
  refine wp_ret ?_
  refine s_ret ?_
  refine c_ret1 (v := (.pointer (some ⟨b61, 0, none⟩))) rfl rfl rfl ?_
  have hdf : PDiff ⟨m1, m9, m19, m31, m45⟩ := ⟨fun e => ha17.symm _ rfl (congrArg some e.symm), fun e => ha28.symm _ rfl (congrArg some e.symm), fun e => ha41.symm _ rfl (congrArg some e.symm), fun e => ha56.symm _ rfl (congrArg some e.symm), fun e => ha29.symm _ rfl (congrArg some e.symm), fun e => ha42.symm _ rfl (congrArg some e.symm), fun e => ha57.symm _ rfl (congrArg some e.symm), fun e => ha43.symm _ rfl (congrArg some e.symm), fun e => ha58.symm _ rfl (congrArg some e.symm), fun e => ha59.symm _ rfl (congrArg some e.symm)⟩
  have hfr : ∀ k, inP b61 (.slice none 0 0) (.slice none 0 0) (.slice none 0 0) ⟨m1, m9, m19, m31, m45⟩ k → w.heap.size ≤ k := by rintro k (rfl | hk | hk | hk | rfl | rfl | rfl | rfl | rfl) <;> first | (cases hk; done) | exact hlo73 | exact hlo8 | exact hlo18 | exact hlo30 | exact hlo44 | exact hlo60
  exact ⟨b61, ⟨m1, m9, m19, m31, m45⟩, _, rfl, ⟨hb64, (Own.nil _ _ _ _ _), (Own.nil _ _ _ _ _), (Own.nil _ _ _ _ _), hm68, hm69, hm70, hm71, hm72, apart_none.symm, apart_none.symm, apart_none.symm, apart_none, apart_none, apart_none, hdf⟩, hfr, hX67⟩

theorem renamed_spec {w : World} {G : Pin} {u v : Value} {xs ys : List Int} (hP : Pins G w) (hu : RSl eInt G u xs) (hv : RSl eInt G v ys) (hs : xs.length ≤ 1048576) (hb : ∀ i, i < xs.length → 0 ≤ xs.getD i 0 ∧ xs.getD i 0 < ys.length) :
    Calls Tryd.prog 57 [u, v].toArray w fun e w' => ∃ (u : Value) (G' : Pin), e = .returned u ∧ Own eInt 3 G' w' w.heap.size u (atL ys xs) ∧ Ext noS G w G' w' := by
  refine s_enter (n := 27) Tryd.func57 Tryd.ntmps57 rfl rfl ?_
  have hX0 : Ext noS G w G w := Ext.refl hP
  have hm := hu.max
  have hal : (atL ys xs).length = xs.length := at_length
  have hrl : (List.replicate xs.length (0 : Int)).length = xs.length := List.length_replicate
  refine s_seq ?_
  refine c_reg ?_
  refine qd rfl rfl rfl (r_assign (v := (.slice none 0 0)) rfl) ?_
  refine qe ?_
  refine s_then ?_
  refine s_seq ?_
  refine c_reg ?_
  refine qd rfl rfl rfl (r_move (v := u) rfl) ?_
  refine qd rfl rfl rfl (run_len Tryd.underlying37 (v := u) rfl hu) ?_
  refine q1 rfl rfl rfl (o_make (E := eInt) 0 8 (.int .i64 0) Tryd.underlying37 mk3 (fun _ => rfl) rfl rfl hX0.pins (by omega) (by omega) (by omega) (fun u1 w2 ho3 hp4 hl5 hk6 => ?_))
  have hX7 := hX0.step hp4 hl5
  have ho8 : Own eInt 3 G w2 w.heap.size u1 (List.replicate xs.length 0) := ho3.weaken hX0.size
  have hm9 : (List.replicate xs.length 0).length = xs.length := List.length_replicate ..
  refine qd rfl rfl rfl (r_assign (v := u1) rfl) ?_
  refine qe ?_
  refine s_then ?_
  refine s_seq ?_
  refine s_seq ?_
  refine c_reg ?_
  refine qd rfl rfl rfl (r_move (v := u) rfl) ?_
  refine qd rfl rfl rfl (run_len Tryd.underlying37 (v := u) rfl hu) ?_
  refine qd rfl rfl rfl (r_move (v := (.int .i64 0)) rfl) ?_
  refine qe ?_
  refine s_then ?_
  refine s_blk ?_
  refine s_loop (fun (k : Nat) (en : Nat → Value) (W : World) => ∃ (env1 : Nat → Value) (j : Nat) (os : List Int), en = (upd (upd (upd (upd (upd (upd env1 1 v) 4 (.slice none 0 0)) 5 u1) 11 u) 12 (.int .i64 (xs.length : Int))) 13 (.int .i64 (j : Int))) ∧ k = xs.length - j ∧ Ext noS G w G W ∧ (j ≤ xs.length) ∧ (os = (atL ys xs).take j ++ (List.replicate xs.length 0).drop j) ∧ (os.length = xs.length) ∧ (Own eInt 3 G W w.heap.size u1 (os))) _ ⟨_, 0, List.replicate xs.length 0, (packS (x := 13) (packS (x := 12) (packS (x := 11) (packS (x := 5) (packS (x := 4) (pack1 (x := 1) rfl) rfl) rfl) rfl) rfl) rfl), rfl, hX7, Nat.zero_le _, rfl, hrl, ho8⟩ ?_
  rintro k10 _ w11 ⟨env1, j, os, rfl, hk12, hX13, hj, hr, hol, hw14⟩
  refine s_seq ?_
  refine c_reg ?_
  refine qd rfl rfl rfl (r_lss rfl rfl) ?_
  refine qe ?_
  refine s_then ?_
  refine s_seq ?_
  refine c_ifd (p := ((j : Int) : Int) < (xs.length : Int)) rfl rfl (fun h15 => ?_) (fun h15 => ?_)
  · skip
    have hbj := hb j (by omega)
    refine wp_skip ?_
    refine s_then ?_
    refine s_seq ?_
    refine s_blk ?_
    refine s_seq ?_
    refine c_reg ?_
    refine qd rfl rfl rfl (r_move (v := (.int .i64 (j : Int))) rfl) ?_
    refine qd rfl rfl rfl (run_idx Tryd.underlying37 sz3 (v := u) rfl rfl hu (by omega) (by omega)) ?_
    refine qd rfl rfl rfl (run_load_int (r := xs.getD j 0) rfl ag3 (z := (j : Int)) rfl hu hX13.pins (by omega) (by omega)) ?_
    refine qd rfl rfl rfl (r_assign (v := (.int .i64 (j : Int))) rfl) ?_
    refine qd rfl rfl rfl (r_assign (v := (.int .i64 (xs.getD j 0))) rfl) ?_
    refine qe ?_
    refine s_then ?_
    refine c_reg ?_
    refine qd rfl rfl rfl (r_move (v := u1) rfl) ?_
    refine qd rfl rfl rfl (r_move (v := (.int .i64 (j : Int))) rfl) ?_
    refine qd rfl rfl rfl (r_move (v := v) rfl) ?_
    refine qd rfl rfl rfl (r_move (v := (.int .i64 (xs.getD j 0))) rfl) ?_
    refine qd rfl rfl rfl (run_idx Tryd.underlying37 sz3 (v := v) rfl rfl hv (by omega) (by omega)) ?_
    refine qd rfl rfl rfl (run_load_int (r := ys.getD (xs.getD j 0).toNat 0) rfl ag3 (z := (xs.getD j 0)) rfl hv hX13.pins (by omega) (by omega)) ?_
    refine qd rfl rfl rfl (run_idx Tryd.underlying37 sz3 (v := u1) rfl rfl hw14.read (by omega) (by omega)) ?_
    refine q0 rfl rfl rfl (o_set (E := eInt) (v := u1) (u := (.int .i64 (ys.getD (xs.getD j 0).toNat 0))) (z := (j : Int)) (ys.getD (xs.getD j 0).toNat 0) sz3 rfl rfl rfl rfl hX13.pins hw14 (by omega) (by omega) (fun w16 ho17 hp18 hg19 hz20 => ?_))
    have hX21 := hX13.write hp18 hg19 ((lo_own hw14))
    refine qe ?_
    refine s_blkN ?_
    refine s_then ?_
    refine c_reg ?_
    refine qd rfl rfl rfl (r_add rfl rfl (by omega)) ?_
    refine qd rfl rfl rfl (r_move (v := (.int .i64 ((j : Int) + 1))) rfl) ?_
    refine qe ?_
    refine s_lopN ?_
    refine ⟨_, ?_, _, rfl, _, j + 1, os.set j (ys.getD (xs.getD j 0).toNat 0), (packS (x := 13) (packS (x := 12) (packS (x := 11) (packS (x := 5) (packS (x := 4) (pack1 (x := 1) rfl) rfl) rfl) rfl) rfl) rfl), rfl, hX21, (by omega), (by rw [hr]; exact cur_set 0 (by omega) (by omega) (at_getD (by omega))), ((List.length_set ..).trans hol), ho17⟩
    omega
  refine wp_exit ?_
  refine s_thenE ?_
  refine s_lopE ?_
  refine s_blkE ?_
  refine s_then ?_
  refine s_seq ?_
  refine c_reg ?_
  refine qd rfl rfl rfl (r_move (v := u1) rfl) ?_
  refine qd rfl rfl rfl (r_assign (v := u1) rfl) ?_
  refine qe ?_
  refine s_then ?_
  refine wp_ret ?_
  refine s_ret ?_
  refine c_ret1 (v := u1) rfl rfl rfl ?_
  rw [cur_end (by omega) (by omega)] at hr
  exact ⟨_, _, rfl, (by rw [← hr]; exact hw14), hX13⟩

theorem load_spec {w : World} {G : Pin} {p : Nat} {L R B : Value} {mm : PM} {q : PSt} (hP : Pins G w) (hpk : Pk 37 3 G w p L R B mm q) (hok : PoolOk q) {x : Value} {fs : List Nd} (hx : RSl eNode G x fs) (hf : FormOk fs) (hl : q.ns.length + fs.length ≤ 1048576) :
    Calls Tryd.prog 41 [(.pointer (some ⟨p, 0, none⟩)), (.agg [x].toArray)].toArray w fun e w' => ∃ (u : Value) (ats : List Int) (L' R' B' : Value) (q' : PSt) (G' : Pin), e = .returned u ∧ Pk 37 3 G' w' p L' R' B' mm q' ∧ PoolOk q' ∧ PX q q' ∧ PLo w p L R B mm L' R' B' ∧ Ext (inP p L R B mm) G w G' w' ∧ Own eInt 3 G' w' w.heap.size u ats ∧ NP p L' R' B' mm u.ownBlock ∧ LdOk fs q q' fs.length ats := by
  refine s_enter (n := 34) Tryd.func41 Tryd.ntmps41 rfl rfl ?_
  have hX0 : Ext (inP p L R B mm) G w G w := Ext.refl hP
  have hpin : PIn w (inP p L R B mm) p L R B mm := PIn.self
  have hml1 : (q.ns.map Nd.l).length = q.ns.length ∧ (q.ns.map Nd.r).length = q.ns.length := ⟨List.length_map .., List.length_map ..⟩
  have hml2 : q.bs.length = q.ns.length ∧ q.ns.length ≤ 1048576 := ⟨hok.ar.ok.len, hok.ar.ok.lim⟩
  refine s_seq ?_
  refine c_reg ?_
  refine q1 rfl rfl rfl (o_box [x] (v := (.agg [x].toArray)) rfl rfl hX0.pins (fun b3 w4 hk5 hb6 hp7 hl8 => ?_))
  have hX9 := hX0.step hp7 hl8
  have hpk10 := hpk.below hl8 hp7
  have ha15 := hpk.new (x := (some b3)) (fun k hk => by rw [(congrArg some hk5)] at hk; cases hk; exact Nat.le_refl _)
  have hlo16 : w.heap.size ≤ b3 := by have := hX0.size; omega
  obtain ⟨G17, hle18, hX19, hbp20, hf21⟩ := hb6.shut hX9 hlo16
  have hpk22 := hpk10.more hle18 hf21 ha15
  refine qd rfl rfl rfl (r_assign (v := (.slice none 0 0)) rfl) ?_
  refine qe ?_
  refine s_then ?_
  refine s_seq ?_
  refine c_reg ?_
  refine qd rfl rfl rfl (r_fldp (k := 0) rfl Tryd.underlying30 rfl nz28 rfl) ?_
  refine qd rfl rfl rfl (r_ldp1 (u := x) ag28 rfl (hX19.pins _ _ _ (hbp20 0 _ rfl))) ?_
  refine qd rfl rfl rfl (run_len Tryd.underlying28 (v := x) rfl hx) ?_
  refine q1 rfl rfl rfl (o_make0 (E := eInt) Tryd.underlying37 mk3 rfl rfl hX19.pins (by omega) (by omega) (by omega) (fun u23 w24 ho25 hp26 hl27 hk28 => ?_))
  have hX29 := hX19.step hp26 hl27
  have hpk30 := hpk22.below hl27 hp26
  have ha35 := hpk22.new (x := u23.ownBlock) (fun k hk => by rw [hk28] at hk; cases hk; exact Nat.le_refl _)
  have ho36 : Own eInt 3 G17 w24 w.heap.size u23 ([]) := ho25.weaken hX19.size
  refine qd rfl rfl rfl (r_assign (v := u23) rfl) ?_
  refine qe ?_
  refine s_then ?_
  refine s_seq ?_
  refine s_seq ?_
  refine c_reg ?_
  refine qd rfl rfl rfl (r_fldp (k := 0) rfl Tryd.underlying30 rfl nz28 rfl) ?_
  refine qd rfl rfl rfl (r_ldp1 (u := x) ag28 rfl (hX29.pins _ _ _ (hbp20 0 _ rfl))) ?_
  refine qd rfl rfl rfl (run_len Tryd.underlying28 (v := x) rfl hx) ?_
  refine qd rfl rfl rfl (r_move (v := (.int .i64 0)) rfl) ?_
  refine qe ?_
  refine s_then ?_
  refine s_blk ?_
  refine s_loop (fun (k : Nat) (en : Nat → Value) (W : World) => ∃ (env1 : Nat → Value) (k4 : Nat) (at_ : Value) (ats : List Int) (L37 : Value) (R38 : Value) (B39 : Value) (q40 : PSt) (GL1 : Pin), en = (upd (upd (upd (upd (upd (upd env1 0 (.pointer (some ⟨p, 0, none⟩))) 4 (.slice none 0 0)) 5 at_) 13 x) 14 (.int .i64 (fs.length : Int))) 15 (.int .i64 (k4 : Int))) ∧ k = fs.length - k4 ∧ Ext (inP p L R B mm) G w GL1 W ∧ Pin.le G17 GL1 ∧ (k4 ≤ fs.length) ∧ (LdOk fs q q40 k4 ats) ∧ (Own eInt 3 GL1 W w.heap.size at_ (ats)) ∧ (Pk 37 3 GL1 W p L37 R38 B39 mm q40) ∧ (PIn w ((inP p L R B mm)) p L37 R38 B39 mm) ∧ (PoolOk q40) ∧ (PX q q40) ∧ (NP p L37 R38 B39 mm at_.ownBlock)) _ ⟨_, 0, u23, [], L, R, B, q, G17, (packS (x := 15) (packS (x := 14) (packS (x := 13) (packS (x := 5) (packS (x := 4) (pack1 (x := 0) rfl) rfl) rfl) rfl) rfl) rfl), rfl, hX29, Pin.le_refl _, Nat.zero_le _, LdOk.start, ho36, hpk30, hpin, hok, (PX.refl _), ha35⟩ ?_
  rintro k41 _ w42 ⟨env1, k4, at_, ats, L37, R38, B39, q40, GL1, rfl, hk43, hX44, hlek41, hk, hld, hw45, hpk46, hpin47, hok48, hpx49, hnp50⟩
  have hql51 := hpx49.len
  have hml52 : (q40.ns.map Nd.l).length = q40.ns.length ∧ (q40.ns.map Nd.r).length = q40.ns.length := ⟨List.length_map .., List.length_map ..⟩
  have hml53 : q40.bs.length = q40.ns.length ∧ q40.ns.length ≤ 1048576 := ⟨hok48.ar.ok.len, hok48.ar.ok.lim⟩
  have hal := hld.len
  have hah := hld.hi
  have hfl := hf.len
  refine s_seq ?_
  refine c_reg ?_
  refine qd rfl rfl rfl (r_lss rfl rfl) ?_
  refine qe ?_
  refine s_then ?_
  refine s_seq ?_
  refine c_ifd (p := ((k4 : Int) : Int) < (fs.length : Int)) rfl rfl (fun h54 => ?_) (fun h54 => ?_)
  · skip
    have oo := optsAt hf.opts (show k4 < fs.length by omega)
    have hfe := hf.lens k4 (by omega)
    refine wp_skip ?_
    refine s_then ?_
    refine s_seq ?_
    refine s_blk ?_
    refine s_seq ?_
    refine c_reg ?_
    refine qd rfl rfl rfl (run_idx Tryd.underlying28 sz44 (v := x) rfl rfl hx (by omega) (by omega)) ?_
    obtain ⟨u55, u56, hr57, hr58, hl59⟩ := nm_node (hx.at (z := (k4 : Int)) (by omega) (by omega)) (j := k4) rfl
    have hm60 := hr57.max
    have hm61 := hr58.max
    refine qd rfl rfl rfl (hl59 ag44 sz44 rfl (Pins.of_le hX44.pins (Pin.le_trans hle18 hlek41))) ?_
    refine q1 rfl rfl rfl (o_alloc [(.slice none 0 0), (.slice none 0 0)] zr44 rfl hX44.pins (fun b62 w63 hk64 hb65 hp66 hl67 => ?_))
    have hX68 := hX44.step hp66 hl67
    have ho69 := hw45.below hl67
    have hpk70 := hpk46.below hl67 hp66
    have ha71 : Apart (some b62) at_.ownBlock := new_ne_own (congrArg some hk64) hw45.lt
    have ha76 := hpk46.new (x := (some b62)) (fun k hk => by rw [(congrArg some hk64)] at hk; cases hk; exact Nat.le_refl _)
    have hlo77 : w.heap.size ≤ b62 := by have := hX44.size; omega
    refine q0 rfl rfl rfl (o_stp (cs' := [u55, u56]) (us := [u55, u56]) (v := (.agg [u55, u56].toArray)) sz44 rfl rfl rfl (ones2 hr57.one hr58.one) hX68.pins hb65 (Nat.le_of_ble_eq_true rfl) rfl (fun w78 hb79 hp80 hg81 hz82 => ?_))
    have hX83 := hX68.write hp80 hg81 ((lo_box hlo77))
    have ho84 := ho69.keptA hg81 ha71.symm
    have hpk85 := hpk70.kept hg81 hp80 ha76
    obtain ⟨G86, hle87, hX88, hbp89, hf90⟩ := hb79.shut hX83 hlo77
    have ho91 := ho84.moreA hle87 hf90 ha71.symm
    have hpk92 := hpk85.more hle87 hf90 ha76
    refine qe ?_
    refine s_then ?_
    refine c_draw (S := fun wz => Pins G86 wz) (last := 14) (by kernel_rfl) rfl ?_
    have hl93 : Below w78.heap.size w78 w78.drew := (Below.refl _ _).drew
    have hp94 := hX88.pins.below hl93
    have hX95 := hX88.step hp94 hl93
    have ho96 := ho91.below hl93
    have hpk97 := hpk92.below hl93 hp94
    refine dr_take (i := 0) rfl rfl rfl (want_none rfl _) (by kernel_rfl) (fun _ _ => r_move (v := at_) rfl) hX95.pins ?_
    refine dr_take (i := 1) rfl rfl rfl (want_none rfl _) (by kernel_rfl) (fun _ _ => r_move (v := (.pointer (some ⟨p, 0, none⟩))) rfl) hX95.pins ?_
    refine dr_take (i := 2) rfl rfl rfl (want_none rfl _) (by kernel_rfl) (fun _ _ => r_fldp (k := 0) rfl Tryd.underlying44 rfl nz37 rfl) hX95.pins ?_
    refine dr_take (i := 3) rfl rfl rfl (want_none rfl _) (by kernel_rfl) (fun _ hS => r_ldp1 (u := u55) ag37 rfl (hS _ _ _ (hbp89 0 _ rfl))) hX95.pins ?_
    refine dr_take (i := 4) rfl rfl rfl (want_none rfl _) (by kernel_rfl) (fun _ _ => r_move (v := at_) rfl) hX95.pins ?_
    refine dr_take (i := 6) rfl rfl rfl (want_none rfl _) (by kernel_rfl) (fun _ _ => r_fldp (k := 1) rfl Tryd.underlying44 rfl nz37 rfl) hX95.pins ?_
    refine dr_take (i := 7) rfl rfl rfl (want_none rfl _) (by kernel_rfl) (fun _ hS => r_ldp1 (u := u56) ag37 rfl (hS _ _ _ (hbp89 1 _ rfl))) hX95.pins ?_
    refine dr_take (i := 8) rfl rfl rfl (want_none rfl _) (by kernel_rfl) (fun _ _ => r_move (v := at_) rfl) hX95.pins ?_
    refine dr_one (i := 5) (by kernel_rfl) (drOp1 (i := 5) rfl rfl rfl (want_none rfl _) (o_call (vs := [u55, at_]) Tryd.func57 nm57 rfl rfl rfl ?_))
    refine Calls.mono (renamed_spec (Gadd.pins hX95.pins at_) ((hr57.mono (Pin.le_trans (Pin.le_trans hle18 hlek41) hle87)).mono (Gadd.le _ _ _)) ho96.read (by omega) (fun i hi => by have h7 := oo.1 _ (getD_mem (d := (0 : Int)) hi); omega)) ?_
    rintro _ w100 ⟨u98, G99, rfl, ho101, hx102⟩
    refine ⟨_, rfl, ?_⟩
    have hx103 := deep_back hX95.pins hx102
    have ho104 := ho101.anti flat_int (Pin.le_trans (Gadd.le G86 w78.drew at_) hx102.le)
    have hX105 := hX95.step hx103.pins hx103.below
    have ho106 := ho96.below hx103.below
    have hpk107 := hpk97.below hx103.below hx103.pins
    have ha108 : Apart u98.ownBlock at_.ownBlock := made_ne_own ho104.lt ho96.lt
    have ha109 := hpk97.new (x := u98.ownBlock) (fun k hk => (ho104.lt k hk).1)
    have ho110 : Own eInt 3 G86 w100 w.heap.size u98 (atL ats ((fs.getD k4 default).l)) := ho104.weaken hX95.size
    have hm111 : (atL ats ((fs.getD k4 default).l)).length = ((fs.getD k4 default).l).length := at_length
    refine ⟨fun _ => hX105.pins, ?_⟩
    refine dr_one (i := 9) (by kernel_rfl) (drOp1 (i := 9) rfl rfl rfl (want_none rfl _) (o_call (vs := [u56, at_]) Tryd.func57 nm57 rfl rfl rfl ?_))
    refine Calls.mono (renamed_spec (Gadd.pins hX105.pins at_) ((hr58.mono (Pin.le_trans (Pin.le_trans hle18 hlek41) hle87)).mono (Gadd.le _ _ _)) ho106.read (by omega) (fun i hi => by have h7 := oo.2 _ (getD_mem (d := (0 : Int)) hi); omega)) ?_
    rintro _ w114 ⟨u112, G113, rfl, ho115, hx116⟩
    refine ⟨_, rfl, ?_⟩
    have hx117 := deep_back hX105.pins hx116
    have ho118 := ho115.anti flat_int (Pin.le_trans (Gadd.le G86 w100 at_) hx116.le)
    have hX119 := hX105.step hx117.pins hx117.below
    have ho120 := ho106.below hx117.below
    have ho121 := ho110.below hx117.below
    have hpk122 := hpk107.below hx117.below hx117.pins
    have ha123 : Apart u112.ownBlock at_.ownBlock := made_ne_own ho118.lt ho106.lt
    have ha124 : Apart u112.ownBlock u98.ownBlock := made_ne_own ho118.lt ho110.lt
    have ha125 := hpk107.new (x := u112.ownBlock) (fun k hk => (ho118.lt k hk).1)
    have ho126 : Own eInt 3 G86 w114 w.heap.size u112 (atL ats ((fs.getD k4 default).r)) := ho118.weaken hX105.size
    have hm127 : (atL ats ((fs.getD k4 default).r)).length = ((fs.getD k4 default).r).length := at_length
    refine ⟨fun _ => hX119.pins, ?_⟩
    obtain ⟨G128, hle131, hX130, hr129, hf132⟩ := ho121.sealed hX119
    have ho133 := ho120.moreO hle131 hf132 ha108.symm
    have ho134 := ho126.moreO hle131 hf132 ha124
    have hpk135 := hpk122.moreO hle131 hf132 ha109
    obtain ⟨G136, hle139, hX138, hr137, hf140⟩ := ho134.sealed hX130
    have ho141 := ho133.moreO hle139 hf140 ha123.symm
    have hpk142 := hpk135.moreO hle139 hf140 ha125
    refine dr_one (i := 10) (by kernel_rfl) (drOp1 (i := 10) rfl rfl rfl (want_none rfl _) (o_call (vs := [(.pointer (some ⟨p, 0, none⟩)), u98, u112]) Tryd.func42 nm42 rfl rfl rfl ?_))
    refine Calls.mono (node_spec hX138.pins hpk142 hok48 (hr129.mono hle139) hr137 (by omega) ⟨by rw [at_length]; omega, by rw [at_length]; omega⟩ (hld.opt oo.1) (hld.opt oo.2)) ?_
    rintro _ w153 ⟨z143, L148, R149, B150, q151, G152, rfl, hpk154, hok155, hpx156, hlo157, hx158, hpl144, hpd145, hqn146, hcm147⟩
    refine ⟨_, rfl, ?_⟩
    have hX159 := hX138.trans hx158 hpin47
    have ho160 := ho141.extS hx158 hnp50
    have hnp161 := NP.call hnp50 hlo157 (own_lt ho141)
    have hpin162 := PIn.call hpin47 hlo157 hX138.size
    have hql163 := hpx156.len
    have hml164 : (q151.ns.map Nd.l).length = q151.ns.length ∧ (q151.ns.map Nd.r).length = q151.ns.length := ⟨List.length_map .., List.length_map ..⟩
    have hml165 : q151.bs.length = q151.ns.length ∧ q151.ns.length ≤ 1048576 := ⟨hok155.ar.ok.len, hok155.ar.ok.lim⟩
    refine ⟨fun _ => (Pins.of_le hX159.pins (Pin.le_trans (Pin.le_trans hle131 hle139) hx158.le)), ?_⟩
    refine dr_one (i := 11) (by kernel_rfl) (drOp1 (i := 11) rfl rfl rfl (want_none rfl _) (o_buildF (E := eInt) (e := 3) [(.int .i64 z143)] [z143] Tryd.underlying37 sz3 zr3 (by exact reps1 (by rfl)) (ones1 (by rfl)) rfl rfl rfl rfl (by decide) hX159.pins (fun u166 w167 ho168 hp169 hl170 hk171 => ?_)))
    have hX172 := hX159.step hp169 hl170
    have ho173 := ho160.below hl170
    have hpk174 := hpk154.below hl170 hp169
    have ha175 : Apart u166.ownBlock at_.ownBlock := new_ne_own hk171 ho160.lt
    have ho181 : Own eInt 3 G152 w167 w.heap.size u166 ([z143]) := ho168.weaken hX159.size
    refine ⟨fun _ => (Pins.of_le hX172.pins (Pin.le_trans (Pin.le_trans hle131 hle139) hx158.le)), ?_⟩
    refine dr_one (i := 12) (by kernel_rfl) (drOp1 (i := 12) rfl rfl rfl (want_none rfl _) (o_append (E := eInt) (v := at_) (u := u166) 8 Tryd.underlying37 ap3 (by decide) rfl rfl hX172.pins ho173 ho181.src (by first | omega | (rw [List.nil_append]; omega) | (rw [List.length_nil]; omega) | (rw [List.length_append]; omega) | (simp; done) | (simp; omega) | (simp only [List.length_append, List.length_cons, List.length_nil]; omega)) (by first | omega | (rw [List.nil_append]; omega) | (rw [List.length_nil]; omega) | (rw [List.length_append]; omega) | (simp; done) | (simp; omega) | (simp only [List.length_append, List.length_cons, List.length_nil]; omega)) (hX172.size) (fun u182 w183 ho184 hp185 hg186 hw187 => ?_)))
    have hX188 := hX172.write hp185 hg186 ((lo_own ho173))
    have hpk190 := hpk174.kept hg186 hp185 hnp161
    have ha191 : Apart u166.ownBlock u182.ownBlock := app_ne_own ha175 hw187 ho181.lt
    have hnp192 := np_app hnp161 hpk174 hw187
    have hm193 : (ats ++ ([z143])).length = ats.length + 1 := List.length_append
    refine ⟨fun _ => (Pins.of_le hX188.pins (Pin.le_trans (Pin.le_trans hle131 hle139) hx158.le)), ?_⟩
    refine dr_take (i := 13) rfl rfl rfl (want_none rfl _) (by kernel_rfl) (fun _ _ => r_assign (v := u182) rfl) (Pins.of_le hX188.pins (Pin.le_trans (Pin.le_trans hle131 hle139) hx158.le)) ?_
    refine dr_end (by kernel_rfl) ?_
    refine s_blkN ?_
    refine s_then ?_
    refine c_reg ?_
    refine qd rfl rfl rfl (r_add rfl rfl (by omega)) ?_
    refine qd rfl rfl rfl (r_move (v := (.int .i64 ((k4 : Int) + 1))) rfl) ?_
    refine qe ?_
    refine s_lopN ?_
    refine ⟨_, ?_, _, rfl, _, k4 + 1, u182, ats ++ ([z143]), L148, R149, B150, q151, G152, (packS (x := 15) (packS (x := 14) (packS (x := 13) (packS (x := 5) (packS (x := 4) (pack1 (x := 0) rfl) rfl) rfl) rfl) rfl) rfl), rfl, hX188, (Pin.le_trans (Pin.le_trans (Pin.le_trans (Pin.le_trans hlek41 hle87) hle131) hle139) hx158.le), (by omega), (hld.step hf (by omega) hok48 hok155 hpx156 hpl144 hpd145 hqn146), ho184, hpk190, hpin162, hok155, (PX.trans hpx49 hpx156), hnp192⟩
    omega
  refine wp_exit ?_
  refine s_thenE ?_
  refine s_lopE ?_
  refine s_blkE ?_
  refine s_then ?_
  refine s_seq ?_
  refine c_reg ?_
  refine qd rfl rfl rfl (r_move (v := at_) rfl) ?_
  refine qd rfl rfl rfl (r_assign (v := at_) rfl) ?_
  refine qe ?_
  refine s_then ?_
  refine wp_ret ?_
  refine s_ret ?_
  refine c_ret1 (v := at_) rfl rfl rfl ?_
  have hkf : k4 = fs.length := by omega
  rw [hkf] at hld
  exact ⟨at_, ats, L37, R38, B39, q40, GL1, rfl, hpk46, hok48, hpx49, PIn.lo hpin47 rfl, hX44, hw45, hnp50, hld⟩

theorem root_spec {w : World} {G : Pin} {p : Nat} {L R B : Value} {mm : PM} {q : PSt} (hP : Pins G w) (hpk : Pk 37 3 G w p L R B mm q) (hok : PoolOk q) {x : Value} {fs : List Nd} (hx : RSl eNode G x fs) (hf : FormOk fs) (hl : q.ns.length + fs.length ≤ 1048576) (hf1 : 1 ≤ fs.length) :
    Calls Tryd.prog 18 [(.pointer (some ⟨p, 0, none⟩)), (.agg [x].toArray)].toArray w fun e w' => ∃ (z : Int) (L' R' B' : Value) (q' : PSt) (G' : Pin), e = .returned (.int .i64 z) ∧ Pk 37 3 G' w' p L' R' B' mm q' ∧ PoolOk q' ∧ PX q q' ∧ PLo w p L R B mm L' R' B' ∧ Ext (inP p L R B mm) G w G' w' ∧ PlaceOk q' z ∧ pd q' z = gOf fs ∧ q'.ns.length ≤ q.ns.length + fs.length := by
  refine s_enter (n := 15) Tryd.func18 Tryd.ntmps18 rfl rfl ?_
  have hX0 : Ext (inP p L R B mm) G w G w := Ext.refl hP
  have hpin : PIn w (inP p L R B mm) p L R B mm := PIn.self
  have hml1 : (q.ns.map Nd.l).length = q.ns.length ∧ (q.ns.map Nd.r).length = q.ns.length := ⟨List.length_map .., List.length_map ..⟩
  have hml2 : q.bs.length = q.ns.length ∧ q.ns.length ≤ 1048576 := ⟨hok.ar.ok.len, hok.ar.ok.lim⟩
  have hfl := hf.len
  refine s_seq ?_
  refine c_reg ?_
  refine q1 rfl rfl rfl (o_box [x] (v := (.agg [x].toArray)) rfl rfl hX0.pins (fun b3 w4 hk5 hb6 hp7 hl8 => ?_))
  have hX9 := hX0.step hp7 hl8
  have hpk10 := hpk.below hl8 hp7
  have ha15 := hpk.new (x := (some b3)) (fun k hk => by rw [(congrArg some hk5)] at hk; cases hk; exact Nat.le_refl _)
  have hlo16 : w.heap.size ≤ b3 := by have := hX0.size; omega
  obtain ⟨G17, hle18, hX19, hbp20, hf21⟩ := hb6.shut hX9 hlo16
  have hpk22 := hpk10.more hle18 hf21 ha15
  refine qd rfl rfl rfl (r_assign (v := (.int .i64 0)) rfl) ?_
  refine qe ?_
  refine s_then ?_
  refine s_seq ?_
  refine c_reg ?_
  refine qd rfl rfl rfl (r_move (v := (.pointer (some ⟨p, 0, none⟩))) rfl) ?_
  refine qd rfl rfl rfl (r_ldpA (cs := [x]) ag30 sz30 rfl (fun j u hj => hX19.pins _ _ _ (hbp20 _ _ (by simpa using hj)))) ?_
  refine q1 rfl rfl rfl (o_call (vs := [(.pointer (some ⟨p, 0, none⟩)), (.agg [x].toArray)]) Tryd.func41 nm41 rfl rfl rfl ?_)
  refine Calls.mono (load_spec hX19.pins hpk22 hok (hx.mono hle18) hf hl) ?_
  rintro _ w29 ⟨u23, ats, L24, R25, B26, q27, G28, rfl, hpk31, hok32, hpx33, hlo34, hx35, ho30, hnp37, hld36⟩
  refine ⟨_, rfl, ?_⟩
  have hX38 := hX19.trans hx35 hpin
  have hpin39 := PIn.call hpin hlo34 hX19.size
  have hql40 := hpx33.len
  have hml41 : (q27.ns.map Nd.l).length = q27.ns.length ∧ (q27.ns.map Nd.r).length = q27.ns.length := ⟨List.length_map .., List.length_map ..⟩
  have hml42 : q27.bs.length = q27.ns.length ∧ q27.ns.length ≤ 1048576 := ⟨hok32.ar.ok.len, hok32.ar.ok.lim⟩
  have ho43 := ho30.weaken hX19.size
  have hll44 := hld36.len
  refine qd rfl rfl rfl (r_assign (v := u23) rfl) ?_
  refine qe ?_
  refine s_then ?_
  refine s_seq ?_
  refine c_reg ?_
  refine qd rfl rfl rfl (r_move (v := u23) rfl) ?_
  refine qd rfl rfl rfl (r_move (v := u23) rfl) ?_
  refine qd rfl rfl rfl (run_len Tryd.underlying37 (v := u23) rfl ho43.read) ?_
  refine qd rfl rfl rfl (r_sub rfl rfl (by omega)) ?_
  refine qd rfl rfl rfl (run_idx Tryd.underlying37 sz3 (v := u23) rfl rfl ho43.read (by omega) (by omega)) ?_
  refine qd rfl rfl rfl (run_load_int (r := ats.getD ((ats.length : Int) - 1).toNat 0) rfl ag3 (z := ((ats.length : Int) - 1)) rfl ho43.read (Gadd.pins hX38.pins u23) (by omega) (by omega)) ?_
  refine qd rfl rfl rfl (r_assign (v := (.int .i64 (ats.getD ((ats.length : Int) - 1).toNat 0))) rfl) ?_
  refine qe ?_
  refine s_then ?_
  refine wp_ret ?_
  refine s_ret ?_
  refine c_ret1 (v := (.int .i64 (ats.getD ((ats.length : Int) - 1).toNat 0))) rfl rfl rfl ?_
  have hrt := hld36.root hf1
  rw [show fs.length - 1 = ((ats.length : Int) - 1).toNat by omega] at hrt
  exact ⟨_, L24, R25, B26, q27, G28, rfl, hpk31, hok32, hpx33, PIn.lo hpin39 rfl, hX38, hrt.1, hrt.2, hld36.hi⟩

/-- What ge answers for pairs below m. -/
def GeP (m : Nat) (p : Nat) (L R B : Value) (mm : PM) : Prop := ∀ {w : World} {G : Pin} {q : PSt} {a b : Int} (_ : Pins G w) (_ : Pk 37 3 G w p L R B mm q) (_ : PoolOk q) (_ : PlaceOk q a) (_ : PlaceOk q b), a.toNat + b.toNat < m →
    Calls Tryd.prog 69 [(.pointer (some ⟨p, 0, none⟩)), (.int .i64 a), (.int .i64 b)].toArray w fun e w' => ∃ (q' : PSt) (G' : Pin), e = .returned (.bool (geB q.ns a b)) ∧ Pk 37 3 G' w' p L R B mm q' ∧ PoolOk q' ∧ PX q q' ∧ (q'.ns = q.ns ∧ q'.bs = q.bs) ∧ Ext (inO (some mm.o)) G w G' w'

theorem ge_step {p : Nat} {L R B : Value} {mm : PM} {m : Nat} {w : World} {G : Pin} {q : PSt} {a b : Int} (hP : Pins G w) (hpk : Pk 37 3 G w p L R B mm q) (hok : PoolOk q) (ha : PlaceOk q a) (hb : PlaceOk q b) (ih : GeP m p L R B mm) (hm : a.toNat + b.toNat < m + 1) :
    Calls Tryd.prog 69 [(.pointer (some ⟨p, 0, none⟩)), (.int .i64 a), (.int .i64 b)].toArray w fun e w' => ∃ (q' : PSt) (G' : Pin), e = .returned (.bool (geB q.ns a b)) ∧ Pk 37 3 G' w' p L R B mm q' ∧ PoolOk q' ∧ PX q q' ∧ (q'.ns = q.ns ∧ q'.bs = q.bs) ∧ Ext (inO (some mm.o)) G w G' w' := by
  refine s_enter (n := 74) Tryd.func69 Tryd.ntmps69 rfl rfl ?_
  have hX0 : Ext (inO (some mm.o)) G w G w := Ext.refl hP
  have hpin : PIn w (inP p L R B mm) p L R B mm := PIn.self
  have hml1 : (q.ns.map Nd.l).length = q.ns.length ∧ (q.ns.map Nd.r).length = q.ns.length := ⟨List.length_map .., List.length_map ..⟩
  have hml2 : q.bs.length = q.ns.length ∧ q.ns.length ≤ 1048576 := ⟨hok.ar.ok.len, hok.ar.ok.lim⟩
  have ha0 := ha.1
  have ha1 := ha.2
  have hb0 := hb.1
  have hb1 := hb.2
  refine s_seq ?_
  refine c_reg ?_
  refine qd rfl rfl rfl (r_assign (v := (.bool false)) rfl) ?_
  refine qe ?_
  refine s_then ?_
  refine s_seq ?_
  refine s_seq ?_
  refine c_reg ?_
  refine qd rfl rfl rfl (r_move (v := (.int .i64 a)) rfl) ?_
  refine qd rfl rfl rfl (r_move (v := (.int .i64 b)) rfl) ?_
  refine qd rfl rfl rfl (r_eql rfl rfl) ?_
  refine qe ?_
  refine s_then ?_
  refine c_ifd (p := (a : Int) = b) rfl rfl (fun h3 => ?_) (fun h3 => ?_)
  · skip
    refine s_seq ?_
    refine c_reg ?_
    refine qd rfl rfl rfl (r_assign (v := (.bool true)) rfl) ?_
    refine qe ?_
    refine s_then ?_
    refine wp_ret ?_
    refine s_ret ?_
    refine c_ret1 (v := (.bool true)) rfl rfl rfl ?_
    exact ⟨q, _, congrArg (fun z => Ending.returned (Value.bool z)) (by rw [h3]; exact geB_refl.symm), hpk, hok, (PX.refl _), ⟨rfl, rfl⟩, hX0⟩
  refine wp_skip ?_
  refine s_then ?_
  refine s_seq ?_
  refine c_reg ?_
  refine qd rfl rfl rfl (r_move (v := (.int .i64 a)) rfl) ?_
  refine qd rfl rfl rfl (r_move (v := (.int .i64 b)) rfl) ?_
  refine qd rfl rfl rfl (r_buildA (m := 1) [(.int .i64 0), (.int .i64 0)] [(.int .i64 a), (.int .i64 b)] [(0, (.int .i64 a), [(.int .i64 a)]), (1, (.int .i64 b), [(.int .i64 b)])] Tryd.underlying101 zr101 rfl sz3 rfl (List.forall_mem_cons.2 ⟨rfl, (List.forall_mem_cons.2 ⟨rfl, (fun _ h => by cases h)⟩)⟩) rfl) ?_
  refine q1 rfl rfl rfl (o_alloc [(.int .i64 0), (.int .i64 0)] zr101 rfl hX0.pins (fun b4 w5 hk6 hb7 hp8 hl9 => ?_))
  have hX10 := hX0.step hp8 hl9
  have hpk11 := hpk.below hl9 hp8
  have ha16 := hpk.new (x := (some b4)) (fun k hk => by rw [(congrArg some hk6)] at hk; cases hk; exact Nat.le_refl _)
  have hlo17 : w.heap.size ≤ b4 := by have := hX0.size; omega
  refine q0 rfl rfl rfl (o_stp (cs' := [(.int .i64 a), (.int .i64 b)]) (us := [(.int .i64 a), (.int .i64 b)]) (v := (.agg [(.int .i64 a), (.int .i64 b)].toArray)) sz101 rfl rfl rfl (ones2 (by rfl) (by rfl)) hX10.pins hb7 (Nat.le_of_ble_eq_true rfl) rfl (fun w18 hb19 hp20 hg21 hz22 => ?_))
  have hX23 := hX10.write hp20 hg21 ((lo_box hlo17))
  have hpk24 := hpk11.kept hg21 hp20 ha16
  obtain ⟨G25, hle26, hX27, hbp28, hf29⟩ := hb19.shut hX23 hlo17
  have hpk30 := hpk24.more hle26 hf29 ha16
  refine qe ?_
  refine s_then ?_
  refine s_seq ?_
  refine s_seq ?_
  refine c_draw (S := fun wz => BxR wz p [L, R, B, (.map (some mm.f)), (.map (some mm.o)), (.map (some mm.c)), (.map (some mm.s)), (.map (some mm.n))] ∧ Pins G25 wz) (last := 11) (by kernel_rfl) rfl ?_
  have hl31 : Below w18.heap.size w18 w18.drew := (Below.refl _ _).drew
  have hp32 := hX27.pins.below hl31
  have hX33 := hX27.step hp32 hl31
  have hpk34 := hpk30.below hl31 hp32
  refine dr_take (i := 0) rfl rfl rfl (want_none rfl _) (by kernel_rfl) (fun _ _ => r_move (v := (.pointer (some ⟨p, 0, none⟩))) rfl) ⟨hpk34.bx.reads, hX33.pins⟩ ?_
  refine dr_take (i := 1) rfl rfl rfl (want_none rfl _) (by kernel_rfl) (fun _ _ => r_nil rfl) ⟨hpk34.bx.reads, hX33.pins⟩ ?_
  refine dr_take (i := 2) rfl rfl rfl (want_none rfl _) (by kernel_rfl) (fun _ _ => r_fldp (k := 4) rfl Tryd.underlying79 rfl nz74 rfl) ⟨hpk34.bx.reads, hX33.pins⟩ ?_
  refine dr_take (i := 3) rfl rfl rfl (want_none rfl _) (by kernel_rfl) (fun _ hS => r_ldp1 (u := (.map (some mm.o))) ag74 rfl (hS.1 4 _ rfl)) ⟨hpk34.bx.reads, hX33.pins⟩ ?_
  refine dr_take (i := 4) rfl rfl rfl (want_none rfl _) (by kernel_rfl) (fun _ hS => r_ldpA (cs := [(.int .i64 a), (.int .i64 b)]) ag101 sz101 rfl (fun j u hj => hS.2 _ _ _ (hbp28 _ _ (by simpa using hj)))) ⟨hpk34.bx.reads, hX33.pins⟩ ?_
  refine dr_one (i := 5) (by kernel_rfl) (drOp1 (i := 5) rfl rfl rfl (want_none rfl _) (EO.run (run_lookv_bool (k := ((a, b) : Int × Int)) (key_pair Tryd.underlying101 Tryd.underlying3 sz3) Tryd.underlying74 zr4 hpk34.fo rfl rfl) ?_))
  refine ⟨fun _ => ⟨hpk34.bx.reads, hX33.pins⟩, ?_⟩
  refine dr_take (i := 6) rfl rfl rfl (want_none rfl _) (by kernel_rfl) (fun _ _ => r_move (v := (.tuple #[(.bool ((Go.GL.look q.om ((a, b) : Int × Int)).getD false)), (.bool ((Go.GL.look q.om ((a, b) : Int × Int)).isSome))])) rfl) ⟨hpk34.bx.reads, hX33.pins⟩ ?_
  refine dr_take (i := 7) rfl rfl rfl (want_none rfl _) (by kernel_rfl) (fun _ _ => r_extract (v := (.bool ((Go.GL.look q.om ((a, b) : Int × Int)).getD false))) rfl rfl) ⟨hpk34.bx.reads, hX33.pins⟩ ?_
  refine dr_take (i := 8) rfl rfl rfl (want_none rfl _) (by kernel_rfl) (fun _ _ => r_extract (v := (.bool ((Go.GL.look q.om ((a, b) : Int × Int)).isSome))) rfl rfl) ⟨hpk34.bx.reads, hX33.pins⟩ ?_
  refine dr_take (i := 9) rfl rfl rfl (want_none rfl _) (by kernel_rfl) (fun _ _ => r_assign (v := (.bool ((Go.GL.look q.om ((a, b) : Int × Int)).getD false))) rfl) ⟨hpk34.bx.reads, hX33.pins⟩ ?_
  refine dr_take (i := 10) rfl rfl rfl (want_none rfl _) (by kernel_rfl) (fun _ _ => r_assign (v := (.bool ((Go.GL.look q.om ((a, b) : Int × Int)).isSome))) rfl) ⟨hpk34.bx.reads, hX33.pins⟩ ?_
  refine dr_end (by kernel_rfl) ?_
  refine s_then ?_
  refine s_seq ?_
  refine c_reg ?_
  refine qd rfl rfl rfl (r_move (v := (.bool ((Go.GL.look q.om ((a, b) : Int × Int)).isSome))) rfl) ?_
  refine qe ?_
  refine s_then ?_
  refine c_if rfl rfl (fun h35 => ?_) (fun h35 => ?_)
  · skip
    refine s_seq ?_
    refine c_reg ?_
    refine qd rfl rfl rfl (r_move (v := (.bool ((Go.GL.look q.om ((a, b) : Int × Int)).getD false))) rfl) ?_
    refine qd rfl rfl rfl (r_assign (v := (.bool ((Go.GL.look q.om ((a, b) : Int × Int)).getD false))) rfl) ?_
    refine qe ?_
    refine s_then ?_
    refine wp_ret ?_
    refine s_ret ?_
    refine c_ret1 (v := (.bool ((Go.GL.look q.om ((a, b) : Int × Int)).getD false))) rfl rfl rfl ?_
    obtain ⟨z, hz⟩ := Option.isSome_iff_exists.1 h35
    exact ⟨q, _, congrArg (fun z => Ending.returned (Value.bool z)) (by rw [hz]; exact (hok.ord _ _ _ hz).2.2), hpk34, hok, (PX.refl _), ⟨rfl, rfl⟩, hX33⟩
  refine wp_skip ?_
  refine s_then ?_
  refine s_seq ?_
  refine c_reg ?_
  refine qd rfl rfl rfl (r_assign (v := (.bool true)) rfl) ?_
  refine qe ?_
  refine s_then ?_
  refine s_seq ?_
  refine s_seq ?_
  refine c_reg ?_
  refine qd rfl rfl rfl (r_move (v := (.pointer (some ⟨p, 0, none⟩))) rfl) ?_
  refine qd rfl rfl rfl (r_nil rfl) ?_
  refine qd rfl rfl rfl (r_fldp (k := 1) rfl Tryd.underlying79 rfl nz77 rfl) ?_
  refine qd rfl rfl rfl (r_ldp1 (u := R) ag77 rfl (hpk34.bx.cell (o := 1) rfl)) ?_
  refine qd rfl rfl rfl (r_move (v := (.int .i64 a)) rfl) ?_
  refine qd rfl rfl rfl (run_idx Tryd.underlying77 sz37 (v := R) rfl rfl hpk34.rr.read (by omega) (by omega)) ?_
  obtain ⟨u36, hr37, hl38⟩ := nm_sl (hpk34.rr.at (z := a) (by omega) (by omega)) (j := (a).toNat) rfl
  rw [mapr_getD] at hr37
  have hm39 := hr37.max
  refine qd rfl rfl rfl (hl38 ag37 rfl (Gadd.pins hX33.pins R)) ?_
  refine qd rfl rfl rfl (run_len Tryd.underlying37 (v := u36) rfl hr37) ?_
  refine qd rfl rfl rfl (r_move (v := (.int .i64 0)) rfl) ?_
  refine qe ?_
  refine s_then ?_
  refine s_blk ?_
  have lx44 : (q.ns.getD (a).toNat default).r = (q.ns.getD (a).toNat default).r := rfl
  refine s_loop (fun (k : Nat) (en : Nat → Value) (W : World) => ∃ (env1 : Nat → Value) (i : Nat) (q43 : PSt) (GLr : Pin), en = (upd (upd (upd (upd (upd (upd (upd (upd (upd env1 0 (.pointer (some ⟨p, 0, none⟩))) 1 (.int .i64 a)) 2 (.int .i64 b)) 6 (.bool false)) 7 (.pointer (some ⟨b4, 0, none⟩))) 10 (.bool true)) 38 u36) 39 (.int .i64 (((q.ns.getD (a).toNat default).r).length : Int))) 40 (.int .i64 (i : Int))) ∧ k = (q.ns.getD (a).toNat default).r.length - i ∧ Ext (inO (some mm.o)) G w GLr W ∧ Pin.le G25 GLr ∧ (i ≤ (q.ns.getD (a).toNat default).r.length) ∧ (∀ x, x < i → geB q.ns b ((q.ns.getD (a).toNat default).r.getD x 0) = false) ∧ (Pk 37 3 GLr W p L R B mm q43) ∧ (PoolOk q43) ∧ (PX q q43) ∧ (q43.ns = q.ns ∧ q43.bs = q.bs)) _ ⟨_, 0, q, G25, (packS (x := 40) (packS (x := 39) (packS (x := 38) (packS (x := 10) (packS (x := 7) (packS (x := 6) (packS (x := 2) (packS (x := 1) (pack1 (x := 0) rfl) rfl) rfl) rfl) rfl) rfl) rfl) rfl) rfl), rfl, hX33, Pin.le_refl _, Nat.zero_le _, (fun q hq => absurd hq (Nat.not_lt_zero q)), hpk34, hok, (PX.refl _), ⟨rfl, rfl⟩⟩ ?_
  rintro k45 _ w46 ⟨env1, i, q43, GLr, rfl, hk47, hX48, hlek45, hji, hpr, hpk49, hok50, hpx51, hqn52⟩
  have hql53 := hpx51.len
  have hml54 : (q43.ns.map Nd.l).length = q43.ns.length ∧ (q43.ns.map Nd.r).length = q43.ns.length := ⟨List.length_map .., List.length_map ..⟩
  have hml55 : q43.bs.length = q43.ns.length ∧ q43.ns.length ≤ 1048576 := ⟨hok50.ar.ok.len, hok50.ar.ok.lim⟩
  have hlnr := congrArg List.length lx44
  refine s_seq ?_
  refine c_reg ?_
  refine qd rfl rfl rfl (r_lss rfl rfl) ?_
  refine qe ?_
  refine s_then ?_
  refine s_seq ?_
  refine c_ifd (p := ((i : Int) : Int) < (((q.ns.getD (a).toNat default).r).length : Int)) rfl rfl (fun h56 => ?_) (fun h56 => ?_)
  · skip
    have hki := (optsAt hok.ar.opts (show (a).toNat < q.ns.length by omega)).2 _ (getD_mem (d := (0 : Int)) (show i < (q.ns.getD (a).toNat default).r.length by omega))
    rw [← lx44] at hki
    refine wp_skip ?_
    refine s_then ?_
    refine s_seq ?_
    refine s_blk ?_
    refine s_seq ?_
    refine c_reg ?_
    refine qd rfl rfl rfl (run_idx Tryd.underlying37 sz3 (v := u36) rfl rfl hr37 (by omega) (by omega)) ?_
    refine qd rfl rfl rfl (run_load_int (r := ((q.ns.getD (a).toNat default).r).getD i 0) rfl ag3 (z := (i : Int)) rfl hr37 (Pins.of_le hX48.pins hlek45) (by omega) (by omega)) ?_
    refine qd rfl rfl rfl (r_assign (v := (.int .i64 (((q.ns.getD (a).toNat default).r).getD i 0))) rfl) ?_
    refine qe ?_
    refine s_then ?_
    refine s_seq ?_
    refine c_reg ?_
    refine qd rfl rfl rfl (r_move (v := (.pointer (some ⟨p, 0, none⟩))) rfl) ?_
    refine qd rfl rfl rfl (r_move (v := (.int .i64 b)) rfl) ?_
    refine qd rfl rfl rfl (r_move (v := (.int .i64 (((q.ns.getD (a).toNat default).r).getD i 0))) rfl) ?_
    refine q1 rfl rfl rfl (o_call (vs := [(.pointer (some ⟨p, 0, none⟩)), (.int .i64 b), (.int .i64 (((q.ns.getD (a).toNat default).r).getD i 0))]) Tryd.func69 nm69 rfl rfl rfl ?_)
    refine Calls.mono (ih hX48.pins hpk49 hok50 ⟨by omega, by omega⟩ ⟨by omega, by omega⟩ (by omega)) ?_
    rintro _ w59 ⟨q57, G58, rfl, hpk60, hok61, hpx62, hqn63, hx64⟩
    refine ⟨_, rfl, ?_⟩
    have hX65 := hX48.trans hx64 (fun i hi => lo_self i hi)
    have hql66 := hpx62.len
    have hml67 : (q57.ns.map Nd.l).length = q57.ns.length ∧ (q57.ns.map Nd.r).length = q57.ns.length := ⟨List.length_map .., List.length_map ..⟩
    have hml68 : q57.bs.length = q57.ns.length ∧ q57.ns.length ≤ 1048576 := ⟨hok61.ar.ok.len, hok61.ar.ok.lim⟩
    have hql69 := congrArg List.length hqn63.1
    refine qe ?_
    refine s_then ?_
    refine c_if rfl rfl (fun h70 => ?_) (fun h70 => ?_)
    · skip
      refine s_seq ?_
      refine c_reg ?_
      refine qd rfl rfl rfl (r_assign (v := (.bool false)) rfl) ?_
      refine qe ?_
      refine s_then ?_
      refine wp_exit ?_
      refine s_blkO rfl ?_
      refine s_thenE ?_
      refine s_lopE ?_
      refine s_blkE ?_
      refine s_then ?_
      refine s_seq ?_
      refine s_seq ?_
      refine c_reg ?_
      refine qd rfl rfl rfl (r_move (v := (.bool false)) rfl) ?_
      refine qe ?_
      refine s_then ?_
      refine c_ifF rfl rfl ?_
      refine wp_skip ?_
      refine s_then ?_
      refine s_seq ?_
      refine c_draw (S := fun wz => BxR wz p [L, R, B, (.map (some mm.f)), (.map (some mm.o)), (.map (some mm.c)), (.map (some mm.s)), (.map (some mm.n))] ∧ Pins G58 wz) (last := 6) (by kernel_rfl) rfl ?_
      have hl71 : Below w59.heap.size w59 w59.drew := (Below.refl _ _).drew
      have hp72 := hX65.pins.below hl71
      have hX73 := hX65.step hp72 hl71
      have hpk74 := hpk60.below hl71 hp72
      refine dr_take (i := 0) rfl rfl rfl (want_none rfl _) (by kernel_rfl) (fun _ _ => r_move (v := (.pointer (some ⟨p, 0, none⟩))) rfl) ⟨hpk74.bx.reads, hX73.pins⟩ ?_
      refine dr_take (i := 1) rfl rfl rfl (want_none rfl _) (by kernel_rfl) (fun _ _ => r_nil rfl) ⟨hpk74.bx.reads, hX73.pins⟩ ?_
      refine dr_take (i := 2) rfl rfl rfl (want_none rfl _) (by kernel_rfl) (fun _ _ => r_fldp (k := 4) rfl Tryd.underlying79 rfl nz74 rfl) ⟨hpk74.bx.reads, hX73.pins⟩ ?_
      refine dr_take (i := 3) rfl rfl rfl (want_none rfl _) (by kernel_rfl) (fun _ hS => r_ldp1 (u := (.map (some mm.o))) ag74 rfl (hS.1 4 _ rfl)) ⟨hpk74.bx.reads, hX73.pins⟩ ?_
      refine dr_take (i := 4) rfl rfl rfl (want_none rfl _) (by kernel_rfl) (fun _ hS => r_ldpA (cs := [(.int .i64 a), (.int .i64 b)]) ag101 sz101 rfl (fun j u hj => (Pins.of_le hS.2 (Pin.le_trans hlek45 hx64.le)) _ _ _ (hbp28 _ _ (by simpa using hj)))) ⟨hpk74.bx.reads, hX73.pins⟩ ?_
      refine dr_take (i := 5) rfl rfl rfl (want_none rfl _) (by kernel_rfl) (fun _ _ => r_move (v := (.bool false)) rfl) ⟨hpk74.bx.reads, hX73.pins⟩ ?_
      refine dr_one (i := 6) (by kernel_rfl) (drOp0 (i := 6) rfl rfl rfl (want_none rfl _) (o_mapUpdate (val := (fun v : Bool => Value.bool v)) (k := ((a, b) : Int × Int)) (v := false) (key_pair Tryd.underlying101 Tryd.underlying3 sz3) Tryd.underlying74 rfl rfl rfl hX73.pins hpk74.fo (fun w75 hm76 hp77 hg78 hz79 => ?_)))
      have hX81 := hX73.trans (Ext.one hp77 hg78) (fun i hi => lo_self i hi)
      have hpk80 := hpk74.setO (Ext.one hp77 hg78) hm76
      have hgv : geB q.ns a b = false := geB_no_right hok.ar.opts ha (i := i) (by omega) (by rw [← lx44, ← geB_same hqn52]; exact h70)
      have hok84 := PoolOk.setO hok61 (ha.same (ns_trans hqn52 hqn63)) (hb.same (ns_trans hqn52 hqn63)) (setO_ok (ns_trans hqn52 hqn63) hgv)
      obtain ⟨q82, hq83⟩ : ∃ q, q = ({ q57 with om := putE q57.om ((a, b) : Int × Int) false } : PSt) := ⟨_, rfl⟩
      rw [← hq83] at hpk80 hok84
      have hq83n : q82.ns = q57.ns ∧ q82.bs = q57.bs := by rw [hq83]; exact ⟨rfl, rfl⟩
      have hq83x : PX q57 q82 := by rw [hq83]; exact ⟨Nat.le_refl _, fun _ _ => rfl, fun _ h => h⟩
      have hml85 : (q82.ns.map Nd.l).length = q82.ns.length ∧ (q82.ns.map Nd.r).length = q82.ns.length := ⟨List.length_map .., List.length_map ..⟩
      have hml86 : q82.bs.length = q82.ns.length ∧ q82.ns.length ≤ 1048576 := ⟨hok84.ar.ok.len, hok84.ar.ok.lim⟩
      have hql87 := hq83x.len
      refine ⟨fun h => absurd rfl h, ?_⟩
      refine dr_end (by kernel_rfl) ?_
      refine s_then ?_
      refine s_seq ?_
      refine c_reg ?_
      refine qd rfl rfl rfl (r_move (v := (.bool false)) rfl) ?_
      refine qd rfl rfl rfl (r_assign (v := (.bool false)) rfl) ?_
      refine qe ?_
      refine s_then ?_
      refine wp_ret ?_
      refine s_ret ?_
      refine c_ret1 (v := (.bool false)) rfl rfl rfl ?_
      exact ⟨q82, _, congrArg (fun z => Ending.returned (Value.bool z)) (hgv.symm), hpk80, hok84, (PX.trans (PX.trans hpx51 hpx62) hq83x), (ns_trans (ns_trans hqn52 hqn63) hq83n), hX81⟩
    refine wp_skip ?_
    refine s_blkN ?_
    refine s_then ?_
    refine c_reg ?_
    refine qd rfl rfl rfl (r_add rfl rfl (by omega)) ?_
    refine qd rfl rfl rfl (r_move (v := (.int .i64 ((i : Int) + 1))) rfl) ?_
    refine qe ?_
    refine s_lopN ?_
    refine ⟨_, ?_, _, rfl, _, i + 1, q57, G58, (packS (x := 40) (packS (x := 39) (packS (x := 38) (packS (x := 10) (packS (x := 7) (packS (x := 6) (packS (x := 2) (packS (x := 1) (pack1 (x := 0) rfl) rfl) rfl) rfl) rfl) rfl) rfl) rfl) rfl), rfl, hX65, (Pin.le_trans hlek45 hx64.le), (by omega), (fun x h2 => if h3 : x = i then h3 ▸ (by rw [← lx44, ← geB_same hqn52]; exact h70) else hpr x (by omega)), hpk60, hok61, (PX.trans hpx51 hpx62), (ns_trans hqn52 hqn63)⟩
    omega
  refine wp_exit ?_
  refine s_thenE ?_
  refine s_lopE ?_
  refine s_blkE ?_
  refine s_then ?_
  refine s_seq ?_
  refine s_seq ?_
  refine c_reg ?_
  refine qd rfl rfl rfl (r_move (v := (.bool true)) rfl) ?_
  refine qe ?_
  refine s_then ?_
  refine c_ifT rfl rfl ?_
  refine s_seq ?_
  refine c_reg ?_
  refine qd rfl rfl rfl (r_move (v := (.pointer (some ⟨p, 0, none⟩))) rfl) ?_
  refine qd rfl rfl rfl (r_nil rfl) ?_
  refine qd rfl rfl rfl (r_fldp (k := 0) rfl Tryd.underlying79 rfl nz77 rfl) ?_
  refine qd rfl rfl rfl (r_ldp1 (u := L) ag77 rfl (hpk49.bx.cell (o := 0) rfl)) ?_
  refine qd rfl rfl rfl (r_move (v := (.int .i64 b)) rfl) ?_
  refine qd rfl rfl rfl (run_idx Tryd.underlying77 sz37 (v := L) rfl rfl hpk49.ol.read (by omega) (by omega)) ?_
  obtain ⟨u88, hr89, hl90⟩ := nm_sl (hpk49.ol.at (z := b) (by omega) (by omega)) (j := (b).toNat) rfl
  rw [mapl_getD] at hr89
  have hm91 := hr89.max
  refine qd rfl rfl rfl (hl90 ag37 rfl (Gadd.pins hX48.pins L)) ?_
  refine qd rfl rfl rfl (run_len Tryd.underlying37 (v := u88) rfl hr89) ?_
  refine qd rfl rfl rfl (r_move (v := (.int .i64 0)) rfl) ?_
  refine qe ?_
  refine s_then ?_
  refine s_blk ?_
  have lx96 : (q43.ns.getD (b).toNat default).l = (q.ns.getD (b).toNat default).l := by rw [hqn52.1]
  refine s_loop (fun (k : Nat) (en : Nat → Value) (W : World) => ∃ (env1 : Nat → Value) (i2 : Nat) (q95 : PSt) (GLl : Pin), en = (upd (upd (upd (upd (upd (upd (upd (upd env1 0 (.pointer (some ⟨p, 0, none⟩))) 1 (.int .i64 a)) 6 (.bool false)) 7 (.pointer (some ⟨b4, 0, none⟩))) 10 (.bool true)) 56 u88) 57 (.int .i64 (((q43.ns.getD (b).toNat default).l).length : Int))) 58 (.int .i64 (i2 : Int))) ∧ k = (q.ns.getD (b).toNat default).l.length - i2 ∧ Ext (inO (some mm.o)) G w GLl W ∧ Pin.le GLr GLl ∧ (i2 ≤ (q.ns.getD (b).toNat default).l.length) ∧ (∀ x, x < i2 → geB q.ns ((q.ns.getD (b).toNat default).l.getD x 0) a = false) ∧ (Pk 37 3 GLl W p L R B mm q95) ∧ (PoolOk q95) ∧ (PX q43 q95) ∧ (q95.ns = q43.ns ∧ q95.bs = q43.bs)) _ ⟨_, 0, q43, GLr, (packS (x := 58) (packS (x := 57) (packS (x := 56) (packS (x := 10) (packS (x := 7) (packS (x := 6) (packS (x := 1) (pack1 (x := 0) rfl) rfl) rfl) rfl) rfl) rfl) rfl) rfl), rfl, hX48, Pin.le_refl _, Nat.zero_le _, (fun q hq => absurd hq (Nat.not_lt_zero q)), hpk49, hok50, (PX.refl _), ⟨rfl, rfl⟩⟩ ?_
  rintro k97 _ w98 ⟨env1, i2, q95, GLl, rfl, hk99, hX100, hlek97, hji2, hpl, hpk101, hok102, hpx103, hqn104⟩
  have hql105 := hpx103.len
  have hml106 : (q95.ns.map Nd.l).length = q95.ns.length ∧ (q95.ns.map Nd.r).length = q95.ns.length := ⟨List.length_map .., List.length_map ..⟩
  have hml107 : q95.bs.length = q95.ns.length ∧ q95.ns.length ≤ 1048576 := ⟨hok102.ar.ok.len, hok102.ar.ok.lim⟩
  have hlnl := congrArg List.length lx96
  refine s_seq ?_
  refine c_reg ?_
  refine qd rfl rfl rfl (r_lss rfl rfl) ?_
  refine qe ?_
  refine s_then ?_
  refine s_seq ?_
  refine c_ifd (p := ((i2 : Int) : Int) < (((q43.ns.getD (b).toNat default).l).length : Int)) rfl rfl (fun h108 => ?_) (fun h108 => ?_)
  · skip
    have hki := (optsAt hok.ar.opts (show (b).toNat < q.ns.length by omega)).1 _ (getD_mem (d := (0 : Int)) (show i2 < (q.ns.getD (b).toNat default).l.length by omega))
    rw [← lx96] at hki
    refine wp_skip ?_
    refine s_then ?_
    refine s_seq ?_
    refine s_blk ?_
    refine s_seq ?_
    refine c_reg ?_
    refine qd rfl rfl rfl (run_idx Tryd.underlying37 sz3 (v := u88) rfl rfl hr89 (by omega) (by omega)) ?_
    refine qd rfl rfl rfl (run_load_int (r := ((q43.ns.getD (b).toNat default).l).getD i2 0) rfl ag3 (z := (i2 : Int)) rfl hr89 (Pins.of_le hX100.pins hlek97) (by omega) (by omega)) ?_
    refine qd rfl rfl rfl (r_assign (v := (.int .i64 (((q43.ns.getD (b).toNat default).l).getD i2 0))) rfl) ?_
    refine qe ?_
    refine s_then ?_
    refine s_seq ?_
    refine c_reg ?_
    refine qd rfl rfl rfl (r_move (v := (.pointer (some ⟨p, 0, none⟩))) rfl) ?_
    refine qd rfl rfl rfl (r_move (v := (.int .i64 (((q43.ns.getD (b).toNat default).l).getD i2 0))) rfl) ?_
    refine qd rfl rfl rfl (r_move (v := (.int .i64 a)) rfl) ?_
    refine q1 rfl rfl rfl (o_call (vs := [(.pointer (some ⟨p, 0, none⟩)), (.int .i64 (((q43.ns.getD (b).toNat default).l).getD i2 0)), (.int .i64 a)]) Tryd.func69 nm69 rfl rfl rfl ?_)
    refine Calls.mono (ih hX100.pins hpk101 hok102 ⟨by omega, by omega⟩ ⟨by omega, by omega⟩ (by omega)) ?_
    rintro _ w111 ⟨q109, G110, rfl, hpk112, hok113, hpx114, hqn115, hx116⟩
    refine ⟨_, rfl, ?_⟩
    have hX117 := hX100.trans hx116 (fun i hi => lo_self i hi)
    have hql118 := hpx114.len
    have hml119 : (q109.ns.map Nd.l).length = q109.ns.length ∧ (q109.ns.map Nd.r).length = q109.ns.length := ⟨List.length_map .., List.length_map ..⟩
    have hml120 : q109.bs.length = q109.ns.length ∧ q109.ns.length ≤ 1048576 := ⟨hok113.ar.ok.len, hok113.ar.ok.lim⟩
    have hql121 := congrArg List.length hqn115.1
    refine qe ?_
    refine s_then ?_
    refine c_if rfl rfl (fun h122 => ?_) (fun h122 => ?_)
    · skip
      refine s_seq ?_
      refine c_reg ?_
      refine qd rfl rfl rfl (r_assign (v := (.bool false)) rfl) ?_
      refine qe ?_
      refine s_then ?_
      refine wp_exit ?_
      refine s_blkO rfl ?_
      refine s_thenE ?_
      refine s_lopE ?_
      refine s_blkE ?_
      refine s_then ?_
      refine s_seq ?_
      refine c_draw (S := fun wz => BxR wz p [L, R, B, (.map (some mm.f)), (.map (some mm.o)), (.map (some mm.c)), (.map (some mm.s)), (.map (some mm.n))] ∧ Pins G110 wz) (last := 6) (by kernel_rfl) rfl ?_
      have hl123 : Below w111.heap.size w111 w111.drew := (Below.refl _ _).drew
      have hp124 := hX117.pins.below hl123
      have hX125 := hX117.step hp124 hl123
      have hpk126 := hpk112.below hl123 hp124
      refine dr_take (i := 0) rfl rfl rfl (want_none rfl _) (by kernel_rfl) (fun _ _ => r_move (v := (.pointer (some ⟨p, 0, none⟩))) rfl) ⟨hpk126.bx.reads, hX125.pins⟩ ?_
      refine dr_take (i := 1) rfl rfl rfl (want_none rfl _) (by kernel_rfl) (fun _ _ => r_nil rfl) ⟨hpk126.bx.reads, hX125.pins⟩ ?_
      refine dr_take (i := 2) rfl rfl rfl (want_none rfl _) (by kernel_rfl) (fun _ _ => r_fldp (k := 4) rfl Tryd.underlying79 rfl nz74 rfl) ⟨hpk126.bx.reads, hX125.pins⟩ ?_
      refine dr_take (i := 3) rfl rfl rfl (want_none rfl _) (by kernel_rfl) (fun _ hS => r_ldp1 (u := (.map (some mm.o))) ag74 rfl (hS.1 4 _ rfl)) ⟨hpk126.bx.reads, hX125.pins⟩ ?_
      refine dr_take (i := 4) rfl rfl rfl (want_none rfl _) (by kernel_rfl) (fun _ hS => r_ldpA (cs := [(.int .i64 a), (.int .i64 b)]) ag101 sz101 rfl (fun j u hj => (Pins.of_le hS.2 (Pin.le_trans (Pin.le_trans hlek45 hlek97) hx116.le)) _ _ _ (hbp28 _ _ (by simpa using hj)))) ⟨hpk126.bx.reads, hX125.pins⟩ ?_
      refine dr_take (i := 5) rfl rfl rfl (want_none rfl _) (by kernel_rfl) (fun _ _ => r_move (v := (.bool false)) rfl) ⟨hpk126.bx.reads, hX125.pins⟩ ?_
      refine dr_one (i := 6) (by kernel_rfl) (drOp0 (i := 6) rfl rfl rfl (want_none rfl _) (o_mapUpdate (val := (fun v : Bool => Value.bool v)) (k := ((a, b) : Int × Int)) (v := false) (key_pair Tryd.underlying101 Tryd.underlying3 sz3) Tryd.underlying74 rfl rfl rfl hX125.pins hpk126.fo (fun w127 hm128 hp129 hg130 hz131 => ?_)))
      have hX133 := hX125.trans (Ext.one hp129 hg130) (fun i hi => lo_self i hi)
      have hpk132 := hpk126.setO (Ext.one hp129 hg130) hm128
      have hgv : geB q.ns a b = false := geB_no_left hok.ar.opts hb (i := i2) (by omega) (by rw [← lx96, ← geB_same (ns_trans hqn52 hqn104)]; exact h122)
      have hok136 := PoolOk.setO hok113 (ha.same (ns_trans (ns_trans hqn52 hqn104) hqn115)) (hb.same (ns_trans (ns_trans hqn52 hqn104) hqn115)) (setO_ok (ns_trans (ns_trans hqn52 hqn104) hqn115) hgv)
      obtain ⟨q134, hq135⟩ : ∃ q, q = ({ q109 with om := putE q109.om ((a, b) : Int × Int) false } : PSt) := ⟨_, rfl⟩
      rw [← hq135] at hpk132 hok136
      have hq135n : q134.ns = q109.ns ∧ q134.bs = q109.bs := by rw [hq135]; exact ⟨rfl, rfl⟩
      have hq135x : PX q109 q134 := by rw [hq135]; exact ⟨Nat.le_refl _, fun _ _ => rfl, fun _ h => h⟩
      have hml137 : (q134.ns.map Nd.l).length = q134.ns.length ∧ (q134.ns.map Nd.r).length = q134.ns.length := ⟨List.length_map .., List.length_map ..⟩
      have hml138 : q134.bs.length = q134.ns.length ∧ q134.ns.length ≤ 1048576 := ⟨hok136.ar.ok.len, hok136.ar.ok.lim⟩
      have hql139 := hq135x.len
      refine ⟨fun h => absurd rfl h, ?_⟩
      refine dr_end (by kernel_rfl) ?_
      refine s_then ?_
      refine s_seq ?_
      refine c_reg ?_
      refine qd rfl rfl rfl (r_move (v := (.bool false)) rfl) ?_
      refine qd rfl rfl rfl (r_assign (v := (.bool false)) rfl) ?_
      refine qe ?_
      refine s_then ?_
      refine wp_ret ?_
      refine s_ret ?_
      refine c_ret1 (v := (.bool false)) rfl rfl rfl ?_
      exact ⟨q134, _, congrArg (fun z => Ending.returned (Value.bool z)) (hgv.symm), hpk132, hok136, (PX.trans (PX.trans (PX.trans hpx51 hpx103) hpx114) hq135x), (ns_trans (ns_trans (ns_trans hqn52 hqn104) hqn115) hq135n), hX133⟩
    refine wp_skip ?_
    refine s_blkN ?_
    refine s_then ?_
    refine c_reg ?_
    refine qd rfl rfl rfl (r_add rfl rfl (by omega)) ?_
    refine qd rfl rfl rfl (r_move (v := (.int .i64 ((i2 : Int) + 1))) rfl) ?_
    refine qe ?_
    refine s_lopN ?_
    refine ⟨_, ?_, _, rfl, _, i2 + 1, q109, G110, (packS (x := 58) (packS (x := 57) (packS (x := 56) (packS (x := 10) (packS (x := 7) (packS (x := 6) (packS (x := 1) (pack1 (x := 0) rfl) rfl) rfl) rfl) rfl) rfl) rfl) rfl), rfl, hX117, (Pin.le_trans hlek97 hx116.le), (by omega), (fun x h2 => if h3 : x = i2 then h3 ▸ (by rw [← lx96, ← geB_same (ns_trans hqn52 hqn104)]; exact h122) else hpl x (by omega)), hpk112, hok113, (PX.trans hpx103 hpx114), (ns_trans hqn104 hqn115)⟩
    omega
  refine wp_exit ?_
  refine s_thenE ?_
  refine s_lopE ?_
  refine s_blkE ?_
  refine s_then ?_
  refine s_seq ?_
  refine c_draw (S := fun wz => BxR wz p [L, R, B, (.map (some mm.f)), (.map (some mm.o)), (.map (some mm.c)), (.map (some mm.s)), (.map (some mm.n))] ∧ Pins GLl wz) (last := 6) (by kernel_rfl) rfl ?_
  have hl140 : Below w98.heap.size w98 w98.drew := (Below.refl _ _).drew
  have hp141 := hX100.pins.below hl140
  have hX142 := hX100.step hp141 hl140
  have hpk143 := hpk101.below hl140 hp141
  refine dr_take (i := 0) rfl rfl rfl (want_none rfl _) (by kernel_rfl) (fun _ _ => r_move (v := (.pointer (some ⟨p, 0, none⟩))) rfl) ⟨hpk143.bx.reads, hX142.pins⟩ ?_
  refine dr_take (i := 1) rfl rfl rfl (want_none rfl _) (by kernel_rfl) (fun _ _ => r_nil rfl) ⟨hpk143.bx.reads, hX142.pins⟩ ?_
  refine dr_take (i := 2) rfl rfl rfl (want_none rfl _) (by kernel_rfl) (fun _ _ => r_fldp (k := 4) rfl Tryd.underlying79 rfl nz74 rfl) ⟨hpk143.bx.reads, hX142.pins⟩ ?_
  refine dr_take (i := 3) rfl rfl rfl (want_none rfl _) (by kernel_rfl) (fun _ hS => r_ldp1 (u := (.map (some mm.o))) ag74 rfl (hS.1 4 _ rfl)) ⟨hpk143.bx.reads, hX142.pins⟩ ?_
  refine dr_take (i := 4) rfl rfl rfl (want_none rfl _) (by kernel_rfl) (fun _ hS => r_ldpA (cs := [(.int .i64 a), (.int .i64 b)]) ag101 sz101 rfl (fun j u hj => (Pins.of_le hS.2 (Pin.le_trans hlek45 hlek97)) _ _ _ (hbp28 _ _ (by simpa using hj)))) ⟨hpk143.bx.reads, hX142.pins⟩ ?_
  refine dr_take (i := 5) rfl rfl rfl (want_none rfl _) (by kernel_rfl) (fun _ _ => r_move (v := (.bool true)) rfl) ⟨hpk143.bx.reads, hX142.pins⟩ ?_
  refine dr_one (i := 6) (by kernel_rfl) (drOp0 (i := 6) rfl rfl rfl (want_none rfl _) (o_mapUpdate (val := (fun v : Bool => Value.bool v)) (k := ((a, b) : Int × Int)) (v := true) (key_pair Tryd.underlying101 Tryd.underlying3 sz3) Tryd.underlying74 rfl rfl rfl hX142.pins hpk143.fo (fun w144 hm145 hp146 hg147 hz148 => ?_)))
  have hX150 := hX142.trans (Ext.one hp146 hg147) (fun i hi => lo_self i hi)
  have hpk149 := hpk143.setO (Ext.one hp146 hg147) hm145
  have hgv : geB q.ns a b = true := geB_yes hok.ar.opts ha hb (fun i hi => hpr i (by omega)) (fun i hi => hpl i (by omega))
  have hok153 := PoolOk.setO hok102 (ha.same (ns_trans hqn52 hqn104)) (hb.same (ns_trans hqn52 hqn104)) (setO_ok (ns_trans hqn52 hqn104) hgv)
  obtain ⟨q151, hq152⟩ : ∃ q, q = ({ q95 with om := putE q95.om ((a, b) : Int × Int) true } : PSt) := ⟨_, rfl⟩
  rw [← hq152] at hpk149 hok153
  have hq152n : q151.ns = q95.ns ∧ q151.bs = q95.bs := by rw [hq152]; exact ⟨rfl, rfl⟩
  have hq152x : PX q95 q151 := by rw [hq152]; exact ⟨Nat.le_refl _, fun _ _ => rfl, fun _ h => h⟩
  have hml154 : (q151.ns.map Nd.l).length = q151.ns.length ∧ (q151.ns.map Nd.r).length = q151.ns.length := ⟨List.length_map .., List.length_map ..⟩
  have hml155 : q151.bs.length = q151.ns.length ∧ q151.ns.length ≤ 1048576 := ⟨hok153.ar.ok.len, hok153.ar.ok.lim⟩
  have hql156 := hq152x.len
  refine ⟨fun h => absurd rfl h, ?_⟩
  refine dr_end (by kernel_rfl) ?_
  refine s_then ?_
  refine s_seq ?_
  refine c_reg ?_
  refine qd rfl rfl rfl (r_move (v := (.bool true)) rfl) ?_
  refine qd rfl rfl rfl (r_assign (v := (.bool true)) rfl) ?_
  refine qe ?_
  refine s_then ?_
  refine wp_ret ?_
  refine s_ret ?_
  refine c_ret1 (v := (.bool true)) rfl rfl rfl ?_
  exact ⟨q151, _, congrArg (fun z => Ending.returned (Value.bool z)) (hgv.symm), hpk149, hok153, (PX.trans (PX.trans hpx51 hpx103) hq152x), (ns_trans (ns_trans hqn52 hqn104) hq152n), hX150⟩

theorem geP_all {p : Nat} {L R B : Value} {mm : PM} : ∀ m, GeP m p L R B mm
  | 0 => fun _ _ _ _ _ h => absurd h (Nat.not_lt_zero _)
  | m + 1 => fun hP hpk hok ha hb hm => ge_step hP hpk hok ha hb (geP_all m) hm
theorem ge_spec {p : Nat} {L R B : Value} {mm : PM} {w : World} {G : Pin} {q : PSt} {a b : Int} (hP : Pins G w) (hpk : Pk 37 3 G w p L R B mm q) (hok : PoolOk q) (ha : PlaceOk q a) (hb : PlaceOk q b) :
    Calls Tryd.prog 69 [(.pointer (some ⟨p, 0, none⟩)), (.int .i64 a), (.int .i64 b)].toArray w fun e w' => ∃ (q' : PSt) (G' : Pin), e = .returned (.bool (geB q.ns a b)) ∧ Pk 37 3 G' w' p L R B mm q' ∧ PoolOk q' ∧ PX q q' ∧ (q'.ns = q.ns ∧ q'.bs = q.bs) ∧ Ext (inO (some mm.o)) G w G' w' :=
  geP_all _ hP hpk hok ha hb (Nat.lt_succ_self _)

end PL1
end Go.Proofs.YtfkompdmejpmmaaDoor

/- Walks, printed by a program (walkgen.py) from the spec specs_ds. -/
set_option maxRecDepth 20000
set_option maxHeartbeats 2000000
namespace Go.Proofs.YtfkompdmejpmmaaDoor
namespace DI1
open Go.RowKit Go.GL Go.Proofs
open Go.Proofs.YtfkompdmejpmmaaDoor.B1
open Go.Proofs.YtfkompdmejpmmaaDoor.K1
open Go.Proofs.YtfkompdmejpmmaaDoor.PO1
open Go.Proofs.YtfkompdmejpmmaaDoor.PL1
theorem ag3 : (Tryd.prog.underlying 3).map aggD = some false := by kernel_rfl
theorem ap3 : (Tryd.prog.info? 3).map (fun i => (i.size, i.bytes, (i.zero.map (·.cells.size)))) = some (1, 8, some 1) := by kernel_rfl
theorem nm69 : (Tryd.f69.name == "runtime.NumGoroutine") = false := by kernel_rfl
theorem sz3 : (Tryd.prog.info? 3).map (·.size) = some 1 := by kernel_rfl
theorem zr3 : (Tryd.prog.info? 3).bind (·.zero) = some (.int .i64 0) := by kernel_rfl

theorem idominated_spec {p : Nat} {L R B : Value} {mm : PM} {w : World} {G : Pin} {q : PSt} {x : Value} {xs : List Int} {lf : Bool} (hP : Pins G w) (hpk : Pk 37 3 G w p L R B mm q) (hok : PoolOk q) (hx : RSl eInt G x xs) (hxl : xs.length ≤ 1048576) (hpl : ∀ i, i < xs.length → PlaceOk q (xs.getD i 0)) :
    Calls Tryd.prog 62 [(.pointer (some ⟨p, 0, none⟩)), x, (.bool lf)].toArray w fun e w' => ∃ (u : Value) (q' : PSt) (G' : Pin), e = .returned u ∧ Own eInt 3 G' w' w.heap.size u (domL (gX q xs) lf xs.length xs.length) ∧ Pk 37 3 G' w' p L R B mm q' ∧ PoolOk q' ∧ PX q q' ∧ (q'.ns = q.ns ∧ q'.bs = q.bs) ∧ Ext (inO (some mm.o)) G w G' w' := by
  refine s_enter (n := 61) Tryd.func62 Tryd.ntmps62 rfl rfl ?_
  have hX0 : Ext (inO (some mm.o)) G w G w := Ext.refl hP
  have hpin : PIn w (inP p L R B mm) p L R B mm := PIn.self
  have hml1 : (q.ns.map Nd.l).length = q.ns.length ∧ (q.ns.map Nd.r).length = q.ns.length := ⟨List.length_map .., List.length_map ..⟩
  have hml2 : q.bs.length = q.ns.length ∧ q.ns.length ≤ 1048576 := ⟨hok.ar.ok.len, hok.ar.ok.lim⟩
  refine s_seq ?_
  refine c_reg ?_
  refine qd rfl rfl rfl (r_assign (v := (.slice none 0 0)) rfl) ?_
  refine qe ?_
  refine s_then ?_
  refine s_seq ?_
  refine c_reg ?_
  refine q1 rfl rfl rfl (o_build0 (E := eInt) (e := 3) Tryd.underlying37 sz3 hX0.pins (fun u3 w4 ho5 hp6 hl7 hk8 => ?_))
  have hX9 := hX0.step hp6 hl7
  have hpk10 := hpk.below hl7 hp6
  have ha15 := hpk.new (x := u3.ownBlock) (fun k hk => by rw [hk8] at hk; cases hk; exact Nat.le_refl _)
  have ho16 : Own eInt 3 G w4 w.heap.size u3 ([]) := ho5.weaken hX0.size
  refine qd rfl rfl rfl (r_assign (v := u3) rfl) ?_
  refine qe ?_
  refine s_then ?_
  refine s_seq ?_
  refine s_seq ?_
  refine c_reg ?_
  refine qd rfl rfl rfl (r_move (v := x) rfl) ?_
  refine qd rfl rfl rfl (run_len Tryd.underlying37 (v := x) rfl hx) ?_
  refine qd rfl rfl rfl (r_move (v := (.int .i64 0)) rfl) ?_
  refine qe ?_
  refine s_then ?_
  refine s_blk ?_
  refine s_loop (fun (k : Nat) (en : Nat → Value) (W : World) => ∃ (env1 : Nat → Value) (i : Nat) (ov : Value) (out : List Int) (q20 : PSt) (GL1 : Pin), en = (upd (upd (upd (upd (upd (upd (upd (upd env1 0 (.pointer (some ⟨p, 0, none⟩))) 1 x) 2 (.bool lf)) 6 (.slice none 0 0)) 7 ov) 15 x) 16 (.int .i64 (xs.length : Int))) 17 (.int .i64 (i : Int))) ∧ k = xs.length - i ∧ Ext (inO (some mm.o)) G w GL1 W ∧ Pin.le G GL1 ∧ (i ≤ xs.length) ∧ (out = domL (gX q xs) lf xs.length i) ∧ (Own eInt 3 GL1 W w.heap.size ov (out)) ∧ (Pk 37 3 GL1 W p L R B mm q20) ∧ (PoolOk q20) ∧ (PX q q20) ∧ (q20.ns = q.ns ∧ q20.bs = q.bs) ∧ (NP p L R B mm ov.ownBlock)) _ ⟨_, 0, u3, [], q, G, (packS (x := 17) (packS (x := 16) (packS (x := 15) (packS (x := 7) (packS (x := 6) (packS (x := 2) (packS (x := 1) (pack1 (x := 0) rfl) rfl) rfl) rfl) rfl) rfl) rfl) rfl), rfl, hX9, Pin.le_refl _, Nat.zero_le _, rfl, ho16, hpk10, hok, (PX.refl _), ⟨rfl, rfl⟩, ha15⟩ ?_
  rintro k21 _ w22 ⟨env1, i, ov, out, q20, GL1, rfl, hk23, hX24, hlek21, hi, hout, hw25, hpk26, hok27, hpx28, hqn29, hnp30⟩
  have hql31 := hpx28.len
  have hml32 : (q20.ns.map Nd.l).length = q20.ns.length ∧ (q20.ns.map Nd.r).length = q20.ns.length := ⟨List.length_map .., List.length_map ..⟩
  have hml33 : q20.bs.length = q20.ns.length ∧ q20.ns.length ≤ 1048576 := ⟨hok27.ar.ok.len, hok27.ar.ok.lim⟩
  have hol : out.length ≤ i := by rw [hout]; exact (dom_len i).1
  refine s_seq ?_
  refine c_reg ?_
  refine qd rfl rfl rfl (r_lss rfl rfl) ?_
  refine qe ?_
  refine s_then ?_
  refine s_seq ?_
  refine c_ifd (p := ((i : Int) : Int) < (xs.length : Int)) rfl rfl (fun h34 => ?_) (fun h34 => ?_)
  · skip
    refine wp_skip ?_
    refine s_then ?_
    refine s_seq ?_
    refine s_blk ?_
    refine s_seq ?_
    refine c_reg ?_
    refine qd rfl rfl rfl (r_move (v := (.int .i64 (i : Int))) rfl) ?_
    refine qd rfl rfl rfl (run_idx Tryd.underlying37 sz3 (v := x) rfl rfl hx (by omega) (by omega)) ?_
    refine qd rfl rfl rfl (run_load_int (r := xs.getD i 0) rfl ag3 (z := (i : Int)) rfl hx (Pins.of_le hX24.pins hlek21) (by omega) (by omega)) ?_
    refine qd rfl rfl rfl (r_assign (v := (.int .i64 (i : Int))) rfl) ?_
    refine qd rfl rfl rfl (r_assign (v := (.int .i64 (xs.getD i 0))) rfl) ?_
    refine qe ?_
    refine s_then ?_
    refine s_seq ?_
    refine c_reg ?_
    refine qd rfl rfl rfl (r_move (v := x) rfl) ?_
    refine qd rfl rfl rfl (run_len Tryd.underlying37 (v := x) rfl hx) ?_
    refine qd rfl rfl rfl (r_move (v := (.int .i64 0)) rfl) ?_
    refine qe ?_
    refine s_then ?_
    refine s_blk ?_
    refine s_loop (fun (k : Nat) (en : Nat → Value) (W : World) => ∃ (env1 : Nat → Value) (j : Nat) (q38 : PSt) (GL2 : Pin), en = (upd (upd (upd (upd (upd (upd (upd (upd (upd (upd (upd (upd (upd env1 0 (.pointer (some ⟨p, 0, none⟩))) 1 x) 2 (.bool lf)) 6 (.slice none 0 0)) 7 ov) 8 (.int .i64 (i : Int))) 9 (.int .i64 (xs.getD i 0))) 15 x) 16 (.int .i64 (xs.length : Int))) 17 (.int .i64 (i : Int))) 22 x) 23 (.int .i64 (xs.length : Int))) 24 (.int .i64 (j : Int))) ∧ k = xs.length - j ∧ Ext (inO (some mm.o)) G w GL2 W ∧ Pin.le GL1 GL2 ∧ (j ≤ xs.length) ∧ (∀ x, x < j → ¬ domP (gX q xs) lf i x) ∧ (Own eInt 3 GL2 W w.heap.size ov (out)) ∧ (Pk 37 3 GL2 W p L R B mm q38) ∧ (PoolOk q38) ∧ (PX q20 q38) ∧ (q38.ns = q20.ns ∧ q38.bs = q20.bs)) _ ⟨_, 0, q20, GL1, (packS (x := 24) (packS (x := 23) (packS (x := 22) (packS (x := 17) (packS (x := 16) (packS (x := 15) (packS (x := 9) (packS (x := 8) (packS (x := 7) (packS (x := 6) (packS (x := 2) (packS (x := 1) (pack1 (x := 0) rfl) rfl) rfl) rfl) rfl) rfl) rfl) rfl) rfl) rfl) rfl) rfl) rfl), rfl, hX24, Pin.le_refl _, Nat.zero_le _, (fun x h => absurd h (Nat.not_lt_zero x)), hw25, hpk26, hok27, (PX.refl _), ⟨rfl, rfl⟩⟩ ?_
    rintro k39 _ w40 ⟨env1, j, q38, GL2, rfl, hk41, hX42, hlek39, hj, hnd, hw43, hpk44, hok45, hpx46, hqn47⟩
    have hql48 := hpx46.len
    have hml49 : (q38.ns.map Nd.l).length = q38.ns.length ∧ (q38.ns.map Nd.r).length = q38.ns.length := ⟨List.length_map .., List.length_map ..⟩
    have hml50 : q38.bs.length = q38.ns.length ∧ q38.ns.length ≤ 1048576 := ⟨hok45.ar.ok.len, hok45.ar.ok.lim⟩
    refine s_seq ?_
    refine c_reg ?_
    refine qd rfl rfl rfl (r_lss rfl rfl) ?_
    refine qe ?_
    refine s_then ?_
    refine s_seq ?_
    refine c_ifd (p := ((j : Int) : Int) < (xs.length : Int)) rfl rfl (fun h51 => ?_) (fun h51 => ?_)
    · skip
      refine wp_skip ?_
      refine s_then ?_
      refine s_seq ?_
      refine s_blk ?_
      refine s_seq ?_
      refine c_reg ?_
      refine qd rfl rfl rfl (r_move (v := (.int .i64 (j : Int))) rfl) ?_
      refine qd rfl rfl rfl (run_idx Tryd.underlying37 sz3 (v := x) rfl rfl hx (by omega) (by omega)) ?_
      refine qd rfl rfl rfl (run_load_int (r := xs.getD j 0) rfl ag3 (z := (j : Int)) rfl hx (Pins.of_le hX42.pins (Pin.le_trans hlek21 hlek39)) (by omega) (by omega)) ?_
      refine qd rfl rfl rfl (r_assign (v := (.int .i64 (j : Int))) rfl) ?_
      refine qd rfl rfl rfl (r_assign (v := (.int .i64 (xs.getD j 0))) rfl) ?_
      refine qe ?_
      refine s_then ?_
      refine s_seq ?_
      refine s_seq ?_
      refine c_reg ?_
      refine qd rfl rfl rfl (r_move (v := (.int .i64 (j : Int))) rfl) ?_
      refine qd rfl rfl rfl (r_move (v := (.int .i64 (i : Int))) rfl) ?_
      refine qd rfl rfl rfl (r_eql rfl rfl) ?_
      refine qe ?_
      refine s_then ?_
      refine c_ifd (p := ((j : Int) : Int) = (i : Int)) rfl rfl (fun h52 => ?_) (fun h52 => ?_)
      · skip
        refine wp_exit ?_
        refine s_thenE ?_
        refine s_blkE ?_
        refine s_then ?_
        refine c_reg ?_
        refine qd rfl rfl rfl (r_add rfl rfl (by omega)) ?_
        refine qd rfl rfl rfl (r_move (v := (.int .i64 ((j : Int) + 1))) rfl) ?_
        refine qe ?_
        refine s_lopN ?_
        refine ⟨_, ?_, _, rfl, _, j + 1, q38, GL2, (packS (x := 24) (packS (x := 23) (packS (x := 22) (packS (x := 17) (packS (x := 16) (packS (x := 15) (packS (x := 9) (packS (x := 8) (packS (x := 7) (packS (x := 6) (packS (x := 2) (packS (x := 1) (pack1 (x := 0) rfl) rfl) rfl) rfl) rfl) rfl) rfl) rfl) rfl) rfl) rfl) rfl) rfl), rfl, hX42, hlek39, (by omega), (fun x h2 => if h3 : x = j then h3 ▸ (fun p => p.1 h52) else hnd x (by omega)), hw43, hpk44, hok45, hpx46, hqn47⟩
        omega
      refine wp_skip ?_
      refine s_then ?_
      refine s_seq ?_
      refine c_reg ?_
      refine qd rfl rfl rfl (r_move (v := (.pointer (some ⟨p, 0, none⟩))) rfl) ?_
      refine qd rfl rfl rfl (r_move (v := (.int .i64 (xs.getD j 0))) rfl) ?_
      refine qd rfl rfl rfl (r_move (v := (.int .i64 (xs.getD i 0))) rfl) ?_
      refine q1 rfl rfl rfl (o_call (vs := [(.pointer (some ⟨p, 0, none⟩)), (.int .i64 (xs.getD j 0)), (.int .i64 (xs.getD i 0))]) Tryd.func69 nm69 rfl rfl rfl ?_)
      refine Calls.mono (ge_spec hX42.pins hpk44 hok45 ((hpl j (by omega)).same (ns_trans hqn29 hqn47)) ((hpl i (by omega)).same (ns_trans hqn29 hqn47))) ?_
      rintro _ w55 ⟨q53, G54, rfl, hpk56, hok57, hpx58, hqn59, hx60⟩
      refine ⟨_, rfl, ?_⟩
      have hX61 := hX42.trans hx60 (fun i hi => lo_self i hi)
      have ho62 := hw43.extS hx60 (notO (NP.ho hnp30))
      have hql63 := hpx58.len
      have hml64 : (q53.ns.map Nd.l).length = q53.ns.length ∧ (q53.ns.map Nd.r).length = q53.ns.length := ⟨List.length_map .., List.length_map ..⟩
      have hml65 : q53.bs.length = q53.ns.length ∧ q53.ns.length ≤ 1048576 := ⟨hok57.ar.ok.len, hok57.ar.ok.lim⟩
      have hql66 := congrArg List.length hqn59.1
      refine qd rfl rfl rfl (r_move (v := (.pointer (some ⟨p, 0, none⟩))) rfl) ?_
      refine qd rfl rfl rfl (r_move (v := (.int .i64 (xs.getD i 0))) rfl) ?_
      refine qd rfl rfl rfl (r_move (v := (.int .i64 (xs.getD j 0))) rfl) ?_
      refine q1 rfl rfl rfl (o_call (vs := [(.pointer (some ⟨p, 0, none⟩)), (.int .i64 (xs.getD i 0)), (.int .i64 (xs.getD j 0))]) Tryd.func69 nm69 rfl rfl rfl ?_)
      refine Calls.mono (ge_spec hX61.pins hpk56 hok57 ((hpl i (by omega)).same (ns_trans (ns_trans hqn29 hqn47) hqn59)) ((hpl j (by omega)).same (ns_trans (ns_trans hqn29 hqn47) hqn59))) ?_
      rintro _ w69 ⟨q67, G68, rfl, hpk70, hok71, hpx72, hqn73, hx74⟩
      refine ⟨_, rfl, ?_⟩
      have hX75 := hX61.trans hx74 (fun i hi => lo_self i hi)
      have ho76 := ho62.extS hx74 (notO (NP.ho hnp30))
      have hql77 := hpx72.len
      have hml78 : (q67.ns.map Nd.l).length = q67.ns.length ∧ (q67.ns.map Nd.r).length = q67.ns.length := ⟨List.length_map .., List.length_map ..⟩
      have hml79 : q67.bs.length = q67.ns.length ∧ q67.ns.length ≤ 1048576 := ⟨hok71.ar.ok.len, hok71.ar.ok.lim⟩
      have hql80 := congrArg List.length hqn73.1
      refine qd rfl rfl rfl (r_assign (v := (.bool (geB q38.ns (xs.getD j 0) (xs.getD i 0)))) rfl) ?_
      refine qd rfl rfl rfl (r_assign (v := (.bool (geB q53.ns (xs.getD i 0) (xs.getD j 0)))) rfl) ?_
      refine qe ?_
      refine s_then ?_
      refine s_seq ?_
      refine s_seq ?_
      refine c_reg ?_
      refine qd rfl rfl rfl (r_move (v := (.bool lf)) rfl) ?_
      refine qd rfl rfl rfl (r_not rfl) ?_
      refine qe ?_
      refine s_then ?_
      refine c_ifn rfl rfl (fun h81 => ?_) (fun h81 => ?_)
      · skip
        refine wp_skip ?_
        refine s_then ?_
        refine s_seq ?_
        refine c_reg ?_
        refine qd rfl rfl rfl (r_move (v := (.bool (geB q38.ns (xs.getD j 0) (xs.getD i 0)))) rfl) ?_
        refine qd rfl rfl rfl (r_move (v := (.bool (geB q38.ns (xs.getD j 0) (xs.getD i 0)))) rfl) ?_
        refine qb (t := 45) rfl (fun h82 => ?_) (fun h82 => ?_)
        · skip
          refine qdg rfl rfl rfl rfl rfl rfl (r_move (v := (.bool (geB q53.ns (xs.getD i 0) (xs.getD j 0)))) rfl) ?_
          refine qdg rfl rfl rfl rfl rfl rfl (r_not rfl) ?_
          refine qdg rfl rfl rfl rfl rfl rfl (r_move (v := (.bool (!(geB q53.ns (xs.getD i 0) (xs.getD j 0))))) rfl) ?_
          refine qbn (t := 48) rfl (fun h83 => ?_) (fun h83 => ?_)
          · skip
            refine qdg rfl rfl rfl rfl rfl rfl (r_move (v := (.int .i64 (j : Int))) rfl) ?_
            refine qdg rfl rfl rfl rfl rfl rfl (r_move (v := (.int .i64 (i : Int))) rfl) ?_
            refine qdg rfl rfl rfl rfl rfl rfl (r_lss rfl rfl) ?_
            refine qdg rfl rfl rfl rfl rfl rfl (r_pickF (v := (.bool (decide (((j : Int) : Int) < (i : Int))))) rfl rfl) ?_
            refine qd rfl rfl rfl (r_pickT (v := (.bool (decide (((j : Int) : Int) < (i : Int))))) rfl rfl) ?_
            refine qe ?_
            refine s_then ?_
            refine c_ifd (p := ((j : Int) : Int) < (i : Int)) rfl rfl (fun h84 => ?_) (fun h84 => ?_)
            · skip
              refine s_seq ?_
              refine c_reg ?_
              refine qd rfl rfl rfl (r_move (v := ov) rfl) ?_
              refine qd rfl rfl rfl (r_move (v := (.int .i64 (i : Int))) rfl) ?_
              refine q1 rfl rfl rfl (o_buildF (E := eInt) (e := 3) [(.int .i64 (i : Int))] [(i : Int)] Tryd.underlying37 sz3 zr3 (by exact reps1 (by rfl)) (ones1 (by rfl)) rfl rfl rfl rfl (by decide) hX75.pins (fun u85 w86 ho87 hp88 hl89 hk90 => ?_))
              have hX91 := hX75.step hp88 hl89
              have ho92 := ho76.below hl89
              have hpk93 := hpk70.below hl89 hp88
              have ha94 : Apart u85.ownBlock ov.ownBlock := new_ne_own hk90 ho76.lt
              have ho100 : Own eInt 3 G68 w86 w.heap.size u85 ([(i : Int)]) := ho87.weaken hX75.size
              refine q1 rfl rfl rfl (o_append (E := eInt) (v := ov) (u := u85) 8 Tryd.underlying37 ap3 (by decide) rfl rfl hX91.pins ho92 ho100.src (by first | omega | (rw [List.nil_append]; omega) | (rw [List.length_nil]; omega) | (rw [List.length_append]; omega) | (simp; done) | (simp; omega) | (simp only [List.length_append, List.length_cons, List.length_nil]; omega)) (by first | omega | (rw [List.nil_append]; omega) | (rw [List.length_nil]; omega) | (rw [List.length_append]; omega) | (simp; done) | (simp; omega) | (simp only [List.length_append, List.length_cons, List.length_nil]; omega)) (hX91.size) (fun u101 w102 ho103 hp104 hg105 hw106 => ?_))
              have hX107 := hX91.write hp104 hg105 ((lo_own ho92))
              have hpk109 := hpk93.kept hg105 hp104 hnp30
              have ha110 : Apart u85.ownBlock u101.ownBlock := app_ne_own ha94 hw106 ho100.lt
              have hnp111 := np_app hnp30 hpk93 hw106
              have hm112 : (out ++ ([(i : Int)])).length = out.length + 1 := List.length_append
              refine qd rfl rfl rfl (r_assign (v := u101) rfl) ?_
              refine qe ?_
              refine s_then ?_
              refine wp_exit ?_
              refine s_blkO rfl ?_
              refine s_thenE ?_
              refine s_lopE ?_
              refine s_blkE ?_
              refine s_blkN ?_
              refine s_then ?_
              refine c_reg ?_
              refine qd rfl rfl rfl (r_add rfl rfl (by omega)) ?_
              refine qd rfl rfl rfl (r_move (v := (.int .i64 ((i : Int) + 1))) rfl) ?_
              refine qe ?_
              refine s_lopN ?_
              refine ⟨_, ?_, _, rfl, _, i + 1, u101, out ++ ([(i : Int)]), q67, G68, (packS (x := 17) (packS (x := 16) (packS (x := 15) (packS (x := 7) (packS (x := 6) (packS (x := 2) (packS (x := 1) (pack1 (x := 0) rfl) rfl) rfl) rfl) rfl) rfl) rfl) rfl), rfl, hX107, (Pin.le_trans (Pin.le_trans (Pin.le_trans hlek21 hlek39) hx60.le) hx74.le), (by omega), (by rw [dom_hit (g := gX q xs) (lf := lf) (show j < xs.length by omega) ⟨h52, (geD_t h81).2 (decP_true.1 ((geB_same (ns_trans hqn29 hqn47)).symm.trans h82)), Or.inr h84⟩, hout]), ho103, hpk109, hok71, (PX.trans (PX.trans (PX.trans hpx28 hpx46) hpx58) hpx72), (ns_trans (ns_trans (ns_trans hqn29 hqn47) hqn59) hqn73), hnp111⟩
              omega
            refine wp_skip ?_
            refine s_blkN ?_
            refine s_then ?_
            refine c_reg ?_
            refine qd rfl rfl rfl (r_add rfl rfl (by omega)) ?_
            refine qd rfl rfl rfl (r_move (v := (.int .i64 ((j : Int) + 1))) rfl) ?_
            refine qe ?_
            refine s_lopN ?_
            refine ⟨_, ?_, _, rfl, _, j + 1, q67, G68, (packS (x := 24) (packS (x := 23) (packS (x := 22) (packS (x := 17) (packS (x := 16) (packS (x := 15) (packS (x := 9) (packS (x := 8) (packS (x := 7) (packS (x := 6) (packS (x := 2) (packS (x := 1) (pack1 (x := 0) rfl) rfl) rfl) rfl) rfl) rfl) rfl) rfl) rfl) rfl) rfl) rfl) rfl), rfl, hX75, (Pin.le_trans (Pin.le_trans hlek39 hx60.le) hx74.le), (by omega), (fun x h2 => if h3 : x = j then h3 ▸ (fun p => p.2.2.elim (fun h => h ((geD_t h81).2 (decP_true.1 ((geB_same (ns_trans (ns_trans hqn29 hqn47) hqn59)).symm.trans h83)))) h84) else hnd x (by omega)), ho76, hpk70, hok71, (PX.trans (PX.trans hpx46 hpx58) hpx72), (ns_trans (ns_trans hqn47 hqn59) hqn73)⟩
            omega
          refine qs rfl rfl rfl rfl rfl rfl ?_
          refine qs rfl rfl rfl rfl rfl rfl ?_
          refine qs rfl rfl rfl rfl rfl rfl ?_
          refine qdg rfl rfl rfl rfl rfl rfl (r_pickT (v := (.bool true)) rfl rfl) ?_
          refine qd rfl rfl rfl (r_pickT (v := (.bool true)) rfl rfl) ?_
          refine qe ?_
          refine s_then ?_
          refine c_ifT rfl rfl ?_
          refine s_seq ?_
          refine c_reg ?_
          refine qd rfl rfl rfl (r_move (v := ov) rfl) ?_
          refine qd rfl rfl rfl (r_move (v := (.int .i64 (i : Int))) rfl) ?_
          refine q1 rfl rfl rfl (o_buildF (E := eInt) (e := 3) [(.int .i64 (i : Int))] [(i : Int)] Tryd.underlying37 sz3 zr3 (by exact reps1 (by rfl)) (ones1 (by rfl)) rfl rfl rfl rfl (by decide) hX75.pins (fun u113 w114 ho115 hp116 hl117 hk118 => ?_))
          have hX119 := hX75.step hp116 hl117
          have ho120 := ho76.below hl117
          have hpk121 := hpk70.below hl117 hp116
          have ha122 : Apart u113.ownBlock ov.ownBlock := new_ne_own hk118 ho76.lt
          have ho128 : Own eInt 3 G68 w114 w.heap.size u113 ([(i : Int)]) := ho115.weaken hX75.size
          refine q1 rfl rfl rfl (o_append (E := eInt) (v := ov) (u := u113) 8 Tryd.underlying37 ap3 (by decide) rfl rfl hX119.pins ho120 ho128.src (by first | omega | (rw [List.nil_append]; omega) | (rw [List.length_nil]; omega) | (rw [List.length_append]; omega) | (simp; done) | (simp; omega) | (simp only [List.length_append, List.length_cons, List.length_nil]; omega)) (by first | omega | (rw [List.nil_append]; omega) | (rw [List.length_nil]; omega) | (rw [List.length_append]; omega) | (simp; done) | (simp; omega) | (simp only [List.length_append, List.length_cons, List.length_nil]; omega)) (hX119.size) (fun u129 w130 ho131 hp132 hg133 hw134 => ?_))
          have hX135 := hX119.write hp132 hg133 ((lo_own ho120))
          have hpk137 := hpk121.kept hg133 hp132 hnp30
          have ha138 : Apart u113.ownBlock u129.ownBlock := app_ne_own ha122 hw134 ho128.lt
          have hnp139 := np_app hnp30 hpk121 hw134
          have hm140 : (out ++ ([(i : Int)])).length = out.length + 1 := List.length_append
          refine qd rfl rfl rfl (r_assign (v := u129) rfl) ?_
          refine qe ?_
          refine s_then ?_
          refine wp_exit ?_
          refine s_blkO rfl ?_
          refine s_thenE ?_
          refine s_lopE ?_
          refine s_blkE ?_
          refine s_blkN ?_
          refine s_then ?_
          refine c_reg ?_
          refine qd rfl rfl rfl (r_add rfl rfl (by omega)) ?_
          refine qd rfl rfl rfl (r_move (v := (.int .i64 ((i : Int) + 1))) rfl) ?_
          refine qe ?_
          refine s_lopN ?_
          refine ⟨_, ?_, _, rfl, _, i + 1, u129, out ++ ([(i : Int)]), q67, G68, (packS (x := 17) (packS (x := 16) (packS (x := 15) (packS (x := 7) (packS (x := 6) (packS (x := 2) (packS (x := 1) (pack1 (x := 0) rfl) rfl) rfl) rfl) rfl) rfl) rfl) rfl), rfl, hX135, (Pin.le_trans (Pin.le_trans (Pin.le_trans hlek21 hlek39) hx60.le) hx74.le), (by omega), (by rw [dom_hit (g := gX q xs) (lf := lf) (show j < xs.length by omega) ⟨h52, (geD_t h81).2 (decP_true.1 ((geB_same (ns_trans hqn29 hqn47)).symm.trans h82)), Or.inl (fun h => (decP_false.1 ((geB_same (ns_trans (ns_trans hqn29 hqn47) hqn59)).symm.trans h83)) ((geD_t h81).1 h))⟩, hout]), ho131, hpk137, hok71, (PX.trans (PX.trans (PX.trans hpx28 hpx46) hpx58) hpx72), (ns_trans (ns_trans (ns_trans hqn29 hqn47) hqn59) hqn73), hnp139⟩
          omega
        refine qs rfl rfl rfl rfl rfl rfl ?_
        refine qs rfl rfl rfl rfl rfl rfl ?_
        refine qs rfl rfl rfl rfl rfl rfl ?_
        refine qsu rfl rfl rfl rfl rfl ?_
        refine qsu rfl rfl rfl rfl rfl ?_
        refine qsu rfl rfl rfl rfl rfl ?_
        refine qs rfl rfl rfl rfl rfl rfl ?_
        refine qd rfl rfl rfl (r_pickF (v := (.bool false)) rfl rfl) ?_
        refine qe ?_
        refine s_then ?_
        refine c_ifF rfl rfl ?_
        refine wp_skip ?_
        refine s_blkN ?_
        refine s_then ?_
        refine c_reg ?_
        refine qd rfl rfl rfl (r_add rfl rfl (by omega)) ?_
        refine qd rfl rfl rfl (r_move (v := (.int .i64 ((j : Int) + 1))) rfl) ?_
        refine qe ?_
        refine s_lopN ?_
        refine ⟨_, ?_, _, rfl, _, j + 1, q67, G68, (packS (x := 24) (packS (x := 23) (packS (x := 22) (packS (x := 17) (packS (x := 16) (packS (x := 15) (packS (x := 9) (packS (x := 8) (packS (x := 7) (packS (x := 6) (packS (x := 2) (packS (x := 1) (pack1 (x := 0) rfl) rfl) rfl) rfl) rfl) rfl) rfl) rfl) rfl) rfl) rfl) rfl) rfl), rfl, hX75, (Pin.le_trans (Pin.le_trans hlek39 hx60.le) hx74.le), (by omega), (fun x h2 => if h3 : x = j then h3 ▸ (fun p => (decP_false.1 ((geB_same (ns_trans hqn29 hqn47)).symm.trans h82)) ((geD_t h81).1 p.2.1)) else hnd x (by omega)), ho76, hpk70, hok71, (PX.trans (PX.trans hpx46 hpx58) hpx72), (ns_trans (ns_trans hqn47 hqn59) hqn73)⟩
        omega
      refine c_reg ?_
      refine qd rfl rfl rfl (r_move (v := (.bool (geB q53.ns (xs.getD i 0) (xs.getD j 0)))) rfl) ?_
      refine qd rfl rfl rfl (r_move (v := (.bool (geB q38.ns (xs.getD j 0) (xs.getD i 0)))) rfl) ?_
      refine qd rfl rfl rfl (r_assign (v := (.bool (geB q53.ns (xs.getD i 0) (xs.getD j 0)))) rfl) ?_
      refine qd rfl rfl rfl (r_assign (v := (.bool (geB q38.ns (xs.getD j 0) (xs.getD i 0)))) rfl) ?_
      refine qe ?_
      refine s_then ?_
      refine s_seq ?_
      refine c_reg ?_
      refine qd rfl rfl rfl (r_move (v := (.bool (geB q53.ns (xs.getD i 0) (xs.getD j 0)))) rfl) ?_
      refine qd rfl rfl rfl (r_move (v := (.bool (geB q53.ns (xs.getD i 0) (xs.getD j 0)))) rfl) ?_
      refine qb (t := 45) rfl (fun h141 => ?_) (fun h141 => ?_)
      · skip
        refine qdg rfl rfl rfl rfl rfl rfl (r_move (v := (.bool (geB q38.ns (xs.getD j 0) (xs.getD i 0)))) rfl) ?_
        refine qdg rfl rfl rfl rfl rfl rfl (r_not rfl) ?_
        refine qdg rfl rfl rfl rfl rfl rfl (r_move (v := (.bool (!(geB q38.ns (xs.getD j 0) (xs.getD i 0))))) rfl) ?_
        refine qbn (t := 48) rfl (fun h142 => ?_) (fun h142 => ?_)
        · skip
          refine qdg rfl rfl rfl rfl rfl rfl (r_move (v := (.int .i64 (j : Int))) rfl) ?_
          refine qdg rfl rfl rfl rfl rfl rfl (r_move (v := (.int .i64 (i : Int))) rfl) ?_
          refine qdg rfl rfl rfl rfl rfl rfl (r_lss rfl rfl) ?_
          refine qdg rfl rfl rfl rfl rfl rfl (r_pickF (v := (.bool (decide (((j : Int) : Int) < (i : Int))))) rfl rfl) ?_
          refine qd rfl rfl rfl (r_pickT (v := (.bool (decide (((j : Int) : Int) < (i : Int))))) rfl rfl) ?_
          refine qe ?_
          refine s_then ?_
          refine c_ifd (p := ((j : Int) : Int) < (i : Int)) rfl rfl (fun h143 => ?_) (fun h143 => ?_)
          · skip
            refine s_seq ?_
            refine c_reg ?_
            refine qd rfl rfl rfl (r_move (v := ov) rfl) ?_
            refine qd rfl rfl rfl (r_move (v := (.int .i64 (i : Int))) rfl) ?_
            refine q1 rfl rfl rfl (o_buildF (E := eInt) (e := 3) [(.int .i64 (i : Int))] [(i : Int)] Tryd.underlying37 sz3 zr3 (by exact reps1 (by rfl)) (ones1 (by rfl)) rfl rfl rfl rfl (by decide) hX75.pins (fun u144 w145 ho146 hp147 hl148 hk149 => ?_))
            have hX150 := hX75.step hp147 hl148
            have ho151 := ho76.below hl148
            have hpk152 := hpk70.below hl148 hp147
            have ha153 : Apart u144.ownBlock ov.ownBlock := new_ne_own hk149 ho76.lt
            have ho159 : Own eInt 3 G68 w145 w.heap.size u144 ([(i : Int)]) := ho146.weaken hX75.size
            refine q1 rfl rfl rfl (o_append (E := eInt) (v := ov) (u := u144) 8 Tryd.underlying37 ap3 (by decide) rfl rfl hX150.pins ho151 ho159.src (by first | omega | (rw [List.nil_append]; omega) | (rw [List.length_nil]; omega) | (rw [List.length_append]; omega) | (simp; done) | (simp; omega) | (simp only [List.length_append, List.length_cons, List.length_nil]; omega)) (by first | omega | (rw [List.nil_append]; omega) | (rw [List.length_nil]; omega) | (rw [List.length_append]; omega) | (simp; done) | (simp; omega) | (simp only [List.length_append, List.length_cons, List.length_nil]; omega)) (hX150.size) (fun u160 w161 ho162 hp163 hg164 hw165 => ?_))
            have hX166 := hX150.write hp163 hg164 ((lo_own ho151))
            have hpk168 := hpk152.kept hg164 hp163 hnp30
            have ha169 : Apart u144.ownBlock u160.ownBlock := app_ne_own ha153 hw165 ho159.lt
            have hnp170 := np_app hnp30 hpk152 hw165
            have hm171 : (out ++ ([(i : Int)])).length = out.length + 1 := List.length_append
            refine qd rfl rfl rfl (r_assign (v := u160) rfl) ?_
            refine qe ?_
            refine s_then ?_
            refine wp_exit ?_
            refine s_blkO rfl ?_
            refine s_thenE ?_
            refine s_lopE ?_
            refine s_blkE ?_
            refine s_blkN ?_
            refine s_then ?_
            refine c_reg ?_
            refine qd rfl rfl rfl (r_add rfl rfl (by omega)) ?_
            refine qd rfl rfl rfl (r_move (v := (.int .i64 ((i : Int) + 1))) rfl) ?_
            refine qe ?_
            refine s_lopN ?_
            refine ⟨_, ?_, _, rfl, _, i + 1, u160, out ++ ([(i : Int)]), q67, G68, (packS (x := 17) (packS (x := 16) (packS (x := 15) (packS (x := 7) (packS (x := 6) (packS (x := 2) (packS (x := 1) (pack1 (x := 0) rfl) rfl) rfl) rfl) rfl) rfl) rfl) rfl), rfl, hX166, (Pin.le_trans (Pin.le_trans (Pin.le_trans hlek21 hlek39) hx60.le) hx74.le), (by omega), (by rw [dom_hit (g := gX q xs) (lf := lf) (show j < xs.length by omega) ⟨h52, (geD_f h81).2 (decP_true.1 ((geB_same (ns_trans (ns_trans hqn29 hqn47) hqn59)).symm.trans h141)), Or.inr h143⟩, hout]), ho162, hpk168, hok71, (PX.trans (PX.trans (PX.trans hpx28 hpx46) hpx58) hpx72), (ns_trans (ns_trans (ns_trans hqn29 hqn47) hqn59) hqn73), hnp170⟩
            omega
          refine wp_skip ?_
          refine s_blkN ?_
          refine s_then ?_
          refine c_reg ?_
          refine qd rfl rfl rfl (r_add rfl rfl (by omega)) ?_
          refine qd rfl rfl rfl (r_move (v := (.int .i64 ((j : Int) + 1))) rfl) ?_
          refine qe ?_
          refine s_lopN ?_
          refine ⟨_, ?_, _, rfl, _, j + 1, q67, G68, (packS (x := 24) (packS (x := 23) (packS (x := 22) (packS (x := 17) (packS (x := 16) (packS (x := 15) (packS (x := 9) (packS (x := 8) (packS (x := 7) (packS (x := 6) (packS (x := 2) (packS (x := 1) (pack1 (x := 0) rfl) rfl) rfl) rfl) rfl) rfl) rfl) rfl) rfl) rfl) rfl) rfl) rfl), rfl, hX75, (Pin.le_trans (Pin.le_trans hlek39 hx60.le) hx74.le), (by omega), (fun x h2 => if h3 : x = j then h3 ▸ (fun p => p.2.2.elim (fun h => h ((geD_f h81).2 (decP_true.1 ((geB_same (ns_trans hqn29 hqn47)).symm.trans h142)))) h143) else hnd x (by omega)), ho76, hpk70, hok71, (PX.trans (PX.trans hpx46 hpx58) hpx72), (ns_trans (ns_trans hqn47 hqn59) hqn73)⟩
          omega
        refine qs rfl rfl rfl rfl rfl rfl ?_
        refine qs rfl rfl rfl rfl rfl rfl ?_
        refine qs rfl rfl rfl rfl rfl rfl ?_
        refine qdg rfl rfl rfl rfl rfl rfl (r_pickT (v := (.bool true)) rfl rfl) ?_
        refine qd rfl rfl rfl (r_pickT (v := (.bool true)) rfl rfl) ?_
        refine qe ?_
        refine s_then ?_
        refine c_ifT rfl rfl ?_
        refine s_seq ?_
        refine c_reg ?_
        refine qd rfl rfl rfl (r_move (v := ov) rfl) ?_
        refine qd rfl rfl rfl (r_move (v := (.int .i64 (i : Int))) rfl) ?_
        refine q1 rfl rfl rfl (o_buildF (E := eInt) (e := 3) [(.int .i64 (i : Int))] [(i : Int)] Tryd.underlying37 sz3 zr3 (by exact reps1 (by rfl)) (ones1 (by rfl)) rfl rfl rfl rfl (by decide) hX75.pins (fun u172 w173 ho174 hp175 hl176 hk177 => ?_))
        have hX178 := hX75.step hp175 hl176
        have ho179 := ho76.below hl176
        have hpk180 := hpk70.below hl176 hp175
        have ha181 : Apart u172.ownBlock ov.ownBlock := new_ne_own hk177 ho76.lt
        have ho187 : Own eInt 3 G68 w173 w.heap.size u172 ([(i : Int)]) := ho174.weaken hX75.size
        refine q1 rfl rfl rfl (o_append (E := eInt) (v := ov) (u := u172) 8 Tryd.underlying37 ap3 (by decide) rfl rfl hX178.pins ho179 ho187.src (by first | omega | (rw [List.nil_append]; omega) | (rw [List.length_nil]; omega) | (rw [List.length_append]; omega) | (simp; done) | (simp; omega) | (simp only [List.length_append, List.length_cons, List.length_nil]; omega)) (by first | omega | (rw [List.nil_append]; omega) | (rw [List.length_nil]; omega) | (rw [List.length_append]; omega) | (simp; done) | (simp; omega) | (simp only [List.length_append, List.length_cons, List.length_nil]; omega)) (hX178.size) (fun u188 w189 ho190 hp191 hg192 hw193 => ?_))
        have hX194 := hX178.write hp191 hg192 ((lo_own ho179))
        have hpk196 := hpk180.kept hg192 hp191 hnp30
        have ha197 : Apart u172.ownBlock u188.ownBlock := app_ne_own ha181 hw193 ho187.lt
        have hnp198 := np_app hnp30 hpk180 hw193
        have hm199 : (out ++ ([(i : Int)])).length = out.length + 1 := List.length_append
        refine qd rfl rfl rfl (r_assign (v := u188) rfl) ?_
        refine qe ?_
        refine s_then ?_
        refine wp_exit ?_
        refine s_blkO rfl ?_
        refine s_thenE ?_
        refine s_lopE ?_
        refine s_blkE ?_
        refine s_blkN ?_
        refine s_then ?_
        refine c_reg ?_
        refine qd rfl rfl rfl (r_add rfl rfl (by omega)) ?_
        refine qd rfl rfl rfl (r_move (v := (.int .i64 ((i : Int) + 1))) rfl) ?_
        refine qe ?_
        refine s_lopN ?_
        refine ⟨_, ?_, _, rfl, _, i + 1, u188, out ++ ([(i : Int)]), q67, G68, (packS (x := 17) (packS (x := 16) (packS (x := 15) (packS (x := 7) (packS (x := 6) (packS (x := 2) (packS (x := 1) (pack1 (x := 0) rfl) rfl) rfl) rfl) rfl) rfl) rfl) rfl), rfl, hX194, (Pin.le_trans (Pin.le_trans (Pin.le_trans hlek21 hlek39) hx60.le) hx74.le), (by omega), (by rw [dom_hit (g := gX q xs) (lf := lf) (show j < xs.length by omega) ⟨h52, (geD_f h81).2 (decP_true.1 ((geB_same (ns_trans (ns_trans hqn29 hqn47) hqn59)).symm.trans h141)), Or.inl (fun h => (decP_false.1 ((geB_same (ns_trans hqn29 hqn47)).symm.trans h142)) ((geD_f h81).1 h))⟩, hout]), ho190, hpk196, hok71, (PX.trans (PX.trans (PX.trans hpx28 hpx46) hpx58) hpx72), (ns_trans (ns_trans (ns_trans hqn29 hqn47) hqn59) hqn73), hnp198⟩
        omega
      refine qs rfl rfl rfl rfl rfl rfl ?_
      refine qs rfl rfl rfl rfl rfl rfl ?_
      refine qs rfl rfl rfl rfl rfl rfl ?_
      refine qsu rfl rfl rfl rfl rfl ?_
      refine qsu rfl rfl rfl rfl rfl ?_
      refine qsu rfl rfl rfl rfl rfl ?_
      refine qs rfl rfl rfl rfl rfl rfl ?_
      refine qd rfl rfl rfl (r_pickF (v := (.bool false)) rfl rfl) ?_
      refine qe ?_
      refine s_then ?_
      refine c_ifF rfl rfl ?_
      refine wp_skip ?_
      refine s_blkN ?_
      refine s_then ?_
      refine c_reg ?_
      refine qd rfl rfl rfl (r_add rfl rfl (by omega)) ?_
      refine qd rfl rfl rfl (r_move (v := (.int .i64 ((j : Int) + 1))) rfl) ?_
      refine qe ?_
      refine s_lopN ?_
      refine ⟨_, ?_, _, rfl, _, j + 1, q67, G68, (packS (x := 24) (packS (x := 23) (packS (x := 22) (packS (x := 17) (packS (x := 16) (packS (x := 15) (packS (x := 9) (packS (x := 8) (packS (x := 7) (packS (x := 6) (packS (x := 2) (packS (x := 1) (pack1 (x := 0) rfl) rfl) rfl) rfl) rfl) rfl) rfl) rfl) rfl) rfl) rfl) rfl) rfl), rfl, hX75, (Pin.le_trans (Pin.le_trans hlek39 hx60.le) hx74.le), (by omega), (fun x h2 => if h3 : x = j then h3 ▸ (fun p => (decP_false.1 ((geB_same (ns_trans (ns_trans hqn29 hqn47) hqn59)).symm.trans h141)) ((geD_f h81).1 p.2.1)) else hnd x (by omega)), ho76, hpk70, hok71, (PX.trans (PX.trans hpx46 hpx58) hpx72), (ns_trans (ns_trans hqn47 hqn59) hqn73)⟩
      omega
    refine wp_exit ?_
    refine s_thenE ?_
    refine s_lopE ?_
    refine s_blkE ?_
    refine s_blkN ?_
    refine s_then ?_
    refine c_reg ?_
    refine qd rfl rfl rfl (r_add rfl rfl (by omega)) ?_
    refine qd rfl rfl rfl (r_move (v := (.int .i64 ((i : Int) + 1))) rfl) ?_
    refine qe ?_
    refine s_lopN ?_
    refine ⟨_, ?_, _, rfl, _, i + 1, ov, out, q38, GL2, (packS (x := 17) (packS (x := 16) (packS (x := 15) (packS (x := 7) (packS (x := 6) (packS (x := 2) (packS (x := 1) (pack1 (x := 0) rfl) rfl) rfl) rfl) rfl) rfl) rfl) rfl), rfl, hX42, (Pin.le_trans hlek21 hlek39), (by omega), (by rw [dom_miss (fun x h => hnd x (by omega)), hout]), hw43, hpk44, hok45, (PX.trans hpx28 hpx46), (ns_trans hqn29 hqn47), hnp30⟩
    omega
  refine wp_exit ?_
  refine s_thenE ?_
  refine s_lopE ?_
  refine s_blkE ?_
  refine s_then ?_
  refine s_seq ?_
  refine c_reg ?_
  refine qd rfl rfl rfl (r_move (v := ov) rfl) ?_
  refine qd rfl rfl rfl (r_assign (v := ov) rfl) ?_
  refine qe ?_
  refine s_then ?_
  refine wp_ret ?_
  refine s_ret ?_
  refine c_ret1 (v := ov) rfl rfl rfl ?_
  have hin : i = xs.length := by omega
  rw [hin] at hout
  exact ⟨_, q20, _, rfl, (by rw [← hout]; exact hw25), hpk26, hok27, hpx28, hqn29, hX24⟩

end DI1
end Go.Proofs.YtfkompdmejpmmaaDoor

/- Walks, printed by a program (walkgen.py) from the spec specs_rv. -/
set_option maxRecDepth 20000
set_option maxHeartbeats 2000000
namespace Go.Proofs.YtfkompdmejpmmaaDoor
namespace RI1
open Go.RowKit Go.GL Go.Proofs
open Go.Proofs.YtfkompdmejpmmaaDoor.B1
open Go.Proofs.YtfkompdmejpmmaaDoor.K1
open Go.Proofs.YtfkompdmejpmmaaDoor.PO1
open Go.Proofs.YtfkompdmejpmmaaDoor.PL1
theorem ag3 : (Tryd.prog.underlying 3).map aggD = some false := by kernel_rfl
theorem nm69 : (Tryd.f69.name == "runtime.NumGoroutine") = false := by kernel_rfl
theorem sz3 : (Tryd.prog.info? 3).map (·.size) = some 1 := by kernel_rfl

theorem through_spec {p : Nat} {L R B : Value} {mm : PM} {w : World} {G : Pin} {q : PSt} {f c : Int} {x : Value} {xs : List Int} {lf : Bool} (hP : Pins G w) (hpk : Pk 37 3 G w p L R B mm q) (hok : PoolOk q) (hf : PlaceOk q f) (hc : PlaceOk q c) (hx : RSl eInt G x xs) (hxs : xs = (if lf = true then (q.ns.getD (c).toNat default).r else (q.ns.getD (c).toNat default).l)) (hxp : ∀ z ∈ xs, PlaceOk q z) :
    Calls Tryd.prog 60 [(.pointer (some ⟨p, 0, none⟩)), (.int .i64 f), (.int .i64 c), (.bool lf), x].toArray w fun e w' => ∃ (t : Int) (q' : PSt) (G' : Pin), e = .returned (.int .i64 t) ∧ thrP q.ns lf f c t ∧ Pk 37 3 G' w' p L R B mm q' ∧ PoolOk q' ∧ PX q q' ∧ (q'.ns = q.ns ∧ q'.bs = q.bs) ∧ Ext (inO (some mm.o)) G w G' w' := by
  refine s_enter (n := 38) Tryd.func60 Tryd.ntmps60 rfl rfl ?_
  have hX0 : Ext (inO (some mm.o)) G w G w := Ext.refl hP
  have hpin : PIn w (inP p L R B mm) p L R B mm := PIn.self
  have hml1 : (q.ns.map Nd.l).length = q.ns.length ∧ (q.ns.map Nd.r).length = q.ns.length := ⟨List.length_map .., List.length_map ..⟩
  have hml2 : q.bs.length = q.ns.length ∧ q.ns.length ≤ 1048576 := ⟨hok.ar.ok.len, hok.ar.ok.lim⟩
  have hm := hx.max
  refine s_seq ?_
  refine c_reg ?_
  refine qd rfl rfl rfl (r_assign (v := (.int .i64 0)) rfl) ?_
  refine qe ?_
  refine s_then ?_
  refine s_seq ?_
  refine s_seq ?_
  refine c_reg ?_
  refine qd rfl rfl rfl (r_move (v := x) rfl) ?_
  refine qd rfl rfl rfl (run_len Tryd.underlying37 (v := x) rfl hx) ?_
  refine qd rfl rfl rfl (r_move (v := (.int .i64 0)) rfl) ?_
  refine qe ?_
  refine s_then ?_
  refine s_blk ?_
  refine s_loop (fun (k : Nat) (en : Nat → Value) (W : World) => ∃ (env1 : Nat → Value) (i : Nat) (q6 : PSt) (GL1 : Pin), en = (upd (upd (upd (upd (upd (upd env1 0 (.pointer (some ⟨p, 0, none⟩))) 1 (.int .i64 f)) 3 (.bool lf)) 13 x) 14 (.int .i64 (xs.length : Int))) 15 (.int .i64 (i : Int))) ∧ k = xs.length - i ∧ Ext (inO (some mm.o)) G w GL1 W ∧ Pin.le G GL1 ∧ (i ≤ xs.length) ∧ (lf = true → ∀ x, x < i → geB q.ns f (xs.getD x 0) = false) ∧ (lf = false → ∀ x, x < i → geB q.ns (xs.getD x 0) f = false) ∧ (Pk 37 3 GL1 W p L R B mm q6) ∧ (PoolOk q6) ∧ (PX q q6) ∧ (q6.ns = q.ns ∧ q6.bs = q.bs)) _ ⟨_, 0, q, G, (packS (x := 15) (packS (x := 14) (packS (x := 13) (packS (x := 3) (packS (x := 1) (pack1 (x := 0) rfl) rfl) rfl) rfl) rfl) rfl), rfl, hX0, Pin.le_refl _, Nat.zero_le _, (fun _ x h => absurd h (Nat.not_lt_zero x)), (fun _ x h => absurd h (Nat.not_lt_zero x)), hpk, hok, (PX.refl _), ⟨rfl, rfl⟩⟩ ?_
  rintro k7 _ w8 ⟨env1, i, q6, GL1, rfl, hk9, hX10, hlek7, hi, hpt, hpf, hpk11, hok12, hpx13, hqn14⟩
  have hql15 := hpx13.len
  have hml16 : (q6.ns.map Nd.l).length = q6.ns.length ∧ (q6.ns.map Nd.r).length = q6.ns.length := ⟨List.length_map .., List.length_map ..⟩
  have hml17 : q6.bs.length = q6.ns.length ∧ q6.ns.length ≤ 1048576 := ⟨hok12.ar.ok.len, hok12.ar.ok.lim⟩
  refine s_seq ?_
  refine c_reg ?_
  refine qd rfl rfl rfl (r_lss rfl rfl) ?_
  refine qe ?_
  refine s_then ?_
  refine s_seq ?_
  refine c_ifd (p := ((i : Int) : Int) < (xs.length : Int)) rfl rfl (fun h18 => ?_) (fun h18 => ?_)
  · skip
    refine wp_skip ?_
    refine s_then ?_
    refine s_seq ?_
    refine s_blk ?_
    refine s_seq ?_
    refine c_reg ?_
    refine qd rfl rfl rfl (run_idx Tryd.underlying37 sz3 (v := x) rfl rfl hx (by omega) (by omega)) ?_
    refine qd rfl rfl rfl (run_load_int (r := xs.getD i 0) rfl ag3 (z := (i : Int)) rfl hx (Pins.of_le hX10.pins hlek7) (by omega) (by omega)) ?_
    refine qd rfl rfl rfl (r_assign (v := (.int .i64 (xs.getD i 0))) rfl) ?_
    refine qe ?_
    refine s_then ?_
    refine s_seq ?_
    refine c_reg ?_
    refine qd rfl rfl rfl (r_move (v := (.bool lf)) rfl) ?_
    refine qd rfl rfl rfl (r_move (v := (.bool lf)) rfl) ?_
    refine qb (t := 20) rfl (fun h19 => ?_) (fun h19 => ?_)
    · skip
      refine qdg rfl rfl rfl rfl rfl rfl (r_move (v := (.pointer (some ⟨p, 0, none⟩))) rfl) ?_
      refine qdg rfl rfl rfl rfl rfl rfl (r_move (v := (.int .i64 f)) rfl) ?_
      refine qdg rfl rfl rfl rfl rfl rfl (r_move (v := (.int .i64 (xs.getD i 0))) rfl) ?_
      refine q1g rfl rfl rfl rfl rfl rfl (o_call (vs := [(.pointer (some ⟨p, 0, none⟩)), (.int .i64 f), (.int .i64 (xs.getD i 0))]) Tryd.func69 nm69 rfl rfl rfl ?_)
      refine Calls.mono (ge_spec hX10.pins hpk11 hok12 (hf.same hqn14) ((hxp _ (getD_mem (d := (0 : Int)) (show i < xs.length by omega))).same hqn14)) ?_
      rintro _ w22 ⟨q20, G21, rfl, hpk23, hok24, hpx25, hqn26, hx27⟩
      refine ⟨_, rfl, ?_⟩
      have hX28 := hX10.trans hx27 (fun i hi => lo_self i hi)
      have hql29 := hpx25.len
      have hml30 : (q20.ns.map Nd.l).length = q20.ns.length ∧ (q20.ns.map Nd.r).length = q20.ns.length := ⟨List.length_map .., List.length_map ..⟩
      have hml31 : q20.bs.length = q20.ns.length ∧ q20.ns.length ≤ 1048576 := ⟨hok24.ar.ok.len, hok24.ar.ok.lim⟩
      have hql32 := congrArg List.length hqn26.1
      refine qd rfl rfl rfl (r_pickT (v := (.bool (geB q6.ns f (xs.getD i 0)))) rfl rfl) ?_
      refine qd rfl rfl rfl (r_move (v := (.bool (geB q6.ns f (xs.getD i 0)))) rfl) ?_
      refine qb (t := 26) rfl (fun h33 => ?_) (fun h33 => ?_)
      · skip
        refine qs rfl rfl rfl rfl rfl rfl ?_
        refine qs rfl rfl rfl rfl rfl rfl ?_
        refine qs rfl rfl rfl rfl rfl rfl ?_
        refine qsu rfl rfl rfl rfl rfl ?_
        refine qsu rfl rfl rfl rfl rfl ?_
        refine qsu rfl rfl rfl rfl rfl ?_
        refine qsu rfl rfl rfl rfl rfl ?_
        refine qs rfl rfl rfl rfl rfl rfl ?_
        refine qd rfl rfl rfl (r_pickT (v := (.bool true)) rfl rfl) ?_
        refine qe ?_
        refine s_then ?_
        refine c_ifT rfl rfl ?_
        refine s_seq ?_
        refine c_reg ?_
        refine qd rfl rfl rfl (r_move (v := (.int .i64 (xs.getD i 0))) rfl) ?_
        refine qd rfl rfl rfl (r_assign (v := (.int .i64 (xs.getD i 0))) rfl) ?_
        refine qe ?_
        refine s_then ?_
        refine wp_ret ?_
        refine s_ret ?_
        refine c_ret1 (v := (.int .i64 (xs.getD i 0))) rfl rfl rfl ?_
        have hmem : xs.getD i 0 ∈ xs := getD_mem (show i < xs.length by omega)
        rw [h19, if_pos rfl] at hxs
        exact ⟨_, q20, _, rfl, thr_hit hok.ar.opts hc (Or.inl ⟨h19, hxs ▸ hmem, ((geB_same hqn14).symm.trans h33)⟩), hpk23, hok24, (PX.trans hpx13 hpx25), (ns_trans hqn14 hqn26), hX28⟩
      refine qdg rfl rfl rfl rfl rfl rfl (r_move (v := (.bool lf)) rfl) ?_
      refine qdg rfl rfl rfl rfl rfl rfl (r_not rfl) ?_
      refine qdg rfl rfl rfl rfl rfl rfl (r_move (v := (.bool (!lf))) rfl) ?_
      refine qbn (t := 29) rfl (fun h34 => ?_) (fun h34 => ?_)
      · skip
        refine qs rfl rfl rfl rfl rfl rfl ?_
        refine qs rfl rfl rfl rfl rfl rfl ?_
        refine qs rfl rfl rfl rfl rfl rfl ?_
        refine qs rfl rfl rfl rfl rfl rfl ?_
        refine qdg rfl rfl rfl rfl rfl rfl (r_pickF (v := (.bool false)) rfl rfl) ?_
        refine qd rfl rfl rfl (r_pickF (v := (.bool false)) rfl rfl) ?_
        refine qe ?_
        refine s_then ?_
        refine c_ifF rfl rfl ?_
        refine wp_skip ?_
        refine s_blkN ?_
        refine s_then ?_
        refine c_reg ?_
        refine qd rfl rfl rfl (r_add rfl rfl (by omega)) ?_
        refine qd rfl rfl rfl (r_move (v := (.int .i64 ((i : Int) + 1))) rfl) ?_
        refine qe ?_
        refine s_lopN ?_
        refine ⟨_, ?_, _, rfl, _, i + 1, q20, G21, (packS (x := 15) (packS (x := 14) (packS (x := 13) (packS (x := 3) (packS (x := 1) (pack1 (x := 0) rfl) rfl) rfl) rfl) rfl) rfl), rfl, hX28, (Pin.le_trans hlek7 hx27.le), (by omega), (fun hl x h2 => if h3 : x = i then h3 ▸ ((geB_same hqn14).symm.trans h33) else hpt hl x (by omega)), (fun hl => absurd (h19.symm.trans hl) (by decide)), hpk23, hok24, (PX.trans hpx13 hpx25), (ns_trans hqn14 hqn26)⟩
        omega
      refine qdg rfl rfl rfl rfl rfl rfl (r_move (v := (.pointer (some ⟨p, 0, none⟩))) rfl) ?_
      refine qdg rfl rfl rfl rfl rfl rfl (r_move (v := (.int .i64 (xs.getD i 0))) rfl) ?_
      refine qdg rfl rfl rfl rfl rfl rfl (r_move (v := (.int .i64 f)) rfl) ?_
      refine q1g rfl rfl rfl rfl rfl rfl (o_call (vs := [(.pointer (some ⟨p, 0, none⟩)), (.int .i64 (xs.getD i 0)), (.int .i64 f)]) Tryd.func69 nm69 rfl rfl rfl ?_)
      refine Calls.mono (ge_spec hX28.pins hpk23 hok24 ((hxp _ (getD_mem (d := (0 : Int)) (show i < xs.length by omega))).same (ns_trans hqn14 hqn26)) (hf.same (ns_trans hqn14 hqn26))) ?_
      rintro _ w37 ⟨q35, G36, rfl, hpk38, hok39, hpx40, hqn41, hx42⟩
      refine ⟨_, rfl, ?_⟩
      have hX43 := hX28.trans hx42 (fun i hi => lo_self i hi)
      have hql44 := hpx40.len
      have hml45 : (q35.ns.map Nd.l).length = q35.ns.length ∧ (q35.ns.map Nd.r).length = q35.ns.length := ⟨List.length_map .., List.length_map ..⟩
      have hml46 : q35.bs.length = q35.ns.length ∧ q35.ns.length ≤ 1048576 := ⟨hok39.ar.ok.len, hok39.ar.ok.lim⟩
      have hql47 := congrArg List.length hqn41.1
      refine qdg rfl rfl rfl rfl rfl rfl (r_pickT (v := (.bool (geB q20.ns (xs.getD i 0) f))) rfl rfl) ?_
      refine qd rfl rfl rfl (r_pickF (v := (.bool (geB q20.ns (xs.getD i 0) f))) rfl rfl) ?_
      refine qe ?_
      refine s_then ?_
      refine c_if rfl rfl (fun h48 => ?_) (fun h48 => ?_)
      · skip
        refine s_seq ?_
        refine c_reg ?_
        refine qd rfl rfl rfl (r_move (v := (.int .i64 (xs.getD i 0))) rfl) ?_
        refine qd rfl rfl rfl (r_assign (v := (.int .i64 (xs.getD i 0))) rfl) ?_
        refine qe ?_
        refine s_then ?_
        refine wp_ret ?_
        refine s_ret ?_
        refine c_ret1 (v := (.int .i64 (xs.getD i 0))) rfl rfl rfl ?_
        exact (absurd (h34.symm.trans h19) Bool.false_ne_true)
      refine wp_skip ?_
      refine s_blkN ?_
      refine s_then ?_
      refine c_reg ?_
      refine qd rfl rfl rfl (r_add rfl rfl (by omega)) ?_
      refine qd rfl rfl rfl (r_move (v := (.int .i64 ((i : Int) + 1))) rfl) ?_
      refine qe ?_
      refine s_lopN ?_
      refine ⟨_, ?_, _, rfl, _, i + 1, q35, G36, (packS (x := 15) (packS (x := 14) (packS (x := 13) (packS (x := 3) (packS (x := 1) (pack1 (x := 0) rfl) rfl) rfl) rfl) rfl) rfl), rfl, hX43, (Pin.le_trans (Pin.le_trans hlek7 hx27.le) hx42.le), (by omega), (absurd (h34.symm.trans h19) Bool.false_ne_true), (absurd (h34.symm.trans h19) Bool.false_ne_true), hpk38, hok39, (PX.trans (PX.trans hpx13 hpx25) hpx40), (ns_trans (ns_trans hqn14 hqn26) hqn41)⟩
      omega
    refine qs rfl rfl rfl rfl rfl rfl ?_
    refine qs rfl rfl rfl rfl rfl rfl ?_
    refine qs rfl rfl rfl rfl rfl rfl ?_
    refine qs rfl rfl rfl rfl rfl rfl ?_
    refine qd rfl rfl rfl (r_pickF (v := (.bool false)) rfl rfl) ?_
    refine qd rfl rfl rfl (r_move (v := (.bool false)) rfl) ?_
    refine qdg rfl rfl rfl rfl rfl rfl (r_move (v := (.bool lf)) rfl) ?_
    refine qdg rfl rfl rfl rfl rfl rfl (r_not rfl) ?_
    refine qdg rfl rfl rfl rfl rfl rfl (r_move (v := (.bool (!lf))) rfl) ?_
    refine qbn (t := 29) rfl (fun h49 => ?_) (fun h49 => ?_)
    · skip
      refine qs rfl rfl rfl rfl rfl rfl ?_
      refine qs rfl rfl rfl rfl rfl rfl ?_
      refine qs rfl rfl rfl rfl rfl rfl ?_
      refine qs rfl rfl rfl rfl rfl rfl ?_
      refine qdg rfl rfl rfl rfl rfl rfl (r_pickF (v := (.bool false)) rfl rfl) ?_
      refine qd rfl rfl rfl (r_pickF (v := (.bool false)) rfl rfl) ?_
      refine qe ?_
      refine s_then ?_
      refine c_ifF rfl rfl ?_
      refine wp_skip ?_
      refine s_blkN ?_
      refine s_then ?_
      refine c_reg ?_
      refine qd rfl rfl rfl (r_add rfl rfl (by omega)) ?_
      refine qd rfl rfl rfl (r_move (v := (.int .i64 ((i : Int) + 1))) rfl) ?_
      refine qe ?_
      refine s_lopN ?_
      refine ⟨_, ?_, _, rfl, _, i + 1, q6, GL1, (packS (x := 15) (packS (x := 14) (packS (x := 13) (packS (x := 3) (packS (x := 1) (pack1 (x := 0) rfl) rfl) rfl) rfl) rfl) rfl), rfl, hX10, hlek7, (by omega), (absurd (h19.symm.trans h49) Bool.false_ne_true), (absurd (h19.symm.trans h49) Bool.false_ne_true), hpk11, hok12, hpx13, hqn14⟩
      omega
    refine qdg rfl rfl rfl rfl rfl rfl (r_move (v := (.pointer (some ⟨p, 0, none⟩))) rfl) ?_
    refine qdg rfl rfl rfl rfl rfl rfl (r_move (v := (.int .i64 (xs.getD i 0))) rfl) ?_
    refine qdg rfl rfl rfl rfl rfl rfl (r_move (v := (.int .i64 f)) rfl) ?_
    refine q1g rfl rfl rfl rfl rfl rfl (o_call (vs := [(.pointer (some ⟨p, 0, none⟩)), (.int .i64 (xs.getD i 0)), (.int .i64 f)]) Tryd.func69 nm69 rfl rfl rfl ?_)
    refine Calls.mono (ge_spec hX10.pins hpk11 hok12 ((hxp _ (getD_mem (d := (0 : Int)) (show i < xs.length by omega))).same hqn14) (hf.same hqn14)) ?_
    rintro _ w52 ⟨q50, G51, rfl, hpk53, hok54, hpx55, hqn56, hx57⟩
    refine ⟨_, rfl, ?_⟩
    have hX58 := hX10.trans hx57 (fun i hi => lo_self i hi)
    have hql59 := hpx55.len
    have hml60 : (q50.ns.map Nd.l).length = q50.ns.length ∧ (q50.ns.map Nd.r).length = q50.ns.length := ⟨List.length_map .., List.length_map ..⟩
    have hml61 : q50.bs.length = q50.ns.length ∧ q50.ns.length ≤ 1048576 := ⟨hok54.ar.ok.len, hok54.ar.ok.lim⟩
    have hql62 := congrArg List.length hqn56.1
    refine qdg rfl rfl rfl rfl rfl rfl (r_pickT (v := (.bool (geB q6.ns (xs.getD i 0) f))) rfl rfl) ?_
    refine qd rfl rfl rfl (r_pickF (v := (.bool (geB q6.ns (xs.getD i 0) f))) rfl rfl) ?_
    refine qe ?_
    refine s_then ?_
    refine c_if rfl rfl (fun h63 => ?_) (fun h63 => ?_)
    · skip
      refine s_seq ?_
      refine c_reg ?_
      refine qd rfl rfl rfl (r_move (v := (.int .i64 (xs.getD i 0))) rfl) ?_
      refine qd rfl rfl rfl (r_assign (v := (.int .i64 (xs.getD i 0))) rfl) ?_
      refine qe ?_
      refine s_then ?_
      refine wp_ret ?_
      refine s_ret ?_
      refine c_ret1 (v := (.int .i64 (xs.getD i 0))) rfl rfl rfl ?_
      have hmem : xs.getD i 0 ∈ xs := getD_mem (show i < xs.length by omega)
      rw [h19, if_neg Bool.false_ne_true] at hxs
      exact ⟨_, q50, _, rfl, thr_hit hok.ar.opts hc (Or.inr ⟨h19, hxs ▸ hmem, ((geB_same hqn14).symm.trans h63)⟩), hpk53, hok54, (PX.trans hpx13 hpx55), (ns_trans hqn14 hqn56), hX58⟩
    refine wp_skip ?_
    refine s_blkN ?_
    refine s_then ?_
    refine c_reg ?_
    refine qd rfl rfl rfl (r_add rfl rfl (by omega)) ?_
    refine qd rfl rfl rfl (r_move (v := (.int .i64 ((i : Int) + 1))) rfl) ?_
    refine qe ?_
    refine s_lopN ?_
    refine ⟨_, ?_, _, rfl, _, i + 1, q50, G51, (packS (x := 15) (packS (x := 14) (packS (x := 13) (packS (x := 3) (packS (x := 1) (pack1 (x := 0) rfl) rfl) rfl) rfl) rfl) rfl), rfl, hX58, (Pin.le_trans hlek7 hx57.le), (by omega), (fun hl => absurd (h19.symm.trans hl) (by decide)), (fun hl x h2 => if h3 : x = i then h3 ▸ ((geB_same hqn14).symm.trans h63) else hpf hl x (by omega)), hpk53, hok54, (PX.trans hpx13 hpx55), (ns_trans hqn14 hqn56)⟩
    omega
  refine wp_exit ?_
  refine s_thenE ?_
  refine s_lopE ?_
  refine s_blkE ?_
  refine s_then ?_
  refine s_seq ?_
  refine c_reg ?_
  refine qd rfl rfl rfl (r_assign (v := (.int .i64 (-1))) rfl) ?_
  refine qe ?_
  refine s_then ?_
  refine wp_ret ?_
  refine s_ret ?_
  refine c_ret1 (v := (.int .i64 (-1))) rfl rfl rfl ?_
  have hii : i = xs.length := by omega
  refine ⟨_, q6, _, rfl, ?_, hpk11, hok12, hpx13, hqn14, hX10⟩
  cases hlf : lf
  · rw [hlf, if_neg Bool.false_ne_true] at hxs
    exact thr_none_f hok.ar.opts hc (fun k hk => by rw [← hxs] at hk ⊢; exact hpf hlf k (by omega))
  · rw [hlf, if_pos rfl] at hxs
    exact thr_none_t hok.ar.opts hc (fun k hk => by rw [← hxs] at hk ⊢; exact hpt hlf k (by omega))

end RI1
end Go.Proofs.YtfkompdmejpmmaaDoor

/- The work list of reduced, as the walk meets it. -/
namespace Go.GL
open Go Go.RowKit
theorem rd_pop {wl : List Int} {m : Nat} (hm : m + 1 = wl.length) : wl = wl.take m ++ [wl.getD m 0] := by
  have h : m < wl.length := by omega
  have e := List.take_succ_eq_append_getElem h
  rw [hm, List.take_length] at e
  rw [List.getD, List.getElem?_eq_getElem h]
  exact e
section
variable {q : PSt} {lf : Bool} {g : Nat} {wl ss kept : List Int} {m : Nat}
theorem RdW.pop (h : RdW q lf g wl ss kept) (hm : m + 1 = wl.length) : RdW q lf g (wl.take m ++ [wl.getD m 0]) ss kept := by rw [← rd_pop hm]; exact h
theorem RdW.at_ (h : RdW q lf g wl ss kept) (hm : m + 1 = wl.length) : PlaceOk q (wl.getD m 0) := (h.all _ (Or.inl (getD_mem (by omega)))).1
theorem RdW.same {q2 : PSt} (hn : q2.ns = q.ns ∧ q2.bs = q.bs) (h : RdW q lf g wl ss kept) : RdW q2 lf g wl ss kept := by
  have hp : pd q2 = pd q := funext fun z => pd_same hn
  have hl : ∀ z, PlaceOk q z → PlaceOk q2 z := fun z hz => hz.same hn
  exact ⟨fun i hi => ⟨hl i (h.all i hi).1, by rw [hp]; exact (h.all i hi).2⟩, h.nd, h.ndk, by rw [hp]; exact h.keep, by rw [hp]; exact h.pass, by rw [hp]; exact h.opts⟩
end
theorem ReOk.same {q q2 : PSt} {lf : Bool} {f : Int} {zs : List Int} (hn : q2.ns = q.ns ∧ q2.bs = q.bs) (h : ReOk q lf f zs) : ReOk q2 lf f zs := by
  have hp : pd q2 = pd q := funext fun z => pd_same hn
  exact ⟨h.len, fun z hz => (h.pl z hz).same hn, by rw [hp]; exact h.red⟩
/-- The table of what was seen. -/
def SnOk (sn : List (Int × Bool)) (ss : List Int) : Prop := ∀ i, look sn i = if i ∈ ss then some true else none
theorem SnOk.start : SnOk [] [] := fun _ => rfl
theorem SnOk.yes {sn : List (Int × Bool)} {ss : List Int} {i : Int} (h : SnOk sn ss) (hi : (look sn i).getD false = true) : i ∈ ss := by
  rw [h i] at hi
  split at hi
  · assumption
  · cases hi
theorem SnOk.no {sn : List (Int × Bool)} {ss : List Int} {i : Int} (h : SnOk sn ss) (hi : (look sn i).getD false = false) : i ∉ ss := fun hm => by
  rw [h i, if_pos hm] at hi; cases hi
theorem SnOk.put {sn : List (Int × Bool)} {ss : List Int} {i : Int} (h : SnOk sn ss) : SnOk (putE sn i true) (ss ++ [i]) := fun x => by
  rw [look_put, h x]
  by_cases e : x = i
  · rw [if_pos e, if_pos (List.mem_append_right _ (List.mem_singleton.2 e))]
  · rw [if_neg e]
    by_cases hm : x ∈ ss
    · rw [if_pos hm, if_pos (List.mem_append_left _ hm)]
    · rw [if_neg hm, if_neg fun h => (List.mem_append.1 h).elim hm fun h => e (List.mem_singleton.1 h)]
theorem thr_info {q : PSt} (hok : PoolOk q) {lf : Bool} {f c t : Int} (hc : PlaceOk q c) (h : thrP q.ns lf f c t) (h0 : 0 ≤ t) : PlaceOk q t ∧ opD (!lf) (pd q c) (pd q t) ∧ geD lf (pd q f) (pd q t) := by
  have op := opts_place hok hc
  unfold PlaceOk at hc
  rcases h.2.2 h0 with ⟨rfl, h1, h2⟩ | ⟨rfl, h1, h2⟩
  · exact ⟨op.2 t h1, opD_f.2 ((ro_den hok.ar.opts (by omega)).2 ⟨t, h1, rfl⟩), geD_tt.2 (decP_true.1 h2)⟩
  · exact ⟨op.1 t h1, opD_t.2 ((lo_den hok.ar.opts (by omega)).2 ⟨t, h1, rfl⟩), geD_ff.2 (decP_true.1 h2)⟩
theorem thr_no {q : PSt} {lf : Bool} {f c t : Int} (h : thrP q.ns lf f c t) (h0 : t < 0) : ¬ revP lf (pd q f) (pd q c) := fun hr => by have := h.1.2 hr; omega
end Go.GL

/- Walks, printed by a program (walkgen.py) from the spec specs_cn. -/
set_option maxRecDepth 20000
set_option maxHeartbeats 2000000
namespace Go.Proofs.YtfkompdmejpmmaaDoor
namespace CN1
open Go.RowKit Go.GL Go.Proofs
open Go.Proofs.YtfkompdmejpmmaaDoor.B1
open Go.Proofs.YtfkompdmejpmmaaDoor.K1
open Go.Proofs.YtfkompdmejpmmaaDoor.PO1
open Go.Proofs.YtfkompdmejpmmaaDoor.PL1
open Go.Proofs.YtfkompdmejpmmaaDoor.DI1
open Go.Proofs.YtfkompdmejpmmaaDoor.RI1
theorem ag3 : (Tryd.prog.underlying 3).map aggD = some false := by kernel_rfl
theorem ap3 : (Tryd.prog.info? 3).map (fun i => (i.size, i.bytes, (i.zero.map (·.cells.size)))) = some (1, 8, some 1) := by kernel_rfl
theorem sz3 : (Tryd.prog.info? 3).map (·.size) = some 1 := by kernel_rfl
theorem zr3 : (Tryd.prog.info? 3).bind (·.zero) = some (.int .i64 0) := by kernel_rfl

theorem without_spec {w : World} {G : Pin} {x y : Value} {xs D : List Int} (hP : Pins G w) (hx : RSl eInt G x xs) (hy : RSl eInt G y D) (hxl : xs.length ≤ 1048576) (hpw : D.Pairwise (· < ·)) (hD0 : ∀ z ∈ D, 0 ≤ z) :
    Calls Tryd.prog 61 [x, y].toArray w fun e w' => ∃ (u : Value) (G' : Pin), e = .returned u ∧ Own eInt 3 G' w' w.heap.size u (woL xs D xs.length) ∧ Ext noS G w G' w' := by
  refine s_enter (n := 34) Tryd.func61 Tryd.ntmps61 rfl rfl ?_
  have hX0 : Ext noS G w G w := Ext.refl hP
  have hm := hx.max
  have hm2 := hy.max
  refine s_seq ?_
  refine c_reg ?_
  refine qd rfl rfl rfl (r_assign (v := (.slice none 0 0)) rfl) ?_
  refine qe ?_
  refine s_then ?_
  refine s_seq ?_
  refine c_reg ?_
  refine q1 rfl rfl rfl (o_build0 (E := eInt) (e := 3) Tryd.underlying37 sz3 hX0.pins (fun u1 w2 ho3 hp4 hl5 hk6 => ?_))
  have hX7 := hX0.step hp4 hl5
  have ho8 : Own eInt 3 G w2 w.heap.size u1 ([]) := ho3.weaken hX0.size
  refine qd rfl rfl rfl (r_assign (v := u1) rfl) ?_
  refine qe ?_
  refine s_then ?_
  refine s_seq ?_
  refine s_seq ?_
  refine c_reg ?_
  refine qd rfl rfl rfl (r_move (v := x) rfl) ?_
  refine qd rfl rfl rfl (run_len Tryd.underlying37 (v := x) rfl hx) ?_
  refine qd rfl rfl rfl (r_move (v := (.int .i64 0)) rfl) ?_
  refine qe ?_
  refine s_then ?_
  refine s_blk ?_
  refine s_loop (fun (k : Nat) (en : Nat → Value) (W : World) => ∃ (env1 : Nat → Value) (i : Nat) (pv : Value) (ds : List Int) (ov : Value) (out : List Int) (GL1 : Pin), en = (upd (upd (upd (upd (upd (upd env1 1 pv) 4 (.slice none 0 0)) 5 ov) 9 x) 10 (.int .i64 (xs.length : Int))) 11 (.int .i64 (i : Int))) ∧ k = xs.length - i ∧ Ext noS G w GL1 W ∧ Pin.le G GL1 ∧ (i ≤ xs.length) ∧ (WoOk D ds i) ∧ (out = woL xs D i) ∧ (Own eInt 3 GL1 W w.heap.size ov (out)) ∧ (RSl eInt GL1 pv (ds))) _ ⟨_, 0, y, D, u1, [], G, (packS (x := 11) (packS (x := 10) (packS (x := 9) (packS (x := 5) (packS (x := 4) (pack1 (x := 1) rfl) rfl) rfl) rfl) rfl) rfl), rfl, hX7, Pin.le_refl _, Nat.zero_le _, (WoOk.start hpw hD0), rfl, ho8, hy⟩ ?_
  rintro k9 _ w10 ⟨env1, i, pv, ds, ov, out, GL1, rfl, hk11, hX12, hlek9, hi, hwo, hout, hw13, hr14⟩
  have hol : out.length ≤ i := by rw [hout]; exact wo_len i
  refine s_seq ?_
  refine c_reg ?_
  refine qd rfl rfl rfl (r_lss rfl rfl) ?_
  refine qe ?_
  refine s_then ?_
  refine s_seq ?_
  refine c_ifd (p := ((i : Int) : Int) < (xs.length : Int)) rfl rfl (fun h15 => ?_) (fun h15 => ?_)
  · skip
    refine wp_skip ?_
    refine s_then ?_
    refine s_seq ?_
    refine s_blk ?_
    refine s_seq ?_
    refine c_reg ?_
    refine qd rfl rfl rfl (r_move (v := (.int .i64 (i : Int))) rfl) ?_
    refine qd rfl rfl rfl (run_idx Tryd.underlying37 sz3 (v := x) rfl rfl hx (by omega) (by omega)) ?_
    refine qd rfl rfl rfl (run_load_int (r := xs.getD i 0) rfl ag3 (z := (i : Int)) rfl hx (Pins.of_le hX12.pins hlek9) (by omega) (by omega)) ?_
    refine qd rfl rfl rfl (r_assign (v := (.int .i64 (i : Int))) rfl) ?_
    refine qd rfl rfl rfl (r_assign (v := (.int .i64 (xs.getD i 0))) rfl) ?_
    refine qe ?_
    refine s_then ?_
    refine s_seq ?_
    refine s_seq ?_
    refine c_reg ?_
    refine qd rfl rfl rfl (r_move (v := pv) rfl) ?_
    refine qd rfl rfl rfl (run_len Tryd.underlying37 (v := pv) rfl hr14) ?_
    refine qd rfl rfl rfl (r_gtr rfl rfl) ?_
    refine qd rfl rfl rfl (r_move (v := (.bool (decide ((0 : Int) < (ds.length : Int))))) rfl) ?_
    refine qbd (p := (0 : Int) < (ds.length : Int)) (t := 19) rfl (fun h16 => ?_) (fun h16 => ?_)
    · skip
      refine qdg rfl rfl rfl rfl rfl rfl (r_move (v := pv) rfl) ?_
      refine qdg rfl rfl rfl rfl rfl rfl (run_idx Tryd.underlying37 sz3 (v := pv) rfl rfl hr14 (by omega) (by omega)) ?_
      refine qdg rfl rfl rfl rfl rfl rfl (run_load_int (r := ds.getD 0 0) rfl ag3 (z := 0) rfl hr14 hX12.pins (by omega) (by omega)) ?_
      refine qdg rfl rfl rfl rfl rfl rfl (r_move (v := (.int .i64 (i : Int))) rfl) ?_
      refine qdg rfl rfl rfl rfl rfl rfl (r_eql rfl rfl) ?_
      refine qd rfl rfl rfl (r_pickT (v := (.bool (decide ((ds.getD 0 0 : Int) = (i : Int))))) rfl rfl) ?_
      refine qe ?_
      refine s_then ?_
      refine c_ifd (p := (ds.getD 0 0 : Int) = (i : Int)) rfl rfl (fun h17 => ?_) (fun h17 => ?_)
      · skip
        refine s_seq ?_
        refine c_reg ?_
        refine qd rfl rfl rfl (r_move (v := pv) rfl) ?_
        obtain ⟨u18, hr19, hl20⟩ := name_slice hr14 (lo := (some (1))) (hi := none) (1) (ds.length) (Or.inr ⟨_, rfl, (by omega), rfl⟩) (Or.inl ⟨rfl, rfl⟩) (by omega) (by omega)
        refine qd rfl rfl rfl (hl20 Tryd.underlying37 sz3 rfl rfl rfl) ?_
        refine qd rfl rfl rfl (r_assign (v := u18) rfl) ?_
        refine qe ?_
        refine s_then ?_
        refine wp_exit ?_
        refine s_thenE ?_
        refine s_blkE ?_
        refine s_then ?_
        refine c_reg ?_
        refine qd rfl rfl rfl (r_add rfl rfl (by omega)) ?_
        refine qd rfl rfl rfl (r_move (v := (.int .i64 ((i : Int) + 1))) rfl) ?_
        refine qe ?_
        refine s_lopN ?_
        refine ⟨_, ?_, _, rfl, _, i + 1, u18, (ds.take ds.length).drop 1, ov, out, GL1, (packS (x := 11) (packS (x := 10) (packS (x := 9) (packS (x := 5) (packS (x := 4) (pack1 (x := 1) rfl) rfl) rfl) rfl) rfl) rfl), rfl, hX12, hlek9, (by omega), (by rw [List.take_length]; exact (hwo.hit (by omega) h17).1), (by rw [show woL xs D (i + 1) = woL xs D i from if_pos (hwo.hit (by omega) h17).2, hout]), hw13, hr19⟩
        omega
      refine wp_skip ?_
      refine s_then ?_
      refine c_reg ?_
      refine qd rfl rfl rfl (r_move (v := ov) rfl) ?_
      refine qd rfl rfl rfl (r_move (v := (.int .i64 (xs.getD i 0))) rfl) ?_
      refine q1 rfl rfl rfl (o_buildF (E := eInt) (e := 3) [(.int .i64 (xs.getD i 0))] [xs.getD i 0] Tryd.underlying37 sz3 zr3 (by exact reps1 (by rfl)) (ones1 (by rfl)) rfl rfl rfl rfl (by decide) hX12.pins (fun u21 w22 ho23 hp24 hl25 hk26 => ?_))
      have hX27 := hX12.step hp24 hl25
      have ho28 := hw13.below hl25
      have ha29 : Apart u21.ownBlock ov.ownBlock := new_ne_own hk26 hw13.lt
      have ho30 : Own eInt 3 GL1 w22 w.heap.size u21 ([xs.getD i 0]) := ho23.weaken hX12.size
      refine q1 rfl rfl rfl (o_append (E := eInt) (v := ov) (u := u21) 8 Tryd.underlying37 ap3 (by decide) rfl rfl hX27.pins ho28 ho30.src (by first | omega | (rw [List.nil_append]; omega) | (rw [List.length_nil]; omega) | (rw [List.length_append]; omega) | (simp; done) | (simp; omega) | (simp only [List.length_append, List.length_cons, List.length_nil]; omega)) (by first | omega | (rw [List.nil_append]; omega) | (rw [List.length_nil]; omega) | (rw [List.length_append]; omega) | (simp; done) | (simp; omega) | (simp only [List.length_append, List.length_cons, List.length_nil]; omega)) (hX27.size) (fun u31 w32 ho33 hp34 hg35 hw36 => ?_))
      have hX37 := hX27.write hp34 hg35 ((lo_own ho28))
      have ha39 : Apart u21.ownBlock u31.ownBlock := app_ne_own ha29 hw36 ho30.lt
      have hm40 : (out ++ ([xs.getD i 0])).length = out.length + 1 := List.length_append
      refine qd rfl rfl rfl (r_assign (v := u31) rfl) ?_
      refine qe ?_
      refine s_blkN ?_
      refine s_then ?_
      refine c_reg ?_
      refine qd rfl rfl rfl (r_add rfl rfl (by omega)) ?_
      refine qd rfl rfl rfl (r_move (v := (.int .i64 ((i : Int) + 1))) rfl) ?_
      refine qe ?_
      refine s_lopN ?_
      refine ⟨_, ?_, _, rfl, _, i + 1, pv, ds, u31, out ++ ([xs.getD i 0]), GL1, (packS (x := 11) (packS (x := 10) (packS (x := 9) (packS (x := 5) (packS (x := 4) (pack1 (x := 1) rfl) rfl) rfl) rfl) rfl) rfl), rfl, hX37, hlek9, (by omega), (hwo.miss (Or.inr h17)).1, (by rw [show woL xs D (i + 1) = woL xs D i ++ [xs.getD i 0] from if_neg (hwo.miss (Or.inr h17)).2, hout]), ho33, hr14⟩
      omega
    refine qs rfl rfl rfl rfl rfl rfl ?_
    refine qs rfl rfl rfl rfl rfl rfl ?_
    refine qs rfl rfl rfl rfl rfl rfl ?_
    refine qs rfl rfl rfl rfl rfl rfl ?_
    refine qs rfl rfl rfl rfl rfl rfl ?_
    refine qd rfl rfl rfl (r_pickF (v := (.bool false)) rfl rfl) ?_
    refine qe ?_
    refine s_then ?_
    refine c_ifF rfl rfl ?_
    refine wp_skip ?_
    refine s_then ?_
    refine c_reg ?_
    refine qd rfl rfl rfl (r_move (v := ov) rfl) ?_
    refine qd rfl rfl rfl (r_move (v := (.int .i64 (xs.getD i 0))) rfl) ?_
    refine q1 rfl rfl rfl (o_buildF (E := eInt) (e := 3) [(.int .i64 (xs.getD i 0))] [xs.getD i 0] Tryd.underlying37 sz3 zr3 (by exact reps1 (by rfl)) (ones1 (by rfl)) rfl rfl rfl rfl (by decide) hX12.pins (fun u41 w42 ho43 hp44 hl45 hk46 => ?_))
    have hX47 := hX12.step hp44 hl45
    have ho48 := hw13.below hl45
    have ha49 : Apart u41.ownBlock ov.ownBlock := new_ne_own hk46 hw13.lt
    have ho50 : Own eInt 3 GL1 w42 w.heap.size u41 ([xs.getD i 0]) := ho43.weaken hX12.size
    refine q1 rfl rfl rfl (o_append (E := eInt) (v := ov) (u := u41) 8 Tryd.underlying37 ap3 (by decide) rfl rfl hX47.pins ho48 ho50.src (by first | omega | (rw [List.nil_append]; omega) | (rw [List.length_nil]; omega) | (rw [List.length_append]; omega) | (simp; done) | (simp; omega) | (simp only [List.length_append, List.length_cons, List.length_nil]; omega)) (by first | omega | (rw [List.nil_append]; omega) | (rw [List.length_nil]; omega) | (rw [List.length_append]; omega) | (simp; done) | (simp; omega) | (simp only [List.length_append, List.length_cons, List.length_nil]; omega)) (hX47.size) (fun u51 w52 ho53 hp54 hg55 hw56 => ?_))
    have hX57 := hX47.write hp54 hg55 ((lo_own ho48))
    have ha59 : Apart u41.ownBlock u51.ownBlock := app_ne_own ha49 hw56 ho50.lt
    have hm60 : (out ++ ([xs.getD i 0])).length = out.length + 1 := List.length_append
    refine qd rfl rfl rfl (r_assign (v := u51) rfl) ?_
    refine qe ?_
    refine s_blkN ?_
    refine s_then ?_
    refine c_reg ?_
    refine qd rfl rfl rfl (r_add rfl rfl (by omega)) ?_
    refine qd rfl rfl rfl (r_move (v := (.int .i64 ((i : Int) + 1))) rfl) ?_
    refine qe ?_
    refine s_lopN ?_
    refine ⟨_, ?_, _, rfl, _, i + 1, pv, ds, u51, out ++ ([xs.getD i 0]), GL1, (packS (x := 11) (packS (x := 10) (packS (x := 9) (packS (x := 5) (packS (x := 4) (pack1 (x := 1) rfl) rfl) rfl) rfl) rfl) rfl), rfl, hX57, hlek9, (by omega), (hwo.miss (Or.inl (by omega))).1, (by rw [show woL xs D (i + 1) = woL xs D i ++ [xs.getD i 0] from if_neg (hwo.miss (Or.inl (by omega))).2, hout]), ho53, hr14⟩
    omega
  refine wp_exit ?_
  refine s_thenE ?_
  refine s_lopE ?_
  refine s_blkE ?_
  refine s_then ?_
  refine s_seq ?_
  refine c_reg ?_
  refine qd rfl rfl rfl (r_move (v := ov) rfl) ?_
  refine qd rfl rfl rfl (r_assign (v := ov) rfl) ?_
  refine qe ?_
  refine s_then ?_
  refine wp_ret ?_
  refine s_ret ?_
  refine c_ret1 (v := ov) rfl rfl rfl ?_
  have hin : i = xs.length := by omega
  rw [hin] at hout
  exact ⟨_, _, rfl, (by rw [← hout]; exact hw13), hX12⟩

/-- What canon answers for places below m. -/
def CanP (N m p : Nat) (mm : PM) : Prop := ∀ {w : World} {G : Pin} {L R B : Value} {q : PSt} {f : Int} (_ : Pins G w) (_ : Pk 37 3 G w p L R B mm q) (_ : PoolOk q) (_ : PlaceOk q f) (_ : f < (N : Int)) (_ : q.ns.length + unc q N < 1048576), f.toNat < m →
    Calls Tryd.prog 19 [(.pointer (some ⟨p, 0, none⟩)), (.int .i64 f)].toArray w fun e w' => ∃ (z : Int) (L' R' B' : Value) (q' : PSt) (G' : Pin), e = .returned (.int .i64 z) ∧ Pk 37 3 G' w' p L' R' B' mm q' ∧ PoolOk q' ∧ PX q q' ∧ PLo w p L R B mm L' R' B' ∧ Ext (inP p L R B mm) G w G' w' ∧ PlaceOk q' z ∧ CanonG (pd q' z) ∧ eqG (pd q' z) (pd q' f) ∧ q'.ns.length + unc q' N ≤ q.ns.length + unc q N

end CN1
end Go.Proofs.YtfkompdmejpmmaaDoor

/- Walks, printed by a program (walkgen.py) from the spec specs_cn. -/
set_option maxRecDepth 20000
set_option maxHeartbeats 2000000
namespace Go.Proofs.YtfkompdmejpmmaaDoor
namespace CN2
open Go.RowKit Go.GL Go.Proofs
open Go.Proofs.YtfkompdmejpmmaaDoor.B1
open Go.Proofs.YtfkompdmejpmmaaDoor.K1
open Go.Proofs.YtfkompdmejpmmaaDoor.PO1
open Go.Proofs.YtfkompdmejpmmaaDoor.PL1
open Go.Proofs.YtfkompdmejpmmaaDoor.DI1
open Go.Proofs.YtfkompdmejpmmaaDoor.RI1
open Go.Proofs.YtfkompdmejpmmaaDoor.CN1
theorem ag3 : (Tryd.prog.underlying 3).map aggD = some false := by kernel_rfl
theorem ag37 : (Tryd.prog.underlying 37).map aggD = some false := by kernel_rfl
theorem ag77 : (Tryd.prog.underlying 77).map aggD = some false := by kernel_rfl
theorem ap3 : (Tryd.prog.info? 3).map (fun i => (i.size, i.bytes, (i.zero.map (·.cells.size)))) = some (1, 8, some 1) := by kernel_rfl
theorem nm19 : (Tryd.f19.name == "runtime.NumGoroutine") = false := by kernel_rfl
theorem nm60 : (Tryd.f60.name == "runtime.NumGoroutine") = false := by kernel_rfl
theorem nm61 : (Tryd.f61.name == "runtime.NumGoroutine") = false := by kernel_rfl
theorem nm62 : (Tryd.f62.name == "runtime.NumGoroutine") = false := by kernel_rfl
theorem nz77 : (Tryd.prog.info? 77).map (·.size == 0) = some false := by kernel_rfl
theorem sz3 : (Tryd.prog.info? 3).map (·.size) = some 1 := by kernel_rfl
theorem sz37 : (Tryd.prog.info? 37).map (·.size) = some 1 := by kernel_rfl
theorem zr3 : (Tryd.prog.info? 3).bind (·.zero) = some (.int .i64 0) := by kernel_rfl
theorem zr4 : (Tryd.prog.info? 4).bind (·.zero) = some (.bool false) := by kernel_rfl

theorem reduced_t {w : World} {G : Pin} {L R B : Value} {q : PSt} {f : Int} {p : Nat} {mm : PM} {N m : Nat} (hP : Pins G w) (hpk : Pk 37 3 G w p L R B mm q) (hok : PoolOk q) (hf : PlaceOk q f) (hfN : f < (N : Int)) (hbud : q.ns.length + unc q N < 1048576) (ih : CanP N m p mm) (hm : f.toNat < m + 1) :
    Calls Tryd.prog 43 [(.pointer (some ⟨p, 0, none⟩)), (.int .i64 f), (.bool true)].toArray w fun e w' => ∃ (u : Value) (zs : List Int) (L' R' B' : Value) (q' : PSt) (G' : Pin), e = .returned u ∧ Pk 37 3 G' w' p L' R' B' mm q' ∧ PoolOk q' ∧ PX q q' ∧ PLo w p L R B mm L' R' B' ∧ Ext (inP p L R B mm) G w G' w' ∧ Own eInt 3 G' w' w.heap.size u zs ∧ NP p L' R' B' mm u.ownBlock ∧ ReOk q' true f zs ∧ q'.ns.length + unc q' N ≤ q.ns.length + unc q N := by
  refine s_enter (n := 120) Tryd.func43 Tryd.ntmps43 rfl rfl ?_
  have hX0 : Ext (inP p L R B mm) G w G w := Ext.refl hP
  have hpin : PIn w (inP p L R B mm) p L R B mm := PIn.self
  have hml1 : (q.ns.map Nd.l).length = q.ns.length ∧ (q.ns.map Nd.r).length = q.ns.length := ⟨List.length_map .., List.length_map ..⟩
  have hml2 : q.bs.length = q.ns.length ∧ q.ns.length ≤ 1048576 := ⟨hok.ar.ok.len, hok.ar.ok.lim⟩
  have hf0 := hf.1
  have hf1 := hf.2
  have hol0 := ol_len hok (lf := true) hf
  have hol1 : (q.ns.getD (f).toNat default).l.length ≤ 1048576 := hol0
  refine s_seq ?_
  refine c_reg ?_
  refine qd rfl rfl rfl (r_assign (v := (.slice none 0 0)) rfl) ?_
  refine qe ?_
  refine s_then ?_
  refine s_seq ?_
  refine c_reg ?_
  refine q1 rfl rfl rfl (o_build0 (E := eInt) (e := 3) Tryd.underlying37 sz3 hX0.pins (fun u3 w4 ho5 hp6 hl7 hk8 => ?_))
  have hX9 := hX0.step hp6 hl7
  have hpk10 := hpk.below hl7 hp6
  have ha15 := hpk.new (x := u3.ownBlock) (fun k hk => by rw [hk8] at hk; cases hk; exact Nat.le_refl _)
  have ho16 : Own eInt 3 G w4 w.heap.size u3 ([]) := ho5.weaken hX0.size
  refine q1 rfl rfl rfl (o_makeMap (fun k : Int => Value.int .i64 k) (fun v : Bool => Value.bool v) hX9.pins (fun m17 w18 hk19 hm20 hp21 hl22 => ?_))
  have hX23 := hX9.step hp21 hl22
  have ho24 := ho16.below hl22
  have hpk25 := hpk10.below hl22 hp21
  have hnp26 := hpk10.new (x := some m17) (fun k hk => by cases hk; omega)
  have hlo27 : w.heap.size ≤ m17 := by have := hX9.size; omega
  refine q1 rfl rfl rfl (o_build0 (E := eInt) (e := 3) Tryd.underlying37 sz3 hX23.pins (fun u28 w29 ho30 hp31 hl32 hk33 => ?_))
  have hX34 := hX23.step hp31 hl32
  have ho35 := ho24.below hl32
  have hm36 := hm20.below hl32
  have hpk37 := hpk25.below hl32 hp31
  have ha38 : Apart u28.ownBlock u3.ownBlock := new_ne_own hk33 ho24.lt
  have ha43 := hpk25.new (x := u28.ownBlock) (fun k hk => by rw [hk33] at hk; cases hk; exact Nat.le_refl _)
  have ho44 : Own eInt 3 G w29 w.heap.size u28 ([]) := ho30.weaken hX23.size
  refine qd rfl rfl rfl (r_assign (v := u3) rfl) ?_
  refine qd rfl rfl rfl (r_assign (v := (.map (some m17))) rfl) ?_
  refine qd rfl rfl rfl (r_assign (v := u28) rfl) ?_
  refine qe ?_
  refine s_then ?_
  refine s_seq ?_
  refine c_reg ?_
  refine qd rfl rfl rfl (r_move (v := (.pointer (some ⟨p, 0, none⟩))) rfl) ?_
  refine qd rfl rfl rfl (r_nil rfl) ?_
  refine qd rfl rfl rfl (r_fldp (k := 1) rfl Tryd.underlying79 rfl nz77 rfl) ?_
  refine qd rfl rfl rfl (r_ldp1 (u := R) ag77 rfl (hpk37.bx.cell (o := 1) rfl)) ?_
  refine qd rfl rfl rfl (r_move (v := (.int .i64 f)) rfl) ?_
  refine qd rfl rfl rfl (run_idx Tryd.underlying77 sz37 (v := R) rfl rfl hpk37.rr.read (by omega) (by omega)) ?_
  obtain ⟨u45, hr46, hl47⟩ := nm_sl (hpk37.rr.at (z := f) (by omega) (by omega)) (j := (f).toNat) rfl
  rw [mapr_getD] at hr46
  have hm48 := hr46.max
  refine qd rfl rfl rfl (hl47 ag37 rfl (Gadd.pins hX34.pins R)) ?_
  refine qd rfl rfl rfl (r_assign (v := u45) rfl) ?_
  refine qe ?_
  refine s_then ?_
  refine s_seq ?_
  refine s_seq ?_
  refine c_reg ?_
  refine qd rfl rfl rfl (r_move (v := (.bool true)) rfl) ?_
  refine qe ?_
  refine s_then ?_
  refine c_ifT rfl rfl ?_
  refine c_reg ?_
  refine qd rfl rfl rfl (r_move (v := (.pointer (some ⟨p, 0, none⟩))) rfl) ?_
  refine qd rfl rfl rfl (r_nil rfl) ?_
  refine qd rfl rfl rfl (r_fldp (k := 0) rfl Tryd.underlying79 rfl nz77 rfl) ?_
  refine qd rfl rfl rfl (r_ldp1 (u := L) ag77 rfl (hpk37.bx.cell (o := 0) rfl)) ?_
  refine qd rfl rfl rfl (r_move (v := (.int .i64 f)) rfl) ?_
  refine qd rfl rfl rfl (run_idx Tryd.underlying77 sz37 (v := L) rfl rfl hpk37.ol.read (by omega) (by omega)) ?_
  obtain ⟨u49, hr50, hl51⟩ := nm_sl (hpk37.ol.at (z := f) (by omega) (by omega)) (j := (f).toNat) rfl
  rw [mapl_getD] at hr50
  have hm52 := hr50.max
  refine qd rfl rfl rfl (hl51 ag37 rfl (Gadd.pins hX34.pins L)) ?_
  refine qd rfl rfl rfl (r_assign (v := u49) rfl) ?_
  refine qe ?_
  refine s_then ?_
  refine s_seq ?_
  refine s_seq ?_
  refine c_reg ?_
  refine qd rfl rfl rfl (r_move (v := u49) rfl) ?_
  refine qd rfl rfl rfl (run_len Tryd.underlying37 (v := u49) rfl hr50) ?_
  refine qd rfl rfl rfl (r_move (v := (.int .i64 0)) rfl) ?_
  refine qe ?_
  refine s_then ?_
  refine s_blk ?_
  refine s_loop (fun (k : Nat) (en : Nat → Value) (W : World) => ∃ (env1 : Nat → Value) (j : Nat) (qv : Value) (qs : List Int) (L53 : Value) (R54 : Value) (B55 : Value) (q56 : PSt) (GL1 : Pin), en = (upd (upd (upd (upd (upd (upd (upd (upd (upd (upd env1 0 (.pointer (some ⟨p, 0, none⟩))) 1 (.int .i64 f)) 2 (.bool true)) 6 (.slice none 0 0)) 7 qv) 8 (.map (some m17))) 9 u28) 34 u49) 35 (.int .i64 (((q.ns.getD (f).toNat default).l).length : Int))) 36 (.int .i64 (j : Int))) ∧ k = (q.ns.getD (f).toNat default).l.length - j ∧ Ext (inP p L R B mm) G w GL1 W ∧ Pin.le G GL1 ∧ (j ≤ (q.ns.getD (f).toNat default).l.length) ∧ (QOk q q56 (q.ns.getD (f).toNat default).l qs j) ∧ (q56.ns.length + unc q56 N ≤ q.ns.length + unc q N) ∧ (Own eInt 3 GL1 W w.heap.size qv (qs)) ∧ (Own eInt 3 GL1 W w.heap.size u28 ([])) ∧ (Apart qv.ownBlock u28.ownBlock) ∧ (Mp (fun k : Int => Value.int .i64 k) (fun v : Bool => Value.bool v) W m17 ([])) ∧ (Pk 37 3 GL1 W p L53 R54 B55 mm q56) ∧ (PIn w ((inP p L R B mm)) p L53 R54 B55 mm) ∧ (PoolOk q56) ∧ (PX q q56) ∧ (NP p L53 R54 B55 mm qv.ownBlock) ∧ (NP p L53 R54 B55 mm u28.ownBlock) ∧ (NP p L53 R54 B55 mm (some m17))) _ ⟨_, 0, u3, [], L, R, B, q, G, (packS (x := 36) (packS (x := 35) (packS (x := 34) (packS (x := 9) (packS (x := 8) (packS (x := 7) (packS (x := 6) (packS (x := 2) (packS (x := 1) (pack1 (x := 0) rfl) rfl) rfl) rfl) rfl) rfl) rfl) rfl) rfl) rfl), rfl, hX34, Pin.le_refl _, Nat.zero_le _, QOk.start, Nat.le_refl _, ho35, ho44, ha38.symm, hm36, hpk37, hpin, hok, (PX.refl _), ha15, ha43, hnp26⟩ ?_
  rintro k57 _ w58 ⟨env1, j, qv, qs, L53, R54, B55, q56, GL1, rfl, hk59, hX60, hlek57, hj, hqo, hbu, hw61, hw62, ha63, hm64, hpk65, hpin66, hok67, hpx68, hnp69, hnp70, hnp71⟩
  have hql72 := hpx68.len
  have hml73 : (q56.ns.map Nd.l).length = q56.ns.length ∧ (q56.ns.map Nd.r).length = q56.ns.length := ⟨List.length_map .., List.length_map ..⟩
  have hml74 : q56.bs.length = q56.ns.length ∧ q56.ns.length ≤ 1048576 := ⟨hok67.ar.ok.len, hok67.ar.ok.lim⟩
  have hql1 := hqo.len
  refine s_seq ?_
  refine c_reg ?_
  refine qd rfl rfl rfl (r_lss rfl rfl) ?_
  refine qe ?_
  refine s_then ?_
  refine s_seq ?_
  refine c_ifd (p := ((j : Int) : Int) < (((q.ns.getD (f).toNat default).l).length : Int)) rfl rfl (fun h75 => ?_) (fun h75 => ?_)
  · skip
    have hmj : (q.ns.getD (f).toNat default).l.getD j 0 ∈ (q.ns.getD (f).toNat default).l := getD_mem (show j < (q.ns.getD (f).toNat default).l.length by omega)
    have hoj := (opts_place hok hf).1 _ hmj
    have hoj1 := hoj.1
    have hoz := ((optsAt hok.ar.opts (show (f).toNat < q.ns.length by omega)).1 _ hmj).2
    refine wp_skip ?_
    refine s_then ?_
    refine s_seq ?_
    refine s_blk ?_
    refine s_seq ?_
    refine c_reg ?_
    refine qd rfl rfl rfl (run_idx Tryd.underlying37 sz3 (v := u49) rfl rfl hr50 (by omega) (by omega)) ?_
    refine qd rfl rfl rfl (run_load_int (r := ((q.ns.getD (f).toNat default).l).getD j 0) rfl ag3 (z := (j : Int)) rfl hr50 (Pins.of_le hX60.pins hlek57) (by omega) (by omega)) ?_
    refine qd rfl rfl rfl (r_assign (v := (.int .i64 (((q.ns.getD (f).toNat default).l).getD j 0))) rfl) ?_
    refine qe ?_
    refine s_then ?_
    refine c_reg ?_
    refine qd rfl rfl rfl (r_move (v := qv) rfl) ?_
    refine qd rfl rfl rfl (r_move (v := (.pointer (some ⟨p, 0, none⟩))) rfl) ?_
    refine qd rfl rfl rfl (r_move (v := (.int .i64 (((q.ns.getD (f).toNat default).l).getD j 0))) rfl) ?_
    refine q1 rfl rfl rfl (o_call (vs := [(.pointer (some ⟨p, 0, none⟩)), (.int .i64 (((q.ns.getD (f).toNat default).l).getD j 0))]) Tryd.func19 nm19 rfl rfl rfl ?_)
    refine Calls.mono (ih hX60.pins hpk65 hok67 (hpx68.place hoj) (by omega) (by omega) (by omega)) ?_
    rintro _ w86 ⟨z76, L81, R82, B83, q84, G85, rfl, hpk87, hok88, hpx89, hlo90, hx91, hpl77, hcg78, heq79, hbu80⟩
    refine ⟨_, rfl, ?_⟩
    have hX92 := hX60.trans hx91 hpin66
    have ho93 := hw61.extS hx91 hnp69
    have hnp94 := NP.call hnp69 hlo90 (own_lt hw61)
    have ho95 := hw62.extS hx91 hnp70
    have hnp96 := NP.call hnp70 hlo90 (own_lt hw62)
    have hm97 := hm64.extS hx91 (NP.notb hnp71)
    have hnp98 := NP.call hnp71 hlo90 (fun j hj => by cases hj; exact hm64.lt)
    have hpin99 := PIn.call hpin66 hlo90 hX60.size
    have hql100 := hpx89.len
    have hml101 : (q84.ns.map Nd.l).length = q84.ns.length ∧ (q84.ns.map Nd.r).length = q84.ns.length := ⟨List.length_map .., List.length_map ..⟩
    have hml102 : q84.bs.length = q84.ns.length ∧ q84.ns.length ≤ 1048576 := ⟨hok88.ar.ok.len, hok88.ar.ok.lim⟩
    refine q1 rfl rfl rfl (o_buildF (E := eInt) (e := 3) [(.int .i64 z76)] [z76] Tryd.underlying37 sz3 zr3 (by exact reps1 (by rfl)) (ones1 (by rfl)) rfl rfl rfl rfl (by decide) hX92.pins (fun u103 w104 ho105 hp106 hl107 hk108 => ?_))
    have hX109 := hX92.step hp106 hl107
    have ho110 := ho93.below hl107
    have ho111 := ho95.below hl107
    have hm112 := hm97.below hl107
    have hpk113 := hpk87.below hl107 hp106
    have ha114 : Apart u103.ownBlock qv.ownBlock := new_ne_own hk108 ho93.lt
    have ho121 : Own eInt 3 G85 w104 w.heap.size u103 ([z76]) := ho105.weaken hX92.size
    refine q1 rfl rfl rfl (o_append (E := eInt) (v := qv) (u := u103) 8 Tryd.underlying37 ap3 (by decide) rfl rfl hX109.pins ho110 ho121.src (by first | omega | (rw [List.nil_append]; omega) | (rw [List.length_nil]; omega) | (rw [List.length_append]; omega) | (simp; done) | (simp; omega) | (simp only [List.length_append, List.length_cons, List.length_nil]; omega)) (by first | omega | (rw [List.nil_append]; omega) | (rw [List.length_nil]; omega) | (rw [List.length_append]; omega) | (simp; done) | (simp; omega) | (simp only [List.length_append, List.length_cons, List.length_nil]; omega)) (hX109.size) (fun u122 w123 ho124 hp125 hg126 hw127 => ?_))
    have hX128 := hX109.write hp125 hg126 ((lo_own ho110))
    have ho129 := ho111.keptA hg126 ha63.symm
    have hm131 := hm112.kept hg126 (map_ne_own hm112 ho110)
    have hpk132 := hpk113.kept hg126 hp125 hnp94
    have ha133 : Apart u28.ownBlock u122.ownBlock := app_ne_own ha63.symm hw127 ho111.lt
    have ha134 : Apart u103.ownBlock u122.ownBlock := app_ne_own ha114 hw127 ho121.lt
    have hnp135 := np_app hnp94 hpk113 hw127
    have hm136 : (qs ++ ([z76])).length = qs.length + 1 := List.length_append
    refine qd rfl rfl rfl (r_assign (v := u122) rfl) ?_
    refine qe ?_
    refine s_blkN ?_
    refine s_then ?_
    refine c_reg ?_
    refine qd rfl rfl rfl (r_add rfl rfl (by omega)) ?_
    refine qd rfl rfl rfl (r_move (v := (.int .i64 ((j : Int) + 1))) rfl) ?_
    refine qe ?_
    refine s_lopN ?_
    refine ⟨_, ?_, _, rfl, _, j + 1, u122, qs ++ ([z76]), L81, R82, B83, q84, G85, (packS (x := 36) (packS (x := 35) (packS (x := 34) (packS (x := 9) (packS (x := 8) (packS (x := 7) (packS (x := 6) (packS (x := 2) (packS (x := 1) (pack1 (x := 0) rfl) rfl) rfl) rfl) rfl) rfl) rfl) rfl) rfl) rfl), rfl, hX128, (Pin.le_trans hlek57 hx91.le), (by omega), (hqo.step hok hok67 hok88 hpx68 hpx89 hoj hpl77 hcg78 heq79), (by have := hbu80; omega), ho124, ho129, ha133.symm, hm131, hpk132, hpin99, hok88, (PX.trans hpx68 hpx89), hnp135, hnp96, hnp98⟩
    omega
  refine wp_exit ?_
  refine s_thenE ?_
  refine s_lopE ?_
  refine s_blkE ?_
  refine s_then ?_
  refine s_seq ?_
  refine s_blk ?_
  have hjn : j = (q.ns.getD (f).toNat default).l.length := by omega
  rw [hjn] at hqo
  have hrd0 : RdW q56 true (pd q56 f) qs [] [] := by rw [hpx68.pd hok hok67 hf]; exact hqo.rd (lf := true) hok hf (by unfold ol; rw [if_pos rfl])
  have hq2l := hqo.len
  have hf2 := hpx68.place hf
  refine s_loop (fun (k : Nat) (en : Nat → Value) (W : World) => ∃ (env1 : Nat → Value) (wv : Value) (wl : List Int) (kv : Value) (kept : List Int) (sn : List (Int × Bool)) (ss : List Int) (q140 : PSt) (GL2 : Pin), en = (upd (upd (upd (upd (upd (upd (upd env1 0 (.pointer (some ⟨p, 0, none⟩))) 1 (.int .i64 f)) 2 (.bool true)) 6 (.slice none 0 0)) 7 wv) 8 (.map (some m17))) 9 kv) ∧ k = (q56.ns.length - ss.length) * 1048577 + wl.length ∧ Ext (inP p L R B mm) G w GL2 W ∧ Pin.le GL1 GL2 ∧ (RdW q56 true (pd q56 f) wl ss kept) ∧ (SnOk sn ss) ∧ (wl.length ≤ 1048576 + 1048576 * ss.length) ∧ (Own eInt 3 GL2 W w.heap.size wv (wl)) ∧ (Own eInt 3 GL2 W w.heap.size kv (kept)) ∧ (Apart wv.ownBlock kv.ownBlock) ∧ (Mp (fun k : Int => Value.int .i64 k) (fun v : Bool => Value.bool v) W m17 (sn)) ∧ (Pk 37 3 GL2 W p L53 R54 B55 mm q140) ∧ (PoolOk q140) ∧ (PX q56 q140) ∧ (q140.ns = q56.ns ∧ q140.bs = q56.bs) ∧ (NP p L53 R54 B55 mm wv.ownBlock) ∧ (NP p L53 R54 B55 mm kv.ownBlock)) _ ⟨_, qv, qs, u28, [], [], [], q56, GL1, (packS (x := 9) (packS (x := 8) (packS (x := 7) (packS (x := 6) (packS (x := 2) (packS (x := 1) (pack1 (x := 0) rfl) rfl) rfl) rfl) rfl) rfl) rfl), rfl, hX60, Pin.le_refl _, hrd0, SnOk.start, (by simp; omega), hw61, hw62, ha63, hm64, hpk65, hok67, (PX.refl _), ⟨rfl, rfl⟩, hnp69, hnp70⟩ ?_
  rintro k141 _ w142 ⟨env1, wv, wl, kv, kept, sn, ss, q140, GL2, rfl, hk143, hX144, hlek141, hrd, hsn, hwl, hw145, hw146, ha147, hm148, hpk149, hok150, hpx151, hqn152, hnp153, hnp154⟩
  have hql155 := hpx151.len
  have hml156 : (q140.ns.map Nd.l).length = q140.ns.length ∧ (q140.ns.map Nd.r).length = q140.ns.length := ⟨List.length_map .., List.length_map ..⟩
  have hml157 : q140.bs.length = q140.ns.length ∧ q140.ns.length ≤ 1048576 := ⟨hok150.ar.ok.len, hok150.ar.ok.lim⟩
  have hrl := hrd.len
  refine s_seq ?_
  refine s_seq ?_
  refine c_reg ?_
  refine qd rfl rfl rfl (r_move (v := wv) rfl) ?_
  refine qd rfl rfl rfl (run_len Tryd.underlying37 (v := wv) rfl hw145.read) ?_
  refine qd rfl rfl rfl (r_gtr rfl rfl) ?_
  refine qe ?_
  refine s_then ?_
  refine c_ifd (p := (0 : Int) < (wl.length : Int)) rfl rfl (fun h158 => ?_) (fun h158 => ?_)
  · skip
    have hpm : ((wl.length : Int) - 1).toNat + 1 = wl.length := by omega
    have hpa := hrd.at_ hpm
    have hpa1 := hpa.1
    have hpa2 := hpa.2
    refine wp_skip ?_
    refine s_then ?_
    refine s_blk ?_
    refine s_seq ?_
    refine c_reg ?_
    refine qd rfl rfl rfl (r_move (v := wv) rfl) ?_
    refine qd rfl rfl rfl (r_move (v := wv) rfl) ?_
    refine qd rfl rfl rfl (run_len Tryd.underlying37 (v := wv) rfl hw145.read) ?_
    refine qd rfl rfl rfl (r_sub rfl rfl (by omega)) ?_
    refine qd rfl rfl rfl (run_idx Tryd.underlying37 sz3 (v := wv) rfl rfl hw145.read (by omega) (by omega)) ?_
    refine qd rfl rfl rfl (run_load_int (r := wl.getD ((wl.length : Int) - 1).toNat 0) rfl ag3 (z := ((wl.length : Int) - 1)) rfl hw145.read (Gadd.pins hX144.pins wv) (by omega) (by omega)) ?_
    refine qd rfl rfl rfl (r_assign (v := (.int .i64 (wl.getD ((wl.length : Int) - 1).toNat 0))) rfl) ?_
    refine qe ?_
    refine s_then ?_
    refine s_seq ?_
    refine c_reg ?_
    refine qd rfl rfl rfl (r_move (v := wv) rfl) ?_
    refine qd rfl rfl rfl (r_move (v := wv) rfl) ?_
    refine qd rfl rfl rfl (run_len Tryd.underlying37 (v := wv) rfl hw145.read) ?_
    refine qd rfl rfl rfl (r_sub rfl rfl (by omega)) ?_
    obtain ⟨u159, ho160, hb161, hl162⟩ := own_cut hw145 (((wl.length : Int) - 1).toNat) ((wl.length : Int) - 1) (by omega) rfl (by omega) (by omega)
    have ha163 : Apart u159.ownBlock kv.ownBlock := by rw [hb161]; exact ha147
    have hnp164 := (show NP _ _ _ _ _ u159.ownBlock by rw [hb161]; exact hnp153)
    refine qd rfl rfl rfl (hl162 Tryd.underlying37 sz3 rfl rfl rfl) ?_
    refine qd rfl rfl rfl (r_assign (v := u159) rfl) ?_
    refine qe ?_
    refine s_then ?_
    refine s_seq ?_
    refine s_seq ?_
    refine c_reg ?_
    refine qd rfl rfl rfl (r_move (v := (.map (some m17))) rfl) ?_
    refine qd rfl rfl rfl (r_move (v := (.int .i64 (wl.getD ((wl.length : Int) - 1).toNat 0))) rfl) ?_
    refine qd rfl rfl rfl (run_look1_bool (k := (wl.getD ((wl.length : Int) - 1).toNat 0)) (key_int Tryd.underlying3) Tryd.underlying92 zr4 hm148 rfl rfl) ?_
    refine qe ?_
    refine s_then ?_
    refine c_if rfl rfl (fun h165 => ?_) (fun h165 => ?_)
    · skip
      refine wp_exit ?_
      refine s_thenE ?_
      refine s_blkE ?_
      refine s_lopN ?_
      have htl : (wl.take ((wl.length : Int) - 1).toNat).length = ((wl.length : Int) - 1).toNat := by rw [List.length_take]; omega
      refine ⟨_, ?_, _, rfl, _, u159, wl.take ((wl.length : Int) - 1).toNat, kv, kept, sn, ss, q140, GL2, (packS (x := 9) (packS (x := 8) (packS (x := 7) (packS (x := 6) (packS (x := 2) (packS (x := 1) (pack1 (x := 0) rfl) rfl) rfl) rfl) rfl) rfl) rfl), rfl, hX144, hlek141, ((hrd.pop hpm).seen (hsn.yes h165)), hsn, (by omega), ho160, hw146, ha163, hm148, hpk149, hok150, hpx151, hqn152, hnp164, hnp154⟩
      omega
    refine wp_skip ?_
    refine s_then ?_
    refine s_seq ?_
    refine c_reg ?_
    refine qd rfl rfl rfl (r_move (v := (.map (some m17))) rfl) ?_
    refine qd rfl rfl rfl (r_move (v := (.int .i64 (wl.getD ((wl.length : Int) - 1).toNat 0))) rfl) ?_
    refine q0 rfl rfl rfl (o_mapUpdate (val := (fun v : Bool => Value.bool v)) (k := (wl.getD ((wl.length : Int) - 1).toNat 0)) (v := true) (key_int Tryd.underlying3) Tryd.underlying92 rfl rfl rfl hX144.pins hm148 (fun w166 hm167 hp168 hg169 hz170 => ?_))
    have hX171 := hX144.write hp168 hg169 ((lo_box hlo27))
    have ho172 := hw146.keptA hg169 (map_ne_own hm148 hw146).symm
    have ho173 := ho160.keptA hg169 (map_ne_own hm148 ho160).symm
    have hpk174 := hpk149.kept hg169 hp168 hnp71
    refine qe ?_
    refine s_then ?_
    refine s_seq ?_
    refine c_reg ?_
    refine qd rfl rfl rfl (r_move (v := (.pointer (some ⟨p, 0, none⟩))) rfl) ?_
    refine qd rfl rfl rfl (r_nil rfl) ?_
    refine qd rfl rfl rfl (r_fldp (k := 0) rfl Tryd.underlying79 rfl nz77 rfl) ?_
    refine qd rfl rfl rfl (r_ldp1 (u := L53) ag77 rfl (hpk174.bx.cell (o := 0) rfl)) ?_
    refine qd rfl rfl rfl (r_move (v := (.int .i64 (wl.getD ((wl.length : Int) - 1).toNat 0))) rfl) ?_
    refine qd rfl rfl rfl (run_idx Tryd.underlying77 sz37 (v := L53) rfl rfl hpk174.ol.read (by omega) (by omega)) ?_
    obtain ⟨u175, hr176, hl177⟩ := nm_sl (hpk174.ol.at (z := (wl.getD ((wl.length : Int) - 1).toNat 0)) (by omega) (by omega)) (j := (wl.getD ((wl.length : Int) - 1).toNat 0).toNat) rfl
    rw [mapl_getD] at hr176
    have hm178 := hr176.max
    refine qd rfl rfl rfl (hl177 ag37 rfl (Gadd.pins hX171.pins L53)) ?_
    refine qd rfl rfl rfl (r_assign (v := u175) rfl) ?_
    refine qe ?_
    refine s_then ?_
    refine s_seq ?_
    refine s_seq ?_
    refine c_reg ?_
    refine qd rfl rfl rfl (r_move (v := (.bool true)) rfl) ?_
    refine qe ?_
    refine s_then ?_
    refine c_ifT rfl rfl ?_
    refine c_reg ?_
    refine qd rfl rfl rfl (r_move (v := (.pointer (some ⟨p, 0, none⟩))) rfl) ?_
    refine qd rfl rfl rfl (r_nil rfl) ?_
    refine qd rfl rfl rfl (r_fldp (k := 1) rfl Tryd.underlying79 rfl nz77 rfl) ?_
    refine qd rfl rfl rfl (r_ldp1 (u := R54) ag77 rfl (hpk174.bx.cell (o := 1) rfl)) ?_
    refine qd rfl rfl rfl (r_move (v := (.int .i64 (wl.getD ((wl.length : Int) - 1).toNat 0))) rfl) ?_
    refine qd rfl rfl rfl (run_idx Tryd.underlying77 sz37 (v := R54) rfl rfl hpk174.rr.read (by omega) (by omega)) ?_
    obtain ⟨u179, hr180, hl181⟩ := nm_sl (hpk174.rr.at (z := (wl.getD ((wl.length : Int) - 1).toNat 0)) (by omega) (by omega)) (j := (wl.getD ((wl.length : Int) - 1).toNat 0).toNat) rfl
    rw [mapr_getD] at hr180
    have hm182 := hr180.max
    refine qd rfl rfl rfl (hl181 ag37 rfl (Gadd.pins hX171.pins R54)) ?_
    refine qd rfl rfl rfl (r_assign (v := u179) rfl) ?_
    refine qe ?_
    refine s_then ?_
    refine s_seq ?_
    refine c_reg ?_
    refine qd rfl rfl rfl (r_move (v := (.pointer (some ⟨p, 0, none⟩))) rfl) ?_
    refine qd rfl rfl rfl (r_move (v := (.int .i64 f)) rfl) ?_
    refine qd rfl rfl rfl (r_move (v := (.int .i64 (wl.getD ((wl.length : Int) - 1).toNat 0))) rfl) ?_
    refine qd rfl rfl rfl (r_move (v := (.bool true)) rfl) ?_
    refine qd rfl rfl rfl (r_move (v := u179) rfl) ?_
    refine q1 rfl rfl rfl (o_call (vs := [(.pointer (some ⟨p, 0, none⟩)), (.int .i64 f), (.int .i64 (wl.getD ((wl.length : Int) - 1).toNat 0)), (.bool true), u179]) Tryd.func60 nm60 rfl rfl rfl ?_)
    refine Calls.mono (through_spec hX171.pins hpk174 hok150 (lf := true) (hf2.same hqn152) (hpa.same hqn152) hr180 (by rw [if_pos rfl]) (opts_place hok150 (hpa.same hqn152)).2) ?_
    rintro _ w186 ⟨t183, q184, G185, rfl, hthr187, hpk188, hok189, hpx190, hqn191, hx192⟩
    refine ⟨_, rfl, ?_⟩
    have hX193 := hX171.trans hx192 (fun i hi => (PIn.o hpin66) i hi)
    have ho194 := ho172.extS hx192 (notO (NP.ho hnp154))
    have ho195 := ho173.extS hx192 (notO (NP.ho hnp164))
    have hm196 := hm167.extS hx192 (notOb (NP.ho hnp71))
    have hql197 := hpx190.len
    have hml198 : (q184.ns.map Nd.l).length = q184.ns.length ∧ (q184.ns.map Nd.r).length = q184.ns.length := ⟨List.length_map .., List.length_map ..⟩
    have hml199 : q184.bs.length = q184.ns.length ∧ q184.ns.length ≤ 1048576 := ⟨hok189.ar.ok.len, hok189.ar.ok.lim⟩
    have hql200 := congrArg List.length hqn191.1
    have hthr201 := thr_same hqn152 hthr187
    refine qd rfl rfl rfl (r_assign (v := (.int .i64 t183)) rfl) ?_
    refine qe ?_
    refine s_then ?_
    refine s_blk ?_
    refine s_seq ?_
    refine c_reg ?_
    refine qd rfl rfl rfl (r_move (v := (.int .i64 t183)) rfl) ?_
    refine qd rfl rfl rfl (r_lss rfl rfl) ?_
    refine qd rfl rfl rfl (r_assign (v := (.bool (decide ((t183 : Int) < 0)))) rfl) ?_
    refine qe ?_
    refine s_then ?_
    refine c_ifd (p := (t183 : Int) < 0) rfl rfl (fun h202 => ?_) (fun h202 => ?_)
    · skip
      refine c_reg ?_
      refine qd rfl rfl rfl (r_move (v := kv) rfl) ?_
      refine qd rfl rfl rfl (r_move (v := (.int .i64 (wl.getD ((wl.length : Int) - 1).toNat 0))) rfl) ?_
      refine q1 rfl rfl rfl (o_buildF (E := eInt) (e := 3) [(.int .i64 (wl.getD ((wl.length : Int) - 1).toNat 0))] [wl.getD ((wl.length : Int) - 1).toNat 0] Tryd.underlying37 sz3 zr3 (by exact reps1 (by rfl)) (ones1 (by rfl)) rfl rfl rfl rfl (by decide) hX193.pins (fun u203 w204 ho205 hp206 hl207 hk208 => ?_))
      have hX209 := hX193.step hp206 hl207
      have ho210 := ho194.below hl207
      have ho211 := ho195.below hl207
      have hm212 := hm196.below hl207
      have hpk213 := hpk188.below hl207 hp206
      have ha214 : Apart u203.ownBlock kv.ownBlock := new_ne_own hk208 ho194.lt
      have ho221 : Own eInt 3 G185 w204 w.heap.size u203 ([wl.getD ((wl.length : Int) - 1).toNat 0]) := ho205.weaken hX193.size
      refine q1 rfl rfl rfl (o_append (E := eInt) (v := kv) (u := u203) 8 Tryd.underlying37 ap3 (by decide) rfl rfl hX209.pins ho210 ho221.src (by first | omega | (rw [List.nil_append]; omega) | (rw [List.length_nil]; omega) | (rw [List.length_append]; omega) | (simp; done) | (simp; omega) | (simp only [List.length_append, List.length_cons, List.length_nil]; omega)) (by first | omega | (rw [List.nil_append]; omega) | (rw [List.length_nil]; omega) | (rw [List.length_append]; omega) | (simp; done) | (simp; omega) | (simp only [List.length_append, List.length_cons, List.length_nil]; omega)) (hX209.size) (fun u222 w223 ho224 hp225 hg226 hw227 => ?_))
      have hX228 := hX209.write hp225 hg226 ((lo_own ho210))
      have ho229 := ho211.keptA hg226 ha163
      have hm231 := hm212.kept hg226 (map_ne_own hm212 ho210)
      have hpk232 := hpk213.kept hg226 hp225 hnp154
      have ha233 : Apart u159.ownBlock u222.ownBlock := app_ne_own ha163 hw227 ho211.lt
      have ha234 : Apart u203.ownBlock u222.ownBlock := app_ne_own ha214 hw227 ho221.lt
      have hnp235 := np_app hnp154 hpk213 hw227
      have hm236 : (kept ++ ([wl.getD ((wl.length : Int) - 1).toNat 0])).length = kept.length + 1 := List.length_append
      refine qd rfl rfl rfl (r_assign (v := u222) rfl) ?_
      refine qe ?_
      refine s_blkN ?_
      refine s_blkN ?_
      refine s_lopN ?_
      have htl : (wl.take ((wl.length : Int) - 1).toNat).length = ((wl.length : Int) - 1).toNat := by rw [List.length_take]; omega
      have hrd2 := (hrd.pop hpm).kept (hsn.no h165) (thr_no hthr201 h202)
      have hcl := hrd2.len
      have hsl : (ss ++ [(wl.getD ((wl.length : Int) - 1).toNat 0)]).length = ss.length + 1 := by rw [List.length_append]; rfl
      refine ⟨_, ?_, _, rfl, _, u159, wl.take ((wl.length : Int) - 1).toNat, u222, kept ++ [(wl.getD ((wl.length : Int) - 1).toNat 0)], putE sn (wl.getD ((wl.length : Int) - 1).toNat 0) true, ss ++ [(wl.getD ((wl.length : Int) - 1).toNat 0)], q184, G185, (packS (x := 9) (packS (x := 8) (packS (x := 7) (packS (x := 6) (packS (x := 2) (packS (x := 1) (pack1 (x := 0) rfl) rfl) rfl) rfl) rfl) rfl) rfl), rfl, hX228, (Pin.le_trans hlek141 hx192.le), hrd2, hsn.put, (by omega), ho229, ho224, ha233, hm231, hpk232, hok189, (PX.trans hpx151 hpx190), (ns_trans hqn152 hqn191), hnp164, hnp235⟩
      omega
    refine s_seq ?_
    refine c_reg ?_
    refine qd rfl rfl rfl (r_move (v := (.bool true)) rfl) ?_
    refine qd rfl rfl rfl (r_assign (v := (.bool true)) rfl) ?_
    refine qe ?_
    refine s_then ?_
    refine c_ifT rfl rfl ?_
    refine c_reg ?_
    have hti := thr_info hok67 hpa hthr201 (by omega)
    have hti1 := hti.1.1
    have hti2 := hti.1.2
    have hot := ol_len hok67 (lf := true) hti.1
    have hoe : (q184.ns.getD (t183).toNat default).l = ol q56 true t183 := by rw [(ns_trans hqn152 hqn191).1]; unfold ol; rw [if_pos rfl]
    have hot2 : (q184.ns.getD (t183).toNat default).l.length ≤ 1048576 := by rw [hoe]; exact hot
    have htl0 : (wl.take ((wl.length : Int) - 1).toNat).length = ((wl.length : Int) - 1).toNat := by rw [List.length_take]; omega
    refine qd rfl rfl rfl (r_move (v := u159) rfl) ?_
    refine qd rfl rfl rfl (r_move (v := (.pointer (some ⟨p, 0, none⟩))) rfl) ?_
    refine qd rfl rfl rfl (r_nil rfl) ?_
    refine qd rfl rfl rfl (r_fldp (k := 0) rfl Tryd.underlying79 rfl nz77 rfl) ?_
    refine qd rfl rfl rfl (r_ldp1 (u := L53) ag77 rfl (hpk188.bx.cell (o := 0) rfl)) ?_
    refine qd rfl rfl rfl (r_move (v := (.int .i64 t183)) rfl) ?_
    refine qd rfl rfl rfl (run_idx Tryd.underlying77 sz37 (v := L53) rfl rfl hpk188.ol.read (by omega) (by omega)) ?_
    obtain ⟨u237, hr238, hl239⟩ := nm_sl (hpk188.ol.at (z := t183) (by omega) (by omega)) (j := (t183).toNat) rfl
    rw [mapl_getD] at hr238
    have hm240 := hr238.max
    refine qd rfl rfl rfl (hl239 ag37 rfl (Gadd.pins hX193.pins L53)) ?_
    refine q1 rfl rfl rfl (o_append (E := eInt) (v := u159) (u := u237) 8 Tryd.underlying37 ap3 (by decide) rfl rfl hX193.pins ho195 ((hr238.mono (Pin.le_refl _)).src hX193.pins (by decide)) (by first | omega | (rw [List.nil_append]; omega) | (rw [List.length_nil]; omega) | (rw [List.length_append]; omega) | (simp; done) | (simp; omega) | (simp only [List.length_append, List.length_cons, List.length_nil]; omega)) (by first | omega | (rw [List.nil_append]; omega) | (rw [List.length_nil]; omega) | (rw [List.length_append]; omega) | (simp; done) | (simp; omega) | (simp only [List.length_append, List.length_cons, List.length_nil]; omega)) (hX193.size) (fun u241 w242 ho243 hp244 hg245 hw246 => ?_))
    have hX247 := hX193.write hp244 hg245 ((lo_own ho195))
    have ho248 := ho194.keptA hg245 ha163.symm
    have hm249 := hm196.kept hg245 (map_ne_own hm196 ho195)
    have hpk250 := hpk188.kept hg245 hp244 hnp164
    have ha251 : Apart kv.ownBlock u241.ownBlock := app_ne_own ha163.symm hw246 ho194.lt
    have hnp252 := np_app hnp164 hpk188 hw246
    have hm253 : ((wl.take (((wl.length : Int) - 1).toNat)) ++ ((q184.ns.getD (t183).toNat default).l)).length = (wl.take (((wl.length : Int) - 1).toNat)).length + ((q184.ns.getD (t183).toNat default).l).length := List.length_append
    refine qd rfl rfl rfl (r_assign (v := u241) rfl) ?_
    refine qe ?_
    refine s_blkN ?_
    refine s_blkN ?_
    refine s_lopN ?_
    have htl : (wl.take ((wl.length : Int) - 1).toNat).length = ((wl.length : Int) - 1).toNat := by rw [List.length_take]; omega
    have hrd2 := (hrd.pop hpm).pass_on hok67 (hsn.no h165) hti.1 hti.2.1 hti.2.2
    have hcl := hrd2.len
    have hsl : (ss ++ [(wl.getD ((wl.length : Int) - 1).toNat 0)]).length = ss.length + 1 := by rw [List.length_append]; rfl
    have hal : ((wl.take (((wl.length : Int) - 1).toNat)) ++ ((q184.ns.getD (t183).toNat default).l)).length = ((wl.length : Int) - 1).toNat + (q184.ns.getD (t183).toNat default).l.length := by rw [List.length_append, htl]
    rw [← hoe] at hrd2
    refine ⟨_, ?_, _, rfl, _, u241, (wl.take (((wl.length : Int) - 1).toNat)) ++ ((q184.ns.getD (t183).toNat default).l), kv, kept, putE sn (wl.getD ((wl.length : Int) - 1).toNat 0) true, ss ++ [(wl.getD ((wl.length : Int) - 1).toNat 0)], q184, G185, (packS (x := 9) (packS (x := 8) (packS (x := 7) (packS (x := 6) (packS (x := 2) (packS (x := 1) (pack1 (x := 0) rfl) rfl) rfl) rfl) rfl) rfl) rfl), rfl, hX247, (Pin.le_trans hlek141 hx192.le), hrd2, hsn.put, (by omega), ho243, ho248, ha251.symm, hm249, hpk250, hok189, (PX.trans hpx151 hpx190), (ns_trans hqn152 hqn191), hnp252, hnp154⟩
    omega
  refine wp_exit ?_
  refine s_thenE ?_
  refine s_lopE ?_
  refine s_blkE ?_
  refine s_then ?_
  refine s_seq ?_
  refine c_reg ?_
  refine qd rfl rfl rfl (r_move (v := kv) rfl) ?_
  refine qd rfl rfl rfl (r_move (v := (.pointer (some ⟨p, 0, none⟩))) rfl) ?_
  refine qd rfl rfl rfl (r_move (v := kv) rfl) ?_
  refine qd rfl rfl rfl (r_move (v := (.bool true)) rfl) ?_
  obtain ⟨G254, hle257, hX256, hr255, hf258⟩ := hw146.sealed hX144
  have hpk260 := hpk149.moreO hle257 hf258 hnp154
  refine q1 rfl rfl rfl (o_call (vs := [(.pointer (some ⟨p, 0, none⟩)), kv, (.bool true)]) Tryd.func62 nm62 rfl rfl rfl ?_)
  refine Calls.mono (idominated_spec hX256.pins hpk260 hok150 (lf := true) hr255 (by omega) (fun i hi => ((hrd.all _ (Or.inr ((hrd.keep _).1 (getD_mem hi)).1)).1).same hqn152)) ?_
  rintro _ w264 ⟨u261, q262, G263, rfl, ho265, hpk266, hok267, hpx268, hqn269, hx270⟩
  refine ⟨_, rfl, ?_⟩
  have hnp271 := hpk260.new (x := u261.ownBlock) (fun k hk => (ho265.lt k hk).1)
  have hX272 := hX256.trans hx270 (fun i hi => (PIn.o hpin66) i hi)
  have hql275 := hpx268.len
  have hml276 : (q262.ns.map Nd.l).length = q262.ns.length ∧ (q262.ns.map Nd.r).length = q262.ns.length := ⟨List.length_map .., List.length_map ..⟩
  have hml277 : q262.bs.length = q262.ns.length ∧ q262.ns.length ≤ 1048576 := ⟨hok267.ar.ok.len, hok267.ar.ok.lim⟩
  have hql278 := congrArg List.length hqn269.1
  have ho280 := ho265.weaken hX256.size
  obtain ⟨G281, hle284, hX283, hr282, hf285⟩ := ho280.sealed hX272
  have hpk287 := hpk266.moreO hle284 hf285 hnp271
  refine q1 rfl rfl rfl (o_call (vs := [kv, u261]) Tryd.func61 nm61 rfl rfl rfl ?_)
  refine Calls.mono (without_spec hX283.pins (hr255.mono (Pin.le_trans hx270.le hle284)) hr282 (by omega) (dom_pw _) (fun z hz => by obtain ⟨k, _, e, _⟩ := (dom_mem _).1 hz; omega)) ?_
  rintro _ w290 ⟨u288, G289, rfl, ho291, hx292⟩
  refine ⟨_, rfl, ?_⟩
  have hX293 := hX283.tr hx292
  have hpk296 := hpk287.ext hx292
  have hnp298 := hpk287.new (x := u288.ownBlock) (fun k hk => (ho291.lt k hk).1)
  have ho299 : Own eInt 3 G289 w290 w.heap.size u288 (woL kept (domL (gX q140 kept) true kept.length kept.length) kept.length) := ho291.weaken hX283.size
  refine qd rfl rfl rfl (r_assign (v := u288) rfl) ?_
  refine qe ?_
  refine s_then ?_
  refine wp_ret ?_
  refine s_ret ?_
  refine c_ret1 (v := u288) rfl rfl rfl ?_
  have hwz : wl = [] := List.eq_nil_of_length_eq_zero (by omega)
  rw [hwz] at hrd
  have hre := (re_done hok150 (hrd.same hqn152) (pd_same hqn152).symm).same hqn269
  have hul := unc_px (PX.trans hpx151 hpx268) N
  exact ⟨u288, _, L53, R54, B55, q262, G289, rfl, hpk296, hok267, (PX.trans (PX.trans hpx68 hpx151) hpx268), PIn.lo hpin66 rfl, hX293, ho299, hnp298, hre, (by have := congrArg List.length ((ns_trans hqn152 hqn269)).1; omega)⟩

end CN2
end Go.Proofs.YtfkompdmejpmmaaDoor

/- Walks, printed by a program (walkgen.py) from the spec specs_cn. -/
set_option maxRecDepth 20000
set_option maxHeartbeats 2000000
namespace Go.Proofs.YtfkompdmejpmmaaDoor
namespace CN3
open Go.RowKit Go.GL Go.Proofs
open Go.Proofs.YtfkompdmejpmmaaDoor.B1
open Go.Proofs.YtfkompdmejpmmaaDoor.K1
open Go.Proofs.YtfkompdmejpmmaaDoor.PO1
open Go.Proofs.YtfkompdmejpmmaaDoor.PL1
open Go.Proofs.YtfkompdmejpmmaaDoor.DI1
open Go.Proofs.YtfkompdmejpmmaaDoor.RI1
open Go.Proofs.YtfkompdmejpmmaaDoor.CN1
theorem ag3 : (Tryd.prog.underlying 3).map aggD = some false := by kernel_rfl
theorem ag37 : (Tryd.prog.underlying 37).map aggD = some false := by kernel_rfl
theorem ag77 : (Tryd.prog.underlying 77).map aggD = some false := by kernel_rfl
theorem ap3 : (Tryd.prog.info? 3).map (fun i => (i.size, i.bytes, (i.zero.map (·.cells.size)))) = some (1, 8, some 1) := by kernel_rfl
theorem nm19 : (Tryd.f19.name == "runtime.NumGoroutine") = false := by kernel_rfl
theorem nm60 : (Tryd.f60.name == "runtime.NumGoroutine") = false := by kernel_rfl
theorem nm61 : (Tryd.f61.name == "runtime.NumGoroutine") = false := by kernel_rfl
theorem nm62 : (Tryd.f62.name == "runtime.NumGoroutine") = false := by kernel_rfl
theorem nz77 : (Tryd.prog.info? 77).map (·.size == 0) = some false := by kernel_rfl
theorem sz3 : (Tryd.prog.info? 3).map (·.size) = some 1 := by kernel_rfl
theorem sz37 : (Tryd.prog.info? 37).map (·.size) = some 1 := by kernel_rfl
theorem zr3 : (Tryd.prog.info? 3).bind (·.zero) = some (.int .i64 0) := by kernel_rfl
theorem zr4 : (Tryd.prog.info? 4).bind (·.zero) = some (.bool false) := by kernel_rfl

theorem reduced_f {w : World} {G : Pin} {L R B : Value} {q : PSt} {f : Int} {p : Nat} {mm : PM} {N m : Nat} (hP : Pins G w) (hpk : Pk 37 3 G w p L R B mm q) (hok : PoolOk q) (hf : PlaceOk q f) (hfN : f < (N : Int)) (hbud : q.ns.length + unc q N < 1048576) (ih : CanP N m p mm) (hm : f.toNat < m + 1) :
    Calls Tryd.prog 43 [(.pointer (some ⟨p, 0, none⟩)), (.int .i64 f), (.bool false)].toArray w fun e w' => ∃ (u : Value) (zs : List Int) (L' R' B' : Value) (q' : PSt) (G' : Pin), e = .returned u ∧ Pk 37 3 G' w' p L' R' B' mm q' ∧ PoolOk q' ∧ PX q q' ∧ PLo w p L R B mm L' R' B' ∧ Ext (inP p L R B mm) G w G' w' ∧ Own eInt 3 G' w' w.heap.size u zs ∧ NP p L' R' B' mm u.ownBlock ∧ ReOk q' false f zs ∧ q'.ns.length + unc q' N ≤ q.ns.length + unc q N := by
  refine s_enter (n := 120) Tryd.func43 Tryd.ntmps43 rfl rfl ?_
  have hX0 : Ext (inP p L R B mm) G w G w := Ext.refl hP
  have hpin : PIn w (inP p L R B mm) p L R B mm := PIn.self
  have hml1 : (q.ns.map Nd.l).length = q.ns.length ∧ (q.ns.map Nd.r).length = q.ns.length := ⟨List.length_map .., List.length_map ..⟩
  have hml2 : q.bs.length = q.ns.length ∧ q.ns.length ≤ 1048576 := ⟨hok.ar.ok.len, hok.ar.ok.lim⟩
  have hf0 := hf.1
  have hf1 := hf.2
  have hol0 := ol_len hok (lf := false) hf
  have hol1 : (q.ns.getD (f).toNat default).r.length ≤ 1048576 := hol0
  refine s_seq ?_
  refine c_reg ?_
  refine qd rfl rfl rfl (r_assign (v := (.slice none 0 0)) rfl) ?_
  refine qe ?_
  refine s_then ?_
  refine s_seq ?_
  refine c_reg ?_
  refine q1 rfl rfl rfl (o_build0 (E := eInt) (e := 3) Tryd.underlying37 sz3 hX0.pins (fun u3 w4 ho5 hp6 hl7 hk8 => ?_))
  have hX9 := hX0.step hp6 hl7
  have hpk10 := hpk.below hl7 hp6
  have ha15 := hpk.new (x := u3.ownBlock) (fun k hk => by rw [hk8] at hk; cases hk; exact Nat.le_refl _)
  have ho16 : Own eInt 3 G w4 w.heap.size u3 ([]) := ho5.weaken hX0.size
  refine q1 rfl rfl rfl (o_makeMap (fun k : Int => Value.int .i64 k) (fun v : Bool => Value.bool v) hX9.pins (fun m17 w18 hk19 hm20 hp21 hl22 => ?_))
  have hX23 := hX9.step hp21 hl22
  have ho24 := ho16.below hl22
  have hpk25 := hpk10.below hl22 hp21
  have hnp26 := hpk10.new (x := some m17) (fun k hk => by cases hk; omega)
  have hlo27 : w.heap.size ≤ m17 := by have := hX9.size; omega
  refine q1 rfl rfl rfl (o_build0 (E := eInt) (e := 3) Tryd.underlying37 sz3 hX23.pins (fun u28 w29 ho30 hp31 hl32 hk33 => ?_))
  have hX34 := hX23.step hp31 hl32
  have ho35 := ho24.below hl32
  have hm36 := hm20.below hl32
  have hpk37 := hpk25.below hl32 hp31
  have ha38 : Apart u28.ownBlock u3.ownBlock := new_ne_own hk33 ho24.lt
  have ha43 := hpk25.new (x := u28.ownBlock) (fun k hk => by rw [hk33] at hk; cases hk; exact Nat.le_refl _)
  have ho44 : Own eInt 3 G w29 w.heap.size u28 ([]) := ho30.weaken hX23.size
  refine qd rfl rfl rfl (r_assign (v := u3) rfl) ?_
  refine qd rfl rfl rfl (r_assign (v := (.map (some m17))) rfl) ?_
  refine qd rfl rfl rfl (r_assign (v := u28) rfl) ?_
  refine qe ?_
  refine s_then ?_
  refine s_seq ?_
  refine c_reg ?_
  refine qd rfl rfl rfl (r_move (v := (.pointer (some ⟨p, 0, none⟩))) rfl) ?_
  refine qd rfl rfl rfl (r_nil rfl) ?_
  refine qd rfl rfl rfl (r_fldp (k := 1) rfl Tryd.underlying79 rfl nz77 rfl) ?_
  refine qd rfl rfl rfl (r_ldp1 (u := R) ag77 rfl (hpk37.bx.cell (o := 1) rfl)) ?_
  refine qd rfl rfl rfl (r_move (v := (.int .i64 f)) rfl) ?_
  refine qd rfl rfl rfl (run_idx Tryd.underlying77 sz37 (v := R) rfl rfl hpk37.rr.read (by omega) (by omega)) ?_
  obtain ⟨u45, hr46, hl47⟩ := nm_sl (hpk37.rr.at (z := f) (by omega) (by omega)) (j := (f).toNat) rfl
  rw [mapr_getD] at hr46
  have hm48 := hr46.max
  refine qd rfl rfl rfl (hl47 ag37 rfl (Gadd.pins hX34.pins R)) ?_
  refine qd rfl rfl rfl (r_assign (v := u45) rfl) ?_
  refine qe ?_
  refine s_then ?_
  refine s_seq ?_
  refine s_seq ?_
  refine c_reg ?_
  refine qd rfl rfl rfl (r_move (v := (.bool false)) rfl) ?_
  refine qe ?_
  refine s_then ?_
  refine c_ifF rfl rfl ?_
  refine wp_skip ?_
  refine s_then ?_
  refine s_seq ?_
  refine s_seq ?_
  refine c_reg ?_
  refine qd rfl rfl rfl (r_move (v := u45) rfl) ?_
  refine qd rfl rfl rfl (run_len Tryd.underlying37 (v := u45) rfl hr46) ?_
  refine qd rfl rfl rfl (r_move (v := (.int .i64 0)) rfl) ?_
  refine qe ?_
  refine s_then ?_
  refine s_blk ?_
  refine s_loop (fun (k : Nat) (en : Nat → Value) (W : World) => ∃ (env1 : Nat → Value) (j : Nat) (qv : Value) (qs : List Int) (L49 : Value) (R50 : Value) (B51 : Value) (q52 : PSt) (GL1 : Pin), en = (upd (upd (upd (upd (upd (upd (upd (upd (upd (upd env1 0 (.pointer (some ⟨p, 0, none⟩))) 1 (.int .i64 f)) 2 (.bool false)) 6 (.slice none 0 0)) 7 qv) 8 (.map (some m17))) 9 u28) 34 u45) 35 (.int .i64 (((q.ns.getD (f).toNat default).r).length : Int))) 36 (.int .i64 (j : Int))) ∧ k = (q.ns.getD (f).toNat default).r.length - j ∧ Ext (inP p L R B mm) G w GL1 W ∧ Pin.le G GL1 ∧ (j ≤ (q.ns.getD (f).toNat default).r.length) ∧ (QOk q q52 (q.ns.getD (f).toNat default).r qs j) ∧ (q52.ns.length + unc q52 N ≤ q.ns.length + unc q N) ∧ (Own eInt 3 GL1 W w.heap.size qv (qs)) ∧ (Own eInt 3 GL1 W w.heap.size u28 ([])) ∧ (Apart qv.ownBlock u28.ownBlock) ∧ (Mp (fun k : Int => Value.int .i64 k) (fun v : Bool => Value.bool v) W m17 ([])) ∧ (Pk 37 3 GL1 W p L49 R50 B51 mm q52) ∧ (PIn w ((inP p L R B mm)) p L49 R50 B51 mm) ∧ (PoolOk q52) ∧ (PX q q52) ∧ (NP p L49 R50 B51 mm qv.ownBlock) ∧ (NP p L49 R50 B51 mm u28.ownBlock) ∧ (NP p L49 R50 B51 mm (some m17))) _ ⟨_, 0, u3, [], L, R, B, q, G, (packS (x := 36) (packS (x := 35) (packS (x := 34) (packS (x := 9) (packS (x := 8) (packS (x := 7) (packS (x := 6) (packS (x := 2) (packS (x := 1) (pack1 (x := 0) rfl) rfl) rfl) rfl) rfl) rfl) rfl) rfl) rfl) rfl), rfl, hX34, Pin.le_refl _, Nat.zero_le _, QOk.start, Nat.le_refl _, ho35, ho44, ha38.symm, hm36, hpk37, hpin, hok, (PX.refl _), ha15, ha43, hnp26⟩ ?_
  rintro k53 _ w54 ⟨env1, j, qv, qs, L49, R50, B51, q52, GL1, rfl, hk55, hX56, hlek53, hj, hqo, hbu, hw57, hw58, ha59, hm60, hpk61, hpin62, hok63, hpx64, hnp65, hnp66, hnp67⟩
  have hql68 := hpx64.len
  have hml69 : (q52.ns.map Nd.l).length = q52.ns.length ∧ (q52.ns.map Nd.r).length = q52.ns.length := ⟨List.length_map .., List.length_map ..⟩
  have hml70 : q52.bs.length = q52.ns.length ∧ q52.ns.length ≤ 1048576 := ⟨hok63.ar.ok.len, hok63.ar.ok.lim⟩
  have hql1 := hqo.len
  refine s_seq ?_
  refine c_reg ?_
  refine qd rfl rfl rfl (r_lss rfl rfl) ?_
  refine qe ?_
  refine s_then ?_
  refine s_seq ?_
  refine c_ifd (p := ((j : Int) : Int) < (((q.ns.getD (f).toNat default).r).length : Int)) rfl rfl (fun h71 => ?_) (fun h71 => ?_)
  · skip
    have hmj : (q.ns.getD (f).toNat default).r.getD j 0 ∈ (q.ns.getD (f).toNat default).r := getD_mem (show j < (q.ns.getD (f).toNat default).r.length by omega)
    have hoj := (opts_place hok hf).2 _ hmj
    have hoj1 := hoj.1
    have hoz := ((optsAt hok.ar.opts (show (f).toNat < q.ns.length by omega)).2 _ hmj).2
    refine wp_skip ?_
    refine s_then ?_
    refine s_seq ?_
    refine s_blk ?_
    refine s_seq ?_
    refine c_reg ?_
    refine qd rfl rfl rfl (run_idx Tryd.underlying37 sz3 (v := u45) rfl rfl hr46 (by omega) (by omega)) ?_
    refine qd rfl rfl rfl (run_load_int (r := ((q.ns.getD (f).toNat default).r).getD j 0) rfl ag3 (z := (j : Int)) rfl hr46 (Pins.of_le hX56.pins hlek53) (by omega) (by omega)) ?_
    refine qd rfl rfl rfl (r_assign (v := (.int .i64 (((q.ns.getD (f).toNat default).r).getD j 0))) rfl) ?_
    refine qe ?_
    refine s_then ?_
    refine c_reg ?_
    refine qd rfl rfl rfl (r_move (v := qv) rfl) ?_
    refine qd rfl rfl rfl (r_move (v := (.pointer (some ⟨p, 0, none⟩))) rfl) ?_
    refine qd rfl rfl rfl (r_move (v := (.int .i64 (((q.ns.getD (f).toNat default).r).getD j 0))) rfl) ?_
    refine q1 rfl rfl rfl (o_call (vs := [(.pointer (some ⟨p, 0, none⟩)), (.int .i64 (((q.ns.getD (f).toNat default).r).getD j 0))]) Tryd.func19 nm19 rfl rfl rfl ?_)
    refine Calls.mono (ih hX56.pins hpk61 hok63 (hpx64.place hoj) (by omega) (by omega) (by omega)) ?_
    rintro _ w82 ⟨z72, L77, R78, B79, q80, G81, rfl, hpk83, hok84, hpx85, hlo86, hx87, hpl73, hcg74, heq75, hbu76⟩
    refine ⟨_, rfl, ?_⟩
    have hX88 := hX56.trans hx87 hpin62
    have ho89 := hw57.extS hx87 hnp65
    have hnp90 := NP.call hnp65 hlo86 (own_lt hw57)
    have ho91 := hw58.extS hx87 hnp66
    have hnp92 := NP.call hnp66 hlo86 (own_lt hw58)
    have hm93 := hm60.extS hx87 (NP.notb hnp67)
    have hnp94 := NP.call hnp67 hlo86 (fun j hj => by cases hj; exact hm60.lt)
    have hpin95 := PIn.call hpin62 hlo86 hX56.size
    have hql96 := hpx85.len
    have hml97 : (q80.ns.map Nd.l).length = q80.ns.length ∧ (q80.ns.map Nd.r).length = q80.ns.length := ⟨List.length_map .., List.length_map ..⟩
    have hml98 : q80.bs.length = q80.ns.length ∧ q80.ns.length ≤ 1048576 := ⟨hok84.ar.ok.len, hok84.ar.ok.lim⟩
    refine q1 rfl rfl rfl (o_buildF (E := eInt) (e := 3) [(.int .i64 z72)] [z72] Tryd.underlying37 sz3 zr3 (by exact reps1 (by rfl)) (ones1 (by rfl)) rfl rfl rfl rfl (by decide) hX88.pins (fun u99 w100 ho101 hp102 hl103 hk104 => ?_))
    have hX105 := hX88.step hp102 hl103
    have ho106 := ho89.below hl103
    have ho107 := ho91.below hl103
    have hm108 := hm93.below hl103
    have hpk109 := hpk83.below hl103 hp102
    have ha110 : Apart u99.ownBlock qv.ownBlock := new_ne_own hk104 ho89.lt
    have ho117 : Own eInt 3 G81 w100 w.heap.size u99 ([z72]) := ho101.weaken hX88.size
    refine q1 rfl rfl rfl (o_append (E := eInt) (v := qv) (u := u99) 8 Tryd.underlying37 ap3 (by decide) rfl rfl hX105.pins ho106 ho117.src (by first | omega | (rw [List.nil_append]; omega) | (rw [List.length_nil]; omega) | (rw [List.length_append]; omega) | (simp; done) | (simp; omega) | (simp only [List.length_append, List.length_cons, List.length_nil]; omega)) (by first | omega | (rw [List.nil_append]; omega) | (rw [List.length_nil]; omega) | (rw [List.length_append]; omega) | (simp; done) | (simp; omega) | (simp only [List.length_append, List.length_cons, List.length_nil]; omega)) (hX105.size) (fun u118 w119 ho120 hp121 hg122 hw123 => ?_))
    have hX124 := hX105.write hp121 hg122 ((lo_own ho106))
    have ho125 := ho107.keptA hg122 ha59.symm
    have hm127 := hm108.kept hg122 (map_ne_own hm108 ho106)
    have hpk128 := hpk109.kept hg122 hp121 hnp90
    have ha129 : Apart u28.ownBlock u118.ownBlock := app_ne_own ha59.symm hw123 ho107.lt
    have ha130 : Apart u99.ownBlock u118.ownBlock := app_ne_own ha110 hw123 ho117.lt
    have hnp131 := np_app hnp90 hpk109 hw123
    have hm132 : (qs ++ ([z72])).length = qs.length + 1 := List.length_append
    refine qd rfl rfl rfl (r_assign (v := u118) rfl) ?_
    refine qe ?_
    refine s_blkN ?_
    refine s_then ?_
    refine c_reg ?_
    refine qd rfl rfl rfl (r_add rfl rfl (by omega)) ?_
    refine qd rfl rfl rfl (r_move (v := (.int .i64 ((j : Int) + 1))) rfl) ?_
    refine qe ?_
    refine s_lopN ?_
    refine ⟨_, ?_, _, rfl, _, j + 1, u118, qs ++ ([z72]), L77, R78, B79, q80, G81, (packS (x := 36) (packS (x := 35) (packS (x := 34) (packS (x := 9) (packS (x := 8) (packS (x := 7) (packS (x := 6) (packS (x := 2) (packS (x := 1) (pack1 (x := 0) rfl) rfl) rfl) rfl) rfl) rfl) rfl) rfl) rfl) rfl), rfl, hX124, (Pin.le_trans hlek53 hx87.le), (by omega), (hqo.step hok hok63 hok84 hpx64 hpx85 hoj hpl73 hcg74 heq75), (by have := hbu76; omega), ho120, ho125, ha129.symm, hm127, hpk128, hpin95, hok84, (PX.trans hpx64 hpx85), hnp131, hnp92, hnp94⟩
    omega
  refine wp_exit ?_
  refine s_thenE ?_
  refine s_lopE ?_
  refine s_blkE ?_
  refine s_then ?_
  refine s_seq ?_
  refine s_blk ?_
  have hjn : j = (q.ns.getD (f).toNat default).r.length := by omega
  rw [hjn] at hqo
  have hrd0 : RdW q52 false (pd q52 f) qs [] [] := by rw [hpx64.pd hok hok63 hf]; exact hqo.rd (lf := false) hok hf (by unfold ol; rw [if_neg Bool.false_ne_true])
  have hq2l := hqo.len
  have hf2 := hpx64.place hf
  refine s_loop (fun (k : Nat) (en : Nat → Value) (W : World) => ∃ (env1 : Nat → Value) (wv : Value) (wl : List Int) (kv : Value) (kept : List Int) (sn : List (Int × Bool)) (ss : List Int) (q136 : PSt) (GL2 : Pin), en = (upd (upd (upd (upd (upd (upd (upd env1 0 (.pointer (some ⟨p, 0, none⟩))) 1 (.int .i64 f)) 2 (.bool false)) 6 (.slice none 0 0)) 7 wv) 8 (.map (some m17))) 9 kv) ∧ k = (q52.ns.length - ss.length) * 1048577 + wl.length ∧ Ext (inP p L R B mm) G w GL2 W ∧ Pin.le GL1 GL2 ∧ (RdW q52 false (pd q52 f) wl ss kept) ∧ (SnOk sn ss) ∧ (wl.length ≤ 1048576 + 1048576 * ss.length) ∧ (Own eInt 3 GL2 W w.heap.size wv (wl)) ∧ (Own eInt 3 GL2 W w.heap.size kv (kept)) ∧ (Apart wv.ownBlock kv.ownBlock) ∧ (Mp (fun k : Int => Value.int .i64 k) (fun v : Bool => Value.bool v) W m17 (sn)) ∧ (Pk 37 3 GL2 W p L49 R50 B51 mm q136) ∧ (PoolOk q136) ∧ (PX q52 q136) ∧ (q136.ns = q52.ns ∧ q136.bs = q52.bs) ∧ (NP p L49 R50 B51 mm wv.ownBlock) ∧ (NP p L49 R50 B51 mm kv.ownBlock)) _ ⟨_, qv, qs, u28, [], [], [], q52, GL1, (packS (x := 9) (packS (x := 8) (packS (x := 7) (packS (x := 6) (packS (x := 2) (packS (x := 1) (pack1 (x := 0) rfl) rfl) rfl) rfl) rfl) rfl) rfl), rfl, hX56, Pin.le_refl _, hrd0, SnOk.start, (by simp; omega), hw57, hw58, ha59, hm60, hpk61, hok63, (PX.refl _), ⟨rfl, rfl⟩, hnp65, hnp66⟩ ?_
  rintro k137 _ w138 ⟨env1, wv, wl, kv, kept, sn, ss, q136, GL2, rfl, hk139, hX140, hlek137, hrd, hsn, hwl, hw141, hw142, ha143, hm144, hpk145, hok146, hpx147, hqn148, hnp149, hnp150⟩
  have hql151 := hpx147.len
  have hml152 : (q136.ns.map Nd.l).length = q136.ns.length ∧ (q136.ns.map Nd.r).length = q136.ns.length := ⟨List.length_map .., List.length_map ..⟩
  have hml153 : q136.bs.length = q136.ns.length ∧ q136.ns.length ≤ 1048576 := ⟨hok146.ar.ok.len, hok146.ar.ok.lim⟩
  have hrl := hrd.len
  refine s_seq ?_
  refine s_seq ?_
  refine c_reg ?_
  refine qd rfl rfl rfl (r_move (v := wv) rfl) ?_
  refine qd rfl rfl rfl (run_len Tryd.underlying37 (v := wv) rfl hw141.read) ?_
  refine qd rfl rfl rfl (r_gtr rfl rfl) ?_
  refine qe ?_
  refine s_then ?_
  refine c_ifd (p := (0 : Int) < (wl.length : Int)) rfl rfl (fun h154 => ?_) (fun h154 => ?_)
  · skip
    have hpm : ((wl.length : Int) - 1).toNat + 1 = wl.length := by omega
    have hpa := hrd.at_ hpm
    have hpa1 := hpa.1
    have hpa2 := hpa.2
    refine wp_skip ?_
    refine s_then ?_
    refine s_blk ?_
    refine s_seq ?_
    refine c_reg ?_
    refine qd rfl rfl rfl (r_move (v := wv) rfl) ?_
    refine qd rfl rfl rfl (r_move (v := wv) rfl) ?_
    refine qd rfl rfl rfl (run_len Tryd.underlying37 (v := wv) rfl hw141.read) ?_
    refine qd rfl rfl rfl (r_sub rfl rfl (by omega)) ?_
    refine qd rfl rfl rfl (run_idx Tryd.underlying37 sz3 (v := wv) rfl rfl hw141.read (by omega) (by omega)) ?_
    refine qd rfl rfl rfl (run_load_int (r := wl.getD ((wl.length : Int) - 1).toNat 0) rfl ag3 (z := ((wl.length : Int) - 1)) rfl hw141.read (Gadd.pins hX140.pins wv) (by omega) (by omega)) ?_
    refine qd rfl rfl rfl (r_assign (v := (.int .i64 (wl.getD ((wl.length : Int) - 1).toNat 0))) rfl) ?_
    refine qe ?_
    refine s_then ?_
    refine s_seq ?_
    refine c_reg ?_
    refine qd rfl rfl rfl (r_move (v := wv) rfl) ?_
    refine qd rfl rfl rfl (r_move (v := wv) rfl) ?_
    refine qd rfl rfl rfl (run_len Tryd.underlying37 (v := wv) rfl hw141.read) ?_
    refine qd rfl rfl rfl (r_sub rfl rfl (by omega)) ?_
    obtain ⟨u155, ho156, hb157, hl158⟩ := own_cut hw141 (((wl.length : Int) - 1).toNat) ((wl.length : Int) - 1) (by omega) rfl (by omega) (by omega)
    have ha159 : Apart u155.ownBlock kv.ownBlock := by rw [hb157]; exact ha143
    have hnp160 := (show NP _ _ _ _ _ u155.ownBlock by rw [hb157]; exact hnp149)
    refine qd rfl rfl rfl (hl158 Tryd.underlying37 sz3 rfl rfl rfl) ?_
    refine qd rfl rfl rfl (r_assign (v := u155) rfl) ?_
    refine qe ?_
    refine s_then ?_
    refine s_seq ?_
    refine s_seq ?_
    refine c_reg ?_
    refine qd rfl rfl rfl (r_move (v := (.map (some m17))) rfl) ?_
    refine qd rfl rfl rfl (r_move (v := (.int .i64 (wl.getD ((wl.length : Int) - 1).toNat 0))) rfl) ?_
    refine qd rfl rfl rfl (run_look1_bool (k := (wl.getD ((wl.length : Int) - 1).toNat 0)) (key_int Tryd.underlying3) Tryd.underlying92 zr4 hm144 rfl rfl) ?_
    refine qe ?_
    refine s_then ?_
    refine c_if rfl rfl (fun h161 => ?_) (fun h161 => ?_)
    · skip
      refine wp_exit ?_
      refine s_thenE ?_
      refine s_blkE ?_
      refine s_lopN ?_
      have htl : (wl.take ((wl.length : Int) - 1).toNat).length = ((wl.length : Int) - 1).toNat := by rw [List.length_take]; omega
      refine ⟨_, ?_, _, rfl, _, u155, wl.take ((wl.length : Int) - 1).toNat, kv, kept, sn, ss, q136, GL2, (packS (x := 9) (packS (x := 8) (packS (x := 7) (packS (x := 6) (packS (x := 2) (packS (x := 1) (pack1 (x := 0) rfl) rfl) rfl) rfl) rfl) rfl) rfl), rfl, hX140, hlek137, ((hrd.pop hpm).seen (hsn.yes h161)), hsn, (by omega), ho156, hw142, ha159, hm144, hpk145, hok146, hpx147, hqn148, hnp160, hnp150⟩
      omega
    refine wp_skip ?_
    refine s_then ?_
    refine s_seq ?_
    refine c_reg ?_
    refine qd rfl rfl rfl (r_move (v := (.map (some m17))) rfl) ?_
    refine qd rfl rfl rfl (r_move (v := (.int .i64 (wl.getD ((wl.length : Int) - 1).toNat 0))) rfl) ?_
    refine q0 rfl rfl rfl (o_mapUpdate (val := (fun v : Bool => Value.bool v)) (k := (wl.getD ((wl.length : Int) - 1).toNat 0)) (v := true) (key_int Tryd.underlying3) Tryd.underlying92 rfl rfl rfl hX140.pins hm144 (fun w162 hm163 hp164 hg165 hz166 => ?_))
    have hX167 := hX140.write hp164 hg165 ((lo_box hlo27))
    have ho168 := hw142.keptA hg165 (map_ne_own hm144 hw142).symm
    have ho169 := ho156.keptA hg165 (map_ne_own hm144 ho156).symm
    have hpk170 := hpk145.kept hg165 hp164 hnp67
    refine qe ?_
    refine s_then ?_
    refine s_seq ?_
    refine c_reg ?_
    refine qd rfl rfl rfl (r_move (v := (.pointer (some ⟨p, 0, none⟩))) rfl) ?_
    refine qd rfl rfl rfl (r_nil rfl) ?_
    refine qd rfl rfl rfl (r_fldp (k := 0) rfl Tryd.underlying79 rfl nz77 rfl) ?_
    refine qd rfl rfl rfl (r_ldp1 (u := L49) ag77 rfl (hpk170.bx.cell (o := 0) rfl)) ?_
    refine qd rfl rfl rfl (r_move (v := (.int .i64 (wl.getD ((wl.length : Int) - 1).toNat 0))) rfl) ?_
    refine qd rfl rfl rfl (run_idx Tryd.underlying77 sz37 (v := L49) rfl rfl hpk170.ol.read (by omega) (by omega)) ?_
    obtain ⟨u171, hr172, hl173⟩ := nm_sl (hpk170.ol.at (z := (wl.getD ((wl.length : Int) - 1).toNat 0)) (by omega) (by omega)) (j := (wl.getD ((wl.length : Int) - 1).toNat 0).toNat) rfl
    rw [mapl_getD] at hr172
    have hm174 := hr172.max
    refine qd rfl rfl rfl (hl173 ag37 rfl (Gadd.pins hX167.pins L49)) ?_
    refine qd rfl rfl rfl (r_assign (v := u171) rfl) ?_
    refine qe ?_
    refine s_then ?_
    refine s_seq ?_
    refine s_seq ?_
    refine c_reg ?_
    refine qd rfl rfl rfl (r_move (v := (.bool false)) rfl) ?_
    refine qe ?_
    refine s_then ?_
    refine c_ifF rfl rfl ?_
    refine wp_skip ?_
    refine s_then ?_
    refine s_seq ?_
    refine c_reg ?_
    refine qd rfl rfl rfl (r_move (v := (.pointer (some ⟨p, 0, none⟩))) rfl) ?_
    refine qd rfl rfl rfl (r_move (v := (.int .i64 f)) rfl) ?_
    refine qd rfl rfl rfl (r_move (v := (.int .i64 (wl.getD ((wl.length : Int) - 1).toNat 0))) rfl) ?_
    refine qd rfl rfl rfl (r_move (v := (.bool false)) rfl) ?_
    refine qd rfl rfl rfl (r_move (v := u171) rfl) ?_
    refine q1 rfl rfl rfl (o_call (vs := [(.pointer (some ⟨p, 0, none⟩)), (.int .i64 f), (.int .i64 (wl.getD ((wl.length : Int) - 1).toNat 0)), (.bool false), u171]) Tryd.func60 nm60 rfl rfl rfl ?_)
    refine Calls.mono (through_spec hX167.pins hpk170 hok146 (lf := false) (hf2.same hqn148) (hpa.same hqn148) hr172 (by rw [if_neg Bool.false_ne_true]) (opts_place hok146 (hpa.same hqn148)).1) ?_
    rintro _ w178 ⟨t175, q176, G177, rfl, hthr179, hpk180, hok181, hpx182, hqn183, hx184⟩
    refine ⟨_, rfl, ?_⟩
    have hX185 := hX167.trans hx184 (fun i hi => (PIn.o hpin62) i hi)
    have ho186 := ho168.extS hx184 (notO (NP.ho hnp150))
    have ho187 := ho169.extS hx184 (notO (NP.ho hnp160))
    have hm188 := hm163.extS hx184 (notOb (NP.ho hnp67))
    have hql189 := hpx182.len
    have hml190 : (q176.ns.map Nd.l).length = q176.ns.length ∧ (q176.ns.map Nd.r).length = q176.ns.length := ⟨List.length_map .., List.length_map ..⟩
    have hml191 : q176.bs.length = q176.ns.length ∧ q176.ns.length ≤ 1048576 := ⟨hok181.ar.ok.len, hok181.ar.ok.lim⟩
    have hql192 := congrArg List.length hqn183.1
    have hthr193 := thr_same hqn148 hthr179
    refine qd rfl rfl rfl (r_assign (v := (.int .i64 t175)) rfl) ?_
    refine qe ?_
    refine s_then ?_
    refine s_blk ?_
    refine s_seq ?_
    refine c_reg ?_
    refine qd rfl rfl rfl (r_move (v := (.int .i64 t175)) rfl) ?_
    refine qd rfl rfl rfl (r_lss rfl rfl) ?_
    refine qd rfl rfl rfl (r_assign (v := (.bool (decide ((t175 : Int) < 0)))) rfl) ?_
    refine qe ?_
    refine s_then ?_
    refine c_ifd (p := (t175 : Int) < 0) rfl rfl (fun h194 => ?_) (fun h194 => ?_)
    · skip
      refine c_reg ?_
      refine qd rfl rfl rfl (r_move (v := kv) rfl) ?_
      refine qd rfl rfl rfl (r_move (v := (.int .i64 (wl.getD ((wl.length : Int) - 1).toNat 0))) rfl) ?_
      refine q1 rfl rfl rfl (o_buildF (E := eInt) (e := 3) [(.int .i64 (wl.getD ((wl.length : Int) - 1).toNat 0))] [wl.getD ((wl.length : Int) - 1).toNat 0] Tryd.underlying37 sz3 zr3 (by exact reps1 (by rfl)) (ones1 (by rfl)) rfl rfl rfl rfl (by decide) hX185.pins (fun u195 w196 ho197 hp198 hl199 hk200 => ?_))
      have hX201 := hX185.step hp198 hl199
      have ho202 := ho186.below hl199
      have ho203 := ho187.below hl199
      have hm204 := hm188.below hl199
      have hpk205 := hpk180.below hl199 hp198
      have ha206 : Apart u195.ownBlock kv.ownBlock := new_ne_own hk200 ho186.lt
      have ho213 : Own eInt 3 G177 w196 w.heap.size u195 ([wl.getD ((wl.length : Int) - 1).toNat 0]) := ho197.weaken hX185.size
      refine q1 rfl rfl rfl (o_append (E := eInt) (v := kv) (u := u195) 8 Tryd.underlying37 ap3 (by decide) rfl rfl hX201.pins ho202 ho213.src (by first | omega | (rw [List.nil_append]; omega) | (rw [List.length_nil]; omega) | (rw [List.length_append]; omega) | (simp; done) | (simp; omega) | (simp only [List.length_append, List.length_cons, List.length_nil]; omega)) (by first | omega | (rw [List.nil_append]; omega) | (rw [List.length_nil]; omega) | (rw [List.length_append]; omega) | (simp; done) | (simp; omega) | (simp only [List.length_append, List.length_cons, List.length_nil]; omega)) (hX201.size) (fun u214 w215 ho216 hp217 hg218 hw219 => ?_))
      have hX220 := hX201.write hp217 hg218 ((lo_own ho202))
      have ho221 := ho203.keptA hg218 ha159
      have hm223 := hm204.kept hg218 (map_ne_own hm204 ho202)
      have hpk224 := hpk205.kept hg218 hp217 hnp150
      have ha225 : Apart u155.ownBlock u214.ownBlock := app_ne_own ha159 hw219 ho203.lt
      have ha226 : Apart u195.ownBlock u214.ownBlock := app_ne_own ha206 hw219 ho213.lt
      have hnp227 := np_app hnp150 hpk205 hw219
      have hm228 : (kept ++ ([wl.getD ((wl.length : Int) - 1).toNat 0])).length = kept.length + 1 := List.length_append
      refine qd rfl rfl rfl (r_assign (v := u214) rfl) ?_
      refine qe ?_
      refine s_blkN ?_
      refine s_blkN ?_
      refine s_lopN ?_
      have htl : (wl.take ((wl.length : Int) - 1).toNat).length = ((wl.length : Int) - 1).toNat := by rw [List.length_take]; omega
      have hrd2 := (hrd.pop hpm).kept (hsn.no h161) (thr_no hthr193 h194)
      have hcl := hrd2.len
      have hsl : (ss ++ [(wl.getD ((wl.length : Int) - 1).toNat 0)]).length = ss.length + 1 := by rw [List.length_append]; rfl
      refine ⟨_, ?_, _, rfl, _, u155, wl.take ((wl.length : Int) - 1).toNat, u214, kept ++ [(wl.getD ((wl.length : Int) - 1).toNat 0)], putE sn (wl.getD ((wl.length : Int) - 1).toNat 0) true, ss ++ [(wl.getD ((wl.length : Int) - 1).toNat 0)], q176, G177, (packS (x := 9) (packS (x := 8) (packS (x := 7) (packS (x := 6) (packS (x := 2) (packS (x := 1) (pack1 (x := 0) rfl) rfl) rfl) rfl) rfl) rfl) rfl), rfl, hX220, (Pin.le_trans hlek137 hx184.le), hrd2, hsn.put, (by omega), ho221, ho216, ha225, hm223, hpk224, hok181, (PX.trans hpx147 hpx182), (ns_trans hqn148 hqn183), hnp160, hnp227⟩
      omega
    refine s_seq ?_
    refine c_reg ?_
    refine qd rfl rfl rfl (r_move (v := (.bool false)) rfl) ?_
    refine qd rfl rfl rfl (r_assign (v := (.bool false)) rfl) ?_
    refine qe ?_
    refine s_then ?_
    refine c_ifF rfl rfl ?_
    refine c_reg ?_
    have hti := thr_info hok63 hpa hthr193 (by omega)
    have hti1 := hti.1.1
    have hti2 := hti.1.2
    have hot := ol_len hok63 (lf := false) hti.1
    have hoe : (q176.ns.getD (t175).toNat default).r = ol q52 false t175 := by rw [(ns_trans hqn148 hqn183).1]; unfold ol; rw [if_neg Bool.false_ne_true]
    have hot2 : (q176.ns.getD (t175).toNat default).r.length ≤ 1048576 := by rw [hoe]; exact hot
    have htl0 : (wl.take ((wl.length : Int) - 1).toNat).length = ((wl.length : Int) - 1).toNat := by rw [List.length_take]; omega
    refine qd rfl rfl rfl (r_move (v := u155) rfl) ?_
    refine qd rfl rfl rfl (r_move (v := (.pointer (some ⟨p, 0, none⟩))) rfl) ?_
    refine qd rfl rfl rfl (r_nil rfl) ?_
    refine qd rfl rfl rfl (r_fldp (k := 1) rfl Tryd.underlying79 rfl nz77 rfl) ?_
    refine qd rfl rfl rfl (r_ldp1 (u := R50) ag77 rfl (hpk180.bx.cell (o := 1) rfl)) ?_
    refine qd rfl rfl rfl (r_move (v := (.int .i64 t175)) rfl) ?_
    refine qd rfl rfl rfl (run_idx Tryd.underlying77 sz37 (v := R50) rfl rfl hpk180.rr.read (by omega) (by omega)) ?_
    obtain ⟨u229, hr230, hl231⟩ := nm_sl (hpk180.rr.at (z := t175) (by omega) (by omega)) (j := (t175).toNat) rfl
    rw [mapr_getD] at hr230
    have hm232 := hr230.max
    refine qd rfl rfl rfl (hl231 ag37 rfl (Gadd.pins hX185.pins R50)) ?_
    refine q1 rfl rfl rfl (o_append (E := eInt) (v := u155) (u := u229) 8 Tryd.underlying37 ap3 (by decide) rfl rfl hX185.pins ho187 ((hr230.mono (Pin.le_refl _)).src hX185.pins (by decide)) (by first | omega | (rw [List.nil_append]; omega) | (rw [List.length_nil]; omega) | (rw [List.length_append]; omega) | (simp; done) | (simp; omega) | (simp only [List.length_append, List.length_cons, List.length_nil]; omega)) (by first | omega | (rw [List.nil_append]; omega) | (rw [List.length_nil]; omega) | (rw [List.length_append]; omega) | (simp; done) | (simp; omega) | (simp only [List.length_append, List.length_cons, List.length_nil]; omega)) (hX185.size) (fun u233 w234 ho235 hp236 hg237 hw238 => ?_))
    have hX239 := hX185.write hp236 hg237 ((lo_own ho187))
    have ho240 := ho186.keptA hg237 ha159.symm
    have hm241 := hm188.kept hg237 (map_ne_own hm188 ho187)
    have hpk242 := hpk180.kept hg237 hp236 hnp160
    have ha243 : Apart kv.ownBlock u233.ownBlock := app_ne_own ha159.symm hw238 ho186.lt
    have hnp244 := np_app hnp160 hpk180 hw238
    have hm245 : ((wl.take (((wl.length : Int) - 1).toNat)) ++ ((q176.ns.getD (t175).toNat default).r)).length = (wl.take (((wl.length : Int) - 1).toNat)).length + ((q176.ns.getD (t175).toNat default).r).length := List.length_append
    refine qd rfl rfl rfl (r_assign (v := u233) rfl) ?_
    refine qe ?_
    refine s_blkN ?_
    refine s_blkN ?_
    refine s_lopN ?_
    have htl : (wl.take ((wl.length : Int) - 1).toNat).length = ((wl.length : Int) - 1).toNat := by rw [List.length_take]; omega
    have hrd2 := (hrd.pop hpm).pass_on hok63 (hsn.no h161) hti.1 hti.2.1 hti.2.2
    have hcl := hrd2.len
    have hsl : (ss ++ [(wl.getD ((wl.length : Int) - 1).toNat 0)]).length = ss.length + 1 := by rw [List.length_append]; rfl
    have hal : ((wl.take (((wl.length : Int) - 1).toNat)) ++ ((q176.ns.getD (t175).toNat default).r)).length = ((wl.length : Int) - 1).toNat + (q176.ns.getD (t175).toNat default).r.length := by rw [List.length_append, htl]
    rw [← hoe] at hrd2
    refine ⟨_, ?_, _, rfl, _, u233, (wl.take (((wl.length : Int) - 1).toNat)) ++ ((q176.ns.getD (t175).toNat default).r), kv, kept, putE sn (wl.getD ((wl.length : Int) - 1).toNat 0) true, ss ++ [(wl.getD ((wl.length : Int) - 1).toNat 0)], q176, G177, (packS (x := 9) (packS (x := 8) (packS (x := 7) (packS (x := 6) (packS (x := 2) (packS (x := 1) (pack1 (x := 0) rfl) rfl) rfl) rfl) rfl) rfl) rfl), rfl, hX239, (Pin.le_trans hlek137 hx184.le), hrd2, hsn.put, (by omega), ho235, ho240, ha243.symm, hm241, hpk242, hok181, (PX.trans hpx147 hpx182), (ns_trans hqn148 hqn183), hnp244, hnp150⟩
    omega
  refine wp_exit ?_
  refine s_thenE ?_
  refine s_lopE ?_
  refine s_blkE ?_
  refine s_then ?_
  refine s_seq ?_
  refine c_reg ?_
  refine qd rfl rfl rfl (r_move (v := kv) rfl) ?_
  refine qd rfl rfl rfl (r_move (v := (.pointer (some ⟨p, 0, none⟩))) rfl) ?_
  refine qd rfl rfl rfl (r_move (v := kv) rfl) ?_
  refine qd rfl rfl rfl (r_move (v := (.bool false)) rfl) ?_
  obtain ⟨G246, hle249, hX248, hr247, hf250⟩ := hw142.sealed hX140
  have hpk252 := hpk145.moreO hle249 hf250 hnp150
  refine q1 rfl rfl rfl (o_call (vs := [(.pointer (some ⟨p, 0, none⟩)), kv, (.bool false)]) Tryd.func62 nm62 rfl rfl rfl ?_)
  refine Calls.mono (idominated_spec hX248.pins hpk252 hok146 (lf := false) hr247 (by omega) (fun i hi => ((hrd.all _ (Or.inr ((hrd.keep _).1 (getD_mem hi)).1)).1).same hqn148)) ?_
  rintro _ w256 ⟨u253, q254, G255, rfl, ho257, hpk258, hok259, hpx260, hqn261, hx262⟩
  refine ⟨_, rfl, ?_⟩
  have hnp263 := hpk252.new (x := u253.ownBlock) (fun k hk => (ho257.lt k hk).1)
  have hX264 := hX248.trans hx262 (fun i hi => (PIn.o hpin62) i hi)
  have hql267 := hpx260.len
  have hml268 : (q254.ns.map Nd.l).length = q254.ns.length ∧ (q254.ns.map Nd.r).length = q254.ns.length := ⟨List.length_map .., List.length_map ..⟩
  have hml269 : q254.bs.length = q254.ns.length ∧ q254.ns.length ≤ 1048576 := ⟨hok259.ar.ok.len, hok259.ar.ok.lim⟩
  have hql270 := congrArg List.length hqn261.1
  have ho272 := ho257.weaken hX248.size
  obtain ⟨G273, hle276, hX275, hr274, hf277⟩ := ho272.sealed hX264
  have hpk279 := hpk258.moreO hle276 hf277 hnp263
  refine q1 rfl rfl rfl (o_call (vs := [kv, u253]) Tryd.func61 nm61 rfl rfl rfl ?_)
  refine Calls.mono (without_spec hX275.pins (hr247.mono (Pin.le_trans hx262.le hle276)) hr274 (by omega) (dom_pw _) (fun z hz => by obtain ⟨k, _, e, _⟩ := (dom_mem _).1 hz; omega)) ?_
  rintro _ w282 ⟨u280, G281, rfl, ho283, hx284⟩
  refine ⟨_, rfl, ?_⟩
  have hX285 := hX275.tr hx284
  have hpk288 := hpk279.ext hx284
  have hnp290 := hpk279.new (x := u280.ownBlock) (fun k hk => (ho283.lt k hk).1)
  have ho291 : Own eInt 3 G281 w282 w.heap.size u280 (woL kept (domL (gX q136 kept) false kept.length kept.length) kept.length) := ho283.weaken hX275.size
  refine qd rfl rfl rfl (r_assign (v := u280) rfl) ?_
  refine qe ?_
  refine s_then ?_
  refine wp_ret ?_
  refine s_ret ?_
  refine c_ret1 (v := u280) rfl rfl rfl ?_
  have hwz : wl = [] := List.eq_nil_of_length_eq_zero (by omega)
  rw [hwz] at hrd
  have hre := (re_done hok146 (hrd.same hqn148) (pd_same hqn148).symm).same hqn261
  have hul := unc_px (PX.trans hpx147 hpx260) N
  exact ⟨u280, _, L49, R50, B51, q254, G281, rfl, hpk288, hok259, (PX.trans (PX.trans hpx64 hpx147) hpx260), PIn.lo hpin62 rfl, hX285, ho291, hnp290, hre, (by have := congrArg List.length ((ns_trans hqn148 hqn261)).1; omega)⟩

end CN3
end Go.Proofs.YtfkompdmejpmmaaDoor

/- Walks, printed by a program (walkgen.py) from the spec specs_cn. -/
set_option maxRecDepth 20000
set_option maxHeartbeats 2000000
namespace Go.Proofs.YtfkompdmejpmmaaDoor
namespace CN4
open Go.RowKit Go.GL Go.Proofs
open Go.Proofs.YtfkompdmejpmmaaDoor.B1
open Go.Proofs.YtfkompdmejpmmaaDoor.K1
open Go.Proofs.YtfkompdmejpmmaaDoor.PO1
open Go.Proofs.YtfkompdmejpmmaaDoor.PL1
open Go.Proofs.YtfkompdmejpmmaaDoor.DI1
open Go.Proofs.YtfkompdmejpmmaaDoor.RI1
open Go.Proofs.YtfkompdmejpmmaaDoor.CN1
open Go.Proofs.YtfkompdmejpmmaaDoor.CN2
open Go.Proofs.YtfkompdmejpmmaaDoor.CN3
theorem ag30 : (Tryd.prog.underlying 30).map aggD = some true := by kernel_rfl
theorem ag75 : (Tryd.prog.underlying 75).map aggD = some false := by kernel_rfl
theorem nm16 : (Tryd.f16.name == "runtime.NumGoroutine") = false := by kernel_rfl
theorem nm17 : (Tryd.f17.name == "runtime.NumGoroutine") = false := by kernel_rfl
theorem nm18 : (Tryd.f18.name == "runtime.NumGoroutine") = false := by kernel_rfl
theorem nm19 : (Tryd.f19.name == "runtime.NumGoroutine") = false := by kernel_rfl
theorem nm42 : (Tryd.f42.name == "runtime.NumGoroutine") = false := by kernel_rfl
theorem nm43 : (Tryd.f43.name == "runtime.NumGoroutine") = false := by kernel_rfl
theorem nz75 : (Tryd.prog.info? 75).map (·.size == 0) = some false := by kernel_rfl
theorem sz30 : (Tryd.prog.info? 30).map (·.size) = some 1 := by kernel_rfl
theorem zr3 : (Tryd.prog.info? 3).bind (·.zero) = some (.int .i64 0) := by kernel_rfl

theorem canon_step {w : World} {G : Pin} {L R B : Value} {q : PSt} {f : Int} {p : Nat} {mm : PM} {N m : Nat} (hP : Pins G w) (hpk : Pk 37 3 G w p L R B mm q) (hok : PoolOk q) (hf : PlaceOk q f) (hfN : f < (N : Int)) (hbud : q.ns.length + unc q N < 1048576) (ih : CanP N m p mm) (hm : f.toNat < m + 1) :
    Calls Tryd.prog 19 [(.pointer (some ⟨p, 0, none⟩)), (.int .i64 f)].toArray w fun e w' => ∃ (z : Int) (L' R' B' : Value) (q' : PSt) (G' : Pin), e = .returned (.int .i64 z) ∧ Pk 37 3 G' w' p L' R' B' mm q' ∧ PoolOk q' ∧ PX q q' ∧ PLo w p L R B mm L' R' B' ∧ Ext (inP p L R B mm) G w G' w' ∧ PlaceOk q' z ∧ CanonG (pd q' z) ∧ eqG (pd q' z) (pd q' f) ∧ q'.ns.length + unc q' N ≤ q.ns.length + unc q N := by
  refine s_enter (n := 40) Tryd.func19 Tryd.ntmps19 rfl rfl ?_
  have hX0 : Ext (inP p L R B mm) G w G w := Ext.refl hP
  have hpin : PIn w (inP p L R B mm) p L R B mm := PIn.self
  have hml1 : (q.ns.map Nd.l).length = q.ns.length ∧ (q.ns.map Nd.r).length = q.ns.length := ⟨List.length_map .., List.length_map ..⟩
  have hml2 : q.bs.length = q.ns.length ∧ q.ns.length ≤ 1048576 := ⟨hok.ar.ok.len, hok.ar.ok.lim⟩
  have hf0 := hf.1
  have hf1 := hf.2
  refine s_seq ?_
  refine c_reg ?_
  refine qd rfl rfl rfl (r_assign (v := (.int .i64 0)) rfl) ?_
  refine qe ?_
  refine s_then ?_
  refine s_seq ?_
  refine s_seq ?_
  refine c_reg ?_
  refine qd rfl rfl rfl (r_move (v := (.pointer (some ⟨p, 0, none⟩))) rfl) ?_
  refine qd rfl rfl rfl (r_nil rfl) ?_
  refine qd rfl rfl rfl (r_fldp (k := 5) rfl Tryd.underlying79 rfl nz75 rfl) ?_
  refine qd rfl rfl rfl (r_ldp1 (u := (.map (some mm.c))) ag75 rfl (hpk.bx.cell (o := 5) rfl)) ?_
  refine qd rfl rfl rfl (r_move (v := (.int .i64 f)) rfl) ?_
  refine qd rfl rfl rfl (run_lookv_int (k := f) (key_int Tryd.underlying3) Tryd.underlying75 zr3 hpk.fc rfl rfl) ?_
  refine qd rfl rfl rfl (r_move (v := (.tuple #[(.int .i64 ((Go.GL.look q.cm f).getD 0)), (.bool ((Go.GL.look q.cm f).isSome))])) rfl) ?_
  refine qd rfl rfl rfl (r_extract (v := (.int .i64 ((Go.GL.look q.cm f).getD 0))) rfl rfl) ?_
  refine qd rfl rfl rfl (r_extract (v := (.bool ((Go.GL.look q.cm f).isSome))) rfl rfl) ?_
  refine qd rfl rfl rfl (r_assign (v := (.int .i64 ((Go.GL.look q.cm f).getD 0))) rfl) ?_
  refine qd rfl rfl rfl (r_assign (v := (.bool ((Go.GL.look q.cm f).isSome))) rfl) ?_
  refine qe ?_
  refine s_then ?_
  refine s_seq ?_
  refine c_reg ?_
  refine qd rfl rfl rfl (r_move (v := (.bool ((Go.GL.look q.cm f).isSome))) rfl) ?_
  refine qe ?_
  refine s_then ?_
  refine c_if rfl rfl (fun h3 => ?_) (fun h3 => ?_)
  · skip
    refine s_seq ?_
    refine c_reg ?_
    refine qd rfl rfl rfl (r_move (v := (.int .i64 ((Go.GL.look q.cm f).getD 0))) rfl) ?_
    refine qd rfl rfl rfl (r_assign (v := (.int .i64 ((Go.GL.look q.cm f).getD 0))) rfl) ?_
    refine qe ?_
    refine s_then ?_
    refine wp_ret ?_
    refine s_ret ?_
    refine c_ret1 (v := (.int .i64 ((Go.GL.look q.cm f).getD 0))) rfl rfl rfl ?_
    obtain ⟨z, hz⟩ := Option.isSome_iff_exists.1 h3
    obtain ⟨_, f1, f2, f3⟩ := hok.can f z hz
    rw [hz]
    exact ⟨z, L, R, B, q, G, rfl, hpk, hok, (PX.refl _), PIn.lo hpin rfl, hX0, f1, f2, f3, Nat.le_refl _⟩
  refine wp_skip ?_
  refine s_then ?_
  refine s_seq ?_
  refine c_reg ?_
  refine qd rfl rfl rfl (r_move (v := (.pointer (some ⟨p, 0, none⟩))) rfl) ?_
  refine qd rfl rfl rfl (r_move (v := (.pointer (some ⟨p, 0, none⟩))) rfl) ?_
  refine qd rfl rfl rfl (r_move (v := (.int .i64 f)) rfl) ?_
  refine q1 rfl rfl rfl (o_call (vs := [(.pointer (some ⟨p, 0, none⟩)), (.int .i64 f), (.bool true)]) Tryd.func43 nm43 rfl rfl rfl ?_)
  refine Calls.mono (reduced_t (N := N) (m := m) hX0.pins hpk hok ((PX.refl _).place hf) hfN (by omega) ih hm) ?_
  rintro _ w11 ⟨u4, zs5, L6, R7, B8, q9, G10, rfl, hpk13, hok14, hpx15, hlo16, hx17, ho12, hnp19, hre18, hbu20⟩
  refine ⟨_, rfl, ?_⟩
  have hX21 := hX0.trans hx17 hpin
  have hpin22 := PIn.call hpin hlo16 hX0.size
  have hql23 := hpx15.len
  have hml24 : (q9.ns.map Nd.l).length = q9.ns.length ∧ (q9.ns.map Nd.r).length = q9.ns.length := ⟨List.length_map .., List.length_map ..⟩
  have hml25 : q9.bs.length = q9.ns.length ∧ q9.ns.length ≤ 1048576 := ⟨hok14.ar.ok.len, hok14.ar.ok.lim⟩
  have ho26 := ho12.weaken hX0.size
  have hzl27 := hre18.len
  refine qd rfl rfl rfl (r_move (v := (.pointer (some ⟨p, 0, none⟩))) rfl) ?_
  refine qd rfl rfl rfl (r_move (v := (.int .i64 f)) rfl) ?_
  refine q1 rfl rfl rfl (o_call (vs := [(.pointer (some ⟨p, 0, none⟩)), (.int .i64 f), (.bool false)]) Tryd.func43 nm43 rfl rfl rfl ?_)
  refine Calls.mono (reduced_f (N := N) (m := m) hX21.pins hpk13 hok14 (hpx15.place hf) hfN (by omega) ih hm) ?_
  rintro _ w35 ⟨u28, zs29, L30, R31, B32, q33, G34, rfl, hpk37, hok38, hpx39, hlo40, hx41, ho36, hnp43, hre42, hbu44⟩
  refine ⟨_, rfl, ?_⟩
  have hX45 := hX21.trans hx41 hpin22
  have ho46 := ho26.extS hx41 hnp19
  have hnp47 := NP.call hnp19 hlo40 (own_lt ho26)
  have hpin48 := PIn.call hpin22 hlo40 hX21.size
  have hql49 := hpx39.len
  have hml50 : (q33.ns.map Nd.l).length = q33.ns.length ∧ (q33.ns.map Nd.r).length = q33.ns.length := ⟨List.length_map .., List.length_map ..⟩
  have hml51 : q33.bs.length = q33.ns.length ∧ q33.ns.length ≤ 1048576 := ⟨hok38.ar.ok.len, hok38.ar.ok.lim⟩
  have ha52 : Apart u28.ownBlock u4.ownBlock := made_ne_own ho36.lt ho26.lt
  have ho53 := ho36.weaken hX21.size
  have hzl54 := hre42.len
  obtain ⟨G55, hle58, hX57, hr56, hf59⟩ := ho46.sealed hX45
  have ho60 := ho53.moreO hle58 hf59 ha52
  have hpk61 := hpk37.moreO hle58 hf59 hnp47
  obtain ⟨G62, hle65, hX64, hr63, hf66⟩ := ho60.sealed hX57
  have hpk67 := hpk61.moreO hle65 hf66 hnp43
  have hr1 := hre18.px (hpx15.place hf) hpx39 hok14 hok38
  have hr2 := hre42
  refine q1 rfl rfl rfl (o_call (vs := [(.pointer (some ⟨p, 0, none⟩)), u4, u28]) Tryd.func42 nm42 rfl rfl rfl ?_)
  refine Calls.mono (node_spec hX64.pins hpk67 hok38 (hr56.mono hle65) hr63 (by omega) ⟨hr1.len, hr2.len⟩ (places_of hr1.pl) (places_of hr2.pl)) ?_
  rintro _ w78 ⟨z68, L73, R74, B75, q76, G77, rfl, hpk79, hok80, hpx81, hlo82, hx83, hpl69, hpd70, hqn71, hcm72⟩
  refine ⟨_, rfl, ?_⟩
  have hX84 := hX64.trans hx83 hpin48
  have hpin85 := PIn.call hpin48 hlo82 hX64.size
  have hql86 := hpx81.len
  have hml87 : (q76.ns.map Nd.l).length = q76.ns.length ∧ (q76.ns.map Nd.r).length = q76.ns.length := ⟨List.length_map .., List.length_map ..⟩
  have hml88 : q76.bs.length = q76.ns.length ∧ q76.ns.length ≤ 1048576 := ⟨hok80.ar.ok.len, hok80.ar.ok.lim⟩
  have hcd := canon_done hr1 hr2 hpd70
  have hf3 := (PX.trans hpx15 hpx39).place hf
  have hf4 := hpx81.place hf3
  have hcd2 : eqG (pd q76 z68) (pd q76 f) := by rw [hpx81.pd hok38 hok80 hf3]; exact hcd.2
  have hgrow : q76.ns.length + unc { q76 with cm := putE q76.cm f z68 } N ≤ q33.ns.length + unc q33 N := by
    cases hlf : Go.GL.look q33.cm f with
    | none =>
      have h1 := unc_put (q := q76) (z := z68) hf.1 (by rw [hcm72.1]; exact hlf) N hfN
      have h2 := unc_px hpx81 N
      have := hqn71
      omega
    | some y =>
      obtain ⟨_, h2, h3, h4⟩ := hok38.can f y hlf
      have h5 : pd q76 y = pd q76 z68 := by
        rw [hpx81.pd hok38 hok80 h2]
        exact canon_unique h3 hcd.1 ⟨ge_trans h4.1 hcd.2.2, ge_trans hcd.2.1 h4.2⟩
      have h6 := hpx81.place h2
      have h7 := h2.1; have h8 := h2.2; have h9 := h6.2; have h10 := hpl69.1; have h11 := hpl69.2
      have h12 := hok80.ar.inj (i := y.toNat) (j := z68.toNat) (by omega) (by omega) h5
      have h13 := unc_px (PX.trans hpx81 (PX.put (q := q76) (a := f) (z := z68))) N
      rcases hcm72.2 with h14 | h14 <;> omega
  refine qd rfl rfl rfl (r_assign (v := (.int .i64 z68)) rfl) ?_
  refine qe ?_
  refine s_then ?_
  refine s_seq ?_
  refine c_reg ?_
  refine qd rfl rfl rfl (r_move (v := (.pointer (some ⟨p, 0, none⟩))) rfl) ?_
  refine qd rfl rfl rfl (r_nil rfl) ?_
  refine qd rfl rfl rfl (r_fldp (k := 5) rfl Tryd.underlying79 rfl nz75 rfl) ?_
  refine qd rfl rfl rfl (r_ldp1 (u := (.map (some mm.c))) ag75 rfl (hpk79.bx.cell (o := 5) rfl)) ?_
  refine qd rfl rfl rfl (r_move (v := (.int .i64 f)) rfl) ?_
  refine qd rfl rfl rfl (r_move (v := (.int .i64 z68)) rfl) ?_
  refine q0 rfl rfl rfl (o_mapUpdate (val := (fun v : Int => Value.int .i64 v)) (k := f) (v := z68) (key_int Tryd.underlying3) Tryd.underlying75 rfl rfl rfl hX84.pins hpk79.fc (fun w89 hm90 hp91 hg92 hz93 => ?_))
  have hX95 := hX84.trans (Ext.one hp91 hg92) (fun i hi => (PIn.c hpin85) i hi)
  have hpk94 := hpk79.setC (Ext.one hp91 hg92) hm90
  have hok98 := PoolOk.setC hok80 (hf4.same ⟨rfl, rfl⟩) (hpl69.same ⟨rfl, rfl⟩) (by rw [pd_same ⟨rfl, rfl⟩]; exact hcd.1) (by rw [pd_same ⟨rfl, rfl⟩, pd_same ⟨rfl, rfl⟩]; exact hcd2)
  obtain ⟨q96, hq97⟩ : ∃ q, q = ({ q76 with cm := putE q76.cm f z68 } : PSt) := ⟨_, rfl⟩
  rw [← hq97] at hpk94 hok98
  have hq97n : q96.ns = q76.ns ∧ q96.bs = q76.bs := by rw [hq97]; exact ⟨rfl, rfl⟩
  have hq97x : PX q76 q96 := by rw [hq97]; exact PX.put
  have hml99 : (q96.ns.map Nd.l).length = q96.ns.length ∧ (q96.ns.map Nd.r).length = q96.ns.length := ⟨List.length_map .., List.length_map ..⟩
  have hml100 : q96.bs.length = q96.ns.length ∧ q96.ns.length ≤ 1048576 := ⟨hok98.ar.ok.len, hok98.ar.ok.lim⟩
  have hql101 := hq97x.len
  refine qe ?_
  refine s_then ?_
  refine s_seq ?_
  refine c_reg ?_
  refine qd rfl rfl rfl (r_move (v := (.pointer (some ⟨p, 0, none⟩))) rfl) ?_
  refine qd rfl rfl rfl (r_nil rfl) ?_
  refine qd rfl rfl rfl (r_fldp (k := 5) rfl Tryd.underlying79 rfl nz75 rfl) ?_
  refine qd rfl rfl rfl (r_ldp1 (u := (.map (some mm.c))) ag75 rfl (hpk94.bx.cell (o := 5) rfl)) ?_
  refine qd rfl rfl rfl (r_move (v := (.int .i64 z68)) rfl) ?_
  refine qd rfl rfl rfl (r_move (v := (.int .i64 z68)) rfl) ?_
  refine q0 rfl rfl rfl (o_mapUpdate (val := (fun v : Int => Value.int .i64 v)) (k := z68) (v := z68) (key_int Tryd.underlying3) Tryd.underlying75 rfl rfl rfl hX95.pins hpk94.fc (fun w102 hm103 hp104 hg105 hz106 => ?_))
  have hX108 := hX95.trans (Ext.one hp104 hg105) (fun i hi => (PIn.c hpin85) i hi)
  have hpk107 := hpk94.setC (Ext.one hp104 hg105) hm103
  have hok111 := PoolOk.setC hok98 (hpl69.same hq97n) (hpl69.same hq97n) (by rw [pd_same hq97n]; exact hcd.1) ⟨ge_refl _, ge_refl _⟩
  obtain ⟨q109, hq110⟩ : ∃ q, q = ({ q96 with cm := putE q96.cm z68 z68 } : PSt) := ⟨_, rfl⟩
  rw [← hq110] at hpk107 hok111
  have hq110n : q109.ns = q96.ns ∧ q109.bs = q96.bs := by rw [hq110]; exact ⟨rfl, rfl⟩
  have hq110x : PX q96 q109 := by rw [hq110]; exact PX.put
  have hml112 : (q109.ns.map Nd.l).length = q109.ns.length ∧ (q109.ns.map Nd.r).length = q109.ns.length := ⟨List.length_map .., List.length_map ..⟩
  have hml113 : q109.bs.length = q109.ns.length ∧ q109.ns.length ≤ 1048576 := ⟨hok111.ar.ok.len, hok111.ar.ok.lim⟩
  have hql114 := hq110x.len
  refine qe ?_
  refine s_then ?_
  refine s_seq ?_
  refine c_reg ?_
  refine qd rfl rfl rfl (r_move (v := (.int .i64 z68)) rfl) ?_
  refine qd rfl rfl rfl (r_assign (v := (.int .i64 z68)) rfl) ?_
  refine qe ?_
  refine s_then ?_
  refine wp_ret ?_
  refine s_ret ?_
  refine c_ret1 (v := (.int .i64 z68)) rfl rfl rfl ?_
  have hlast := unc_px hq110x N
  have hln := congrArg List.length ((ns_trans hq97n hq110n)).1
  have hnew : q109.ns.length + unc q109 N ≤ q.ns.length + unc q N := by rw [hq97] at hlast; omega
  exact ⟨_, L73, R74, B75, q109, G77, rfl, hpk107, hok111, (PX.trans (PX.trans (PX.trans (PX.trans hpx15 hpx39) hpx81) hq97x) hq110x), PIn.lo hpin85 rfl, hX108, hpl69.same (ns_trans hq97n hq110n), (by rw [pd_same (ns_trans hq97n hq110n)]; exact hcd.1), (by rw [pd_same (ns_trans hq97n hq110n), pd_same (ns_trans hq97n hq110n)]; exact hcd2), hnew⟩

theorem canon_all {p N : Nat} {mm : PM} : ∀ m, CanP N m p mm
  | 0 => fun _ _ _ _ _ _ h => absurd h (Nat.not_lt_zero _)
  | m + 1 => fun hP hpk hok hf hfN hb hm => canon_step hP hpk hok hf hfN hb (canon_all m) hm
theorem canon_spec {w : World} {G : Pin} {L R B : Value} {q : PSt} {f : Int} {p : Nat} {mm : PM} {N : Nat} (hP : Pins G w) (hpk : Pk 37 3 G w p L R B mm q) (hok : PoolOk q) (hf : PlaceOk q f) (hfN : f < (N : Int)) (hbud : q.ns.length + unc q N < 1048576) :
    Calls Tryd.prog 19 [(.pointer (some ⟨p, 0, none⟩)), (.int .i64 f)].toArray w fun e w' => ∃ (z : Int) (L' R' B' : Value) (q' : PSt) (G' : Pin), e = .returned (.int .i64 z) ∧ Pk 37 3 G' w' p L' R' B' mm q' ∧ PoolOk q' ∧ PX q q' ∧ PLo w p L R B mm L' R' B' ∧ Ext (inP p L R B mm) G w G' w' ∧ PlaceOk q' z ∧ CanonG (pd q' z) ∧ eqG (pd q' z) (pd q' f) ∧ q'.ns.length + unc q' N ≤ q.ns.length + unc q N :=
  canon_all _ hP hpk hok hf hfN hbud (Nat.lt_succ_self _)

theorem iIsCanon_spec {w : World} {G : Pin} {v : Value} {fs : List Nd} (hP : Pins G w) (hv : RSl eNode G v fs) :
    Calls Tryd.prog 7 [(.agg [v].toArray)].toArray w fun e w' => ∃ G', e = .returned (.tuple #[.bool (icB fs), .bool (goodB fs)]) ∧ Ext noS G w G' w' := by
  refine s_enter (n := 18) Tryd.func7 Tryd.ntmps7 rfl rfl ?_
  have hX0 : Ext noS G w G w := Ext.refl hP
  refine s_seq ?_
  refine c_reg ?_
  refine q1 rfl rfl rfl (o_box [v] (v := (.agg [v].toArray)) rfl rfl hX0.pins (fun b1 w2 hk3 hb4 hp5 hl6 => ?_))
  have hX7 := hX0.step hp5 hl6
  have hlo8 : w.heap.size ≤ b1 := by have := hX0.size; omega
  obtain ⟨G9, hle10, hX11, hbp12, hf13⟩ := hb4.shut hX7 hlo8
  refine qd rfl rfl rfl (r_assign (v := (.bool false)) rfl) ?_
  refine qd rfl rfl rfl (r_assign (v := (.bool false)) rfl) ?_
  refine qe ?_
  refine s_then ?_
  refine s_seq ?_
  refine s_seq ?_
  refine c_reg ?_
  refine qd rfl rfl rfl (r_ldpA (cs := [v]) ag30 sz30 rfl (fun j u hj => hX11.pins _ _ _ (hbp12 _ _ (by simpa using hj)))) ?_
  refine q1 rfl rfl rfl (o_call (vs := [(.agg [v].toArray)]) Tryd.func16 nm16 rfl rfl rfl ?_)
  refine Calls.mono (goodForm_spec hX11.pins (hv.mono hle10)) ?_
  rintro _ w15 ⟨G14, rfl, hx16⟩
  refine ⟨_, rfl, ?_⟩
  have hX17 := hX11.tr hx16
  refine qd rfl rfl rfl (r_not rfl) ?_
  refine qe ?_
  refine s_then ?_
  refine c_ifn rfl rfl (fun h18 => ?_) (fun h18 => ?_)
  · skip
    refine wp_skip ?_
    refine s_then ?_
    refine s_seq ?_
    refine c_reg ?_
    have hgb : goodB fs = true := h18
    have hga : GoodP fs := goodB_true.1 hgb
    have hla := hga.lo
    have hha := hga.hi
    have hlb := last_bounds hga
    refine q1 rfl rfl rfl (o_call (vs := []) Tryd.func17 nm17 rfl rfl rfl ?_)
    refine Calls.mono (newPool_spec hX17.pins) ?_
    rintro _ w22 ⟨p19, mm20, G21, rfl, hpk23, hfr24, hx25⟩
    refine ⟨_, rfl, ?_⟩
    have hX29 := hX17.tr hx25
    have hpin30 : PIn w (noS) p19 (.slice none 0 0) (.slice none 0 0) (.slice none 0 0) mm20 := PIn.fresh hfr24 hX17.size
    obtain ⟨q26, hq27⟩ : ∃ q, q = (⟨[], [], [], [], [], [], []⟩ : PSt) := ⟨_, rfl⟩
    rw [← hq27] at hpk23
    have hok28 : PoolOk q26 := by rw [hq27]; exact PoolOk.empty
    have hq27l : q26.ns.length = 0 := by rw [hq27]; rfl
    obtain ⟨L31, R32, B33, eL31, eR32, eB33⟩ : ∃ (l r b : Value), l = .slice none 0 0 ∧ r = .slice none 0 0 ∧ b = .slice none 0 0 := ⟨_, _, _, rfl, rfl, rfl⟩
    have hpk232 : Pk 37 3 G21 w22 p19 L31 R32 B33 mm20 q26 := by rw [eL31, eR32, eB33]; exact hpk23
    have hpin302 : PIn w (noS) p19 L31 R32 B33 mm20 := by rw [eL31, eR32, eB33]; exact hpin30
    have hml34 : (q26.ns.map Nd.l).length = q26.ns.length ∧ (q26.ns.map Nd.r).length = q26.ns.length := ⟨List.length_map .., List.length_map ..⟩
    have hml35 : q26.bs.length = q26.ns.length ∧ q26.ns.length ≤ 1048576 := ⟨hok28.ar.ok.len, hok28.ar.ok.lim⟩
    refine qd rfl rfl rfl (r_assign (v := (.pointer (some ⟨p19, 0, none⟩))) rfl) ?_
    refine qe ?_
    refine s_then ?_
    refine s_seq ?_
    refine c_reg ?_
    refine qd rfl rfl rfl (r_move (v := (.pointer (some ⟨p19, 0, none⟩))) rfl) ?_
    refine qd rfl rfl rfl (r_ldpA (cs := [v]) ag30 sz30 rfl (fun j u hj => (Pins.of_le hX29.pins (Pin.le_trans hx16.le hx25.le)) _ _ _ (hbp12 _ _ (by simpa using hj)))) ?_
    refine q1 rfl rfl rfl (o_call (vs := [(.pointer (some ⟨p19, 0, none⟩)), (.agg [v].toArray)]) Tryd.func18 nm18 rfl rfl rfl ?_)
    refine Calls.mono (root_spec hX29.pins hpk232 hok28 (hv.mono (Pin.le_trans (Pin.le_trans hle10 hx16.le) hx25.le)) (good_form hga) (by omega) hla) ?_
    rintro _ w45 ⟨z36, L40, R41, B42, q43, G44, rfl, hpk46, hok47, hpx48, hlo49, hx50, hpl37, hpd38, hqn39⟩
    refine ⟨_, rfl, ?_⟩
    have hX51 := hX29.trans hx50 hpin302
    have hpin52 := PIn.call hpin302 hlo49 hX29.size
    have hql53 := hpx48.len
    have hml54 : (q43.ns.map Nd.l).length = q43.ns.length ∧ (q43.ns.map Nd.r).length = q43.ns.length := ⟨List.length_map .., List.length_map ..⟩
    have hml55 : q43.bs.length = q43.ns.length ∧ q43.ns.length ≤ 1048576 := ⟨hok47.ar.ok.len, hok47.ar.ok.lim⟩
    refine qd rfl rfl rfl (r_assign (v := (.int .i64 z36)) rfl) ?_
    refine qe ?_
    refine s_then ?_
    refine s_seq ?_
    refine c_reg ?_
    refine qd rfl rfl rfl (r_move (v := (.pointer (some ⟨p19, 0, none⟩))) rfl) ?_
    refine qd rfl rfl rfl (r_move (v := (.int .i64 z36)) rfl) ?_
    refine q1 rfl rfl rfl (o_call (vs := [(.pointer (some ⟨p19, 0, none⟩)), (.int .i64 z36)]) Tryd.func19 nm19 rfl rfl rfl ?_)
    refine Calls.mono (canon_spec hX51.pins hpk46 hok47 (N := q43.ns.length) hpl37 hpl37.2 (by have := unc_le (q := q43) q43.ns.length; omega)) ?_
    rintro _ w66 ⟨z56, L61, R62, B63, q64, G65, rfl, hpk67, hok68, hpx69, hlo70, hx71, hpl57, hcg58, heq59, hbu60⟩
    refine ⟨_, rfl, ?_⟩
    have hX72 := hX51.trans hx71 hpin52
    have hpin73 := PIn.call hpin52 hlo70 hX51.size
    have hql74 := hpx69.len
    have hml75 : (q64.ns.map Nd.l).length = q64.ns.length ∧ (q64.ns.map Nd.r).length = q64.ns.length := ⟨List.length_map .., List.length_map ..⟩
    have hml76 : q64.bs.length = q64.ns.length ∧ q64.ns.length ≤ 1048576 := ⟨hok68.ar.ok.len, hok68.ar.ok.lim⟩
    refine qd rfl rfl rfl (r_move (v := (.int .i64 z36)) rfl) ?_
    refine qd rfl rfl rfl (r_eql rfl rfl) ?_
    refine qd rfl rfl rfl (r_assign (v := (.bool (decide ((z56 : Int) = z36)))) rfl) ?_
    refine qd rfl rfl rfl (r_assign (v := (.bool true)) rfl) ?_
    refine qe ?_
    refine s_then ?_
    refine wp_ret ?_
    refine s_ret ?_
    refine c_ret2 (v := (.bool (decide ((z56 : Int) = z36)))) (u := (.bool true)) rfl rfl rfl rfl rfl ?_
    rw [hgb]
    exact ⟨_, congrArg (fun z => Ending.returned (Value.tuple #[Value.bool z, Value.bool true])) ((isc_eq hok68 (hpx69.place hpl37) hpl57 hcg58 heq59 ((hpx69.pd hok47 hok68 hpl37).trans hpd38)).trans (by unfold icB; rw [hgb]; rfl)), hX72⟩
  refine s_seq ?_
  refine c_reg ?_
  refine qd rfl rfl rfl (r_assign (v := (.bool false)) rfl) ?_
  refine qd rfl rfl rfl (r_assign (v := (.bool false)) rfl) ?_
  refine qe ?_
  refine s_then ?_
  refine wp_ret ?_
  refine s_ret ?_
  refine c_ret2 (v := (.bool false)) (u := (.bool false)) rfl rfl rfl rfl rfl ?_
  have hgb : goodB fs = false := h18
  rw [hgb, isc_bad hgb]
  exact ⟨_, rfl, hX17⟩

end CN4
end Go.Proofs.YtfkompdmejpmmaaDoor

/- Walks, printed by a program (walkgen.py) from the spec specs_ik. -/
set_option maxRecDepth 20000
set_option maxHeartbeats 2000000
namespace Go.Proofs.YtfkompdmejpmmaaDoor
namespace IK1
open Go.RowKit Go.GL Go.Proofs
open Go.Proofs.YtfkompdmejpmmaaDoor.B1
open Go.Proofs.YtfkompdmejpmmaaDoor.C1
open Go.Proofs.YtfkompdmejpmmaaDoor.D1
open Go.Proofs.YtfkompdmejpmmaaDoor.E1
open Go.Proofs.YtfkompdmejpmmaaDoor.OR1
open Go.Proofs.YtfkompdmejpmmaaDoor.L1
open Go.Proofs.YtfkompdmejpmmaaDoor.DS1
open Go.Proofs.YtfkompdmejpmmaaDoor.CS1
open Go.Proofs.YtfkompdmejpmmaaDoor.CS2
open Go.Proofs.YtfkompdmejpmmaaDoor.K1
open Go.Proofs.YtfkompdmejpmmaaDoor.PO1
open Go.Proofs.YtfkompdmejpmmaaDoor.PL1
open Go.Proofs.YtfkompdmejpmmaaDoor.DI1
open Go.Proofs.YtfkompdmejpmmaaDoor.RI1
open Go.Proofs.YtfkompdmejpmmaaDoor.CN1
open Go.Proofs.YtfkompdmejpmmaaDoor.CN2
open Go.Proofs.YtfkompdmejpmmaaDoor.CN3
open Go.Proofs.YtfkompdmejpmmaaDoor.CN4
theorem ag24 : (Tryd.prog.underlying 24).map aggD = some true := by kernel_rfl
theorem ag30 : (Tryd.prog.underlying 30).map aggD = some true := by kernel_rfl
theorem nm4 : (Tryd.f4.name == "runtime.NumGoroutine") = false := by kernel_rfl
theorem nm5 : (Tryd.f5.name == "runtime.NumGoroutine") = false := by kernel_rfl
theorem nm6 : (Tryd.f6.name == "runtime.NumGoroutine") = false := by kernel_rfl
theorem nm7 : (Tryd.f7.name == "runtime.NumGoroutine") = false := by kernel_rfl
theorem nm8 : (Tryd.f8.name == "runtime.NumGoroutine") = false := by kernel_rfl
theorem sz24 : (Tryd.prog.info? 24).map (·.size) = some 1 := by kernel_rfl
theorem sz30 : (Tryd.prog.info? 30).map (·.size) = some 1 := by kernel_rfl
theorem zr30 : (Tryd.prog.info? 30).bind (·.zero) = some (.agg #[(.slice none 0 0)]) := by kernel_rfl

theorem law {w : World} {G : Pin} {v : Value} {ns : List Nd} (hP : Pins G w) (hv : RSl eNode G v ns) :
    Calls Tryd.prog 3 [(.agg [v].toArray)].toArray w fun e w' => ∃ G', e = .returned (.bool true) ∧ Ext noS G w G' w' := by
  refine s_enter (n := 40) Tryd.func3 Tryd.ntmps3 rfl rfl ?_
  have hX0 : Ext noS G w G w := Ext.refl hP
  refine s_seq ?_
  refine c_reg ?_
  refine q1 rfl rfl rfl (o_box [v] (v := (.agg [v].toArray)) rfl rfl hX0.pins (fun b1 w2 hk3 hb4 hp5 hl6 => ?_))
  have hX7 := hX0.step hp5 hl6
  have hlo8 : w.heap.size ≤ b1 := by have := hX0.size; omega
  obtain ⟨G9, hle10, hX11, hbp12, hf13⟩ := hb4.shut hX7 hlo8
  refine qd rfl rfl rfl (r_assign (v := (.bool false)) rfl) ?_
  refine qe ?_
  refine s_then ?_
  refine s_seq ?_
  refine c_reg ?_
  refine qd rfl rfl rfl (r_assign (v := (.int .i64 1048576)) rfl) ?_
  refine qe ?_
  refine s_then ?_
  refine s_seq ?_
  refine c_reg ?_
  refine qd rfl rfl rfl (r_ldpA (cs := [v]) ag24 sz24 rfl (fun j u hj => hX11.pins _ _ _ (hbp12 _ _ (by simpa using hj)))) ?_
  refine qd rfl rfl rfl (r_move (v := (.int .i64 1048576)) rfl) ?_
  refine q1 rfl rfl rfl (o_call (vs := [(.agg [v].toArray), (.int .i64 1048576)]) Tryd.func4 nm4 rfl rfl rfl ?_)
  refine Calls.mono (szForm_spec hX11.pins (hv.mono hle10) (by omega)) ?_
  rintro _ w16 ⟨z14, G15, rfl, hz17, hx18⟩
  refine ⟨_, rfl, ?_⟩
  have hX19 := hX11.tr hx18
  refine qd rfl rfl rfl (r_assign (v := (.int .i64 z14)) rfl) ?_
  refine qe ?_
  refine s_then ?_
  refine s_seq ?_
  refine s_seq ?_
  refine c_reg ?_
  refine qd rfl rfl rfl (r_move (v := (.int .i64 z14)) rfl) ?_
  refine qd rfl rfl rfl (r_lss rfl rfl) ?_
  refine qe ?_
  refine s_then ?_
  refine c_ifd (p := (z14 : Int) < 0) rfl rfl (fun h20 => ?_) (fun h20 => ?_)
  · skip
    refine s_seq ?_
    refine c_reg ?_
    refine qd rfl rfl rfl (r_assign (v := (.bool true)) rfl) ?_
    refine qe ?_
    refine s_then ?_
    refine wp_ret ?_
    refine s_ret ?_
    refine c_ret1 (v := (.bool true)) rfl rfl rfl ?_
    exact ⟨_, rfl, hX19⟩
  refine wp_skip ?_
  refine s_then ?_
  refine s_seq ?_
  refine c_reg ?_
  have hsm : Small ns := small_of (by omega)
  refine qd rfl rfl rfl (r_ldpA (cs := [v]) ag24 sz24 rfl (fun j u hj => (Pins.of_le hX19.pins hx18.le) _ _ _ (hbp12 _ _ (by simpa using hj)))) ?_
  refine q1 rfl rfl rfl (o_call (vs := [(.agg [v].toArray)]) Tryd.func6 nm6 rfl rfl rfl ?_)
  refine Calls.mono (toForm_spec hX19.pins (hv.mono (Pin.le_trans hle10 hx18.le)) hsm) ?_
  rintro _ w23 ⟨u21, G22, rfl, hr24, hx25⟩
  refine ⟨_, rfl, ?_⟩
  have hX26 := hX19.tr hx25
  refine q1 rfl rfl rfl (o_call (vs := [(.agg [u21].toArray)]) Tryd.func5 nm5 rfl rfl rfl ?_)
  refine Calls.mono (sIsCanon_spec hX26.pins hr24) ?_
  rintro _ w28 ⟨G27, rfl, hx29⟩
  refine ⟨_, rfl, ?_⟩
  have hX30 := hX26.tr hx29
  refine qd rfl rfl rfl (r_move (v := (.tuple #[(.bool (icB ns)), (.bool (goodB ns))])) rfl) ?_
  refine qd rfl rfl rfl (r_extract (v := (.bool (icB ns))) rfl rfl) ?_
  refine qd rfl rfl rfl (r_extract (v := (.bool (goodB ns))) rfl rfl) ?_
  refine qd rfl rfl rfl (r_assign (v := (.bool (icB ns))) rfl) ?_
  refine qd rfl rfl rfl (r_assign (v := (.bool (goodB ns))) rfl) ?_
  refine qe ?_
  refine s_then ?_
  refine s_seq ?_
  refine c_reg ?_
  refine qd rfl rfl rfl (r_ldpA (cs := [v]) ag24 sz24 rfl (fun j u hj => (Pins.of_le hX30.pins (Pin.le_trans (Pin.le_trans hx18.le hx25.le) hx29.le)) _ _ _ (hbp12 _ _ (by simpa using hj)))) ?_
  refine q1 rfl rfl rfl (o_call (vs := [(.agg [v].toArray)]) Tryd.func6 nm6 rfl rfl rfl ?_)
  refine Calls.mono (toForm_spec hX30.pins (hv.mono (Pin.le_trans (Pin.le_trans (Pin.le_trans hle10 hx18.le) hx25.le) hx29.le)) hsm) ?_
  rintro _ w33 ⟨u31, G32, rfl, hr34, hx35⟩
  refine ⟨_, rfl, ?_⟩
  have hX36 := hX30.tr hx35
  refine q1 rfl rfl rfl (o_alloc [(.slice none 0 0)] zr30 rfl hX36.pins (fun b37 w38 hk39 hb40 hp41 hl42 => ?_))
  have hX43 := hX36.step hp41 hl42
  have hlo44 : w.heap.size ≤ b37 := by have := hX36.size; omega
  refine q0 rfl rfl rfl (o_stp (cs' := [u31]) (us := [u31]) (v := (.agg [u31].toArray)) sz30 rfl rfl rfl (ones1 hr34.one) hX43.pins hb40 (Nat.le_of_ble_eq_true rfl) rfl (fun w45 hb46 hp47 hg48 hz49 => ?_))
  have hX50 := hX43.write hp47 hg48 ((lo_box hlo44))
  obtain ⟨G51, hle52, hX53, hbp54, hf55⟩ := hb46.shut hX50 hlo44
  refine qe ?_
  refine s_then ?_
  refine s_seq ?_
  refine c_reg ?_
  refine qd rfl rfl rfl (r_ldpA (cs := [u31]) ag30 sz30 rfl (fun j u hj => hX53.pins _ _ _ (hbp54 _ _ (by simpa using hj)))) ?_
  refine q1 rfl rfl rfl (o_call (vs := [(.agg [u31].toArray)]) Tryd.func7 nm7 rfl rfl rfl ?_)
  refine Calls.mono (iIsCanon_spec hX53.pins (hr34.mono hle52)) ?_
  rintro _ w57 ⟨G56, rfl, hx58⟩
  refine ⟨_, rfl, ?_⟩
  have hX59 := hX53.tr hx58
  refine qd rfl rfl rfl (r_move (v := (.tuple #[(.bool (icB ns)), (.bool (goodB ns))])) rfl) ?_
  refine qd rfl rfl rfl (r_extract (v := (.bool (icB ns))) rfl rfl) ?_
  refine qd rfl rfl rfl (r_extract (v := (.bool (goodB ns))) rfl rfl) ?_
  refine qd rfl rfl rfl (r_assign (v := (.bool (icB ns))) rfl) ?_
  refine qd rfl rfl rfl (r_assign (v := (.bool (goodB ns))) rfl) ?_
  refine qe ?_
  refine s_then ?_
  refine s_seq ?_
  refine s_seq ?_
  refine c_reg ?_
  refine qd rfl rfl rfl (r_move (v := (.bool (icB ns))) rfl) ?_
  refine qd rfl rfl rfl (r_move (v := (.bool (icB ns))) rfl) ?_
  refine qd rfl rfl rfl (r_neqB_same Tryd.underlying4 rfl rfl) ?_
  refine qd rfl rfl rfl (r_move (v := (.bool false)) rfl) ?_
  refine qdg rfl rfl rfl rfl rfl rfl (r_move (v := (.bool (goodB ns))) rfl) ?_
  refine qdg rfl rfl rfl rfl rfl rfl (r_move (v := (.bool (goodB ns))) rfl) ?_
  refine qdg rfl rfl rfl rfl rfl rfl (r_neqB_same Tryd.underlying4 rfl rfl) ?_
  refine qd rfl rfl rfl (r_pickF (v := (.bool false)) rfl rfl) ?_
  refine qe ?_
  refine s_then ?_
  refine c_ifF rfl rfl ?_
  refine wp_skip ?_
  refine s_then ?_
  refine s_seq ?_
  refine s_seq ?_
  refine c_draw (S := fun wz => Pins G56 wz) (last := 5) (by kernel_rfl) rfl ?_
  have hl60 : Below w57.heap.size w57 w57.drew := (Below.refl _ _).drew
  have hp61 := hX59.pins.below hl60
  have hX62 := hX59.step hp61 hl60
  refine dr_take (i := 0) rfl rfl rfl (want_none rfl _) (by kernel_rfl) (fun _ hS => r_ldpA (cs := [u31]) ag30 sz30 rfl (fun j u hj => (Pins.of_le hS hx58.le) _ _ _ (hbp54 _ _ (by simpa using hj)))) hX62.pins ?_
  refine dr_take (i := 1) rfl rfl rfl (want_none rfl _) (by kernel_rfl) (fun _ hS => r_ldpA (cs := [v]) ag24 sz24 rfl (fun j u hj => (Pins.of_le hS (Pin.le_trans (Pin.le_trans (Pin.le_trans (Pin.le_trans (Pin.le_trans hx18.le hx25.le) hx29.le) hx35.le) hle52) hx58.le)) _ _ _ (hbp12 _ _ (by simpa using hj)))) hX62.pins ?_
  refine dr_one (i := 2) (by kernel_rfl) (drOp1 (i := 2) rfl rfl rfl (want_none rfl _) (o_call (vs := [(.agg [v].toArray)]) Tryd.func6 nm6 rfl rfl rfl ?_))
  refine Calls.mono (toForm_spec hX62.pins (hv.mono (Pin.le_trans (Pin.le_trans (Pin.le_trans (Pin.le_trans (Pin.le_trans (Pin.le_trans hle10 hx18.le) hx25.le) hx29.le) hx35.le) hle52) hx58.le)) hsm) ?_
  rintro _ w65 ⟨u63, G64, rfl, hr66, hx67⟩
  refine ⟨_, rfl, ?_⟩
  have hX68 := hX62.tr hx67
  refine ⟨fun _ => (Pins.of_le hX68.pins hx67.le), ?_⟩
  refine dr_one (i := 3) (by kernel_rfl) (drOp1 (i := 3) rfl rfl rfl (want_none rfl _) (o_call (vs := [(.agg [u31].toArray), (.agg [u63].toArray)]) Tryd.func8 nm8 rfl rfl rfl ?_))
  refine Calls.mono (eqForm_spec hX68.pins (hr34.mono (Pin.le_trans (Pin.le_trans hle52 hx58.le) hx67.le)) hr66) ?_
  rintro _ w70 ⟨G69, rfl, hx71⟩
  refine ⟨_, rfl, ?_⟩
  have hX72 := hX68.tr hx71
  refine ⟨fun _ => (Pins.of_le hX72.pins (Pin.le_trans hx67.le hx71.le)), ?_⟩
  refine dr_take (i := 4) rfl rfl rfl (want_none rfl _) (by kernel_rfl) (fun _ _ => r_not rfl) (Pins.of_le hX72.pins (Pin.le_trans hx67.le hx71.le)) ?_
  refine dr_end (by kernel_rfl) ?_
  refine s_then ?_
  refine c_ifn rfl rfl (fun _ => ?_) (fun h => absurd rfl (of_decide_eq_false h))
  refine wp_skip ?_
  refine s_then ?_
  refine s_seq ?_
  refine c_reg ?_
  refine qd rfl rfl rfl (r_assign (v := (.bool true)) rfl) ?_
  refine qe ?_
  refine s_then ?_
  refine wp_ret ?_
  refine s_ret ?_
  refine c_ret1 (v := (.bool true)) rfl rfl rfl ?_
  exact ⟨_, rfl, hX72⟩

end IK1
end Go.Proofs.YtfkompdmejpmmaaDoor
