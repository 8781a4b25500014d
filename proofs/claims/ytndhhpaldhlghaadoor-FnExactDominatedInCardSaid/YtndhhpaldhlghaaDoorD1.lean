/- Walks, printed by a program (walkgen.py) from the spec specs_d. -/
import Derived.Test.YtndhhpaldhlghaaDoorChecked
import Derived.Test.YtndhhpaldhlghaaDoorRow
import Derived.Test.YtndhhpaldhlghaaDoorBook
import Derived.Test.YtndhhpaldhlghaaDoorC1
set_option maxRecDepth 20000
set_option maxHeartbeats 2000000
namespace Go.Proofs.YtndhhpaldhlghaaDoor
namespace D1
open Go.RowKit Go.GL Go.Proofs
open Go.Proofs.YtndhhpaldhlghaaDoor.C1
theorem ag28 : (Tryd.prog.underlying 28).map aggD = some false := by kernel_rfl
theorem ag3 : (Tryd.prog.underlying 3).map aggD = some false := by kernel_rfl
theorem ag38 : (Tryd.prog.underlying 38).map aggD = some false := by kernel_rfl
theorem ap3 : (Tryd.prog.info? 3).map (fun i => (i.size, i.bytes, (i.zero.map (·.cells.size)))) = some (1, 8, some 1) := by kernel_rfl
theorem ap69 : (Tryd.prog.info? 69).map (fun i => (i.size, i.bytes, (i.zero.map (·.cells.size)))) = some (2, 48, some 2) := by kernel_rfl
theorem nm71 : (Tryd.f71.name == "runtime.NumGoroutine") = false := by kernel_rfl
theorem nm78 : (Tryd.f78.name == "runtime.NumGoroutine") = false := by kernel_rfl
theorem nm89 : (Tryd.f89.name == "runtime.NumGoroutine") = false := by kernel_rfl
theorem nm93 : (Tryd.f93.name == "runtime.NumGoroutine") = false := by kernel_rfl
theorem nz28 : (Tryd.prog.info? 28).map (·.size == 0) = some false := by kernel_rfl
theorem nz38 : (Tryd.prog.info? 38).map (·.size == 0) = some false := by kernel_rfl
theorem pl69 : (Tryd.prog.underlying 69).bind (placesD Tryd.prog) = some [(0, 1), (1, 1)] := by kernel_rfl
theorem sz28 : (Tryd.prog.info? 28).map (·.size) = some 1 := by kernel_rfl
theorem sz3 : (Tryd.prog.info? 3).map (·.size) = some 1 := by kernel_rfl
theorem sz38 : (Tryd.prog.info? 38).map (·.size) = some 1 := by kernel_rfl
theorem sz69 : (Tryd.prog.info? 69).map (·.size) = some 2 := by kernel_rfl
theorem zr3 : (Tryd.prog.info? 3).bind (·.zero) = some (.int .i64 0) := by kernel_rfl
theorem zr69 : (Tryd.prog.info? 69).bind (·.zero) = some (.agg #[(.slice none 0 0), (.slice none 0 0)]) := by kernel_rfl

theorem l3List_spec {w : World} {G : Pin} {u v : Value} {xs ys : List Int} (hP : Pins G w) (hu : RSl eInt G u xs) (hv : RSl eInt G v ys) :
    Calls Tryd.prog 89 [u, v].toArray w fun e w' => e = .returned (.int .i64 (cmpL xs ys)) ∧ Ext noS G w G w' := by
  refine s_enter (n := 48) Tryd.func89 Tryd.ntmps89 rfl rfl ?_
  have hX0 : Ext noS G w G w := Ext.refl hP
  have hm := hu.max
  refine s_seq ?_
  refine c_reg ?_
  refine qd rfl rfl rfl (r_assign (v := (.int .i64 0)) rfl) ?_
  refine qe ?_
  refine s_then ?_
  refine s_seq ?_
  refine s_seq ?_
  refine c_reg ?_
  refine qd rfl rfl rfl (r_assign (v := (.int .i64 0)) rfl) ?_
  refine qe ?_
  refine s_then ?_
  refine s_blk ?_
  refine s_loop (fun (k : Nat) (en : Nat → Value) (W : World) => ∃ (env1 : Nat → Value) (j : Nat), en = (upd (upd (upd env1 0 u) 1 v) 5 (.int .i64 (j : Int))) ∧ k = xs.length - j ∧ Ext noS G w G W ∧ (j ≤ xs.length ∧ j ≤ ys.length) ∧ (cmpL xs ys = cmpL (xs.drop j) (ys.drop j))) _ ⟨_, 0, (packS (x := 5) (packS (x := 1) (pack1 (x := 0) rfl) rfl) rfl), rfl, hX0, ⟨Nat.zero_le _, Nat.zero_le _⟩, rfl⟩ ?_
  rintro k1 _ w2 ⟨env1, j, rfl, hk3, hX4, hj, hr⟩
  refine s_seq ?_
  refine s_seq ?_
  refine c_reg ?_
  refine qd rfl rfl rfl (r_move (v := (.int .i64 (j : Int))) rfl) ?_
  refine qd rfl rfl rfl (r_move (v := u) rfl) ?_
  refine qd rfl rfl rfl (run_len Tryd.underlying38 (v := u) rfl hu) ?_
  refine qd rfl rfl rfl (r_lss rfl rfl) ?_
  refine qd rfl rfl rfl (r_move (v := (.bool (decide (((j : Int) : Int) < (xs.length : Int))))) rfl) ?_
  refine qbd (p := ((j : Int) : Int) < (xs.length : Int)) (t := 10) rfl (fun h5 => ?_) (fun h5 => ?_)
  · skip
    refine qdg rfl rfl rfl rfl rfl rfl (r_move (v := (.int .i64 (j : Int))) rfl) ?_
    refine qdg rfl rfl rfl rfl rfl rfl (r_move (v := v) rfl) ?_
    refine qdg rfl rfl rfl rfl rfl rfl (run_len Tryd.underlying38 (v := v) rfl hv) ?_
    refine qdg rfl rfl rfl rfl rfl rfl (r_lss rfl rfl) ?_
    refine qd rfl rfl rfl (r_pickT (v := (.bool (decide (((j : Int) : Int) < (ys.length : Int))))) rfl rfl) ?_
    refine qe ?_
    refine s_then ?_
    refine c_ifd (p := ((j : Int) : Int) < (ys.length : Int)) rfl rfl (fun h6 => ?_) (fun h6 => ?_)
    · skip
      refine wp_skip ?_
      refine s_then ?_
      refine s_seq ?_
      refine s_blk ?_
      refine s_seq ?_
      refine c_draw (S := fun wz => Pins G wz) (last := 9) (by kernel_rfl) rfl ?_
      have hl7 : Below w2.heap.size w2 w2.drew := (Below.refl _ _).drew
      have hp8 := hX4.pins.below hl7
      have hX9 := hX4.step hp8 hl7
      refine dr_take (i := 0) rfl rfl rfl (want_none rfl _) (by kernel_rfl) (fun _ _ => r_move (v := u) rfl) hX9.pins ?_
      refine dr_take (i := 1) rfl rfl rfl (want_none rfl _) (by kernel_rfl) (fun _ _ => r_move (v := (.int .i64 (j : Int))) rfl) hX9.pins ?_
      refine dr_take (i := 2) rfl rfl rfl (want_none rfl _) (by kernel_rfl) (fun _ _ => run_idx Tryd.underlying38 sz3 (v := u) rfl rfl hu (by omega) (by omega)) hX9.pins ?_
      refine dr_take (i := 3) rfl rfl rfl (want_none rfl _) (by kernel_rfl) (fun _ hS => run_load_int (r := xs.getD j 0) rfl ag3 (z := (j : Int)) rfl hu hS (by omega) (by omega)) hX9.pins ?_
      refine dr_take (i := 4) rfl rfl rfl (want_none rfl _) (by kernel_rfl) (fun _ _ => r_move (v := v) rfl) hX9.pins ?_
      refine dr_take (i := 5) rfl rfl rfl (want_none rfl _) (by kernel_rfl) (fun _ _ => r_move (v := (.int .i64 (j : Int))) rfl) hX9.pins ?_
      refine dr_take (i := 6) rfl rfl rfl (want_none rfl _) (by kernel_rfl) (fun _ _ => run_idx Tryd.underlying38 sz3 (v := v) rfl rfl hv (by omega) (by omega)) hX9.pins ?_
      refine dr_take (i := 7) rfl rfl rfl (want_none rfl _) (by kernel_rfl) (fun _ hS => run_load_int (r := ys.getD j 0) rfl ag3 (z := (j : Int)) rfl hv hS (by omega) (by omega)) hX9.pins ?_
      refine dr_take (i := 8) rfl rfl rfl (want_none rfl _) (by kernel_rfl) (fun _ _ => r_neq rfl rfl) hX9.pins ?_
      refine dr_end (by kernel_rfl) ?_
      refine s_then ?_
      refine c_ifd (p := (xs.getD j 0 : Int) ≠ (ys.getD j 0)) rfl rfl (fun h10 => ?_) (fun h10 => ?_)
      · skip
        refine s_seq ?_
        refine s_seq ?_
        refine c_draw (S := fun wz => Pins G wz) (last := 9) (by kernel_rfl) rfl ?_
        have hl11 : Below w2.drew.heap.size w2.drew w2.drew.drew := (Below.refl _ _).drew
        have hp12 := hX9.pins.below hl11
        have hX13 := hX9.step hp12 hl11
        refine dr_take (i := 0) rfl rfl rfl (want_none rfl _) (by kernel_rfl) (fun _ _ => r_move (v := u) rfl) hX13.pins ?_
        refine dr_take (i := 1) rfl rfl rfl (want_none rfl _) (by kernel_rfl) (fun _ _ => r_move (v := (.int .i64 (j : Int))) rfl) hX13.pins ?_
        refine dr_take (i := 2) rfl rfl rfl (want_none rfl _) (by kernel_rfl) (fun _ _ => run_idx Tryd.underlying38 sz3 (v := u) rfl rfl hu (by omega) (by omega)) hX13.pins ?_
        refine dr_take (i := 3) rfl rfl rfl (want_none rfl _) (by kernel_rfl) (fun _ hS => run_load_int (r := xs.getD j 0) rfl ag3 (z := (j : Int)) rfl hu hS (by omega) (by omega)) hX13.pins ?_
        refine dr_take (i := 4) rfl rfl rfl (want_none rfl _) (by kernel_rfl) (fun _ _ => r_move (v := v) rfl) hX13.pins ?_
        refine dr_take (i := 5) rfl rfl rfl (want_none rfl _) (by kernel_rfl) (fun _ _ => r_move (v := (.int .i64 (j : Int))) rfl) hX13.pins ?_
        refine dr_take (i := 6) rfl rfl rfl (want_none rfl _) (by kernel_rfl) (fun _ _ => run_idx Tryd.underlying38 sz3 (v := v) rfl rfl hv (by omega) (by omega)) hX13.pins ?_
        refine dr_take (i := 7) rfl rfl rfl (want_none rfl _) (by kernel_rfl) (fun _ hS => run_load_int (r := ys.getD j 0) rfl ag3 (z := (j : Int)) rfl hv hS (by omega) (by omega)) hX13.pins ?_
        refine dr_take (i := 8) rfl rfl rfl (want_none rfl _) (by kernel_rfl) (fun _ _ => r_lss rfl rfl) hX13.pins ?_
        refine dr_end (by kernel_rfl) ?_
        refine s_then ?_
        refine c_ifd (p := (xs.getD j 0 : Int) < (ys.getD j 0)) rfl rfl (fun h14 => ?_) (fun h14 => ?_)
        · skip
          refine s_seq ?_
          refine c_reg ?_
          refine qd rfl rfl rfl (r_assign (v := (.int .i64 (-1))) rfl) ?_
          refine qe ?_
          refine s_then ?_
          refine wp_ret ?_
          refine s_ret ?_
          refine c_ret1 (v := (.int .i64 (-1))) rfl rfl rfl ?_
          exact ⟨congrArg (fun z => Ending.returned (Value.int .i64 z)) ((hr.trans ((cmpL_ne (by omega) (by omega) (by unfold cmpI; split <;> omega)).trans (by unfold cmpI; rw [if_pos h14]))).symm), hX13⟩
        refine wp_skip ?_
        refine s_then ?_
        refine s_seq ?_
        refine c_reg ?_
        refine qd rfl rfl rfl (r_assign (v := (.int .i64 1)) rfl) ?_
        refine qe ?_
        refine s_then ?_
        refine wp_ret ?_
        refine s_ret ?_
        refine c_ret1 (v := (.int .i64 1)) rfl rfl rfl ?_
        exact ⟨congrArg (fun z => Ending.returned (Value.int .i64 z)) ((hr.trans ((cmpL_ne (by omega) (by omega) (by unfold cmpI; split <;> omega)).trans (by unfold cmpI; rw [if_neg h14, if_pos (by omega)]))).symm), hX13⟩
      refine wp_skip ?_
      refine s_blkN ?_
      refine s_then ?_
      refine c_reg ?_
      refine qd rfl rfl rfl (r_move (v := (.int .i64 (j : Int))) rfl) ?_
      refine qd rfl rfl rfl (r_add rfl rfl (by omega)) ?_
      refine qd rfl rfl rfl (r_assign (v := (.int .i64 ((j : Int) + 1))) rfl) ?_
      refine qe ?_
      refine s_lopN ?_
      refine ⟨_, ?_, _, rfl, _, j + 1, (packS (x := 5) (packS (x := 1) (pack1 (x := 0) rfl) rfl) rfl), rfl, hX9, (by omega), (hr.trans (cmpL_eq (by omega) (by omega) (by unfold cmpI; rw [if_neg (by omega), if_neg (by omega)]; omega)))⟩
      omega
    refine wp_exit ?_
    refine s_thenE ?_
    refine s_lopE ?_
    refine s_blkE ?_
    refine s_then ?_
    refine s_seq ?_
    refine s_blk ?_
    refine s_seq ?_
    refine c_reg ?_
    refine qd rfl rfl rfl (r_move (v := u) rfl) ?_
    refine qd rfl rfl rfl (run_len Tryd.underlying38 (v := u) rfl hu) ?_
    refine qd rfl rfl rfl (r_move (v := v) rfl) ?_
    refine qd rfl rfl rfl (run_len Tryd.underlying38 (v := v) rfl hv) ?_
    refine qd rfl rfl rfl (r_lss rfl rfl) ?_
    refine qd rfl rfl rfl (r_assign (v := (.bool (decide (((xs.length : Int) : Int) < (ys.length : Int))))) rfl) ?_
    refine qe ?_
    refine s_then ?_
    refine c_ifd (p := ((xs.length : Int) : Int) < (ys.length : Int)) rfl rfl (fun h15 => ?_) (fun h15 => ?_)
    · skip
      refine s_seq ?_
      refine c_reg ?_
      refine qd rfl rfl rfl (r_assign (v := (.int .i64 (-1))) rfl) ?_
      refine qe ?_
      refine s_then ?_
      refine wp_ret ?_
      refine s_ret ?_
      refine c_ret1 (v := (.int .i64 (-1))) rfl rfl rfl ?_
      exact ⟨congrArg (fun z => Ending.returned (Value.int .i64 z)) ((hr.trans (cmpL_less (by omega) (by omega))).symm), hX4⟩
    refine s_seq ?_
    refine c_reg ?_
    refine qd rfl rfl rfl (r_move (v := u) rfl) ?_
    refine qd rfl rfl rfl (run_len Tryd.underlying38 (v := u) rfl hu) ?_
    refine qd rfl rfl rfl (r_move (v := v) rfl) ?_
    refine qd rfl rfl rfl (run_len Tryd.underlying38 (v := v) rfl hv) ?_
    refine qd rfl rfl rfl (r_gtr rfl rfl) ?_
    refine qd rfl rfl rfl (r_assign (v := (.bool (decide (((ys.length : Int) : Int) < (xs.length : Int))))) rfl) ?_
    refine qe ?_
    refine s_then ?_
    refine c_ifd (p := ((ys.length : Int) : Int) < (xs.length : Int)) rfl rfl (fun h16 => ?_) (fun h16 => ?_)
    · skip
      refine s_seq ?_
      refine c_reg ?_
      refine qd rfl rfl rfl (r_assign (v := (.int .i64 1)) rfl) ?_
      refine qe ?_
      refine s_then ?_
      refine wp_ret ?_
      refine s_ret ?_
      refine c_ret1 (v := (.int .i64 1)) rfl rfl rfl ?_
      exact ⟨congrArg (fun z => Ending.returned (Value.int .i64 z)) ((hr.trans (cmpL_more (by omega) (by omega))).symm), hX4⟩
    refine wp_skip ?_
    refine s_blkN ?_
    refine s_then ?_
    refine s_seq ?_
    refine c_reg ?_
    refine qd rfl rfl rfl (r_assign (v := (.int .i64 0)) rfl) ?_
    refine qe ?_
    refine s_then ?_
    refine wp_ret ?_
    refine s_ret ?_
    refine c_ret1 (v := (.int .i64 0)) rfl rfl rfl ?_
    exact ⟨congrArg (fun z => Ending.returned (Value.int .i64 z)) ((hr.trans (cmpL_same (by omega) (by omega))).symm), hX4⟩
  refine qs rfl rfl rfl rfl rfl rfl ?_
  refine qs rfl rfl rfl rfl rfl rfl ?_
  refine qs rfl rfl rfl rfl rfl rfl ?_
  refine qs rfl rfl rfl rfl rfl rfl ?_
  refine qd rfl rfl rfl (r_pickF (v := (.bool false)) rfl rfl) ?_
  refine qe ?_
  refine s_then ?_
  refine c_ifF rfl rfl ?_
  refine wp_exit ?_
  refine s_thenE ?_
  refine s_lopE ?_
  refine s_blkE ?_
  refine s_then ?_
  refine s_seq ?_
  refine s_blk ?_
  refine s_seq ?_
  refine c_reg ?_
  refine qd rfl rfl rfl (r_move (v := u) rfl) ?_
  refine qd rfl rfl rfl (run_len Tryd.underlying38 (v := u) rfl hu) ?_
  refine qd rfl rfl rfl (r_move (v := v) rfl) ?_
  refine qd rfl rfl rfl (run_len Tryd.underlying38 (v := v) rfl hv) ?_
  refine qd rfl rfl rfl (r_lss rfl rfl) ?_
  refine qd rfl rfl rfl (r_assign (v := (.bool (decide (((xs.length : Int) : Int) < (ys.length : Int))))) rfl) ?_
  refine qe ?_
  refine s_then ?_
  refine c_ifd (p := ((xs.length : Int) : Int) < (ys.length : Int)) rfl rfl (fun h17 => ?_) (fun h17 => ?_)
  · skip
    refine s_seq ?_
    refine c_reg ?_
    refine qd rfl rfl rfl (r_assign (v := (.int .i64 (-1))) rfl) ?_
    refine qe ?_
    refine s_then ?_
    refine wp_ret ?_
    refine s_ret ?_
    refine c_ret1 (v := (.int .i64 (-1))) rfl rfl rfl ?_
    exact ⟨congrArg (fun z => Ending.returned (Value.int .i64 z)) ((hr.trans (cmpL_less (by omega) (by omega))).symm), hX4⟩
  refine s_seq ?_
  refine c_reg ?_
  refine qd rfl rfl rfl (r_move (v := u) rfl) ?_
  refine qd rfl rfl rfl (run_len Tryd.underlying38 (v := u) rfl hu) ?_
  refine qd rfl rfl rfl (r_move (v := v) rfl) ?_
  refine qd rfl rfl rfl (run_len Tryd.underlying38 (v := v) rfl hv) ?_
  refine qd rfl rfl rfl (r_gtr rfl rfl) ?_
  refine qd rfl rfl rfl (r_assign (v := (.bool (decide (((ys.length : Int) : Int) < (xs.length : Int))))) rfl) ?_
  refine qe ?_
  refine s_then ?_
  refine c_ifd (p := ((ys.length : Int) : Int) < (xs.length : Int)) rfl rfl (fun h18 => ?_) (fun h18 => ?_)
  · skip
    refine s_seq ?_
    refine c_reg ?_
    refine qd rfl rfl rfl (r_assign (v := (.int .i64 1)) rfl) ?_
    refine qe ?_
    refine s_then ?_
    refine wp_ret ?_
    refine s_ret ?_
    refine c_ret1 (v := (.int .i64 1)) rfl rfl rfl ?_
    exact ⟨congrArg (fun z => Ending.returned (Value.int .i64 z)) ((hr.trans (cmpL_more (by omega) (by omega))).symm), hX4⟩
  refine wp_skip ?_
  refine s_blkN ?_
  refine s_then ?_
  refine s_seq ?_
  refine c_reg ?_
  refine qd rfl rfl rfl (r_assign (v := (.int .i64 0)) rfl) ?_
  refine qe ?_
  refine s_then ?_
  refine wp_ret ?_
  refine s_ret ?_
  refine c_ret1 (v := (.int .i64 0)) rfl rfl rfl ?_
  exact ⟨congrArg (fun z => Ending.returned (Value.int .i64 z)) ((hr.trans (cmpL_same (by omega) (by omega))).symm), hX4⟩

theorem l3NodeAhead_spec {w : World} {G : Pin} {al ar bl br : Value} {a b : Nd} (hP : Pins G w) (hal : RSl eInt G al a.l) (har : RSl eInt G ar a.r) (hbl : RSl eInt G bl b.l) (hbr : RSl eInt G br b.r) :
    Calls Tryd.prog 82 [(.agg [al, ar].toArray), (.agg [bl, br].toArray)].toArray w fun e w' => ∃ G', e = .returned (.bool (decide (aheadI a b < 0))) ∧ Ext noS G w G' w' := by
  refine s_enter (n := 21) Tryd.func82 Tryd.ntmps82 rfl rfl ?_
  have hX0 : Ext noS G w G w := Ext.refl hP
  refine s_seq ?_
  refine c_reg ?_
  refine q1 rfl rfl rfl (o_box [al, ar] (v := (.agg [al, ar].toArray)) rfl rfl hX0.pins (fun b1 w2 hk3 hb4 hp5 hl6 => ?_))
  have hX7 := hX0.step hp5 hl6
  have hlo8 : w.heap.size ≤ b1 := by have := hX0.size; omega
  obtain ⟨G9, hle10, hX11, hbp12, hf13⟩ := hb4.shut hX7 hlo8
  refine q1 rfl rfl rfl (o_box [bl, br] (v := (.agg [bl, br].toArray)) rfl rfl hX11.pins (fun b14 w15 hk16 hb17 hp18 hl19 => ?_))
  have hX20 := hX11.step hp18 hl19
  have hlo21 : w.heap.size ≤ b14 := by have := hX11.size; omega
  obtain ⟨G22, hle23, hX24, hbp25, hf26⟩ := hb17.shut hX20 hlo21
  refine qd rfl rfl rfl (r_assign (v := (.bool false)) rfl) ?_
  refine qe ?_
  refine s_then ?_
  refine s_seq ?_
  refine s_seq ?_
  refine c_reg ?_
  refine qd rfl rfl rfl (r_fldp (k := 0) rfl Tryd.underlying69 rfl nz38 rfl) ?_
  refine qd rfl rfl rfl (r_ldp1 (u := al) ag38 rfl ((Pins.of_le hX24.pins hle23) _ _ _ (hbp12 0 _ rfl))) ?_
  refine qd rfl rfl rfl (r_fldp (k := 0) rfl Tryd.underlying69 rfl nz38 rfl) ?_
  refine qd rfl rfl rfl (r_ldp1 (u := bl) ag38 rfl (hX24.pins _ _ _ (hbp25 0 _ rfl))) ?_
  refine q1 rfl rfl rfl (o_call (vs := [al, bl]) Tryd.func89 nm89 rfl rfl rfl ?_)
  refine Calls.mono (l3List_spec hX24.pins (hal.mono (Pin.le_trans hle10 hle23)) (hbl.mono (Pin.le_trans hle10 hle23))) ?_
  rintro _ w27 ⟨rfl, hx28⟩
  refine ⟨_, rfl, ?_⟩
  have hX29 := hX24.step hx28.pins hx28.below
  refine qd rfl rfl rfl (r_assign (v := (.int .i64 (cmpL a.l b.l))) rfl) ?_
  refine qe ?_
  refine s_then ?_
  refine s_seq ?_
  refine c_reg ?_
  refine qd rfl rfl rfl (r_move (v := (.int .i64 (cmpL a.l b.l))) rfl) ?_
  refine qd rfl rfl rfl (r_neq rfl rfl) ?_
  refine qe ?_
  refine s_then ?_
  refine c_ifd (p := (cmpL a.l b.l : Int) ≠ 0) rfl rfl (fun h30 => ?_) (fun h30 => ?_)
  · skip
    refine s_seq ?_
    refine c_reg ?_
    refine qd rfl rfl rfl (r_move (v := (.int .i64 (cmpL a.l b.l))) rfl) ?_
    refine qd rfl rfl rfl (r_lss rfl rfl) ?_
    refine qd rfl rfl rfl (r_assign (v := (.bool (decide ((cmpL a.l b.l : Int) < 0)))) rfl) ?_
    refine qe ?_
    refine s_then ?_
    refine wp_ret ?_
    refine s_ret ?_
    refine c_ret1 (v := (.bool (decide ((cmpL a.l b.l : Int) < 0)))) rfl rfl rfl ?_
    exact ⟨_, congrArg (fun z => Ending.returned (Value.bool z)) (by rw [ahead_left h30]), hX29⟩
  refine wp_skip ?_
  refine s_then ?_
  refine s_seq ?_
  refine c_reg ?_
  refine qd rfl rfl rfl (r_fldp (k := 1) rfl Tryd.underlying69 rfl nz38 rfl) ?_
  refine qd rfl rfl rfl (r_ldp1 (u := ar) ag38 rfl ((Pins.of_le hX29.pins hle23) _ _ _ (hbp12 1 _ rfl))) ?_
  refine qd rfl rfl rfl (r_fldp (k := 1) rfl Tryd.underlying69 rfl nz38 rfl) ?_
  refine qd rfl rfl rfl (r_ldp1 (u := br) ag38 rfl (hX29.pins _ _ _ (hbp25 1 _ rfl))) ?_
  refine q1 rfl rfl rfl (o_call (vs := [ar, br]) Tryd.func89 nm89 rfl rfl rfl ?_)
  refine Calls.mono (l3List_spec hX29.pins (har.mono (Pin.le_trans hle10 hle23)) (hbr.mono (Pin.le_trans hle10 hle23))) ?_
  rintro _ w31 ⟨rfl, hx32⟩
  refine ⟨_, rfl, ?_⟩
  have hX33 := hX29.step hx32.pins hx32.below
  refine qd rfl rfl rfl (r_lss rfl rfl) ?_
  refine qd rfl rfl rfl (r_assign (v := (.bool (decide ((cmpL a.r b.r : Int) < 0)))) rfl) ?_
  refine qe ?_
  refine s_then ?_
  refine wp_ret ?_
  refine s_ret ?_
  refine c_ret1 (v := (.bool (decide ((cmpL a.r b.r : Int) < 0)))) rfl rfl rfl ?_
  exact ⟨_, congrArg (fun z => Ending.returned (Value.bool z)) (by rw [ahead_right (by omega)]), hX33⟩

theorem l3Same_spec {w : World} {G : Pin} {u v : Value} {xs ys : List Nd} (hP : Pins G w) (hu : RSl eNode G u xs) (hv : RSl eNode G v ys) :
    Calls Tryd.prog 56 [(.agg [u].toArray), (.agg [v].toArray)].toArray w fun e w' => ∃ G', e = .returned (.bool (decide (xs = ys))) ∧ Ext noS G w G' w' := by
  refine s_enter (n := 50) Tryd.func56 Tryd.ntmps56 rfl rfl ?_
  have hX0 : Ext noS G w G w := Ext.refl hP
  have hm := hu.max
  refine s_seq ?_
  refine c_reg ?_
  refine q1 rfl rfl rfl (o_box [u] (v := (.agg [u].toArray)) rfl rfl hX0.pins (fun b1 w2 hk3 hb4 hp5 hl6 => ?_))
  have hX7 := hX0.step hp5 hl6
  have hlo8 : w.heap.size ≤ b1 := by have := hX0.size; omega
  obtain ⟨G9, hle10, hX11, hbp12, hf13⟩ := hb4.shut hX7 hlo8
  refine q1 rfl rfl rfl (o_box [v] (v := (.agg [v].toArray)) rfl rfl hX11.pins (fun b14 w15 hk16 hb17 hp18 hl19 => ?_))
  have hX20 := hX11.step hp18 hl19
  have hlo21 : w.heap.size ≤ b14 := by have := hX11.size; omega
  obtain ⟨G22, hle23, hX24, hbp25, hf26⟩ := hb17.shut hX20 hlo21
  refine qd rfl rfl rfl (r_assign (v := (.bool false)) rfl) ?_
  refine qe ?_
  refine s_then ?_
  refine s_seq ?_
  refine s_seq ?_
  refine c_reg ?_
  refine qd rfl rfl rfl (r_fldp (k := 0) rfl Tryd.underlying30 rfl nz28 rfl) ?_
  refine qd rfl rfl rfl (r_ldp1 (u := u) ag28 rfl ((Pins.of_le hX24.pins hle23) _ _ _ (hbp12 0 _ rfl))) ?_
  refine qd rfl rfl rfl (run_len Tryd.underlying28 (v := u) rfl hu) ?_
  refine qd rfl rfl rfl (r_fldp (k := 0) rfl Tryd.underlying30 rfl nz28 rfl) ?_
  refine qd rfl rfl rfl (r_ldp1 (u := v) ag28 rfl (hX24.pins _ _ _ (hbp25 0 _ rfl))) ?_
  refine qd rfl rfl rfl (run_len Tryd.underlying28 (v := v) rfl hv) ?_
  refine qd rfl rfl rfl (r_neq rfl rfl) ?_
  refine qe ?_
  refine s_then ?_
  refine c_ifd (p := ((xs.length : Int) : Int) ≠ (ys.length : Int)) rfl rfl (fun h27 => ?_) (fun h27 => ?_)
  · skip
    refine s_seq ?_
    refine c_reg ?_
    refine qd rfl rfl rfl (r_assign (v := (.bool false)) rfl) ?_
    refine qe ?_
    refine s_then ?_
    refine wp_ret ?_
    refine s_ret ?_
    refine c_ret1 (v := (.bool false)) rfl rfl rfl ?_
    exact ⟨_, congrArg (fun z => Ending.returned (Value.bool z)) (decide_eq_false (fun e => h27 (by rw [e]))).symm, hX24⟩
  refine wp_skip ?_
  refine s_then ?_
  refine s_seq ?_
  refine s_seq ?_
  refine c_reg ?_
  refine qd rfl rfl rfl (r_assign (v := (.int .i64 0)) rfl) ?_
  refine qe ?_
  refine s_then ?_
  refine s_blk ?_
  refine s_loop (fun (k : Nat) (en : Nat → Value) (W : World) => ∃ (env1 : Nat → Value) (j : Nat), en = (upd (upd (upd env1 2 (.pointer (some ⟨b1, 0, none⟩))) 3 (.pointer (some ⟨b14, 0, none⟩))) 5 (.int .i64 (j : Int))) ∧ k = xs.length - j ∧ Ext noS G w G22 W ∧ (j ≤ xs.length) ∧ (xs.length = ys.length) ∧ (∀ i, i < j → xs.getD i default = ys.getD i default)) _ ⟨_, 0, (packS (x := 5) (packS (x := 3) (pack1 (x := 2) rfl) rfl) rfl), rfl, hX24, Nat.zero_le _, (by omega), (fun i hi => absurd hi (Nat.not_lt_zero i))⟩ ?_
  rintro k28 _ w29 ⟨env1, j, rfl, hk30, hX31, hj, heq, hp⟩
  refine s_seq ?_
  refine s_seq ?_
  refine c_reg ?_
  refine qd rfl rfl rfl (r_move (v := (.int .i64 (j : Int))) rfl) ?_
  refine qd rfl rfl rfl (r_fldp (k := 0) rfl Tryd.underlying30 rfl nz28 rfl) ?_
  refine qd rfl rfl rfl (r_ldp1 (u := u) ag28 rfl ((Pins.of_le hX31.pins hle23) _ _ _ (hbp12 0 _ rfl))) ?_
  refine qd rfl rfl rfl (run_len Tryd.underlying28 (v := u) rfl hu) ?_
  refine qd rfl rfl rfl (r_lss rfl rfl) ?_
  refine qe ?_
  refine s_then ?_
  refine c_ifd (p := ((j : Int) : Int) < (xs.length : Int)) rfl rfl (fun h32 => ?_) (fun h32 => ?_)
  · skip
    refine wp_skip ?_
    refine s_then ?_
    refine s_seq ?_
    refine s_blk ?_
    refine s_seq ?_
    refine c_draw (S := fun wz => Pins G22 wz) (last := 30) (by kernel_rfl) rfl ?_
    have hl33 : Below w29.heap.size w29 w29.drew := (Below.refl _ _).drew
    have hp34 := hX31.pins.below hl33
    have hX35 := hX31.step hp34 hl33
    refine dr_take (i := 0) rfl rfl rfl (want_none rfl _) (by kernel_rfl) (fun _ _ => r_fldp (k := 0) rfl Tryd.underlying30 rfl nz28 rfl) hX35.pins ?_
    refine dr_take (i := 1) rfl rfl rfl (want_none rfl _) (by kernel_rfl) (fun _ hS => r_ldp1 (u := u) ag28 rfl ((Pins.of_le hS hle23) _ _ _ (hbp12 0 _ rfl))) hX35.pins ?_
    refine dr_take (i := 2) rfl rfl rfl (want_none rfl _) (by kernel_rfl) (fun _ _ => r_move (v := (.int .i64 (j : Int))) rfl) hX35.pins ?_
    refine dr_take (i := 3) rfl rfl rfl (want_none rfl _) (by kernel_rfl) (fun _ _ => run_idx Tryd.underlying28 sz69 (v := u) rfl rfl hu (by omega) (by omega)) hX35.pins ?_
    refine dr_take (i := 4) rfl rfl rfl (want_none rfl _) (by kernel_rfl) (fun _ _ => run_fld (off := 0) Tryd.underlying69 rfl rfl nz38 (z := (j : Int)) (k := 0) rfl hu (by omega) (by omega)) hX35.pins ?_
    obtain ⟨u36, hr37, hl38⟩ := nm_nl (hu.at (z := (j : Int)) (by omega) (by omega)) (j := j) rfl
    have hm39 := hr37.max
    refine dr_take (i := 5) rfl rfl rfl (want_none rfl _) (by kernel_rfl) (fun _ hS => hl38 ag38 rfl (Pins.of_le hS (Pin.le_trans hle10 hle23))) hX35.pins ?_
    refine dr_take (i := 6) rfl rfl rfl (want_none rfl _) (by kernel_rfl) (fun _ _ => r_fldp (k := 0) rfl Tryd.underlying30 rfl nz28 rfl) hX35.pins ?_
    refine dr_take (i := 7) rfl rfl rfl (want_none rfl _) (by kernel_rfl) (fun _ hS => r_ldp1 (u := v) ag28 rfl (hS _ _ _ (hbp25 0 _ rfl))) hX35.pins ?_
    refine dr_take (i := 8) rfl rfl rfl (want_none rfl _) (by kernel_rfl) (fun _ _ => r_move (v := (.int .i64 (j : Int))) rfl) hX35.pins ?_
    refine dr_take (i := 9) rfl rfl rfl (want_none rfl _) (by kernel_rfl) (fun _ _ => run_idx Tryd.underlying28 sz69 (v := v) rfl rfl hv (by omega) (by omega)) hX35.pins ?_
    refine dr_take (i := 10) rfl rfl rfl (want_none rfl _) (by kernel_rfl) (fun _ _ => run_fld (off := 0) Tryd.underlying69 rfl rfl nz38 (z := (j : Int)) (k := 0) rfl hv (by omega) (by omega)) hX35.pins ?_
    obtain ⟨u40, hr41, hl42⟩ := nm_nl (hv.at (z := (j : Int)) (by omega) (by omega)) (j := j) rfl
    have hm43 := hr41.max
    refine dr_take (i := 11) rfl rfl rfl (want_none rfl _) (by kernel_rfl) (fun _ hS => hl42 ag38 rfl (Pins.of_le hS (Pin.le_trans hle10 hle23))) hX35.pins ?_
    refine dr_one (i := 12) (by kernel_rfl) (drOp1 (i := 12) rfl rfl rfl (want_none rfl _) (o_call (vs := [u36, u40]) Tryd.func78 nm78 rfl rfl rfl ?_))
    refine Calls.mono (l1Same_spec hX35.pins (hr37.mono (Pin.le_trans hle10 hle23)) (hr41.mono (Pin.le_trans hle10 hle23))) ?_
    rintro _ w44 ⟨rfl, hx45⟩
    refine ⟨_, rfl, ?_⟩
    have hX46 := hX35.step hx45.pins hx45.below
    refine ⟨fun _ => hX46.pins, ?_⟩
    refine dr_take (i := 13) rfl rfl rfl (want_none rfl _) (by kernel_rfl) (fun _ _ => r_not rfl) hX46.pins ?_
    refine dr_take (i := 14) rfl rfl rfl (want_none rfl _) (by kernel_rfl) (fun _ _ => r_move (v := (.bool (!(decide (((xs.getD j default).l) = ((ys.getD j default).l)))))) rfl) hX46.pins ?_
    refine drbn (t := 34) rfl (fun h47 => ?_) (fun h47 => ?_)
    · skip
      replace h47 := of_decide_eq_true h47
      refine dr_take (i := 15) rfl rfl rfl (want_yes rfl rfl rfl rfl) (by kernel_rfl) (fun _ _ => r_fldp (k := 0) rfl Tryd.underlying30 rfl nz28 rfl) hX46.pins ?_
      refine dr_take (i := 16) rfl rfl rfl (want_yes rfl rfl rfl rfl) (by kernel_rfl) (fun _ hS => r_ldp1 (u := u) ag28 rfl ((Pins.of_le hS hle23) _ _ _ (hbp12 0 _ rfl))) hX46.pins ?_
      refine dr_take (i := 17) rfl rfl rfl (want_yes rfl rfl rfl rfl) (by kernel_rfl) (fun _ _ => r_move (v := (.int .i64 (j : Int))) rfl) hX46.pins ?_
      refine dr_take (i := 18) rfl rfl rfl (want_yes rfl rfl rfl rfl) (by kernel_rfl) (fun _ _ => run_idx Tryd.underlying28 sz69 (v := u) rfl rfl hu (by omega) (by omega)) hX46.pins ?_
      refine dr_take (i := 19) rfl rfl rfl (want_yes rfl rfl rfl rfl) (by kernel_rfl) (fun _ _ => run_fld (off := 1) Tryd.underlying69 rfl rfl nz38 (z := (j : Int)) (k := 0) rfl hu (by omega) (by omega)) hX46.pins ?_
      obtain ⟨u48, hr49, hl50⟩ := nm_nr (hu.at (z := (j : Int)) (by omega) (by omega)) (j := j) rfl
      have hm51 := hr49.max
      refine dr_take (i := 20) rfl rfl rfl (want_yes rfl rfl rfl rfl) (by kernel_rfl) (fun _ hS => hl50 ag38 rfl (Pins.of_le hS (Pin.le_trans hle10 hle23))) hX46.pins ?_
      refine dr_take (i := 21) rfl rfl rfl (want_yes rfl rfl rfl rfl) (by kernel_rfl) (fun _ _ => r_fldp (k := 0) rfl Tryd.underlying30 rfl nz28 rfl) hX46.pins ?_
      refine dr_take (i := 22) rfl rfl rfl (want_yes rfl rfl rfl rfl) (by kernel_rfl) (fun _ hS => r_ldp1 (u := v) ag28 rfl (hS _ _ _ (hbp25 0 _ rfl))) hX46.pins ?_
      refine dr_take (i := 23) rfl rfl rfl (want_yes rfl rfl rfl rfl) (by kernel_rfl) (fun _ _ => r_move (v := (.int .i64 (j : Int))) rfl) hX46.pins ?_
      refine dr_take (i := 24) rfl rfl rfl (want_yes rfl rfl rfl rfl) (by kernel_rfl) (fun _ _ => run_idx Tryd.underlying28 sz69 (v := v) rfl rfl hv (by omega) (by omega)) hX46.pins ?_
      refine dr_take (i := 25) rfl rfl rfl (want_yes rfl rfl rfl rfl) (by kernel_rfl) (fun _ _ => run_fld (off := 1) Tryd.underlying69 rfl rfl nz38 (z := (j : Int)) (k := 0) rfl hv (by omega) (by omega)) hX46.pins ?_
      obtain ⟨u52, hr53, hl54⟩ := nm_nr (hv.at (z := (j : Int)) (by omega) (by omega)) (j := j) rfl
      have hm55 := hr53.max
      refine dr_take (i := 26) rfl rfl rfl (want_yes rfl rfl rfl rfl) (by kernel_rfl) (fun _ hS => hl54 ag38 rfl (Pins.of_le hS (Pin.le_trans hle10 hle23))) hX46.pins ?_
      refine dr_one (i := 27) (by kernel_rfl) (drOp1 (i := 27) rfl rfl rfl (want_yes rfl rfl rfl rfl) (o_call (vs := [u48, u52]) Tryd.func78 nm78 rfl rfl rfl ?_))
      refine Calls.mono (l1Same_spec hX46.pins (hr49.mono (Pin.le_trans hle10 hle23)) (hr53.mono (Pin.le_trans hle10 hle23))) ?_
      rintro _ w56 ⟨rfl, hx57⟩
      refine ⟨_, rfl, ?_⟩
      have hX58 := hX46.step hx57.pins hx57.below
      refine ⟨fun _ => hX58.pins, ?_⟩
      refine dr_take (i := 28) rfl rfl rfl (want_yes rfl rfl rfl rfl) (by kernel_rfl) (fun _ _ => r_not rfl) hX58.pins ?_
      refine dr_take (i := 29) rfl rfl rfl (want_none rfl _) (by kernel_rfl) (fun _ _ => r_pickF (v := (.bool (!(decide (((xs.getD j default).r) = ((ys.getD j default).r)))))) rfl rfl) hX58.pins ?_
      refine dr_end (by kernel_rfl) ?_
      refine s_then ?_
      refine c_ifn rfl rfl (fun h59 => ?_) (fun h59 => ?_)
      · skip
        replace h59 := of_decide_eq_true h59
        refine wp_skip ?_
        refine s_blkN ?_
        refine s_then ?_
        refine c_reg ?_
        refine qd rfl rfl rfl (r_move (v := (.int .i64 (j : Int))) rfl) ?_
        refine qd rfl rfl rfl (r_add rfl rfl (by omega)) ?_
        refine qd rfl rfl rfl (r_assign (v := (.int .i64 ((j : Int) + 1))) rfl) ?_
        refine qe ?_
        refine s_lopN ?_
        refine ⟨_, ?_, _, rfl, _, j + 1, (packS (x := 5) (packS (x := 3) (pack1 (x := 2) rfl) rfl) rfl), rfl, hX58, (by omega), heq, (eqstepN hp h47 h59)⟩
        omega
      replace h59 := of_decide_eq_false h59
      refine s_seq ?_
      refine c_reg ?_
      refine qd rfl rfl rfl (r_assign (v := (.bool false)) rfl) ?_
      refine qe ?_
      refine s_then ?_
      refine wp_ret ?_
      refine s_ret ?_
      refine c_ret1 (v := (.bool false)) rfl rfl rfl ?_
      exact ⟨_, congrArg (fun z => Ending.returned (Value.bool z)) (decide_eq_false (fun e => h59 (by rw [e]))).symm, hX58⟩
    replace h47 := of_decide_eq_false h47
    refine dr_skip (i := 15) rfl rfl (want_no rfl rfl rfl rfl rfl) (by kernel_rfl) hX46.pins ?_
    refine dr_skip (i := 16) rfl rfl (want_no rfl rfl rfl rfl rfl) (by kernel_rfl) hX46.pins ?_
    refine dr_skip (i := 17) rfl rfl (want_no rfl rfl rfl rfl rfl) (by kernel_rfl) hX46.pins ?_
    refine dr_skip (i := 18) rfl rfl (want_no rfl rfl rfl rfl rfl) (by kernel_rfl) hX46.pins ?_
    refine dr_skip (i := 19) rfl rfl (want_no rfl rfl rfl rfl rfl) (by kernel_rfl) hX46.pins ?_
    refine dr_skip (i := 20) rfl rfl (want_no rfl rfl rfl rfl rfl) (by kernel_rfl) hX46.pins ?_
    refine dr_skip (i := 21) rfl rfl (want_no rfl rfl rfl rfl rfl) (by kernel_rfl) hX46.pins ?_
    refine dr_skip (i := 22) rfl rfl (want_no rfl rfl rfl rfl rfl) (by kernel_rfl) hX46.pins ?_
    refine dr_skip (i := 23) rfl rfl (want_no rfl rfl rfl rfl rfl) (by kernel_rfl) hX46.pins ?_
    refine dr_skip (i := 24) rfl rfl (want_no rfl rfl rfl rfl rfl) (by kernel_rfl) hX46.pins ?_
    refine dr_skip (i := 25) rfl rfl (want_no rfl rfl rfl rfl rfl) (by kernel_rfl) hX46.pins ?_
    refine dr_skip (i := 26) rfl rfl (want_no rfl rfl rfl rfl rfl) (by kernel_rfl) hX46.pins ?_
    refine dr_skip (i := 27) rfl rfl (want_no rfl rfl rfl rfl rfl) (by kernel_rfl) hX46.pins ?_
    refine dr_skip (i := 28) rfl rfl (want_no rfl rfl rfl rfl rfl) (by kernel_rfl) hX46.pins ?_
    refine dr_take (i := 29) rfl rfl rfl (want_none rfl _) (by kernel_rfl) (fun _ _ => r_pickT (v := (.bool true)) rfl rfl) hX46.pins ?_
    refine dr_end (by kernel_rfl) ?_
    refine s_then ?_
    refine c_ifT rfl rfl ?_
    refine s_seq ?_
    refine c_reg ?_
    refine qd rfl rfl rfl (r_assign (v := (.bool false)) rfl) ?_
    refine qe ?_
    refine s_then ?_
    refine wp_ret ?_
    refine s_ret ?_
    refine c_ret1 (v := (.bool false)) rfl rfl rfl ?_
    exact ⟨_, congrArg (fun z => Ending.returned (Value.bool z)) (decide_eq_false (fun e => h47 (by rw [e]))).symm, hX46⟩
  refine wp_exit ?_
  refine s_thenE ?_
  refine s_lopE ?_
  refine s_blkE ?_
  refine s_then ?_
  refine s_seq ?_
  refine c_reg ?_
  refine qd rfl rfl rfl (r_assign (v := (.bool true)) rfl) ?_
  refine qe ?_
  refine s_then ?_
  refine wp_ret ?_
  refine s_ret ?_
  refine c_ret1 (v := (.bool true)) rfl rfl rfl ?_
  exact ⟨_, congrArg (fun z => Ending.returned (Value.bool z)) (decide_eq_true (eqdoneN heq (by omega) hp)).symm, hX31⟩

theorem put_spec {w : World} {G : Pin} {b : Nat} {bu bv : Value} {ns : List Nd} {bs : List Int} (hP : Pins G w) (hB : Bk 69 3 G w b bu bv ns bs) (hok : BookOk ns bs) {x y : Value} {xs ys : List Int} (hx : RSl eInt G x xs) (hy : RSl eInt G y ys) (hls : xs.length ≤ 1048576 ∧ ys.length ≤ 1048576) (hk1 : ∀ i, i < xs.length → 0 ≤ xs.getD i 0 ∧ xs.getD i 0 < ns.length) (hk2 : ∀ i, i < ys.length → 0 ≤ ys.getD i 0 ∧ ys.getD i 0 < ns.length) :
    Calls Tryd.prog 90 [(.pointer (some ⟨b, 0, none⟩)), x, y].toArray w fun e w' => ∃ (u' v' : Value) (G' : Pin), e = .returned (.int .i64 (putK ns bs xs ys)) ∧ Bk 69 3 G' w' b u' v' (putN ns bs xs ys) (putB ns bs xs ys) ∧ Ext (inS b bu bv) G w G' w' ∧ Lo w (inS b bu bv) u'.ownBlock ∧ Lo w (inS b bu bv) v'.ownBlock := by
  refine s_enter (n := 136) Tryd.func90 Tryd.ntmps90 rfl rfl ?_
  have hX0 : Ext (inS b bu bv) G w G w := Ext.refl hP
  have hbx := hB.bx
  have hou := hB.ou
  have hov := hB.ov
  have habu := hB.abu
  have habv := hB.abv
  have hauv := hB.auv
  have hlob : Lo w (inS b bu bv) (some b) := lo_b
  have hlou : Lo w (inS b bu bv) bu.ownBlock := lo_u
  have hlov : Lo w (inS b bu bv) bv.ownBlock := lo_v
  have hlen := hok.len
  have hlim := hok.lim
  refine s_seq ?_
  refine c_reg ?_
  refine qd rfl rfl rfl (r_assign (v := (.int .i64 0)) rfl) ?_
  refine qe ?_
  refine s_then ?_
  refine s_seq ?_
  refine c_reg ?_
  refine q1 rfl rfl rfl (o_build0 (E := eInt) (e := 3) Tryd.underlying38 sz3 hX0.pins (fun u1 w2 ho3 hp4 hl5 hk6 => ?_))
  have hX7 := hX0.step hp4 hl5
  have ho8 := hou.below hl5
  have ho9 := hov.below hl5
  have hb10 := hbx.below hl5
  have ha11 : Apart u1.ownBlock bu.ownBlock := new_ne_own hk6 hou.lt
  have ha12 : Apart u1.ownBlock bv.ownBlock := new_ne_own hk6 hov.lt
  have ha13 : Apart u1.ownBlock (some b) := new_ne_box hk6 hbx.lt
  have ho14 : Own eInt 3 G w2 w.heap.size u1 ([]) := ho3.weaken hX0.size
  refine q1 rfl rfl rfl (o_build0 (E := eInt) (e := 3) Tryd.underlying38 sz3 hX7.pins (fun u15 w16 ho17 hp18 hl19 hk20 => ?_))
  have hX21 := hX7.step hp18 hl19
  have ho22 := ho8.below hl19
  have ho23 := ho9.below hl19
  have ho24 := ho14.below hl19
  have hb25 := hb10.below hl19
  have ha26 : Apart u15.ownBlock bu.ownBlock := new_ne_own hk20 ho8.lt
  have ha27 : Apart u15.ownBlock bv.ownBlock := new_ne_own hk20 ho9.lt
  have ha28 : Apart u15.ownBlock u1.ownBlock := new_ne_own hk20 ho14.lt
  have ha29 : Apart u15.ownBlock (some b) := new_ne_box hk20 hb10.lt
  have ho30 : Own eInt 3 G w16 w.heap.size u15 ([]) := ho17.weaken hX7.size
  refine qd rfl rfl rfl (r_assign (v := u1) rfl) ?_
  refine qd rfl rfl rfl (r_assign (v := u15) rfl) ?_
  refine qe ?_
  refine s_then ?_
  refine s_seq ?_
  refine c_reg ?_
  refine qd rfl rfl rfl (r_assign (v := (.int .i64 0)) rfl) ?_
  refine qe ?_
  refine s_then ?_
  refine s_seq ?_
  refine s_seq ?_
  refine c_reg ?_
  refine qd rfl rfl rfl (r_assign (v := (.int .i64 0)) rfl) ?_
  refine qe ?_
  refine s_then ?_
  refine s_blk ?_
  obtain ⟨G35, hle38, hX37, hr36, hf39⟩ := ho24.sealed hX21
  have ho40 := ho22.moreO hle38 hf39 ha11.symm
  have ho41 := ho23.moreO hle38 hf39 ha12.symm
  have ho42 := ho30.moreO hle38 hf39 ha28
  have hb43 := hb25.moreO hf39 ha13.symm
  refine s_loop (fun (k : Nat) (en : Nat → Value) (W : World) => ∃ (env1 : Nat → Value) (i : Nat) (lo : Value) (ls : List Int) (bn : Int) (GLi : Pin), en = (upd (upd (upd (upd (upd (upd (upd (upd env1 0 (.pointer (some ⟨b, 0, none⟩))) 1 x) 2 y) 6 (.int .i64 0)) 7 lo) 8 u15) 9 (.int .i64 bn)) 10 (.int .i64 (i : Int))) ∧ k = xs.length - i ∧ Ext (inS b bu bv) G w GLi W ∧ Pin.le G35 GLi ∧ (i ≤ xs.length) ∧ (ls = sortL (xs.take i)) ∧ (ls.length ≤ i) ∧ (bn = bornOf bs (xs.take i) 0) ∧ (0 ≤ bn ∧ bn ≤ ns.length) ∧ (Own eNode 69 GLi W 0 bu (ns)) ∧ (Own eInt 3 GLi W 0 bv (bs)) ∧ (Own eInt 3 GLi W w.heap.size u15 ([])) ∧ (Bx GLi W b [bu, bv]) ∧ (RSl eInt GLi lo (ls))) _ ⟨_, 0, u1, [], 0, G35, (packS (x := 10) (packS (x := 9) (packS (x := 8) (packS (x := 7) (packS (x := 6) (packS (x := 2) (packS (x := 1) (pack1 (x := 0) rfl) rfl) rfl) rfl) rfl) rfl) rfl) rfl), rfl, hX37, Pin.le_refl _, Nat.zero_le _, rfl, Nat.le_refl 0, rfl, (by omega), ho40, ho41, ho42, hb43, hr36⟩ ?_
  rintro k31 _ w32 ⟨env1, i, lo, ls, bn, GLi, rfl, hk33, hX34, hlek31, hji, hrls, holls, hbbn, hlbn, hw44, hw45, hw46, hw47, hr48⟩
  refine s_seq ?_
  refine s_seq ?_
  refine c_reg ?_
  refine qd rfl rfl rfl (r_move (v := (.int .i64 (i : Int))) rfl) ?_
  refine qd rfl rfl rfl (r_move (v := x) rfl) ?_
  refine qd rfl rfl rfl (run_len Tryd.underlying38 (v := x) rfl hx) ?_
  refine qd rfl rfl rfl (r_lss rfl rfl) ?_
  refine qe ?_
  refine s_then ?_
  refine c_ifd (p := ((i : Int) : Int) < (xs.length : Int)) rfl rfl (fun h49 => ?_) (fun h49 => ?_)
  · skip
    have hki := hk1 i (by omega)
    have hbk := hok.born (xs.getD i 0).toNat (by omega)
    refine wp_skip ?_
    refine s_then ?_
    refine s_seq ?_
    refine s_blk ?_
    refine s_seq ?_
    refine c_reg ?_
    refine qd rfl rfl rfl (r_move (v := lo) rfl) ?_
    refine qd rfl rfl rfl (r_move (v := x) rfl) ?_
    refine qd rfl rfl rfl (r_move (v := (.int .i64 (i : Int))) rfl) ?_
    refine qd rfl rfl rfl (run_idx Tryd.underlying38 sz3 (v := x) rfl rfl hx (by omega) (by omega)) ?_
    refine qd rfl rfl rfl (run_load_int (r := xs.getD i 0) rfl ag3 (z := (i : Int)) rfl hx (Pins.of_le hX34.pins (Pin.le_trans hle38 hlek31)) (by omega) (by omega)) ?_
    refine q1 rfl rfl rfl (o_call (vs := [lo, (.int .i64 (xs.getD i 0))]) Tryd.func71 nm71 rfl rfl rfl ?_)
    refine Calls.mono (l1Put_spec hX34.pins hr48 (by omega)) ?_
    rintro _ w52 ⟨u50, G51, rfl, hr53, hx54⟩
    refine ⟨_, rfl, ?_⟩
    have hX55 := hX34.tr hx54
    have ho56 := hw44.ext hx54
    have ho57 := hw45.ext hx54
    have ho58 := hw46.ext hx54
    have hb59 := hw47.ext hx54
    refine qd rfl rfl rfl (r_assign (v := u50) rfl) ?_
    refine qe ?_
    refine s_then ?_
    have hq60 := Gadd.pins hX55.pins bv
    have hr61 := ho57.read
    refine c_draw (S := fun wz => BxR wz b [bu, bv] ∧ Pins G51 wz ∧ Pins (Gadd G51 w52 bv) wz) (last := 14) (by kernel_rfl) rfl ?_
    have hl62 : Below w52.heap.size w52 w52.drew := (Below.refl _ _).drew
    have hp63 := hX55.pins.below hl62
    have hX64 := hX55.step hp63 hl62
    have ho65 := ho56.below hl62
    have ho66 := ho57.below hl62
    have ho67 := ho58.below hl62
    have hb68 := hb59.below hl62
    have hq69 := hq60.below hl62
    refine dr_take (i := 0) rfl rfl rfl (want_none rfl _) (by kernel_rfl) (fun _ _ => r_move (v := (.int .i64 bn)) rfl) ⟨hb68.reads, hX64.pins, hq69⟩ ?_
    refine dr_take (i := 1) rfl rfl rfl (want_none rfl _) (by kernel_rfl) (fun _ _ => r_move (v := (.pointer (some ⟨b, 0, none⟩))) rfl) ⟨hb68.reads, hX64.pins, hq69⟩ ?_
    refine dr_take (i := 2) rfl rfl rfl (want_none rfl _) (by kernel_rfl) (fun _ _ => r_nil rfl) ⟨hb68.reads, hX64.pins, hq69⟩ ?_
    refine dr_take (i := 3) rfl rfl rfl (want_none rfl _) (by kernel_rfl) (fun _ _ => r_fldp (k := 1) rfl Tryd.underlying71 rfl nz38 rfl) ⟨hb68.reads, hX64.pins, hq69⟩ ?_
    refine dr_take (i := 4) rfl rfl rfl (want_none rfl _) (by kernel_rfl) (fun _ hS => r_ldp1 (u := bv) ag38 rfl (hS.1 1 _ rfl)) ⟨hb68.reads, hX64.pins, hq69⟩ ?_
    refine dr_take (i := 5) rfl rfl rfl (want_none rfl _) (by kernel_rfl) (fun _ _ => r_move (v := x) rfl) ⟨hb68.reads, hX64.pins, hq69⟩ ?_
    refine dr_take (i := 6) rfl rfl rfl (want_none rfl _) (by kernel_rfl) (fun _ _ => r_move (v := (.int .i64 (i : Int))) rfl) ⟨hb68.reads, hX64.pins, hq69⟩ ?_
    refine dr_take (i := 7) rfl rfl rfl (want_none rfl _) (by kernel_rfl) (fun _ _ => run_idx Tryd.underlying38 sz3 (v := x) rfl rfl hx (by omega) (by omega)) ⟨hb68.reads, hX64.pins, hq69⟩ ?_
    refine dr_take (i := 8) rfl rfl rfl (want_none rfl _) (by kernel_rfl) (fun _ hS => run_load_int (r := xs.getD i 0) rfl ag3 (z := (i : Int)) rfl hx (Pins.of_le hS.2.1 (Pin.le_trans (Pin.le_trans hle38 hlek31) hx54.le)) (by omega) (by omega)) ⟨hb68.reads, hX64.pins, hq69⟩ ?_
    refine dr_take (i := 9) rfl rfl rfl (want_none rfl _) (by kernel_rfl) (fun _ _ => run_idx Tryd.underlying38 sz3 (v := bv) rfl rfl hr61 (by omega) (by omega)) ⟨hb68.reads, hX64.pins, hq69⟩ ?_
    refine dr_take (i := 10) rfl rfl rfl (want_none rfl _) (by kernel_rfl) (fun _ hS => run_load_int (r := bs.getD (xs.getD i 0).toNat 0) rfl ag3 (z := (xs.getD i 0)) rfl hr61 hS.2.2 (by omega) (by omega)) ⟨hb68.reads, hX64.pins, hq69⟩ ?_
    refine dr_take (i := 11) rfl rfl rfl (want_none rfl _) (by kernel_rfl) (fun _ _ => r_add rfl rfl (by omega)) ⟨hb68.reads, hX64.pins, hq69⟩ ?_
    refine dr_one (i := 12) (by kernel_rfl) (drOp1 (i := 12) rfl rfl rfl (want_none rfl _) (o_call (vs := [(.int .i64 bn), (.int .i64 ((bs.getD (xs.getD i 0).toNat 0) + 1))]) Tryd.func93 nm93 rfl rfl rfl ?_))
    refine Calls.mono (l1Most_spec hX64.pins) ?_
    rintro _ _ ⟨rfl, rfl⟩
    refine ⟨_, rfl, ?_⟩
    refine ⟨fun _ => ⟨hb68.reads, hX64.pins, hq69⟩, ?_⟩
    refine dr_take (i := 13) rfl rfl rfl (want_none rfl _) (by kernel_rfl) (fun _ _ => r_assign (v := (.int .i64 (max bn ((bs.getD (xs.getD i 0).toNat 0) + 1)))) rfl) ⟨hb68.reads, hX64.pins, hq69⟩ ?_
    refine dr_end (by kernel_rfl) ?_
    refine s_blkN ?_
    refine s_then ?_
    refine c_reg ?_
    refine qd rfl rfl rfl (r_move (v := (.int .i64 (i : Int))) rfl) ?_
    refine qd rfl rfl rfl (r_add rfl rfl (by omega)) ?_
    refine qd rfl rfl rfl (r_assign (v := (.int .i64 ((i : Int) + 1))) rfl) ?_
    refine qe ?_
    refine s_lopN ?_
    refine ⟨_, ?_, _, rfl, _, i + 1, u50, putL ls (xs.getD i 0), max bn ((bs.getD (xs.getD i 0).toNat 0) + 1), G51, (packS (x := 10) (packS (x := 9) (packS (x := 8) (packS (x := 7) (packS (x := 6) (packS (x := 2) (packS (x := 1) (pack1 (x := 0) rfl) rfl) rfl) rfl) rfl) rfl) rfl) rfl), rfl, hX64, (Pin.le_trans hlek31 hx54.le), (by omega), (by rw [hrls, sort_next (by omega)]), (Nat.le_trans putL_length (by omega)), (by rw [hbbn, born_next (by omega)]), (by omega), ho65, ho66, ho67, hb68, hr53⟩
    omega
  refine wp_exit ?_
  refine s_thenE ?_
  refine s_lopE ?_
  refine s_blkE ?_
  refine s_then ?_
  refine s_seq ?_
  refine s_seq ?_
  refine c_reg ?_
  refine qd rfl rfl rfl (r_assign (v := (.int .i64 0)) rfl) ?_
  refine qe ?_
  refine s_then ?_
  refine s_blk ?_
  obtain ⟨G74, hle77, hX76, hr75, hf78⟩ := hw46.sealed hX34
  have ho79 := hw44.moreO hle77 hf78 ha26.symm
  have ho80 := hw45.moreO hle77 hf78 ha27.symm
  have hb81 := hw47.moreO hf78 ha29.symm
  refine s_loop (fun (k : Nat) (en : Nat → Value) (W : World) => ∃ (env1 : Nat → Value) (i2 : Nat) (ro : Value) (rs : List Int) (bm : Int) (GLi2 : Pin), en = (upd (upd (upd (upd (upd (upd (upd env1 0 (.pointer (some ⟨b, 0, none⟩))) 2 y) 6 (.int .i64 0)) 7 lo) 8 ro) 9 (.int .i64 bm)) 11 (.int .i64 (i2 : Int))) ∧ k = ys.length - i2 ∧ Ext (inS b bu bv) G w GLi2 W ∧ Pin.le G74 GLi2 ∧ (i2 ≤ ys.length) ∧ (rs = sortL (ys.take i2)) ∧ (rs.length ≤ i2) ∧ (bm = bornOf bs (ys.take i2) bn) ∧ (0 ≤ bm ∧ bm ≤ ns.length) ∧ (Own eNode 69 GLi2 W 0 bu (ns)) ∧ (Own eInt 3 GLi2 W 0 bv (bs)) ∧ (Bx GLi2 W b [bu, bv]) ∧ (RSl eInt GLi2 ro (rs))) _ ⟨_, 0, u15, [], bn, G74, (packS (x := 11) (packS (x := 9) (packS (x := 8) (packS (x := 7) (packS (x := 6) (packS (x := 2) (pack1 (x := 0) rfl) rfl) rfl) rfl) rfl) rfl) rfl), rfl, hX76, Pin.le_refl _, Nat.zero_le _, rfl, Nat.le_refl 0, rfl, (by omega), ho79, ho80, hb81, hr75⟩ ?_
  rintro k70 _ w71 ⟨env1, i2, ro, rs, bm, GLi2, rfl, hk72, hX73, hlek70, hji2, hrrs, holrs, hbbm, hlbm, hw82, hw83, hw84, hr85⟩
  refine s_seq ?_
  refine s_seq ?_
  refine c_reg ?_
  refine qd rfl rfl rfl (r_move (v := (.int .i64 (i2 : Int))) rfl) ?_
  refine qd rfl rfl rfl (r_move (v := y) rfl) ?_
  refine qd rfl rfl rfl (run_len Tryd.underlying38 (v := y) rfl hy) ?_
  refine qd rfl rfl rfl (r_lss rfl rfl) ?_
  refine qe ?_
  refine s_then ?_
  refine c_ifd (p := ((i2 : Int) : Int) < (ys.length : Int)) rfl rfl (fun h86 => ?_) (fun h86 => ?_)
  · skip
    have hki := hk2 i2 (by omega)
    have hbk := hok.born (ys.getD i2 0).toNat (by omega)
    refine wp_skip ?_
    refine s_then ?_
    refine s_seq ?_
    refine s_blk ?_
    refine s_seq ?_
    refine c_reg ?_
    refine qd rfl rfl rfl (r_move (v := ro) rfl) ?_
    refine qd rfl rfl rfl (r_move (v := y) rfl) ?_
    refine qd rfl rfl rfl (r_move (v := (.int .i64 (i2 : Int))) rfl) ?_
    refine qd rfl rfl rfl (run_idx Tryd.underlying38 sz3 (v := y) rfl rfl hy (by omega) (by omega)) ?_
    refine qd rfl rfl rfl (run_load_int (r := ys.getD i2 0) rfl ag3 (z := (i2 : Int)) rfl hy (Pins.of_le hX73.pins (Pin.le_trans (Pin.le_trans (Pin.le_trans hle38 hlek31) hle77) hlek70)) (by omega) (by omega)) ?_
    refine q1 rfl rfl rfl (o_call (vs := [ro, (.int .i64 (ys.getD i2 0))]) Tryd.func71 nm71 rfl rfl rfl ?_)
    refine Calls.mono (l1Put_spec hX73.pins hr85 (by omega)) ?_
    rintro _ w89 ⟨u87, G88, rfl, hr90, hx91⟩
    refine ⟨_, rfl, ?_⟩
    have hX92 := hX73.tr hx91
    have ho93 := hw82.ext hx91
    have ho94 := hw83.ext hx91
    have hb95 := hw84.ext hx91
    refine qd rfl rfl rfl (r_assign (v := u87) rfl) ?_
    refine qe ?_
    refine s_then ?_
    have hq96 := Gadd.pins hX92.pins bv
    have hr97 := ho94.read
    refine c_draw (S := fun wz => BxR wz b [bu, bv] ∧ Pins G88 wz ∧ Pins (Gadd G88 w89 bv) wz) (last := 14) (by kernel_rfl) rfl ?_
    have hl98 : Below w89.heap.size w89 w89.drew := (Below.refl _ _).drew
    have hp99 := hX92.pins.below hl98
    have hX100 := hX92.step hp99 hl98
    have ho101 := ho93.below hl98
    have ho102 := ho94.below hl98
    have hb103 := hb95.below hl98
    have hq104 := hq96.below hl98
    refine dr_take (i := 0) rfl rfl rfl (want_none rfl _) (by kernel_rfl) (fun _ _ => r_move (v := (.int .i64 bm)) rfl) ⟨hb103.reads, hX100.pins, hq104⟩ ?_
    refine dr_take (i := 1) rfl rfl rfl (want_none rfl _) (by kernel_rfl) (fun _ _ => r_move (v := (.pointer (some ⟨b, 0, none⟩))) rfl) ⟨hb103.reads, hX100.pins, hq104⟩ ?_
    refine dr_take (i := 2) rfl rfl rfl (want_none rfl _) (by kernel_rfl) (fun _ _ => r_nil rfl) ⟨hb103.reads, hX100.pins, hq104⟩ ?_
    refine dr_take (i := 3) rfl rfl rfl (want_none rfl _) (by kernel_rfl) (fun _ _ => r_fldp (k := 1) rfl Tryd.underlying71 rfl nz38 rfl) ⟨hb103.reads, hX100.pins, hq104⟩ ?_
    refine dr_take (i := 4) rfl rfl rfl (want_none rfl _) (by kernel_rfl) (fun _ hS => r_ldp1 (u := bv) ag38 rfl (hS.1 1 _ rfl)) ⟨hb103.reads, hX100.pins, hq104⟩ ?_
    refine dr_take (i := 5) rfl rfl rfl (want_none rfl _) (by kernel_rfl) (fun _ _ => r_move (v := y) rfl) ⟨hb103.reads, hX100.pins, hq104⟩ ?_
    refine dr_take (i := 6) rfl rfl rfl (want_none rfl _) (by kernel_rfl) (fun _ _ => r_move (v := (.int .i64 (i2 : Int))) rfl) ⟨hb103.reads, hX100.pins, hq104⟩ ?_
    refine dr_take (i := 7) rfl rfl rfl (want_none rfl _) (by kernel_rfl) (fun _ _ => run_idx Tryd.underlying38 sz3 (v := y) rfl rfl hy (by omega) (by omega)) ⟨hb103.reads, hX100.pins, hq104⟩ ?_
    refine dr_take (i := 8) rfl rfl rfl (want_none rfl _) (by kernel_rfl) (fun _ hS => run_load_int (r := ys.getD i2 0) rfl ag3 (z := (i2 : Int)) rfl hy (Pins.of_le hS.2.1 (Pin.le_trans (Pin.le_trans (Pin.le_trans (Pin.le_trans hle38 hlek31) hle77) hlek70) hx91.le)) (by omega) (by omega)) ⟨hb103.reads, hX100.pins, hq104⟩ ?_
    refine dr_take (i := 9) rfl rfl rfl (want_none rfl _) (by kernel_rfl) (fun _ _ => run_idx Tryd.underlying38 sz3 (v := bv) rfl rfl hr97 (by omega) (by omega)) ⟨hb103.reads, hX100.pins, hq104⟩ ?_
    refine dr_take (i := 10) rfl rfl rfl (want_none rfl _) (by kernel_rfl) (fun _ hS => run_load_int (r := bs.getD (ys.getD i2 0).toNat 0) rfl ag3 (z := (ys.getD i2 0)) rfl hr97 hS.2.2 (by omega) (by omega)) ⟨hb103.reads, hX100.pins, hq104⟩ ?_
    refine dr_take (i := 11) rfl rfl rfl (want_none rfl _) (by kernel_rfl) (fun _ _ => r_add rfl rfl (by omega)) ⟨hb103.reads, hX100.pins, hq104⟩ ?_
    refine dr_one (i := 12) (by kernel_rfl) (drOp1 (i := 12) rfl rfl rfl (want_none rfl _) (o_call (vs := [(.int .i64 bm), (.int .i64 ((bs.getD (ys.getD i2 0).toNat 0) + 1))]) Tryd.func93 nm93 rfl rfl rfl ?_))
    refine Calls.mono (l1Most_spec hX100.pins) ?_
    rintro _ _ ⟨rfl, rfl⟩
    refine ⟨_, rfl, ?_⟩
    refine ⟨fun _ => ⟨hb103.reads, hX100.pins, hq104⟩, ?_⟩
    refine dr_take (i := 13) rfl rfl rfl (want_none rfl _) (by kernel_rfl) (fun _ _ => r_assign (v := (.int .i64 (max bm ((bs.getD (ys.getD i2 0).toNat 0) + 1)))) rfl) ⟨hb103.reads, hX100.pins, hq104⟩ ?_
    refine dr_end (by kernel_rfl) ?_
    refine s_blkN ?_
    refine s_then ?_
    refine c_reg ?_
    refine qd rfl rfl rfl (r_move (v := (.int .i64 (i2 : Int))) rfl) ?_
    refine qd rfl rfl rfl (r_add rfl rfl (by omega)) ?_
    refine qd rfl rfl rfl (r_assign (v := (.int .i64 ((i2 : Int) + 1))) rfl) ?_
    refine qe ?_
    refine s_lopN ?_
    refine ⟨_, ?_, _, rfl, _, i2 + 1, u87, putL rs (ys.getD i2 0), max bm ((bs.getD (ys.getD i2 0).toNat 0) + 1), G88, (packS (x := 11) (packS (x := 9) (packS (x := 8) (packS (x := 7) (packS (x := 6) (packS (x := 2) (pack1 (x := 0) rfl) rfl) rfl) rfl) rfl) rfl) rfl), rfl, hX100, (Pin.le_trans hlek70 hx91.le), (by omega), (by rw [hrrs, sort_next (by omega)]), (Nat.le_trans putL_length (by omega)), (by rw [hbbm, born_next (by omega)]), (by omega), ho101, ho102, hb103, hr90⟩
    omega
  refine wp_exit ?_
  refine s_thenE ?_
  refine s_lopE ?_
  refine s_blkE ?_
  refine s_then ?_
  refine s_seq ?_
  refine s_seq ?_
  refine c_reg ?_
  rw [take_all (by omega)] at hrls hrrs hbbn hbbm
  have e1 : putNd xs ys = ⟨ls, rs⟩ := by unfold putNd; rw [hrls, hrrs]
  have e2 : putBorn bs xs ys = bm := by unfold putBorn; rw [← hbbn, ← hbbm]
  refine qd rfl rfl rfl (r_assign (v := (.int .i64 0)) rfl) ?_
  refine qe ?_
  refine s_then ?_
  refine s_blk ?_
  have e0 : True := trivial
  refine s_loop (fun (k : Nat) (en : Nat → Value) (W : World) => ∃ (env1 : Nat → Value) (q : Nat), en = (upd (upd (upd (upd (upd env1 0 (.pointer (some ⟨b, 0, none⟩))) 7 lo) 8 ro) 9 (.int .i64 bm)) 12 (.int .i64 (q : Int))) ∧ k = ns.length - q ∧ Ext (inS b bu bv) G w GLi2 W ∧ (q ≤ ns.length) ∧ (∀ i, i < q → NotAt ns bs ⟨ls, rs⟩ bm i) ∧ (Own eNode 69 GLi2 W 0 bu (ns)) ∧ (Own eInt 3 GLi2 W 0 bv (bs)) ∧ (Bx GLi2 W b [bu, bv])) _ ⟨_, 0, (packS (x := 12) (packS (x := 9) (packS (x := 8) (packS (x := 7) (pack1 (x := 0) rfl) rfl) rfl) rfl) rfl), rfl, hX73, Nat.zero_le _, (fun i hi => absurd hi (Nat.not_lt_zero i)), hw82, hw83, hw84⟩ ?_
  rintro k105 _ w106 ⟨env1, q, rfl, hk107, hX108, hk3, hp, hw109, hw110, hw111⟩
  refine s_seq ?_
  refine s_seq ?_
  refine c_reg ?_
  refine qd rfl rfl rfl (r_move (v := (.int .i64 (q : Int))) rfl) ?_
  refine qd rfl rfl rfl (r_move (v := (.pointer (some ⟨b, 0, none⟩))) rfl) ?_
  refine qd rfl rfl rfl (r_nil rfl) ?_
  refine qd rfl rfl rfl (r_fldp (k := 0) rfl Tryd.underlying71 rfl nz28 rfl) ?_
  refine qd rfl rfl rfl (r_ldp1 (u := bu) ag28 rfl (hw111.cell (o := 0) rfl)) ?_
  refine qd rfl rfl rfl (run_len Tryd.underlying28 (v := bu) rfl hw109.read) ?_
  refine qd rfl rfl rfl (r_lss rfl rfl) ?_
  refine qe ?_
  refine s_then ?_
  refine c_ifd (p := ((q : Int) : Int) < (ns.length : Int)) rfl rfl (fun h112 => ?_) (fun h112 => ?_)
  · skip
    refine wp_skip ?_
    refine s_then ?_
    refine s_seq ?_
    refine s_blk ?_
    refine s_seq ?_
    refine c_reg ?_
    refine qd rfl rfl rfl (r_move (v := (.pointer (some ⟨b, 0, none⟩))) rfl) ?_
    refine qd rfl rfl rfl (r_nil rfl) ?_
    refine qd rfl rfl rfl (r_fldp (k := 1) rfl Tryd.underlying71 rfl nz38 rfl) ?_
    refine qd rfl rfl rfl (r_ldp1 (u := bv) ag38 rfl (hw111.cell (o := 1) rfl)) ?_
    refine qd rfl rfl rfl (r_move (v := (.int .i64 (q : Int))) rfl) ?_
    refine qd rfl rfl rfl (run_idx Tryd.underlying38 sz3 (v := bv) rfl rfl hw110.read (by omega) (by omega)) ?_
    refine qd rfl rfl rfl (run_load_int (r := bs.getD q 0) rfl ag3 (z := (q : Int)) rfl hw110.read (Gadd.pins hX108.pins bv) (by omega) (by omega)) ?_
    refine qd rfl rfl rfl (r_move (v := (.int .i64 bm)) rfl) ?_
    refine qd rfl rfl rfl (r_eql rfl rfl) ?_
    refine qd rfl rfl rfl (r_move (v := (.bool (decide ((bs.getD q 0 : Int) = bm)))) rfl) ?_
    refine qbd (p := (bs.getD q 0 : Int) = bm) (t := 83) rfl (fun h113 => ?_) (fun h113 => ?_)
    · skip
      refine qdg rfl rfl rfl rfl rfl rfl (r_move (v := (.pointer (some ⟨b, 0, none⟩))) rfl) ?_
      refine qdg rfl rfl rfl rfl rfl rfl (r_nil rfl) ?_
      refine qdg rfl rfl rfl rfl rfl rfl (r_fldp (k := 0) rfl Tryd.underlying71 rfl nz28 rfl) ?_
      refine qdg rfl rfl rfl rfl rfl rfl (r_ldp1 (u := bu) ag28 rfl (hw111.cell (o := 0) rfl)) ?_
      refine qdg rfl rfl rfl rfl rfl rfl (r_move (v := (.int .i64 (q : Int))) rfl) ?_
      refine qdg rfl rfl rfl rfl rfl rfl (run_idx Tryd.underlying28 sz69 (v := bu) rfl rfl hw109.read (by omega) (by omega)) ?_
      refine qdg rfl rfl rfl rfl rfl rfl (run_fld (off := 0) Tryd.underlying69 rfl rfl nz38 (z := (q : Int)) (k := 0) rfl hw109.read (by omega) (by omega)) ?_
      obtain ⟨u114, hr115, hl116⟩ := nm_nl (hw109.at (z := (q : Int)) (by omega) (by omega)) (j := q) rfl
      have hm117 := hr115.max
      refine qdg rfl rfl rfl rfl rfl rfl (hl116 ag38 rfl (Gadd.pins hX108.pins bu)) ?_
      refine qdg rfl rfl rfl rfl rfl rfl (r_move (v := lo) rfl) ?_
      refine q1g rfl rfl rfl rfl rfl rfl (o_call (vs := [u114, lo]) Tryd.func78 nm78 rfl rfl rfl ?_)
      refine Calls.mono (l1Same_spec hX108.pins hr115 (hr48.mono (Pin.le_trans hle77 hlek70))) ?_
      rintro _ w118 ⟨rfl, hx119⟩
      refine ⟨_, rfl, ?_⟩
      have hX120 := hX108.step hx119.pins hx119.below
      have ho121 := hw109.below hx119.below
      have ho122 := hw110.below hx119.below
      have hb123 := hw111.below hx119.below
      refine qd rfl rfl rfl (r_pickT (v := (.bool (decide (((ns.getD q default).l) = ls)))) rfl rfl) ?_
      refine qd rfl rfl rfl (r_move (v := (.bool (decide (((ns.getD q default).l) = ls)))) rfl) ?_
      refine qbd (p := (((ns.getD q default).l) = ls)) (t := 95) rfl (fun h124 => ?_) (fun h124 => ?_)
      · skip
        refine qdg rfl rfl rfl rfl rfl rfl (r_move (v := (.pointer (some ⟨b, 0, none⟩))) rfl) ?_
        refine qdg rfl rfl rfl rfl rfl rfl (r_nil rfl) ?_
        refine qdg rfl rfl rfl rfl rfl rfl (r_fldp (k := 0) rfl Tryd.underlying71 rfl nz28 rfl) ?_
        refine qdg rfl rfl rfl rfl rfl rfl (r_ldp1 (u := bu) ag28 rfl (hb123.cell (o := 0) rfl)) ?_
        refine qdg rfl rfl rfl rfl rfl rfl (r_move (v := (.int .i64 (q : Int))) rfl) ?_
        refine qdg rfl rfl rfl rfl rfl rfl (run_idx Tryd.underlying28 sz69 (v := bu) rfl rfl ho121.read (by omega) (by omega)) ?_
        refine qdg rfl rfl rfl rfl rfl rfl (run_fld (off := 1) Tryd.underlying69 rfl rfl nz38 (z := (q : Int)) (k := 0) rfl ho121.read (by omega) (by omega)) ?_
        obtain ⟨u125, hr126, hl127⟩ := nm_nr (ho121.at (z := (q : Int)) (by omega) (by omega)) (j := q) rfl
        have hm128 := hr126.max
        refine qdg rfl rfl rfl rfl rfl rfl (hl127 ag38 rfl (Gadd.pins hX120.pins bu)) ?_
        refine qdg rfl rfl rfl rfl rfl rfl (r_move (v := ro) rfl) ?_
        refine q1g rfl rfl rfl rfl rfl rfl (o_call (vs := [u125, ro]) Tryd.func78 nm78 rfl rfl rfl ?_)
        refine Calls.mono (l1Same_spec hX120.pins hr126 hr85) ?_
        rintro _ w129 ⟨rfl, hx130⟩
        refine ⟨_, rfl, ?_⟩
        have hX131 := hX120.step hx130.pins hx130.below
        have ho132 := ho121.below hx130.below
        have ho133 := ho122.below hx130.below
        have hb134 := hb123.below hx130.below
        refine qd rfl rfl rfl (r_pickT (v := (.bool (decide (((ns.getD q default).r) = rs)))) rfl rfl) ?_
        refine qe ?_
        refine s_then ?_
        refine c_ifd (p := (((ns.getD q default).r) = rs)) rfl rfl (fun h135 => ?_) (fun h135 => ?_)
        · skip
          refine s_seq ?_
          refine c_reg ?_
          refine qd rfl rfl rfl (r_move (v := (.int .i64 (q : Int))) rfl) ?_
          refine qd rfl rfl rfl (r_assign (v := (.int .i64 (q : Int))) rfl) ?_
          refine qe ?_
          refine s_then ?_
          refine wp_ret ?_
          refine s_ret ?_
          refine c_ret1 (v := (.int .i64 (q : Int))) rfl rfl rfl ?_
          have hf : findK ns bs (putNd xs ys) (putBorn bs xs ys) = some q := by rw [e1, e2]; exact find_some (by omega) hp ⟨h113, h124, h135⟩
          have eN : putN ns bs xs ys = ns := by unfold putN; rw [hf]
          have eB : putB ns bs xs ys = bs := by unfold putB; rw [hf]
          refine ⟨bu, bv, _, congrArg (fun z => Ending.returned (Value.int .i64 z)) (by unfold putK; rw [hf]), ?_, hX131, hlou, hlov⟩
          rw [eN, eB]
          exact ⟨hb134, ho132, ho133, habu, habv, hauv⟩
        refine wp_skip ?_
        refine s_blkN ?_
        refine s_then ?_
        refine c_reg ?_
        refine qd rfl rfl rfl (r_move (v := (.int .i64 (q : Int))) rfl) ?_
        refine qd rfl rfl rfl (r_add rfl rfl (by omega)) ?_
        refine qd rfl rfl rfl (r_assign (v := (.int .i64 ((q : Int) + 1))) rfl) ?_
        refine qe ?_
        refine s_lopN ?_
        refine ⟨_, ?_, _, rfl, _, q + 1, (packS (x := 12) (packS (x := 9) (packS (x := 8) (packS (x := 7) (pack1 (x := 0) rfl) rfl) rfl) rfl) rfl), rfl, hX131, (by omega), (fun i hi => if h3 : i = q then h3 ▸ (fun g => absurd g.2.2 h135) else hp i (by omega)), ho132, ho133, hb134⟩
        omega
      refine qs rfl rfl rfl rfl rfl rfl ?_
      refine qs rfl rfl rfl rfl rfl rfl ?_
      refine qs rfl rfl rfl rfl rfl rfl ?_
      refine qs rfl rfl rfl rfl rfl rfl ?_
      refine qs rfl rfl rfl rfl rfl rfl ?_
      refine qs rfl rfl rfl rfl rfl rfl ?_
      refine qs rfl rfl rfl rfl rfl rfl ?_
      refine qs rfl rfl rfl rfl rfl rfl ?_
      refine qs rfl rfl rfl rfl rfl rfl ?_
      refine qs rfl rfl rfl rfl rfl rfl ?_
      refine qd rfl rfl rfl (r_pickF (v := (.bool false)) rfl rfl) ?_
      refine qe ?_
      refine s_then ?_
      refine c_ifF rfl rfl ?_
      refine wp_skip ?_
      refine s_blkN ?_
      refine s_then ?_
      refine c_reg ?_
      refine qd rfl rfl rfl (r_move (v := (.int .i64 (q : Int))) rfl) ?_
      refine qd rfl rfl rfl (r_add rfl rfl (by omega)) ?_
      refine qd rfl rfl rfl (r_assign (v := (.int .i64 ((q : Int) + 1))) rfl) ?_
      refine qe ?_
      refine s_lopN ?_
      refine ⟨_, ?_, _, rfl, _, q + 1, (packS (x := 12) (packS (x := 9) (packS (x := 8) (packS (x := 7) (pack1 (x := 0) rfl) rfl) rfl) rfl) rfl), rfl, hX120, (by omega), (fun i hi => if h3 : i = q then h3 ▸ (fun g => absurd g.2.1 h124) else hp i (by omega)), ho121, ho122, hb123⟩
      omega
    refine qs rfl rfl rfl rfl rfl rfl ?_
    refine qs rfl rfl rfl rfl rfl rfl ?_
    refine qs rfl rfl rfl rfl rfl rfl ?_
    refine qs rfl rfl rfl rfl rfl rfl ?_
    refine qs rfl rfl rfl rfl rfl rfl ?_
    refine qs rfl rfl rfl rfl rfl rfl ?_
    refine qs rfl rfl rfl rfl rfl rfl ?_
    refine qs rfl rfl rfl rfl rfl rfl ?_
    refine qs rfl rfl rfl rfl rfl rfl ?_
    refine qs rfl rfl rfl rfl rfl rfl ?_
    refine qd rfl rfl rfl (r_pickF (v := (.bool false)) rfl rfl) ?_
    refine qd rfl rfl rfl (r_move (v := (.bool false)) rfl) ?_
    refine qs rfl rfl rfl rfl rfl rfl ?_
    refine qs rfl rfl rfl rfl rfl rfl ?_
    refine qs rfl rfl rfl rfl rfl rfl ?_
    refine qs rfl rfl rfl rfl rfl rfl ?_
    refine qs rfl rfl rfl rfl rfl rfl ?_
    refine qs rfl rfl rfl rfl rfl rfl ?_
    refine qs rfl rfl rfl rfl rfl rfl ?_
    refine qs rfl rfl rfl rfl rfl rfl ?_
    refine qs rfl rfl rfl rfl rfl rfl ?_
    refine qs rfl rfl rfl rfl rfl rfl ?_
    refine qd rfl rfl rfl (r_pickF (v := (.bool false)) rfl rfl) ?_
    refine qe ?_
    refine s_then ?_
    refine c_ifF rfl rfl ?_
    refine wp_skip ?_
    refine s_blkN ?_
    refine s_then ?_
    refine c_reg ?_
    refine qd rfl rfl rfl (r_move (v := (.int .i64 (q : Int))) rfl) ?_
    refine qd rfl rfl rfl (r_add rfl rfl (by omega)) ?_
    refine qd rfl rfl rfl (r_assign (v := (.int .i64 ((q : Int) + 1))) rfl) ?_
    refine qe ?_
    refine s_lopN ?_
    refine ⟨_, ?_, _, rfl, _, q + 1, (packS (x := 12) (packS (x := 9) (packS (x := 8) (packS (x := 7) (pack1 (x := 0) rfl) rfl) rfl) rfl) rfl), rfl, hX108, (by omega), (fun i hi => if h3 : i = q then h3 ▸ (fun g => absurd g.1 h113) else hp i (by omega)), hw109, hw110, hw111⟩
    omega
  refine wp_exit ?_
  refine s_thenE ?_
  refine s_lopE ?_
  refine s_blkE ?_
  refine s_then ?_
  refine s_seq ?_
  refine c_reg ?_
  refine qd rfl rfl rfl (r_move (v := (.pointer (some ⟨b, 0, none⟩))) rfl) ?_
  refine qd rfl rfl rfl (r_move (v := (.pointer (some ⟨b, 0, none⟩))) rfl) ?_
  refine qd rfl rfl rfl (r_nil rfl) ?_
  refine qd rfl rfl rfl (r_fldp (k := 0) rfl Tryd.underlying71 rfl nz28 rfl) ?_
  refine qd rfl rfl rfl (r_ldp1 (u := bu) ag28 rfl (hw111.cell (o := 0) rfl)) ?_
  refine qd rfl rfl rfl (r_move (v := lo) rfl) ?_
  refine qd rfl rfl rfl (r_move (v := ro) rfl) ?_
  refine qd rfl rfl rfl (r_build [(.slice none 0 0), (.slice none 0 0)] [lo, ro] [(0, lo, [lo]), (1, ro, [ro])] Tryd.underlying69 zr69 rfl pl69 rfl (List.forall_mem_cons.2 ⟨(cells_one hr48.one), (List.forall_mem_cons.2 ⟨(cells_one hr85.one), (fun _ h => by cases h)⟩)⟩) rfl) ?_
  refine q1 rfl rfl rfl (o_build1 (E := eNode) (e := 69) [lo, ro] (⟨ls, rs⟩ : Nd) Tryd.underlying28 sz69 zr69 ⟨_, _, rfl, (hr48.mono (Pin.le_trans hle77 hlek70)), hr85⟩ rfl (by decide) hX108.pins (fun u136 w137 ho138 hp139 hl140 hk141 => ?_))
  have hX142 := hX108.step hp139 hl140
  have ho143 := hw109.below hl140
  have ho144 := hw110.below hl140
  have hb145 := hw111.below hl140
  have ha146 : Apart u136.ownBlock bu.ownBlock := new_ne_own hk141 hw109.lt
  have ho149 : Own eNode 69 GLi2 w137 w.heap.size u136 ([(⟨ls, rs⟩ : Nd)]) := ho138.weaken hX108.size
  refine q1 rfl rfl rfl (o_append (E := eNode) (v := bu) (u := u136) 48 Tryd.underlying28 ap69 (by decide) rfl rfl hX142.pins ho143 ho149.src (by first | omega | (rw [List.nil_append]; omega) | (rw [List.length_nil]; omega) | (rw [List.length_append]; omega) | (simp; done) | (simp; omega) | (simp only [List.length_append, List.length_cons, List.length_nil]; omega)) (by first | omega | (rw [List.nil_append]; omega) | (rw [List.length_nil]; omega) | (rw [List.length_append]; omega) | (simp; done) | (simp; omega) | (simp only [List.length_append, List.length_cons, List.length_nil]; omega)) (Nat.zero_le _) (fun u150 w151 ho152 hp153 hg154 hw155 => ?_))
  have hX156 := hX142.write hp153 hg154 (hlou)
  have ho157 := ho144.keptA hg154 hauv.symm
  have hb159 := hb145.keptA hg154 habu
  have ha160 : Apart bv.ownBlock u150.ownBlock := app_ne_own hauv.symm hw155 ho144.lt
  have ha161 : Apart u136.ownBlock u150.ownBlock := app_ne_own ha146 hw155 ho149.lt
  have ha162 : Apart (some b) u150.ownBlock := app_ne_box habu hw155 hb145.lt
  have hlo163 : Lo w (inS b bu bv) u150.ownBlock := lo_app hlou hw155 hX142.size
  have hm164 : (ns ++ ([(⟨ls, rs⟩ : Nd)])).length = ns.length + 1 := List.length_append
  refine qd rfl rfl rfl (r_nil rfl) ?_
  refine qd rfl rfl rfl (r_fldp (k := 0) rfl Tryd.underlying71 rfl nz28 rfl) ?_
  refine q0 rfl rfl rfl (o_stp (cs' := [u150, bv]) (us := [u150]) (v := u150) sz28 rfl rfl (cells1 ho152.one) (ones1 ho152.one) hX156.pins hb159 (Nat.le_of_ble_eq_true rfl) rfl (fun w165 hb166 hp167 hg168 hz169 => ?_))
  have hX170 := hX156.write hp167 hg168 (hlob)
  have ho171 := ho157.keptA hg168 habv.symm
  have ho172 := ho152.keptA hg168 ha162.symm
  refine qe ?_
  refine s_then ?_
  refine s_seq ?_
  refine c_reg ?_
  refine qd rfl rfl rfl (r_move (v := (.pointer (some ⟨b, 0, none⟩))) rfl) ?_
  refine qd rfl rfl rfl (r_move (v := (.pointer (some ⟨b, 0, none⟩))) rfl) ?_
  refine qd rfl rfl rfl (r_nil rfl) ?_
  refine qd rfl rfl rfl (r_fldp (k := 1) rfl Tryd.underlying71 rfl nz38 rfl) ?_
  refine qd rfl rfl rfl (r_ldp1 (u := bv) ag38 rfl (hb166.cell (o := 1) rfl)) ?_
  refine qd rfl rfl rfl (r_move (v := (.int .i64 bm)) rfl) ?_
  refine q1 rfl rfl rfl (o_buildF (E := eInt) (e := 3) [(.int .i64 bm)] [bm] Tryd.underlying38 sz3 zr3 (by exact reps1 (by rfl)) (ones1 (by rfl)) rfl rfl rfl rfl (by decide) hX170.pins (fun u173 w174 ho175 hp176 hl177 hk178 => ?_))
  have hX179 := hX170.step hp176 hl177
  have ho180 := ho171.below hl177
  have ho181 := ho172.below hl177
  have hb182 := hb166.below hl177
  have ha183 : Apart u173.ownBlock bv.ownBlock := new_ne_own hk178 ho171.lt
  have ho186 : Own eInt 3 GLi2 w174 w.heap.size u173 ([bm]) := ho175.weaken hX170.size
  refine q1 rfl rfl rfl (o_append (E := eInt) (v := bv) (u := u173) 8 Tryd.underlying38 ap3 (by decide) rfl rfl hX179.pins ho180 ho186.src (by first | omega | (rw [List.nil_append]; omega) | (rw [List.length_nil]; omega) | (rw [List.length_append]; omega) | (simp; done) | (simp; omega) | (simp only [List.length_append, List.length_cons, List.length_nil]; omega)) (by first | omega | (rw [List.nil_append]; omega) | (rw [List.length_nil]; omega) | (rw [List.length_append]; omega) | (simp; done) | (simp; omega) | (simp only [List.length_append, List.length_cons, List.length_nil]; omega)) (Nat.zero_le _) (fun u187 w188 ho189 hp190 hg191 hw192 => ?_))
  have hX193 := hX179.write hp190 hg191 (hlov)
  have ho194 := ho181.keptA hg191 ha160.symm
  have hb196 := hb182.keptA hg191 habv
  have ha197 : Apart u150.ownBlock u187.ownBlock := app_ne_own ha160.symm hw192 ho181.lt
  have ha198 : Apart u173.ownBlock u187.ownBlock := app_ne_own ha183 hw192 ho186.lt
  have ha199 : Apart (some b) u187.ownBlock := app_ne_box habv hw192 hb182.lt
  have hlo200 : Lo w (inS b bu bv) u187.ownBlock := lo_app hlov hw192 hX179.size
  have hm201 : (bs ++ ([bm])).length = bs.length + 1 := List.length_append
  refine qd rfl rfl rfl (r_nil rfl) ?_
  refine qd rfl rfl rfl (r_fldp (k := 1) rfl Tryd.underlying71 rfl nz38 rfl) ?_
  refine q0 rfl rfl rfl (o_stp (cs' := [u150, u187]) (us := [u187]) (v := u187) sz38 rfl rfl (cells1 ho189.one) (ones1 ho189.one) hX193.pins hb196 (Nat.le_of_ble_eq_true rfl) rfl (fun w202 hb203 hp204 hg205 hz206 => ?_))
  have hX207 := hX193.write hp204 hg205 (hlob)
  have ho208 := ho194.keptA hg205 ha162.symm
  have ho209 := ho189.keptA hg205 ha199.symm
  refine qe ?_
  refine s_then ?_
  refine s_seq ?_
  refine c_reg ?_
  refine qd rfl rfl rfl (r_move (v := (.pointer (some ⟨b, 0, none⟩))) rfl) ?_
  refine qd rfl rfl rfl (r_nil rfl) ?_
  refine qd rfl rfl rfl (r_fldp (k := 0) rfl Tryd.underlying71 rfl nz28 rfl) ?_
  refine qd rfl rfl rfl (r_ldp1 (u := u150) ag28 rfl (hb203.cell (o := 0) rfl)) ?_
  refine qd rfl rfl rfl (run_len Tryd.underlying28 (v := u150) rfl ho208.read) ?_
  refine qd rfl rfl rfl (r_sub rfl rfl (by omega)) ?_
  refine qd rfl rfl rfl (r_assign (v := (.int .i64 (((ns ++ ([(⟨ls, rs⟩ : Nd)])).length : Int) - 1))) rfl) ?_
  refine qe ?_
  refine s_then ?_
  refine wp_ret ?_
  refine s_ret ?_
  refine c_ret1 (v := (.int .i64 (((ns ++ ([(⟨ls, rs⟩ : Nd)])).length : Int) - 1))) rfl rfl rfl ?_
  have hf : findK ns bs (putNd xs ys) (putBorn bs xs ys) = none := by rw [e1, e2]; exact find_none (by omega) hp
  have eN : putN ns bs xs ys = ns ++ [⟨ls, rs⟩] := by unfold putN; rw [hf, e1]
  have eB : putB ns bs xs ys = bs ++ [bm] := by unfold putB; rw [hf, e2]
  refine ⟨u150, u187, _, congrArg (fun z => Ending.returned (Value.int .i64 z)) (by unfold putK; rw [hf]; simp), ?_, hX207, hlo163, hlo200⟩
  rw [eN, eB]
  exact ⟨hb203, ho208, ho209, ha162, ha199, ha197⟩

end D1
end Go.Proofs.YtndhhpaldhlghaaDoor
