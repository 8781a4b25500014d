/- Walks, printed by a program (walkgen.py) from the spec specs_c. -/
import Derived.Test.YtndhhpaldhlghaaDoorChecked
import Derived.Test.YtndhhpaldhlghaaDoorRow
import Derived.Test.YtndhhpaldhlghaaDoorBook
import Derived.Test.YtndhhpaldhlghaaDoorB1
set_option maxRecDepth 20000
set_option maxHeartbeats 2000000
namespace Go.Proofs.YtndhhpaldhlghaaDoor
namespace C1
open Go.RowKit Go.GL Go.Proofs
open Go.Proofs.YtndhhpaldhlghaaDoor.B1
theorem ag28 : (Tryd.prog.underlying 28).map aggD = some false := by kernel_rfl
theorem ag3 : (Tryd.prog.underlying 3).map aggD = some false := by kernel_rfl
theorem ag38 : (Tryd.prog.underlying 38).map aggD = some false := by kernel_rfl
theorem ap3 : (Tryd.prog.info? 3).map (fun i => (i.size, i.bytes, (i.zero.map (·.cells.size)))) = some (1, 8, some 1) := by kernel_rfl
theorem nm71 : (Tryd.f71.name == "runtime.NumGoroutine") = false := by kernel_rfl
theorem nm77 : (Tryd.f77.name == "runtime.NumGoroutine") = false := by kernel_rfl
theorem nz28 : (Tryd.prog.info? 28).map (·.size == 0) = some false := by kernel_rfl
theorem nz38 : (Tryd.prog.info? 38).map (·.size == 0) = some false := by kernel_rfl
theorem sz3 : (Tryd.prog.info? 3).map (·.size) = some 1 := by kernel_rfl
theorem sz69 : (Tryd.prog.info? 69).map (·.size) = some 2 := by kernel_rfl
theorem zr3 : (Tryd.prog.info? 3).bind (·.zero) = some (.int .i64 0) := by kernel_rfl

theorem l1In_spec {w : World} {G : Pin} {x a b : Int} (hP : Pins G w) :
    Calls Tryd.prog 77 [(.int .i64 x), (.int .i64 a), (.int .i64 b)].toArray w fun e w' => e = .returned (.bool (decide (a ≤ x ∧ x ≤ b))) ∧ w' = w := by
  refine s_enter (n := 15) Tryd.func77 Tryd.ntmps77 rfl rfl ?_
  have hX0 : Ext noS G w G w := Ext.refl hP
  refine s_seq ?_
  refine c_reg ?_
  refine qd rfl rfl rfl (r_assign (v := (.bool false)) rfl) ?_
  refine qe ?_
  refine s_then ?_
  refine s_seq ?_
  refine c_reg ?_
  refine qd rfl rfl rfl (r_move (v := (.int .i64 x)) rfl) ?_
  refine qd rfl rfl rfl (r_move (v := (.int .i64 a)) rfl) ?_
  refine qd rfl rfl rfl (r_geq rfl rfl) ?_
  refine qd rfl rfl rfl (r_move (v := (.bool (decide ((a : Int) ≤ x)))) rfl) ?_
  refine qbd (p := (a : Int) ≤ x) (t := 10) rfl (fun h1 => ?_) (fun h1 => ?_)
  · skip
    refine qdg rfl rfl rfl rfl rfl rfl (r_move (v := (.int .i64 x)) rfl) ?_
    refine qdg rfl rfl rfl rfl rfl rfl (r_move (v := (.int .i64 b)) rfl) ?_
    refine qdg rfl rfl rfl rfl rfl rfl (r_leq rfl rfl) ?_
    refine qd rfl rfl rfl (r_pickT (v := (.bool (decide ((x : Int) ≤ b)))) rfl rfl) ?_
    refine qd rfl rfl rfl (r_assign (v := (.bool (decide ((x : Int) ≤ b)))) rfl) ?_
    refine qe ?_
    refine s_then ?_
    refine wp_ret ?_
    refine s_ret ?_
    refine c_ret1 (v := (.bool (decide ((x : Int) ≤ b)))) rfl rfl rfl ?_
    exact ⟨congrArg (fun z => Ending.returned (Value.bool z)) (decide_eq_decide.2 (by omega)), rfl⟩
  refine qs rfl rfl rfl rfl rfl rfl ?_
  refine qs rfl rfl rfl rfl rfl rfl ?_
  refine qs rfl rfl rfl rfl rfl rfl ?_
  refine qd rfl rfl rfl (r_pickF (v := (.bool false)) rfl rfl) ?_
  refine qd rfl rfl rfl (r_assign (v := (.bool false)) rfl) ?_
  refine qe ?_
  refine s_then ?_
  refine wp_ret ?_
  refine s_ret ?_
  refine c_ret1 (v := (.bool false)) rfl rfl rfl ?_
  exact ⟨congrArg (fun z => Ending.returned (Value.bool z)) ((decide_eq_false (by omega)).symm), rfl⟩

theorem l1Most_spec {w : World} {G : Pin} {x y : Int} (hP : Pins G w) :
    Calls Tryd.prog 93 [(.int .i64 x), (.int .i64 y)].toArray w fun e w' => e = .returned (.int .i64 (max x y)) ∧ w' = w := by
  refine s_enter (n := 10) Tryd.func93 Tryd.ntmps93 rfl rfl ?_
  have hX0 : Ext noS G w G w := Ext.refl hP
  refine s_seq ?_
  refine c_reg ?_
  refine qd rfl rfl rfl (r_assign (v := (.int .i64 0)) rfl) ?_
  refine qe ?_
  refine s_then ?_
  refine s_seq ?_
  refine s_seq ?_
  refine c_reg ?_
  refine qd rfl rfl rfl (r_move (v := (.int .i64 x)) rfl) ?_
  refine qd rfl rfl rfl (r_move (v := (.int .i64 y)) rfl) ?_
  refine qd rfl rfl rfl (r_gtr rfl rfl) ?_
  refine qe ?_
  refine s_then ?_
  refine c_ifd (p := (y : Int) < x) rfl rfl (fun h1 => ?_) (fun h1 => ?_)
  · skip
    refine s_seq ?_
    refine c_reg ?_
    refine qd rfl rfl rfl (r_move (v := (.int .i64 x)) rfl) ?_
    refine qd rfl rfl rfl (r_assign (v := (.int .i64 x)) rfl) ?_
    refine qe ?_
    refine s_then ?_
    refine wp_ret ?_
    refine s_ret ?_
    refine c_ret1 (v := (.int .i64 x)) rfl rfl rfl ?_
    exact ⟨congrArg (fun z => Ending.returned (Value.int .i64 z)) (by omega), rfl⟩
  refine wp_skip ?_
  refine s_then ?_
  refine s_seq ?_
  refine c_reg ?_
  refine qd rfl rfl rfl (r_move (v := (.int .i64 y)) rfl) ?_
  refine qd rfl rfl rfl (r_assign (v := (.int .i64 y)) rfl) ?_
  refine qe ?_
  refine s_then ?_
  refine wp_ret ?_
  refine s_ret ?_
  refine c_ret1 (v := (.int .i64 y)) rfl rfl rfl ?_
  exact ⟨congrArg (fun z => Ending.returned (Value.int .i64 z)) (by omega), rfl⟩

theorem l1Rising_spec {w : World} {G : Pin} {v : Value} {xs : List Int} {lo hi : Int} (hP : Pins G w) (hv : RSl eInt G v xs) :
    Calls Tryd.prog 55 [v, (.int .i64 lo), (.int .i64 hi)].toArray w fun e w' => e = .returned (.bool (decP (Rise xs lo hi))) ∧ Ext noS G w G w' := by
  refine s_enter (n := 38) Tryd.func55 Tryd.ntmps55 rfl rfl ?_
  have hX0 : Ext noS G w G w := Ext.refl hP
  have hm := hv.max
  refine s_seq ?_
  refine c_reg ?_
  refine qd rfl rfl rfl (r_assign (v := (.bool false)) rfl) ?_
  refine qe ?_
  refine s_then ?_
  refine s_seq ?_
  refine s_seq ?_
  refine c_reg ?_
  refine qd rfl rfl rfl (r_assign (v := (.int .i64 0)) rfl) ?_
  refine qe ?_
  refine s_then ?_
  refine s_blk ?_
  refine s_loop (fun (k : Nat) (en : Nat → Value) (W : World) => ∃ (env1 : Nat → Value) (j : Nat), en = (upd (upd (upd (upd env1 0 v) 1 (.int .i64 lo)) 2 (.int .i64 hi)) 7 (.int .i64 (j : Int))) ∧ k = xs.length - j ∧ Ext noS G w G W ∧ (j ≤ xs.length) ∧ (∀ i, i < j → (lo ≤ xs.getD i 0 ∧ xs.getD i 0 ≤ hi) ∧ (0 < i → xs.getD (i - 1) 0 < xs.getD i 0))) _ ⟨_, 0, (packS (x := 7) (packS (x := 2) (packS (x := 1) (pack1 (x := 0) rfl) rfl) rfl) rfl), rfl, hX0, Nat.zero_le _, (fun i hi => absurd hi (Nat.not_lt_zero i))⟩ ?_
  rintro k1 _ w2 ⟨env1, j, rfl, hk3, hX4, hj, hp⟩
  refine s_seq ?_
  refine s_seq ?_
  refine c_reg ?_
  refine qd rfl rfl rfl (r_move (v := (.int .i64 (j : Int))) rfl) ?_
  refine qd rfl rfl rfl (r_move (v := v) rfl) ?_
  refine qd rfl rfl rfl (run_len Tryd.underlying38 (v := v) rfl hv) ?_
  refine qd rfl rfl rfl (r_lss rfl rfl) ?_
  refine qe ?_
  refine s_then ?_
  refine c_ifd (p := ((j : Int) : Int) < (xs.length : Int)) rfl rfl (fun h5 => ?_) (fun h5 => ?_)
  · skip
    refine wp_skip ?_
    refine s_then ?_
    refine s_seq ?_
    refine s_blk ?_
    refine s_seq ?_
    refine c_draw (S := fun wz => Pins G wz) (last := 24) (by kernel_rfl) rfl ?_
    have hl6 : Below w2.heap.size w2 w2.drew := (Below.refl _ _).drew
    have hp7 := hX4.pins.below hl6
    have hX8 := hX4.step hp7 hl6
    refine dr_take (i := 0) rfl rfl rfl (want_none rfl _) (by kernel_rfl) (fun _ _ => r_move (v := v) rfl) hX8.pins ?_
    refine dr_take (i := 1) rfl rfl rfl (want_none rfl _) (by kernel_rfl) (fun _ _ => r_move (v := (.int .i64 (j : Int))) rfl) hX8.pins ?_
    refine dr_take (i := 2) rfl rfl rfl (want_none rfl _) (by kernel_rfl) (fun _ _ => run_idx Tryd.underlying38 sz3 (v := v) rfl rfl hv (by omega) (by omega)) hX8.pins ?_
    refine dr_take (i := 3) rfl rfl rfl (want_none rfl _) (by kernel_rfl) (fun _ hS => run_load_int (r := xs.getD j 0) rfl ag3 (z := (j : Int)) rfl hv hS (by omega) (by omega)) hX8.pins ?_
    refine dr_take (i := 4) rfl rfl rfl (want_none rfl _) (by kernel_rfl) (fun _ _ => r_move (v := (.int .i64 lo)) rfl) hX8.pins ?_
    refine dr_take (i := 5) rfl rfl rfl (want_none rfl _) (by kernel_rfl) (fun _ _ => r_move (v := (.int .i64 hi)) rfl) hX8.pins ?_
    refine dr_one (i := 6) (by kernel_rfl) (drOp1 (i := 6) rfl rfl rfl (want_none rfl _) (o_call (vs := [(.int .i64 (xs.getD j 0)), (.int .i64 lo), (.int .i64 hi)]) Tryd.func77 nm77 rfl rfl rfl ?_))
    refine Calls.mono (l1In_spec hX8.pins) ?_
    rintro _ _ ⟨rfl, rfl⟩
    refine ⟨_, rfl, ?_⟩
    refine ⟨fun _ => hX8.pins, ?_⟩
    refine dr_take (i := 7) rfl rfl rfl (want_none rfl _) (by kernel_rfl) (fun _ _ => r_not rfl) hX8.pins ?_
    refine dr_take (i := 8) rfl rfl rfl (want_none rfl _) (by kernel_rfl) (fun _ _ => r_move (v := (.bool (!(decide ((lo : Int) ≤ (xs.getD j 0) ∧ (xs.getD j 0 : Int) ≤ hi))))) rfl) hX8.pins ?_
    refine drbn (t := 22) rfl (fun h9 => ?_) (fun h9 => ?_)
    · skip
      replace h9 := of_decide_eq_true h9
      refine dr_take (i := 9) rfl rfl rfl (want_yes rfl rfl rfl rfl) (by kernel_rfl) (fun _ _ => r_move (v := (.int .i64 (j : Int))) rfl) hX8.pins ?_
      refine dr_take (i := 10) rfl rfl rfl (want_yes rfl rfl rfl rfl) (by kernel_rfl) (fun _ _ => r_gtr rfl rfl) hX8.pins ?_
      refine dr_take (i := 11) rfl rfl rfl (want_yes rfl rfl rfl rfl) (by kernel_rfl) (fun _ _ => r_move (v := (.bool (decide ((0 : Int) < (j : Int))))) rfl) hX8.pins ?_
      refine drbd (p := (0 : Int) < (j : Int)) (t := 25) rfl (fun h10 => ?_) (fun h10 => ?_)
      · skip
        refine dr_take (i := 12) rfl rfl rfl (want_yes rfl rfl rfl rfl) (by kernel_rfl) (fun _ _ => r_move (v := v) rfl) hX8.pins ?_
        refine dr_take (i := 13) rfl rfl rfl (want_yes rfl rfl rfl rfl) (by kernel_rfl) (fun _ _ => r_move (v := (.int .i64 (j : Int))) rfl) hX8.pins ?_
        refine dr_take (i := 14) rfl rfl rfl (want_yes rfl rfl rfl rfl) (by kernel_rfl) (fun _ _ => r_sub rfl rfl (by omega)) hX8.pins ?_
        refine dr_take (i := 15) rfl rfl rfl (want_yes rfl rfl rfl rfl) (by kernel_rfl) (fun _ _ => run_idx Tryd.underlying38 sz3 (v := v) rfl rfl hv (by omega) (by omega)) hX8.pins ?_
        refine dr_take (i := 16) rfl rfl rfl (want_yes rfl rfl rfl rfl) (by kernel_rfl) (fun _ hS => run_load_int (r := xs.getD ((j : Int) - 1).toNat 0) rfl ag3 (z := ((j : Int) - 1)) rfl hv hS (by omega) (by omega)) hX8.pins ?_
        refine dr_take (i := 17) rfl rfl rfl (want_yes rfl rfl rfl rfl) (by kernel_rfl) (fun _ _ => r_move (v := v) rfl) hX8.pins ?_
        refine dr_take (i := 18) rfl rfl rfl (want_yes rfl rfl rfl rfl) (by kernel_rfl) (fun _ _ => r_move (v := (.int .i64 (j : Int))) rfl) hX8.pins ?_
        refine dr_take (i := 19) rfl rfl rfl (want_yes rfl rfl rfl rfl) (by kernel_rfl) (fun _ _ => run_idx Tryd.underlying38 sz3 (v := v) rfl rfl hv (by omega) (by omega)) hX8.pins ?_
        refine dr_take (i := 20) rfl rfl rfl (want_yes rfl rfl rfl rfl) (by kernel_rfl) (fun _ hS => run_load_int (r := xs.getD j 0) rfl ag3 (z := (j : Int)) rfl hv hS (by omega) (by omega)) hX8.pins ?_
        refine dr_take (i := 21) rfl rfl rfl (want_yes rfl rfl rfl rfl) (by kernel_rfl) (fun _ _ => r_geq rfl rfl) hX8.pins ?_
        refine dr_take (i := 22) rfl rfl rfl (want_yes rfl rfl rfl rfl) (by kernel_rfl) (fun _ _ => r_pickT (v := (.bool (decide ((xs.getD j 0 : Int) ≤ (xs.getD ((j : Int) - 1).toNat 0))))) rfl rfl) hX8.pins ?_
        refine dr_take (i := 23) rfl rfl rfl (want_none rfl _) (by kernel_rfl) (fun _ _ => r_pickF (v := (.bool (decide ((xs.getD j 0 : Int) ≤ (xs.getD ((j : Int) - 1).toNat 0))))) rfl rfl) hX8.pins ?_
        refine dr_end (by kernel_rfl) ?_
        refine s_then ?_
        refine c_ifd (p := (xs.getD j 0 : Int) ≤ (xs.getD ((j : Int) - 1).toNat 0)) rfl rfl (fun h11 => ?_) (fun h11 => ?_)
        · skip
          refine s_seq ?_
          refine c_reg ?_
          refine qd rfl rfl rfl (r_assign (v := (.bool false)) rfl) ?_
          refine qe ?_
          refine s_then ?_
          refine wp_ret ?_
          refine s_ret ?_
          refine c_ret1 (v := (.bool false)) rfl rfl rfl ?_
          exact ⟨congrArg (fun z => Ending.returned (Value.bool z)) (decP_false.2 (fun hR => by have := hR j (by omega); rw [show j - 1 = ((j : Int) - 1).toNat by omega] at this; omega)).symm, hX8⟩
        refine wp_skip ?_
        refine s_blkN ?_
        refine s_then ?_
        refine c_reg ?_
        refine qd rfl rfl rfl (r_move (v := (.int .i64 (j : Int))) rfl) ?_
        refine qd rfl rfl rfl (r_add rfl rfl (by omega)) ?_
        refine qd rfl rfl rfl (r_assign (v := (.int .i64 ((j : Int) + 1))) rfl) ?_
        refine qe ?_
        refine s_lopN ?_
        refine ⟨_, ?_, _, rfl, _, j + 1, (packS (x := 7) (packS (x := 2) (packS (x := 1) (pack1 (x := 0) rfl) rfl) rfl) rfl), rfl, hX8, (by omega), (rise_step hp (by omega) (fun h0 => by rw [show j - 1 = ((j : Int) - 1).toNat by omega]; omega))⟩
        omega
      refine dr_skip (i := 12) rfl rfl (want_no rfl rfl rfl rfl rfl) (by kernel_rfl) hX8.pins ?_
      refine dr_skip (i := 13) rfl rfl (want_no rfl rfl rfl rfl rfl) (by kernel_rfl) hX8.pins ?_
      refine dr_skip (i := 14) rfl rfl (want_no rfl rfl rfl rfl rfl) (by kernel_rfl) hX8.pins ?_
      refine dr_skip (i := 15) rfl rfl (want_no rfl rfl rfl rfl rfl) (by kernel_rfl) hX8.pins ?_
      refine dr_skip (i := 16) rfl rfl (want_no rfl rfl rfl rfl rfl) (by kernel_rfl) hX8.pins ?_
      refine dr_skip (i := 17) rfl rfl (want_no rfl rfl rfl rfl rfl) (by kernel_rfl) hX8.pins ?_
      refine dr_skip (i := 18) rfl rfl (want_no rfl rfl rfl rfl rfl) (by kernel_rfl) hX8.pins ?_
      refine dr_skip (i := 19) rfl rfl (want_no rfl rfl rfl rfl rfl) (by kernel_rfl) hX8.pins ?_
      refine dr_skip (i := 20) rfl rfl (want_no rfl rfl rfl rfl rfl) (by kernel_rfl) hX8.pins ?_
      refine dr_skip (i := 21) rfl rfl (want_no rfl rfl rfl rfl rfl) (by kernel_rfl) hX8.pins ?_
      refine dr_take (i := 22) rfl rfl rfl (want_yes rfl rfl rfl rfl) (by kernel_rfl) (fun _ _ => r_pickF (v := (.bool false)) rfl rfl) hX8.pins ?_
      refine dr_take (i := 23) rfl rfl rfl (want_none rfl _) (by kernel_rfl) (fun _ _ => r_pickF (v := (.bool false)) rfl rfl) hX8.pins ?_
      refine dr_end (by kernel_rfl) ?_
      refine s_then ?_
      refine c_ifF rfl rfl ?_
      refine wp_skip ?_
      refine s_blkN ?_
      refine s_then ?_
      refine c_reg ?_
      refine qd rfl rfl rfl (r_move (v := (.int .i64 (j : Int))) rfl) ?_
      refine qd rfl rfl rfl (r_add rfl rfl (by omega)) ?_
      refine qd rfl rfl rfl (r_assign (v := (.int .i64 ((j : Int) + 1))) rfl) ?_
      refine qe ?_
      refine s_lopN ?_
      refine ⟨_, ?_, _, rfl, _, j + 1, (packS (x := 7) (packS (x := 2) (packS (x := 1) (pack1 (x := 0) rfl) rfl) rfl) rfl), rfl, hX8, (by omega), (rise_step hp (by omega) (fun h0 => by rw [show j - 1 = ((j : Int) - 1).toNat by omega]; omega))⟩
      omega
    replace h9 := of_decide_eq_false h9
    refine dr_skip (i := 9) rfl rfl (want_no rfl rfl rfl rfl rfl) (by kernel_rfl) hX8.pins ?_
    refine dr_skip (i := 10) rfl rfl (want_no rfl rfl rfl rfl rfl) (by kernel_rfl) hX8.pins ?_
    refine dr_skip (i := 11) rfl rfl (want_no rfl rfl rfl rfl rfl) (by kernel_rfl) hX8.pins ?_
    refine dr_skip (i := 12) rfl rfl (want_undef rfl rfl rfl rfl) (by kernel_rfl) hX8.pins ?_
    refine dr_skip (i := 13) rfl rfl (want_undef rfl rfl rfl rfl) (by kernel_rfl) hX8.pins ?_
    refine dr_skip (i := 14) rfl rfl (want_undef rfl rfl rfl rfl) (by kernel_rfl) hX8.pins ?_
    refine dr_skip (i := 15) rfl rfl (want_undef rfl rfl rfl rfl) (by kernel_rfl) hX8.pins ?_
    refine dr_skip (i := 16) rfl rfl (want_undef rfl rfl rfl rfl) (by kernel_rfl) hX8.pins ?_
    refine dr_skip (i := 17) rfl rfl (want_undef rfl rfl rfl rfl) (by kernel_rfl) hX8.pins ?_
    refine dr_skip (i := 18) rfl rfl (want_undef rfl rfl rfl rfl) (by kernel_rfl) hX8.pins ?_
    refine dr_skip (i := 19) rfl rfl (want_undef rfl rfl rfl rfl) (by kernel_rfl) hX8.pins ?_
    refine dr_skip (i := 20) rfl rfl (want_undef rfl rfl rfl rfl) (by kernel_rfl) hX8.pins ?_
    refine dr_skip (i := 21) rfl rfl (want_undef rfl rfl rfl rfl) (by kernel_rfl) hX8.pins ?_
    refine dr_skip (i := 22) rfl rfl (want_no rfl rfl rfl rfl rfl) (by kernel_rfl) hX8.pins ?_
    refine dr_take (i := 23) rfl rfl rfl (want_none rfl _) (by kernel_rfl) (fun _ _ => r_pickT (v := (.bool true)) rfl rfl) hX8.pins ?_
    refine dr_end (by kernel_rfl) ?_
    refine s_then ?_
    refine c_ifT rfl rfl ?_
    refine s_seq ?_
    refine c_reg ?_
    refine qd rfl rfl rfl (r_assign (v := (.bool false)) rfl) ?_
    refine qe ?_
    refine s_then ?_
    refine wp_ret ?_
    refine s_ret ?_
    refine c_ret1 (v := (.bool false)) rfl rfl rfl ?_
    exact ⟨congrArg (fun z => Ending.returned (Value.bool z)) (decP_false.2 (fun hR => by have := hR j (by omega); rw [show j - 1 = ((j : Int) - 1).toNat by omega] at this; omega)).symm, hX8⟩
  refine wp_exit ?_
  refine s_thenE ?_
  refine s_lopE ?_
  refine s_blkE ?_
  refine s_then ?_
  refine s_seq ?_
  refine c_reg ?_
  refine qd rfl rfl rfl (r_assign (v := (.bool true)) rfl) ?_
  refine qe ?_
  refine s_then ?_
  refine wp_ret ?_
  refine s_ret ?_
  refine c_ret1 (v := (.bool true)) rfl rfl rfl ?_
  exact ⟨congrArg (fun z => Ending.returned (Value.bool z)) (decP_true.2 (Rise.done (by omega) hp)).symm, hX4⟩

theorem l3Fits_spec {w : World} {G : Pin} {v : Value} {ns : List Nd} (hP : Pins G w) (hv : RSl eNode G v ns) :
    Calls Tryd.prog 54 [(.agg [v].toArray)].toArray w fun e w' => ∃ G', e = .returned (.bool (decP (FitsP ns))) ∧ Ext noS G w G' w' := by
  refine s_enter (n := 37) Tryd.func54 Tryd.ntmps54 rfl rfl ?_
  have hX0 : Ext noS G w G w := Ext.refl hP
  have hm := hv.max
  refine s_seq ?_
  refine c_reg ?_
  refine q1 rfl rfl rfl (o_box [v] (v := (.agg [v].toArray)) rfl rfl hX0.pins (fun b1 w2 hk3 hb4 hp5 hl6 => ?_))
  have hX7 := hX0.step hp5 hl6
  have hlo8 : w.heap.size ≤ b1 := by have := hX0.size; omega
  obtain ⟨G9, hle10, hX11, hbp12, hf13⟩ := hb4.shut hX7 hlo8
  refine qd rfl rfl rfl (r_assign (v := (.bool false)) rfl) ?_
  refine qe ?_
  refine s_then ?_
  refine s_seq ?_
  refine s_seq ?_
  refine c_reg ?_
  refine qd rfl rfl rfl (r_assign (v := (.int .i64 0)) rfl) ?_
  refine qe ?_
  refine s_then ?_
  refine s_blk ?_
  refine s_loop (fun (k : Nat) (en : Nat → Value) (W : World) => ∃ (env1 : Nat → Value) (j : Nat), en = (upd (upd env1 1 (.pointer (some ⟨b1, 0, none⟩))) 3 (.int .i64 (j : Int))) ∧ k = 121 - j ∧ Ext noS G w G9 W ∧ (j ≤ ns.length ∧ j ≤ 121) ∧ (∀ k, k < j → (ns.getD k default).l.length ≤ 24 ∧ (ns.getD k default).r.length ≤ 24)) _ ⟨_, 0, (packS (x := 3) (pack1 (x := 1) rfl) rfl), rfl, hX11, (by omega), (fun i hi => absurd hi (Nat.not_lt_zero i))⟩ ?_
  rintro k14 _ w15 ⟨env1, j, rfl, hk16, hX17, hj, hp⟩
  refine s_seq ?_
  refine s_seq ?_
  refine c_reg ?_
  refine qd rfl rfl rfl (r_move (v := (.int .i64 (j : Int))) rfl) ?_
  refine qd rfl rfl rfl (r_fldp (k := 0) rfl Tryd.underlying30 rfl nz28 rfl) ?_
  refine qd rfl rfl rfl (r_ldp1 (u := v) ag28 rfl (hX17.pins _ _ _ (hbp12 0 _ rfl))) ?_
  refine qd rfl rfl rfl (run_len Tryd.underlying28 (v := v) rfl hv) ?_
  refine qd rfl rfl rfl (r_lss rfl rfl) ?_
  refine qd rfl rfl rfl (r_move (v := (.bool (decide (((j : Int) : Int) < (ns.length : Int))))) rfl) ?_
  refine qbd (p := ((j : Int) : Int) < (ns.length : Int)) (t := 9) rfl (fun h18 => ?_) (fun h18 => ?_)
  · skip
    refine qdg rfl rfl rfl rfl rfl rfl (r_move (v := (.int .i64 (j : Int))) rfl) ?_
    refine qdg rfl rfl rfl rfl rfl rfl (r_leq rfl rfl) ?_
    refine qd rfl rfl rfl (r_pickT (v := (.bool (decide (((j : Int) : Int) ≤ 120)))) rfl rfl) ?_
    refine qe ?_
    refine s_then ?_
    refine c_ifd (p := ((j : Int) : Int) ≤ 120) rfl rfl (fun h19 => ?_) (fun h19 => ?_)
    · skip
      refine wp_skip ?_
      refine s_then ?_
      refine s_seq ?_
      refine s_blk ?_
      refine s_seq ?_
      refine c_reg ?_
      refine qd rfl rfl rfl (r_fldp (k := 0) rfl Tryd.underlying30 rfl nz28 rfl) ?_
      refine qd rfl rfl rfl (r_ldp1 (u := v) ag28 rfl (hX17.pins _ _ _ (hbp12 0 _ rfl))) ?_
      refine qd rfl rfl rfl (r_move (v := (.int .i64 (j : Int))) rfl) ?_
      refine qd rfl rfl rfl (run_idx Tryd.underlying28 sz69 (v := v) rfl rfl hv (by omega) (by omega)) ?_
      refine qd rfl rfl rfl (run_fld (off := 0) Tryd.underlying69 rfl rfl nz38 (z := (j : Int)) (k := 0) rfl hv (by omega) (by omega)) ?_
      obtain ⟨u20, hr21, hl22⟩ := nm_nl (hv.at (z := (j : Int)) (by omega) (by omega)) (j := j) rfl
      have hm23 := hr21.max
      refine qd rfl rfl rfl (hl22 ag38 rfl (Pins.of_le hX17.pins hle10)) ?_
      refine qd rfl rfl rfl (run_len Tryd.underlying38 (v := u20) rfl hr21) ?_
      refine qd rfl rfl rfl (r_gtr rfl rfl) ?_
      refine qd rfl rfl rfl (r_move (v := (.bool (decide ((24 : Int) < (((ns.getD j default).l).length : Int))))) rfl) ?_
      refine qbd (p := (24 : Int) < (((ns.getD j default).l).length : Int)) (t := 23) rfl (fun h24 => ?_) (fun h24 => ?_)
      · skip
        refine qs rfl rfl rfl rfl rfl rfl ?_
        refine qs rfl rfl rfl rfl rfl rfl ?_
        refine qs rfl rfl rfl rfl rfl rfl ?_
        refine qs rfl rfl rfl rfl rfl rfl ?_
        refine qs rfl rfl rfl rfl rfl rfl ?_
        refine qs rfl rfl rfl rfl rfl rfl ?_
        refine qs rfl rfl rfl rfl rfl rfl ?_
        refine qs rfl rfl rfl rfl rfl rfl ?_
        refine qd rfl rfl rfl (r_pickT (v := (.bool true)) rfl rfl) ?_
        refine qe ?_
        refine s_then ?_
        refine c_ifT rfl rfl ?_
        refine s_seq ?_
        refine c_reg ?_
        refine qd rfl rfl rfl (r_assign (v := (.bool false)) rfl) ?_
        refine qe ?_
        refine s_then ?_
        refine wp_ret ?_
        refine s_ret ?_
        refine c_ret1 (v := (.bool false)) rfl rfl rfl ?_
        exact ⟨_, congrArg (fun z => Ending.returned (Value.bool z)) (decP_false.2 (fun g => by have := g.opts j (by omega); omega)).symm, hX17⟩
      refine qdg rfl rfl rfl rfl rfl rfl (r_fldp (k := 0) rfl Tryd.underlying30 rfl nz28 rfl) ?_
      refine qdg rfl rfl rfl rfl rfl rfl (r_ldp1 (u := v) ag28 rfl (hX17.pins _ _ _ (hbp12 0 _ rfl))) ?_
      refine qdg rfl rfl rfl rfl rfl rfl (r_move (v := (.int .i64 (j : Int))) rfl) ?_
      refine qdg rfl rfl rfl rfl rfl rfl (run_idx Tryd.underlying28 sz69 (v := v) rfl rfl hv (by omega) (by omega)) ?_
      refine qdg rfl rfl rfl rfl rfl rfl (run_fld (off := 1) Tryd.underlying69 rfl rfl nz38 (z := (j : Int)) (k := 0) rfl hv (by omega) (by omega)) ?_
      obtain ⟨u25, hr26, hl27⟩ := nm_nr (hv.at (z := (j : Int)) (by omega) (by omega)) (j := j) rfl
      have hm28 := hr26.max
      refine qdg rfl rfl rfl rfl rfl rfl (hl27 ag38 rfl (Pins.of_le hX17.pins hle10)) ?_
      refine qdg rfl rfl rfl rfl rfl rfl (run_len Tryd.underlying38 (v := u25) rfl hr26) ?_
      refine qdg rfl rfl rfl rfl rfl rfl (r_gtr rfl rfl) ?_
      refine qd rfl rfl rfl (r_pickF (v := (.bool (decide ((24 : Int) < (((ns.getD j default).r).length : Int))))) rfl rfl) ?_
      refine qe ?_
      refine s_then ?_
      refine c_ifd (p := (24 : Int) < (((ns.getD j default).r).length : Int)) rfl rfl (fun h29 => ?_) (fun h29 => ?_)
      · skip
        refine s_seq ?_
        refine c_reg ?_
        refine qd rfl rfl rfl (r_assign (v := (.bool false)) rfl) ?_
        refine qe ?_
        refine s_then ?_
        refine wp_ret ?_
        refine s_ret ?_
        refine c_ret1 (v := (.bool false)) rfl rfl rfl ?_
        exact ⟨_, congrArg (fun z => Ending.returned (Value.bool z)) (decP_false.2 (fun g => by have := g.opts j (by omega); omega)).symm, hX17⟩
      refine wp_skip ?_
      refine s_blkN ?_
      refine s_then ?_
      refine c_reg ?_
      refine qd rfl rfl rfl (r_move (v := (.int .i64 (j : Int))) rfl) ?_
      refine qd rfl rfl rfl (r_add rfl rfl (by omega)) ?_
      refine qd rfl rfl rfl (r_assign (v := (.int .i64 ((j : Int) + 1))) rfl) ?_
      refine qe ?_
      refine s_lopN ?_
      refine ⟨_, ?_, _, rfl, _, j + 1, (packS (x := 3) (pack1 (x := 1) rfl) rfl), rfl, hX17, (by omega), (fun k hk => if h3 : k = j then h3 ▸ ⟨by omega, by omega⟩ else hp k (by omega))⟩
      omega
    refine wp_exit ?_
    refine s_thenE ?_
    refine s_lopE ?_
    refine s_blkE ?_
    refine s_then ?_
    refine s_seq ?_
    refine c_reg ?_
    refine qd rfl rfl rfl (r_fldp (k := 0) rfl Tryd.underlying30 rfl nz28 rfl) ?_
    refine qd rfl rfl rfl (r_ldp1 (u := v) ag28 rfl (hX17.pins _ _ _ (hbp12 0 _ rfl))) ?_
    refine qd rfl rfl rfl (run_len Tryd.underlying28 (v := v) rfl hv) ?_
    refine q1 rfl rfl rfl (o_call (vs := [(.int .i64 (ns.length : Int)), (.int .i64 1), (.int .i64 120)]) Tryd.func77 nm77 rfl rfl rfl ?_)
    refine Calls.mono (l1In_spec hX17.pins) ?_
    rintro _ _ ⟨rfl, rfl⟩
    refine ⟨_, rfl, ?_⟩
    refine qd rfl rfl rfl (r_assign (v := (.bool (decide ((1 : Int) ≤ (ns.length : Int) ∧ ((ns.length : Int) : Int) ≤ 120)))) rfl) ?_
    refine qe ?_
    refine s_then ?_
    refine wp_ret ?_
    refine s_ret ?_
    refine c_ret1 (v := (.bool (decide ((1 : Int) ≤ (ns.length : Int) ∧ ((ns.length : Int) : Int) ≤ 120)))) rfl rfl rfl ?_
    exact ⟨_, congrArg (fun z => Ending.returned (Value.bool z)) (fits_end hp (by omega) (by omega)), hX17⟩
  refine qs rfl rfl rfl rfl rfl rfl ?_
  refine qs rfl rfl rfl rfl rfl rfl ?_
  refine qd rfl rfl rfl (r_pickF (v := (.bool false)) rfl rfl) ?_
  refine qe ?_
  refine s_then ?_
  refine c_ifF rfl rfl ?_
  refine wp_exit ?_
  refine s_thenE ?_
  refine s_lopE ?_
  refine s_blkE ?_
  refine s_then ?_
  refine s_seq ?_
  refine c_reg ?_
  refine qd rfl rfl rfl (r_fldp (k := 0) rfl Tryd.underlying30 rfl nz28 rfl) ?_
  refine qd rfl rfl rfl (r_ldp1 (u := v) ag28 rfl (hX17.pins _ _ _ (hbp12 0 _ rfl))) ?_
  refine qd rfl rfl rfl (run_len Tryd.underlying28 (v := v) rfl hv) ?_
  refine q1 rfl rfl rfl (o_call (vs := [(.int .i64 (ns.length : Int)), (.int .i64 1), (.int .i64 120)]) Tryd.func77 nm77 rfl rfl rfl ?_)
  refine Calls.mono (l1In_spec hX17.pins) ?_
  rintro _ _ ⟨rfl, rfl⟩
  refine ⟨_, rfl, ?_⟩
  refine qd rfl rfl rfl (r_assign (v := (.bool (decide ((1 : Int) ≤ (ns.length : Int) ∧ ((ns.length : Int) : Int) ≤ 120)))) rfl) ?_
  refine qe ?_
  refine s_then ?_
  refine wp_ret ?_
  refine s_ret ?_
  refine c_ret1 (v := (.bool (decide ((1 : Int) ≤ (ns.length : Int) ∧ ((ns.length : Int) : Int) ≤ 120)))) rfl rfl rfl ?_
  exact ⟨_, congrArg (fun z => Ending.returned (Value.bool z)) (fits_end hp (by omega) (by omega)), hX17⟩

theorem l1Put_spec {w : World} {G : Pin} {v : Value} {xs : List Int} {n : Int} (hP : Pins G w) (hv : RSl eInt G v xs) (hs : xs.length ≤ 2097152) :
    Calls Tryd.prog 71 [v, (.int .i64 n)].toArray w fun e w' => ∃ (u : Value) (G' : Pin), e = .returned u ∧ RSl eInt G' u (putL xs n) ∧ Ext noS G w G' w' := by
  refine s_enter (n := 45) Tryd.func71 Tryd.ntmps71 rfl rfl ?_
  have hX0 : Ext noS G w G w := Ext.refl hP
  refine s_seq ?_
  refine c_reg ?_
  refine qd rfl rfl rfl (r_assign (v := (.slice none 0 0)) rfl) ?_
  refine qe ?_
  refine s_then ?_
  refine s_seq ?_
  refine c_reg ?_
  refine qd rfl rfl rfl (r_assign (v := (.int .i64 0)) rfl) ?_
  refine qe ?_
  refine s_then ?_
  refine s_seq ?_
  refine s_blk ?_
  refine s_loop (fun (k : Nat) (en : Nat → Value) (W : World) => ∃ (env1 : Nat → Value) (j : Nat), en = (upd (upd (upd (upd env1 0 v) 1 (.int .i64 n)) 4 (.slice none 0 0)) 5 (.int .i64 (j : Int))) ∧ k = xs.length - j ∧ Ext noS G w G W ∧ (j ≤ xs.length) ∧ (putL xs n = xs.take j ++ putL (xs.drop j) n)) _ ⟨_, 0, (packS (x := 5) (packS (x := 4) (packS (x := 1) (pack1 (x := 0) rfl) rfl) rfl) rfl), rfl, hX0, Nat.zero_le _, rfl⟩ ?_
  rintro k1 _ w2 ⟨env1, j, rfl, hk3, hX4, hj, hr⟩
  refine s_seq ?_
  refine s_seq ?_
  refine c_reg ?_
  refine qd rfl rfl rfl (r_move (v := (.int .i64 (j : Int))) rfl) ?_
  refine qd rfl rfl rfl (r_move (v := v) rfl) ?_
  refine qd rfl rfl rfl (run_len Tryd.underlying38 (v := v) rfl hv) ?_
  refine qd rfl rfl rfl (r_lss rfl rfl) ?_
  refine qd rfl rfl rfl (r_move (v := (.bool (decide (((j : Int) : Int) < (xs.length : Int))))) rfl) ?_
  refine qbd (p := ((j : Int) : Int) < (xs.length : Int)) (t := 10) rfl (fun h5 => ?_) (fun h5 => ?_)
  · skip
    refine qdg rfl rfl rfl rfl rfl rfl (r_move (v := v) rfl) ?_
    refine qdg rfl rfl rfl rfl rfl rfl (r_move (v := (.int .i64 (j : Int))) rfl) ?_
    refine qdg rfl rfl rfl rfl rfl rfl (run_idx Tryd.underlying38 sz3 (v := v) rfl rfl hv (by omega) (by omega)) ?_
    refine qdg rfl rfl rfl rfl rfl rfl (run_load_int (r := xs.getD j 0) rfl ag3 (z := (j : Int)) rfl hv hX4.pins (by omega) (by omega)) ?_
    refine qdg rfl rfl rfl rfl rfl rfl (r_move (v := (.int .i64 n)) rfl) ?_
    refine qdg rfl rfl rfl rfl rfl rfl (r_lss rfl rfl) ?_
    refine qd rfl rfl rfl (r_pickT (v := (.bool (decide ((xs.getD j 0 : Int) < n)))) rfl rfl) ?_
    refine qe ?_
    refine s_then ?_
    refine c_ifd (p := (xs.getD j 0 : Int) < n) rfl rfl (fun h6 => ?_) (fun h6 => ?_)
    · skip
      refine wp_skip ?_
      refine s_then ?_
      refine s_blk ?_
      refine c_reg ?_
      refine qd rfl rfl rfl (r_move (v := (.int .i64 (j : Int))) rfl) ?_
      refine qd rfl rfl rfl (r_add rfl rfl (by omega)) ?_
      refine qd rfl rfl rfl (r_assign (v := (.int .i64 ((j : Int) + 1))) rfl) ?_
      refine qe ?_
      refine s_blkN ?_
      refine s_lopN ?_
      refine ⟨_, ?_, _, rfl, _, j + 1, (packS (x := 5) (packS (x := 4) (packS (x := 1) (pack1 (x := 0) rfl) rfl) rfl) rfl), rfl, hX4, (by omega), (put_next (by omega) (by omega) hr)⟩
      omega
    refine wp_exit ?_
    refine s_thenE ?_
    refine s_lopE ?_
    refine s_blkE ?_
    refine s_then ?_
    refine s_seq ?_
    refine s_seq ?_
    refine c_reg ?_
    refine qd rfl rfl rfl (r_move (v := (.int .i64 (j : Int))) rfl) ?_
    refine qd rfl rfl rfl (r_move (v := v) rfl) ?_
    refine qd rfl rfl rfl (run_len Tryd.underlying38 (v := v) rfl hv) ?_
    refine qd rfl rfl rfl (r_lss rfl rfl) ?_
    refine qd rfl rfl rfl (r_move (v := (.bool (decide (((j : Int) : Int) < (xs.length : Int))))) rfl) ?_
    refine qbd (p := ((j : Int) : Int) < (xs.length : Int)) (t := 24) rfl (fun _ => ?_) (fun h => absurd h5 h)
    refine qdg rfl rfl rfl rfl rfl rfl (r_move (v := v) rfl) ?_
    refine qdg rfl rfl rfl rfl rfl rfl (r_move (v := (.int .i64 (j : Int))) rfl) ?_
    refine qdg rfl rfl rfl rfl rfl rfl (run_idx Tryd.underlying38 sz3 (v := v) rfl rfl hv (by omega) (by omega)) ?_
    refine qdg rfl rfl rfl rfl rfl rfl (run_load_int (r := xs.getD j 0) rfl ag3 (z := (j : Int)) rfl hv hX4.pins (by omega) (by omega)) ?_
    refine qdg rfl rfl rfl rfl rfl rfl (r_move (v := (.int .i64 n)) rfl) ?_
    refine qdg rfl rfl rfl rfl rfl rfl (r_eql rfl rfl) ?_
    refine qd rfl rfl rfl (r_pickT (v := (.bool (decide ((xs.getD j 0 : Int) = n)))) rfl rfl) ?_
    refine qe ?_
    refine s_then ?_
    refine c_ifd (p := (xs.getD j 0 : Int) = n) rfl rfl (fun h8 => ?_) (fun h8 => ?_)
    · skip
      refine s_seq ?_
      refine c_reg ?_
      refine qd rfl rfl rfl (r_move (v := v) rfl) ?_
      refine qd rfl rfl rfl (r_assign (v := v) rfl) ?_
      refine qe ?_
      refine s_then ?_
      refine wp_ret ?_
      refine s_ret ?_
      refine c_ret1 (v := v) rfl rfl rfl ?_
      exact ⟨_, _, rfl, (by rw [put_hit (by omega) (by omega) hr]; exact hv), hX4⟩
    refine wp_skip ?_
    refine s_then ?_
    refine s_seq ?_
    refine c_cut (fun (en : Nat → Value) (W : World) => ∃ (env1 : Nat → Value) (c9 : Value) (G10 : Pin), en = (upd env1 4 c9) ∧ Ext noS G w G10 W ∧ Pin.le G G10 ∧ (Own eInt 3 G10 W w.heap.size c9 (((([]) ++ ((xs.take j).drop 0)) ++ ([n])) ++ ((xs.take xs.length).drop j)))) ?_ ?_
    · rintro _ w11 ⟨env1, c9, G10, rfl, hX13, hle14, ho12⟩
      refine s_then ?_
      refine wp_ret ?_
      refine s_ret ?_
      refine c_ret1 (v := c9) rfl rfl rfl ?_
      obtain ⟨G15, hle18, hX17, hr16, hf19⟩ := ho12.sealed hX13
      exact ⟨_, _, rfl, (by rw [← put_new (fun h => ⟨by omega, by omega⟩) hr]; exact hr16), hX17⟩
    · skip
      refine c_draw (S := fun wz => Pins G wz) (last := 13) (by kernel_rfl) rfl ?_
      have hl20 : Below w2.heap.size w2 w2.drew := (Below.refl _ _).drew
      have hp21 := hX4.pins.below hl20
      have hX22 := hX4.step hp21 hl20
      refine dr_take (i := 1) rfl rfl rfl (want_none rfl _) (by kernel_rfl) (fun _ _ => r_move (v := v) rfl) hX22.pins ?_
      refine dr_take (i := 2) rfl rfl rfl (want_none rfl _) (by kernel_rfl) (fun _ _ => r_move (v := (.int .i64 (j : Int))) rfl) hX22.pins ?_
      obtain ⟨u23, hr24, hl25⟩ := name_slice hv (lo := none) (hi := (some ((j : Int)))) (0) (j) (Or.inl ⟨rfl, rfl⟩) (Or.inr ⟨_, rfl, (by omega), rfl⟩) (by omega) (by omega)
      refine dr_take (i := 3) rfl rfl rfl (want_none rfl _) (by kernel_rfl) (fun _ _ => hl25 Tryd.underlying38 sz3 rfl rfl rfl) hX22.pins ?_
      refine dr_take (i := 5) rfl rfl rfl (want_none rfl _) (by kernel_rfl) (fun _ _ => r_move (v := (.int .i64 n)) rfl) hX22.pins ?_
      refine dr_take (i := 8) rfl rfl rfl (want_none rfl _) (by kernel_rfl) (fun _ _ => r_move (v := v) rfl) hX22.pins ?_
      refine dr_take (i := 9) rfl rfl rfl (want_none rfl _) (by kernel_rfl) (fun _ _ => r_move (v := (.int .i64 (j : Int))) rfl) hX22.pins ?_
      obtain ⟨u26, hr27, hl28⟩ := name_slice hv (lo := (some ((j : Int)))) (hi := none) (j) (xs.length) (Or.inr ⟨_, rfl, (by omega), rfl⟩) (Or.inl ⟨rfl, rfl⟩) (by omega) (by omega)
      refine dr_take (i := 10) rfl rfl rfl (want_none rfl _) (by kernel_rfl) (fun _ _ => hl28 Tryd.underlying38 sz3 rfl rfl rfl) hX22.pins ?_
      refine dr_two (i := 0) (j := 6) (by kernel_rfl) ?_ ?_
      · skip
        refine (drOp1 (i := 0) rfl rfl rfl (want_none rfl _) (o_build0 (E := eInt) (e := 3) Tryd.underlying38 sz3 hX22.pins (fun u29 w30 ho31 hp32 hl33 hk34 => ?_)))
        have hX35 := hX22.step hp32 hl33
        have ho36 : Own eInt 3 G w30 w.heap.size u29 ([]) := ho31.weaken hX22.size
        refine ⟨fun _ => hX35.pins, ?_⟩
        refine dr_two (i := 4) (j := 6) (by kernel_rfl) ?_ ?_
        · skip
          refine (drOp1 (i := 4) rfl rfl rfl (want_none rfl _) (o_append (E := eInt) (v := u29) (u := u23) 8 Tryd.underlying38 ap3 (by decide) rfl rfl hX35.pins ho36 ((hr24.mono (Pin.le_refl _)).src hX35.pins (by decide)) (by first | omega | (rw [List.nil_append]; omega) | (rw [List.length_nil]; omega) | (rw [List.length_append]; omega) | (simp; done) | (simp; omega) | (simp only [List.length_append, List.length_cons, List.length_nil]; omega)) (by first | omega | (rw [List.nil_append]; omega) | (rw [List.length_nil]; omega) | (rw [List.length_append]; omega) | (simp; done) | (simp; omega) | (simp only [List.length_append, List.length_cons, List.length_nil]; omega)) (hX35.size) (fun u37 w38 ho39 hp40 hg41 hw42 => ?_)))
          have hX43 := hX35.write hp40 hg41 ((lo_own ho36))
          have hm44 : (([]) ++ ((xs.take j).drop 0)).length = ([]).length + ((xs.take j).drop 0).length := List.length_append
          refine ⟨fun _ => hX43.pins, ?_⟩
          refine dr_one (i := 6) (by kernel_rfl) (drOp1 (i := 6) rfl rfl rfl (want_none rfl _) (o_buildF (E := eInt) (e := 3) [(.int .i64 n)] [n] Tryd.underlying38 sz3 zr3 (by exact reps1 (by rfl)) (ones1 (by rfl)) rfl rfl rfl rfl (by decide) hX43.pins (fun u45 w46 ho47 hp48 hl49 hk50 => ?_)))
          have hX51 := hX43.step hp48 hl49
          have ho52 := ho39.below hl49
          have ha53 : Apart u45.ownBlock u37.ownBlock := new_ne_own hk50 ho39.lt
          have ho54 : Own eInt 3 G w46 w.heap.size u45 ([n]) := ho47.weaken hX43.size
          refine ⟨fun _ => hX51.pins, ?_⟩
          refine dr_one (i := 7) (by kernel_rfl) (drOp1 (i := 7) rfl rfl rfl (want_none rfl _) (o_append (E := eInt) (v := u37) (u := u45) 8 Tryd.underlying38 ap3 (by decide) rfl rfl hX51.pins ho52 ho54.src (by first | omega | (rw [List.nil_append]; omega) | (rw [List.length_nil]; omega) | (rw [List.length_append]; omega) | (simp; done) | (simp; omega) | (simp only [List.length_append, List.length_cons, List.length_nil]; omega)) (by first | omega | (rw [List.nil_append]; omega) | (rw [List.length_nil]; omega) | (rw [List.length_append]; omega) | (simp; done) | (simp; omega) | (simp only [List.length_append, List.length_cons, List.length_nil]; omega)) (hX51.size) (fun u55 w56 ho57 hp58 hg59 hw60 => ?_)))
          have hX61 := hX51.write hp58 hg59 ((lo_own ho52))
          have ha63 : Apart u45.ownBlock u55.ownBlock := app_ne_own ha53 hw60 ho54.lt
          have hm64 : ((([]) ++ ((xs.take j).drop 0)) ++ ([n])).length = (([]) ++ ((xs.take j).drop 0)).length + 1 := List.length_append
          refine ⟨fun _ => hX61.pins, ?_⟩
          refine dr_one (i := 11) (by kernel_rfl) (drOp1 (i := 11) rfl rfl rfl (want_none rfl _) (o_append (E := eInt) (v := u55) (u := u26) 8 Tryd.underlying38 ap3 (by decide) rfl rfl hX61.pins ho57 ((hr27.mono (Pin.le_refl _)).src hX61.pins (by decide)) (by first | omega | (rw [List.nil_append]; omega) | (rw [List.length_nil]; omega) | (rw [List.length_append]; omega) | (simp; done) | (simp; omega) | (simp only [List.length_append, List.length_cons, List.length_nil]; omega)) (by first | omega | (rw [List.nil_append]; omega) | (rw [List.length_nil]; omega) | (rw [List.length_append]; omega) | (simp; done) | (simp; omega) | (simp only [List.length_append, List.length_cons, List.length_nil]; omega)) (hX61.size) (fun u65 w66 ho67 hp68 hg69 hw70 => ?_)))
          have hX71 := hX61.write hp68 hg69 ((lo_own ho57))
          have hm72 : (((([]) ++ ((xs.take j).drop 0)) ++ ([n])) ++ ((xs.take xs.length).drop j)).length = ((([]) ++ ((xs.take j).drop 0)) ++ ([n])).length + ((xs.take xs.length).drop j).length := List.length_append
          refine ⟨fun _ => hX71.pins, ?_⟩
          refine dr_take (i := 12) rfl rfl rfl (want_none rfl _) (by kernel_rfl) (fun _ _ => r_assign (v := u65) rfl) hX71.pins ?_
          refine dr_end (by kernel_rfl) ?_
          exact cut_in ⟨_, u65, G, (pack1 (x := 4) rfl), hX71, (Pin.le_refl _), ho67⟩
        · skip
          refine (drOp1 (i := 6) rfl rfl rfl (want_none rfl _) (o_buildF (E := eInt) (e := 3) [(.int .i64 n)] [n] Tryd.underlying38 sz3 zr3 (by exact reps1 (by rfl)) (ones1 (by rfl)) rfl rfl rfl rfl (by decide) hX35.pins (fun u73 w74 ho75 hp76 hl77 hk78 => ?_)))
          have hX79 := hX35.step hp76 hl77
          have ho80 := ho36.below hl77
          have ha81 : Apart u73.ownBlock u29.ownBlock := new_ne_own hk78 ho36.lt
          have ho82 : Own eInt 3 G w74 w.heap.size u73 ([n]) := ho75.weaken hX35.size
          refine ⟨fun _ => hX79.pins, ?_⟩
          refine dr_one (i := 4) (by kernel_rfl) (drOp1 (i := 4) rfl rfl rfl (want_none rfl _) (o_append (E := eInt) (v := u29) (u := u23) 8 Tryd.underlying38 ap3 (by decide) rfl rfl hX79.pins ho80 ((hr24.mono (Pin.le_refl _)).src hX79.pins (by decide)) (by first | omega | (rw [List.nil_append]; omega) | (rw [List.length_nil]; omega) | (rw [List.length_append]; omega) | (simp; done) | (simp; omega) | (simp only [List.length_append, List.length_cons, List.length_nil]; omega)) (by first | omega | (rw [List.nil_append]; omega) | (rw [List.length_nil]; omega) | (rw [List.length_append]; omega) | (simp; done) | (simp; omega) | (simp only [List.length_append, List.length_cons, List.length_nil]; omega)) (hX79.size) (fun u83 w84 ho85 hp86 hg87 hw88 => ?_)))
          have hX89 := hX79.write hp86 hg87 ((lo_own ho80))
          have ho90 := ho82.keptA hg87 ha81
          have ha91 : Apart u73.ownBlock u83.ownBlock := app_ne_own ha81 hw88 ho82.lt
          have hm92 : (([]) ++ ((xs.take j).drop 0)).length = ([]).length + ((xs.take j).drop 0).length := List.length_append
          refine ⟨fun _ => hX89.pins, ?_⟩
          refine dr_one (i := 7) (by kernel_rfl) (drOp1 (i := 7) rfl rfl rfl (want_none rfl _) (o_append (E := eInt) (v := u83) (u := u73) 8 Tryd.underlying38 ap3 (by decide) rfl rfl hX89.pins ho85 ho90.src (by first | omega | (rw [List.nil_append]; omega) | (rw [List.length_nil]; omega) | (rw [List.length_append]; omega) | (simp; done) | (simp; omega) | (simp only [List.length_append, List.length_cons, List.length_nil]; omega)) (by first | omega | (rw [List.nil_append]; omega) | (rw [List.length_nil]; omega) | (rw [List.length_append]; omega) | (simp; done) | (simp; omega) | (simp only [List.length_append, List.length_cons, List.length_nil]; omega)) (hX89.size) (fun u93 w94 ho95 hp96 hg97 hw98 => ?_)))
          have hX99 := hX89.write hp96 hg97 ((lo_own ho85))
          have ha101 : Apart u73.ownBlock u93.ownBlock := app_ne_own ha91 hw98 ho90.lt
          have hm102 : ((([]) ++ ((xs.take j).drop 0)) ++ ([n])).length = (([]) ++ ((xs.take j).drop 0)).length + 1 := List.length_append
          refine ⟨fun _ => hX99.pins, ?_⟩
          refine dr_one (i := 11) (by kernel_rfl) (drOp1 (i := 11) rfl rfl rfl (want_none rfl _) (o_append (E := eInt) (v := u93) (u := u26) 8 Tryd.underlying38 ap3 (by decide) rfl rfl hX99.pins ho95 ((hr27.mono (Pin.le_refl _)).src hX99.pins (by decide)) (by first | omega | (rw [List.nil_append]; omega) | (rw [List.length_nil]; omega) | (rw [List.length_append]; omega) | (simp; done) | (simp; omega) | (simp only [List.length_append, List.length_cons, List.length_nil]; omega)) (by first | omega | (rw [List.nil_append]; omega) | (rw [List.length_nil]; omega) | (rw [List.length_append]; omega) | (simp; done) | (simp; omega) | (simp only [List.length_append, List.length_cons, List.length_nil]; omega)) (hX99.size) (fun u103 w104 ho105 hp106 hg107 hw108 => ?_)))
          have hX109 := hX99.write hp106 hg107 ((lo_own ho95))
          have hm110 : (((([]) ++ ((xs.take j).drop 0)) ++ ([n])) ++ ((xs.take xs.length).drop j)).length = ((([]) ++ ((xs.take j).drop 0)) ++ ([n])).length + ((xs.take xs.length).drop j).length := List.length_append
          refine ⟨fun _ => hX109.pins, ?_⟩
          refine dr_take (i := 12) rfl rfl rfl (want_none rfl _) (by kernel_rfl) (fun _ _ => r_assign (v := u103) rfl) hX109.pins ?_
          refine dr_end (by kernel_rfl) ?_
          exact cut_in ⟨_, u103, G, (pack1 (x := 4) rfl), hX109, (Pin.le_refl _), ho105⟩
      · skip
        refine (drOp1 (i := 6) rfl rfl rfl (want_none rfl _) (o_buildF (E := eInt) (e := 3) [(.int .i64 n)] [n] Tryd.underlying38 sz3 zr3 (by exact reps1 (by rfl)) (ones1 (by rfl)) rfl rfl rfl rfl (by decide) hX22.pins (fun u111 w112 ho113 hp114 hl115 hk116 => ?_)))
        have hX117 := hX22.step hp114 hl115
        have ho118 : Own eInt 3 G w112 w.heap.size u111 ([n]) := ho113.weaken hX22.size
        refine ⟨fun _ => hX117.pins, ?_⟩
        refine dr_one (i := 0) (by kernel_rfl) (drOp1 (i := 0) rfl rfl rfl (want_none rfl _) (o_build0 (E := eInt) (e := 3) Tryd.underlying38 sz3 hX117.pins (fun u119 w120 ho121 hp122 hl123 hk124 => ?_)))
        have hX125 := hX117.step hp122 hl123
        have ho126 := ho118.below hl123
        have ha127 : Apart u119.ownBlock u111.ownBlock := new_ne_own hk124 ho118.lt
        have ho128 : Own eInt 3 G w120 w.heap.size u119 ([]) := ho121.weaken hX117.size
        refine ⟨fun _ => hX125.pins, ?_⟩
        refine dr_one (i := 4) (by kernel_rfl) (drOp1 (i := 4) rfl rfl rfl (want_none rfl _) (o_append (E := eInt) (v := u119) (u := u23) 8 Tryd.underlying38 ap3 (by decide) rfl rfl hX125.pins ho128 ((hr24.mono (Pin.le_refl _)).src hX125.pins (by decide)) (by first | omega | (rw [List.nil_append]; omega) | (rw [List.length_nil]; omega) | (rw [List.length_append]; omega) | (simp; done) | (simp; omega) | (simp only [List.length_append, List.length_cons, List.length_nil]; omega)) (by first | omega | (rw [List.nil_append]; omega) | (rw [List.length_nil]; omega) | (rw [List.length_append]; omega) | (simp; done) | (simp; omega) | (simp only [List.length_append, List.length_cons, List.length_nil]; omega)) (hX125.size) (fun u129 w130 ho131 hp132 hg133 hw134 => ?_)))
        have hX135 := hX125.write hp132 hg133 ((lo_own ho128))
        have ho136 := ho126.keptA hg133 ha127.symm
        have ha137 : Apart u111.ownBlock u129.ownBlock := app_ne_own ha127.symm hw134 ho126.lt
        have hm138 : (([]) ++ ((xs.take j).drop 0)).length = ([]).length + ((xs.take j).drop 0).length := List.length_append
        refine ⟨fun _ => hX135.pins, ?_⟩
        refine dr_one (i := 7) (by kernel_rfl) (drOp1 (i := 7) rfl rfl rfl (want_none rfl _) (o_append (E := eInt) (v := u129) (u := u111) 8 Tryd.underlying38 ap3 (by decide) rfl rfl hX135.pins ho131 ho136.src (by first | omega | (rw [List.nil_append]; omega) | (rw [List.length_nil]; omega) | (rw [List.length_append]; omega) | (simp; done) | (simp; omega) | (simp only [List.length_append, List.length_cons, List.length_nil]; omega)) (by first | omega | (rw [List.nil_append]; omega) | (rw [List.length_nil]; omega) | (rw [List.length_append]; omega) | (simp; done) | (simp; omega) | (simp only [List.length_append, List.length_cons, List.length_nil]; omega)) (hX135.size) (fun u139 w140 ho141 hp142 hg143 hw144 => ?_)))
        have hX145 := hX135.write hp142 hg143 ((lo_own ho131))
        have ha147 : Apart u111.ownBlock u139.ownBlock := app_ne_own ha137 hw144 ho136.lt
        have hm148 : ((([]) ++ ((xs.take j).drop 0)) ++ ([n])).length = (([]) ++ ((xs.take j).drop 0)).length + 1 := List.length_append
        refine ⟨fun _ => hX145.pins, ?_⟩
        refine dr_one (i := 11) (by kernel_rfl) (drOp1 (i := 11) rfl rfl rfl (want_none rfl _) (o_append (E := eInt) (v := u139) (u := u26) 8 Tryd.underlying38 ap3 (by decide) rfl rfl hX145.pins ho141 ((hr27.mono (Pin.le_refl _)).src hX145.pins (by decide)) (by first | omega | (rw [List.nil_append]; omega) | (rw [List.length_nil]; omega) | (rw [List.length_append]; omega) | (simp; done) | (simp; omega) | (simp only [List.length_append, List.length_cons, List.length_nil]; omega)) (by first | omega | (rw [List.nil_append]; omega) | (rw [List.length_nil]; omega) | (rw [List.length_append]; omega) | (simp; done) | (simp; omega) | (simp only [List.length_append, List.length_cons, List.length_nil]; omega)) (hX145.size) (fun u149 w150 ho151 hp152 hg153 hw154 => ?_)))
        have hX155 := hX145.write hp152 hg153 ((lo_own ho141))
        have hm156 : (((([]) ++ ((xs.take j).drop 0)) ++ ([n])) ++ ((xs.take xs.length).drop j)).length = ((([]) ++ ((xs.take j).drop 0)) ++ ([n])).length + ((xs.take xs.length).drop j).length := List.length_append
        refine ⟨fun _ => hX155.pins, ?_⟩
        refine dr_take (i := 12) rfl rfl rfl (want_none rfl _) (by kernel_rfl) (fun _ _ => r_assign (v := u149) rfl) hX155.pins ?_
        refine dr_end (by kernel_rfl) ?_
        exact cut_in ⟨_, u149, G, (pack1 (x := 4) rfl), hX155, (Pin.le_refl _), ho151⟩
  refine qs rfl rfl rfl rfl rfl rfl ?_
  refine qs rfl rfl rfl rfl rfl rfl ?_
  refine qs rfl rfl rfl rfl rfl rfl ?_
  refine qs rfl rfl rfl rfl rfl rfl ?_
  refine qs rfl rfl rfl rfl rfl rfl ?_
  refine qs rfl rfl rfl rfl rfl rfl ?_
  refine qd rfl rfl rfl (r_pickF (v := (.bool false)) rfl rfl) ?_
  refine qe ?_
  refine s_then ?_
  refine c_ifF rfl rfl ?_
  refine wp_exit ?_
  refine s_thenE ?_
  refine s_lopE ?_
  refine s_blkE ?_
  refine s_then ?_
  refine s_seq ?_
  refine s_seq ?_
  refine c_reg ?_
  refine qd rfl rfl rfl (r_move (v := (.int .i64 (j : Int))) rfl) ?_
  refine qd rfl rfl rfl (r_move (v := v) rfl) ?_
  refine qd rfl rfl rfl (run_len Tryd.underlying38 (v := v) rfl hv) ?_
  refine qd rfl rfl rfl (r_lss rfl rfl) ?_
  refine qd rfl rfl rfl (r_move (v := (.bool (decide (((j : Int) : Int) < (xs.length : Int))))) rfl) ?_
  refine qbd (p := ((j : Int) : Int) < (xs.length : Int)) (t := 24) rfl (fun h => absurd h h5) (fun _ => ?_)
  refine qs rfl rfl rfl rfl rfl rfl ?_
  refine qs rfl rfl rfl rfl rfl rfl ?_
  refine qs rfl rfl rfl rfl rfl rfl ?_
  refine qs rfl rfl rfl rfl rfl rfl ?_
  refine qs rfl rfl rfl rfl rfl rfl ?_
  refine qs rfl rfl rfl rfl rfl rfl ?_
  refine qd rfl rfl rfl (r_pickF (v := (.bool false)) rfl rfl) ?_
  refine qe ?_
  refine s_then ?_
  refine c_ifF rfl rfl ?_
  refine wp_skip ?_
  refine s_then ?_
  refine s_seq ?_
  refine c_cut (fun (en : Nat → Value) (W : World) => ∃ (env1 : Nat → Value) (c158 : Value) (G159 : Pin), en = (upd env1 4 c158) ∧ Ext noS G w G159 W ∧ Pin.le G G159 ∧ (Own eInt 3 G159 W w.heap.size c158 (((([]) ++ ((xs.take j).drop 0)) ++ ([n])) ++ ((xs.take xs.length).drop j)))) ?_ ?_
  · rintro _ w160 ⟨env1, c158, G159, rfl, hX162, hle163, ho161⟩
    refine s_then ?_
    refine wp_ret ?_
    refine s_ret ?_
    refine c_ret1 (v := c158) rfl rfl rfl ?_
    obtain ⟨G164, hle167, hX166, hr165, hf168⟩ := ho161.sealed hX162
    exact ⟨_, _, rfl, (by rw [← put_new (fun h => ⟨by omega, by omega⟩) hr]; exact hr165), hX166⟩
  · skip
    refine c_draw (S := fun wz => Pins G wz) (last := 13) (by kernel_rfl) rfl ?_
    have hl169 : Below w2.heap.size w2 w2.drew := (Below.refl _ _).drew
    have hp170 := hX4.pins.below hl169
    have hX171 := hX4.step hp170 hl169
    refine dr_take (i := 1) rfl rfl rfl (want_none rfl _) (by kernel_rfl) (fun _ _ => r_move (v := v) rfl) hX171.pins ?_
    refine dr_take (i := 2) rfl rfl rfl (want_none rfl _) (by kernel_rfl) (fun _ _ => r_move (v := (.int .i64 (j : Int))) rfl) hX171.pins ?_
    obtain ⟨u172, hr173, hl174⟩ := name_slice hv (lo := none) (hi := (some ((j : Int)))) (0) (j) (Or.inl ⟨rfl, rfl⟩) (Or.inr ⟨_, rfl, (by omega), rfl⟩) (by omega) (by omega)
    refine dr_take (i := 3) rfl rfl rfl (want_none rfl _) (by kernel_rfl) (fun _ _ => hl174 Tryd.underlying38 sz3 rfl rfl rfl) hX171.pins ?_
    refine dr_take (i := 5) rfl rfl rfl (want_none rfl _) (by kernel_rfl) (fun _ _ => r_move (v := (.int .i64 n)) rfl) hX171.pins ?_
    refine dr_take (i := 8) rfl rfl rfl (want_none rfl _) (by kernel_rfl) (fun _ _ => r_move (v := v) rfl) hX171.pins ?_
    refine dr_take (i := 9) rfl rfl rfl (want_none rfl _) (by kernel_rfl) (fun _ _ => r_move (v := (.int .i64 (j : Int))) rfl) hX171.pins ?_
    obtain ⟨u175, hr176, hl177⟩ := name_slice hv (lo := (some ((j : Int)))) (hi := none) (j) (xs.length) (Or.inr ⟨_, rfl, (by omega), rfl⟩) (Or.inl ⟨rfl, rfl⟩) (by omega) (by omega)
    refine dr_take (i := 10) rfl rfl rfl (want_none rfl _) (by kernel_rfl) (fun _ _ => hl177 Tryd.underlying38 sz3 rfl rfl rfl) hX171.pins ?_
    refine dr_two (i := 0) (j := 6) (by kernel_rfl) ?_ ?_
    · skip
      refine (drOp1 (i := 0) rfl rfl rfl (want_none rfl _) (o_build0 (E := eInt) (e := 3) Tryd.underlying38 sz3 hX171.pins (fun u178 w179 ho180 hp181 hl182 hk183 => ?_)))
      have hX184 := hX171.step hp181 hl182
      have ho185 : Own eInt 3 G w179 w.heap.size u178 ([]) := ho180.weaken hX171.size
      refine ⟨fun _ => hX184.pins, ?_⟩
      refine dr_two (i := 4) (j := 6) (by kernel_rfl) ?_ ?_
      · skip
        refine (drOp1 (i := 4) rfl rfl rfl (want_none rfl _) (o_append (E := eInt) (v := u178) (u := u172) 8 Tryd.underlying38 ap3 (by decide) rfl rfl hX184.pins ho185 ((hr173.mono (Pin.le_refl _)).src hX184.pins (by decide)) (by first | omega | (rw [List.nil_append]; omega) | (rw [List.length_nil]; omega) | (rw [List.length_append]; omega) | (simp; done) | (simp; omega) | (simp only [List.length_append, List.length_cons, List.length_nil]; omega)) (by first | omega | (rw [List.nil_append]; omega) | (rw [List.length_nil]; omega) | (rw [List.length_append]; omega) | (simp; done) | (simp; omega) | (simp only [List.length_append, List.length_cons, List.length_nil]; omega)) (hX184.size) (fun u186 w187 ho188 hp189 hg190 hw191 => ?_)))
        have hX192 := hX184.write hp189 hg190 ((lo_own ho185))
        have hm193 : (([]) ++ ((xs.take j).drop 0)).length = ([]).length + ((xs.take j).drop 0).length := List.length_append
        refine ⟨fun _ => hX192.pins, ?_⟩
        refine dr_one (i := 6) (by kernel_rfl) (drOp1 (i := 6) rfl rfl rfl (want_none rfl _) (o_buildF (E := eInt) (e := 3) [(.int .i64 n)] [n] Tryd.underlying38 sz3 zr3 (by exact reps1 (by rfl)) (ones1 (by rfl)) rfl rfl rfl rfl (by decide) hX192.pins (fun u194 w195 ho196 hp197 hl198 hk199 => ?_)))
        have hX200 := hX192.step hp197 hl198
        have ho201 := ho188.below hl198
        have ha202 : Apart u194.ownBlock u186.ownBlock := new_ne_own hk199 ho188.lt
        have ho203 : Own eInt 3 G w195 w.heap.size u194 ([n]) := ho196.weaken hX192.size
        refine ⟨fun _ => hX200.pins, ?_⟩
        refine dr_one (i := 7) (by kernel_rfl) (drOp1 (i := 7) rfl rfl rfl (want_none rfl _) (o_append (E := eInt) (v := u186) (u := u194) 8 Tryd.underlying38 ap3 (by decide) rfl rfl hX200.pins ho201 ho203.src (by first | omega | (rw [List.nil_append]; omega) | (rw [List.length_nil]; omega) | (rw [List.length_append]; omega) | (simp; done) | (simp; omega) | (simp only [List.length_append, List.length_cons, List.length_nil]; omega)) (by first | omega | (rw [List.nil_append]; omega) | (rw [List.length_nil]; omega) | (rw [List.length_append]; omega) | (simp; done) | (simp; omega) | (simp only [List.length_append, List.length_cons, List.length_nil]; omega)) (hX200.size) (fun u204 w205 ho206 hp207 hg208 hw209 => ?_)))
        have hX210 := hX200.write hp207 hg208 ((lo_own ho201))
        have ha212 : Apart u194.ownBlock u204.ownBlock := app_ne_own ha202 hw209 ho203.lt
        have hm213 : ((([]) ++ ((xs.take j).drop 0)) ++ ([n])).length = (([]) ++ ((xs.take j).drop 0)).length + 1 := List.length_append
        refine ⟨fun _ => hX210.pins, ?_⟩
        refine dr_one (i := 11) (by kernel_rfl) (drOp1 (i := 11) rfl rfl rfl (want_none rfl _) (o_append (E := eInt) (v := u204) (u := u175) 8 Tryd.underlying38 ap3 (by decide) rfl rfl hX210.pins ho206 ((hr176.mono (Pin.le_refl _)).src hX210.pins (by decide)) (by first | omega | (rw [List.nil_append]; omega) | (rw [List.length_nil]; omega) | (rw [List.length_append]; omega) | (simp; done) | (simp; omega) | (simp only [List.length_append, List.length_cons, List.length_nil]; omega)) (by first | omega | (rw [List.nil_append]; omega) | (rw [List.length_nil]; omega) | (rw [List.length_append]; omega) | (simp; done) | (simp; omega) | (simp only [List.length_append, List.length_cons, List.length_nil]; omega)) (hX210.size) (fun u214 w215 ho216 hp217 hg218 hw219 => ?_)))
        have hX220 := hX210.write hp217 hg218 ((lo_own ho206))
        have hm221 : (((([]) ++ ((xs.take j).drop 0)) ++ ([n])) ++ ((xs.take xs.length).drop j)).length = ((([]) ++ ((xs.take j).drop 0)) ++ ([n])).length + ((xs.take xs.length).drop j).length := List.length_append
        refine ⟨fun _ => hX220.pins, ?_⟩
        refine dr_take (i := 12) rfl rfl rfl (want_none rfl _) (by kernel_rfl) (fun _ _ => r_assign (v := u214) rfl) hX220.pins ?_
        refine dr_end (by kernel_rfl) ?_
        exact cut_in ⟨_, u214, G, (pack1 (x := 4) rfl), hX220, (Pin.le_refl _), ho216⟩
      · skip
        refine (drOp1 (i := 6) rfl rfl rfl (want_none rfl _) (o_buildF (E := eInt) (e := 3) [(.int .i64 n)] [n] Tryd.underlying38 sz3 zr3 (by exact reps1 (by rfl)) (ones1 (by rfl)) rfl rfl rfl rfl (by decide) hX184.pins (fun u222 w223 ho224 hp225 hl226 hk227 => ?_)))
        have hX228 := hX184.step hp225 hl226
        have ho229 := ho185.below hl226
        have ha230 : Apart u222.ownBlock u178.ownBlock := new_ne_own hk227 ho185.lt
        have ho231 : Own eInt 3 G w223 w.heap.size u222 ([n]) := ho224.weaken hX184.size
        refine ⟨fun _ => hX228.pins, ?_⟩
        refine dr_one (i := 4) (by kernel_rfl) (drOp1 (i := 4) rfl rfl rfl (want_none rfl _) (o_append (E := eInt) (v := u178) (u := u172) 8 Tryd.underlying38 ap3 (by decide) rfl rfl hX228.pins ho229 ((hr173.mono (Pin.le_refl _)).src hX228.pins (by decide)) (by first | omega | (rw [List.nil_append]; omega) | (rw [List.length_nil]; omega) | (rw [List.length_append]; omega) | (simp; done) | (simp; omega) | (simp only [List.length_append, List.length_cons, List.length_nil]; omega)) (by first | omega | (rw [List.nil_append]; omega) | (rw [List.length_nil]; omega) | (rw [List.length_append]; omega) | (simp; done) | (simp; omega) | (simp only [List.length_append, List.length_cons, List.length_nil]; omega)) (hX228.size) (fun u232 w233 ho234 hp235 hg236 hw237 => ?_)))
        have hX238 := hX228.write hp235 hg236 ((lo_own ho229))
        have ho239 := ho231.keptA hg236 ha230
        have ha240 : Apart u222.ownBlock u232.ownBlock := app_ne_own ha230 hw237 ho231.lt
        have hm241 : (([]) ++ ((xs.take j).drop 0)).length = ([]).length + ((xs.take j).drop 0).length := List.length_append
        refine ⟨fun _ => hX238.pins, ?_⟩
        refine dr_one (i := 7) (by kernel_rfl) (drOp1 (i := 7) rfl rfl rfl (want_none rfl _) (o_append (E := eInt) (v := u232) (u := u222) 8 Tryd.underlying38 ap3 (by decide) rfl rfl hX238.pins ho234 ho239.src (by first | omega | (rw [List.nil_append]; omega) | (rw [List.length_nil]; omega) | (rw [List.length_append]; omega) | (simp; done) | (simp; omega) | (simp only [List.length_append, List.length_cons, List.length_nil]; omega)) (by first | omega | (rw [List.nil_append]; omega) | (rw [List.length_nil]; omega) | (rw [List.length_append]; omega) | (simp; done) | (simp; omega) | (simp only [List.length_append, List.length_cons, List.length_nil]; omega)) (hX238.size) (fun u242 w243 ho244 hp245 hg246 hw247 => ?_)))
        have hX248 := hX238.write hp245 hg246 ((lo_own ho234))
        have ha250 : Apart u222.ownBlock u242.ownBlock := app_ne_own ha240 hw247 ho239.lt
        have hm251 : ((([]) ++ ((xs.take j).drop 0)) ++ ([n])).length = (([]) ++ ((xs.take j).drop 0)).length + 1 := List.length_append
        refine ⟨fun _ => hX248.pins, ?_⟩
        refine dr_one (i := 11) (by kernel_rfl) (drOp1 (i := 11) rfl rfl rfl (want_none rfl _) (o_append (E := eInt) (v := u242) (u := u175) 8 Tryd.underlying38 ap3 (by decide) rfl rfl hX248.pins ho244 ((hr176.mono (Pin.le_refl _)).src hX248.pins (by decide)) (by first | omega | (rw [List.nil_append]; omega) | (rw [List.length_nil]; omega) | (rw [List.length_append]; omega) | (simp; done) | (simp; omega) | (simp only [List.length_append, List.length_cons, List.length_nil]; omega)) (by first | omega | (rw [List.nil_append]; omega) | (rw [List.length_nil]; omega) | (rw [List.length_append]; omega) | (simp; done) | (simp; omega) | (simp only [List.length_append, List.length_cons, List.length_nil]; omega)) (hX248.size) (fun u252 w253 ho254 hp255 hg256 hw257 => ?_)))
        have hX258 := hX248.write hp255 hg256 ((lo_own ho244))
        have hm259 : (((([]) ++ ((xs.take j).drop 0)) ++ ([n])) ++ ((xs.take xs.length).drop j)).length = ((([]) ++ ((xs.take j).drop 0)) ++ ([n])).length + ((xs.take xs.length).drop j).length := List.length_append
        refine ⟨fun _ => hX258.pins, ?_⟩
        refine dr_take (i := 12) rfl rfl rfl (want_none rfl _) (by kernel_rfl) (fun _ _ => r_assign (v := u252) rfl) hX258.pins ?_
        refine dr_end (by kernel_rfl) ?_
        exact cut_in ⟨_, u252, G, (pack1 (x := 4) rfl), hX258, (Pin.le_refl _), ho254⟩
    · skip
      refine (drOp1 (i := 6) rfl rfl rfl (want_none rfl _) (o_buildF (E := eInt) (e := 3) [(.int .i64 n)] [n] Tryd.underlying38 sz3 zr3 (by exact reps1 (by rfl)) (ones1 (by rfl)) rfl rfl rfl rfl (by decide) hX171.pins (fun u260 w261 ho262 hp263 hl264 hk265 => ?_)))
      have hX266 := hX171.step hp263 hl264
      have ho267 : Own eInt 3 G w261 w.heap.size u260 ([n]) := ho262.weaken hX171.size
      refine ⟨fun _ => hX266.pins, ?_⟩
      refine dr_one (i := 0) (by kernel_rfl) (drOp1 (i := 0) rfl rfl rfl (want_none rfl _) (o_build0 (E := eInt) (e := 3) Tryd.underlying38 sz3 hX266.pins (fun u268 w269 ho270 hp271 hl272 hk273 => ?_)))
      have hX274 := hX266.step hp271 hl272
      have ho275 := ho267.below hl272
      have ha276 : Apart u268.ownBlock u260.ownBlock := new_ne_own hk273 ho267.lt
      have ho277 : Own eInt 3 G w269 w.heap.size u268 ([]) := ho270.weaken hX266.size
      refine ⟨fun _ => hX274.pins, ?_⟩
      refine dr_one (i := 4) (by kernel_rfl) (drOp1 (i := 4) rfl rfl rfl (want_none rfl _) (o_append (E := eInt) (v := u268) (u := u172) 8 Tryd.underlying38 ap3 (by decide) rfl rfl hX274.pins ho277 ((hr173.mono (Pin.le_refl _)).src hX274.pins (by decide)) (by first | omega | (rw [List.nil_append]; omega) | (rw [List.length_nil]; omega) | (rw [List.length_append]; omega) | (simp; done) | (simp; omega) | (simp only [List.length_append, List.length_cons, List.length_nil]; omega)) (by first | omega | (rw [List.nil_append]; omega) | (rw [List.length_nil]; omega) | (rw [List.length_append]; omega) | (simp; done) | (simp; omega) | (simp only [List.length_append, List.length_cons, List.length_nil]; omega)) (hX274.size) (fun u278 w279 ho280 hp281 hg282 hw283 => ?_)))
      have hX284 := hX274.write hp281 hg282 ((lo_own ho277))
      have ho285 := ho275.keptA hg282 ha276.symm
      have ha286 : Apart u260.ownBlock u278.ownBlock := app_ne_own ha276.symm hw283 ho275.lt
      have hm287 : (([]) ++ ((xs.take j).drop 0)).length = ([]).length + ((xs.take j).drop 0).length := List.length_append
      refine ⟨fun _ => hX284.pins, ?_⟩
      refine dr_one (i := 7) (by kernel_rfl) (drOp1 (i := 7) rfl rfl rfl (want_none rfl _) (o_append (E := eInt) (v := u278) (u := u260) 8 Tryd.underlying38 ap3 (by decide) rfl rfl hX284.pins ho280 ho285.src (by first | omega | (rw [List.nil_append]; omega) | (rw [List.length_nil]; omega) | (rw [List.length_append]; omega) | (simp; done) | (simp; omega) | (simp only [List.length_append, List.length_cons, List.length_nil]; omega)) (by first | omega | (rw [List.nil_append]; omega) | (rw [List.length_nil]; omega) | (rw [List.length_append]; omega) | (simp; done) | (simp; omega) | (simp only [List.length_append, List.length_cons, List.length_nil]; omega)) (hX284.size) (fun u288 w289 ho290 hp291 hg292 hw293 => ?_)))
      have hX294 := hX284.write hp291 hg292 ((lo_own ho280))
      have ha296 : Apart u260.ownBlock u288.ownBlock := app_ne_own ha286 hw293 ho285.lt
      have hm297 : ((([]) ++ ((xs.take j).drop 0)) ++ ([n])).length = (([]) ++ ((xs.take j).drop 0)).length + 1 := List.length_append
      refine ⟨fun _ => hX294.pins, ?_⟩
      refine dr_one (i := 11) (by kernel_rfl) (drOp1 (i := 11) rfl rfl rfl (want_none rfl _) (o_append (E := eInt) (v := u288) (u := u175) 8 Tryd.underlying38 ap3 (by decide) rfl rfl hX294.pins ho290 ((hr176.mono (Pin.le_refl _)).src hX294.pins (by decide)) (by first | omega | (rw [List.nil_append]; omega) | (rw [List.length_nil]; omega) | (rw [List.length_append]; omega) | (simp; done) | (simp; omega) | (simp only [List.length_append, List.length_cons, List.length_nil]; omega)) (by first | omega | (rw [List.nil_append]; omega) | (rw [List.length_nil]; omega) | (rw [List.length_append]; omega) | (simp; done) | (simp; omega) | (simp only [List.length_append, List.length_cons, List.length_nil]; omega)) (hX294.size) (fun u298 w299 ho300 hp301 hg302 hw303 => ?_)))
      have hX304 := hX294.write hp301 hg302 ((lo_own ho290))
      have hm305 : (((([]) ++ ((xs.take j).drop 0)) ++ ([n])) ++ ((xs.take xs.length).drop j)).length = ((([]) ++ ((xs.take j).drop 0)) ++ ([n])).length + ((xs.take xs.length).drop j).length := List.length_append
      refine ⟨fun _ => hX304.pins, ?_⟩
      refine dr_take (i := 12) rfl rfl rfl (want_none rfl _) (by kernel_rfl) (fun _ _ => r_assign (v := u298) rfl) hX304.pins ?_
      refine dr_end (by kernel_rfl) ?_
      exact cut_in ⟨_, u298, G, (pack1 (x := 4) rfl), hX304, (Pin.le_refl _), ho300⟩

theorem l1Same_spec {w : World} {G : Pin} {u v : Value} {xs ys : List Int} (hP : Pins G w) (hu : RSl eInt G u xs) (hv : RSl eInt G v ys) :
    Calls Tryd.prog 78 [u, v].toArray w fun e w' => e = .returned (.bool (decide (xs = ys))) ∧ Ext noS G w G w' := by
  refine s_enter (n := 26) Tryd.func78 Tryd.ntmps78 rfl rfl ?_
  have hX0 : Ext noS G w G w := Ext.refl hP
  have hm := hu.max
  refine s_seq ?_
  refine c_reg ?_
  refine qd rfl rfl rfl (r_assign (v := (.bool false)) rfl) ?_
  refine qe ?_
  refine s_then ?_
  refine s_seq ?_
  refine s_seq ?_
  refine c_reg ?_
  refine qd rfl rfl rfl (r_move (v := u) rfl) ?_
  refine qd rfl rfl rfl (run_len Tryd.underlying38 (v := u) rfl hu) ?_
  refine qd rfl rfl rfl (r_move (v := v) rfl) ?_
  refine qd rfl rfl rfl (run_len Tryd.underlying38 (v := v) rfl hv) ?_
  refine qd rfl rfl rfl (r_neq rfl rfl) ?_
  refine qe ?_
  refine s_then ?_
  refine c_ifd (p := ((xs.length : Int) : Int) ≠ (ys.length : Int)) rfl rfl (fun h1 => ?_) (fun h1 => ?_)
  · skip
    refine s_seq ?_
    refine c_reg ?_
    refine qd rfl rfl rfl (r_assign (v := (.bool false)) rfl) ?_
    refine qe ?_
    refine s_then ?_
    refine wp_ret ?_
    refine s_ret ?_
    refine c_ret1 (v := (.bool false)) rfl rfl rfl ?_
    exact ⟨congrArg (fun z => Ending.returned (Value.bool z)) (decide_eq_false (fun e => h1 (by rw [e]))).symm, hX0⟩
  refine wp_skip ?_
  refine s_then ?_
  refine s_seq ?_
  refine s_seq ?_
  refine c_reg ?_
  refine qd rfl rfl rfl (r_assign (v := (.int .i64 0)) rfl) ?_
  refine qe ?_
  refine s_then ?_
  refine s_blk ?_
  refine s_loop (fun (k : Nat) (en : Nat → Value) (W : World) => ∃ (env1 : Nat → Value) (j : Nat), en = (upd (upd (upd env1 0 u) 1 v) 5 (.int .i64 (j : Int))) ∧ k = xs.length - j ∧ Ext noS G w G W ∧ (j ≤ xs.length) ∧ (xs.length = ys.length) ∧ (∀ i, i < j → xs.getD i 0 = ys.getD i 0)) _ ⟨_, 0, (packS (x := 5) (packS (x := 1) (pack1 (x := 0) rfl) rfl) rfl), rfl, hX0, Nat.zero_le _, (by omega), (fun i hi => absurd hi (Nat.not_lt_zero i))⟩ ?_
  rintro k2 _ w3 ⟨env1, j, rfl, hk4, hX5, hj, heq, hp⟩
  refine s_seq ?_
  refine s_seq ?_
  refine c_reg ?_
  refine qd rfl rfl rfl (r_move (v := (.int .i64 (j : Int))) rfl) ?_
  refine qd rfl rfl rfl (r_move (v := u) rfl) ?_
  refine qd rfl rfl rfl (run_len Tryd.underlying38 (v := u) rfl hu) ?_
  refine qd rfl rfl rfl (r_lss rfl rfl) ?_
  refine qe ?_
  refine s_then ?_
  refine c_ifd (p := ((j : Int) : Int) < (xs.length : Int)) rfl rfl (fun h6 => ?_) (fun h6 => ?_)
  · skip
    refine wp_skip ?_
    refine s_then ?_
    refine s_seq ?_
    refine s_blk ?_
    refine s_seq ?_
    refine c_draw (S := fun wz => Pins G wz) (last := 9) (by kernel_rfl) rfl ?_
    have hl7 : Below w3.heap.size w3 w3.drew := (Below.refl _ _).drew
    have hp8 := hX5.pins.below hl7
    have hX9 := hX5.step hp8 hl7
    refine dr_take (i := 0) rfl rfl rfl (want_none rfl _) (by kernel_rfl) (fun _ _ => r_move (v := u) rfl) hX9.pins ?_
    refine dr_take (i := 1) rfl rfl rfl (want_none rfl _) (by kernel_rfl) (fun _ _ => r_move (v := (.int .i64 (j : Int))) rfl) hX9.pins ?_
    refine dr_take (i := 2) rfl rfl rfl (want_none rfl _) (by kernel_rfl) (fun _ _ => run_idx Tryd.underlying38 sz3 (v := u) rfl rfl hu (by omega) (by omega)) hX9.pins ?_
    refine dr_take (i := 3) rfl rfl rfl (want_none rfl _) (by kernel_rfl) (fun _ hS => run_load_int (r := xs.getD j 0) rfl ag3 (z := (j : Int)) rfl hu hS (by omega) (by omega)) hX9.pins ?_
    refine dr_take (i := 4) rfl rfl rfl (want_none rfl _) (by kernel_rfl) (fun _ _ => r_move (v := v) rfl) hX9.pins ?_
    refine dr_take (i := 5) rfl rfl rfl (want_none rfl _) (by kernel_rfl) (fun _ _ => r_move (v := (.int .i64 (j : Int))) rfl) hX9.pins ?_
    refine dr_take (i := 6) rfl rfl rfl (want_none rfl _) (by kernel_rfl) (fun _ _ => run_idx Tryd.underlying38 sz3 (v := v) rfl rfl hv (by omega) (by omega)) hX9.pins ?_
    refine dr_take (i := 7) rfl rfl rfl (want_none rfl _) (by kernel_rfl) (fun _ hS => run_load_int (r := ys.getD j 0) rfl ag3 (z := (j : Int)) rfl hv hS (by omega) (by omega)) hX9.pins ?_
    refine dr_take (i := 8) rfl rfl rfl (want_none rfl _) (by kernel_rfl) (fun _ _ => r_neq rfl rfl) hX9.pins ?_
    refine dr_end (by kernel_rfl) ?_
    refine s_then ?_
    refine c_ifd (p := (xs.getD j 0 : Int) ≠ (ys.getD j 0)) rfl rfl (fun h10 => ?_) (fun h10 => ?_)
    · skip
      refine s_seq ?_
      refine c_reg ?_
      refine qd rfl rfl rfl (r_assign (v := (.bool false)) rfl) ?_
      refine qe ?_
      refine s_then ?_
      refine wp_ret ?_
      refine s_ret ?_
      refine c_ret1 (v := (.bool false)) rfl rfl rfl ?_
      exact ⟨congrArg (fun z => Ending.returned (Value.bool z)) (decide_eq_false (fun e => h10 (by rw [e]))).symm, hX9⟩
    refine wp_skip ?_
    refine s_blkN ?_
    refine s_then ?_
    refine c_reg ?_
    refine qd rfl rfl rfl (r_move (v := (.int .i64 (j : Int))) rfl) ?_
    refine qd rfl rfl rfl (r_add rfl rfl (by omega)) ?_
    refine qd rfl rfl rfl (r_assign (v := (.int .i64 ((j : Int) + 1))) rfl) ?_
    refine qe ?_
    refine s_lopN ?_
    refine ⟨_, ?_, _, rfl, _, j + 1, (packS (x := 5) (packS (x := 1) (pack1 (x := 0) rfl) rfl) rfl), rfl, hX9, (by omega), heq, (eqstep hp h10)⟩
    omega
  refine wp_exit ?_
  refine s_thenE ?_
  refine s_lopE ?_
  refine s_blkE ?_
  refine s_then ?_
  refine s_seq ?_
  refine c_reg ?_
  refine qd rfl rfl rfl (r_assign (v := (.bool true)) rfl) ?_
  refine qe ?_
  refine s_then ?_
  refine wp_ret ?_
  refine s_ret ?_
  refine c_ret1 (v := (.bool true)) rfl rfl rfl ?_
  exact ⟨congrArg (fun z => Ending.returned (Value.bool z)) (decide_eq_true (eqdone heq (by omega) hp)).symm, hX5⟩

theorem l3At_spec {w : World} {G Gr : Pin} {u v : Value} {a xs : List Int} (hP : Pins G w) (hPr : Pins Gr w) (hu : RSl eInt Gr u a) (hv : RSl eInt G v xs) (hs : xs.length ≤ 1048576) (hk : ∀ i, i < xs.length → 0 ≤ xs.getD i 0 ∧ xs.getD i 0 < a.length) :
    Calls Tryd.prog 81 [u, v].toArray w fun e w' => ∃ (u : Value) (G' : Pin), e = .returned u ∧ Own eInt 3 G' w' w.heap.size u (atL a xs) ∧ Ext noS G w G' w' := by
  refine s_enter (n := 25) Tryd.func81 Tryd.ntmps81 rfl rfl ?_
  have hX0 : Ext noS G w G w := Ext.refl hP
  refine s_seq ?_
  refine c_reg ?_
  refine qd rfl rfl rfl (r_assign (v := (.slice none 0 0)) rfl) ?_
  refine qe ?_
  refine s_then ?_
  refine s_seq ?_
  refine c_reg ?_
  refine q1 rfl rfl rfl (o_build0 (E := eInt) (e := 3) Tryd.underlying38 sz3 hX0.pins (fun u1 w2 ho3 hp4 hl5 hk6 => ?_))
  have hX7 := hX0.step hp4 hl5
  have ho8 : Own eInt 3 G w2 w.heap.size u1 ([]) := ho3.weaken hX0.size
  refine qd rfl rfl rfl (r_assign (v := u1) rfl) ?_
  refine qe ?_
  refine s_then ?_
  refine s_seq ?_
  refine s_seq ?_
  refine c_reg ?_
  refine qd rfl rfl rfl (r_assign (v := (.int .i64 0)) rfl) ?_
  refine qe ?_
  refine s_then ?_
  refine s_blk ?_
  refine s_loop (fun (k : Nat) (en : Nat → Value) (W : World) => ∃ (env1 : Nat → Value) (j : Nat) (o : Value) (os : List Int), en = (upd (upd (upd (upd (upd env1 0 u) 1 v) 4 (.slice none 0 0)) 5 o) 6 (.int .i64 (j : Int))) ∧ k = xs.length - j ∧ Ext noS G w G W ∧ (j ≤ xs.length) ∧ (os = atL a (xs.take j)) ∧ (os.length = j) ∧ (Own eInt 3 G W w.heap.size o (os))) _ ⟨_, 0, u1, [], (packS (x := 6) (packS (x := 5) (packS (x := 4) (packS (x := 1) (pack1 (x := 0) rfl) rfl) rfl) rfl) rfl), rfl, hX7, Nat.zero_le _, rfl, rfl, ho8⟩ ?_
  rintro k9 _ w10 ⟨env1, j, o, os, rfl, hk11, hX12, hj, hr, hol, hw13⟩
  refine s_seq ?_
  refine s_seq ?_
  refine c_reg ?_
  refine qd rfl rfl rfl (r_move (v := (.int .i64 (j : Int))) rfl) ?_
  refine qd rfl rfl rfl (r_move (v := v) rfl) ?_
  refine qd rfl rfl rfl (run_len Tryd.underlying38 (v := v) rfl hv) ?_
  refine qd rfl rfl rfl (r_lss rfl rfl) ?_
  refine qe ?_
  refine s_then ?_
  refine c_ifd (p := ((j : Int) : Int) < (xs.length : Int)) rfl rfl (fun h14 => ?_) (fun h14 => ?_)
  · skip
    have hkj := hk j (by omega)
    refine wp_skip ?_
    refine s_then ?_
    refine s_seq ?_
    refine s_blk ?_
    refine c_reg ?_
    refine qd rfl rfl rfl (r_move (v := o) rfl) ?_
    refine qd rfl rfl rfl (r_move (v := u) rfl) ?_
    refine qd rfl rfl rfl (r_move (v := v) rfl) ?_
    refine qd rfl rfl rfl (r_move (v := (.int .i64 (j : Int))) rfl) ?_
    refine qd rfl rfl rfl (run_idx Tryd.underlying38 sz3 (v := v) rfl rfl hv (by omega) (by omega)) ?_
    refine qd rfl rfl rfl (run_load_int (r := xs.getD j 0) rfl ag3 (z := (j : Int)) rfl hv hX12.pins (by omega) (by omega)) ?_
    refine qd rfl rfl rfl (run_idx Tryd.underlying38 sz3 (v := u) rfl rfl hu (by omega) (by omega)) ?_
    refine qd rfl rfl rfl (run_load_int (r := a.getD (xs.getD j 0).toNat 0) rfl ag3 (z := (xs.getD j 0)) rfl hu (hPr.ext0 hX12) (by omega) (by omega)) ?_
    refine q1 rfl rfl rfl (o_buildF (E := eInt) (e := 3) [(.int .i64 (a.getD (xs.getD j 0).toNat 0))] [a.getD (xs.getD j 0).toNat 0] Tryd.underlying38 sz3 zr3 (by exact reps1 (by rfl)) (ones1 (by rfl)) rfl rfl rfl rfl (by decide) hX12.pins (fun u15 w16 ho17 hp18 hl19 hk20 => ?_))
    have hX21 := hX12.step hp18 hl19
    have ho22 := hw13.below hl19
    have ha23 : Apart u15.ownBlock o.ownBlock := new_ne_own hk20 hw13.lt
    have ho24 : Own eInt 3 G w16 w.heap.size u15 ([a.getD (xs.getD j 0).toNat 0]) := ho17.weaken hX12.size
    refine q1 rfl rfl rfl (o_append (E := eInt) (v := o) (u := u15) 8 Tryd.underlying38 ap3 (by decide) rfl rfl hX21.pins ho22 ho24.src (by first | omega | (rw [List.nil_append]; omega) | (rw [List.length_nil]; omega) | (rw [List.length_append]; omega) | (simp; done) | (simp; omega) | (simp only [List.length_append, List.length_cons, List.length_nil]; omega)) (by first | omega | (rw [List.nil_append]; omega) | (rw [List.length_nil]; omega) | (rw [List.length_append]; omega) | (simp; done) | (simp; omega) | (simp only [List.length_append, List.length_cons, List.length_nil]; omega)) (hX21.size) (fun u25 w26 ho27 hp28 hg29 hw30 => ?_))
    have hX31 := hX21.write hp28 hg29 ((lo_own ho22))
    have ha33 : Apart u15.ownBlock u25.ownBlock := app_ne_own ha23 hw30 ho24.lt
    have hm34 : (os ++ ([a.getD (xs.getD j 0).toNat 0])).length = os.length + 1 := List.length_append
    refine qd rfl rfl rfl (r_assign (v := u25) rfl) ?_
    refine qe ?_
    refine s_blkN ?_
    refine s_then ?_
    refine c_reg ?_
    refine qd rfl rfl rfl (r_move (v := (.int .i64 (j : Int))) rfl) ?_
    refine qd rfl rfl rfl (r_add rfl rfl (by omega)) ?_
    refine qd rfl rfl rfl (r_assign (v := (.int .i64 ((j : Int) + 1))) rfl) ?_
    refine qe ?_
    refine s_lopN ?_
    refine ⟨_, ?_, _, rfl, _, j + 1, u25, os ++ [a.getD (xs.getD j 0).toNat 0], (packS (x := 6) (packS (x := 5) (packS (x := 4) (packS (x := 1) (pack1 (x := 0) rfl) rfl) rfl) rfl) rfl), rfl, hX31, (by omega), (by rw [hr, at_next (by omega)]), (by rw [List.length_append, hol]; rfl), ho27⟩
    omega
  refine wp_exit ?_
  refine s_thenE ?_
  refine s_lopE ?_
  refine s_blkE ?_
  refine s_then ?_
  refine s_seq ?_
  refine c_reg ?_
  refine qd rfl rfl rfl (r_move (v := o) rfl) ?_
  refine qd rfl rfl rfl (r_assign (v := o) rfl) ?_
  refine qe ?_
  refine s_then ?_
  refine wp_ret ?_
  refine s_ret ?_
  refine c_ret1 (v := o) rfl rfl rfl ?_
  exact ⟨_, _, rfl, (by rw [take_all (by omega)] at hr; rw [← hr]; exact hw13), hX12⟩

theorem l3Sorted_spec {w : World} {G : Pin} {v : Value} {xs : List Int} (hP : Pins G w) (hv : RSl eInt G v xs) (hs : xs.length ≤ 1048576) :
    Calls Tryd.prog 80 [v].toArray w fun e w' => ∃ (u : Value) (G' : Pin), e = .returned u ∧ RSl eInt G' u (sortL xs) ∧ Ext noS G w G' w' := by
  refine s_enter (n := 19) Tryd.func80 Tryd.ntmps80 rfl rfl ?_
  have hX0 : Ext noS G w G w := Ext.refl hP
  refine s_seq ?_
  refine c_reg ?_
  refine qd rfl rfl rfl (r_assign (v := (.slice none 0 0)) rfl) ?_
  refine qe ?_
  refine s_then ?_
  refine s_seq ?_
  refine c_reg ?_
  refine q1 rfl rfl rfl (o_build0 (E := eInt) (e := 3) Tryd.underlying38 sz3 hX0.pins (fun u1 w2 ho3 hp4 hl5 hk6 => ?_))
  have hX7 := hX0.step hp4 hl5
  have ho8 : Own eInt 3 G w2 w.heap.size u1 ([]) := ho3.weaken hX0.size
  refine qd rfl rfl rfl (r_assign (v := u1) rfl) ?_
  refine qe ?_
  refine s_then ?_
  refine s_seq ?_
  refine s_seq ?_
  refine c_reg ?_
  refine qd rfl rfl rfl (r_assign (v := (.int .i64 0)) rfl) ?_
  refine qe ?_
  refine s_then ?_
  refine s_blk ?_
  obtain ⟨G13, hle16, hX15, hr14, hf17⟩ := ho8.sealed hX7
  refine s_loop (fun (k : Nat) (en : Nat → Value) (W : World) => ∃ (env1 : Nat → Value) (j : Nat) (o : Value) (os : List Int) (GL1 : Pin), en = (upd (upd (upd (upd env1 0 v) 2 (.slice none 0 0)) 3 o) 4 (.int .i64 (j : Int))) ∧ k = xs.length - j ∧ Ext noS G w GL1 W ∧ Pin.le G13 GL1 ∧ (j ≤ xs.length) ∧ (os = sortL (xs.take j)) ∧ (os.length ≤ j) ∧ (RSl eInt GL1 o (os))) _ ⟨_, 0, u1, [], G13, (packS (x := 4) (packS (x := 3) (packS (x := 2) (pack1 (x := 0) rfl) rfl) rfl) rfl), rfl, hX15, Pin.le_refl _, Nat.zero_le _, rfl, Nat.le_refl 0, hr14⟩ ?_
  rintro k9 _ w10 ⟨env1, j, o, os, GL1, rfl, hk11, hX12, hlek9, hj, hr, hol, hr18⟩
  refine s_seq ?_
  refine s_seq ?_
  refine c_reg ?_
  refine qd rfl rfl rfl (r_move (v := (.int .i64 (j : Int))) rfl) ?_
  refine qd rfl rfl rfl (r_move (v := v) rfl) ?_
  refine qd rfl rfl rfl (run_len Tryd.underlying38 (v := v) rfl hv) ?_
  refine qd rfl rfl rfl (r_lss rfl rfl) ?_
  refine qe ?_
  refine s_then ?_
  refine c_ifd (p := ((j : Int) : Int) < (xs.length : Int)) rfl rfl (fun h19 => ?_) (fun h19 => ?_)
  · skip
    refine wp_skip ?_
    refine s_then ?_
    refine s_seq ?_
    refine s_blk ?_
    refine c_reg ?_
    refine qd rfl rfl rfl (r_move (v := o) rfl) ?_
    refine qd rfl rfl rfl (r_move (v := v) rfl) ?_
    refine qd rfl rfl rfl (r_move (v := (.int .i64 (j : Int))) rfl) ?_
    refine qd rfl rfl rfl (run_idx Tryd.underlying38 sz3 (v := v) rfl rfl hv (by omega) (by omega)) ?_
    refine qd rfl rfl rfl (run_load_int (r := xs.getD j 0) rfl ag3 (z := (j : Int)) rfl hv (Pins.of_le hX12.pins (Pin.le_trans hle16 hlek9)) (by omega) (by omega)) ?_
    refine q1 rfl rfl rfl (o_call (vs := [o, (.int .i64 (xs.getD j 0))]) Tryd.func71 nm71 rfl rfl rfl ?_)
    refine Calls.mono (l1Put_spec hX12.pins hr18 (by omega)) ?_
    rintro _ w22 ⟨u20, G21, rfl, hr23, hx24⟩
    refine ⟨_, rfl, ?_⟩
    have hX25 := hX12.tr hx24
    refine qd rfl rfl rfl (r_assign (v := u20) rfl) ?_
    refine qe ?_
    refine s_blkN ?_
    refine s_then ?_
    refine c_reg ?_
    refine qd rfl rfl rfl (r_move (v := (.int .i64 (j : Int))) rfl) ?_
    refine qd rfl rfl rfl (r_add rfl rfl (by omega)) ?_
    refine qd rfl rfl rfl (r_assign (v := (.int .i64 ((j : Int) + 1))) rfl) ?_
    refine qe ?_
    refine s_lopN ?_
    refine ⟨_, ?_, _, rfl, _, j + 1, u20, putL os (xs.getD j 0), G21, (packS (x := 4) (packS (x := 3) (packS (x := 2) (pack1 (x := 0) rfl) rfl) rfl) rfl), rfl, hX25, (Pin.le_trans hlek9 hx24.le), (by omega), (by rw [hr, sort_next (by omega)]), (Nat.le_trans putL_length (by omega)), hr23⟩
    omega
  refine wp_exit ?_
  refine s_thenE ?_
  refine s_lopE ?_
  refine s_blkE ?_
  refine s_then ?_
  refine s_seq ?_
  refine c_reg ?_
  refine qd rfl rfl rfl (r_move (v := o) rfl) ?_
  refine qd rfl rfl rfl (r_assign (v := o) rfl) ?_
  refine qe ?_
  refine s_then ?_
  refine wp_ret ?_
  refine s_ret ?_
  refine c_ret1 (v := o) rfl rfl rfl ?_
  exact ⟨_, _, rfl, (by rw [take_all (by omega)] at hr; rw [← hr]; exact hr18), hX12⟩

end C1
end Go.Proofs.YtndhhpaldhlghaaDoor
