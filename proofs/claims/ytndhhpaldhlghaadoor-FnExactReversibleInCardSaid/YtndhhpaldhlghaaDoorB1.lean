/- Walks, printed by a program (walkgen.py) from the spec specs_b. -/
import Derived.Test.YtndhhpaldhlghaaDoorChecked
import Derived.Test.YtndhhpaldhlghaaDoorRow
import Derived.Test.YtndhhpaldhlghaaDoorBook
set_option maxRecDepth 20000
set_option maxHeartbeats 2000000
namespace Go.Proofs.YtndhhpaldhlghaaDoor
namespace B1
open Go.RowKit Go.GL Go.Proofs
theorem ag28 : (Tryd.prog.underlying 28).map aggD = some false := by kernel_rfl
theorem ag3 : (Tryd.prog.underlying 3).map aggD = some false := by kernel_rfl
theorem ag38 : (Tryd.prog.underlying 38).map aggD = some false := by kernel_rfl
theorem ag4 : (Tryd.prog.underlying 4).map aggD = some false := by kernel_rfl
theorem ag69 : (Tryd.prog.underlying 69).map aggD = some true := by kernel_rfl
theorem mk3 : (Tryd.prog.info? 3).map (fun i => (i.size, i.bytes, i.zero)) = some (1, 8, some (.int .i64 0)) := by kernel_rfl
theorem mk4 : (Tryd.prog.info? 4).map (fun i => (i.size, i.bytes, i.zero)) = some (1, 1, some (.bool false)) := by kernel_rfl
theorem nm62 : (Tryd.f62.name == "runtime.NumGoroutine") = false := by kernel_rfl
theorem nm63 : (Tryd.f63.name == "runtime.NumGoroutine") = false := by kernel_rfl
theorem nm64 : (Tryd.f64.name == "runtime.NumGoroutine") = false := by kernel_rfl
theorem nm65 : (Tryd.f65.name == "runtime.NumGoroutine") = false := by kernel_rfl
theorem nm66 : (Tryd.f66.name == "runtime.NumGoroutine") = false := by kernel_rfl
theorem nm67 : (Tryd.f67.name == "runtime.NumGoroutine") = false := by kernel_rfl
theorem nm68 : (Tryd.f68.name == "runtime.NumGoroutine") = false := by kernel_rfl
theorem nm86 : (Tryd.f86.name == "runtime.NumGoroutine") = false := by kernel_rfl
theorem nm87 : (Tryd.f87.name == "runtime.NumGoroutine") = false := by kernel_rfl
theorem nz28 : (Tryd.prog.info? 28).map (·.size == 0) = some false := by kernel_rfl
theorem nz38 : (Tryd.prog.info? 38).map (·.size == 0) = some false := by kernel_rfl
theorem sz3 : (Tryd.prog.info? 3).map (·.size) = some 1 := by kernel_rfl
theorem sz4 : (Tryd.prog.info? 4).map (·.size) = some 1 := by kernel_rfl
theorem sz69 : (Tryd.prog.info? 69).map (·.size) = some 2 := by kernel_rfl
theorem zr3 : (Tryd.prog.info? 3).bind (·.zero) = some (.int .i64 0) := by kernel_rfl
theorem zr69 : (Tryd.prog.info? 69).bind (·.zero) = some (.agg #[(.slice none 0 0), (.slice none 0 0)]) := by kernel_rfl

theorem goodOptions_spec {w : World} {G : Pin} {v : Value} {xs : List Int} {b : Int} (hP : Pins G w) (hv : RSl eInt G v xs) :
    Calls Tryd.prog 62 [v, (.int .i64 b)].toArray w fun e w' => e = .returned (.bool (goodOpts xs b)) ∧ w' = w := by
  refine s_enter (n := 27) Tryd.func62 Tryd.ntmps62 rfl rfl ?_
  have hX0 : Ext noS G w G w := Ext.refl hP
  have hm := hv.max
  refine s_seq ?_
  refine c_reg ?_
  refine qd rfl rfl rfl (r_assign (v := (.bool false)) rfl) ?_
  refine qe ?_
  refine s_then ?_
  refine s_seq ?_
  refine s_seq ?_
  refine c_reg ?_
  refine qd rfl rfl rfl (r_move (v := v) rfl) ?_
  refine qd rfl rfl rfl (run_len Tryd.underlying38 (v := v) rfl hv) ?_
  refine qd rfl rfl rfl (r_gtr rfl rfl) ?_
  refine qe ?_
  refine s_then ?_
  refine c_ifd (p := (24 : Int) < (xs.length : Int)) rfl rfl (fun h1 => ?_) (fun h1 => ?_)
  · skip
    refine s_seq ?_
    refine c_reg ?_
    refine qd rfl rfl rfl (r_assign (v := (.bool false)) rfl) ?_
    refine qe ?_
    refine s_then ?_
    refine wp_ret ?_
    refine s_ret ?_
    refine c_ret1 (v := (.bool false)) rfl rfl rfl ?_
    exact ⟨congrArg (fun z => Ending.returned (Value.bool z)) (by unfold goodOpts; rw [if_pos h1]), rfl⟩
  refine wp_skip ?_
  refine s_then ?_
  refine s_seq ?_
  refine c_reg ?_
  refine qd rfl rfl rfl (r_assign (v := (.int .i64 (-1))) rfl) ?_
  refine qe ?_
  refine s_then ?_
  refine s_seq ?_
  refine s_seq ?_
  refine c_reg ?_
  refine qd rfl rfl rfl (r_move (v := v) rfl) ?_
  refine qd rfl rfl rfl (run_len Tryd.underlying38 (v := v) rfl hv) ?_
  refine qd rfl rfl rfl (r_move (v := (.int .i64 0)) rfl) ?_
  refine qe ?_
  refine s_then ?_
  refine s_blk ?_
  refine s_loop (fun (k : Nat) (en : Nat → Value) (W : World) => ∃ (env1 : Nat → Value) (j : Nat) (last : Int), en = (upd (upd (upd (upd (upd env1 1 (.int .i64 b)) 5 (.int .i64 last)) 11 v) 12 (.int .i64 (xs.length : Int))) 13 (.int .i64 (j : Int))) ∧ k = xs.length - j ∧ Ext noS G w G W ∧ (j ≤ xs.length) ∧ (W = w) ∧ (goodOpts xs b = goodFrom last b (xs.drop j))) _ ⟨_, 0, (-1), (packS (x := 13) (packS (x := 12) (packS (x := 11) (packS (x := 5) (pack1 (x := 1) rfl) rfl) rfl) rfl) rfl), rfl, hX0, Nat.zero_le _, rfl, (by unfold goodOpts; rw [if_neg h1]; rfl)⟩ ?_
  rintro k2 _ w3 ⟨env1, j, last, rfl, hk4, hX5, hj, hw, hr⟩
  subst hw
  refine s_seq ?_
  refine c_reg ?_
  refine qd rfl rfl rfl (r_lss rfl rfl) ?_
  refine qe ?_
  refine s_then ?_
  refine s_seq ?_
  refine c_ifd (p := ((j : Int) : Int) < (xs.length : Int)) rfl rfl (fun h6 => ?_) (fun h6 => ?_)
  · skip
    refine wp_skip ?_
    refine s_then ?_
    refine s_seq ?_
    refine s_blk ?_
    refine s_seq ?_
    refine c_reg ?_
    refine qd rfl rfl rfl (run_idx Tryd.underlying38 sz3 (v := v) rfl rfl hv (by omega) (by omega)) ?_
    refine qd rfl rfl rfl (run_load_int (r := xs.getD j 0) rfl ag3 (z := (j : Int)) rfl hv hX5.pins (by omega) (by omega)) ?_
    refine qd rfl rfl rfl (r_assign (v := (.int .i64 (xs.getD j 0))) rfl) ?_
    refine qe ?_
    refine s_then ?_
    refine s_seq ?_
    refine s_seq ?_
    refine c_reg ?_
    refine qd rfl rfl rfl (r_move (v := (.int .i64 (xs.getD j 0))) rfl) ?_
    refine qd rfl rfl rfl (r_move (v := (.int .i64 last)) rfl) ?_
    refine qd rfl rfl rfl (r_leq rfl rfl) ?_
    refine qd rfl rfl rfl (r_move (v := (.bool (decide ((xs.getD j 0 : Int) ≤ last)))) rfl) ?_
    refine qbd (p := (xs.getD j 0 : Int) ≤ last) (t := 20) rfl (fun h7 => ?_) (fun h7 => ?_)
    · skip
      refine qs rfl rfl rfl rfl rfl rfl ?_
      refine qs rfl rfl rfl rfl rfl rfl ?_
      refine qs rfl rfl rfl rfl rfl rfl ?_
      refine qd rfl rfl rfl (r_pickT (v := (.bool true)) rfl rfl) ?_
      refine qe ?_
      refine s_then ?_
      refine c_ifT rfl rfl ?_
      refine s_seq ?_
      refine c_reg ?_
      refine qd rfl rfl rfl (r_assign (v := (.bool false)) rfl) ?_
      refine qe ?_
      refine s_then ?_
      refine wp_ret ?_
      refine s_ret ?_
      refine c_ret1 (v := (.bool false)) rfl rfl rfl ?_
      exact ⟨congrArg (fun z => Ending.returned (Value.bool z)) ((hr.trans (goodFrom_bad (by omega) (Or.inl h7))).symm), rfl⟩
    refine qdg rfl rfl rfl rfl rfl rfl (r_move (v := (.int .i64 (xs.getD j 0))) rfl) ?_
    refine qdg rfl rfl rfl rfl rfl rfl (r_move (v := (.int .i64 b)) rfl) ?_
    refine qdg rfl rfl rfl rfl rfl rfl (r_geq rfl rfl) ?_
    refine qd rfl rfl rfl (r_pickF (v := (.bool (decide ((b : Int) ≤ (xs.getD j 0))))) rfl rfl) ?_
    refine qe ?_
    refine s_then ?_
    refine c_ifd (p := (b : Int) ≤ (xs.getD j 0)) rfl rfl (fun h8 => ?_) (fun h8 => ?_)
    · skip
      refine s_seq ?_
      refine c_reg ?_
      refine qd rfl rfl rfl (r_assign (v := (.bool false)) rfl) ?_
      refine qe ?_
      refine s_then ?_
      refine wp_ret ?_
      refine s_ret ?_
      refine c_ret1 (v := (.bool false)) rfl rfl rfl ?_
      exact ⟨congrArg (fun z => Ending.returned (Value.bool z)) ((hr.trans (goodFrom_bad (by omega) (Or.inr h8))).symm), rfl⟩
    refine wp_skip ?_
    refine s_then ?_
    refine c_reg ?_
    refine qd rfl rfl rfl (r_move (v := (.int .i64 (xs.getD j 0))) rfl) ?_
    refine qd rfl rfl rfl (r_assign (v := (.int .i64 (xs.getD j 0))) rfl) ?_
    refine qe ?_
    refine s_blkN ?_
    refine s_then ?_
    refine c_reg ?_
    refine qd rfl rfl rfl (r_add rfl rfl (by omega)) ?_
    refine qd rfl rfl rfl (r_move (v := (.int .i64 ((j : Int) + 1))) rfl) ?_
    refine qe ?_
    refine s_lopN ?_
    refine ⟨_, ?_, _, rfl, _, j + 1, xs.getD j 0, (packS (x := 13) (packS (x := 12) (packS (x := 11) (packS (x := 5) (pack1 (x := 1) rfl) rfl) rfl) rfl) rfl), rfl, hX5, (by omega), rfl, (hr.trans (goodFrom_next (by omega) h7 h8))⟩
    omega
  refine wp_exit ?_
  refine s_thenE ?_
  refine s_lopE ?_
  refine s_blkE ?_
  refine s_then ?_
  refine s_seq ?_
  refine c_reg ?_
  refine qd rfl rfl rfl (r_assign (v := (.bool true)) rfl) ?_
  refine qe ?_
  refine s_then ?_
  refine wp_ret ?_
  refine s_ret ?_
  refine c_ret1 (v := (.bool true)) rfl rfl rfl ?_
  exact ⟨congrArg (fun z => Ending.returned (Value.bool z)) ((hr.trans (goodFrom_end (by omega))).symm), rfl⟩

theorem isNaN_spec {w : World} {G : Pin} {x : Int} (hP : Pins G w) :
    Calls Tryd.prog 86 [(.int .i64 x)].toArray w fun e w' => e = .returned (.bool false) ∧ w' = w := by
  refine s_enter (n := 6) Tryd.func86 Tryd.ntmps86 rfl rfl ?_
  have hX0 : Ext noS G w G w := Ext.refl hP
  refine s_seq ?_
  refine c_reg ?_
  refine qd rfl rfl rfl (r_assign (v := (.bool false)) rfl) ?_
  refine qe ?_
  refine s_then ?_
  refine s_seq ?_
  refine c_reg ?_
  refine qd rfl rfl rfl (r_move (v := (.int .i64 x)) rfl) ?_
  refine qd rfl rfl rfl (r_move (v := (.int .i64 x)) rfl) ?_
  refine qd rfl rfl rfl (r_neq rfl rfl) ?_
  refine qd rfl rfl rfl (r_assign (v := (.bool (decide ((x : Int) ≠ x)))) rfl) ?_
  refine qe ?_
  refine s_then ?_
  refine wp_ret ?_
  refine s_ret ?_
  refine c_ret1 (v := (.bool (decide ((x : Int) ≠ x)))) rfl rfl rfl ?_
  exact ⟨congrArg (fun z => Ending.returned (Value.bool z)) (decide_eq_false (fun h => h rfl)), rfl⟩

theorem cmpCompare_spec {w : World} {G : Pin} {x y : Int} (hP : Pins G w) :
    Calls Tryd.prog 65 [(.int .i64 x), (.int .i64 y)].toArray w fun e w' => e = .returned (.int .i64 (cmpI x y)) ∧ w' = w := by
  refine s_enter (n := 20) Tryd.func65 Tryd.ntmps65 rfl rfl ?_
  have hX0 : Ext noS G w G w := Ext.refl hP
  refine s_seq ?_
  refine c_reg ?_
  refine qd rfl rfl rfl (r_assign (v := (.int .i64 0)) rfl) ?_
  refine qe ?_
  refine s_then ?_
  refine s_seq ?_
  refine c_reg ?_
  refine qd rfl rfl rfl (r_move (v := (.int .i64 x)) rfl) ?_
  refine q1 rfl rfl rfl (o_call (vs := [(.int .i64 x)]) Tryd.func86 nm86 rfl rfl rfl ?_)
  refine Calls.mono (isNaN_spec hX0.pins) ?_
  rintro _ _ ⟨rfl, rfl⟩
  refine ⟨_, rfl, ?_⟩
  refine qd rfl rfl rfl (r_assign (v := (.bool false)) rfl) ?_
  refine qe ?_
  refine s_then ?_
  refine s_seq ?_
  refine c_reg ?_
  refine qd rfl rfl rfl (r_move (v := (.int .i64 y)) rfl) ?_
  refine q1 rfl rfl rfl (o_call (vs := [(.int .i64 y)]) Tryd.func86 nm86 rfl rfl rfl ?_)
  refine Calls.mono (isNaN_spec hX0.pins) ?_
  rintro _ _ ⟨rfl, rfl⟩
  refine ⟨_, rfl, ?_⟩
  refine qd rfl rfl rfl (r_assign (v := (.bool false)) rfl) ?_
  refine qe ?_
  refine s_then ?_
  refine s_seq ?_
  refine s_seq ?_
  refine c_reg ?_
  refine qd rfl rfl rfl (r_move (v := (.bool false)) rfl) ?_
  refine qe ?_
  refine s_then ?_
  refine c_ifF rfl rfl ?_
  refine wp_skip ?_
  refine s_then ?_
  refine s_seq ?_
  refine s_seq ?_
  refine c_reg ?_
  refine qd rfl rfl rfl (r_move (v := (.bool false)) rfl) ?_
  refine qe ?_
  refine s_then ?_
  refine c_ifF rfl rfl ?_
  refine wp_skip ?_
  refine s_then ?_
  refine s_seq ?_
  refine s_seq ?_
  refine c_reg ?_
  refine qd rfl rfl rfl (r_move (v := (.int .i64 x)) rfl) ?_
  refine qd rfl rfl rfl (r_move (v := (.int .i64 y)) rfl) ?_
  refine qd rfl rfl rfl (r_lss rfl rfl) ?_
  refine qe ?_
  refine s_then ?_
  refine c_ifd (p := (x : Int) < y) rfl rfl (fun h1 => ?_) (fun h1 => ?_)
  · skip
    refine s_seq ?_
    refine c_reg ?_
    refine qd rfl rfl rfl (r_assign (v := (.int .i64 (-1))) rfl) ?_
    refine qe ?_
    refine s_then ?_
    refine wp_ret ?_
    refine s_ret ?_
    refine c_ret1 (v := (.int .i64 (-1))) rfl rfl rfl ?_
    exact ⟨congrArg (fun z => Ending.returned (Value.int .i64 z)) (by unfold cmpI; (first | rw [if_pos (by omega)] | (rw [if_neg (by omega)]; first | rw [if_pos (by omega)] | rw [if_neg (by omega)]))), rfl⟩
  refine wp_skip ?_
  refine s_then ?_
  refine s_seq ?_
  refine s_seq ?_
  refine c_reg ?_
  refine qd rfl rfl rfl (r_move (v := (.int .i64 x)) rfl) ?_
  refine qd rfl rfl rfl (r_move (v := (.int .i64 y)) rfl) ?_
  refine qd rfl rfl rfl (r_gtr rfl rfl) ?_
  refine qe ?_
  refine s_then ?_
  refine c_ifd (p := (y : Int) < x) rfl rfl (fun h2 => ?_) (fun h2 => ?_)
  · skip
    refine s_seq ?_
    refine c_reg ?_
    refine qd rfl rfl rfl (r_assign (v := (.int .i64 1)) rfl) ?_
    refine qe ?_
    refine s_then ?_
    refine wp_ret ?_
    refine s_ret ?_
    refine c_ret1 (v := (.int .i64 1)) rfl rfl rfl ?_
    exact ⟨congrArg (fun z => Ending.returned (Value.int .i64 z)) (by unfold cmpI; (first | rw [if_pos (by omega)] | (rw [if_neg (by omega)]; first | rw [if_pos (by omega)] | rw [if_neg (by omega)]))), rfl⟩
  refine wp_skip ?_
  refine s_then ?_
  refine s_seq ?_
  refine c_reg ?_
  refine qd rfl rfl rfl (r_assign (v := (.int .i64 0)) rfl) ?_
  refine qe ?_
  refine s_then ?_
  refine wp_ret ?_
  refine s_ret ?_
  refine c_ret1 (v := (.int .i64 0)) rfl rfl rfl ?_
  exact ⟨congrArg (fun z => Ending.returned (Value.int .i64 z)) (by unfold cmpI; (first | rw [if_pos (by omega)] | (rw [if_neg (by omega)]; first | rw [if_pos (by omega)] | rw [if_neg (by omega)]))), rfl⟩

theorem cmpOr_spec {w : World} {G : Pin} {v : Value} {xs : List Int} (hP : Pins G w) (hv : RSl eInt G v xs) :
    Calls Tryd.prog 64 [v].toArray w fun e w' => e = .returned (.int .i64 (orL xs)) ∧ w' = w := by
  refine s_enter (n := 18) Tryd.func64 Tryd.ntmps64 rfl rfl ?_
  have hX0 : Ext noS G w G w := Ext.refl hP
  have hm := hv.max
  refine s_seq ?_
  refine c_reg ?_
  refine qd rfl rfl rfl (r_assign (v := (.int .i64 0)) rfl) ?_
  refine qe ?_
  refine s_then ?_
  refine s_seq ?_
  refine c_reg ?_
  refine qd rfl rfl rfl (r_assign (v := (.int .i64 0)) rfl) ?_
  refine qe ?_
  refine s_then ?_
  refine s_seq ?_
  refine s_seq ?_
  refine c_reg ?_
  refine qd rfl rfl rfl (r_move (v := v) rfl) ?_
  refine qd rfl rfl rfl (run_len Tryd.underlying38 (v := v) rfl hv) ?_
  refine qd rfl rfl rfl (r_move (v := (.int .i64 0)) rfl) ?_
  refine qe ?_
  refine s_then ?_
  refine s_blk ?_
  refine s_loop (fun (k : Nat) (en : Nat → Value) (W : World) => ∃ (env1 : Nat → Value) (j : Nat), en = (upd (upd (upd (upd env1 3 (.int .i64 0)) 6 v) 7 (.int .i64 (xs.length : Int))) 8 (.int .i64 (j : Int))) ∧ k = xs.length - j ∧ Ext noS G w G W ∧ (j ≤ xs.length) ∧ (W = w) ∧ (orL xs = orL (xs.drop j))) _ ⟨_, 0, (packS (x := 8) (packS (x := 7) (packS (x := 6) (pack1 (x := 3) rfl) rfl) rfl) rfl), rfl, hX0, Nat.zero_le _, rfl, rfl⟩ ?_
  rintro k1 _ w2 ⟨env1, j, rfl, hk3, hX4, hj, hw, hr⟩
  subst hw
  refine s_seq ?_
  refine c_reg ?_
  refine qd rfl rfl rfl (r_lss rfl rfl) ?_
  refine qe ?_
  refine s_then ?_
  refine s_seq ?_
  refine c_ifd (p := ((j : Int) : Int) < (xs.length : Int)) rfl rfl (fun h5 => ?_) (fun h5 => ?_)
  · skip
    refine wp_skip ?_
    refine s_then ?_
    refine s_seq ?_
    refine s_blk ?_
    refine s_seq ?_
    refine c_reg ?_
    refine qd rfl rfl rfl (run_idx Tryd.underlying38 sz3 (v := v) rfl rfl hv (by omega) (by omega)) ?_
    refine qd rfl rfl rfl (run_load_int (r := xs.getD j 0) rfl ag3 (z := (j : Int)) rfl hv hX4.pins (by omega) (by omega)) ?_
    refine qd rfl rfl rfl (r_assign (v := (.int .i64 (xs.getD j 0))) rfl) ?_
    refine qe ?_
    refine s_then ?_
    refine s_seq ?_
    refine c_reg ?_
    refine qd rfl rfl rfl (r_move (v := (.int .i64 (xs.getD j 0))) rfl) ?_
    refine qd rfl rfl rfl (r_move (v := (.int .i64 0)) rfl) ?_
    refine qd rfl rfl rfl (r_neq rfl rfl) ?_
    refine qe ?_
    refine s_then ?_
    refine c_ifd (p := (xs.getD j 0 : Int) ≠ 0) rfl rfl (fun h6 => ?_) (fun h6 => ?_)
    · skip
      refine s_seq ?_
      refine c_reg ?_
      refine qd rfl rfl rfl (r_move (v := (.int .i64 (xs.getD j 0))) rfl) ?_
      refine qd rfl rfl rfl (r_assign (v := (.int .i64 (xs.getD j 0))) rfl) ?_
      refine qe ?_
      refine s_then ?_
      refine wp_ret ?_
      refine s_ret ?_
      refine c_ret1 (v := (.int .i64 (xs.getD j 0))) rfl rfl rfl ?_
      exact ⟨congrArg (fun z => Ending.returned (Value.int .i64 z)) ((hr.trans (orL_hit (by omega) h6)).symm), rfl⟩
    refine wp_skip ?_
    refine s_blkN ?_
    refine s_then ?_
    refine c_reg ?_
    refine qd rfl rfl rfl (r_add rfl rfl (by omega)) ?_
    refine qd rfl rfl rfl (r_move (v := (.int .i64 ((j : Int) + 1))) rfl) ?_
    refine qe ?_
    refine s_lopN ?_
    refine ⟨_, ?_, _, rfl, _, j + 1, (packS (x := 8) (packS (x := 7) (packS (x := 6) (pack1 (x := 3) rfl) rfl) rfl) rfl), rfl, hX4, (by omega), rfl, (hr.trans (orL_next (by omega) h6))⟩
    omega
  refine wp_exit ?_
  refine s_thenE ?_
  refine s_lopE ?_
  refine s_blkE ?_
  refine s_then ?_
  refine s_seq ?_
  refine c_reg ?_
  refine qd rfl rfl rfl (r_move (v := (.int .i64 0)) rfl) ?_
  refine qd rfl rfl rfl (r_assign (v := (.int .i64 0)) rfl) ?_
  refine qe ?_
  refine s_then ?_
  refine wp_ret ?_
  refine s_ret ?_
  refine c_ret1 (v := (.int .i64 0)) rfl rfl rfl ?_
  exact ⟨congrArg (fun z => Ending.returned (Value.int .i64 z)) ((hr.trans (orL_end (by omega))).symm), rfl⟩

theorem slCompare_spec {w : World} {G : Pin} {u v : Value} {xs ys : List Int} (hP : Pins G w) (hu : RSl eInt G u xs) (hv : RSl eInt G v ys) :
    Calls Tryd.prog 66 [u, v].toArray w fun e w' => e = .returned (.int .i64 (cmpL xs ys)) ∧ w' = w := by
  refine s_enter (n := 36) Tryd.func66 Tryd.ntmps66 rfl rfl ?_
  have hX0 : Ext noS G w G w := Ext.refl hP
  have hm := hu.max
  refine s_seq ?_
  refine c_reg ?_
  refine qd rfl rfl rfl (r_assign (v := (.int .i64 0)) rfl) ?_
  refine qe ?_
  refine s_then ?_
  refine s_seq ?_
  refine s_seq ?_
  refine c_reg ?_
  refine qd rfl rfl rfl (r_move (v := u) rfl) ?_
  refine qd rfl rfl rfl (run_len Tryd.underlying38 (v := u) rfl hu) ?_
  refine qd rfl rfl rfl (r_move (v := (.int .i64 0)) rfl) ?_
  refine qe ?_
  refine s_then ?_
  refine s_blk ?_
  refine s_loop (fun (k : Nat) (en : Nat → Value) (W : World) => ∃ (env1 : Nat → Value) (j : Nat), en = (upd (upd (upd (upd (upd env1 0 u) 1 v) 9 u) 10 (.int .i64 (xs.length : Int))) 11 (.int .i64 (j : Int))) ∧ k = xs.length - j ∧ Ext noS G w G W ∧ (j ≤ xs.length ∧ j ≤ ys.length) ∧ (W = w) ∧ (cmpL xs ys = cmpL (xs.drop j) (ys.drop j))) _ ⟨_, 0, (packS (x := 11) (packS (x := 10) (packS (x := 9) (packS (x := 1) (pack1 (x := 0) rfl) rfl) rfl) rfl) rfl), rfl, hX0, ⟨Nat.zero_le _, Nat.zero_le _⟩, rfl, rfl⟩ ?_
  rintro k1 _ w2 ⟨env1, j, rfl, hk3, hX4, hj, hw, hr⟩
  subst hw
  refine s_seq ?_
  refine c_reg ?_
  refine qd rfl rfl rfl (r_lss rfl rfl) ?_
  refine qe ?_
  refine s_then ?_
  refine s_seq ?_
  refine c_ifd (p := ((j : Int) : Int) < (xs.length : Int)) rfl rfl (fun h5 => ?_) (fun h5 => ?_)
  · skip
    refine wp_skip ?_
    refine s_then ?_
    refine s_seq ?_
    refine s_blk ?_
    refine s_seq ?_
    refine c_reg ?_
    refine qd rfl rfl rfl (r_move (v := (.int .i64 (j : Int))) rfl) ?_
    refine qd rfl rfl rfl (run_idx Tryd.underlying38 sz3 (v := u) rfl rfl hu (by omega) (by omega)) ?_
    refine qd rfl rfl rfl (run_load_int (r := xs.getD j 0) rfl ag3 (z := (j : Int)) rfl hu hX4.pins (by omega) (by omega)) ?_
    refine qd rfl rfl rfl (r_assign (v := (.int .i64 (j : Int))) rfl) ?_
    refine qd rfl rfl rfl (r_assign (v := (.int .i64 (xs.getD j 0))) rfl) ?_
    refine qe ?_
    refine s_then ?_
    refine s_seq ?_
    refine s_seq ?_
    refine c_reg ?_
    refine qd rfl rfl rfl (r_move (v := (.int .i64 (j : Int))) rfl) ?_
    refine qd rfl rfl rfl (r_move (v := v) rfl) ?_
    refine qd rfl rfl rfl (run_len Tryd.underlying38 (v := v) rfl hv) ?_
    refine qd rfl rfl rfl (r_geq rfl rfl) ?_
    refine qe ?_
    refine s_then ?_
    refine c_ifd (p := ((ys.length : Int) : Int) ≤ (j : Int)) rfl rfl (fun h6 => ?_) (fun h6 => ?_)
    · skip
      refine s_seq ?_
      refine c_reg ?_
      refine qd rfl rfl rfl (r_assign (v := (.int .i64 1)) rfl) ?_
      refine qe ?_
      refine s_then ?_
      refine wp_ret ?_
      refine s_ret ?_
      refine c_ret1 (v := (.int .i64 1)) rfl rfl rfl ?_
      exact ⟨congrArg (fun z => Ending.returned (Value.int .i64 z)) ((hr.trans (cmpL_more (by omega) (by omega))).symm), rfl⟩
    refine wp_skip ?_
    refine s_then ?_
    refine s_seq ?_
    refine c_reg ?_
    refine qd rfl rfl rfl (r_move (v := v) rfl) ?_
    refine qd rfl rfl rfl (r_move (v := (.int .i64 (j : Int))) rfl) ?_
    refine qd rfl rfl rfl (run_idx Tryd.underlying38 sz3 (v := v) rfl rfl hv (by omega) (by omega)) ?_
    refine qd rfl rfl rfl (run_load_int (r := ys.getD j 0) rfl ag3 (z := (j : Int)) rfl hv hX4.pins (by omega) (by omega)) ?_
    refine qd rfl rfl rfl (r_assign (v := (.int .i64 (ys.getD j 0))) rfl) ?_
    refine qe ?_
    refine s_then ?_
    refine s_seq ?_
    refine c_reg ?_
    refine qd rfl rfl rfl (r_move (v := (.int .i64 (xs.getD j 0))) rfl) ?_
    refine qd rfl rfl rfl (r_move (v := (.int .i64 (ys.getD j 0))) rfl) ?_
    refine q1 rfl rfl rfl (o_call (vs := [(.int .i64 (xs.getD j 0)), (.int .i64 (ys.getD j 0))]) Tryd.func65 nm65 rfl rfl rfl ?_)
    refine Calls.mono (cmpCompare_spec hX4.pins) ?_
    rintro _ _ ⟨rfl, rfl⟩
    refine ⟨_, rfl, ?_⟩
    refine qd rfl rfl rfl (r_assign (v := (.int .i64 (cmpI (xs.getD j 0) (ys.getD j 0)))) rfl) ?_
    refine qe ?_
    refine s_then ?_
    refine s_seq ?_
    refine c_reg ?_
    refine qd rfl rfl rfl (r_move (v := (.int .i64 (cmpI (xs.getD j 0) (ys.getD j 0)))) rfl) ?_
    refine qd rfl rfl rfl (r_neq rfl rfl) ?_
    refine qe ?_
    refine s_then ?_
    refine c_ifd (p := (cmpI (xs.getD j 0) (ys.getD j 0) : Int) ≠ 0) rfl rfl (fun h7 => ?_) (fun h7 => ?_)
    · skip
      refine s_seq ?_
      refine c_reg ?_
      refine qd rfl rfl rfl (r_move (v := (.int .i64 (cmpI (xs.getD j 0) (ys.getD j 0)))) rfl) ?_
      refine qd rfl rfl rfl (r_assign (v := (.int .i64 (cmpI (xs.getD j 0) (ys.getD j 0)))) rfl) ?_
      refine qe ?_
      refine s_then ?_
      refine wp_ret ?_
      refine s_ret ?_
      refine c_ret1 (v := (.int .i64 (cmpI (xs.getD j 0) (ys.getD j 0)))) rfl rfl rfl ?_
      exact ⟨congrArg (fun z => Ending.returned (Value.int .i64 z)) ((hr.trans (cmpL_ne (by omega) (by omega) h7)).symm), rfl⟩
    refine wp_skip ?_
    refine s_blkN ?_
    refine s_then ?_
    refine c_reg ?_
    refine qd rfl rfl rfl (r_add rfl rfl (by omega)) ?_
    refine qd rfl rfl rfl (r_move (v := (.int .i64 ((j : Int) + 1))) rfl) ?_
    refine qe ?_
    refine s_lopN ?_
    refine ⟨_, ?_, _, rfl, _, j + 1, (packS (x := 11) (packS (x := 10) (packS (x := 9) (packS (x := 1) (pack1 (x := 0) rfl) rfl) rfl) rfl) rfl), rfl, hX4, (by omega), rfl, (hr.trans (cmpL_eq (by omega) (by omega) h7))⟩
    omega
  refine wp_exit ?_
  refine s_thenE ?_
  refine s_lopE ?_
  refine s_blkE ?_
  refine s_then ?_
  refine s_seq ?_
  refine s_seq ?_
  refine c_reg ?_
  refine qd rfl rfl rfl (r_move (v := u) rfl) ?_
  refine qd rfl rfl rfl (run_len Tryd.underlying38 (v := u) rfl hu) ?_
  refine qd rfl rfl rfl (r_move (v := v) rfl) ?_
  refine qd rfl rfl rfl (run_len Tryd.underlying38 (v := v) rfl hv) ?_
  refine qd rfl rfl rfl (r_lss rfl rfl) ?_
  refine qe ?_
  refine s_then ?_
  refine c_ifd (p := ((xs.length : Int) : Int) < (ys.length : Int)) rfl rfl (fun h8 => ?_) (fun h8 => ?_)
  · skip
    refine s_seq ?_
    refine c_reg ?_
    refine qd rfl rfl rfl (r_assign (v := (.int .i64 (-1))) rfl) ?_
    refine qe ?_
    refine s_then ?_
    refine wp_ret ?_
    refine s_ret ?_
    refine c_ret1 (v := (.int .i64 (-1))) rfl rfl rfl ?_
    exact ⟨congrArg (fun z => Ending.returned (Value.int .i64 z)) ((hr.trans (cmpL_less (by omega) (by omega))).symm), rfl⟩
  refine wp_skip ?_
  refine s_then ?_
  refine s_seq ?_
  refine c_reg ?_
  refine qd rfl rfl rfl (r_assign (v := (.int .i64 0)) rfl) ?_
  refine qe ?_
  refine s_then ?_
  refine wp_ret ?_
  refine s_ret ?_
  refine c_ret1 (v := (.int .i64 0)) rfl rfl rfl ?_
  exact ⟨congrArg (fun z => Ending.returned (Value.int .i64 z)) ((hr.trans (cmpL_same (by omega) (by omega))).symm), rfl⟩

theorem slIndexB_spec {w : World} {G : Pin} {v : Value} {xs : List Bool} {p : Bool} (hP : Pins G w) (hv : RSl eBool G v xs) :
    Calls Tryd.prog 87 [v, (.bool p)].toArray w fun e w' => e = .returned (.int .i64 (idxB xs p)) ∧ w' = w := by
  refine s_enter (n := 19) Tryd.func87 Tryd.ntmps87 rfl rfl ?_
  have hX0 : Ext noS G w G w := Ext.refl hP
  have hm := hv.max
  refine s_seq ?_
  refine c_reg ?_
  refine qd rfl rfl rfl (r_assign (v := (.int .i64 0)) rfl) ?_
  refine qe ?_
  refine s_then ?_
  refine s_seq ?_
  refine s_seq ?_
  refine c_reg ?_
  refine qd rfl rfl rfl (r_move (v := v) rfl) ?_
  refine qd rfl rfl rfl (run_len Tryd.underlying91 (v := v) rfl hv) ?_
  refine qd rfl rfl rfl (r_move (v := (.int .i64 0)) rfl) ?_
  refine qe ?_
  refine s_then ?_
  refine s_blk ?_
  refine s_loop (fun (k : Nat) (en : Nat → Value) (W : World) => ∃ (env1 : Nat → Value) (j : Nat), en = (upd (upd (upd (upd env1 0 v) 1 (.bool p)) 7 (.int .i64 (xs.length : Int))) 8 (.int .i64 (j : Int))) ∧ k = xs.length - j ∧ Ext noS G w G W ∧ (j ≤ xs.length) ∧ (W = w) ∧ (idxB xs p = idxFrom p j (xs.drop j))) _ ⟨_, 0, (packS (x := 8) (packS (x := 7) (packS (x := 1) (pack1 (x := 0) rfl) rfl) rfl) rfl), rfl, hX0, Nat.zero_le _, rfl, rfl⟩ ?_
  rintro k1 _ w2 ⟨env1, j, rfl, hk3, hX4, hj, hw, hr⟩
  subst hw
  refine s_seq ?_
  refine c_reg ?_
  refine qd rfl rfl rfl (r_lss rfl rfl) ?_
  refine qe ?_
  refine s_then ?_
  refine s_seq ?_
  refine c_ifd (p := ((j : Int) : Int) < (xs.length : Int)) rfl rfl (fun h5 => ?_) (fun h5 => ?_)
  · skip
    refine wp_skip ?_
    refine s_then ?_
    refine s_seq ?_
    refine s_blk ?_
    refine s_seq ?_
    refine c_reg ?_
    refine qd rfl rfl rfl (r_move (v := (.int .i64 (j : Int))) rfl) ?_
    refine qd rfl rfl rfl (r_assign (v := (.int .i64 (j : Int))) rfl) ?_
    refine qe ?_
    refine s_then ?_
    refine s_seq ?_
    refine c_reg ?_
    refine qd rfl rfl rfl (r_move (v := (.bool p)) rfl) ?_
    refine qd rfl rfl rfl (r_move (v := v) rfl) ?_
    refine qd rfl rfl rfl (r_move (v := (.int .i64 (j : Int))) rfl) ?_
    refine qd rfl rfl rfl (run_idx Tryd.underlying91 sz4 (v := v) rfl rfl hv (by omega) (by omega)) ?_
    refine qd rfl rfl rfl (run_load_bool (r := xs.getD j false) rfl ag4 (z := (j : Int)) rfl hv hX4.pins (by omega) (by omega)) ?_
    refine qd rfl rfl rfl (r_eqlB Tryd.underlying4 rfl rfl) ?_
    refine qe ?_
    refine s_then ?_
    refine c_if rfl rfl (fun h6 => ?_) (fun h6 => ?_)
    · skip
      refine s_seq ?_
      refine c_reg ?_
      refine qd rfl rfl rfl (r_move (v := (.int .i64 (j : Int))) rfl) ?_
      refine qd rfl rfl rfl (r_assign (v := (.int .i64 (j : Int))) rfl) ?_
      refine qe ?_
      refine s_then ?_
      refine wp_ret ?_
      refine s_ret ?_
      refine c_ret1 (v := (.int .i64 (j : Int))) rfl rfl rfl ?_
      exact ⟨congrArg (fun z => Ending.returned (Value.int .i64 z)) ((hr.trans (idx_hit (by omega) h6)).symm), rfl⟩
    refine wp_skip ?_
    refine s_blkN ?_
    refine s_then ?_
    refine c_reg ?_
    refine qd rfl rfl rfl (r_add rfl rfl (by omega)) ?_
    refine qd rfl rfl rfl (r_move (v := (.int .i64 ((j : Int) + 1))) rfl) ?_
    refine qe ?_
    refine s_lopN ?_
    refine ⟨_, ?_, _, rfl, _, j + 1, (packS (x := 8) (packS (x := 7) (packS (x := 1) (pack1 (x := 0) rfl) rfl) rfl) rfl), rfl, hX4, (by omega), rfl, (hr.trans (idx_next (by omega) h6))⟩
    omega
  refine wp_exit ?_
  refine s_thenE ?_
  refine s_lopE ?_
  refine s_blkE ?_
  refine s_then ?_
  refine s_seq ?_
  refine c_reg ?_
  refine qd rfl rfl rfl (r_assign (v := (.int .i64 (-1))) rfl) ?_
  refine qe ?_
  refine s_then ?_
  refine wp_ret ?_
  refine s_ret ?_
  refine c_ret1 (v := (.int .i64 (-1))) rfl rfl rfl ?_
  exact ⟨congrArg (fun z => Ending.returned (Value.int .i64 z)) ((hr.trans (idx_end (by omega))).symm), rfl⟩

theorem slContains_spec {w : World} {G : Pin} {v : Value} {xs : List Bool} {p : Bool} (hP : Pins G w) (hv : RSl eBool G v xs) :
    Calls Tryd.prog 67 [v, (.bool p)].toArray w fun e w' => e = .returned (.bool (decide ((0 : Int) ≤ idxB xs p))) ∧ w' = w := by
  refine s_enter (n := 9) Tryd.func67 Tryd.ntmps67 rfl rfl ?_
  have hX0 : Ext noS G w G w := Ext.refl hP
  refine s_seq ?_
  refine c_reg ?_
  refine qd rfl rfl rfl (r_assign (v := (.bool false)) rfl) ?_
  refine qe ?_
  refine s_then ?_
  refine s_seq ?_
  refine c_reg ?_
  refine qd rfl rfl rfl (r_move (v := v) rfl) ?_
  refine qd rfl rfl rfl (r_move (v := (.bool p)) rfl) ?_
  refine q1 rfl rfl rfl (o_call (vs := [v, (.bool p)]) Tryd.func87 nm87 rfl rfl rfl ?_)
  refine Calls.mono (slIndexB_spec hX0.pins hv) ?_
  rintro _ _ ⟨rfl, rfl⟩
  refine ⟨_, rfl, ?_⟩
  refine qd rfl rfl rfl (r_geq rfl rfl) ?_
  refine qd rfl rfl rfl (r_assign (v := (.bool (decide ((0 : Int) ≤ (idxB xs p))))) rfl) ?_
  refine qe ?_
  refine s_then ?_
  refine wp_ret ?_
  refine s_ret ?_
  refine c_ret1 (v := (.bool (decide ((0 : Int) ≤ (idxB xs p))))) rfl rfl rfl ?_
  exact ⟨rfl, rfl⟩

theorem births_spec {w : World} {G : Pin} {v : Value} {ns : List Nd} (hP : Pins G w) (hv : RSl eNode G v ns) (ho : OptsOk ns) (hs : ns.length ≤ 1048576) :
    Calls Tryd.prog 63 [v].toArray w fun e w' => ∃ (u : Value) (G' : Pin), e = .returned u ∧ Own eInt 3 G' w' w.heap.size u (births ns) ∧ Ext noS G w G' w' := by
  refine s_enter (n := 64) Tryd.func63 Tryd.ntmps63 rfl rfl ?_
  have hX0 : Ext noS G w G w := Ext.refl hP
  refine s_seq ?_
  refine c_reg ?_
  refine qd rfl rfl rfl (r_assign (v := (.slice none 0 0)) rfl) ?_
  refine qe ?_
  refine s_then ?_
  refine s_seq ?_
  refine c_reg ?_
  refine qd rfl rfl rfl (r_move (v := v) rfl) ?_
  refine qd rfl rfl rfl (run_len Tryd.underlying28 (v := v) rfl hv) ?_
  refine q1 rfl rfl rfl (o_make (E := eInt) 0 8 (.int .i64 0) Tryd.underlying38 mk3 (fun _ => rfl) rfl rfl hX0.pins (by omega) (by omega) (by omega) (fun u1 w2 ho3 hp4 hl5 hk6 => ?_))
  have hX7 := hX0.step hp4 hl5
  have ho8 : Own eInt 3 G w2 w.heap.size u1 (List.replicate ns.length 0) := ho3.weaken hX0.size
  have hm9 : (List.replicate ns.length 0).length = ns.length := List.length_replicate ..
  refine qd rfl rfl rfl (r_assign (v := u1) rfl) ?_
  refine qe ?_
  refine s_then ?_
  refine s_seq ?_
  refine s_seq ?_
  refine c_reg ?_
  refine qd rfl rfl rfl (r_move (v := v) rfl) ?_
  refine qd rfl rfl rfl (run_len Tryd.underlying28 (v := v) rfl hv) ?_
  refine qd rfl rfl rfl (r_move (v := (.int .i64 0)) rfl) ?_
  refine qe ?_
  refine s_then ?_
  refine s_blk ?_
  refine s_loop (fun (k : Nat) (en : Nat → Value) (W : World) => ∃ (env1 : Nat → Value) (j : Nat) (b : List Int) (GL1 : Pin), en = (upd (upd (upd (upd (upd env1 2 (.slice none 0 0)) 3 u1) 13 v) 14 (.int .i64 (ns.length : Int))) 15 (.int .i64 (j : Int))) ∧ k = ns.length - j ∧ Ext noS G w GL1 W ∧ Pin.le G GL1 ∧ (j ≤ ns.length) ∧ (b.length = ns.length) ∧ (BOk b) ∧ (births ns = bgo j (ns.drop j) b) ∧ (Own eInt 3 GL1 W w.heap.size u1 (b))) _ ⟨_, 0, List.replicate ns.length 0, G, (packS (x := 15) (packS (x := 14) (packS (x := 13) (packS (x := 3) (pack1 (x := 2) rfl) rfl) rfl) rfl) rfl), rfl, hX7, Pin.le_refl _, Nat.zero_le _, (by simp), (BOk.replicate _), rfl, ho8⟩ ?_
  rintro k10 _ w11 ⟨env1, j, b, GL1, rfl, hk12, hX13, hlek10, hj, hnb, hkb, hr, hw14⟩
  refine s_seq ?_
  refine c_reg ?_
  refine qd rfl rfl rfl (r_lss rfl rfl) ?_
  refine qe ?_
  refine s_then ?_
  refine s_seq ?_
  refine c_ifd (p := ((j : Int) : Int) < (ns.length : Int)) rfl rfl (fun h15 => ?_) (fun h15 => ?_)
  · skip
    refine wp_skip ?_
    refine s_then ?_
    refine s_seq ?_
    refine s_blk ?_
    refine s_seq ?_
    refine c_reg ?_
    refine qd rfl rfl rfl (r_move (v := (.int .i64 (j : Int))) rfl) ?_
    refine qd rfl rfl rfl (run_idx Tryd.underlying28 sz69 (v := v) rfl rfl hv (by omega) (by omega)) ?_
    obtain ⟨u16, u17, hr18, hr19, hl20⟩ := nm_node (hv.at (z := (j : Int)) (by omega) (by omega)) (j := j) rfl
    have hm21 := hr18.max
    have hm22 := hr19.max
    refine qd rfl rfl rfl (hl20 ag69 sz69 rfl (Pins.of_le hX13.pins hlek10)) ?_
    refine q1 rfl rfl rfl (o_alloc [(.slice none 0 0), (.slice none 0 0)] zr69 rfl hX13.pins (fun b23 w24 hk25 hb26 hp27 hl28 => ?_))
    have hX29 := hX13.step hp27 hl28
    have ho30 := hw14.below hl28
    have ha31 : Apart (some b23) u1.ownBlock := new_ne_own (congrArg some hk25) hw14.lt
    have hlo32 : w.heap.size ≤ b23 := by have := hX13.size; omega
    refine qd rfl rfl rfl (r_assign (v := (.int .i64 (j : Int))) rfl) ?_
    refine q0 rfl rfl rfl (o_stp (cs' := [u16, u17]) (us := [u16, u17]) (v := (.agg [u16, u17].toArray)) sz69 rfl rfl rfl (ones2 hr18.one hr19.one) hX29.pins hb26 (Nat.le_of_ble_eq_true rfl) rfl (fun w33 hb34 hp35 hg36 hz37 => ?_))
    have hX38 := hX29.write hp35 hg36 ((lo_box hlo32))
    have ho39 := ho30.keptA hg36 ha31.symm
    obtain ⟨G40, hle41, hX42, hbp43, hf44⟩ := hb34.shut hX38 hlo32
    have ho45 := ho39.moreA hle41 hf44 ha31.symm
    refine qe ?_
    refine s_then ?_
    refine s_seq ?_
    refine s_seq ?_
    refine c_reg ?_
    refine qd rfl rfl rfl (r_fldp (k := 0) rfl Tryd.underlying69 rfl nz38 rfl) ?_
    refine qd rfl rfl rfl (r_ldp1 (u := u16) ag38 rfl (hX42.pins _ _ _ (hbp43 0 _ rfl))) ?_
    refine qd rfl rfl rfl (run_len Tryd.underlying38 (v := u16) rfl hr18) ?_
    refine qd rfl rfl rfl (r_move (v := (.int .i64 0)) rfl) ?_
    refine qe ?_
    refine s_then ?_
    refine s_blk ?_
    refine s_loop (fun (k : Nat) (en : Nat → Value) (W : World) => ∃ (env1 : Nat → Value) (i : Nat) (b2 : List Int), en = (upd (upd (upd (upd (upd (upd (upd (upd (upd (upd env1 2 (.slice none 0 0)) 3 u1) 4 (.int .i64 (j : Int))) 5 (.pointer (some ⟨b23, 0, none⟩))) 13 v) 14 (.int .i64 (ns.length : Int))) 15 (.int .i64 (j : Int))) 21 u16) 22 (.int .i64 (((ns.getD j default).l).length : Int))) 23 (.int .i64 (i : Int))) ∧ k = (ns.getD j default).l.length - i ∧ Ext noS G w G40 W ∧ (i ≤ (ns.getD j default).l.length) ∧ (b2.length = ns.length) ∧ (BOk b2) ∧ (brow j b (ns.getD j default).l = brow j b2 ((ns.getD j default).l.drop i)) ∧ (Own eInt 3 G40 W w.heap.size u1 (b2))) _ ⟨_, 0, b, (packS (x := 23) (packS (x := 22) (packS (x := 21) (packS (x := 15) (packS (x := 14) (packS (x := 13) (packS (x := 5) (packS (x := 4) (packS (x := 3) (pack1 (x := 2) rfl) rfl) rfl) rfl) rfl) rfl) rfl) rfl) rfl) rfl), rfl, hX42, Nat.zero_le _, hnb, hkb, rfl, ho45⟩ ?_
    rintro k46 _ w47 ⟨env1, i, b2, rfl, hk48, hX49, hii, hnb2, hkb2, hrb2, hw50⟩
    refine s_seq ?_
    refine c_reg ?_
    refine qd rfl rfl rfl (r_lss rfl rfl) ?_
    refine qe ?_
    refine s_then ?_
    refine s_seq ?_
    refine c_ifd (p := ((i : Int) : Int) < (((ns.getD j default).l).length : Int)) rfl rfl (fun h51 => ?_) (fun h51 => ?_)
    · skip
      have hk := ho.left (j := j) (i := i) (by omega) (by omega)
      have hbj := hkb2 j
      have hbk := hkb2 ((ns.getD j default).l.getD i 0).toNat
      refine wp_skip ?_
      refine s_then ?_
      refine s_seq ?_
      refine s_blk ?_
      refine s_seq ?_
      refine c_reg ?_
      refine qd rfl rfl rfl (run_idx Tryd.underlying38 sz3 (v := u16) rfl rfl hr18 (by omega) (by omega)) ?_
      refine qd rfl rfl rfl (run_load_int (r := ((ns.getD j default).l).getD i 0) rfl ag3 (z := (i : Int)) rfl hr18 (Pins.of_le hX49.pins (Pin.le_trans hlek10 hle41)) (by omega) (by omega)) ?_
      refine qd rfl rfl rfl (r_assign (v := (.int .i64 (((ns.getD j default).l).getD i 0))) rfl) ?_
      refine qe ?_
      refine s_then ?_
      have hq52 := Gadd.pins hX49.pins u1
      have hr53 := hw50.read
      refine c_draw (S := fun wz => Pins (Gadd G40 w47 u1) wz) (last := 13) (by kernel_rfl) rfl ?_
      have hl54 : Below w47.heap.size w47 w47.drew := (Below.refl _ _).drew
      have hp55 := hX49.pins.below hl54
      have hX56 := hX49.step hp55 hl54
      have ho57 := hw50.below hl54
      have hq58 := hq52.below hl54
      refine dr_take (i := 0) rfl rfl rfl (want_none rfl _) (by kernel_rfl) (fun _ _ => r_move (v := u1) rfl) hq58 ?_
      refine dr_take (i := 1) rfl rfl rfl (want_none rfl _) (by kernel_rfl) (fun _ _ => r_move (v := (.int .i64 (j : Int))) rfl) hq58 ?_
      refine dr_take (i := 2) rfl rfl rfl (want_none rfl _) (by kernel_rfl) (fun _ _ => r_move (v := u1) rfl) hq58 ?_
      refine dr_take (i := 3) rfl rfl rfl (want_none rfl _) (by kernel_rfl) (fun _ _ => r_move (v := (.int .i64 (j : Int))) rfl) hq58 ?_
      refine dr_take (i := 4) rfl rfl rfl (want_none rfl _) (by kernel_rfl) (fun _ _ => run_idx Tryd.underlying38 sz3 (v := u1) rfl rfl hr53 (by omega) (by omega)) hq58 ?_
      refine dr_take (i := 5) rfl rfl rfl (want_none rfl _) (by kernel_rfl) (fun _ hS => run_load_int (r := b2.getD j 0) rfl ag3 (z := (j : Int)) rfl hr53 hS (by omega) (by omega)) hq58 ?_
      refine dr_take (i := 6) rfl rfl rfl (want_none rfl _) (by kernel_rfl) (fun _ _ => r_move (v := u1) rfl) hq58 ?_
      refine dr_take (i := 7) rfl rfl rfl (want_none rfl _) (by kernel_rfl) (fun _ _ => r_move (v := (.int .i64 (((ns.getD j default).l).getD i 0))) rfl) hq58 ?_
      refine dr_take (i := 8) rfl rfl rfl (want_none rfl _) (by kernel_rfl) (fun _ _ => run_idx Tryd.underlying38 sz3 (v := u1) rfl rfl hr53 (by omega) (by omega)) hq58 ?_
      refine dr_take (i := 9) rfl rfl rfl (want_none rfl _) (by kernel_rfl) (fun _ hS => run_load_int (r := b2.getD (((ns.getD j default).l).getD i 0).toNat 0) rfl ag3 (z := (((ns.getD j default).l).getD i 0)) rfl hr53 hS (by omega) (by omega)) hq58 ?_
      refine dr_take (i := 10) rfl rfl rfl (want_none rfl _) (by kernel_rfl) (fun _ _ => r_add rfl rfl (by omega)) hq58 ?_
      refine dr_take (i := 11) rfl rfl rfl (want_none rfl _) (by kernel_rfl) (fun _ _ => r_max rfl rfl) hq58 ?_
      refine dr_take (i := 12) rfl rfl rfl (want_none rfl _) (by kernel_rfl) (fun _ _ => run_idx Tryd.underlying38 sz3 (v := u1) rfl rfl hr53 (by omega) (by omega)) hq58 ?_
      refine dr_one (i := 13) (by kernel_rfl) (drOp0 (i := 13) rfl rfl rfl (want_none rfl _) (o_set (E := eInt) (v := u1) (u := (.int .i64 (max (b2.getD j 0) ((b2.getD (((ns.getD j default).l).getD i 0).toNat 0) + 1)))) (z := (j : Int)) (max (b2.getD j 0) ((b2.getD (((ns.getD j default).l).getD i 0).toNat 0) + 1)) sz3 rfl rfl rfl rfl hX56.pins ho57 (by omega) (by omega) (fun w59 ho60 hp61 hg62 hz63 => ?_)))
      have hX64 := hX56.write hp61 hg62 ((lo_own ho57))
      refine ⟨fun h => absurd rfl h, ?_⟩
      refine dr_end (by kernel_rfl) ?_
      refine s_blkN ?_
      refine s_then ?_
      refine c_reg ?_
      refine qd rfl rfl rfl (r_add rfl rfl (by omega)) ?_
      refine qd rfl rfl rfl (r_move (v := (.int .i64 ((i : Int) + 1))) rfl) ?_
      refine qe ?_
      refine s_lopN ?_
      refine ⟨_, ?_, _, rfl, _, i + 1, bmax j b2 ((ns.getD j default).l.getD i 0), (packS (x := 23) (packS (x := 22) (packS (x := 21) (packS (x := 15) (packS (x := 14) (packS (x := 13) (packS (x := 5) (packS (x := 4) (packS (x := 3) (pack1 (x := 2) rfl) rfl) rfl) rfl) rfl) rfl) rfl) rfl) rfl) rfl), rfl, hX64, (by omega), ((bmax_length _ _ _).trans hnb2), (hkb2.max hk.1 hk.2), (hrb2.trans (brow_next (by omega))), ho60⟩
      omega
    refine wp_exit ?_
    refine s_thenE ?_
    refine s_lopE ?_
    refine s_blkE ?_
    refine s_then ?_
    refine s_seq ?_
    refine c_reg ?_
    refine qd rfl rfl rfl (r_fldp (k := 1) rfl Tryd.underlying69 rfl nz38 rfl) ?_
    refine qd rfl rfl rfl (r_ldp1 (u := u17) ag38 rfl (hX49.pins _ _ _ (hbp43 1 _ rfl))) ?_
    refine qd rfl rfl rfl (run_len Tryd.underlying38 (v := u17) rfl hr19) ?_
    refine qd rfl rfl rfl (r_move (v := (.int .i64 0)) rfl) ?_
    refine qe ?_
    refine s_then ?_
    refine s_blk ?_
    refine s_loop (fun (k : Nat) (en : Nat → Value) (W : World) => ∃ (env1 : Nat → Value) (i3 : Nat) (b3 : List Int), en = (upd (upd (upd (upd (upd (upd (upd (upd (upd env1 2 (.slice none 0 0)) 3 u1) 4 (.int .i64 (j : Int))) 13 v) 14 (.int .i64 (ns.length : Int))) 15 (.int .i64 (j : Int))) 42 u17) 43 (.int .i64 (((ns.getD j default).r).length : Int))) 44 (.int .i64 (i3 : Int))) ∧ k = (ns.getD j default).r.length - i3 ∧ Ext noS G w G40 W ∧ (i3 ≤ (ns.getD j default).r.length) ∧ (b3.length = ns.length) ∧ (BOk b3) ∧ (brow j b2 (ns.getD j default).r = brow j b3 ((ns.getD j default).r.drop i3)) ∧ (Own eInt 3 G40 W w.heap.size u1 (b3))) _ ⟨_, 0, b2, (packS (x := 44) (packS (x := 43) (packS (x := 42) (packS (x := 15) (packS (x := 14) (packS (x := 13) (packS (x := 4) (packS (x := 3) (pack1 (x := 2) rfl) rfl) rfl) rfl) rfl) rfl) rfl) rfl) rfl), rfl, hX49, Nat.zero_le _, hnb2, hkb2, rfl, hw50⟩ ?_
    rintro k65 _ w66 ⟨env1, i3, b3, rfl, hk67, hX68, hii3, hnb3, hkb3, hrb3, hw69⟩
    refine s_seq ?_
    refine c_reg ?_
    refine qd rfl rfl rfl (r_lss rfl rfl) ?_
    refine qe ?_
    refine s_then ?_
    refine s_seq ?_
    refine c_ifd (p := ((i3 : Int) : Int) < (((ns.getD j default).r).length : Int)) rfl rfl (fun h70 => ?_) (fun h70 => ?_)
    · skip
      have hk := ho.right (j := j) (i := i3) (by omega) (by omega)
      have hbj := hkb3 j
      have hbk := hkb3 ((ns.getD j default).r.getD i3 0).toNat
      refine wp_skip ?_
      refine s_then ?_
      refine s_seq ?_
      refine s_blk ?_
      refine s_seq ?_
      refine c_reg ?_
      refine qd rfl rfl rfl (run_idx Tryd.underlying38 sz3 (v := u17) rfl rfl hr19 (by omega) (by omega)) ?_
      refine qd rfl rfl rfl (run_load_int (r := ((ns.getD j default).r).getD i3 0) rfl ag3 (z := (i3 : Int)) rfl hr19 (Pins.of_le hX68.pins (Pin.le_trans hlek10 hle41)) (by omega) (by omega)) ?_
      refine qd rfl rfl rfl (r_assign (v := (.int .i64 (((ns.getD j default).r).getD i3 0))) rfl) ?_
      refine qe ?_
      refine s_then ?_
      have hq71 := Gadd.pins hX68.pins u1
      have hr72 := hw69.read
      refine c_draw (S := fun wz => Pins (Gadd G40 w66 u1) wz) (last := 13) (by kernel_rfl) rfl ?_
      have hl73 : Below w66.heap.size w66 w66.drew := (Below.refl _ _).drew
      have hp74 := hX68.pins.below hl73
      have hX75 := hX68.step hp74 hl73
      have ho76 := hw69.below hl73
      have hq77 := hq71.below hl73
      refine dr_take (i := 0) rfl rfl rfl (want_none rfl _) (by kernel_rfl) (fun _ _ => r_move (v := u1) rfl) hq77 ?_
      refine dr_take (i := 1) rfl rfl rfl (want_none rfl _) (by kernel_rfl) (fun _ _ => r_move (v := (.int .i64 (j : Int))) rfl) hq77 ?_
      refine dr_take (i := 2) rfl rfl rfl (want_none rfl _) (by kernel_rfl) (fun _ _ => r_move (v := u1) rfl) hq77 ?_
      refine dr_take (i := 3) rfl rfl rfl (want_none rfl _) (by kernel_rfl) (fun _ _ => r_move (v := (.int .i64 (j : Int))) rfl) hq77 ?_
      refine dr_take (i := 4) rfl rfl rfl (want_none rfl _) (by kernel_rfl) (fun _ _ => run_idx Tryd.underlying38 sz3 (v := u1) rfl rfl hr72 (by omega) (by omega)) hq77 ?_
      refine dr_take (i := 5) rfl rfl rfl (want_none rfl _) (by kernel_rfl) (fun _ hS => run_load_int (r := b3.getD j 0) rfl ag3 (z := (j : Int)) rfl hr72 hS (by omega) (by omega)) hq77 ?_
      refine dr_take (i := 6) rfl rfl rfl (want_none rfl _) (by kernel_rfl) (fun _ _ => r_move (v := u1) rfl) hq77 ?_
      refine dr_take (i := 7) rfl rfl rfl (want_none rfl _) (by kernel_rfl) (fun _ _ => r_move (v := (.int .i64 (((ns.getD j default).r).getD i3 0))) rfl) hq77 ?_
      refine dr_take (i := 8) rfl rfl rfl (want_none rfl _) (by kernel_rfl) (fun _ _ => run_idx Tryd.underlying38 sz3 (v := u1) rfl rfl hr72 (by omega) (by omega)) hq77 ?_
      refine dr_take (i := 9) rfl rfl rfl (want_none rfl _) (by kernel_rfl) (fun _ hS => run_load_int (r := b3.getD (((ns.getD j default).r).getD i3 0).toNat 0) rfl ag3 (z := (((ns.getD j default).r).getD i3 0)) rfl hr72 hS (by omega) (by omega)) hq77 ?_
      refine dr_take (i := 10) rfl rfl rfl (want_none rfl _) (by kernel_rfl) (fun _ _ => r_add rfl rfl (by omega)) hq77 ?_
      refine dr_take (i := 11) rfl rfl rfl (want_none rfl _) (by kernel_rfl) (fun _ _ => r_max rfl rfl) hq77 ?_
      refine dr_take (i := 12) rfl rfl rfl (want_none rfl _) (by kernel_rfl) (fun _ _ => run_idx Tryd.underlying38 sz3 (v := u1) rfl rfl hr72 (by omega) (by omega)) hq77 ?_
      refine dr_one (i := 13) (by kernel_rfl) (drOp0 (i := 13) rfl rfl rfl (want_none rfl _) (o_set (E := eInt) (v := u1) (u := (.int .i64 (max (b3.getD j 0) ((b3.getD (((ns.getD j default).r).getD i3 0).toNat 0) + 1)))) (z := (j : Int)) (max (b3.getD j 0) ((b3.getD (((ns.getD j default).r).getD i3 0).toNat 0) + 1)) sz3 rfl rfl rfl rfl hX75.pins ho76 (by omega) (by omega) (fun w78 ho79 hp80 hg81 hz82 => ?_)))
      have hX83 := hX75.write hp80 hg81 ((lo_own ho76))
      refine ⟨fun h => absurd rfl h, ?_⟩
      refine dr_end (by kernel_rfl) ?_
      refine s_blkN ?_
      refine s_then ?_
      refine c_reg ?_
      refine qd rfl rfl rfl (r_add rfl rfl (by omega)) ?_
      refine qd rfl rfl rfl (r_move (v := (.int .i64 ((i3 : Int) + 1))) rfl) ?_
      refine qe ?_
      refine s_lopN ?_
      refine ⟨_, ?_, _, rfl, _, i3 + 1, bmax j b3 ((ns.getD j default).r.getD i3 0), (packS (x := 44) (packS (x := 43) (packS (x := 42) (packS (x := 15) (packS (x := 14) (packS (x := 13) (packS (x := 4) (packS (x := 3) (pack1 (x := 2) rfl) rfl) rfl) rfl) rfl) rfl) rfl) rfl) rfl), rfl, hX83, (by omega), ((bmax_length _ _ _).trans hnb3), (hkb3.max hk.1 hk.2), (hrb3.trans (brow_next (by omega))), ho79⟩
      omega
    refine wp_exit ?_
    refine s_thenE ?_
    refine s_lopE ?_
    refine s_blkE ?_
    refine s_blkN ?_
    refine s_then ?_
    refine c_reg ?_
    refine qd rfl rfl rfl (r_add rfl rfl (by omega)) ?_
    refine qd rfl rfl rfl (r_move (v := (.int .i64 ((j : Int) + 1))) rfl) ?_
    refine qe ?_
    refine s_lopN ?_
    refine ⟨_, ?_, _, rfl, _, j + 1, b3, G40, (packS (x := 15) (packS (x := 14) (packS (x := 13) (packS (x := 3) (pack1 (x := 2) rfl) rfl) rfl) rfl) rfl), rfl, hX68, (Pin.le_trans hlek10 hle41), (by omega), hnb3, hkb3, (hr.trans ((bgo_next (by omega)).trans (by rw [hrb2, brow_end (by omega), hrb3, brow_end (by omega)]))), hw69⟩
    omega
  refine wp_exit ?_
  refine s_thenE ?_
  refine s_lopE ?_
  refine s_blkE ?_
  refine s_then ?_
  refine s_seq ?_
  refine c_reg ?_
  refine qd rfl rfl rfl (r_move (v := u1) rfl) ?_
  refine qd rfl rfl rfl (r_assign (v := u1) rfl) ?_
  refine qe ?_
  refine s_then ?_
  refine wp_ret ?_
  refine s_ret ?_
  refine c_ret1 (v := u1) rfl rfl rfl ?_
  exact ⟨_, _, rfl, (by rw [hr, bgo_end (by omega)]; exact hw14), hX13⟩

theorem used_spec {w : World} {G : Pin} {v : Value} {ns : List Nd} {m : Int} (hP : Pins G w) (hv : RSl eNode G v ns) (ho : OptsOk ns) (hs : (0 ≤ m ∧ m < ns.length) ∧ ns.length ≤ 1048576) :
    Calls Tryd.prog 68 [v, (.int .i64 m)].toArray w fun e w' => ∃ (u : Value) (G' : Pin), e = .returned u ∧ Own eBool 4 G' w' w.heap.size u (usedM ns m.toNat) ∧ Ext noS G w G' w' := by
  refine s_enter (n := 56) Tryd.func68 Tryd.ntmps68 rfl rfl ?_
  have hX0 : Ext noS G w G w := Ext.refl hP
  refine s_seq ?_
  refine c_reg ?_
  refine qd rfl rfl rfl (r_assign (v := (.slice none 0 0)) rfl) ?_
  refine qe ?_
  refine s_then ?_
  refine s_seq ?_
  refine c_reg ?_
  refine qd rfl rfl rfl (r_move (v := v) rfl) ?_
  refine qd rfl rfl rfl (run_len Tryd.underlying28 (v := v) rfl hv) ?_
  refine q1 rfl rfl rfl (o_make (E := eBool) false 1 (.bool false) Tryd.underlying91 mk4 (fun _ => rfl) rfl rfl hX0.pins (by omega) (by omega) (by omega) (fun u1 w2 ho3 hp4 hl5 hk6 => ?_))
  have hX7 := hX0.step hp4 hl5
  have ho8 : Own eBool 4 G w2 w.heap.size u1 (List.replicate ns.length false) := ho3.weaken hX0.size
  have hm9 : (List.replicate ns.length false).length = ns.length := List.length_replicate ..
  refine qd rfl rfl rfl (r_assign (v := u1) rfl) ?_
  refine qe ?_
  refine s_then ?_
  refine s_seq ?_
  refine c_reg ?_
  refine qd rfl rfl rfl (r_move (v := u1) rfl) ?_
  refine qd rfl rfl rfl (r_move (v := (.int .i64 m)) rfl) ?_
  refine qd rfl rfl rfl (run_idx Tryd.underlying91 sz4 (v := u1) rfl rfl ho8.read (by omega) (by omega)) ?_
  refine q0 rfl rfl rfl (o_set (E := eBool) (v := u1) (u := (.bool true)) (z := m) (true) sz4 rfl rfl rfl rfl hX7.pins ho8 (by omega) (by omega) (fun w10 ho11 hp12 hg13 hz14 => ?_))
  have hX15 := hX7.write hp12 hg13 ((lo_own ho8))
  refine qe ?_
  refine s_then ?_
  refine s_seq ?_
  refine s_seq ?_
  refine c_reg ?_
  refine qd rfl rfl rfl (r_move (v := (.int .i64 m)) rfl) ?_
  refine qd rfl rfl rfl (r_assign (v := (.int .i64 m)) rfl) ?_
  refine qe ?_
  refine s_then ?_
  refine s_blk ?_
  refine s_loop (fun (k : Nat) (en : Nat → Value) (W : World) => ∃ (env1 : Nat → Value) (z : Int) (b : List Bool), en = (upd (upd (upd (upd env1 0 v) 4 (.slice none 0 0)) 5 u1) 6 (.int .i64 z)) ∧ k = (z + 1).toNat ∧ Ext noS G w G W ∧ (-1 ≤ z ∧ z ≤ m) ∧ (b.length = ns.length) ∧ (usedM ns m.toNat = ugo ns (z + 1).toNat b) ∧ (Own eBool 4 G W w.heap.size u1 (b))) _ ⟨_, m, (List.replicate ns.length false).set m.toNat true, (packS (x := 6) (packS (x := 5) (packS (x := 4) (pack1 (x := 0) rfl) rfl) rfl) rfl), rfl, hX15, (by omega), (by simp), (by rw [show (m + 1).toNat = m.toNat + 1 by omega]; rfl), ho11⟩ ?_
  rintro k16 _ w17 ⟨env1, z, b, rfl, hk18, hX19, hz, hnb, hr, hw20⟩
  refine s_seq ?_
  refine s_seq ?_
  refine c_reg ?_
  refine qd rfl rfl rfl (r_move (v := (.int .i64 z)) rfl) ?_
  refine qd rfl rfl rfl (r_geq rfl rfl) ?_
  refine qe ?_
  refine s_then ?_
  refine c_ifd (p := (0 : Int) ≤ z) rfl rfl (fun h21 => ?_) (fun h21 => ?_)
  · skip
    refine wp_skip ?_
    refine s_then ?_
    refine s_seq ?_
    refine s_blk ?_
    refine s_seq ?_
    refine s_seq ?_
    refine c_reg ?_
    refine qd rfl rfl rfl (r_move (v := u1) rfl) ?_
    refine qd rfl rfl rfl (r_move (v := (.int .i64 z)) rfl) ?_
    refine qd rfl rfl rfl (run_idx Tryd.underlying91 sz4 (v := u1) rfl rfl hw20.read (by omega) (by omega)) ?_
    refine qd rfl rfl rfl (run_load_bool (r := b.getD (z).toNat false) rfl ag4 (z := z) rfl hw20.read (Gadd.pins hX19.pins u1) (by omega) (by omega)) ?_
    refine qd rfl rfl rfl (r_not rfl) ?_
    refine qe ?_
    refine s_then ?_
    refine c_ifn rfl rfl (fun h22 => ?_) (fun h22 => ?_)
    · skip
      refine wp_skip ?_
      refine s_then ?_
      refine s_seq ?_
      refine s_seq ?_
      refine c_reg ?_
      refine qd rfl rfl rfl (r_move (v := v) rfl) ?_
      refine qd rfl rfl rfl (r_move (v := (.int .i64 z)) rfl) ?_
      refine qd rfl rfl rfl (run_idx Tryd.underlying28 sz69 (v := v) rfl rfl hv (by omega) (by omega)) ?_
      refine qd rfl rfl rfl (run_fld (off := 0) Tryd.underlying69 rfl rfl nz38 (z := z) (k := 0) rfl hv (by omega) (by omega)) ?_
      obtain ⟨u23, hr24, hl25⟩ := nm_nl (hv.at (z := z) (by omega) (by omega)) (j := (z).toNat) rfl
      have hm26 := hr24.max
      refine qd rfl rfl rfl (hl25 ag38 rfl hX19.pins) ?_
      refine qd rfl rfl rfl (run_len Tryd.underlying38 (v := u23) rfl hr24) ?_
      refine qd rfl rfl rfl (r_move (v := (.int .i64 0)) rfl) ?_
      refine qe ?_
      refine s_then ?_
      refine s_blk ?_
      refine s_loop (fun (k : Nat) (en : Nat → Value) (W : World) => ∃ (env1 : Nat → Value) (i : Nat) (b2 : List Bool), en = (upd (upd (upd (upd (upd (upd (upd env1 0 v) 4 (.slice none 0 0)) 5 u1) 6 (.int .i64 z)) 31 u23) 32 (.int .i64 (((ns.getD (z).toNat default).l).length : Int))) 33 (.int .i64 (i : Int))) ∧ k = (ns.getD (z).toNat default).l.length - i ∧ Ext noS G w G W ∧ (i ≤ (ns.getD (z).toNat default).l.length) ∧ (b2.length = ns.length) ∧ (setAll b (ns.getD (z).toNat default).l = setAll b2 ((ns.getD (z).toNat default).l.drop i)) ∧ (Own eBool 4 G W w.heap.size u1 (b2))) _ ⟨_, 0, b, (packS (x := 33) (packS (x := 32) (packS (x := 31) (packS (x := 6) (packS (x := 5) (packS (x := 4) (pack1 (x := 0) rfl) rfl) rfl) rfl) rfl) rfl) rfl), rfl, hX19, Nat.zero_le _, hnb, rfl, hw20⟩ ?_
      rintro k27 _ w28 ⟨env1, i, b2, rfl, hk29, hX30, hii, hnb2, hrb2, hw31⟩
      refine s_seq ?_
      refine c_reg ?_
      refine qd rfl rfl rfl (r_lss rfl rfl) ?_
      refine qe ?_
      refine s_then ?_
      refine s_seq ?_
      refine c_ifd (p := ((i : Int) : Int) < (((ns.getD (z).toNat default).l).length : Int)) rfl rfl (fun h32 => ?_) (fun h32 => ?_)
      · skip
        have hk := ho.left (j := (z).toNat) (i := i) (by omega) (by omega)
        refine wp_skip ?_
        refine s_then ?_
        refine s_seq ?_
        refine s_blk ?_
        refine s_seq ?_
        refine c_reg ?_
        refine qd rfl rfl rfl (run_idx Tryd.underlying38 sz3 (v := u23) rfl rfl hr24 (by omega) (by omega)) ?_
        refine qd rfl rfl rfl (run_load_int (r := ((ns.getD (z).toNat default).l).getD i 0) rfl ag3 (z := (i : Int)) rfl hr24 hX30.pins (by omega) (by omega)) ?_
        refine qd rfl rfl rfl (r_assign (v := (.int .i64 (((ns.getD (z).toNat default).l).getD i 0))) rfl) ?_
        refine qe ?_
        refine s_then ?_
        refine c_reg ?_
        refine qd rfl rfl rfl (r_move (v := u1) rfl) ?_
        refine qd rfl rfl rfl (r_move (v := (.int .i64 (((ns.getD (z).toNat default).l).getD i 0))) rfl) ?_
        refine qd rfl rfl rfl (run_idx Tryd.underlying91 sz4 (v := u1) rfl rfl hw31.read (by omega) (by omega)) ?_
        refine q0 rfl rfl rfl (o_set (E := eBool) (v := u1) (u := (.bool true)) (z := (((ns.getD (z).toNat default).l).getD i 0)) (true) sz4 rfl rfl rfl rfl hX30.pins hw31 (by omega) (by omega) (fun w33 ho34 hp35 hg36 hz37 => ?_))
        have hX38 := hX30.write hp35 hg36 ((lo_own hw31))
        refine qe ?_
        refine s_blkN ?_
        refine s_then ?_
        refine c_reg ?_
        refine qd rfl rfl rfl (r_add rfl rfl (by omega)) ?_
        refine qd rfl rfl rfl (r_move (v := (.int .i64 ((i : Int) + 1))) rfl) ?_
        refine qe ?_
        refine s_lopN ?_
        refine ⟨_, ?_, _, rfl, _, i + 1, b2.set ((ns.getD (z).toNat default).l.getD i 0).toNat true, (packS (x := 33) (packS (x := 32) (packS (x := 31) (packS (x := 6) (packS (x := 5) (packS (x := 4) (pack1 (x := 0) rfl) rfl) rfl) rfl) rfl) rfl) rfl), rfl, hX38, (by omega), ((List.length_set ..).trans hnb2), (hrb2.trans (setAll_next (by omega))), ho34⟩
        omega
      refine wp_exit ?_
      refine s_thenE ?_
      refine s_lopE ?_
      refine s_blkE ?_
      refine s_then ?_
      refine s_seq ?_
      refine c_reg ?_
      refine qd rfl rfl rfl (r_move (v := v) rfl) ?_
      refine qd rfl rfl rfl (r_move (v := (.int .i64 z)) rfl) ?_
      refine qd rfl rfl rfl (run_idx Tryd.underlying28 sz69 (v := v) rfl rfl hv (by omega) (by omega)) ?_
      refine qd rfl rfl rfl (run_fld (off := 1) Tryd.underlying69 rfl rfl nz38 (z := z) (k := 0) rfl hv (by omega) (by omega)) ?_
      obtain ⟨u39, hr40, hl41⟩ := nm_nr (hv.at (z := z) (by omega) (by omega)) (j := (z).toNat) rfl
      have hm42 := hr40.max
      refine qd rfl rfl rfl (hl41 ag38 rfl hX30.pins) ?_
      refine qd rfl rfl rfl (run_len Tryd.underlying38 (v := u39) rfl hr40) ?_
      refine qd rfl rfl rfl (r_move (v := (.int .i64 0)) rfl) ?_
      refine qe ?_
      refine s_then ?_
      refine s_blk ?_
      refine s_loop (fun (k : Nat) (en : Nat → Value) (W : World) => ∃ (env1 : Nat → Value) (i3 : Nat) (b3 : List Bool), en = (upd (upd (upd (upd (upd (upd (upd env1 0 v) 4 (.slice none 0 0)) 5 u1) 6 (.int .i64 z)) 45 u39) 46 (.int .i64 (((ns.getD (z).toNat default).r).length : Int))) 47 (.int .i64 (i3 : Int))) ∧ k = (ns.getD (z).toNat default).r.length - i3 ∧ Ext noS G w G W ∧ (i3 ≤ (ns.getD (z).toNat default).r.length) ∧ (b3.length = ns.length) ∧ (setAll b2 (ns.getD (z).toNat default).r = setAll b3 ((ns.getD (z).toNat default).r.drop i3)) ∧ (Own eBool 4 G W w.heap.size u1 (b3))) _ ⟨_, 0, b2, (packS (x := 47) (packS (x := 46) (packS (x := 45) (packS (x := 6) (packS (x := 5) (packS (x := 4) (pack1 (x := 0) rfl) rfl) rfl) rfl) rfl) rfl) rfl), rfl, hX30, Nat.zero_le _, hnb2, rfl, hw31⟩ ?_
      rintro k43 _ w44 ⟨env1, i3, b3, rfl, hk45, hX46, hii3, hnb3, hrb3, hw47⟩
      refine s_seq ?_
      refine c_reg ?_
      refine qd rfl rfl rfl (r_lss rfl rfl) ?_
      refine qe ?_
      refine s_then ?_
      refine s_seq ?_
      refine c_ifd (p := ((i3 : Int) : Int) < (((ns.getD (z).toNat default).r).length : Int)) rfl rfl (fun h48 => ?_) (fun h48 => ?_)
      · skip
        have hk := ho.right (j := (z).toNat) (i := i3) (by omega) (by omega)
        refine wp_skip ?_
        refine s_then ?_
        refine s_seq ?_
        refine s_blk ?_
        refine s_seq ?_
        refine c_reg ?_
        refine qd rfl rfl rfl (run_idx Tryd.underlying38 sz3 (v := u39) rfl rfl hr40 (by omega) (by omega)) ?_
        refine qd rfl rfl rfl (run_load_int (r := ((ns.getD (z).toNat default).r).getD i3 0) rfl ag3 (z := (i3 : Int)) rfl hr40 hX46.pins (by omega) (by omega)) ?_
        refine qd rfl rfl rfl (r_assign (v := (.int .i64 (((ns.getD (z).toNat default).r).getD i3 0))) rfl) ?_
        refine qe ?_
        refine s_then ?_
        refine c_reg ?_
        refine qd rfl rfl rfl (r_move (v := u1) rfl) ?_
        refine qd rfl rfl rfl (r_move (v := (.int .i64 (((ns.getD (z).toNat default).r).getD i3 0))) rfl) ?_
        refine qd rfl rfl rfl (run_idx Tryd.underlying91 sz4 (v := u1) rfl rfl hw47.read (by omega) (by omega)) ?_
        refine q0 rfl rfl rfl (o_set (E := eBool) (v := u1) (u := (.bool true)) (z := (((ns.getD (z).toNat default).r).getD i3 0)) (true) sz4 rfl rfl rfl rfl hX46.pins hw47 (by omega) (by omega) (fun w49 ho50 hp51 hg52 hz53 => ?_))
        have hX54 := hX46.write hp51 hg52 ((lo_own hw47))
        refine qe ?_
        refine s_blkN ?_
        refine s_then ?_
        refine c_reg ?_
        refine qd rfl rfl rfl (r_add rfl rfl (by omega)) ?_
        refine qd rfl rfl rfl (r_move (v := (.int .i64 ((i3 : Int) + 1))) rfl) ?_
        refine qe ?_
        refine s_lopN ?_
        refine ⟨_, ?_, _, rfl, _, i3 + 1, b3.set ((ns.getD (z).toNat default).r.getD i3 0).toNat true, (packS (x := 47) (packS (x := 46) (packS (x := 45) (packS (x := 6) (packS (x := 5) (packS (x := 4) (pack1 (x := 0) rfl) rfl) rfl) rfl) rfl) rfl) rfl), rfl, hX54, (by omega), ((List.length_set ..).trans hnb3), (hrb3.trans (setAll_next (by omega))), ho50⟩
        omega
      refine wp_exit ?_
      refine s_thenE ?_
      refine s_lopE ?_
      refine s_blkE ?_
      refine s_blkN ?_
      refine s_then ?_
      refine c_reg ?_
      refine qd rfl rfl rfl (r_move (v := (.int .i64 z)) rfl) ?_
      refine qd rfl rfl rfl (r_sub rfl rfl (by omega)) ?_
      refine qd rfl rfl rfl (r_assign (v := (.int .i64 (z - 1))) rfl) ?_
      refine qe ?_
      refine s_lopN ?_
      refine ⟨_, ?_, _, rfl, _, z - 1, b3, (packS (x := 6) (packS (x := 5) (packS (x := 4) (pack1 (x := 0) rfl) rfl) rfl) rfl), rfl, hX46, (by omega), hnb3, (hr.trans ((ugo_step (by omega)).trans (by rw [ustep_yes h22, hrb2, setAll_end (by omega), hrb3, setAll_end (by omega)]))), hw47⟩
      omega
    refine wp_exit ?_
    refine s_thenE ?_
    refine s_blkE ?_
    refine s_then ?_
    refine c_reg ?_
    refine qd rfl rfl rfl (r_move (v := (.int .i64 z)) rfl) ?_
    refine qd rfl rfl rfl (r_sub rfl rfl (by omega)) ?_
    refine qd rfl rfl rfl (r_assign (v := (.int .i64 (z - 1))) rfl) ?_
    refine qe ?_
    refine s_lopN ?_
    refine ⟨_, ?_, _, rfl, _, z - 1, b, (packS (x := 6) (packS (x := 5) (packS (x := 4) (pack1 (x := 0) rfl) rfl) rfl) rfl), rfl, hX19, (by omega), hnb, (hr.trans ((ugo_step (by omega)).trans (by rw [ustep_no h22]))), hw20⟩
    omega
  refine wp_exit ?_
  refine s_thenE ?_
  refine s_lopE ?_
  refine s_blkE ?_
  refine s_then ?_
  refine s_seq ?_
  refine c_reg ?_
  refine qd rfl rfl rfl (r_move (v := u1) rfl) ?_
  refine qd rfl rfl rfl (r_assign (v := u1) rfl) ?_
  refine qe ?_
  refine s_then ?_
  refine wp_ret ?_
  refine s_ret ?_
  refine c_ret1 (v := u1) rfl rfl rfl ?_
  exact ⟨_, _, rfl, (by rw [hr, ugo_end (by omega)]; exact hw20), hX19⟩

theorem goodForm_spec {w : World} {G : Pin} {v : Value} {ns : List Nd} (hP : Pins G w) (hv : RSl eNode G v ns) :
    Calls Tryd.prog 36 [(.agg [v].toArray)].toArray w fun e w' => ∃ G', e = .returned (.bool (goodB ns)) ∧ Ext noS G w G' w' := by
  refine s_enter (n := 93) Tryd.func36 Tryd.ntmps36 rfl rfl ?_
  have hX0 : Ext noS G w G w := Ext.refl hP
  have hm := hv.max
  refine s_seq ?_
  refine c_reg ?_
  refine q1 rfl rfl rfl (o_box [v] (v := (.agg [v].toArray)) rfl rfl hX0.pins (fun b1 w2 hk3 hb4 hp5 hl6 => ?_))
  have hX7 := hX0.step hp5 hl6
  have hlo8 : w.heap.size ≤ b1 := by have := hX0.size; omega
  obtain ⟨G9, hle10, hX11, hbp12, hf13⟩ := hb4.shut hX7 hlo8
  refine qd rfl rfl rfl (r_assign (v := (.bool false)) rfl) ?_
  refine qe ?_
  refine s_then ?_
  refine s_seq ?_
  refine s_seq ?_
  refine c_reg ?_
  refine qd rfl rfl rfl (r_fldp (k := 0) rfl Tryd.underlying30 rfl nz28 rfl) ?_
  refine qd rfl rfl rfl (r_ldp1 (u := v) ag28 rfl (hX11.pins _ _ _ (hbp12 0 _ rfl))) ?_
  refine qd rfl rfl rfl (run_len Tryd.underlying28 (v := v) rfl hv) ?_
  refine qd rfl rfl rfl (r_lss rfl rfl) ?_
  refine qd rfl rfl rfl (r_move (v := (.bool (decide (((ns.length : Int) : Int) < 1)))) rfl) ?_
  refine qbd (p := ((ns.length : Int) : Int) < 1) (t := 13) rfl (fun h14 => ?_) (fun h14 => ?_)
  · skip
    refine qs rfl rfl rfl rfl rfl rfl ?_
    refine qs rfl rfl rfl rfl rfl rfl ?_
    refine qs rfl rfl rfl rfl rfl rfl ?_
    refine qs rfl rfl rfl rfl rfl rfl ?_
    refine qd rfl rfl rfl (r_pickT (v := (.bool true)) rfl rfl) ?_
    refine qe ?_
    refine s_then ?_
    refine c_ifT rfl rfl ?_
    refine s_seq ?_
    refine c_reg ?_
    refine qd rfl rfl rfl (r_assign (v := (.bool false)) rfl) ?_
    refine qe ?_
    refine s_then ?_
    refine wp_ret ?_
    refine s_ret ?_
    refine c_ret1 (v := (.bool false)) rfl rfl rfl ?_
    exact ⟨_, congrArg (fun z => Ending.returned (Value.bool z)) (goodB_false.2 (fun g => by have := g.lo; omega)).symm, hX11⟩
  refine qdg rfl rfl rfl rfl rfl rfl (r_fldp (k := 0) rfl Tryd.underlying30 rfl nz28 rfl) ?_
  refine qdg rfl rfl rfl rfl rfl rfl (r_ldp1 (u := v) ag28 rfl (hX11.pins _ _ _ (hbp12 0 _ rfl))) ?_
  refine qdg rfl rfl rfl rfl rfl rfl (run_len Tryd.underlying28 (v := v) rfl hv) ?_
  refine qdg rfl rfl rfl rfl rfl rfl (r_gtr rfl rfl) ?_
  refine qd rfl rfl rfl (r_pickF (v := (.bool (decide ((120 : Int) < (ns.length : Int))))) rfl rfl) ?_
  refine qe ?_
  refine s_then ?_
  refine c_ifd (p := (120 : Int) < (ns.length : Int)) rfl rfl (fun h15 => ?_) (fun h15 => ?_)
  · skip
    refine s_seq ?_
    refine c_reg ?_
    refine qd rfl rfl rfl (r_assign (v := (.bool false)) rfl) ?_
    refine qe ?_
    refine s_then ?_
    refine wp_ret ?_
    refine s_ret ?_
    refine c_ret1 (v := (.bool false)) rfl rfl rfl ?_
    exact ⟨_, congrArg (fun z => Ending.returned (Value.bool z)) (goodB_false.2 (fun g => by have := g.hi; omega)).symm, hX11⟩
  refine wp_skip ?_
  refine s_then ?_
  refine s_seq ?_
  refine s_seq ?_
  refine c_reg ?_
  refine qd rfl rfl rfl (r_fldp (k := 0) rfl Tryd.underlying30 rfl nz28 rfl) ?_
  refine qd rfl rfl rfl (r_ldp1 (u := v) ag28 rfl (hX11.pins _ _ _ (hbp12 0 _ rfl))) ?_
  refine qd rfl rfl rfl (run_len Tryd.underlying28 (v := v) rfl hv) ?_
  refine qd rfl rfl rfl (r_move (v := (.int .i64 0)) rfl) ?_
  refine qe ?_
  refine s_then ?_
  refine s_blk ?_
  refine s_loop (fun (k : Nat) (en : Nat → Value) (W : World) => ∃ (env1 : Nat → Value) (j : Nat) (GL1 : Pin), en = (upd (upd (upd (upd env1 1 (.pointer (some ⟨b1, 0, none⟩))) 20 v) 21 (.int .i64 (ns.length : Int))) 22 (.int .i64 (j : Int))) ∧ k = ns.length - j ∧ Ext noS G w GL1 W ∧ Pin.le G9 GL1 ∧ (j ≤ ns.length) ∧ (∀ i, i < j → goodOpts (ns.getD i default).l i = true ∧ goodOpts (ns.getD i default).r i = true)) _ ⟨_, 0, G9, (packS (x := 22) (packS (x := 21) (packS (x := 20) (pack1 (x := 1) rfl) rfl) rfl) rfl), rfl, hX11, Pin.le_refl _, Nat.zero_le _, (fun i hi => absurd hi (Nat.not_lt_zero i))⟩ ?_
  rintro k16 _ w17 ⟨env1, j, GL1, rfl, hk18, hX19, hlek16, hj, hg⟩
  refine s_seq ?_
  refine c_reg ?_
  refine qd rfl rfl rfl (r_lss rfl rfl) ?_
  refine qe ?_
  refine s_then ?_
  refine s_seq ?_
  refine c_ifd (p := ((j : Int) : Int) < (ns.length : Int)) rfl rfl (fun h20 => ?_) (fun h20 => ?_)
  · skip
    refine wp_skip ?_
    refine s_then ?_
    refine s_seq ?_
    refine s_blk ?_
    refine s_seq ?_
    refine c_reg ?_
    refine qd rfl rfl rfl (r_move (v := (.int .i64 (j : Int))) rfl) ?_
    refine qd rfl rfl rfl (run_idx Tryd.underlying28 sz69 (v := v) rfl rfl hv (by omega) (by omega)) ?_
    obtain ⟨u21, u22, hr23, hr24, hl25⟩ := nm_node (hv.at (z := (j : Int)) (by omega) (by omega)) (j := j) rfl
    have hm26 := hr23.max
    have hm27 := hr24.max
    refine qd rfl rfl rfl (hl25 ag69 sz69 rfl (Pins.of_le hX19.pins (Pin.le_trans hle10 hlek16))) ?_
    refine q1 rfl rfl rfl (o_alloc [(.slice none 0 0), (.slice none 0 0)] zr69 rfl hX19.pins (fun b28 w29 hk30 hb31 hp32 hl33 => ?_))
    have hX34 := hX19.step hp32 hl33
    have hlo35 : w.heap.size ≤ b28 := by have := hX19.size; omega
    refine qd rfl rfl rfl (r_assign (v := (.int .i64 (j : Int))) rfl) ?_
    refine q0 rfl rfl rfl (o_stp (cs' := [u21, u22]) (us := [u21, u22]) (v := (.agg [u21, u22].toArray)) sz69 rfl rfl rfl (ones2 hr23.one hr24.one) hX34.pins hb31 (Nat.le_of_ble_eq_true rfl) rfl (fun w36 hb37 hp38 hg39 hz40 => ?_))
    have hX41 := hX34.write hp38 hg39 ((lo_box hlo35))
    obtain ⟨G42, hle43, hX44, hbp45, hf46⟩ := hb37.shut hX41 hlo35
    refine qe ?_
    refine s_then ?_
    refine s_seq ?_
    refine c_reg ?_
    refine qd rfl rfl rfl (r_fldp (k := 0) rfl Tryd.underlying69 rfl nz38 rfl) ?_
    refine qd rfl rfl rfl (r_ldp1 (u := u21) ag38 rfl (hX44.pins _ _ _ (hbp45 0 _ rfl))) ?_
    refine qd rfl rfl rfl (r_move (v := (.int .i64 (j : Int))) rfl) ?_
    refine q1 rfl rfl rfl (o_call (vs := [u21, (.int .i64 (j : Int))]) Tryd.func62 nm62 rfl rfl rfl ?_)
    refine Calls.mono (goodOptions_spec hX44.pins (hr23.mono (Pin.le_trans (Pin.le_trans hle10 hlek16) hle43))) ?_
    rintro _ _ ⟨rfl, rfl⟩
    refine ⟨_, rfl, ?_⟩
    refine qd rfl rfl rfl (r_not rfl) ?_
    refine qd rfl rfl rfl (r_move (v := (.bool (!(goodOpts ((ns.getD j default).l) (j : Int))))) rfl) ?_
    refine qbn (t := 32) rfl (fun h47 => ?_) (fun h47 => ?_)
    · skip
      refine qdg rfl rfl rfl rfl rfl rfl (r_fldp (k := 1) rfl Tryd.underlying69 rfl nz38 rfl) ?_
      refine qdg rfl rfl rfl rfl rfl rfl (r_ldp1 (u := u22) ag38 rfl (hX44.pins _ _ _ (hbp45 1 _ rfl))) ?_
      refine qdg rfl rfl rfl rfl rfl rfl (r_move (v := (.int .i64 (j : Int))) rfl) ?_
      refine q1g rfl rfl rfl rfl rfl rfl (o_call (vs := [u22, (.int .i64 (j : Int))]) Tryd.func62 nm62 rfl rfl rfl ?_)
      refine Calls.mono (goodOptions_spec hX44.pins (hr24.mono (Pin.le_trans (Pin.le_trans hle10 hlek16) hle43))) ?_
      rintro _ _ ⟨rfl, rfl⟩
      refine ⟨_, rfl, ?_⟩
      refine qdg rfl rfl rfl rfl rfl rfl (r_not rfl) ?_
      refine qd rfl rfl rfl (r_pickF (v := (.bool (!(goodOpts ((ns.getD j default).r) (j : Int))))) rfl rfl) ?_
      refine qe ?_
      refine s_then ?_
      refine c_ifn rfl rfl (fun h48 => ?_) (fun h48 => ?_)
      · skip
        refine wp_skip ?_
        refine s_blkN ?_
        refine s_then ?_
        refine c_reg ?_
        refine qd rfl rfl rfl (r_add rfl rfl (by omega)) ?_
        refine qd rfl rfl rfl (r_move (v := (.int .i64 ((j : Int) + 1))) rfl) ?_
        refine qe ?_
        refine s_lopN ?_
        refine ⟨_, ?_, _, rfl, _, j + 1, G42, (packS (x := 22) (packS (x := 21) (packS (x := 20) (pack1 (x := 1) rfl) rfl) rfl) rfl), rfl, hX44, (Pin.le_trans hlek16 hle43), (by omega), (fun k hk => if h3 : k = j then h3 ▸ ⟨h47, h48⟩ else hg k (by omega))⟩
        omega
      refine s_seq ?_
      refine c_reg ?_
      refine qd rfl rfl rfl (r_assign (v := (.bool false)) rfl) ?_
      refine qe ?_
      refine s_then ?_
      refine wp_ret ?_
      refine s_ret ?_
      refine c_ret1 (v := (.bool false)) rfl rfl rfl ?_
      exact ⟨_, congrArg (fun z => Ending.returned (Value.bool z)) (goodB_false.2 (fun g => by have := (g.opts j (by omega)).2; rw [h48] at this; cases this)).symm, hX44⟩
    refine qs rfl rfl rfl rfl rfl rfl ?_
    refine qs rfl rfl rfl rfl rfl rfl ?_
    refine qs rfl rfl rfl rfl rfl rfl ?_
    refine qs rfl rfl rfl rfl rfl rfl ?_
    refine qs rfl rfl rfl rfl rfl rfl ?_
    refine qd rfl rfl rfl (r_pickT (v := (.bool true)) rfl rfl) ?_
    refine qe ?_
    refine s_then ?_
    refine c_ifT rfl rfl ?_
    refine s_seq ?_
    refine c_reg ?_
    refine qd rfl rfl rfl (r_assign (v := (.bool false)) rfl) ?_
    refine qe ?_
    refine s_then ?_
    refine wp_ret ?_
    refine s_ret ?_
    refine c_ret1 (v := (.bool false)) rfl rfl rfl ?_
    exact ⟨_, congrArg (fun z => Ending.returned (Value.bool z)) (goodB_false.2 (fun g => by have := (g.opts j (by omega)).1; rw [h47] at this; cases this)).symm, hX44⟩
  refine wp_exit ?_
  refine s_thenE ?_
  refine s_lopE ?_
  refine s_blkE ?_
  refine s_then ?_
  refine s_seq ?_
  refine c_reg ?_
  refine qd rfl rfl rfl (r_fldp (k := 0) rfl Tryd.underlying30 rfl nz28 rfl) ?_
  refine qd rfl rfl rfl (r_ldp1 (u := v) ag28 rfl ((Pins.of_le hX19.pins hlek16) _ _ _ (hbp12 0 _ rfl))) ?_
  have hopts : ∀ i, i < ns.length → goodOpts (ns.getD i default).l i = true ∧ goodOpts (ns.getD i default).r i = true := fun i hi => hg i (by omega)
  refine q1 rfl rfl rfl (o_call (vs := [v]) Tryd.func63 nm63 rfl rfl rfl ?_)
  refine Calls.mono (births_spec hX19.pins (hv.mono (Pin.le_trans hle10 hlek16)) (opts_ok hopts) (by omega)) ?_
  rintro _ w51 ⟨u49, G50, rfl, ho52, hx53⟩
  refine ⟨_, rfl, ?_⟩
  have hX54 := hX19.tr hx53
  have ho55 : Own eInt 3 G50 w51 w.heap.size u49 (births ns) := ho52.weaken hX19.size
  refine qd rfl rfl rfl (r_assign (v := u49) rfl) ?_
  refine qe ?_
  refine s_then ?_
  refine s_seq ?_
  refine s_seq ?_
  refine c_reg ?_
  have hnb := births_length ns
  obtain ⟨G56, hle59, hX58, hr57, hf60⟩ := ho55.sealed hX54
  refine qd rfl rfl rfl (r_assign (v := (.int .i64 1)) rfl) ?_
  refine qe ?_
  refine s_then ?_
  refine s_blk ?_
  refine s_loop (fun (k : Nat) (en : Nat → Value) (W : World) => ∃ (env1 : Nat → Value) (i : Nat) (GL2 : Pin), en = (upd (upd (upd env1 1 (.pointer (some ⟨b1, 0, none⟩))) 5 u49) 6 (.int .i64 (i : Int))) ∧ k = ns.length - i ∧ Ext noS G w GL2 W ∧ Pin.le G56 GL2 ∧ (1 ≤ i ∧ i ≤ ns.length) ∧ (∀ k, 1 ≤ k → k < i → pairC ns (births ns) k < 0)) _ ⟨_, 1, G56, (packS (x := 6) (packS (x := 5) (pack1 (x := 1) rfl) rfl) rfl), rfl, hX58, Pin.le_refl _, (by omega), (fun k a b => absurd a (by omega))⟩ ?_
  rintro k61 _ w62 ⟨env1, i, GL2, rfl, hk63, hX64, hlek61, hi, hsr⟩
  refine s_seq ?_
  refine s_seq ?_
  refine c_reg ?_
  refine qd rfl rfl rfl (r_move (v := (.int .i64 (i : Int))) rfl) ?_
  refine qd rfl rfl rfl (r_fldp (k := 0) rfl Tryd.underlying30 rfl nz28 rfl) ?_
  refine qd rfl rfl rfl (r_ldp1 (u := v) ag28 rfl ((Pins.of_le hX64.pins (Pin.le_trans (Pin.le_trans (Pin.le_trans hlek16 hx53.le) hle59) hlek61)) _ _ _ (hbp12 0 _ rfl))) ?_
  refine qd rfl rfl rfl (run_len Tryd.underlying28 (v := v) rfl hv) ?_
  refine qd rfl rfl rfl (r_lss rfl rfl) ?_
  refine qe ?_
  refine s_then ?_
  refine c_ifd (p := ((i : Int) : Int) < (ns.length : Int)) rfl rfl (fun h65 => ?_) (fun h65 => ?_)
  · skip
    refine wp_skip ?_
    refine s_then ?_
    refine s_seq ?_
    refine s_blk ?_
    refine s_seq ?_
    refine c_cut (fun (en : Nat → Value) (W : World) => ∃ (env1 : Nat → Value) (c66 : Nat) (c67 : Value) (c68 : Value) (c69 : Nat) (c70 : Value) (c71 : Value) (G72 : Pin), en = (upd (upd (upd (upd (upd env1 1 (.pointer (some ⟨b1, 0, none⟩))) 5 u49) 6 (.int .i64 (i : Int))) 7 (.pointer (some ⟨c66, 0, none⟩))) 8 (.pointer (some ⟨c69, 0, none⟩))) ∧ Ext noS G w G72 W ∧ Pin.le GL2 G72 ∧ (RSl eInt G72 c67 ((ns.getD ((i : Int) - 1).toNat default).l)) ∧ (RSl eInt G72 c68 ((ns.getD ((i : Int) - 1).toNat default).r)) ∧ (RSl eInt G72 c70 ((ns.getD i default).l)) ∧ (RSl eInt G72 c71 ((ns.getD i default).r)) ∧ (BxP G72 c66 [c67, c68]) ∧ (BxP G72 c69 [c70, c71])) ?_ ?_
    · rintro _ w73 ⟨env1, c66, c67, c68, c69, c70, c71, G72, rfl, hX80, hle81, hr74, hr75, hr76, hr77, hb78, hb79⟩
      refine s_then ?_
      refine s_seq ?_
      refine c_draw (S := fun wz => Pins G72 wz) (last := 23) (by kernel_rfl) rfl ?_
      have hl82 : Below w73.heap.size w73 w73.drew := (Below.refl _ _).drew
      have hp83 := hX80.pins.below hl82
      have hX84 := hX80.step hp83 hl82
      refine dr_take (i := 0) rfl rfl rfl (want_none rfl _) (by kernel_rfl) (fun _ _ => r_move (v := u49) rfl) hX84.pins ?_
      refine dr_take (i := 1) rfl rfl rfl (want_none rfl _) (by kernel_rfl) (fun _ _ => r_move (v := (.int .i64 (i : Int))) rfl) hX84.pins ?_
      refine dr_take (i := 2) rfl rfl rfl (want_none rfl _) (by kernel_rfl) (fun _ _ => r_sub rfl rfl (by omega)) hX84.pins ?_
      refine dr_take (i := 3) rfl rfl rfl (want_none rfl _) (by kernel_rfl) (fun _ _ => run_idx Tryd.underlying38 sz3 (v := u49) rfl rfl hr57 (by omega) (by omega)) hX84.pins ?_
      refine dr_take (i := 4) rfl rfl rfl (want_none rfl _) (by kernel_rfl) (fun _ hS => run_load_int (r := (births ns).getD ((i : Int) - 1).toNat 0) rfl ag3 (z := ((i : Int) - 1)) rfl hr57 (Pins.of_le hS (Pin.le_trans hlek61 hle81)) (by omega) (by omega)) hX84.pins ?_
      refine dr_take (i := 5) rfl rfl rfl (want_none rfl _) (by kernel_rfl) (fun _ _ => r_move (v := u49) rfl) hX84.pins ?_
      refine dr_take (i := 6) rfl rfl rfl (want_none rfl _) (by kernel_rfl) (fun _ _ => r_move (v := (.int .i64 (i : Int))) rfl) hX84.pins ?_
      refine dr_take (i := 7) rfl rfl rfl (want_none rfl _) (by kernel_rfl) (fun _ _ => run_idx Tryd.underlying38 sz3 (v := u49) rfl rfl hr57 (by omega) (by omega)) hX84.pins ?_
      refine dr_take (i := 8) rfl rfl rfl (want_none rfl _) (by kernel_rfl) (fun _ hS => run_load_int (r := (births ns).getD i 0) rfl ag3 (z := (i : Int)) rfl hr57 (Pins.of_le hS (Pin.le_trans hlek61 hle81)) (by omega) (by omega)) hX84.pins ?_
      refine dr_take (i := 10) rfl rfl rfl (want_none rfl _) (by kernel_rfl) (fun _ _ => r_fldp (k := 0) rfl Tryd.underlying69 rfl nz38 rfl) hX84.pins ?_
      refine dr_take (i := 11) rfl rfl rfl (want_none rfl _) (by kernel_rfl) (fun _ hS => r_ldp1 (u := c67) ag38 rfl (hS _ _ _ (hb78 0 _ rfl))) hX84.pins ?_
      refine dr_take (i := 12) rfl rfl rfl (want_none rfl _) (by kernel_rfl) (fun _ _ => r_fldp (k := 0) rfl Tryd.underlying69 rfl nz38 rfl) hX84.pins ?_
      refine dr_take (i := 13) rfl rfl rfl (want_none rfl _) (by kernel_rfl) (fun _ hS => r_ldp1 (u := c70) ag38 rfl (hS _ _ _ (hb79 0 _ rfl))) hX84.pins ?_
      refine dr_take (i := 15) rfl rfl rfl (want_none rfl _) (by kernel_rfl) (fun _ _ => r_fldp (k := 1) rfl Tryd.underlying69 rfl nz38 rfl) hX84.pins ?_
      refine dr_take (i := 16) rfl rfl rfl (want_none rfl _) (by kernel_rfl) (fun _ hS => r_ldp1 (u := c68) ag38 rfl (hS _ _ _ (hb78 1 _ rfl))) hX84.pins ?_
      refine dr_take (i := 17) rfl rfl rfl (want_none rfl _) (by kernel_rfl) (fun _ _ => r_fldp (k := 1) rfl Tryd.underlying69 rfl nz38 rfl) hX84.pins ?_
      refine dr_take (i := 18) rfl rfl rfl (want_none rfl _) (by kernel_rfl) (fun _ hS => r_ldp1 (u := c71) ag38 rfl (hS _ _ _ (hb79 1 _ rfl))) hX84.pins ?_
      refine dr_one (i := 9) (by kernel_rfl) (drOp1 (i := 9) rfl rfl rfl (want_none rfl _) (o_call (vs := [(.int .i64 ((births ns).getD ((i : Int) - 1).toNat 0)), (.int .i64 ((births ns).getD i 0))]) Tryd.func65 nm65 rfl rfl rfl ?_))
      refine Calls.mono (cmpCompare_spec hX84.pins) ?_
      rintro _ _ ⟨rfl, rfl⟩
      refine ⟨_, rfl, ?_⟩
      refine ⟨fun _ => hX84.pins, ?_⟩
      refine dr_one (i := 14) (by kernel_rfl) (drOp1 (i := 14) rfl rfl rfl (want_none rfl _) (o_call (vs := [c67, c70]) Tryd.func66 nm66 rfl rfl rfl ?_))
      refine Calls.mono (slCompare_spec hX84.pins hr74 hr76) ?_
      rintro _ _ ⟨rfl, rfl⟩
      refine ⟨_, rfl, ?_⟩
      refine ⟨fun _ => hX84.pins, ?_⟩
      refine dr_one (i := 19) (by kernel_rfl) (drOp1 (i := 19) rfl rfl rfl (want_none rfl _) (o_call (vs := [c68, c71]) Tryd.func66 nm66 rfl rfl rfl ?_))
      refine Calls.mono (slCompare_spec hX84.pins hr75 hr77) ?_
      rintro _ _ ⟨rfl, rfl⟩
      refine ⟨_, rfl, ?_⟩
      refine ⟨fun _ => hX84.pins, ?_⟩
      refine dr_one (i := 20) (by kernel_rfl) (drOp1 (i := 20) rfl rfl rfl (want_none rfl _) (o_buildF (E := eInt) (e := 3) [(.int .i64 (cmpI ((births ns).getD ((i : Int) - 1).toNat 0) ((births ns).getD i 0))), (.int .i64 (cmpL ((ns.getD ((i : Int) - 1).toNat default).l) ((ns.getD i default).l))), (.int .i64 (cmpL ((ns.getD ((i : Int) - 1).toNat default).r) ((ns.getD i default).r)))] [cmpI ((births ns).getD ((i : Int) - 1).toNat 0) ((births ns).getD i 0), cmpL ((ns.getD ((i : Int) - 1).toNat default).l) ((ns.getD i default).l), cmpL ((ns.getD ((i : Int) - 1).toNat default).r) ((ns.getD i default).r)] Tryd.underlying38 sz3 zr3 (by exact reps3 (by rfl) (by rfl) (by rfl)) (ones3 (by rfl) (by rfl) (by rfl)) rfl rfl rfl rfl (by decide) hX84.pins (fun u85 w86 ho87 hp88 hl89 hk90 => ?_)))
      have hX91 := hX84.step hp88 hl89
      have ho92 : Own eInt 3 G72 w86 w.heap.size u85 ([cmpI ((births ns).getD ((i : Int) - 1).toNat 0) ((births ns).getD i 0), cmpL ((ns.getD ((i : Int) - 1).toNat default).l) ((ns.getD i default).l), cmpL ((ns.getD ((i : Int) - 1).toNat default).r) ((ns.getD i default).r)]) := ho87.weaken hX84.size
      refine ⟨fun _ => hX91.pins, ?_⟩
      obtain ⟨G93, hle96, hX95, hr94, hf97⟩ := ho92.sealed hX91
      refine dr_one (i := 21) (by kernel_rfl) (drOp1 (i := 21) rfl rfl rfl (want_none rfl _) (o_call (vs := [u85]) Tryd.func64 nm64 rfl rfl rfl ?_))
      refine Calls.mono (cmpOr_spec hX95.pins hr94) ?_
      rintro _ _ ⟨rfl, rfl⟩
      refine ⟨_, rfl, ?_⟩
      refine ⟨fun _ => (Pins.of_le hX95.pins hle96), ?_⟩
      refine dr_take (i := 22) rfl rfl rfl (want_none rfl _) (by kernel_rfl) (fun _ _ => r_geq rfl rfl) (Pins.of_le hX95.pins hle96) ?_
      refine dr_end (by kernel_rfl) ?_
      refine s_then ?_
      refine c_ifd (p := (0 : Int) ≤ (orL ([cmpI ((births ns).getD ((i : Int) - 1).toNat 0) ((births ns).getD i 0), cmpL ((ns.getD ((i : Int) - 1).toNat default).l) ((ns.getD i default).l), cmpL ((ns.getD ((i : Int) - 1).toNat default).r) ((ns.getD i default).r)]))) rfl rfl (fun h98 => ?_) (fun h98 => ?_)
      · skip
        refine s_seq ?_
        refine c_reg ?_
        refine qd rfl rfl rfl (r_assign (v := (.bool false)) rfl) ?_
        refine qe ?_
        refine s_then ?_
        refine wp_ret ?_
        refine s_ret ?_
        refine c_ret1 (v := (.bool false)) rfl rfl rfl ?_
        exact ⟨_, congrArg (fun z => Ending.returned (Value.bool z)) (goodB_false.2 (fun g => by have := g.sorted i (by omega) (by omega); unfold pairC at this; rw [show i - 1 = ((i : Int) - 1).toNat by omega] at this; omega)).symm, hX95⟩
      refine wp_skip ?_
      refine s_blkN ?_
      refine s_then ?_
      refine c_reg ?_
      refine qd rfl rfl rfl (r_move (v := (.int .i64 (i : Int))) rfl) ?_
      refine qd rfl rfl rfl (r_add rfl rfl (by omega)) ?_
      refine qd rfl rfl rfl (r_assign (v := (.int .i64 ((i : Int) + 1))) rfl) ?_
      refine qe ?_
      refine s_lopN ?_
      have hstep : pairC ns (births ns) i < 0 := by
        unfold pairC; rw [show i - 1 = ((i : Int) - 1).toNat by omega]; omega
      refine ⟨_, ?_, _, rfl, _, i + 1, G93, (packS (x := 6) (packS (x := 5) (pack1 (x := 1) rfl) rfl) rfl), rfl, hX95, (Pin.le_trans (Pin.le_trans hlek61 hle81) hle96), (by omega), (fun k h1 h2 => if h3 : k = i then h3 ▸ hstep else hsr k h1 (by omega))⟩
      omega
    · skip
      refine c_draw (S := fun wz => Pins GL2 wz) (last := 14) (by kernel_rfl) rfl ?_
      have hl99 : Below w62.heap.size w62 w62.drew := (Below.refl _ _).drew
      have hp100 := hX64.pins.below hl99
      have hX101 := hX64.step hp100 hl99
      refine dr_take (i := 0) rfl rfl rfl (want_none rfl _) (by kernel_rfl) (fun _ _ => r_fldp (k := 0) rfl Tryd.underlying30 rfl nz28 rfl) hX101.pins ?_
      refine dr_take (i := 1) rfl rfl rfl (want_none rfl _) (by kernel_rfl) (fun _ hS => r_ldp1 (u := v) ag28 rfl ((Pins.of_le hS (Pin.le_trans (Pin.le_trans (Pin.le_trans hlek16 hx53.le) hle59) hlek61)) _ _ _ (hbp12 0 _ rfl))) hX101.pins ?_
      refine dr_take (i := 2) rfl rfl rfl (want_none rfl _) (by kernel_rfl) (fun _ _ => r_move (v := (.int .i64 (i : Int))) rfl) hX101.pins ?_
      refine dr_take (i := 3) rfl rfl rfl (want_none rfl _) (by kernel_rfl) (fun _ _ => r_sub rfl rfl (by omega)) hX101.pins ?_
      refine dr_take (i := 4) rfl rfl rfl (want_none rfl _) (by kernel_rfl) (fun _ _ => run_idx Tryd.underlying28 sz69 (v := v) rfl rfl hv (by omega) (by omega)) hX101.pins ?_
      obtain ⟨u102, u103, hr104, hr105, hl106⟩ := nm_node (hv.at (z := ((i : Int) - 1)) (by omega) (by omega)) (j := ((i : Int) - 1).toNat) rfl
      have hm107 := hr104.max
      have hm108 := hr105.max
      refine dr_take (i := 5) rfl rfl rfl (want_none rfl _) (by kernel_rfl) (fun _ hS => hl106 ag69 sz69 rfl (Pins.of_le hS (Pin.le_trans (Pin.le_trans (Pin.le_trans (Pin.le_trans hle10 hlek16) hx53.le) hle59) hlek61))) hX101.pins ?_
      refine dr_take (i := 6) rfl rfl rfl (want_none rfl _) (by kernel_rfl) (fun _ _ => r_fldp (k := 0) rfl Tryd.underlying30 rfl nz28 rfl) hX101.pins ?_
      refine dr_take (i := 7) rfl rfl rfl (want_none rfl _) (by kernel_rfl) (fun _ hS => r_ldp1 (u := v) ag28 rfl ((Pins.of_le hS (Pin.le_trans (Pin.le_trans (Pin.le_trans hlek16 hx53.le) hle59) hlek61)) _ _ _ (hbp12 0 _ rfl))) hX101.pins ?_
      refine dr_take (i := 8) rfl rfl rfl (want_none rfl _) (by kernel_rfl) (fun _ _ => r_move (v := (.int .i64 (i : Int))) rfl) hX101.pins ?_
      refine dr_take (i := 9) rfl rfl rfl (want_none rfl _) (by kernel_rfl) (fun _ _ => run_idx Tryd.underlying28 sz69 (v := v) rfl rfl hv (by omega) (by omega)) hX101.pins ?_
      obtain ⟨u109, u110, hr111, hr112, hl113⟩ := nm_node (hv.at (z := (i : Int)) (by omega) (by omega)) (j := i) rfl
      have hm114 := hr111.max
      have hm115 := hr112.max
      refine dr_take (i := 10) rfl rfl rfl (want_none rfl _) (by kernel_rfl) (fun _ hS => hl113 ag69 sz69 rfl (Pins.of_le hS (Pin.le_trans (Pin.le_trans (Pin.le_trans (Pin.le_trans hle10 hlek16) hx53.le) hle59) hlek61))) hX101.pins ?_
      refine dr_two (i := 11) (j := 12) (by kernel_rfl) ?_ ?_
      · skip
        refine (drOp1 (i := 11) rfl rfl rfl (want_none rfl _) (o_alloc [(.slice none 0 0), (.slice none 0 0)] zr69 rfl hX101.pins (fun b116 w117 hk118 hb119 hp120 hl121 => ?_)))
        have hX122 := hX101.step hp120 hl121
        have hlo123 : w.heap.size ≤ b116 := by have := hX101.size; omega
        refine ⟨fun _ => hX122.pins, ?_⟩
        refine dr_one (i := 12) (by kernel_rfl) (drOp1 (i := 12) rfl rfl rfl (want_none rfl _) (o_alloc [(.slice none 0 0), (.slice none 0 0)] zr69 rfl hX122.pins (fun b124 w125 hk126 hb127 hp128 hl129 => ?_)))
        have hX130 := hX122.step hp128 hl129
        have hb131 := hb119.below hl129
        have ha132 : Apart (some b124) (some b116) := new_ne_box (congrArg some hk126) hb119.lt
        have hlo133 : w.heap.size ≤ b124 := by have := hX122.size; omega
        refine ⟨fun _ => hX130.pins, ?_⟩
        refine dr_one (i := 13) (by kernel_rfl) (drOp0 (i := 13) rfl rfl rfl (want_none rfl _) (o_stp (cs' := [u102, u103]) (us := [u102, u103]) (v := (.agg [u102, u103].toArray)) sz69 rfl rfl rfl (ones2 hr104.one hr105.one) hX130.pins hb131 (Nat.le_of_ble_eq_true rfl) rfl (fun w134 hb135 hp136 hg137 hz138 => ?_)))
        have hX139 := hX130.write hp136 hg137 ((lo_box hlo123))
        have hb140 := hb127.keptA hg137 ha132
        obtain ⟨G141, hle142, hX143, hbp144, hf145⟩ := hb135.shut hX139 hlo123
        have hb146 := hb140.moreA hf145 ha132
        refine ⟨fun _ => (Pins.of_le hX143.pins hle142), ?_⟩
        refine dr_one (i := 14) (by kernel_rfl) (drOp0 (i := 14) rfl rfl rfl (want_none rfl _) (o_stp (cs' := [u109, u110]) (us := [u109, u110]) (v := (.agg [u109, u110].toArray)) sz69 rfl rfl rfl (ones2 hr111.one hr112.one) hX143.pins hb146 (Nat.le_of_ble_eq_true rfl) rfl (fun w147 hb148 hp149 hg150 hz151 => ?_)))
        have hX152 := hX143.write hp149 hg150 ((lo_box hlo133))
        obtain ⟨G153, hle154, hX155, hbp156, hf157⟩ := hb148.shut hX152 hlo133
        refine ⟨fun h => absurd rfl h, ?_⟩
        refine dr_end (by kernel_rfl) ?_
        exact cut_in ⟨_, b116, u102, u103, b124, u109, u110, G153, (packS (x := 8) (packS (x := 7) (packS (x := 6) (packS (x := 5) (pack1 (x := 1) rfl) rfl) rfl) rfl) rfl), hX155, (Pin.le_trans hle142 hle154), (hr104.mono (Pin.le_trans (Pin.le_trans (Pin.le_trans (Pin.le_trans (Pin.le_trans (Pin.le_trans hle10 hlek16) hx53.le) hle59) hlek61) hle142) hle154)), (hr105.mono (Pin.le_trans (Pin.le_trans (Pin.le_trans (Pin.le_trans (Pin.le_trans (Pin.le_trans hle10 hlek16) hx53.le) hle59) hlek61) hle142) hle154)), (hr111.mono (Pin.le_trans (Pin.le_trans (Pin.le_trans (Pin.le_trans (Pin.le_trans (Pin.le_trans hle10 hlek16) hx53.le) hle59) hlek61) hle142) hle154)), (hr112.mono (Pin.le_trans (Pin.le_trans (Pin.le_trans (Pin.le_trans (Pin.le_trans (Pin.le_trans hle10 hlek16) hx53.le) hle59) hlek61) hle142) hle154)), (hbp144.mono hle154), (hbp156.mono (Pin.le_refl _))⟩
      · skip
        refine (drOp1 (i := 12) rfl rfl rfl (want_none rfl _) (o_alloc [(.slice none 0 0), (.slice none 0 0)] zr69 rfl hX101.pins (fun b158 w159 hk160 hb161 hp162 hl163 => ?_)))
        have hX164 := hX101.step hp162 hl163
        have hlo165 : w.heap.size ≤ b158 := by have := hX101.size; omega
        refine ⟨fun _ => hX164.pins, ?_⟩
        refine dr_one (i := 11) (by kernel_rfl) (drOp1 (i := 11) rfl rfl rfl (want_none rfl _) (o_alloc [(.slice none 0 0), (.slice none 0 0)] zr69 rfl hX164.pins (fun b166 w167 hk168 hb169 hp170 hl171 => ?_)))
        have hX172 := hX164.step hp170 hl171
        have hb173 := hb161.below hl171
        have ha174 : Apart (some b166) (some b158) := new_ne_box (congrArg some hk168) hb161.lt
        have hlo175 : w.heap.size ≤ b166 := by have := hX164.size; omega
        refine ⟨fun _ => hX172.pins, ?_⟩
        refine dr_one (i := 13) (by kernel_rfl) (drOp0 (i := 13) rfl rfl rfl (want_none rfl _) (o_stp (cs' := [u102, u103]) (us := [u102, u103]) (v := (.agg [u102, u103].toArray)) sz69 rfl rfl rfl (ones2 hr104.one hr105.one) hX172.pins hb169 (Nat.le_of_ble_eq_true rfl) rfl (fun w176 hb177 hp178 hg179 hz180 => ?_)))
        have hX181 := hX172.write hp178 hg179 ((lo_box hlo175))
        have hb182 := hb173.keptA hg179 ha174.symm
        obtain ⟨G183, hle184, hX185, hbp186, hf187⟩ := hb177.shut hX181 hlo175
        have hb188 := hb182.moreA hf187 ha174.symm
        refine ⟨fun _ => (Pins.of_le hX185.pins hle184), ?_⟩
        refine dr_one (i := 14) (by kernel_rfl) (drOp0 (i := 14) rfl rfl rfl (want_none rfl _) (o_stp (cs' := [u109, u110]) (us := [u109, u110]) (v := (.agg [u109, u110].toArray)) sz69 rfl rfl rfl (ones2 hr111.one hr112.one) hX185.pins hb188 (Nat.le_of_ble_eq_true rfl) rfl (fun w189 hb190 hp191 hg192 hz193 => ?_)))
        have hX194 := hX185.write hp191 hg192 ((lo_box hlo165))
        obtain ⟨G195, hle196, hX197, hbp198, hf199⟩ := hb190.shut hX194 hlo165
        refine ⟨fun h => absurd rfl h, ?_⟩
        refine dr_end (by kernel_rfl) ?_
        exact cut_in ⟨_, b166, u102, u103, b158, u109, u110, G195, (packS (x := 8) (packS (x := 7) (packS (x := 6) (packS (x := 5) (pack1 (x := 1) rfl) rfl) rfl) rfl) rfl), hX197, (Pin.le_trans hle184 hle196), (hr104.mono (Pin.le_trans (Pin.le_trans (Pin.le_trans (Pin.le_trans (Pin.le_trans (Pin.le_trans hle10 hlek16) hx53.le) hle59) hlek61) hle184) hle196)), (hr105.mono (Pin.le_trans (Pin.le_trans (Pin.le_trans (Pin.le_trans (Pin.le_trans (Pin.le_trans hle10 hlek16) hx53.le) hle59) hlek61) hle184) hle196)), (hr111.mono (Pin.le_trans (Pin.le_trans (Pin.le_trans (Pin.le_trans (Pin.le_trans (Pin.le_trans hle10 hlek16) hx53.le) hle59) hlek61) hle184) hle196)), (hr112.mono (Pin.le_trans (Pin.le_trans (Pin.le_trans (Pin.le_trans (Pin.le_trans (Pin.le_trans hle10 hlek16) hx53.le) hle59) hlek61) hle184) hle196)), (hbp186.mono hle196), (hbp198.mono (Pin.le_refl _))⟩
  refine wp_exit ?_
  refine s_thenE ?_
  refine s_lopE ?_
  refine s_blkE ?_
  refine s_then ?_
  refine s_seq ?_
  refine c_reg ?_
  refine qd rfl rfl rfl (r_fldp (k := 0) rfl Tryd.underlying30 rfl nz28 rfl) ?_
  refine qd rfl rfl rfl (r_ldp1 (u := v) ag28 rfl ((Pins.of_le hX64.pins (Pin.le_trans (Pin.le_trans (Pin.le_trans hlek16 hx53.le) hle59) hlek61)) _ _ _ (hbp12 0 _ rfl))) ?_
  refine qd rfl rfl rfl (r_fldp (k := 0) rfl Tryd.underlying30 rfl nz28 rfl) ?_
  refine qd rfl rfl rfl (r_ldp1 (u := v) ag28 rfl ((Pins.of_le hX64.pins (Pin.le_trans (Pin.le_trans (Pin.le_trans hlek16 hx53.le) hle59) hlek61)) _ _ _ (hbp12 0 _ rfl))) ?_
  refine qd rfl rfl rfl (run_len Tryd.underlying28 (v := v) rfl hv) ?_
  refine qd rfl rfl rfl (r_sub rfl rfl (by omega)) ?_
  refine q1 rfl rfl rfl (o_call (vs := [v, (.int .i64 ((ns.length : Int) - 1))]) Tryd.func68 nm68 rfl rfl rfl ?_)
  refine Calls.mono (used_spec hX64.pins (hv.mono (Pin.le_trans (Pin.le_trans (Pin.le_trans (Pin.le_trans hle10 hlek16) hx53.le) hle59) hlek61)) (opts_ok hopts) (by omega)) ?_
  rintro _ w202 ⟨u200, G201, rfl, ho203, hx204⟩
  refine ⟨_, rfl, ?_⟩
  have hX205 := hX64.tr hx204
  have ho206 : Own eBool 4 G201 w202 w.heap.size u200 (usedM ns ((ns.length : Int) - 1).toNat) := ho203.weaken hX64.size
  obtain ⟨G207, hle210, hX209, hr208, hf211⟩ := ho206.sealed hX205
  refine q1 rfl rfl rfl (o_call (vs := [u200, (.bool false)]) Tryd.func67 nm67 rfl rfl rfl ?_)
  refine Calls.mono (slContains_spec hX209.pins hr208) ?_
  rintro _ _ ⟨rfl, rfl⟩
  refine ⟨_, rfl, ?_⟩
  refine qd rfl rfl rfl (r_not rfl) ?_
  refine qd rfl rfl rfl (r_assign (v := (.bool (!(decide ((0 : Int) ≤ idxB (usedM ns ((ns.length : Int) - 1).toNat) false))))) rfl) ?_
  refine qe ?_
  refine s_then ?_
  refine wp_ret ?_
  refine s_ret ?_
  refine c_ret1 (v := (.bool (!(decide ((0 : Int) ≤ idxB (usedM ns ((ns.length : Int) - 1).toNat) false))))) rfl rfl rfl ?_
  exact ⟨_, congrArg (fun z => Ending.returned (Value.bool z)) (goodB_used (by omega) (by omega) (by omega) hopts (fun k h1 h2 => hsr k h1 (by omega))).symm, hX209⟩

end B1
end Go.Proofs.YtndhhpaldhlghaaDoor
