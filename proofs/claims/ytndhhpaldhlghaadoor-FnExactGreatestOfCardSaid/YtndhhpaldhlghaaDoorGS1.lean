/- Walks, printed by a program (walkgen.py) from the spec specs_gs. -/
import Derived.Test.YtndhhpaldhlghaaDoorChecked
import Derived.Test.YtndhhpaldhlghaaDoorRow
import Derived.Test.YtndhhpaldhlghaaDoorGreat
import Derived.Test.YtndhhpaldhlghaaDoorGoodB
import Derived.Test.YtndhhpaldhlghaaDoorB1
import Derived.Test.YtndhhpaldhlghaaDoorC1
import Derived.Test.YtndhhpaldhlghaaDoorD1
import Derived.Test.YtndhhpaldhlghaaDoorE1
import Derived.Test.YtndhhpaldhlghaaDoorOR1
import Derived.Test.YtndhhpaldhlghaaDoorSF1
set_option maxRecDepth 20000
set_option maxHeartbeats 2000000
namespace Go.Proofs.YtndhhpaldhlghaaDoor
namespace GS1
open Go.RowKit Go.GL Go.Proofs
open Go.Proofs.YtndhhpaldhlghaaDoor.B1
open Go.Proofs.YtndhhpaldhlghaaDoor.C1
open Go.Proofs.YtndhhpaldhlghaaDoor.D1
open Go.Proofs.YtndhhpaldhlghaaDoor.E1
open Go.Proofs.YtndhhpaldhlghaaDoor.OR1
open Go.Proofs.YtndhhpaldhlghaaDoor.SF1
theorem ag30 : (Tryd.prog.underlying 30).map aggD = some true := by kernel_rfl
theorem ap3 : (Tryd.prog.info? 3).map (fun i => (i.size, i.bytes, (i.zero.map (·.cells.size)))) = some (1, 8, some 1) := by kernel_rfl
theorem nm33 : (Tryd.f33.name == "runtime.NumGoroutine") = false := by kernel_rfl
theorem nm34 : (Tryd.f34.name == "runtime.NumGoroutine") = false := by kernel_rfl
theorem nm44 : (Tryd.f44.name == "runtime.NumGoroutine") = false := by kernel_rfl
theorem sz3 : (Tryd.prog.info? 3).map (·.size) = some 1 := by kernel_rfl
theorem sz30 : (Tryd.prog.info? 30).map (·.size) = some 1 := by kernel_rfl
theorem zr3 : (Tryd.prog.info? 3).bind (·.zero) = some (.int .i64 0) := by kernel_rfl

theorem l3All_spec {w : World} {G : Pin} {v : Value} {fs : List (List Nd)} {most : Int} (hP : Pins G w) (hv : RSl (eSl eNode) G v fs) :
    Calls Tryd.prog 44 [v, (.int .i64 most)].toArray w fun e w' => ∃ G', e = .returned (.bool (decP (((fs.length : Int) ≤ most) ∧ ∀ i, i < fs.length → GoodS (fs.getD i [])))) ∧ Ext noS G w G' w' := by
  refine s_enter (n := 27) Tryd.func44 Tryd.ntmps44 rfl rfl ?_
  have hX0 : Ext noS G w G w := Ext.refl hP
  have hm := hv.max
  refine s_seq ?_
  refine c_reg ?_
  refine qd rfl rfl rfl (r_assign (v := (.bool false)) rfl) ?_
  refine qe ?_
  refine s_then ?_
  refine s_seq ?_
  refine s_seq ?_
  refine c_reg ?_
  refine qd rfl rfl rfl (r_assign (v := (.int .i64 0)) rfl) ?_
  refine qe ?_
  refine s_then ?_
  refine s_blk ?_
  refine s_loop (fun (k : Nat) (en : Nat → Value) (W : World) => ∃ (env1 : Nat → Value) (j : Nat) (GL1 : Pin), en = (upd (upd (upd env1 0 v) 1 (.int .i64 most)) 5 (.int .i64 (j : Int))) ∧ k = fs.length - j ∧ Ext noS G w GL1 W ∧ Pin.le G GL1 ∧ (j ≤ fs.length) ∧ (∀ i, i < j → GoodS (fs.getD i []))) _ ⟨_, 0, G, (packS (x := 5) (packS (x := 1) (pack1 (x := 0) rfl) rfl) rfl), rfl, hX0, Pin.le_refl _, Nat.zero_le _, (fun i hi => absurd hi (Nat.not_lt_zero i))⟩ ?_
  rintro k1 _ w2 ⟨env1, j, GL1, rfl, hk3, hX4, hlek1, hj, hp⟩
  refine s_seq ?_
  refine s_seq ?_
  refine c_reg ?_
  refine qd rfl rfl rfl (r_move (v := (.int .i64 (j : Int))) rfl) ?_
  refine qd rfl rfl rfl (r_move (v := v) rfl) ?_
  refine qd rfl rfl rfl (run_len Tryd.underlying41 (v := v) rfl hv) ?_
  refine qd rfl rfl rfl (r_lss rfl rfl) ?_
  refine qd rfl rfl rfl (r_move (v := (.bool (decide (((j : Int) : Int) < (fs.length : Int))))) rfl) ?_
  refine qbd (p := ((j : Int) : Int) < (fs.length : Int)) (t := 10) rfl (fun h5 => ?_) (fun h5 => ?_)
  · skip
    refine qdg rfl rfl rfl rfl rfl rfl (r_move (v := (.int .i64 (j : Int))) rfl) ?_
    refine qdg rfl rfl rfl rfl rfl rfl (r_move (v := (.int .i64 most)) rfl) ?_
    refine qdg rfl rfl rfl rfl rfl rfl (r_leq rfl rfl) ?_
    refine qd rfl rfl rfl (r_pickT (v := (.bool (decide (((j : Int) : Int) ≤ most)))) rfl rfl) ?_
    refine qe ?_
    refine s_then ?_
    refine c_ifd (p := ((j : Int) : Int) ≤ most) rfl rfl (fun h6 => ?_) (fun h6 => ?_)
    · skip
      refine wp_skip ?_
      refine s_then ?_
      refine s_seq ?_
      refine s_blk ?_
      refine s_seq ?_
      refine c_reg ?_
      refine qd rfl rfl rfl (r_move (v := v) rfl) ?_
      refine qd rfl rfl rfl (r_move (v := (.int .i64 (j : Int))) rfl) ?_
      refine qd rfl rfl rfl (run_idx Tryd.underlying41 sz30 (v := v) rfl rfl hv (by omega) (by omega)) ?_
      obtain ⟨u7, hr8, hl9⟩ := nm_form (hv.at (z := (j : Int)) (by omega) (by omega)) (j := j) rfl
      have hm10 := hr8.max
      refine qd rfl rfl rfl (hl9 ag30 sz30 rfl (Pins.of_le hX4.pins hlek1)) ?_
      refine q1 rfl rfl rfl (o_call (vs := [(.agg [u7].toArray)]) Tryd.func33 nm33 rfl rfl rfl ?_)
      refine Calls.mono (l3Good_spec hX4.pins (hr8.mono hlek1)) ?_
      rintro _ w12 ⟨G11, rfl, hx13⟩
      refine ⟨_, rfl, ?_⟩
      have hX14 := hX4.tr hx13
      refine qd rfl rfl rfl (r_not rfl) ?_
      refine qe ?_
      refine s_then ?_
      refine c_ifn rfl rfl (fun h15 => ?_) (fun h15 => ?_)
      · skip
        refine wp_skip ?_
        refine s_blkN ?_
        refine s_then ?_
        refine c_reg ?_
        refine qd rfl rfl rfl (r_move (v := (.int .i64 (j : Int))) rfl) ?_
        refine qd rfl rfl rfl (r_add rfl rfl (by omega)) ?_
        refine qd rfl rfl rfl (r_assign (v := (.int .i64 ((j : Int) + 1))) rfl) ?_
        refine qe ?_
        refine s_lopN ?_
        refine ⟨_, ?_, _, rfl, _, j + 1, G11, (packS (x := 5) (packS (x := 1) (pack1 (x := 0) rfl) rfl) rfl), rfl, hX14, (Pin.le_trans hlek1 hx13.le), (by omega), (fun i hi => if h3 : i = j then h3 ▸ decP_true.1 h15 else hp i (by omega))⟩
        omega
      refine s_seq ?_
      refine c_reg ?_
      refine qd rfl rfl rfl (r_assign (v := (.bool false)) rfl) ?_
      refine qe ?_
      refine s_then ?_
      refine wp_ret ?_
      refine s_ret ?_
      refine c_ret1 (v := (.bool false)) rfl rfl rfl ?_
      exact ⟨_, congrArg (fun z => Ending.returned (Value.bool z)) (decP_false.2 (fun g => by have := g.2 j (by omega); rw [decP_true.2 this] at h15; cases h15)).symm, hX14⟩
    refine wp_exit ?_
    refine s_thenE ?_
    refine s_lopE ?_
    refine s_blkE ?_
    refine s_then ?_
    refine s_seq ?_
    refine c_reg ?_
    refine qd rfl rfl rfl (r_move (v := v) rfl) ?_
    refine qd rfl rfl rfl (run_len Tryd.underlying41 (v := v) rfl hv) ?_
    refine qd rfl rfl rfl (r_move (v := (.int .i64 most)) rfl) ?_
    refine qd rfl rfl rfl (r_leq rfl rfl) ?_
    refine qd rfl rfl rfl (r_assign (v := (.bool (decide (((fs.length : Int) : Int) ≤ most)))) rfl) ?_
    refine qe ?_
    refine s_then ?_
    refine wp_ret ?_
    refine s_ret ?_
    refine c_ret1 (v := (.bool (decide (((fs.length : Int) : Int) ≤ most)))) rfl rfl rfl ?_
    exact ⟨_, congrArg (fun z => Ending.returned (Value.bool z)) (decP_dec.symm.trans (decP_iff ⟨fun h => ⟨h, fun i hi => hp i (by omega)⟩, fun h => h.1⟩)), hX4⟩
  refine qs rfl rfl rfl rfl rfl rfl ?_
  refine qs rfl rfl rfl rfl rfl rfl ?_
  refine qs rfl rfl rfl rfl rfl rfl ?_
  refine qd rfl rfl rfl (r_pickF (v := (.bool false)) rfl rfl) ?_
  refine qe ?_
  refine s_then ?_
  refine c_ifF rfl rfl ?_
  refine wp_exit ?_
  refine s_thenE ?_
  refine s_lopE ?_
  refine s_blkE ?_
  refine s_then ?_
  refine s_seq ?_
  refine c_reg ?_
  refine qd rfl rfl rfl (r_move (v := v) rfl) ?_
  refine qd rfl rfl rfl (run_len Tryd.underlying41 (v := v) rfl hv) ?_
  refine qd rfl rfl rfl (r_move (v := (.int .i64 most)) rfl) ?_
  refine qd rfl rfl rfl (r_leq rfl rfl) ?_
  refine qd rfl rfl rfl (r_assign (v := (.bool (decide (((fs.length : Int) : Int) ≤ most)))) rfl) ?_
  refine qe ?_
  refine s_then ?_
  refine wp_ret ?_
  refine s_ret ?_
  refine c_ret1 (v := (.bool (decide (((fs.length : Int) : Int) ≤ most)))) rfl rfl rfl ?_
  exact ⟨_, congrArg (fun z => Ending.returned (Value.bool z)) (decP_dec.symm.trans (decP_iff ⟨fun h => ⟨h, fun i hi => hp i (by omega)⟩, fun h => h.1⟩)), hX4⟩

theorem sGreatestOf_spec {w : World} {G : Pin} {v : Value} {fs : List (List Nd)} (hP : Pins G w) (hv : RSl (eSl eNode) G v fs) :
    Calls Tryd.prog 19 [v].toArray w fun e w' => ∃ (u : Value) (G' : Pin), e = .returned (.tuple #[u, .bool (decP (AllG fs))]) ∧ Own eInt 3 G' w' w.heap.size u (grF fs) ∧ Ext noS G w G' w' := by
  refine s_enter (n := 62) Tryd.func19 Tryd.ntmps19 rfl rfl ?_
  have hX0 : Ext noS G w G w := Ext.refl hP
  have hm := hv.max
  refine s_seq ?_
  refine c_reg ?_
  refine qd rfl rfl rfl (r_assign (v := (.slice none 0 0)) rfl) ?_
  refine qd rfl rfl rfl (r_assign (v := (.bool false)) rfl) ?_
  refine qe ?_
  refine s_then ?_
  refine s_seq ?_
  refine c_reg ?_
  refine q1 rfl rfl rfl (o_build0 (E := eInt) (e := 3) Tryd.underlying38 sz3 hX0.pins (fun u1 w2 ho3 hp4 hl5 hk6 => ?_))
  have hX7 := hX0.step hp4 hl5
  have ho8 : Own eInt 3 G w2 w.heap.size u1 ([]) := ho3.weaken hX0.size
  refine qd rfl rfl rfl (r_assign (v := u1) rfl) ?_
  refine qe ?_
  refine s_then ?_
  refine s_seq ?_
  refine s_seq ?_
  refine c_reg ?_
  refine qd rfl rfl rfl (r_move (v := v) rfl) ?_
  refine q1 rfl rfl rfl (o_call (vs := [v, (.int .i64 24)]) Tryd.func44 nm44 rfl rfl rfl ?_)
  refine Calls.mono (l3All_spec hX7.pins hv) ?_
  rintro _ w10 ⟨G9, rfl, hx11⟩
  refine ⟨_, rfl, ?_⟩
  have hX12 := hX7.tr hx11
  have ho13 := ho8.ext hx11
  refine qd rfl rfl rfl (r_not rfl) ?_
  refine qe ?_
  refine s_then ?_
  refine c_ifn rfl rfl (fun h14 => ?_) (fun h14 => ?_)
  · skip
    refine wp_skip ?_
    refine s_then ?_
    refine s_seq ?_
    refine s_seq ?_
    refine c_reg ?_
    have hAG : AllG fs := decP_true.1 h14
    have h24 := hAG.1
    refine qd rfl rfl rfl (r_assign (v := (.int .i64 0)) rfl) ?_
    refine qe ?_
    refine s_then ?_
    refine s_blk ?_
    refine s_loop (fun (k : Nat) (en : Nat → Value) (W : World) => ∃ (env1 : Nat → Value) (i : Nat) (ov : Value) (out : List Int) (GL1 : Pin), en = (upd (upd (upd (upd (upd env1 0 v) 2 (.slice none 0 0)) 3 (.bool false)) 4 ov) 5 (.int .i64 (i : Int))) ∧ k = fs.length - i ∧ Ext noS G w GL1 W ∧ Pin.le G9 GL1 ∧ (i ≤ fs.length) ∧ (out = grL (gF fs) fs.length i) ∧ (Own eInt 3 GL1 W w.heap.size ov (out))) _ ⟨_, 0, u1, [], G9, (packS (x := 5) (packS (x := 4) (packS (x := 3) (packS (x := 2) (pack1 (x := 0) rfl) rfl) rfl) rfl) rfl), rfl, hX12, Pin.le_refl _, Nat.zero_le _, rfl, ho13⟩ ?_
    rintro k15 _ w16 ⟨env1, i, ov, out, GL1, rfl, hk17, hX18, hlek15, hi, hout, hw19⟩
    have hol : out.length ≤ i := by rw [hout]; exact gr_len i
    refine s_seq ?_
    refine s_seq ?_
    refine c_reg ?_
    refine qd rfl rfl rfl (r_move (v := (.int .i64 (i : Int))) rfl) ?_
    refine qd rfl rfl rfl (r_move (v := v) rfl) ?_
    refine qd rfl rfl rfl (run_len Tryd.underlying41 (v := v) rfl hv) ?_
    refine qd rfl rfl rfl (r_lss rfl rfl) ?_
    refine qe ?_
    refine s_then ?_
    refine c_ifd (p := ((i : Int) : Int) < (fs.length : Int)) rfl rfl (fun h20 => ?_) (fun h20 => ?_)
    · skip
      refine wp_skip ?_
      refine s_then ?_
      refine s_seq ?_
      refine s_blk ?_
      refine s_seq ?_
      refine c_reg ?_
      refine qd rfl rfl rfl (r_assign (v := (.bool true)) rfl) ?_
      refine qe ?_
      refine s_then ?_
      refine s_seq ?_
      refine s_seq ?_
      refine c_reg ?_
      refine qd rfl rfl rfl (r_assign (v := (.int .i64 0)) rfl) ?_
      refine qe ?_
      refine s_then ?_
      refine s_blk ?_
      refine s_loop (fun (k : Nat) (en : Nat → Value) (W : World) => ∃ (env1 : Nat → Value) (j : Nat) (bst : Bool) (GL2 : Pin), en = (upd (upd (upd (upd (upd (upd (upd env1 0 v) 2 (.slice none 0 0)) 3 (.bool false)) 4 ov) 5 (.int .i64 (i : Int))) 6 (.bool bst)) 7 (.int .i64 (j : Int))) ∧ k = fs.length - j ∧ Ext noS G w GL2 W ∧ Pin.le GL1 GL2 ∧ (j ≤ fs.length) ∧ (bst = grB (gF fs) i j) ∧ (Own eInt 3 GL2 W w.heap.size ov (out))) _ ⟨_, 0, true, GL1, (packS (x := 7) (packS (x := 6) (packS (x := 5) (packS (x := 4) (packS (x := 3) (packS (x := 2) (pack1 (x := 0) rfl) rfl) rfl) rfl) rfl) rfl) rfl), rfl, hX18, Pin.le_refl _, Nat.zero_le _, gr_start, hw19⟩ ?_
      rintro k21 _ w22 ⟨env1, j, bst, GL2, rfl, hk23, hX24, hlek21, hk, hbst, hw25⟩
      refine s_seq ?_
      refine s_seq ?_
      refine c_reg ?_
      refine qd rfl rfl rfl (r_move (v := (.int .i64 (j : Int))) rfl) ?_
      refine qd rfl rfl rfl (r_move (v := v) rfl) ?_
      refine qd rfl rfl rfl (run_len Tryd.underlying41 (v := v) rfl hv) ?_
      refine qd rfl rfl rfl (r_lss rfl rfl) ?_
      refine qe ?_
      refine s_then ?_
      refine c_ifd (p := ((j : Int) : Int) < (fs.length : Int)) rfl rfl (fun h26 => ?_) (fun h26 => ?_)
      · skip
        refine wp_skip ?_
        refine s_then ?_
        refine s_seq ?_
        refine s_blk ?_
        refine s_seq ?_
        refine c_draw (S := fun wz => Pins GL2 wz) (last := 31) (by kernel_rfl) rfl ?_
        have hl27 : Below w22.heap.size w22 w22.drew := (Below.refl _ _).drew
        have hp28 := hX24.pins.below hl27
        have hX29 := hX24.step hp28 hl27
        have ho30 := hw25.below hl27
        refine dr_take (i := 0) rfl rfl rfl (want_none rfl _) (by kernel_rfl) (fun _ _ => r_move (v := (.int .i64 (j : Int))) rfl) hX29.pins ?_
        refine dr_take (i := 1) rfl rfl rfl (want_none rfl _) (by kernel_rfl) (fun _ _ => r_move (v := (.int .i64 (i : Int))) rfl) hX29.pins ?_
        refine dr_take (i := 2) rfl rfl rfl (want_none rfl _) (by kernel_rfl) (fun _ _ => r_neq rfl rfl) hX29.pins ?_
        refine dr_take (i := 3) rfl rfl rfl (want_none rfl _) (by kernel_rfl) (fun _ _ => r_move (v := (.bool (decide (((j : Int) : Int) ≠ (i : Int))))) rfl) hX29.pins ?_
        refine drbd (p := ((j : Int) : Int) ≠ (i : Int)) (t := 28) rfl (fun h31 => ?_) (fun h31 => ?_)
        · skip
          refine dr_take (i := 4) rfl rfl rfl (want_yes rfl rfl rfl rfl) (by kernel_rfl) (fun _ _ => r_move (v := v) rfl) hX29.pins ?_
          refine dr_take (i := 5) rfl rfl rfl (want_yes rfl rfl rfl rfl) (by kernel_rfl) (fun _ _ => r_move (v := (.int .i64 (j : Int))) rfl) hX29.pins ?_
          refine dr_take (i := 6) rfl rfl rfl (want_yes rfl rfl rfl rfl) (by kernel_rfl) (fun _ _ => run_idx Tryd.underlying41 sz30 (v := v) rfl rfl hv (by omega) (by omega)) hX29.pins ?_
          obtain ⟨u32, hr33, hl34⟩ := nm_form (hv.at (z := (j : Int)) (by omega) (by omega)) (j := j) rfl
          have hm35 := hr33.max
          refine dr_take (i := 7) rfl rfl rfl (want_yes rfl rfl rfl rfl) (by kernel_rfl) (fun _ hS => hl34 ag30 sz30 rfl (Pins.of_le hS (Pin.le_trans (Pin.le_trans hx11.le hlek15) hlek21))) hX29.pins ?_
          refine dr_take (i := 8) rfl rfl rfl (want_yes rfl rfl rfl rfl) (by kernel_rfl) (fun _ _ => r_move (v := v) rfl) hX29.pins ?_
          refine dr_take (i := 9) rfl rfl rfl (want_yes rfl rfl rfl rfl) (by kernel_rfl) (fun _ _ => r_move (v := (.int .i64 (i : Int))) rfl) hX29.pins ?_
          refine dr_take (i := 10) rfl rfl rfl (want_yes rfl rfl rfl rfl) (by kernel_rfl) (fun _ _ => run_idx Tryd.underlying41 sz30 (v := v) rfl rfl hv (by omega) (by omega)) hX29.pins ?_
          obtain ⟨u36, hr37, hl38⟩ := nm_form (hv.at (z := (i : Int)) (by omega) (by omega)) (j := i) rfl
          have hm39 := hr37.max
          refine dr_take (i := 11) rfl rfl rfl (want_yes rfl rfl rfl rfl) (by kernel_rfl) (fun _ hS => hl38 ag30 sz30 rfl (Pins.of_le hS (Pin.le_trans (Pin.le_trans hx11.le hlek15) hlek21))) hX29.pins ?_
          refine dr_one (i := 12) (by kernel_rfl) (drOp1 (i := 12) rfl rfl rfl (want_yes rfl rfl rfl rfl) (o_call (vs := [(.agg [u32].toArray), (.agg [u36].toArray)]) Tryd.func34 nm34 rfl rfl rfl ?_))
          refine Calls.mono (l4Geq_spec hX29.pins (hr33.mono (Pin.le_trans (Pin.le_trans hx11.le hlek15) hlek21)) (hr37.mono (Pin.le_trans (Pin.le_trans hx11.le hlek15) hlek21)) (hAG.form (i := j) (by omega)) (hAG.form (i := i) (by omega)) (by have h1 := (hAG.good (i := j) (by omega)).hi; have h2 := (hAG.good (i := i) (by omega)).hi; omega)) ?_
          rintro _ w41 ⟨G40, rfl, hx42⟩
          refine ⟨_, rfl, ?_⟩
          have hX43 := hX29.tr hx42
          have ho44 := ho30.ext hx42
          refine ⟨fun _ => (Pins.of_le hX43.pins hx42.le), ?_⟩
          refine dr_take (i := 13) rfl rfl rfl (want_none rfl _) (by kernel_rfl) (fun _ _ => r_pickT (v := (.bool (decP (geG (gOf (fs.getD j [])) (gOf (fs.getD i [])))))) rfl rfl) (Pins.of_le hX43.pins hx42.le) ?_
          refine dr_take (i := 14) rfl rfl rfl (want_none rfl _) (by kernel_rfl) (fun _ _ => r_move (v := (.bool (decP (geG (gOf (fs.getD j [])) (gOf (fs.getD i [])))))) rfl) (Pins.of_le hX43.pins hx42.le) ?_
          refine drb (t := 39) rfl (fun h45 => ?_) (fun h45 => ?_)
          · skip
            refine dr_take (i := 15) rfl rfl rfl (want_yes rfl rfl rfl rfl) (by kernel_rfl) (fun _ _ => r_move (v := (.int .i64 (j : Int))) rfl) (Pins.of_le hX43.pins hx42.le) ?_
            refine dr_take (i := 16) rfl rfl rfl (want_yes rfl rfl rfl rfl) (by kernel_rfl) (fun _ _ => r_move (v := (.int .i64 (i : Int))) rfl) (Pins.of_le hX43.pins hx42.le) ?_
            refine dr_take (i := 17) rfl rfl rfl (want_yes rfl rfl rfl rfl) (by kernel_rfl) (fun _ _ => r_lss rfl rfl) (Pins.of_le hX43.pins hx42.le) ?_
            refine dr_take (i := 18) rfl rfl rfl (want_yes rfl rfl rfl rfl) (by kernel_rfl) (fun _ _ => r_move (v := (.bool (decide (((j : Int) : Int) < (i : Int))))) rfl) (Pins.of_le hX43.pins hx42.le) ?_
            refine drbd (p := ((j : Int) : Int) < (i : Int)) (t := 43) rfl (fun h46 => ?_) (fun h46 => ?_)
            · skip
              refine dr_skip (i := 19) rfl rfl (want_no rfl rfl rfl rfl rfl) (by kernel_rfl) (Pins.of_le hX43.pins hx42.le) ?_
              refine dr_skip (i := 20) rfl rfl (want_no rfl rfl rfl rfl rfl) (by kernel_rfl) (Pins.of_le hX43.pins hx42.le) ?_
              refine dr_skip (i := 21) rfl rfl (want_no rfl rfl rfl rfl rfl) (by kernel_rfl) (Pins.of_le hX43.pins hx42.le) ?_
              refine dr_skip (i := 22) rfl rfl (want_no rfl rfl rfl rfl rfl) (by kernel_rfl) (Pins.of_le hX43.pins hx42.le) ?_
              refine dr_skip (i := 23) rfl rfl (want_no rfl rfl rfl rfl rfl) (by kernel_rfl) (Pins.of_le hX43.pins hx42.le) ?_
              refine dr_skip (i := 24) rfl rfl (want_no rfl rfl rfl rfl rfl) (by kernel_rfl) (Pins.of_le hX43.pins hx42.le) ?_
              refine dr_skip (i := 25) rfl rfl (want_no rfl rfl rfl rfl rfl) (by kernel_rfl) (Pins.of_le hX43.pins hx42.le) ?_
              refine dr_skip (i := 26) rfl rfl (want_no rfl rfl rfl rfl rfl) (by kernel_rfl) (Pins.of_le hX43.pins hx42.le) ?_
              refine dr_skip (i := 27) rfl rfl (want_no rfl rfl rfl rfl rfl) (by kernel_rfl) (Pins.of_le hX43.pins hx42.le) ?_
              refine dr_skip (i := 28) rfl rfl (want_no rfl rfl rfl rfl rfl) (by kernel_rfl) (Pins.of_le hX43.pins hx42.le) ?_
              refine dr_take (i := 29) rfl rfl rfl (want_yes rfl rfl rfl rfl) (by kernel_rfl) (fun _ _ => r_pickT (v := (.bool true)) rfl rfl) (Pins.of_le hX43.pins hx42.le) ?_
              refine dr_take (i := 30) rfl rfl rfl (want_none rfl _) (by kernel_rfl) (fun _ _ => r_pickT (v := (.bool true)) rfl rfl) (Pins.of_le hX43.pins hx42.le) ?_
              refine dr_end (by kernel_rfl) ?_
              refine s_then ?_
              refine c_ifT rfl rfl ?_
              refine c_reg ?_
              refine qd rfl rfl rfl (r_assign (v := (.bool false)) rfl) ?_
              refine qe ?_
              refine s_blkN ?_
              refine s_then ?_
              refine c_reg ?_
              refine qd rfl rfl rfl (r_move (v := (.int .i64 (j : Int))) rfl) ?_
              refine qd rfl rfl rfl (r_add rfl rfl (by omega)) ?_
              refine qd rfl rfl rfl (r_assign (v := (.int .i64 ((j : Int) + 1))) rfl) ?_
              refine qe ?_
              refine s_lopN ?_
              refine ⟨_, ?_, _, rfl, _, j + 1, false, G40, (packS (x := 7) (packS (x := 6) (packS (x := 5) (packS (x := 4) (packS (x := 3) (packS (x := 2) (pack1 (x := 0) rfl) rfl) rfl) rfl) rfl) rfl) rfl), rfl, hX43, (Pin.le_trans hlek21 hx42.le), (by omega), (gr_yes ⟨h31, (decP_true.1 h45), Or.inl h46⟩), ho44⟩
              omega
            refine dr_take (i := 19) rfl rfl rfl (want_yes rfl rfl rfl rfl) (by kernel_rfl) (fun _ _ => r_move (v := v) rfl) (Pins.of_le hX43.pins hx42.le) ?_
            refine dr_take (i := 20) rfl rfl rfl (want_yes rfl rfl rfl rfl) (by kernel_rfl) (fun _ _ => r_move (v := (.int .i64 (i : Int))) rfl) (Pins.of_le hX43.pins hx42.le) ?_
            refine dr_take (i := 21) rfl rfl rfl (want_yes rfl rfl rfl rfl) (by kernel_rfl) (fun _ _ => run_idx Tryd.underlying41 sz30 (v := v) rfl rfl hv (by omega) (by omega)) (Pins.of_le hX43.pins hx42.le) ?_
            obtain ⟨u47, hr48, hl49⟩ := nm_form (hv.at (z := (i : Int)) (by omega) (by omega)) (j := i) rfl
            have hm50 := hr48.max
            refine dr_take (i := 22) rfl rfl rfl (want_yes rfl rfl rfl rfl) (by kernel_rfl) (fun _ hS => hl49 ag30 sz30 rfl (Pins.of_le hS (Pin.le_trans (Pin.le_trans hx11.le hlek15) hlek21))) (Pins.of_le hX43.pins hx42.le) ?_
            refine dr_take (i := 23) rfl rfl rfl (want_yes rfl rfl rfl rfl) (by kernel_rfl) (fun _ _ => r_move (v := v) rfl) (Pins.of_le hX43.pins hx42.le) ?_
            refine dr_take (i := 24) rfl rfl rfl (want_yes rfl rfl rfl rfl) (by kernel_rfl) (fun _ _ => r_move (v := (.int .i64 (j : Int))) rfl) (Pins.of_le hX43.pins hx42.le) ?_
            refine dr_take (i := 25) rfl rfl rfl (want_yes rfl rfl rfl rfl) (by kernel_rfl) (fun _ _ => run_idx Tryd.underlying41 sz30 (v := v) rfl rfl hv (by omega) (by omega)) (Pins.of_le hX43.pins hx42.le) ?_
            obtain ⟨u51, hr52, hl53⟩ := nm_form (hv.at (z := (j : Int)) (by omega) (by omega)) (j := j) rfl
            have hm54 := hr52.max
            refine dr_take (i := 26) rfl rfl rfl (want_yes rfl rfl rfl rfl) (by kernel_rfl) (fun _ hS => hl53 ag30 sz30 rfl (Pins.of_le hS (Pin.le_trans (Pin.le_trans hx11.le hlek15) hlek21))) (Pins.of_le hX43.pins hx42.le) ?_
            refine dr_one (i := 27) (by kernel_rfl) (drOp1 (i := 27) rfl rfl rfl (want_yes rfl rfl rfl rfl) (o_call (vs := [(.agg [u47].toArray), (.agg [u51].toArray)]) Tryd.func34 nm34 rfl rfl rfl ?_))
            refine Calls.mono (l4Geq_spec hX43.pins (hr48.mono (Pin.le_trans (Pin.le_trans (Pin.le_trans hx11.le hlek15) hlek21) hx42.le)) (hr52.mono (Pin.le_trans (Pin.le_trans (Pin.le_trans hx11.le hlek15) hlek21) hx42.le)) (hAG.form (i := i) (by omega)) (hAG.form (i := j) (by omega)) (by have h1 := (hAG.good (i := i) (by omega)).hi; have h2 := (hAG.good (i := j) (by omega)).hi; omega)) ?_
            rintro _ w56 ⟨G55, rfl, hx57⟩
            refine ⟨_, rfl, ?_⟩
            have hX58 := hX43.tr hx57
            have ho59 := ho44.ext hx57
            refine ⟨fun _ => (Pins.of_le hX58.pins (Pin.le_trans hx42.le hx57.le)), ?_⟩
            refine dr_take (i := 28) rfl rfl rfl (want_yes rfl rfl rfl rfl) (by kernel_rfl) (fun _ _ => r_not rfl) (Pins.of_le hX58.pins (Pin.le_trans hx42.le hx57.le)) ?_
            refine dr_take (i := 29) rfl rfl rfl (want_yes rfl rfl rfl rfl) (by kernel_rfl) (fun _ _ => r_pickF (v := (.bool (!(decP (geG (gOf (fs.getD i [])) (gOf (fs.getD j []))))))) rfl rfl) (Pins.of_le hX58.pins (Pin.le_trans hx42.le hx57.le)) ?_
            refine dr_take (i := 30) rfl rfl rfl (want_none rfl _) (by kernel_rfl) (fun _ _ => r_pickT (v := (.bool (!(decP (geG (gOf (fs.getD i [])) (gOf (fs.getD j []))))))) rfl rfl) (Pins.of_le hX58.pins (Pin.le_trans hx42.le hx57.le)) ?_
            refine dr_end (by kernel_rfl) ?_
            refine s_then ?_
            refine c_ifn rfl rfl (fun h60 => ?_) (fun h60 => ?_)
            · skip
              refine wp_skip ?_
              refine s_blkN ?_
              refine s_then ?_
              refine c_reg ?_
              refine qd rfl rfl rfl (r_move (v := (.int .i64 (j : Int))) rfl) ?_
              refine qd rfl rfl rfl (r_add rfl rfl (by omega)) ?_
              refine qd rfl rfl rfl (r_assign (v := (.int .i64 ((j : Int) + 1))) rfl) ?_
              refine qe ?_
              refine s_lopN ?_
              refine ⟨_, ?_, _, rfl, _, j + 1, bst, G55, (packS (x := 7) (packS (x := 6) (packS (x := 5) (packS (x := 4) (packS (x := 3) (packS (x := 2) (pack1 (x := 0) rfl) rfl) rfl) rfl) rfl) rfl) rfl), rfl, hX58, (Pin.le_trans (Pin.le_trans hlek21 hx42.le) hx57.le), (by omega), (gr_no hbst (fun p => p.2.2.elim h46 (fun h => h (decP_true.1 h60)))), ho59⟩
              omega
            refine c_reg ?_
            refine qd rfl rfl rfl (r_assign (v := (.bool false)) rfl) ?_
            refine qe ?_
            refine s_blkN ?_
            refine s_then ?_
            refine c_reg ?_
            refine qd rfl rfl rfl (r_move (v := (.int .i64 (j : Int))) rfl) ?_
            refine qd rfl rfl rfl (r_add rfl rfl (by omega)) ?_
            refine qd rfl rfl rfl (r_assign (v := (.int .i64 ((j : Int) + 1))) rfl) ?_
            refine qe ?_
            refine s_lopN ?_
            refine ⟨_, ?_, _, rfl, _, j + 1, false, G55, (packS (x := 7) (packS (x := 6) (packS (x := 5) (packS (x := 4) (packS (x := 3) (packS (x := 2) (pack1 (x := 0) rfl) rfl) rfl) rfl) rfl) rfl) rfl), rfl, hX58, (Pin.le_trans (Pin.le_trans hlek21 hx42.le) hx57.le), (by omega), (gr_yes ⟨h31, (decP_true.1 h45), Or.inr (decP_false.1 h60)⟩), ho59⟩
            omega
          refine dr_skip (i := 15) rfl rfl (want_no rfl rfl rfl rfl rfl) (by kernel_rfl) (Pins.of_le hX43.pins hx42.le) ?_
          refine dr_skip (i := 16) rfl rfl (want_no rfl rfl rfl rfl rfl) (by kernel_rfl) (Pins.of_le hX43.pins hx42.le) ?_
          refine dr_skip (i := 17) rfl rfl (want_no rfl rfl rfl rfl rfl) (by kernel_rfl) (Pins.of_le hX43.pins hx42.le) ?_
          refine dr_skip (i := 18) rfl rfl (want_no rfl rfl rfl rfl rfl) (by kernel_rfl) (Pins.of_le hX43.pins hx42.le) ?_
          refine dr_skip (i := 19) rfl rfl (want_undef rfl rfl rfl rfl) (by kernel_rfl) (Pins.of_le hX43.pins hx42.le) ?_
          refine dr_skip (i := 20) rfl rfl (want_undef rfl rfl rfl rfl) (by kernel_rfl) (Pins.of_le hX43.pins hx42.le) ?_
          refine dr_skip (i := 21) rfl rfl (want_undef rfl rfl rfl rfl) (by kernel_rfl) (Pins.of_le hX43.pins hx42.le) ?_
          refine dr_skip (i := 22) rfl rfl (want_undef rfl rfl rfl rfl) (by kernel_rfl) (Pins.of_le hX43.pins hx42.le) ?_
          refine dr_skip (i := 23) rfl rfl (want_undef rfl rfl rfl rfl) (by kernel_rfl) (Pins.of_le hX43.pins hx42.le) ?_
          refine dr_skip (i := 24) rfl rfl (want_undef rfl rfl rfl rfl) (by kernel_rfl) (Pins.of_le hX43.pins hx42.le) ?_
          refine dr_skip (i := 25) rfl rfl (want_undef rfl rfl rfl rfl) (by kernel_rfl) (Pins.of_le hX43.pins hx42.le) ?_
          refine dr_skip (i := 26) rfl rfl (want_undef rfl rfl rfl rfl) (by kernel_rfl) (Pins.of_le hX43.pins hx42.le) ?_
          refine dr_skip (i := 27) rfl rfl (want_undef rfl rfl rfl rfl) (by kernel_rfl) (Pins.of_le hX43.pins hx42.le) ?_
          refine dr_skip (i := 28) rfl rfl (want_undef rfl rfl rfl rfl) (by kernel_rfl) (Pins.of_le hX43.pins hx42.le) ?_
          refine dr_skip (i := 29) rfl rfl (want_no rfl rfl rfl rfl rfl) (by kernel_rfl) (Pins.of_le hX43.pins hx42.le) ?_
          refine dr_take (i := 30) rfl rfl rfl (want_none rfl _) (by kernel_rfl) (fun _ _ => r_pickF (v := (.bool false)) rfl rfl) (Pins.of_le hX43.pins hx42.le) ?_
          refine dr_end (by kernel_rfl) ?_
          refine s_then ?_
          refine c_ifF rfl rfl ?_
          refine wp_skip ?_
          refine s_blkN ?_
          refine s_then ?_
          refine c_reg ?_
          refine qd rfl rfl rfl (r_move (v := (.int .i64 (j : Int))) rfl) ?_
          refine qd rfl rfl rfl (r_add rfl rfl (by omega)) ?_
          refine qd rfl rfl rfl (r_assign (v := (.int .i64 ((j : Int) + 1))) rfl) ?_
          refine qe ?_
          refine s_lopN ?_
          refine ⟨_, ?_, _, rfl, _, j + 1, bst, G40, (packS (x := 7) (packS (x := 6) (packS (x := 5) (packS (x := 4) (packS (x := 3) (packS (x := 2) (pack1 (x := 0) rfl) rfl) rfl) rfl) rfl) rfl) rfl), rfl, hX43, (Pin.le_trans hlek21 hx42.le), (by omega), (gr_no hbst (fun p => (decP_false.1 h45) p.2.1)), ho44⟩
          omega
        refine dr_skip (i := 4) rfl rfl (want_no rfl rfl rfl rfl rfl) (by kernel_rfl) hX29.pins ?_
        refine dr_skip (i := 5) rfl rfl (want_no rfl rfl rfl rfl rfl) (by kernel_rfl) hX29.pins ?_
        refine dr_skip (i := 6) rfl rfl (want_no rfl rfl rfl rfl rfl) (by kernel_rfl) hX29.pins ?_
        refine dr_skip (i := 7) rfl rfl (want_no rfl rfl rfl rfl rfl) (by kernel_rfl) hX29.pins ?_
        refine dr_skip (i := 8) rfl rfl (want_no rfl rfl rfl rfl rfl) (by kernel_rfl) hX29.pins ?_
        refine dr_skip (i := 9) rfl rfl (want_no rfl rfl rfl rfl rfl) (by kernel_rfl) hX29.pins ?_
        refine dr_skip (i := 10) rfl rfl (want_no rfl rfl rfl rfl rfl) (by kernel_rfl) hX29.pins ?_
        refine dr_skip (i := 11) rfl rfl (want_no rfl rfl rfl rfl rfl) (by kernel_rfl) hX29.pins ?_
        refine dr_skip (i := 12) rfl rfl (want_no rfl rfl rfl rfl rfl) (by kernel_rfl) hX29.pins ?_
        refine dr_take (i := 13) rfl rfl rfl (want_none rfl _) (by kernel_rfl) (fun _ _ => r_pickF (v := (.bool false)) rfl rfl) hX29.pins ?_
        refine dr_take (i := 14) rfl rfl rfl (want_none rfl _) (by kernel_rfl) (fun _ _ => r_move (v := (.bool false)) rfl) hX29.pins ?_
        refine dr_skip (i := 15) rfl rfl (want_no rfl rfl rfl rfl rfl) (by kernel_rfl) hX29.pins ?_
        refine dr_skip (i := 16) rfl rfl (want_no rfl rfl rfl rfl rfl) (by kernel_rfl) hX29.pins ?_
        refine dr_skip (i := 17) rfl rfl (want_no rfl rfl rfl rfl rfl) (by kernel_rfl) hX29.pins ?_
        refine dr_skip (i := 18) rfl rfl (want_no rfl rfl rfl rfl rfl) (by kernel_rfl) hX29.pins ?_
        refine dr_skip (i := 19) rfl rfl (want_undef rfl rfl rfl rfl) (by kernel_rfl) hX29.pins ?_
        refine dr_skip (i := 20) rfl rfl (want_undef rfl rfl rfl rfl) (by kernel_rfl) hX29.pins ?_
        refine dr_skip (i := 21) rfl rfl (want_undef rfl rfl rfl rfl) (by kernel_rfl) hX29.pins ?_
        refine dr_skip (i := 22) rfl rfl (want_undef rfl rfl rfl rfl) (by kernel_rfl) hX29.pins ?_
        refine dr_skip (i := 23) rfl rfl (want_undef rfl rfl rfl rfl) (by kernel_rfl) hX29.pins ?_
        refine dr_skip (i := 24) rfl rfl (want_undef rfl rfl rfl rfl) (by kernel_rfl) hX29.pins ?_
        refine dr_skip (i := 25) rfl rfl (want_undef rfl rfl rfl rfl) (by kernel_rfl) hX29.pins ?_
        refine dr_skip (i := 26) rfl rfl (want_undef rfl rfl rfl rfl) (by kernel_rfl) hX29.pins ?_
        refine dr_skip (i := 27) rfl rfl (want_undef rfl rfl rfl rfl) (by kernel_rfl) hX29.pins ?_
        refine dr_skip (i := 28) rfl rfl (want_undef rfl rfl rfl rfl) (by kernel_rfl) hX29.pins ?_
        refine dr_skip (i := 29) rfl rfl (want_no rfl rfl rfl rfl rfl) (by kernel_rfl) hX29.pins ?_
        refine dr_take (i := 30) rfl rfl rfl (want_none rfl _) (by kernel_rfl) (fun _ _ => r_pickF (v := (.bool false)) rfl rfl) hX29.pins ?_
        refine dr_end (by kernel_rfl) ?_
        refine s_then ?_
        refine c_ifF rfl rfl ?_
        refine wp_skip ?_
        refine s_blkN ?_
        refine s_then ?_
        refine c_reg ?_
        refine qd rfl rfl rfl (r_move (v := (.int .i64 (j : Int))) rfl) ?_
        refine qd rfl rfl rfl (r_add rfl rfl (by omega)) ?_
        refine qd rfl rfl rfl (r_assign (v := (.int .i64 ((j : Int) + 1))) rfl) ?_
        refine qe ?_
        refine s_lopN ?_
        refine ⟨_, ?_, _, rfl, _, j + 1, bst, GL2, (packS (x := 7) (packS (x := 6) (packS (x := 5) (packS (x := 4) (packS (x := 3) (packS (x := 2) (pack1 (x := 0) rfl) rfl) rfl) rfl) rfl) rfl) rfl), rfl, hX29, hlek21, (by omega), (gr_no hbst (fun p => h31 p.1)), ho30⟩
        omega
      refine wp_exit ?_
      refine s_thenE ?_
      refine s_lopE ?_
      refine s_blkE ?_
      refine s_then ?_
      refine s_seq ?_
      refine c_reg ?_
      refine qd rfl rfl rfl (r_move (v := (.bool bst)) rfl) ?_
      refine qe ?_
      refine s_then ?_
      refine c_if rfl rfl (fun h61 => ?_) (fun h61 => ?_)
      · skip
        refine c_reg ?_
        refine qd rfl rfl rfl (r_move (v := ov) rfl) ?_
        refine qd rfl rfl rfl (r_move (v := (.int .i64 (i : Int))) rfl) ?_
        refine q1 rfl rfl rfl (o_buildF (E := eInt) (e := 3) [(.int .i64 (i : Int))] [(i : Int)] Tryd.underlying38 sz3 zr3 (by exact reps1 (by rfl)) (ones1 (by rfl)) rfl rfl rfl rfl (by decide) hX24.pins (fun u62 w63 ho64 hp65 hl66 hk67 => ?_))
        have hX68 := hX24.step hp65 hl66
        have ho69 := hw25.below hl66
        have ha70 : Apart u62.ownBlock ov.ownBlock := new_ne_own hk67 hw25.lt
        have ho71 : Own eInt 3 GL2 w63 w.heap.size u62 ([(i : Int)]) := ho64.weaken hX24.size
        refine q1 rfl rfl rfl (o_append (E := eInt) (v := ov) (u := u62) 8 Tryd.underlying38 ap3 (by decide) rfl rfl hX68.pins ho69 ho71.src (by first | omega | (rw [List.nil_append]; omega) | (rw [List.length_nil]; omega) | (rw [List.length_append]; omega) | (simp; done) | (simp; omega) | (simp only [List.length_append, List.length_cons, List.length_nil]; omega)) (by first | omega | (rw [List.nil_append]; omega) | (rw [List.length_nil]; omega) | (rw [List.length_append]; omega) | (simp; done) | (simp; omega) | (simp only [List.length_append, List.length_cons, List.length_nil]; omega)) (hX68.size) (fun u72 w73 ho74 hp75 hg76 hw77 => ?_))
        have hX78 := hX68.write hp75 hg76 ((lo_own ho69))
        have ha80 : Apart u62.ownBlock u72.ownBlock := app_ne_own ha70 hw77 ho71.lt
        have hm81 : (out ++ ([(i : Int)])).length = out.length + 1 := List.length_append
        refine qd rfl rfl rfl (r_assign (v := u72) rfl) ?_
        refine qe ?_
        refine s_blkN ?_
        refine s_then ?_
        refine c_reg ?_
        refine qd rfl rfl rfl (r_move (v := (.int .i64 (i : Int))) rfl) ?_
        refine qd rfl rfl rfl (r_add rfl rfl (by omega)) ?_
        refine qd rfl rfl rfl (r_assign (v := (.int .i64 ((i : Int) + 1))) rfl) ?_
        refine qe ?_
        refine s_lopN ?_
        have hkn : j = fs.length := by omega
        rw [hkn] at hbst
        rw [h61] at hbst
        refine ⟨_, ?_, _, rfl, _, i + 1, u72, out ++ ([(i : Int)]), GL2, (packS (x := 5) (packS (x := 4) (packS (x := 3) (packS (x := 2) (pack1 (x := 0) rfl) rfl) rfl) rfl) rfl), rfl, hX78, (Pin.le_trans hlek15 hlek21), (by omega), (by rw [gr_take hbst, hout]), ho74⟩
        omega
      refine wp_skip ?_
      refine s_blkN ?_
      refine s_then ?_
      refine c_reg ?_
      refine qd rfl rfl rfl (r_move (v := (.int .i64 (i : Int))) rfl) ?_
      refine qd rfl rfl rfl (r_add rfl rfl (by omega)) ?_
      refine qd rfl rfl rfl (r_assign (v := (.int .i64 ((i : Int) + 1))) rfl) ?_
      refine qe ?_
      refine s_lopN ?_
      have hkn : j = fs.length := by omega
      rw [hkn] at hbst
      refine ⟨_, ?_, _, rfl, _, i + 1, ov, out, GL2, (packS (x := 5) (packS (x := 4) (packS (x := 3) (packS (x := 2) (pack1 (x := 0) rfl) rfl) rfl) rfl) rfl), rfl, hX24, (Pin.le_trans hlek15 hlek21), (by omega), (by rw [gr_leave hbst h61, hout]), hw25⟩
      omega
    refine wp_exit ?_
    refine s_thenE ?_
    refine s_lopE ?_
    refine s_blkE ?_
    refine s_then ?_
    refine s_seq ?_
    refine c_reg ?_
    refine qd rfl rfl rfl (r_move (v := ov) rfl) ?_
    refine qd rfl rfl rfl (r_assign (v := ov) rfl) ?_
    refine qd rfl rfl rfl (r_assign (v := (.bool true)) rfl) ?_
    refine qe ?_
    refine s_then ?_
    refine wp_ret ?_
    refine s_ret ?_
    refine c_ret2 (v := ov) (u := (.bool true)) rfl rfl rfl rfl rfl ?_
    have hag : decP (AllG fs) = true := h14
    have hin : i = fs.length := by omega
    rw [hin] at hout
    rw [hag, gr_good (decP_true.1 hag), ← hout]
    exact ⟨_, _, rfl, hw19, hX18⟩
  refine s_seq ?_
  refine c_reg ?_
  refine qd rfl rfl rfl (r_move (v := u1) rfl) ?_
  refine qd rfl rfl rfl (r_assign (v := u1) rfl) ?_
  refine qd rfl rfl rfl (r_assign (v := (.bool false)) rfl) ?_
  refine qe ?_
  refine s_then ?_
  refine wp_ret ?_
  refine s_ret ?_
  refine c_ret2 (v := u1) (u := (.bool false)) rfl rfl rfl rfl rfl ?_
  have hag : decP (AllG fs) = false := h14
  rw [hag, gr_bad hag]
  exact ⟨_, _, rfl, ho13, hX12⟩

end GS1
end Go.Proofs.YtndhhpaldhlghaaDoor
