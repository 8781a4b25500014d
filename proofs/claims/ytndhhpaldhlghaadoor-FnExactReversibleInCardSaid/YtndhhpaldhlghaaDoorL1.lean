/- Walks, printed by a program (walkgen.py) from the spec specs_l. -/
import Derived.Test.YtndhhpaldhlghaaDoorChecked
import Derived.Test.YtndhhpaldhlghaaDoorRow
import Derived.Test.YtndhhpaldhlghaaDoorLaw
set_option maxRecDepth 20000
set_option maxHeartbeats 2000000
namespace Go.Proofs.YtndhhpaldhlghaaDoor
namespace L1
open Go.RowKit Go.GL Go.Proofs
theorem ag22 : (Tryd.prog.underlying 22).map aggD = some false := by kernel_rfl
theorem ag28 : (Tryd.prog.underlying 28).map aggD = some false := by kernel_rfl
theorem ag3 : (Tryd.prog.underlying 3).map aggD = some false := by kernel_rfl
theorem ag30 : (Tryd.prog.underlying 30).map aggD = some true := by kernel_rfl
theorem ag38 : (Tryd.prog.underlying 38).map aggD = some false := by kernel_rfl
theorem ag69 : (Tryd.prog.underlying 69).map aggD = some true := by kernel_rfl
theorem ag81 : (Tryd.prog.underlying 81).map aggD = some true := by kernel_rfl
theorem mk3 : (Tryd.prog.info? 3).map (fun i => (i.size, i.bytes, i.zero)) = some (1, 8, some (.int .i64 0)) := by kernel_rfl
theorem mk69 : (Tryd.prog.info? 69).map (fun i => (i.size, i.bytes, i.zero)) = some (2, 48, some (.agg #[(.slice none 0 0), (.slice none 0 0)])) := by kernel_rfl
theorem nm22 : (Tryd.f22.name == "runtime.NumGoroutine") = false := by kernel_rfl
theorem nm32 : (Tryd.f32.name == "runtime.NumGoroutine") = false := by kernel_rfl
theorem nm35 : (Tryd.f35.name == "runtime.NumGoroutine") = false := by kernel_rfl
theorem nm40 : (Tryd.f40.name == "runtime.NumGoroutine") = false := by kernel_rfl
theorem nm53 : (Tryd.f53.name == "runtime.NumGoroutine") = false := by kernel_rfl
theorem nm61 : (Tryd.f61.name == "runtime.NumGoroutine") = false := by kernel_rfl
theorem nm70 : (Tryd.f70.name == "runtime.NumGoroutine") = false := by kernel_rfl
theorem nm76 : (Tryd.f76.name == "runtime.NumGoroutine") = false := by kernel_rfl
theorem nm85 : (Tryd.f85.name == "runtime.NumGoroutine") = false := by kernel_rfl
theorem nz22 : (Tryd.prog.info? 22).map (·.size == 0) = some false := by kernel_rfl
theorem nz28 : (Tryd.prog.info? 28).map (·.size == 0) = some false := by kernel_rfl
theorem nz38 : (Tryd.prog.info? 38).map (·.size == 0) = some false := by kernel_rfl
theorem sz28 : (Tryd.prog.info? 28).map (·.size) = some 1 := by kernel_rfl
theorem sz3 : (Tryd.prog.info? 3).map (·.size) = some 1 := by kernel_rfl
theorem sz30 : (Tryd.prog.info? 30).map (·.size) = some 1 := by kernel_rfl
theorem sz38 : (Tryd.prog.info? 38).map (·.size) = some 1 := by kernel_rfl
theorem sz69 : (Tryd.prog.info? 69).map (·.size) = some 2 := by kernel_rfl
theorem sz81 : (Tryd.prog.info? 81).map (·.size) = some 2 := by kernel_rfl
theorem zr30 : (Tryd.prog.info? 30).bind (·.zero) = some (.agg #[(.slice none 0 0)]) := by kernel_rfl
theorem zr69 : (Tryd.prog.info? 69).bind (·.zero) = some (.agg #[(.slice none 0 0), (.slice none 0 0)]) := by kernel_rfl

theorem szIntS_spec {w : World} {G : Pin} {v : Value} {xs : List Int} {left : Int} (hP : Pins G w) (hv : RSl eInt G v xs) (hl : 0 ≤ left ∧ left ≤ 1048576) :
    Calls Tryd.prog 76 [v, (.int .i64 left)].toArray w fun e w' => e = .returned (.int .i64 (szInts xs left)) ∧ w' = w := by
  refine s_enter (n := 12) Tryd.func76 Tryd.ntmps76 rfl rfl ?_
  have hX0 : Ext noS G w G w := Ext.refl hP
  have hm := hv.max
  refine s_seq ?_
  refine c_reg ?_
  refine qd rfl rfl rfl (r_assign (v := (.int .i64 0)) rfl) ?_
  refine qe ?_
  refine s_then ?_
  refine s_seq ?_
  refine c_reg ?_
  refine qd rfl rfl rfl (r_move (v := (.int .i64 left)) rfl) ?_
  refine qd rfl rfl rfl (r_move (v := v) rfl) ?_
  refine qd rfl rfl rfl (run_len Tryd.underlying38 (v := v) rfl hv) ?_
  refine qd rfl rfl rfl (r_sub rfl rfl (by omega)) ?_
  refine qd rfl rfl rfl (r_assign (v := (.int .i64 (left - (xs.length : Int)))) rfl) ?_
  refine qe ?_
  refine s_then ?_
  refine s_seq ?_
  refine s_seq ?_
  refine c_reg ?_
  refine qd rfl rfl rfl (r_move (v := (.int .i64 (left - (xs.length : Int)))) rfl) ?_
  refine qd rfl rfl rfl (r_lss rfl rfl) ?_
  refine qe ?_
  refine s_then ?_
  refine c_ifd (p := (left - (xs.length : Int) : Int) < 0) rfl rfl (fun h1 => ?_) (fun h1 => ?_)
  · skip
    refine s_seq ?_
    refine c_reg ?_
    refine qd rfl rfl rfl (r_assign (v := (.int .i64 (-1))) rfl) ?_
    refine qe ?_
    refine s_then ?_
    refine wp_ret ?_
    refine s_ret ?_
    refine c_ret1 (v := (.int .i64 (-1))) rfl rfl rfl ?_
    exact ⟨congrArg (fun z => Ending.returned (Value.int .i64 z)) (by unfold szInts; split <;> omega), rfl⟩
  refine wp_skip ?_
  refine s_then ?_
  refine s_seq ?_
  refine c_reg ?_
  refine qd rfl rfl rfl (r_move (v := (.int .i64 (left - (xs.length : Int)))) rfl) ?_
  refine qd rfl rfl rfl (r_assign (v := (.int .i64 (left - (xs.length : Int)))) rfl) ?_
  refine qe ?_
  refine s_then ?_
  refine wp_ret ?_
  refine s_ret ?_
  refine c_ret1 (v := (.int .i64 (left - (xs.length : Int)))) rfl rfl rfl ?_
  exact ⟨congrArg (fun z => Ending.returned (Value.int .i64 z)) (by unfold szInts; split <;> omega), rfl⟩

theorem szNode_spec {w : World} {G : Pin} {u v : Value} {n : Nd} {left : Int} (hP : Pins G w) (hu : RSl eInt G u n.l) (hv : RSl eInt G v n.r) (hl : 0 ≤ left ∧ left ≤ 1048576) :
    Calls Tryd.prog 53 [(.agg [u, v].toArray), (.int .i64 left)].toArray w fun e w' => ∃ G', e = .returned (.int .i64 (szNd n left)) ∧ Ext noS G w G' w' := by
  refine s_enter (n := 18) Tryd.func53 Tryd.ntmps53 rfl rfl ?_
  have hX0 : Ext noS G w G w := Ext.refl hP
  refine s_seq ?_
  refine c_reg ?_
  refine q1 rfl rfl rfl (o_box [u, v] (v := (.agg [u, v].toArray)) rfl rfl hX0.pins (fun b1 w2 hk3 hb4 hp5 hl6 => ?_))
  have hX7 := hX0.step hp5 hl6
  have hlo8 : w.heap.size ≤ b1 := by have := hX0.size; omega
  obtain ⟨G9, hle10, hX11, hbp12, hf13⟩ := hb4.shut hX7 hlo8
  refine qd rfl rfl rfl (r_assign (v := (.int .i64 0)) rfl) ?_
  refine qe ?_
  refine s_then ?_
  refine s_seq ?_
  refine c_reg ?_
  refine qd rfl rfl rfl (r_fldp (k := 0) rfl Tryd.underlying81 rfl nz38 rfl) ?_
  refine qd rfl rfl rfl (r_ldp1 (u := u) ag38 rfl (hX11.pins _ _ _ (hbp12 0 _ rfl))) ?_
  refine qd rfl rfl rfl (r_move (v := (.int .i64 left)) rfl) ?_
  refine q1 rfl rfl rfl (o_call (vs := [u, (.int .i64 left)]) Tryd.func76 nm76 rfl rfl rfl ?_)
  refine Calls.mono (szIntS_spec hX11.pins (hu.mono hle10) (by omega)) ?_
  rintro _ _ ⟨rfl, rfl⟩
  refine ⟨_, rfl, ?_⟩
  refine qd rfl rfl rfl (r_assign (v := (.int .i64 (szInts n.l left))) rfl) ?_
  refine qe ?_
  refine s_then ?_
  refine s_seq ?_
  refine s_seq ?_
  refine c_reg ?_
  refine qd rfl rfl rfl (r_move (v := (.int .i64 (szInts n.l left))) rfl) ?_
  refine qd rfl rfl rfl (r_lss rfl rfl) ?_
  refine qe ?_
  refine s_then ?_
  refine c_ifd (p := (szInts n.l left : Int) < 0) rfl rfl (fun h14 => ?_) (fun h14 => ?_)
  · skip
    refine s_seq ?_
    refine c_reg ?_
    refine qd rfl rfl rfl (r_assign (v := (.int .i64 (-1))) rfl) ?_
    refine qe ?_
    refine s_then ?_
    refine wp_ret ?_
    refine s_ret ?_
    refine c_ret1 (v := (.int .i64 (-1))) rfl rfl rfl ?_
    exact ⟨_, congrArg (fun z => Ending.returned (Value.int .i64 z)) (by unfold szNd; rw [if_pos h14]), hX11⟩
  refine wp_skip ?_
  refine s_then ?_
  refine s_seq ?_
  refine c_reg ?_
  refine qd rfl rfl rfl (r_fldp (k := 1) rfl Tryd.underlying81 rfl nz38 rfl) ?_
  refine qd rfl rfl rfl (r_ldp1 (u := v) ag38 rfl (hX11.pins _ _ _ (hbp12 1 _ rfl))) ?_
  refine qd rfl rfl rfl (r_move (v := (.int .i64 (szInts n.l left))) rfl) ?_
  have hq := szInts_ok h14 hl
  refine q1 rfl rfl rfl (o_call (vs := [v, (.int .i64 (szInts n.l left))]) Tryd.func76 nm76 rfl rfl rfl ?_)
  refine Calls.mono (szIntS_spec hX11.pins (hv.mono hle10) (by omega)) ?_
  rintro _ _ ⟨rfl, rfl⟩
  refine ⟨_, rfl, ?_⟩
  refine qd rfl rfl rfl (r_assign (v := (.int .i64 (szInts n.r (szInts n.l left)))) rfl) ?_
  refine qe ?_
  refine s_then ?_
  refine s_seq ?_
  refine s_seq ?_
  refine c_reg ?_
  refine qd rfl rfl rfl (r_move (v := (.int .i64 (szInts n.r (szInts n.l left)))) rfl) ?_
  refine qd rfl rfl rfl (r_lss rfl rfl) ?_
  refine qe ?_
  refine s_then ?_
  refine c_ifd (p := (szInts n.r (szInts n.l left) : Int) < 0) rfl rfl (fun h15 => ?_) (fun h15 => ?_)
  · skip
    refine s_seq ?_
    refine c_reg ?_
    refine qd rfl rfl rfl (r_assign (v := (.int .i64 (-1))) rfl) ?_
    refine qe ?_
    refine s_then ?_
    refine wp_ret ?_
    refine s_ret ?_
    refine c_ret1 (v := (.int .i64 (-1))) rfl rfl rfl ?_
    exact ⟨_, congrArg (fun z => Ending.returned (Value.int .i64 z)) (by unfold szNd; rw [if_neg h14, if_pos h15]), hX11⟩
  refine wp_skip ?_
  refine s_then ?_
  refine s_seq ?_
  refine c_reg ?_
  refine qd rfl rfl rfl (r_move (v := (.int .i64 (szInts n.r (szInts n.l left)))) rfl) ?_
  refine qd rfl rfl rfl (r_assign (v := (.int .i64 (szInts n.r (szInts n.l left)))) rfl) ?_
  refine qe ?_
  refine s_then ?_
  refine wp_ret ?_
  refine s_ret ?_
  refine c_ret1 (v := (.int .i64 (szInts n.r (szInts n.l left)))) rfl rfl rfl ?_
  exact ⟨_, congrArg (fun z => Ending.returned (Value.int .i64 z)) (by unfold szNd; rw [if_neg h14, if_neg h15]), hX11⟩

theorem szNodeS_spec {w : World} {G : Pin} {v : Value} {ns : List Nd} {left : Int} (hP : Pins G w) (hv : RSl eNode G v ns) (hl : 0 ≤ left ∧ left ≤ 1048576) :
    Calls Tryd.prog 32 [v, (.int .i64 left)].toArray w fun e w' => ∃ G', e = .returned (.int .i64 (szNds ns left)) ∧ Ext noS G w G' w' := by
  refine s_enter (n := 27) Tryd.func32 Tryd.ntmps32 rfl rfl ?_
  have hX0 : Ext noS G w G w := Ext.refl hP
  have hm := hv.max
  refine s_seq ?_
  refine c_reg ?_
  refine qd rfl rfl rfl (r_assign (v := (.int .i64 0)) rfl) ?_
  refine qe ?_
  refine s_then ?_
  refine s_seq ?_
  refine c_reg ?_
  refine qd rfl rfl rfl (r_move (v := (.int .i64 left)) rfl) ?_
  refine qd rfl rfl rfl (r_move (v := v) rfl) ?_
  refine qd rfl rfl rfl (run_len Tryd.underlying22 (v := v) rfl hv) ?_
  refine qd rfl rfl rfl (r_sub rfl rfl (by omega)) ?_
  refine qd rfl rfl rfl (r_assign (v := (.int .i64 (left - (ns.length : Int)))) rfl) ?_
  refine qe ?_
  refine s_then ?_
  refine s_seq ?_
  refine s_seq ?_
  refine c_reg ?_
  refine qd rfl rfl rfl (r_move (v := (.int .i64 (left - (ns.length : Int)))) rfl) ?_
  refine qd rfl rfl rfl (r_lss rfl rfl) ?_
  refine qe ?_
  refine s_then ?_
  refine c_ifd (p := (left - (ns.length : Int) : Int) < 0) rfl rfl (fun h1 => ?_) (fun h1 => ?_)
  · skip
    refine s_seq ?_
    refine c_reg ?_
    refine qd rfl rfl rfl (r_assign (v := (.int .i64 (-1))) rfl) ?_
    refine qe ?_
    refine s_then ?_
    refine wp_ret ?_
    refine s_ret ?_
    refine c_ret1 (v := (.int .i64 (-1))) rfl rfl rfl ?_
    exact ⟨_, congrArg (fun z => Ending.returned (Value.int .i64 z)) (by unfold szNds; rw [if_pos h1]), hX0⟩
  refine wp_skip ?_
  refine s_then ?_
  refine s_seq ?_
  refine s_seq ?_
  refine c_reg ?_
  refine qd rfl rfl rfl (r_assign (v := (.int .i64 0)) rfl) ?_
  refine qe ?_
  refine s_then ?_
  refine s_blk ?_
  refine s_loop (fun (k : Nat) (en : Nat → Value) (W : World) => ∃ (env1 : Nat → Value) (j : Nat) (q : Int) (GL1 : Pin), en = (upd (upd (upd env1 0 v) 1 (.int .i64 q)) 5 (.int .i64 (j : Int))) ∧ k = ns.length - j ∧ Ext noS G w GL1 W ∧ Pin.le G GL1 ∧ (j ≤ ns.length) ∧ (0 ≤ q ∧ q ≤ 1048576) ∧ (szGo ns (left - ns.length) = szGo (ns.drop j) q)) _ ⟨_, 0, left - (ns.length : Int), G, (packS (x := 5) (packS (x := 1) (pack1 (x := 0) rfl) rfl) rfl), rfl, hX0, Pin.le_refl _, Nat.zero_le _, (by omega), rfl⟩ ?_
  rintro k2 _ w3 ⟨env1, j, q, GL1, rfl, hk4, hX5, hlek2, hj, hq, hr⟩
  refine s_seq ?_
  refine s_seq ?_
  refine c_reg ?_
  refine qd rfl rfl rfl (r_move (v := (.int .i64 (j : Int))) rfl) ?_
  refine qd rfl rfl rfl (r_move (v := v) rfl) ?_
  refine qd rfl rfl rfl (run_len Tryd.underlying22 (v := v) rfl hv) ?_
  refine qd rfl rfl rfl (r_lss rfl rfl) ?_
  refine qe ?_
  refine s_then ?_
  refine c_ifd (p := ((j : Int) : Int) < (ns.length : Int)) rfl rfl (fun h6 => ?_) (fun h6 => ?_)
  · skip
    refine wp_skip ?_
    refine s_then ?_
    refine s_seq ?_
    refine s_blk ?_
    refine s_seq ?_
    refine c_reg ?_
    refine qd rfl rfl rfl (r_move (v := v) rfl) ?_
    refine qd rfl rfl rfl (r_move (v := (.int .i64 (j : Int))) rfl) ?_
    refine qd rfl rfl rfl (run_idx Tryd.underlying22 sz81 (v := v) rfl rfl hv (by omega) (by omega)) ?_
    obtain ⟨u7, u8, hr9, hr10, hl11⟩ := nm_node (hv.at (z := (j : Int)) (by omega) (by omega)) (j := j) rfl
    have hm12 := hr9.max
    have hm13 := hr10.max
    refine qd rfl rfl rfl (hl11 ag81 sz81 rfl (Pins.of_le hX5.pins hlek2)) ?_
    refine qd rfl rfl rfl (r_move (v := (.int .i64 q)) rfl) ?_
    refine q1 rfl rfl rfl (o_call (vs := [(.agg [u7, u8].toArray), (.int .i64 q)]) Tryd.func53 nm53 rfl rfl rfl ?_)
    refine Calls.mono (szNode_spec (n := ⟨(ns.getD j default).l, (ns.getD j default).r⟩) hX5.pins (hr9.mono hlek2) (hr10.mono hlek2) (by omega)) ?_
    rintro _ w15 ⟨G14, rfl, hx16⟩
    refine ⟨_, rfl, ?_⟩
    have hX17 := hX5.tr hx16
    refine qd rfl rfl rfl (r_assign (v := (.int .i64 (szNd ⟨(ns.getD j default).l, (ns.getD j default).r⟩ q))) rfl) ?_
    refine qe ?_
    refine s_then ?_
    refine s_seq ?_
    refine c_reg ?_
    refine qd rfl rfl rfl (r_move (v := (.int .i64 (szNd ⟨(ns.getD j default).l, (ns.getD j default).r⟩ q))) rfl) ?_
    refine qd rfl rfl rfl (r_lss rfl rfl) ?_
    refine qe ?_
    refine s_then ?_
    refine c_ifd (p := (szNd ⟨(ns.getD j default).l, (ns.getD j default).r⟩ q : Int) < 0) rfl rfl (fun h18 => ?_) (fun h18 => ?_)
    · skip
      refine s_seq ?_
      refine c_reg ?_
      refine qd rfl rfl rfl (r_assign (v := (.int .i64 (-1))) rfl) ?_
      refine qe ?_
      refine s_then ?_
      refine wp_ret ?_
      refine s_ret ?_
      refine c_ret1 (v := (.int .i64 (-1))) rfl rfl rfl ?_
      exact ⟨_, congrArg (fun z => Ending.returned (Value.int .i64 z)) (by unfold szNds; rw [if_neg h1]; exact (hr.trans (szGo_stop (by omega) h18)).symm), hX17⟩
    refine wp_skip ?_
    refine s_blkN ?_
    refine s_then ?_
    refine c_reg ?_
    refine qd rfl rfl rfl (r_move (v := (.int .i64 (j : Int))) rfl) ?_
    refine qd rfl rfl rfl (r_add rfl rfl (by omega)) ?_
    refine qd rfl rfl rfl (r_assign (v := (.int .i64 ((j : Int) + 1))) rfl) ?_
    refine qe ?_
    refine s_lopN ?_
    have hz := szNd_ok h18
    refine ⟨_, ?_, _, rfl, _, j + 1, szNd ⟨(ns.getD j default).l, (ns.getD j default).r⟩ q, G14, (packS (x := 5) (packS (x := 1) (pack1 (x := 0) rfl) rfl) rfl), rfl, hX17, (Pin.le_trans hlek2 hx16.le), (by omega), (by have h1 := hz.1; have h2 := hz.2.1; exact ⟨h1, by omega⟩), (hr.trans (szGo_next (by omega) h18))⟩
    omega
  refine wp_exit ?_
  refine s_thenE ?_
  refine s_lopE ?_
  refine s_blkE ?_
  refine s_then ?_
  refine s_seq ?_
  refine c_reg ?_
  refine qd rfl rfl rfl (r_move (v := (.int .i64 q)) rfl) ?_
  refine qd rfl rfl rfl (r_assign (v := (.int .i64 q)) rfl) ?_
  refine qe ?_
  refine s_then ?_
  refine wp_ret ?_
  refine s_ret ?_
  refine c_ret1 (v := (.int .i64 q)) rfl rfl rfl ?_
  exact ⟨_, congrArg (fun z => Ending.returned (Value.int .i64 z)) (by unfold szNds; rw [if_neg h1]; exact (hr.trans (szGo_end (by omega))).symm), hX5⟩

theorem szForm_spec {w : World} {G : Pin} {v : Value} {ns : List Nd} {left : Int} (hP : Pins G w) (hv : RSl eNode G v ns) (hl : 0 ≤ left ∧ left ≤ 1048576) :
    Calls Tryd.prog 9 [(.agg [v].toArray), (.int .i64 left)].toArray w fun e w' => ∃ z G', e = .returned (.int .i64 z) ∧ (z < 0 ∧ szNds ns left < 0 ∨ 0 ≤ z ∧ z ≤ left ∧ ¬ szNds ns left < 0) ∧ Ext noS G w G' w' := by
  refine s_enter (n := 12) Tryd.func9 Tryd.ntmps9 rfl rfl ?_
  have hX0 : Ext noS G w G w := Ext.refl hP
  refine s_seq ?_
  refine c_reg ?_
  refine q1 rfl rfl rfl (o_box [v] (v := (.agg [v].toArray)) rfl rfl hX0.pins (fun b1 w2 hk3 hb4 hp5 hl6 => ?_))
  have hX7 := hX0.step hp5 hl6
  have hlo8 : w.heap.size ≤ b1 := by have := hX0.size; omega
  obtain ⟨G9, hle10, hX11, hbp12, hf13⟩ := hb4.shut hX7 hlo8
  refine qd rfl rfl rfl (r_assign (v := (.int .i64 0)) rfl) ?_
  refine qe ?_
  refine s_then ?_
  refine s_seq ?_
  refine c_reg ?_
  refine qd rfl rfl rfl (r_fldp (k := 0) rfl Tryd.underlying24 rfl nz22 rfl) ?_
  refine qd rfl rfl rfl (r_ldp1 (u := v) ag22 rfl (hX11.pins _ _ _ (hbp12 0 _ rfl))) ?_
  refine qd rfl rfl rfl (r_move (v := (.int .i64 left)) rfl) ?_
  refine q1 rfl rfl rfl (o_call (vs := [v, (.int .i64 left)]) Tryd.func32 nm32 rfl rfl rfl ?_)
  refine Calls.mono (szNodeS_spec hX11.pins (hv.mono hle10) (by omega)) ?_
  rintro _ w15 ⟨G14, rfl, hx16⟩
  refine ⟨_, rfl, ?_⟩
  have hX17 := hX11.tr hx16
  refine qd rfl rfl rfl (r_assign (v := (.int .i64 (szNds ns left))) rfl) ?_
  refine qe ?_
  refine s_then ?_
  refine s_seq ?_
  refine s_seq ?_
  refine c_reg ?_
  refine qd rfl rfl rfl (r_move (v := (.int .i64 (szNds ns left))) rfl) ?_
  refine qd rfl rfl rfl (r_lss rfl rfl) ?_
  refine qe ?_
  refine s_then ?_
  refine c_ifd (p := (szNds ns left : Int) < 0) rfl rfl (fun h18 => ?_) (fun h18 => ?_)
  · skip
    refine s_seq ?_
    refine c_reg ?_
    refine qd rfl rfl rfl (r_assign (v := (.int .i64 (-1))) rfl) ?_
    refine qe ?_
    refine s_then ?_
    refine wp_ret ?_
    refine s_ret ?_
    refine c_ret1 (v := (.int .i64 (-1))) rfl rfl rfl ?_
    have hzl := @szNds_le ns left
    exact ⟨_, _, rfl, by omega, hX17⟩
  refine wp_skip ?_
  refine s_then ?_
  refine s_seq ?_
  refine c_reg ?_
  refine qd rfl rfl rfl (r_move (v := (.int .i64 (szNds ns left))) rfl) ?_
  refine qd rfl rfl rfl (r_assign (v := (.int .i64 (szNds ns left))) rfl) ?_
  refine qe ?_
  refine s_then ?_
  refine wp_ret ?_
  refine s_ret ?_
  refine c_ret1 (v := (.int .i64 (szNds ns left))) rfl rfl rfl ?_
  have hzl := @szNds_le ns left
  exact ⟨_, _, rfl, by omega, hX17⟩

theorem toIntS_spec {w : World} {G : Pin} {v : Value} {xs : List Int} (hP : Pins G w) (hv : RSl eInt G v xs) (hs : xs.length ≤ 1048576) :
    Calls Tryd.prog 85 [v].toArray w fun e w' => ∃ (u : Value) (G' : Pin), e = .returned u ∧ Own eInt 3 G' w' w.heap.size u xs ∧ Ext noS G w G' w' := by
  refine s_enter (n := 22) Tryd.func85 Tryd.ntmps85 rfl rfl ?_
  have hX0 : Ext noS G w G w := Ext.refl hP
  refine s_seq ?_
  refine c_reg ?_
  refine qd rfl rfl rfl (r_assign (v := (.slice none 0 0)) rfl) ?_
  refine qe ?_
  refine s_then ?_
  refine s_seq ?_
  refine c_reg ?_
  refine qd rfl rfl rfl (r_move (v := v) rfl) ?_
  refine qd rfl rfl rfl (run_len Tryd.underlying38 (v := v) rfl hv) ?_
  refine q1 rfl rfl rfl (o_make (E := eInt) 0 8 (.int .i64 0) Tryd.underlying38 mk3 (fun _ => rfl) rfl rfl hX0.pins (by omega) (by omega) (by omega) (fun u1 w2 ho3 hp4 hl5 hk6 => ?_))
  have hX7 := hX0.step hp4 hl5
  have ho8 : Own eInt 3 G w2 w.heap.size u1 (List.replicate xs.length 0) := ho3.weaken hX0.size
  have hm9 : (List.replicate xs.length 0).length = xs.length := List.length_replicate ..
  refine qd rfl rfl rfl (r_assign (v := u1) rfl) ?_
  refine qe ?_
  refine s_then ?_
  refine s_seq ?_
  refine s_seq ?_
  refine c_reg ?_
  refine qd rfl rfl rfl (r_assign (v := (.int .i64 0)) rfl) ?_
  refine qe ?_
  refine s_then ?_
  refine s_blk ?_
  refine s_loop (fun (k : Nat) (en : Nat → Value) (W : World) => ∃ (env1 : Nat → Value) (j : Nat) (os : List Int), en = (upd (upd (upd (upd env1 0 v) 2 (.slice none 0 0)) 3 u1) 4 (.int .i64 (j : Int))) ∧ k = xs.length - j ∧ Ext noS G w G W ∧ (j ≤ xs.length) ∧ (os = cpy xs j 0) ∧ (os.length = xs.length) ∧ (Own eInt 3 G W w.heap.size u1 (os))) _ ⟨_, 0, List.replicate xs.length 0, (packS (x := 4) (packS (x := 3) (packS (x := 2) (pack1 (x := 0) rfl) rfl) rfl) rfl), rfl, hX7, Nat.zero_le _, cpy_start, (by simp), ho8⟩ ?_
  rintro k10 _ w11 ⟨env1, j, os, rfl, hk12, hX13, hj, hr, hol, hw14⟩
  refine s_seq ?_
  refine s_seq ?_
  refine c_reg ?_
  refine qd rfl rfl rfl (r_move (v := (.int .i64 (j : Int))) rfl) ?_
  refine qd rfl rfl rfl (r_move (v := v) rfl) ?_
  refine qd rfl rfl rfl (run_len Tryd.underlying38 (v := v) rfl hv) ?_
  refine qd rfl rfl rfl (r_lss rfl rfl) ?_
  refine qe ?_
  refine s_then ?_
  refine c_ifd (p := ((j : Int) : Int) < (xs.length : Int)) rfl rfl (fun h15 => ?_) (fun h15 => ?_)
  · skip
    refine wp_skip ?_
    refine s_then ?_
    refine s_seq ?_
    refine s_blk ?_
    refine c_reg ?_
    refine qd rfl rfl rfl (r_move (v := u1) rfl) ?_
    refine qd rfl rfl rfl (r_move (v := (.int .i64 (j : Int))) rfl) ?_
    refine qd rfl rfl rfl (r_move (v := v) rfl) ?_
    refine qd rfl rfl rfl (r_move (v := (.int .i64 (j : Int))) rfl) ?_
    refine qd rfl rfl rfl (run_idx Tryd.underlying38 sz3 (v := v) rfl rfl hv (by omega) (by omega)) ?_
    refine qd rfl rfl rfl (run_load_int (r := xs.getD j 0) rfl ag3 (z := (j : Int)) rfl hv hX13.pins (by omega) (by omega)) ?_
    refine qd rfl rfl rfl (run_idx Tryd.underlying38 sz3 (v := u1) rfl rfl hw14.read (by omega) (by omega)) ?_
    refine q0 rfl rfl rfl (o_set (E := eInt) (v := u1) (u := (.int .i64 (xs.getD j 0))) (z := (j : Int)) (xs.getD j 0) sz3 rfl rfl rfl rfl hX13.pins hw14 (by omega) (by omega) (fun w16 ho17 hp18 hg19 hz20 => ?_))
    have hX21 := hX13.write hp18 hg19 ((lo_own hw14))
    refine qe ?_
    refine s_blkN ?_
    refine s_then ?_
    refine c_reg ?_
    refine qd rfl rfl rfl (r_move (v := (.int .i64 (j : Int))) rfl) ?_
    refine qd rfl rfl rfl (r_add rfl rfl (by omega)) ?_
    refine qd rfl rfl rfl (r_assign (v := (.int .i64 ((j : Int) + 1))) rfl) ?_
    refine qe ?_
    refine s_lopN ?_
    refine ⟨_, ?_, _, rfl, _, j + 1, os.set j (xs.getD j 0), (packS (x := 4) (packS (x := 3) (packS (x := 2) (pack1 (x := 0) rfl) rfl) rfl) rfl), rfl, hX21, (by omega), (by rw [hr]; exact cpy_next 0 (by omega)), ((List.length_set ..).trans hol), ho17⟩
    omega
  refine wp_exit ?_
  refine s_thenE ?_
  refine s_lopE ?_
  refine s_blkE ?_
  refine s_then ?_
  refine s_seq ?_
  refine c_reg ?_
  refine qd rfl rfl rfl (r_move (v := u1) rfl) ?_
  refine qd rfl rfl rfl (r_assign (v := u1) rfl) ?_
  refine qe ?_
  refine s_then ?_
  refine wp_ret ?_
  refine s_ret ?_
  refine c_ret1 (v := u1) rfl rfl rfl ?_
  exact ⟨_, _, rfl, (by rw [cpy_end (by omega)] at hr; rw [← hr]; exact hw14), hX13⟩

theorem toNode_spec {w : World} {G : Pin} {u v : Value} {n : Nd} (hP : Pins G w) (hu : RSl eInt G u n.l) (hv : RSl eInt G v n.r) (hs : n.l.length ≤ 1048576 ∧ n.r.length ≤ 1048576) :
    Calls Tryd.prog 61 [(.agg [u, v].toArray)].toArray w fun e w' => ∃ (u v : Value) (G' : Pin), e = .returned (.agg [u, v].toArray) ∧ RSl eInt G' u n.l ∧ RSl eInt G' v n.r ∧ Ext noS G w G' w' := by
  refine s_enter (n := 13) Tryd.func61 Tryd.ntmps61 rfl rfl ?_
  have hX0 : Ext noS G w G w := Ext.refl hP
  refine s_seq ?_
  refine c_reg ?_
  refine q1 rfl rfl rfl (o_box [u, v] (v := (.agg [u, v].toArray)) rfl rfl hX0.pins (fun b1 w2 hk3 hb4 hp5 hl6 => ?_))
  have hX7 := hX0.step hp5 hl6
  have hlo8 : w.heap.size ≤ b1 := by have := hX0.size; omega
  obtain ⟨G9, hle10, hX11, hbp12, hf13⟩ := hb4.shut hX7 hlo8
  refine q1 rfl rfl rfl (o_alloc [(.slice none 0 0), (.slice none 0 0)] zr69 rfl hX11.pins (fun b14 w15 hk16 hb17 hp18 hl19 => ?_))
  have hX20 := hX11.step hp18 hl19
  have hlo21 : w.heap.size ≤ b14 := by have := hX11.size; omega
  refine qe ?_
  refine s_then ?_
  refine s_seq ?_
  refine c_reg ?_
  refine q1 rfl rfl rfl (o_alloc [(.slice none 0 0), (.slice none 0 0)] zr69 rfl hX20.pins (fun b22 w23 hk24 hb25 hp26 hl27 => ?_))
  have hX28 := hX20.step hp26 hl27
  have hb29 := hb17.below hl27
  have ha30 : Apart (some b22) (some b14) := new_ne_box (congrArg some hk24) hb17.lt
  have hlo31 : w.heap.size ≤ b22 := by have := hX20.size; omega
  refine qe ?_
  refine s_then ?_
  refine s_seq ?_
  refine c_reg ?_
  refine qd rfl rfl rfl (r_fldp (k := 0) rfl Tryd.underlying81 rfl nz38 rfl) ?_
  refine qd rfl rfl rfl (r_ldp1 (u := u) ag38 rfl (hX28.pins _ _ _ (hbp12 0 _ rfl))) ?_
  refine q1 rfl rfl rfl (o_call (vs := [u]) Tryd.func85 nm85 rfl rfl rfl ?_)
  refine Calls.mono (toIntS_spec hX28.pins (hu.mono hle10) (by omega)) ?_
  rintro _ w34 ⟨u32, G33, rfl, ho35, hx36⟩
  refine ⟨_, rfl, ?_⟩
  have hX37 := hX28.tr hx36
  have hb38 := hb29.ext hx36
  have hb39 := hb25.ext hx36
  have ha40 : Apart u32.ownBlock (some b14) := made_ne_box ho35.lt hb29.lt
  have ha41 : Apart u32.ownBlock (some b22) := made_ne_box ho35.lt hb25.lt
  have ho42 : Own eInt 3 G33 w34 w.heap.size u32 n.l := ho35.weaken hX28.size
  refine qd rfl rfl rfl (r_fldp (k := 0) rfl Tryd.underlying69 rfl nz38 rfl) ?_
  refine q0 rfl rfl rfl (o_stp (cs' := [u32, (.slice none 0 0)]) (us := [u32]) (v := u32) sz38 rfl rfl (cells1 ho42.one) (ones1 ho42.one) hX37.pins hb39 (Nat.le_of_ble_eq_true rfl) rfl (fun w43 hb44 hp45 hg46 hz47 => ?_))
  have hX48 := hX37.write hp45 hg46 ((lo_box hlo31))
  have ho49 := ho42.keptA hg46 ha41
  have hb50 := hb38.keptA hg46 ha30.symm
  refine qe ?_
  refine s_then ?_
  refine s_seq ?_
  refine c_reg ?_
  refine qd rfl rfl rfl (r_fldp (k := 1) rfl Tryd.underlying81 rfl nz38 rfl) ?_
  refine qd rfl rfl rfl (r_ldp1 (u := v) ag38 rfl ((Pins.of_le hX48.pins hx36.le) _ _ _ (hbp12 1 _ rfl))) ?_
  refine q1 rfl rfl rfl (o_call (vs := [v]) Tryd.func85 nm85 rfl rfl rfl ?_)
  refine Calls.mono (toIntS_spec hX48.pins (hv.mono (Pin.le_trans hle10 hx36.le)) (by omega)) ?_
  rintro _ w53 ⟨u51, G52, rfl, ho54, hx55⟩
  refine ⟨_, rfl, ?_⟩
  have hX56 := hX48.tr hx55
  have ho57 := ho49.ext hx55
  have hb58 := hb50.ext hx55
  have hb59 := hb44.ext hx55
  have ha60 : Apart u51.ownBlock u32.ownBlock := made_ne_own ho54.lt ho49.lt
  have ha61 : Apart u51.ownBlock (some b14) := made_ne_box ho54.lt hb50.lt
  have ha62 : Apart u51.ownBlock (some b22) := made_ne_box ho54.lt hb44.lt
  have ho63 : Own eInt 3 G52 w53 w.heap.size u51 n.r := ho54.weaken hX48.size
  refine qd rfl rfl rfl (r_fldp (k := 1) rfl Tryd.underlying69 rfl nz38 rfl) ?_
  refine q0 rfl rfl rfl (o_stp (cs' := [u32, u51]) (us := [u51]) (v := u51) sz38 rfl rfl (cells1 ho63.one) (ones1 ho63.one) hX56.pins hb59 (Nat.le_of_ble_eq_true rfl) rfl (fun w64 hb65 hp66 hg67 hz68 => ?_))
  have hX69 := hX56.write hp66 hg67 ((lo_box hlo31))
  have ho70 := ho57.keptA hg67 ha41
  have ho71 := ho63.keptA hg67 ha62
  have hb72 := hb58.keptA hg67 ha30.symm
  refine qe ?_
  refine s_then ?_
  refine s_seq ?_
  refine c_reg ?_
  refine qd rfl rfl rfl (r_ldpA (cs := [u32, u51]) ag69 sz69 rfl (fun j u hj => hb65.cell (by simpa using hj))) ?_
  refine q0 rfl rfl rfl (o_stp (cs' := [u32, u51]) (us := [u32, u51]) (v := (.agg [u32, u51].toArray)) sz69 rfl rfl rfl (ones2 ho70.one ho71.one) hX69.pins hb72 (Nat.le_of_ble_eq_true rfl) rfl (fun w73 hb74 hp75 hg76 hz77 => ?_))
  have hX78 := hX69.write hp75 hg76 ((lo_box hlo21))
  have ho79 := ho70.keptA hg76 ha40
  have ho80 := ho71.keptA hg76 ha61
  refine qe ?_
  refine s_then ?_
  refine wp_ret ?_
  refine s_ret ?_
  refine c_retc (cs := [u32, u51]) rfl rfl rfl ag69 sz69 (fun j u hj => by rw [Nat.zero_add]; exact hb74.cell hj) ?_
  obtain ⟨G82, hle85, hX84, hr83, hf86⟩ := ho79.sealed hX78
  have ho87 := ho80.moreO hle85 hf86 ha60
  obtain ⟨G90, hle93, hX92, hr91, hf94⟩ := ho87.sealed hX84
  exact ⟨_, _, _, rfl, (hr83.mono hle93), hr91, hX92⟩

theorem toNodeS_spec {w : World} {G : Pin} {v : Value} {ns : List Nd} (hP : Pins G w) (hv : RSl eNode G v ns) (hsm : Small ns) :
    Calls Tryd.prog 35 [v].toArray w fun e w' => ∃ (u : Value) (G' : Pin), e = .returned u ∧ RSl eNode G' u ns ∧ Ext noS G w G' w' := by
  refine s_enter (n := 23) Tryd.func35 Tryd.ntmps35 rfl rfl ?_
  have hX0 : Ext noS G w G w := Ext.refl hP
  have hln := hsm.len
  refine s_seq ?_
  refine c_reg ?_
  refine qd rfl rfl rfl (r_assign (v := (.slice none 0 0)) rfl) ?_
  refine qe ?_
  refine s_then ?_
  refine s_seq ?_
  refine c_reg ?_
  refine qd rfl rfl rfl (r_move (v := v) rfl) ?_
  refine qd rfl rfl rfl (run_len Tryd.underlying22 (v := v) rfl hv) ?_
  refine q1 rfl rfl rfl (o_make (E := eNode) (⟨[], []⟩ : Nd) 48 (.agg #[(.slice none 0 0), (.slice none 0 0)]) Tryd.underlying28 mk69 zero_node rfl rfl hX0.pins (by omega) (by omega) (by omega) (fun u1 w2 ho3 hp4 hl5 hk6 => ?_))
  have hX7 := hX0.step hp4 hl5
  have ho8 : Own eNode 69 G w2 w.heap.size u1 (List.replicate ns.length (⟨[], []⟩ : Nd)) := ho3.weaken hX0.size
  have hm9 : (List.replicate ns.length (⟨[], []⟩ : Nd)).length = ns.length := List.length_replicate ..
  refine qd rfl rfl rfl (r_assign (v := u1) rfl) ?_
  refine qe ?_
  refine s_then ?_
  refine s_seq ?_
  refine s_seq ?_
  refine c_reg ?_
  refine qd rfl rfl rfl (r_assign (v := (.int .i64 0)) rfl) ?_
  refine qe ?_
  refine s_then ?_
  refine s_blk ?_
  refine s_loop (fun (k : Nat) (en : Nat → Value) (W : World) => ∃ (env1 : Nat → Value) (j : Nat) (os : List Nd) (GL1 : Pin), en = (upd (upd (upd (upd env1 0 v) 2 (.slice none 0 0)) 3 u1) 4 (.int .i64 (j : Int))) ∧ k = ns.length - j ∧ Ext noS G w GL1 W ∧ Pin.le G GL1 ∧ (j ≤ ns.length) ∧ (os = cpy ns j ⟨[], []⟩) ∧ (os.length = ns.length) ∧ (Own eNode 69 GL1 W w.heap.size u1 (os))) _ ⟨_, 0, List.replicate ns.length (⟨[], []⟩ : Nd), G, (packS (x := 4) (packS (x := 3) (packS (x := 2) (pack1 (x := 0) rfl) rfl) rfl) rfl), rfl, hX7, Pin.le_refl _, Nat.zero_le _, cpy_start, (by simp), ho8⟩ ?_
  rintro k10 _ w11 ⟨env1, j, os, GL1, rfl, hk12, hX13, hlek10, hj, hr, hol, hw14⟩
  refine s_seq ?_
  refine s_seq ?_
  refine c_reg ?_
  refine qd rfl rfl rfl (r_move (v := (.int .i64 (j : Int))) rfl) ?_
  refine qd rfl rfl rfl (r_move (v := v) rfl) ?_
  refine qd rfl rfl rfl (run_len Tryd.underlying22 (v := v) rfl hv) ?_
  refine qd rfl rfl rfl (r_lss rfl rfl) ?_
  refine qe ?_
  refine s_then ?_
  refine c_ifd (p := ((j : Int) : Int) < (ns.length : Int)) rfl rfl (fun h15 => ?_) (fun h15 => ?_)
  · skip
    have hso := hsm.opts j (by omega)
    refine wp_skip ?_
    refine s_then ?_
    refine s_seq ?_
    refine s_blk ?_
    refine c_reg ?_
    refine qd rfl rfl rfl (r_move (v := u1) rfl) ?_
    refine qd rfl rfl rfl (r_move (v := (.int .i64 (j : Int))) rfl) ?_
    refine qd rfl rfl rfl (r_move (v := v) rfl) ?_
    refine qd rfl rfl rfl (r_move (v := (.int .i64 (j : Int))) rfl) ?_
    refine qd rfl rfl rfl (run_idx Tryd.underlying22 sz81 (v := v) rfl rfl hv (by omega) (by omega)) ?_
    obtain ⟨u16, u17, hr18, hr19, hl20⟩ := nm_node (hv.at (z := (j : Int)) (by omega) (by omega)) (j := j) rfl
    have hm21 := hr18.max
    have hm22 := hr19.max
    refine qd rfl rfl rfl (hl20 ag81 sz81 rfl (Pins.of_le hX13.pins hlek10)) ?_
    refine q1 rfl rfl rfl (o_call (vs := [(.agg [u16, u17].toArray)]) Tryd.func61 nm61 rfl rfl rfl ?_)
    refine Calls.mono (toNode_spec (n := ⟨(ns.getD j default).l, (ns.getD j default).r⟩) hX13.pins (hr18.mono hlek10) (hr19.mono hlek10) (by omega)) ?_
    rintro _ w26 ⟨u23, v24, G25, rfl, hr27, hr28, hx29⟩
    refine ⟨_, rfl, ?_⟩
    have hX30 := hX13.tr hx29
    have ho31 := hw14.ext hx29
    refine qd rfl rfl rfl (run_idx Tryd.underlying28 sz69 (v := u1) rfl rfl ho31.read (by omega) (by omega)) ?_
    refine q0 rfl rfl rfl (o_set (E := eNode) (v := u1) (u := (.agg [u23, v24].toArray)) (z := (j : Int)) ((⟨(ns.getD j default).l, (ns.getD j default).r⟩ : Nd)) sz69 rfl rfl rfl ⟨_, _, rfl, hr27, hr28⟩ hX30.pins ho31 (by omega) (by omega) (fun w32 ho33 hp34 hg35 hz36 => ?_))
    have hX37 := hX30.write hp34 hg35 ((lo_own ho31))
    refine qe ?_
    refine s_blkN ?_
    refine s_then ?_
    refine c_reg ?_
    refine qd rfl rfl rfl (r_move (v := (.int .i64 (j : Int))) rfl) ?_
    refine qd rfl rfl rfl (r_add rfl rfl (by omega)) ?_
    refine qd rfl rfl rfl (r_assign (v := (.int .i64 ((j : Int) + 1))) rfl) ?_
    refine qe ?_
    refine s_lopN ?_
    refine ⟨_, ?_, _, rfl, _, j + 1, os.set j (ns.getD j default), G25, (packS (x := 4) (packS (x := 3) (packS (x := 2) (pack1 (x := 0) rfl) rfl) rfl) rfl), rfl, hX37, (Pin.le_trans hlek10 hx29.le), (by omega), (by rw [hr]; exact cpy_next default (by omega)), ((List.length_set ..).trans hol), ho33⟩
    omega
  refine wp_exit ?_
  refine s_thenE ?_
  refine s_lopE ?_
  refine s_blkE ?_
  refine s_then ?_
  refine s_seq ?_
  refine c_reg ?_
  refine qd rfl rfl rfl (r_move (v := u1) rfl) ?_
  refine qd rfl rfl rfl (r_assign (v := u1) rfl) ?_
  refine qe ?_
  refine s_then ?_
  refine wp_ret ?_
  refine s_ret ?_
  refine c_ret1 (v := u1) rfl rfl rfl ?_
  obtain ⟨G38, hle41, hX40, hr39, hf42⟩ := hw14.sealed hX13
  exact ⟨_, _, rfl, (by rw [cpy_end (by omega)] at hr; rw [← hr]; exact hr39), hX40⟩

theorem toForm_spec {w : World} {G : Pin} {v : Value} {ns : List Nd} (hP : Pins G w) (hv : RSl eNode G v ns) (hsm : Small ns) :
    Calls Tryd.prog 11 [(.agg [v].toArray)].toArray w fun e w' => ∃ (u : Value) (G' : Pin), e = .returned (.agg [u].toArray) ∧ RSl eNode G' u ns ∧ Ext noS G w G' w' := by
  refine s_enter (n := 9) Tryd.func11 Tryd.ntmps11 rfl rfl ?_
  have hX0 : Ext noS G w G w := Ext.refl hP
  refine s_seq ?_
  refine c_reg ?_
  refine q1 rfl rfl rfl (o_box [v] (v := (.agg [v].toArray)) rfl rfl hX0.pins (fun b1 w2 hk3 hb4 hp5 hl6 => ?_))
  have hX7 := hX0.step hp5 hl6
  have hlo8 : w.heap.size ≤ b1 := by have := hX0.size; omega
  obtain ⟨G9, hle10, hX11, hbp12, hf13⟩ := hb4.shut hX7 hlo8
  refine q1 rfl rfl rfl (o_alloc [(.slice none 0 0)] zr30 rfl hX11.pins (fun b14 w15 hk16 hb17 hp18 hl19 => ?_))
  have hX20 := hX11.step hp18 hl19
  have hlo21 : w.heap.size ≤ b14 := by have := hX11.size; omega
  refine qe ?_
  refine s_then ?_
  refine s_seq ?_
  refine c_reg ?_
  refine q1 rfl rfl rfl (o_alloc [(.slice none 0 0)] zr30 rfl hX20.pins (fun b22 w23 hk24 hb25 hp26 hl27 => ?_))
  have hX28 := hX20.step hp26 hl27
  have hb29 := hb17.below hl27
  have ha30 : Apart (some b22) (some b14) := new_ne_box (congrArg some hk24) hb17.lt
  have hlo31 : w.heap.size ≤ b22 := by have := hX20.size; omega
  refine qe ?_
  refine s_then ?_
  refine s_seq ?_
  refine c_reg ?_
  refine qd rfl rfl rfl (r_fldp (k := 0) rfl Tryd.underlying24 rfl nz22 rfl) ?_
  refine qd rfl rfl rfl (r_ldp1 (u := v) ag22 rfl (hX28.pins _ _ _ (hbp12 0 _ rfl))) ?_
  refine q1 rfl rfl rfl (o_call (vs := [v]) Tryd.func35 nm35 rfl rfl rfl ?_)
  refine Calls.mono (toNodeS_spec hX28.pins (hv.mono hle10) hsm) ?_
  rintro _ w34 ⟨u32, G33, rfl, hr35, hx36⟩
  refine ⟨_, rfl, ?_⟩
  have hX37 := hX28.tr hx36
  have hb38 := hb29.ext hx36
  have hb39 := hb25.ext hx36
  refine qd rfl rfl rfl (r_fldp (k := 0) rfl Tryd.underlying30 rfl nz28 rfl) ?_
  refine q0 rfl rfl rfl (o_stp (cs' := [u32]) (us := [u32]) (v := u32) sz28 rfl rfl (cells1 hr35.one) (ones1 hr35.one) hX37.pins hb39 (Nat.le_of_ble_eq_true rfl) rfl (fun w40 hb41 hp42 hg43 hz44 => ?_))
  have hX45 := hX37.write hp42 hg43 ((lo_box hlo31))
  have hb46 := hb38.keptA hg43 ha30.symm
  refine qe ?_
  refine s_then ?_
  refine s_seq ?_
  refine c_reg ?_
  refine qd rfl rfl rfl (r_ldpA (cs := [u32]) ag30 sz30 rfl (fun j u hj => hb41.cell (by simpa using hj))) ?_
  refine q0 rfl rfl rfl (o_stp (cs' := [u32]) (us := [u32]) (v := (.agg [u32].toArray)) sz30 rfl rfl rfl (ones1 hr35.one) hX45.pins hb46 (Nat.le_of_ble_eq_true rfl) rfl (fun w47 hb48 hp49 hg50 hz51 => ?_))
  have hX52 := hX45.write hp49 hg50 ((lo_box hlo21))
  refine qe ?_
  refine s_then ?_
  refine wp_ret ?_
  refine s_ret ?_
  refine c_retc (cs := [u32]) rfl rfl rfl ag30 sz30 (fun j u hj => by rw [Nat.zero_add]; exact hb48.cell hj) ?_
  exact ⟨_, _, rfl, hr35, hX52⟩

theorem eqIntS_spec {w : World} {G : Pin} {u v : Value} {xs ys : List Int} (hP : Pins G w) (hu : RSl eInt G u xs) (hv : RSl eInt G v ys) :
    Calls Tryd.prog 22 [u, v].toArray w fun e w' => e = .returned (.bool (decide (xs = ys))) ∧ Ext noS G w G w' := by
  refine s_enter (n := 26) Tryd.func22 Tryd.ntmps22 rfl rfl ?_
  have hX0 : Ext noS G w G w := Ext.refl hP
  have hm := hu.max
  refine s_seq ?_
  refine c_reg ?_
  refine qd rfl rfl rfl (r_assign (v := (.bool false)) rfl) ?_
  refine qe ?_
  refine s_then ?_
  refine s_seq ?_
  refine s_seq ?_
  refine c_reg ?_
  refine qd rfl rfl rfl (r_move (v := u) rfl) ?_
  refine qd rfl rfl rfl (run_len Tryd.underlying38 (v := u) rfl hu) ?_
  refine qd rfl rfl rfl (r_move (v := v) rfl) ?_
  refine qd rfl rfl rfl (run_len Tryd.underlying38 (v := v) rfl hv) ?_
  refine qd rfl rfl rfl (r_neq rfl rfl) ?_
  refine qe ?_
  refine s_then ?_
  refine c_ifd (p := ((xs.length : Int) : Int) ≠ (ys.length : Int)) rfl rfl (fun h1 => ?_) (fun h1 => ?_)
  · skip
    refine s_seq ?_
    refine c_reg ?_
    refine qd rfl rfl rfl (r_assign (v := (.bool false)) rfl) ?_
    refine qe ?_
    refine s_then ?_
    refine wp_ret ?_
    refine s_ret ?_
    refine c_ret1 (v := (.bool false)) rfl rfl rfl ?_
    exact ⟨congrArg (fun z => Ending.returned (Value.bool z)) ((decide_eq_false (fun e => h1 (by rw [e]))).symm), hX0⟩
  refine wp_skip ?_
  refine s_then ?_
  refine s_seq ?_
  refine s_seq ?_
  refine c_reg ?_
  refine qd rfl rfl rfl (r_assign (v := (.int .i64 0)) rfl) ?_
  refine qe ?_
  refine s_then ?_
  refine s_blk ?_
  refine s_loop (fun (k : Nat) (en : Nat → Value) (W : World) => ∃ (env1 : Nat → Value) (j : Nat), en = (upd (upd (upd env1 0 u) 1 v) 5 (.int .i64 (j : Int))) ∧ k = xs.length - j ∧ Ext noS G w G W ∧ (j ≤ xs.length) ∧ (xs.length = ys.length) ∧ (∀ i, i < j → xs.getD i 0 = ys.getD i 0)) _ ⟨_, 0, (packS (x := 5) (packS (x := 1) (pack1 (x := 0) rfl) rfl) rfl), rfl, hX0, Nat.zero_le _, (by omega), (fun i hi => absurd hi (Nat.not_lt_zero i))⟩ ?_
  rintro k2 _ w3 ⟨env1, j, rfl, hk4, hX5, hj, heq, hp⟩
  refine s_seq ?_
  refine s_seq ?_
  refine c_reg ?_
  refine qd rfl rfl rfl (r_move (v := (.int .i64 (j : Int))) rfl) ?_
  refine qd rfl rfl rfl (r_move (v := u) rfl) ?_
  refine qd rfl rfl rfl (run_len Tryd.underlying38 (v := u) rfl hu) ?_
  refine qd rfl rfl rfl (r_lss rfl rfl) ?_
  refine qe ?_
  refine s_then ?_
  refine c_ifd (p := ((j : Int) : Int) < (xs.length : Int)) rfl rfl (fun h6 => ?_) (fun h6 => ?_)
  · skip
    refine wp_skip ?_
    refine s_then ?_
    refine s_seq ?_
    refine s_blk ?_
    refine s_seq ?_
    refine c_draw (S := fun wz => Pins G wz) (last := 9) (by kernel_rfl) rfl ?_
    have hl7 : Below w3.heap.size w3 w3.drew := (Below.refl _ _).drew
    have hp8 := hX5.pins.below hl7
    have hX9 := hX5.step hp8 hl7
    refine dr_take (i := 0) rfl rfl rfl (want_none rfl _) (by kernel_rfl) (fun _ _ => r_move (v := u) rfl) hX9.pins ?_
    refine dr_take (i := 1) rfl rfl rfl (want_none rfl _) (by kernel_rfl) (fun _ _ => r_move (v := (.int .i64 (j : Int))) rfl) hX9.pins ?_
    refine dr_take (i := 2) rfl rfl rfl (want_none rfl _) (by kernel_rfl) (fun _ _ => run_idx Tryd.underlying38 sz3 (v := u) rfl rfl hu (by omega) (by omega)) hX9.pins ?_
    refine dr_take (i := 3) rfl rfl rfl (want_none rfl _) (by kernel_rfl) (fun _ hS => run_load_int (r := xs.getD j 0) rfl ag3 (z := (j : Int)) rfl hu hS (by omega) (by omega)) hX9.pins ?_
    refine dr_take (i := 4) rfl rfl rfl (want_none rfl _) (by kernel_rfl) (fun _ _ => r_move (v := v) rfl) hX9.pins ?_
    refine dr_take (i := 5) rfl rfl rfl (want_none rfl _) (by kernel_rfl) (fun _ _ => r_move (v := (.int .i64 (j : Int))) rfl) hX9.pins ?_
    refine dr_take (i := 6) rfl rfl rfl (want_none rfl _) (by kernel_rfl) (fun _ _ => run_idx Tryd.underlying38 sz3 (v := v) rfl rfl hv (by omega) (by omega)) hX9.pins ?_
    refine dr_take (i := 7) rfl rfl rfl (want_none rfl _) (by kernel_rfl) (fun _ hS => run_load_int (r := ys.getD j 0) rfl ag3 (z := (j : Int)) rfl hv hS (by omega) (by omega)) hX9.pins ?_
    refine dr_take (i := 8) rfl rfl rfl (want_none rfl _) (by kernel_rfl) (fun _ _ => r_neq rfl rfl) hX9.pins ?_
    refine dr_end (by kernel_rfl) ?_
    refine s_then ?_
    refine c_ifd (p := (xs.getD j 0 : Int) ≠ (ys.getD j 0)) rfl rfl (fun h10 => ?_) (fun h10 => ?_)
    · skip
      refine s_seq ?_
      refine c_reg ?_
      refine qd rfl rfl rfl (r_assign (v := (.bool false)) rfl) ?_
      refine qe ?_
      refine s_then ?_
      refine wp_ret ?_
      refine s_ret ?_
      refine c_ret1 (v := (.bool false)) rfl rfl rfl ?_
      exact ⟨congrArg (fun z => Ending.returned (Value.bool z)) ((decide_eq_false (fun e => h10 (by rw [e]))).symm), hX9⟩
    refine wp_skip ?_
    refine s_blkN ?_
    refine s_then ?_
    refine c_reg ?_
    refine qd rfl rfl rfl (r_move (v := (.int .i64 (j : Int))) rfl) ?_
    refine qd rfl rfl rfl (r_add rfl rfl (by omega)) ?_
    refine qd rfl rfl rfl (r_assign (v := (.int .i64 ((j : Int) + 1))) rfl) ?_
    refine qe ?_
    refine s_lopN ?_
    refine ⟨_, ?_, _, rfl, _, j + 1, (packS (x := 5) (packS (x := 1) (pack1 (x := 0) rfl) rfl) rfl), rfl, hX9, (by omega), heq, (eqstep hp h10)⟩
    omega
  refine wp_exit ?_
  refine s_thenE ?_
  refine s_lopE ?_
  refine s_blkE ?_
  refine s_then ?_
  refine s_seq ?_
  refine c_reg ?_
  refine qd rfl rfl rfl (r_assign (v := (.bool true)) rfl) ?_
  refine qe ?_
  refine s_then ?_
  refine wp_ret ?_
  refine s_ret ?_
  refine c_ret1 (v := (.bool true)) rfl rfl rfl ?_
  exact ⟨congrArg (fun z => Ending.returned (Value.bool z)) ((decide_eq_true (eqdone heq (by omega) hp)).symm), hX5⟩

theorem eqNode_spec {w : World} {G : Pin} {al ar bl br : Value} {a b : Nd} (hP : Pins G w) (hal : RSl eInt G al a.l) (har : RSl eInt G ar a.r) (hbl : RSl eInt G bl b.l) (hbr : RSl eInt G br b.r) :
    Calls Tryd.prog 70 [(.agg [al, ar].toArray), (.agg [bl, br].toArray)].toArray w fun e w' => ∃ G', e = .returned (.bool (decide (a = b))) ∧ Ext noS G w G' w' := by
  refine s_enter (n := 17) Tryd.func70 Tryd.ntmps70 rfl rfl ?_
  have hX0 : Ext noS G w G w := Ext.refl hP
  refine s_seq ?_
  refine c_reg ?_
  refine q1 rfl rfl rfl (o_box [al, ar] (v := (.agg [al, ar].toArray)) rfl rfl hX0.pins (fun b1 w2 hk3 hb4 hp5 hl6 => ?_))
  have hX7 := hX0.step hp5 hl6
  have hlo8 : w.heap.size ≤ b1 := by have := hX0.size; omega
  obtain ⟨G9, hle10, hX11, hbp12, hf13⟩ := hb4.shut hX7 hlo8
  refine q1 rfl rfl rfl (o_box [bl, br] (v := (.agg [bl, br].toArray)) rfl rfl hX11.pins (fun b14 w15 hk16 hb17 hp18 hl19 => ?_))
  have hX20 := hX11.step hp18 hl19
  have hlo21 : w.heap.size ≤ b14 := by have := hX11.size; omega
  obtain ⟨G22, hle23, hX24, hbp25, hf26⟩ := hb17.shut hX20 hlo21
  refine qd rfl rfl rfl (r_assign (v := (.bool false)) rfl) ?_
  refine qe ?_
  refine s_then ?_
  refine s_seq ?_
  refine s_seq ?_
  refine c_reg ?_
  refine qd rfl rfl rfl (r_fldp (k := 0) rfl Tryd.underlying69 rfl nz38 rfl) ?_
  refine qd rfl rfl rfl (r_ldp1 (u := al) ag38 rfl ((Pins.of_le hX24.pins hle23) _ _ _ (hbp12 0 _ rfl))) ?_
  refine qd rfl rfl rfl (r_fldp (k := 0) rfl Tryd.underlying69 rfl nz38 rfl) ?_
  refine qd rfl rfl rfl (r_ldp1 (u := bl) ag38 rfl (hX24.pins _ _ _ (hbp25 0 _ rfl))) ?_
  refine q1 rfl rfl rfl (o_call (vs := [al, bl]) Tryd.func22 nm22 rfl rfl rfl ?_)
  refine Calls.mono (eqIntS_spec hX24.pins (hal.mono (Pin.le_trans hle10 hle23)) (hbl.mono (Pin.le_trans hle10 hle23))) ?_
  rintro _ w27 ⟨rfl, hx28⟩
  refine ⟨_, rfl, ?_⟩
  have hX29 := hX24.step hx28.pins hx28.below
  refine qd rfl rfl rfl (r_not rfl) ?_
  refine qe ?_
  refine s_then ?_
  refine c_ifn rfl rfl (fun h30 => ?_) (fun h30 => ?_)
  · skip
    replace h30 := of_decide_eq_true h30
    refine wp_skip ?_
    refine s_then ?_
    refine s_seq ?_
    refine s_seq ?_
    refine c_reg ?_
    refine qd rfl rfl rfl (r_fldp (k := 1) rfl Tryd.underlying69 rfl nz38 rfl) ?_
    refine qd rfl rfl rfl (r_ldp1 (u := ar) ag38 rfl ((Pins.of_le hX29.pins hle23) _ _ _ (hbp12 1 _ rfl))) ?_
    refine qd rfl rfl rfl (r_fldp (k := 1) rfl Tryd.underlying69 rfl nz38 rfl) ?_
    refine qd rfl rfl rfl (r_ldp1 (u := br) ag38 rfl (hX29.pins _ _ _ (hbp25 1 _ rfl))) ?_
    refine q1 rfl rfl rfl (o_call (vs := [ar, br]) Tryd.func22 nm22 rfl rfl rfl ?_)
    refine Calls.mono (eqIntS_spec hX29.pins (har.mono (Pin.le_trans hle10 hle23)) (hbr.mono (Pin.le_trans hle10 hle23))) ?_
    rintro _ w31 ⟨rfl, hx32⟩
    refine ⟨_, rfl, ?_⟩
    have hX33 := hX29.step hx32.pins hx32.below
    refine qd rfl rfl rfl (r_not rfl) ?_
    refine qe ?_
    refine s_then ?_
    refine c_ifn rfl rfl (fun h34 => ?_) (fun h34 => ?_)
    · skip
      replace h34 := of_decide_eq_true h34
      refine wp_skip ?_
      refine s_then ?_
      refine s_seq ?_
      refine c_reg ?_
      refine qd rfl rfl rfl (r_assign (v := (.bool true)) rfl) ?_
      refine qe ?_
      refine s_then ?_
      refine wp_ret ?_
      refine s_ret ?_
      refine c_ret1 (v := (.bool true)) rfl rfl rfl ?_
      exact ⟨_, congrArg (fun z => Ending.returned (Value.bool z)) (decide_eq_true (nd_ext h30 h34)).symm, hX33⟩
    replace h34 := of_decide_eq_false h34
    refine s_seq ?_
    refine c_reg ?_
    refine qd rfl rfl rfl (r_assign (v := (.bool false)) rfl) ?_
    refine qe ?_
    refine s_then ?_
    refine wp_ret ?_
    refine s_ret ?_
    refine c_ret1 (v := (.bool false)) rfl rfl rfl ?_
    exact ⟨_, congrArg (fun z => Ending.returned (Value.bool z)) (decide_eq_false (fun e => h34 (by rw [e]))).symm, hX33⟩
  replace h30 := of_decide_eq_false h30
  refine s_seq ?_
  refine c_reg ?_
  refine qd rfl rfl rfl (r_assign (v := (.bool false)) rfl) ?_
  refine qe ?_
  refine s_then ?_
  refine wp_ret ?_
  refine s_ret ?_
  refine c_ret1 (v := (.bool false)) rfl rfl rfl ?_
  exact ⟨_, congrArg (fun z => Ending.returned (Value.bool z)) (decide_eq_false (fun e => h30 (by rw [e]))).symm, hX29⟩

theorem eqNodeS_spec {w : World} {G : Pin} {u v : Value} {xs ys : List Nd} (hP : Pins G w) (hu : RSl eNode G u xs) (hv : RSl eNode G v ys) :
    Calls Tryd.prog 40 [u, v].toArray w fun e w' => ∃ G', e = .returned (.bool (decide (xs = ys))) ∧ Ext noS G w G' w' := by
  refine s_enter (n := 27) Tryd.func40 Tryd.ntmps40 rfl rfl ?_
  have hX0 : Ext noS G w G w := Ext.refl hP
  have hm := hu.max
  refine s_seq ?_
  refine c_reg ?_
  refine qd rfl rfl rfl (r_assign (v := (.bool false)) rfl) ?_
  refine qe ?_
  refine s_then ?_
  refine s_seq ?_
  refine s_seq ?_
  refine c_reg ?_
  refine qd rfl rfl rfl (r_move (v := u) rfl) ?_
  refine qd rfl rfl rfl (run_len Tryd.underlying28 (v := u) rfl hu) ?_
  refine qd rfl rfl rfl (r_move (v := v) rfl) ?_
  refine qd rfl rfl rfl (run_len Tryd.underlying28 (v := v) rfl hv) ?_
  refine qd rfl rfl rfl (r_neq rfl rfl) ?_
  refine qe ?_
  refine s_then ?_
  refine c_ifd (p := ((xs.length : Int) : Int) ≠ (ys.length : Int)) rfl rfl (fun h1 => ?_) (fun h1 => ?_)
  · skip
    refine s_seq ?_
    refine c_reg ?_
    refine qd rfl rfl rfl (r_assign (v := (.bool false)) rfl) ?_
    refine qe ?_
    refine s_then ?_
    refine wp_ret ?_
    refine s_ret ?_
    refine c_ret1 (v := (.bool false)) rfl rfl rfl ?_
    exact ⟨_, congrArg (fun z => Ending.returned (Value.bool z)) (decide_eq_false (fun e => h1 (by rw [e]))).symm, hX0⟩
  refine wp_skip ?_
  refine s_then ?_
  refine s_seq ?_
  refine s_seq ?_
  refine c_reg ?_
  refine qd rfl rfl rfl (r_assign (v := (.int .i64 0)) rfl) ?_
  refine qe ?_
  refine s_then ?_
  refine s_blk ?_
  refine s_loop (fun (k : Nat) (en : Nat → Value) (W : World) => ∃ (env1 : Nat → Value) (j : Nat) (GL1 : Pin), en = (upd (upd (upd env1 0 u) 1 v) 5 (.int .i64 (j : Int))) ∧ k = xs.length - j ∧ Ext noS G w GL1 W ∧ Pin.le G GL1 ∧ (j ≤ xs.length) ∧ (xs.length = ys.length) ∧ (∀ i, i < j → xs.getD i default = ys.getD i default)) _ ⟨_, 0, G, (packS (x := 5) (packS (x := 1) (pack1 (x := 0) rfl) rfl) rfl), rfl, hX0, Pin.le_refl _, Nat.zero_le _, (by omega), (fun i hi => absurd hi (Nat.not_lt_zero i))⟩ ?_
  rintro k2 _ w3 ⟨env1, j, GL1, rfl, hk4, hX5, hlek2, hj, heq, hp⟩
  refine s_seq ?_
  refine s_seq ?_
  refine c_reg ?_
  refine qd rfl rfl rfl (r_move (v := (.int .i64 (j : Int))) rfl) ?_
  refine qd rfl rfl rfl (r_move (v := u) rfl) ?_
  refine qd rfl rfl rfl (run_len Tryd.underlying28 (v := u) rfl hu) ?_
  refine qd rfl rfl rfl (r_lss rfl rfl) ?_
  refine qe ?_
  refine s_then ?_
  refine c_ifd (p := ((j : Int) : Int) < (xs.length : Int)) rfl rfl (fun h6 => ?_) (fun h6 => ?_)
  · skip
    refine wp_skip ?_
    refine s_then ?_
    refine s_seq ?_
    refine s_blk ?_
    refine s_seq ?_
    refine c_draw (S := fun wz => Pins GL1 wz) (last := 10) (by kernel_rfl) rfl ?_
    have hl7 : Below w3.heap.size w3 w3.drew := (Below.refl _ _).drew
    have hp8 := hX5.pins.below hl7
    have hX9 := hX5.step hp8 hl7
    refine dr_take (i := 0) rfl rfl rfl (want_none rfl _) (by kernel_rfl) (fun _ _ => r_move (v := u) rfl) hX9.pins ?_
    refine dr_take (i := 1) rfl rfl rfl (want_none rfl _) (by kernel_rfl) (fun _ _ => r_move (v := (.int .i64 (j : Int))) rfl) hX9.pins ?_
    refine dr_take (i := 2) rfl rfl rfl (want_none rfl _) (by kernel_rfl) (fun _ _ => run_idx Tryd.underlying28 sz69 (v := u) rfl rfl hu (by omega) (by omega)) hX9.pins ?_
    obtain ⟨u10, u11, hr12, hr13, hl14⟩ := nm_node (hu.at (z := (j : Int)) (by omega) (by omega)) (j := j) rfl
    have hm15 := hr12.max
    have hm16 := hr13.max
    refine dr_take (i := 3) rfl rfl rfl (want_none rfl _) (by kernel_rfl) (fun _ hS => hl14 ag69 sz69 rfl (Pins.of_le hS hlek2)) hX9.pins ?_
    refine dr_take (i := 4) rfl rfl rfl (want_none rfl _) (by kernel_rfl) (fun _ _ => r_move (v := v) rfl) hX9.pins ?_
    refine dr_take (i := 5) rfl rfl rfl (want_none rfl _) (by kernel_rfl) (fun _ _ => r_move (v := (.int .i64 (j : Int))) rfl) hX9.pins ?_
    refine dr_take (i := 6) rfl rfl rfl (want_none rfl _) (by kernel_rfl) (fun _ _ => run_idx Tryd.underlying28 sz69 (v := v) rfl rfl hv (by omega) (by omega)) hX9.pins ?_
    obtain ⟨u17, u18, hr19, hr20, hl21⟩ := nm_node (hv.at (z := (j : Int)) (by omega) (by omega)) (j := j) rfl
    have hm22 := hr19.max
    have hm23 := hr20.max
    refine dr_take (i := 7) rfl rfl rfl (want_none rfl _) (by kernel_rfl) (fun _ hS => hl21 ag69 sz69 rfl (Pins.of_le hS hlek2)) hX9.pins ?_
    refine dr_one (i := 8) (by kernel_rfl) (drOp1 (i := 8) rfl rfl rfl (want_none rfl _) (o_call (vs := [(.agg [u10, u11].toArray), (.agg [u17, u18].toArray)]) Tryd.func70 nm70 rfl rfl rfl ?_))
    refine Calls.mono (eqNode_spec (a := ⟨(xs.getD j default).l, (xs.getD j default).r⟩) (b := ⟨(ys.getD j default).l, (ys.getD j default).r⟩) hX9.pins (hr12.mono hlek2) (hr13.mono hlek2) (hr19.mono hlek2) (hr20.mono hlek2)) ?_
    rintro _ w25 ⟨G24, rfl, hx26⟩
    refine ⟨_, rfl, ?_⟩
    have hX27 := hX9.tr hx26
    refine ⟨fun _ => (Pins.of_le hX27.pins hx26.le), ?_⟩
    refine dr_take (i := 9) rfl rfl rfl (want_none rfl _) (by kernel_rfl) (fun _ _ => r_not rfl) (Pins.of_le hX27.pins hx26.le) ?_
    refine dr_end (by kernel_rfl) ?_
    refine s_then ?_
    refine c_ifn rfl rfl (fun h28 => ?_) (fun h28 => ?_)
    · skip
      replace h28 := of_decide_eq_true h28
      refine wp_skip ?_
      refine s_blkN ?_
      refine s_then ?_
      refine c_reg ?_
      refine qd rfl rfl rfl (r_move (v := (.int .i64 (j : Int))) rfl) ?_
      refine qd rfl rfl rfl (r_add rfl rfl (by omega)) ?_
      refine qd rfl rfl rfl (r_assign (v := (.int .i64 ((j : Int) + 1))) rfl) ?_
      refine qe ?_
      refine s_lopN ?_
      refine ⟨_, ?_, _, rfl, _, j + 1, G24, (packS (x := 5) (packS (x := 1) (pack1 (x := 0) rfl) rfl) rfl), rfl, hX27, (Pin.le_trans hlek2 hx26.le), (by omega), heq, (eqstepN hp (congrArg Nd.l h28) (congrArg Nd.r h28))⟩
      omega
    replace h28 := of_decide_eq_false h28
    refine s_seq ?_
    refine c_reg ?_
    refine qd rfl rfl rfl (r_assign (v := (.bool false)) rfl) ?_
    refine qe ?_
    refine s_then ?_
    refine wp_ret ?_
    refine s_ret ?_
    refine c_ret1 (v := (.bool false)) rfl rfl rfl ?_
    exact ⟨_, congrArg (fun z => Ending.returned (Value.bool z)) (decide_eq_false (fun e => h28 (by rw [e]))).symm, hX27⟩
  refine wp_exit ?_
  refine s_thenE ?_
  refine s_lopE ?_
  refine s_blkE ?_
  refine s_then ?_
  refine s_seq ?_
  refine c_reg ?_
  refine qd rfl rfl rfl (r_assign (v := (.bool true)) rfl) ?_
  refine qe ?_
  refine s_then ?_
  refine wp_ret ?_
  refine s_ret ?_
  refine c_ret1 (v := (.bool true)) rfl rfl rfl ?_
  exact ⟨_, congrArg (fun z => Ending.returned (Value.bool z)) (decide_eq_true (eqdoneN heq (by omega) hp)).symm, hX5⟩

theorem eqForm_spec {w : World} {G : Pin} {u v : Value} {xs ys : List Nd} (hP : Pins G w) (hu : RSl eNode G u xs) (hv : RSl eNode G v ys) :
    Calls Tryd.prog 13 [(.agg [u].toArray), (.agg [v].toArray)].toArray w fun e w' => ∃ G', e = .returned (.bool (decide (xs = ys))) ∧ Ext noS G w G' w' := by
  refine s_enter (n := 11) Tryd.func13 Tryd.ntmps13 rfl rfl ?_
  have hX0 : Ext noS G w G w := Ext.refl hP
  refine s_seq ?_
  refine c_reg ?_
  refine q1 rfl rfl rfl (o_box [u] (v := (.agg [u].toArray)) rfl rfl hX0.pins (fun b1 w2 hk3 hb4 hp5 hl6 => ?_))
  have hX7 := hX0.step hp5 hl6
  have hlo8 : w.heap.size ≤ b1 := by have := hX0.size; omega
  obtain ⟨G9, hle10, hX11, hbp12, hf13⟩ := hb4.shut hX7 hlo8
  refine q1 rfl rfl rfl (o_box [v] (v := (.agg [v].toArray)) rfl rfl hX11.pins (fun b14 w15 hk16 hb17 hp18 hl19 => ?_))
  have hX20 := hX11.step hp18 hl19
  have hlo21 : w.heap.size ≤ b14 := by have := hX11.size; omega
  obtain ⟨G22, hle23, hX24, hbp25, hf26⟩ := hb17.shut hX20 hlo21
  refine qd rfl rfl rfl (r_assign (v := (.bool false)) rfl) ?_
  refine qe ?_
  refine s_then ?_
  refine s_seq ?_
  refine s_seq ?_
  refine c_reg ?_
  refine qd rfl rfl rfl (r_fldp (k := 0) rfl Tryd.underlying30 rfl nz28 rfl) ?_
  refine qd rfl rfl rfl (r_ldp1 (u := u) ag28 rfl ((Pins.of_le hX24.pins hle23) _ _ _ (hbp12 0 _ rfl))) ?_
  refine qd rfl rfl rfl (r_fldp (k := 0) rfl Tryd.underlying30 rfl nz28 rfl) ?_
  refine qd rfl rfl rfl (r_ldp1 (u := v) ag28 rfl (hX24.pins _ _ _ (hbp25 0 _ rfl))) ?_
  refine q1 rfl rfl rfl (o_call (vs := [u, v]) Tryd.func40 nm40 rfl rfl rfl ?_)
  refine Calls.mono (eqNodeS_spec hX24.pins (hu.mono (Pin.le_trans hle10 hle23)) (hv.mono (Pin.le_trans hle10 hle23))) ?_
  rintro _ w28 ⟨G27, rfl, hx29⟩
  refine ⟨_, rfl, ?_⟩
  have hX30 := hX24.tr hx29
  refine qd rfl rfl rfl (r_not rfl) ?_
  refine qe ?_
  refine s_then ?_
  refine c_ifn rfl rfl (fun h31 => ?_) (fun h31 => ?_)
  · skip
    replace h31 := of_decide_eq_true h31
    refine wp_skip ?_
    refine s_then ?_
    refine s_seq ?_
    refine c_reg ?_
    refine qd rfl rfl rfl (r_assign (v := (.bool true)) rfl) ?_
    refine qe ?_
    refine s_then ?_
    refine wp_ret ?_
    refine s_ret ?_
    refine c_ret1 (v := (.bool true)) rfl rfl rfl ?_
    exact ⟨_, congrArg (fun z => Ending.returned (Value.bool z)) (decide_eq_true h31).symm, hX30⟩
  replace h31 := of_decide_eq_false h31
  refine s_seq ?_
  refine c_reg ?_
  refine qd rfl rfl rfl (r_assign (v := (.bool false)) rfl) ?_
  refine qe ?_
  refine s_then ?_
  refine wp_ret ?_
  refine s_ret ?_
  refine c_ret1 (v := (.bool false)) rfl rfl rfl ?_
  exact ⟨_, congrArg (fun z => Ending.returned (Value.bool z)) (decide_eq_false h31).symm, hX30⟩

end L1
end Go.Proofs.YtndhhpaldhlghaaDoor
