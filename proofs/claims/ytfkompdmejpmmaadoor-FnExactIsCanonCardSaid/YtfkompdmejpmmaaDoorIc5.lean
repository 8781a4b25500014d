/- Texts of this claim in one file: L1, DS1, CS1, CS2, K1, Shelf, PO1. -/
import Derived.Test.YtfkompdmejpmmaaDoorIc4
import Derived.Test.YtfkompdmejpmmaaDoorChecked
import Derived.Shelf.Sort.Plain
import Derived.Ground.Names2Prog
import Derived.Shelf.Slices.CompactI
import Derived.Shelf.Slices.In.SortNone
import Derived.Test.YtfkompdmejpmmaaDoorProg
/- Walks, printed by a program (walkgen.py) from the spec specs_l. -/
set_option maxRecDepth 20000
set_option maxHeartbeats 2000000
namespace Go.Proofs.YtfkompdmejpmmaaDoor
namespace L1
open Go.RowKit Go.GL Go.Proofs
theorem ag22 : (Tryd.prog.underlying 22).map aggD = some false := by kernel_rfl
theorem ag28 : (Tryd.prog.underlying 28).map aggD = some false := by kernel_rfl
theorem ag3 : (Tryd.prog.underlying 3).map aggD = some false := by kernel_rfl
theorem ag30 : (Tryd.prog.underlying 30).map aggD = some true := by kernel_rfl
theorem ag37 : (Tryd.prog.underlying 37).map aggD = some false := by kernel_rfl
theorem ag44 : (Tryd.prog.underlying 44).map aggD = some true := by kernel_rfl
theorem ag55 : (Tryd.prog.underlying 55).map aggD = some true := by kernel_rfl
theorem mk3 : (Tryd.prog.info? 3).map (fun i => (i.size, i.bytes, i.zero)) = some (1, 8, some (.int .i64 0)) := by kernel_rfl
theorem mk44 : (Tryd.prog.info? 44).map (fun i => (i.size, i.bytes, i.zero)) = some (2, 48, some (.agg #[(.slice none 0 0), (.slice none 0 0)])) := by kernel_rfl
theorem nm15 : (Tryd.f15.name == "runtime.NumGoroutine") = false := by kernel_rfl
theorem nm20 : (Tryd.f20.name == "runtime.NumGoroutine") = false := by kernel_rfl
theorem nm21 : (Tryd.f21.name == "runtime.NumGoroutine") = false := by kernel_rfl
theorem nm33 : (Tryd.f33.name == "runtime.NumGoroutine") = false := by kernel_rfl
theorem nm44 : (Tryd.f44.name == "runtime.NumGoroutine") = false := by kernel_rfl
theorem nm45 : (Tryd.f45.name == "runtime.NumGoroutine") = false := by kernel_rfl
theorem nm54 : (Tryd.f54.name == "runtime.NumGoroutine") = false := by kernel_rfl
theorem nm63 : (Tryd.f63.name == "runtime.NumGoroutine") = false := by kernel_rfl
theorem nm9 : (Tryd.f9.name == "runtime.NumGoroutine") = false := by kernel_rfl
theorem nz22 : (Tryd.prog.info? 22).map (·.size == 0) = some false := by kernel_rfl
theorem nz28 : (Tryd.prog.info? 28).map (·.size == 0) = some false := by kernel_rfl
theorem nz37 : (Tryd.prog.info? 37).map (·.size == 0) = some false := by kernel_rfl
theorem sz28 : (Tryd.prog.info? 28).map (·.size) = some 1 := by kernel_rfl
theorem sz3 : (Tryd.prog.info? 3).map (·.size) = some 1 := by kernel_rfl
theorem sz30 : (Tryd.prog.info? 30).map (·.size) = some 1 := by kernel_rfl
theorem sz37 : (Tryd.prog.info? 37).map (·.size) = some 1 := by kernel_rfl
theorem sz44 : (Tryd.prog.info? 44).map (·.size) = some 2 := by kernel_rfl
theorem sz55 : (Tryd.prog.info? 55).map (·.size) = some 2 := by kernel_rfl
theorem zr30 : (Tryd.prog.info? 30).bind (·.zero) = some (.agg #[(.slice none 0 0)]) := by kernel_rfl
theorem zr44 : (Tryd.prog.info? 44).bind (·.zero) = some (.agg #[(.slice none 0 0), (.slice none 0 0)]) := by kernel_rfl

theorem szIntS_spec {w : World} {G : Pin} {v : Value} {xs : List Int} {left : Int} (hP : Pins G w) (hv : RSl eInt G v xs) (hl : 0 ≤ left ∧ left ≤ 1048576) :
    Calls Tryd.prog 45 [v, (.int .i64 left)].toArray w fun e w' => e = .returned (.int .i64 (szInts xs left)) ∧ w' = w := by
  refine s_enter (n := 12) Tryd.func45 Tryd.ntmps45 rfl rfl ?_
  have hX0 : Ext noS G w G w := Ext.refl hP
  have hm := hv.max
  refine s_seq ?_
  refine c_reg ?_
  refine qd rfl rfl rfl (r_assign (v := (.int .i64 0)) rfl) ?_
  refine qe ?_
  refine s_then ?_
  refine s_seq ?_
  refine c_reg ?_
  refine qd rfl rfl rfl (r_move (v := (.int .i64 left)) rfl) ?_
  refine qd rfl rfl rfl (r_move (v := v) rfl) ?_
  refine qd rfl rfl rfl (run_len Tryd.underlying37 (v := v) rfl hv) ?_
  refine qd rfl rfl rfl (r_sub rfl rfl (by omega)) ?_
  refine qd rfl rfl rfl (r_assign (v := (.int .i64 (left - (xs.length : Int)))) rfl) ?_
  refine qe ?_
  refine s_then ?_
  refine s_seq ?_
  refine s_seq ?_
  refine c_reg ?_
  refine qd rfl rfl rfl (r_move (v := (.int .i64 (left - (xs.length : Int)))) rfl) ?_
  refine qd rfl rfl rfl (r_lss rfl rfl) ?_
  refine qe ?_
  refine s_then ?_
  refine c_ifd (p := (left - (xs.length : Int) : Int) < 0) rfl rfl (fun h1 => ?_) (fun h1 => ?_)
  · skip
    refine s_seq ?_
    refine c_reg ?_
    refine qd rfl rfl rfl (r_assign (v := (.int .i64 (-1))) rfl) ?_
    refine qe ?_
    refine s_then ?_
    refine wp_ret ?_
    refine s_ret ?_
    refine c_ret1 (v := (.int .i64 (-1))) rfl rfl rfl ?_
    exact ⟨congrArg (fun z => Ending.returned (Value.int .i64 z)) (by unfold szInts; split <;> omega), rfl⟩
  refine wp_skip ?_
  refine s_then ?_
  refine s_seq ?_
  refine c_reg ?_
  refine qd rfl rfl rfl (r_move (v := (.int .i64 (left - (xs.length : Int)))) rfl) ?_
  refine qd rfl rfl rfl (r_assign (v := (.int .i64 (left - (xs.length : Int)))) rfl) ?_
  refine qe ?_
  refine s_then ?_
  refine wp_ret ?_
  refine s_ret ?_
  refine c_ret1 (v := (.int .i64 (left - (xs.length : Int)))) rfl rfl rfl ?_
  exact ⟨congrArg (fun z => Ending.returned (Value.int .i64 z)) (by unfold szInts; split <;> omega), rfl⟩

theorem szNode_spec {w : World} {G : Pin} {u v : Value} {n : Nd} {left : Int} (hP : Pins G w) (hu : RSl eInt G u n.l) (hv : RSl eInt G v n.r) (hl : 0 ≤ left ∧ left ≤ 1048576) :
    Calls Tryd.prog 21 [(.agg [u, v].toArray), (.int .i64 left)].toArray w fun e w' => ∃ G', e = .returned (.int .i64 (szNd n left)) ∧ Ext noS G w G' w' := by
  refine s_enter (n := 18) Tryd.func21 Tryd.ntmps21 rfl rfl ?_
  have hX0 : Ext noS G w G w := Ext.refl hP
  refine s_seq ?_
  refine c_reg ?_
  refine q1 rfl rfl rfl (o_box [u, v] (v := (.agg [u, v].toArray)) rfl rfl hX0.pins (fun b1 w2 hk3 hb4 hp5 hl6 => ?_))
  have hX7 := hX0.step hp5 hl6
  have hlo8 : w.heap.size ≤ b1 := by have := hX0.size; omega
  obtain ⟨G9, hle10, hX11, hbp12, hf13⟩ := hb4.shut hX7 hlo8
  refine qd rfl rfl rfl (r_assign (v := (.int .i64 0)) rfl) ?_
  refine qe ?_
  refine s_then ?_
  refine s_seq ?_
  refine c_reg ?_
  refine qd rfl rfl rfl (r_fldp (k := 0) rfl Tryd.underlying55 rfl nz37 rfl) ?_
  refine qd rfl rfl rfl (r_ldp1 (u := u) ag37 rfl (hX11.pins _ _ _ (hbp12 0 _ rfl))) ?_
  refine qd rfl rfl rfl (r_move (v := (.int .i64 left)) rfl) ?_
  refine q1 rfl rfl rfl (o_call (vs := [u, (.int .i64 left)]) Tryd.func45 nm45 rfl rfl rfl ?_)
  refine Calls.mono (szIntS_spec hX11.pins (hu.mono hle10) (by omega)) ?_
  rintro _ _ ⟨rfl, rfl⟩
  refine ⟨_, rfl, ?_⟩
  refine qd rfl rfl rfl (r_assign (v := (.int .i64 (szInts n.l left))) rfl) ?_
  refine qe ?_
  refine s_then ?_
  refine s_seq ?_
  refine s_seq ?_
  refine c_reg ?_
  refine qd rfl rfl rfl (r_move (v := (.int .i64 (szInts n.l left))) rfl) ?_
  refine qd rfl rfl rfl (r_lss rfl rfl) ?_
  refine qe ?_
  refine s_then ?_
  refine c_ifd (p := (szInts n.l left : Int) < 0) rfl rfl (fun h14 => ?_) (fun h14 => ?_)
  · skip
    refine s_seq ?_
    refine c_reg ?_
    refine qd rfl rfl rfl (r_assign (v := (.int .i64 (-1))) rfl) ?_
    refine qe ?_
    refine s_then ?_
    refine wp_ret ?_
    refine s_ret ?_
    refine c_ret1 (v := (.int .i64 (-1))) rfl rfl rfl ?_
    exact ⟨_, congrArg (fun z => Ending.returned (Value.int .i64 z)) (by unfold szNd; rw [if_pos h14]), hX11⟩
  refine wp_skip ?_
  refine s_then ?_
  refine s_seq ?_
  refine c_reg ?_
  refine qd rfl rfl rfl (r_fldp (k := 1) rfl Tryd.underlying55 rfl nz37 rfl) ?_
  refine qd rfl rfl rfl (r_ldp1 (u := v) ag37 rfl (hX11.pins _ _ _ (hbp12 1 _ rfl))) ?_
  refine qd rfl rfl rfl (r_move (v := (.int .i64 (szInts n.l left))) rfl) ?_
  have hq := szInts_ok h14 hl
  refine q1 rfl rfl rfl (o_call (vs := [v, (.int .i64 (szInts n.l left))]) Tryd.func45 nm45 rfl rfl rfl ?_)
  refine Calls.mono (szIntS_spec hX11.pins (hv.mono hle10) (by omega)) ?_
  rintro _ _ ⟨rfl, rfl⟩
  refine ⟨_, rfl, ?_⟩
  refine qd rfl rfl rfl (r_assign (v := (.int .i64 (szInts n.r (szInts n.l left)))) rfl) ?_
  refine qe ?_
  refine s_then ?_
  refine s_seq ?_
  refine s_seq ?_
  refine c_reg ?_
  refine qd rfl rfl rfl (r_move (v := (.int .i64 (szInts n.r (szInts n.l left)))) rfl) ?_
  refine qd rfl rfl rfl (r_lss rfl rfl) ?_
  refine qe ?_
  refine s_then ?_
  refine c_ifd (p := (szInts n.r (szInts n.l left) : Int) < 0) rfl rfl (fun h15 => ?_) (fun h15 => ?_)
  · skip
    refine s_seq ?_
    refine c_reg ?_
    refine qd rfl rfl rfl (r_assign (v := (.int .i64 (-1))) rfl) ?_
    refine qe ?_
    refine s_then ?_
    refine wp_ret ?_
    refine s_ret ?_
    refine c_ret1 (v := (.int .i64 (-1))) rfl rfl rfl ?_
    exact ⟨_, congrArg (fun z => Ending.returned (Value.int .i64 z)) (by unfold szNd; rw [if_neg h14, if_pos h15]), hX11⟩
  refine wp_skip ?_
  refine s_then ?_
  refine s_seq ?_
  refine c_reg ?_
  refine qd rfl rfl rfl (r_move (v := (.int .i64 (szInts n.r (szInts n.l left)))) rfl) ?_
  refine qd rfl rfl rfl (r_assign (v := (.int .i64 (szInts n.r (szInts n.l left)))) rfl) ?_
  refine qe ?_
  refine s_then ?_
  refine wp_ret ?_
  refine s_ret ?_
  refine c_ret1 (v := (.int .i64 (szInts n.r (szInts n.l left)))) rfl rfl rfl ?_
  exact ⟨_, congrArg (fun z => Ending.returned (Value.int .i64 z)) (by unfold szNd; rw [if_neg h14, if_neg h15]), hX11⟩

theorem szNodeS_spec {w : World} {G : Pin} {v : Value} {ns : List Nd} {left : Int} (hP : Pins G w) (hv : RSl eNode G v ns) (hl : 0 ≤ left ∧ left ≤ 1048576) :
    Calls Tryd.prog 9 [v, (.int .i64 left)].toArray w fun e w' => ∃ G', e = .returned (.int .i64 (szNds ns left)) ∧ Ext noS G w G' w' := by
  refine s_enter (n := 27) Tryd.func9 Tryd.ntmps9 rfl rfl ?_
  have hX0 : Ext noS G w G w := Ext.refl hP
  have hm := hv.max
  refine s_seq ?_
  refine c_reg ?_
  refine qd rfl rfl rfl (r_assign (v := (.int .i64 0)) rfl) ?_
  refine qe ?_
  refine s_then ?_
  refine s_seq ?_
  refine c_reg ?_
  refine qd rfl rfl rfl (r_move (v := (.int .i64 left)) rfl) ?_
  refine qd rfl rfl rfl (r_move (v := v) rfl) ?_
  refine qd rfl rfl rfl (run_len Tryd.underlying22 (v := v) rfl hv) ?_
  refine qd rfl rfl rfl (r_sub rfl rfl (by omega)) ?_
  refine qd rfl rfl rfl (r_assign (v := (.int .i64 (left - (ns.length : Int)))) rfl) ?_
  refine qe ?_
  refine s_then ?_
  refine s_seq ?_
  refine s_seq ?_
  refine c_reg ?_
  refine qd rfl rfl rfl (r_move (v := (.int .i64 (left - (ns.length : Int)))) rfl) ?_
  refine qd rfl rfl rfl (r_lss rfl rfl) ?_
  refine qe ?_
  refine s_then ?_
  refine c_ifd (p := (left - (ns.length : Int) : Int) < 0) rfl rfl (fun h1 => ?_) (fun h1 => ?_)
  · skip
    refine s_seq ?_
    refine c_reg ?_
    refine qd rfl rfl rfl (r_assign (v := (.int .i64 (-1))) rfl) ?_
    refine qe ?_
    refine s_then ?_
    refine wp_ret ?_
    refine s_ret ?_
    refine c_ret1 (v := (.int .i64 (-1))) rfl rfl rfl ?_
    exact ⟨_, congrArg (fun z => Ending.returned (Value.int .i64 z)) (by unfold szNds; rw [if_pos h1]), hX0⟩
  refine wp_skip ?_
  refine s_then ?_
  refine s_seq ?_
  refine s_seq ?_
  refine c_reg ?_
  refine qd rfl rfl rfl (r_assign (v := (.int .i64 0)) rfl) ?_
  refine qe ?_
  refine s_then ?_
  refine s_blk ?_
  refine s_loop (fun (k : Nat) (en : Nat → Value) (W : World) => ∃ (env1 : Nat → Value) (j : Nat) (q : Int) (GL1 : Pin), en = (upd (upd (upd env1 0 v) 1 (.int .i64 q)) 5 (.int .i64 (j : Int))) ∧ k = ns.length - j ∧ Ext noS G w GL1 W ∧ Pin.le G GL1 ∧ (j ≤ ns.length) ∧ (0 ≤ q ∧ q ≤ 1048576) ∧ (szGo ns (left - ns.length) = szGo (ns.drop j) q)) _ ⟨_, 0, left - (ns.length : Int), G, (packS (x := 5) (packS (x := 1) (pack1 (x := 0) rfl) rfl) rfl), rfl, hX0, Pin.le_refl _, Nat.zero_le _, (by omega), rfl⟩ ?_
  rintro k2 _ w3 ⟨env1, j, q, GL1, rfl, hk4, hX5, hlek2, hj, hq, hr⟩
  refine s_seq ?_
  refine s_seq ?_
  refine c_reg ?_
  refine qd rfl rfl rfl (r_move (v := (.int .i64 (j : Int))) rfl) ?_
  refine qd rfl rfl rfl (r_move (v := v) rfl) ?_
  refine qd rfl rfl rfl (run_len Tryd.underlying22 (v := v) rfl hv) ?_
  refine qd rfl rfl rfl (r_lss rfl rfl) ?_
  refine qe ?_
  refine s_then ?_
  refine c_ifd (p := ((j : Int) : Int) < (ns.length : Int)) rfl rfl (fun h6 => ?_) (fun h6 => ?_)
  · skip
    refine wp_skip ?_
    refine s_then ?_
    refine s_seq ?_
    refine s_blk ?_
    refine s_seq ?_
    refine c_reg ?_
    refine qd rfl rfl rfl (r_move (v := v) rfl) ?_
    refine qd rfl rfl rfl (r_move (v := (.int .i64 (j : Int))) rfl) ?_
    refine qd rfl rfl rfl (run_idx Tryd.underlying22 sz55 (v := v) rfl rfl hv (by omega) (by omega)) ?_
    obtain ⟨u7, u8, hr9, hr10, hl11⟩ := nm_node (hv.at (z := (j : Int)) (by omega) (by omega)) (j := j) rfl
    have hm12 := hr9.max
    have hm13 := hr10.max
    refine qd rfl rfl rfl (hl11 ag55 sz55 rfl (Pins.of_le hX5.pins hlek2)) ?_
    refine qd rfl rfl rfl (r_move (v := (.int .i64 q)) rfl) ?_
    refine q1 rfl rfl rfl (o_call (vs := [(.agg [u7, u8].toArray), (.int .i64 q)]) Tryd.func21 nm21 rfl rfl rfl ?_)
    refine Calls.mono (szNode_spec (n := ⟨(ns.getD j default).l, (ns.getD j default).r⟩) hX5.pins (hr9.mono hlek2) (hr10.mono hlek2) (by omega)) ?_
    rintro _ w15 ⟨G14, rfl, hx16⟩
    refine ⟨_, rfl, ?_⟩
    have hX17 := hX5.tr hx16
    refine qd rfl rfl rfl (r_assign (v := (.int .i64 (szNd ⟨(ns.getD j default).l, (ns.getD j default).r⟩ q))) rfl) ?_
    refine qe ?_
    refine s_then ?_
    refine s_seq ?_
    refine c_reg ?_
    refine qd rfl rfl rfl (r_move (v := (.int .i64 (szNd ⟨(ns.getD j default).l, (ns.getD j default).r⟩ q))) rfl) ?_
    refine qd rfl rfl rfl (r_lss rfl rfl) ?_
    refine qe ?_
    refine s_then ?_
    refine c_ifd (p := (szNd ⟨(ns.getD j default).l, (ns.getD j default).r⟩ q : Int) < 0) rfl rfl (fun h18 => ?_) (fun h18 => ?_)
    · skip
      refine s_seq ?_
      refine c_reg ?_
      refine qd rfl rfl rfl (r_assign (v := (.int .i64 (-1))) rfl) ?_
      refine qe ?_
      refine s_then ?_
      refine wp_ret ?_
      refine s_ret ?_
      refine c_ret1 (v := (.int .i64 (-1))) rfl rfl rfl ?_
      exact ⟨_, congrArg (fun z => Ending.returned (Value.int .i64 z)) (by unfold szNds; rw [if_neg h1]; exact (hr.trans (szGo_stop (by omega) h18)).symm), hX17⟩
    refine wp_skip ?_
    refine s_blkN ?_
    refine s_then ?_
    refine c_reg ?_
    refine qd rfl rfl rfl (r_move (v := (.int .i64 (j : Int))) rfl) ?_
    refine qd rfl rfl rfl (r_add rfl rfl (by omega)) ?_
    refine qd rfl rfl rfl (r_assign (v := (.int .i64 ((j : Int) + 1))) rfl) ?_
    refine qe ?_
    refine s_lopN ?_
    have hz := szNd_ok h18
    refine ⟨_, ?_, _, rfl, _, j + 1, szNd ⟨(ns.getD j default).l, (ns.getD j default).r⟩ q, G14, (packS (x := 5) (packS (x := 1) (pack1 (x := 0) rfl) rfl) rfl), rfl, hX17, (Pin.le_trans hlek2 hx16.le), (by omega), (by have h1 := hz.1; have h2 := hz.2.1; exact ⟨h1, by omega⟩), (hr.trans (szGo_next (by omega) h18))⟩
    omega
  refine wp_exit ?_
  refine s_thenE ?_
  refine s_lopE ?_
  refine s_blkE ?_
  refine s_then ?_
  refine s_seq ?_
  refine c_reg ?_
  refine qd rfl rfl rfl (r_move (v := (.int .i64 q)) rfl) ?_
  refine qd rfl rfl rfl (r_assign (v := (.int .i64 q)) rfl) ?_
  refine qe ?_
  refine s_then ?_
  refine wp_ret ?_
  refine s_ret ?_
  refine c_ret1 (v := (.int .i64 q)) rfl rfl rfl ?_
  exact ⟨_, congrArg (fun z => Ending.returned (Value.int .i64 z)) (by unfold szNds; rw [if_neg h1]; exact (hr.trans (szGo_end (by omega))).symm), hX5⟩

theorem szForm_spec {w : World} {G : Pin} {v : Value} {ns : List Nd} {left : Int} (hP : Pins G w) (hv : RSl eNode G v ns) (hl : 0 ≤ left ∧ left ≤ 1048576) :
    Calls Tryd.prog 4 [(.agg [v].toArray), (.int .i64 left)].toArray w fun e w' => ∃ z G', e = .returned (.int .i64 z) ∧ (z < 0 ∧ szNds ns left < 0 ∨ 0 ≤ z ∧ z ≤ left ∧ ¬ szNds ns left < 0) ∧ Ext noS G w G' w' := by
  refine s_enter (n := 12) Tryd.func4 Tryd.ntmps4 rfl rfl ?_
  have hX0 : Ext noS G w G w := Ext.refl hP
  refine s_seq ?_
  refine c_reg ?_
  refine q1 rfl rfl rfl (o_box [v] (v := (.agg [v].toArray)) rfl rfl hX0.pins (fun b1 w2 hk3 hb4 hp5 hl6 => ?_))
  have hX7 := hX0.step hp5 hl6
  have hlo8 : w.heap.size ≤ b1 := by have := hX0.size; omega
  obtain ⟨G9, hle10, hX11, hbp12, hf13⟩ := hb4.shut hX7 hlo8
  refine qd rfl rfl rfl (r_assign (v := (.int .i64 0)) rfl) ?_
  refine qe ?_
  refine s_then ?_
  refine s_seq ?_
  refine c_reg ?_
  refine qd rfl rfl rfl (r_fldp (k := 0) rfl Tryd.underlying24 rfl nz22 rfl) ?_
  refine qd rfl rfl rfl (r_ldp1 (u := v) ag22 rfl (hX11.pins _ _ _ (hbp12 0 _ rfl))) ?_
  refine qd rfl rfl rfl (r_move (v := (.int .i64 left)) rfl) ?_
  refine q1 rfl rfl rfl (o_call (vs := [v, (.int .i64 left)]) Tryd.func9 nm9 rfl rfl rfl ?_)
  refine Calls.mono (szNodeS_spec hX11.pins (hv.mono hle10) (by omega)) ?_
  rintro _ w15 ⟨G14, rfl, hx16⟩
  refine ⟨_, rfl, ?_⟩
  have hX17 := hX11.tr hx16
  refine qd rfl rfl rfl (r_assign (v := (.int .i64 (szNds ns left))) rfl) ?_
  refine qe ?_
  refine s_then ?_
  refine s_seq ?_
  refine s_seq ?_
  refine c_reg ?_
  refine qd rfl rfl rfl (r_move (v := (.int .i64 (szNds ns left))) rfl) ?_
  refine qd rfl rfl rfl (r_lss rfl rfl) ?_
  refine qe ?_
  refine s_then ?_
  refine c_ifd (p := (szNds ns left : Int) < 0) rfl rfl (fun h18 => ?_) (fun h18 => ?_)
  · skip
    refine s_seq ?_
    refine c_reg ?_
    refine qd rfl rfl rfl (r_assign (v := (.int .i64 (-1))) rfl) ?_
    refine qe ?_
    refine s_then ?_
    refine wp_ret ?_
    refine s_ret ?_
    refine c_ret1 (v := (.int .i64 (-1))) rfl rfl rfl ?_
    have hzl := @szNds_le ns left
    exact ⟨_, _, rfl, by omega, hX17⟩
  refine wp_skip ?_
  refine s_then ?_
  refine s_seq ?_
  refine c_reg ?_
  refine qd rfl rfl rfl (r_move (v := (.int .i64 (szNds ns left))) rfl) ?_
  refine qd rfl rfl rfl (r_assign (v := (.int .i64 (szNds ns left))) rfl) ?_
  refine qe ?_
  refine s_then ?_
  refine wp_ret ?_
  refine s_ret ?_
  refine c_ret1 (v := (.int .i64 (szNds ns left))) rfl rfl rfl ?_
  have hzl := @szNds_le ns left
  exact ⟨_, _, rfl, by omega, hX17⟩

theorem toIntS_spec {w : World} {G : Pin} {v : Value} {xs : List Int} (hP : Pins G w) (hv : RSl eInt G v xs) (hs : xs.length ≤ 1048576) :
    Calls Tryd.prog 54 [v].toArray w fun e w' => ∃ (u : Value) (G' : Pin), e = .returned u ∧ Own eInt 3 G' w' w.heap.size u xs ∧ Ext noS G w G' w' := by
  refine s_enter (n := 22) Tryd.func54 Tryd.ntmps54 rfl rfl ?_
  have hX0 : Ext noS G w G w := Ext.refl hP
  refine s_seq ?_
  refine c_reg ?_
  refine qd rfl rfl rfl (r_assign (v := (.slice none 0 0)) rfl) ?_
  refine qe ?_
  refine s_then ?_
  refine s_seq ?_
  refine c_reg ?_
  refine qd rfl rfl rfl (r_move (v := v) rfl) ?_
  refine qd rfl rfl rfl (run_len Tryd.underlying37 (v := v) rfl hv) ?_
  refine q1 rfl rfl rfl (o_make (E := eInt) 0 8 (.int .i64 0) Tryd.underlying37 mk3 (fun _ => rfl) rfl rfl hX0.pins (by omega) (by omega) (by omega) (fun u1 w2 ho3 hp4 hl5 hk6 => ?_))
  have hX7 := hX0.step hp4 hl5
  have ho8 : Own eInt 3 G w2 w.heap.size u1 (List.replicate xs.length 0) := ho3.weaken hX0.size
  have hm9 : (List.replicate xs.length 0).length = xs.length := List.length_replicate ..
  refine qd rfl rfl rfl (r_assign (v := u1) rfl) ?_
  refine qe ?_
  refine s_then ?_
  refine s_seq ?_
  refine s_seq ?_
  refine c_reg ?_
  refine qd rfl rfl rfl (r_assign (v := (.int .i64 0)) rfl) ?_
  refine qe ?_
  refine s_then ?_
  refine s_blk ?_
  refine s_loop (fun (k : Nat) (en : Nat → Value) (W : World) => ∃ (env1 : Nat → Value) (j : Nat) (os : List Int), en = (upd (upd (upd (upd env1 0 v) 2 (.slice none 0 0)) 3 u1) 4 (.int .i64 (j : Int))) ∧ k = xs.length - j ∧ Ext noS G w G W ∧ (j ≤ xs.length) ∧ (os = cpy xs j 0) ∧ (os.length = xs.length) ∧ (Own eInt 3 G W w.heap.size u1 (os))) _ ⟨_, 0, List.replicate xs.length 0, (packS (x := 4) (packS (x := 3) (packS (x := 2) (pack1 (x := 0) rfl) rfl) rfl) rfl), rfl, hX7, Nat.zero_le _, cpy_start, (by simp), ho8⟩ ?_
  rintro k10 _ w11 ⟨env1, j, os, rfl, hk12, hX13, hj, hr, hol, hw14⟩
  refine s_seq ?_
  refine s_seq ?_
  refine c_reg ?_
  refine qd rfl rfl rfl (r_move (v := (.int .i64 (j : Int))) rfl) ?_
  refine qd rfl rfl rfl (r_move (v := v) rfl) ?_
  refine qd rfl rfl rfl (run_len Tryd.underlying37 (v := v) rfl hv) ?_
  refine qd rfl rfl rfl (r_lss rfl rfl) ?_
  refine qe ?_
  refine s_then ?_
  refine c_ifd (p := ((j : Int) : Int) < (xs.length : Int)) rfl rfl (fun h15 => ?_) (fun h15 => ?_)
  · skip
    refine wp_skip ?_
    refine s_then ?_
    refine s_seq ?_
    refine s_blk ?_
    refine c_reg ?_
    refine qd rfl rfl rfl (r_move (v := u1) rfl) ?_
    refine qd rfl rfl rfl (r_move (v := (.int .i64 (j : Int))) rfl) ?_
    refine qd rfl rfl rfl (r_move (v := v) rfl) ?_
    refine qd rfl rfl rfl (r_move (v := (.int .i64 (j : Int))) rfl) ?_
    refine qd rfl rfl rfl (run_idx Tryd.underlying37 sz3 (v := v) rfl rfl hv (by omega) (by omega)) ?_
    refine qd rfl rfl rfl (run_load_int (r := xs.getD j 0) rfl ag3 (z := (j : Int)) rfl hv hX13.pins (by omega) (by omega)) ?_
    refine qd rfl rfl rfl (run_idx Tryd.underlying37 sz3 (v := u1) rfl rfl hw14.read (by omega) (by omega)) ?_
    refine q0 rfl rfl rfl (o_set (E := eInt) (v := u1) (u := (.int .i64 (xs.getD j 0))) (z := (j : Int)) (xs.getD j 0) sz3 rfl rfl rfl rfl hX13.pins hw14 (by omega) (by omega) (fun w16 ho17 hp18 hg19 hz20 => ?_))
    have hX21 := hX13.write hp18 hg19 ((lo_own hw14))
    refine qe ?_
    refine s_blkN ?_
    refine s_then ?_
    refine c_reg ?_
    refine qd rfl rfl rfl (r_move (v := (.int .i64 (j : Int))) rfl) ?_
    refine qd rfl rfl rfl (r_add rfl rfl (by omega)) ?_
    refine qd rfl rfl rfl (r_assign (v := (.int .i64 ((j : Int) + 1))) rfl) ?_
    refine qe ?_
    refine s_lopN ?_
    refine ⟨_, ?_, _, rfl, _, j + 1, os.set j (xs.getD j 0), (packS (x := 4) (packS (x := 3) (packS (x := 2) (pack1 (x := 0) rfl) rfl) rfl) rfl), rfl, hX21, (by omega), (by rw [hr]; exact cpy_next 0 (by omega)), ((List.length_set ..).trans hol), ho17⟩
    omega
  refine wp_exit ?_
  refine s_thenE ?_
  refine s_lopE ?_
  refine s_blkE ?_
  refine s_then ?_
  refine s_seq ?_
  refine c_reg ?_
  refine qd rfl rfl rfl (r_move (v := u1) rfl) ?_
  refine qd rfl rfl rfl (r_assign (v := u1) rfl) ?_
  refine qe ?_
  refine s_then ?_
  refine wp_ret ?_
  refine s_ret ?_
  refine c_ret1 (v := u1) rfl rfl rfl ?_
  exact ⟨_, _, rfl, (by rw [cpy_end (by omega)] at hr; rw [← hr]; exact hw14), hX13⟩

theorem toNode_spec {w : World} {G : Pin} {u v : Value} {n : Nd} (hP : Pins G w) (hu : RSl eInt G u n.l) (hv : RSl eInt G v n.r) (hs : n.l.length ≤ 1048576 ∧ n.r.length ≤ 1048576) :
    Calls Tryd.prog 33 [(.agg [u, v].toArray)].toArray w fun e w' => ∃ (u v : Value) (G' : Pin), e = .returned (.agg [u, v].toArray) ∧ RSl eInt G' u n.l ∧ RSl eInt G' v n.r ∧ Ext noS G w G' w' := by
  refine s_enter (n := 13) Tryd.func33 Tryd.ntmps33 rfl rfl ?_
  have hX0 : Ext noS G w G w := Ext.refl hP
  refine s_seq ?_
  refine c_reg ?_
  refine q1 rfl rfl rfl (o_box [u, v] (v := (.agg [u, v].toArray)) rfl rfl hX0.pins (fun b1 w2 hk3 hb4 hp5 hl6 => ?_))
  have hX7 := hX0.step hp5 hl6
  have hlo8 : w.heap.size ≤ b1 := by have := hX0.size; omega
  obtain ⟨G9, hle10, hX11, hbp12, hf13⟩ := hb4.shut hX7 hlo8
  refine q1 rfl rfl rfl (o_alloc [(.slice none 0 0), (.slice none 0 0)] zr44 rfl hX11.pins (fun b14 w15 hk16 hb17 hp18 hl19 => ?_))
  have hX20 := hX11.step hp18 hl19
  have hlo21 : w.heap.size ≤ b14 := by have := hX11.size; omega
  refine qe ?_
  refine s_then ?_
  refine s_seq ?_
  refine c_reg ?_
  refine q1 rfl rfl rfl (o_alloc [(.slice none 0 0), (.slice none 0 0)] zr44 rfl hX20.pins (fun b22 w23 hk24 hb25 hp26 hl27 => ?_))
  have hX28 := hX20.step hp26 hl27
  have hb29 := hb17.below hl27
  have ha30 : Apart (some b22) (some b14) := new_ne_box (congrArg some hk24) hb17.lt
  have hlo31 : w.heap.size ≤ b22 := by have := hX20.size; omega
  refine qe ?_
  refine s_then ?_
  refine s_seq ?_
  refine c_reg ?_
  refine qd rfl rfl rfl (r_fldp (k := 0) rfl Tryd.underlying55 rfl nz37 rfl) ?_
  refine qd rfl rfl rfl (r_ldp1 (u := u) ag37 rfl (hX28.pins _ _ _ (hbp12 0 _ rfl))) ?_
  refine q1 rfl rfl rfl (o_call (vs := [u]) Tryd.func54 nm54 rfl rfl rfl ?_)
  refine Calls.mono (toIntS_spec hX28.pins (hu.mono hle10) (by omega)) ?_
  rintro _ w34 ⟨u32, G33, rfl, ho35, hx36⟩
  refine ⟨_, rfl, ?_⟩
  have hX37 := hX28.tr hx36
  have hb38 := hb29.ext hx36
  have hb39 := hb25.ext hx36
  have ha40 : Apart u32.ownBlock (some b14) := made_ne_box ho35.lt hb29.lt
  have ha41 : Apart u32.ownBlock (some b22) := made_ne_box ho35.lt hb25.lt
  have ho42 : Own eInt 3 G33 w34 w.heap.size u32 n.l := ho35.weaken hX28.size
  refine qd rfl rfl rfl (r_fldp (k := 0) rfl Tryd.underlying44 rfl nz37 rfl) ?_
  refine q0 rfl rfl rfl (o_stp (cs' := [u32, (.slice none 0 0)]) (us := [u32]) (v := u32) sz37 rfl rfl (cells1 ho42.one) (ones1 ho42.one) hX37.pins hb39 (Nat.le_of_ble_eq_true rfl) rfl (fun w43 hb44 hp45 hg46 hz47 => ?_))
  have hX48 := hX37.write hp45 hg46 ((lo_box hlo31))
  have ho49 := ho42.keptA hg46 ha41
  have hb50 := hb38.keptA hg46 ha30.symm
  refine qe ?_
  refine s_then ?_
  refine s_seq ?_
  refine c_reg ?_
  refine qd rfl rfl rfl (r_fldp (k := 1) rfl Tryd.underlying55 rfl nz37 rfl) ?_
  refine qd rfl rfl rfl (r_ldp1 (u := v) ag37 rfl ((Pins.of_le hX48.pins hx36.le) _ _ _ (hbp12 1 _ rfl))) ?_
  refine q1 rfl rfl rfl (o_call (vs := [v]) Tryd.func54 nm54 rfl rfl rfl ?_)
  refine Calls.mono (toIntS_spec hX48.pins (hv.mono (Pin.le_trans hle10 hx36.le)) (by omega)) ?_
  rintro _ w53 ⟨u51, G52, rfl, ho54, hx55⟩
  refine ⟨_, rfl, ?_⟩
  have hX56 := hX48.tr hx55
  have ho57 := ho49.ext hx55
  have hb58 := hb50.ext hx55
  have hb59 := hb44.ext hx55
  have ha60 : Apart u51.ownBlock u32.ownBlock := made_ne_own ho54.lt ho49.lt
  have ha61 : Apart u51.ownBlock (some b14) := made_ne_box ho54.lt hb50.lt
  have ha62 : Apart u51.ownBlock (some b22) := made_ne_box ho54.lt hb44.lt
  have ho63 : Own eInt 3 G52 w53 w.heap.size u51 n.r := ho54.weaken hX48.size
  refine qd rfl rfl rfl (r_fldp (k := 1) rfl Tryd.underlying44 rfl nz37 rfl) ?_
  refine q0 rfl rfl rfl (o_stp (cs' := [u32, u51]) (us := [u51]) (v := u51) sz37 rfl rfl (cells1 ho63.one) (ones1 ho63.one) hX56.pins hb59 (Nat.le_of_ble_eq_true rfl) rfl (fun w64 hb65 hp66 hg67 hz68 => ?_))
  have hX69 := hX56.write hp66 hg67 ((lo_box hlo31))
  have ho70 := ho57.keptA hg67 ha41
  have ho71 := ho63.keptA hg67 ha62
  have hb72 := hb58.keptA hg67 ha30.symm
  refine qe ?_
  refine s_then ?_
  refine s_seq ?_
  refine c_reg ?_
  refine qd rfl rfl rfl (r_ldpA (cs := [u32, u51]) ag44 sz44 rfl (fun j u hj => hb65.cell (by simpa using hj))) ?_
  refine q0 rfl rfl rfl (o_stp (cs' := [u32, u51]) (us := [u32, u51]) (v := (.agg [u32, u51].toArray)) sz44 rfl rfl rfl (ones2 ho70.one ho71.one) hX69.pins hb72 (Nat.le_of_ble_eq_true rfl) rfl (fun w73 hb74 hp75 hg76 hz77 => ?_))
  have hX78 := hX69.write hp75 hg76 ((lo_box hlo21))
  have ho79 := ho70.keptA hg76 ha40
  have ho80 := ho71.keptA hg76 ha61
  refine qe ?_
  refine s_then ?_
  refine wp_ret ?_
  refine s_ret ?_
  refine c_retc (cs := [u32, u51]) rfl rfl rfl ag44 sz44 (fun j u hj => by rw [Nat.zero_add]; exact hb74.cell hj) ?_
  obtain ⟨G82, hle85, hX84, hr83, hf86⟩ := ho79.sealed hX78
  have ho87 := ho80.moreO hle85 hf86 ha60
  obtain ⟨G90, hle93, hX92, hr91, hf94⟩ := ho87.sealed hX84
  exact ⟨_, _, _, rfl, (hr83.mono hle93), hr91, hX92⟩

theorem toNodeS_spec {w : World} {G : Pin} {v : Value} {ns : List Nd} (hP : Pins G w) (hv : RSl eNode G v ns) (hsm : Small ns) :
    Calls Tryd.prog 15 [v].toArray w fun e w' => ∃ (u : Value) (G' : Pin), e = .returned u ∧ RSl eNode G' u ns ∧ Ext noS G w G' w' := by
  refine s_enter (n := 23) Tryd.func15 Tryd.ntmps15 rfl rfl ?_
  have hX0 : Ext noS G w G w := Ext.refl hP
  have hln := hsm.len
  refine s_seq ?_
  refine c_reg ?_
  refine qd rfl rfl rfl (r_assign (v := (.slice none 0 0)) rfl) ?_
  refine qe ?_
  refine s_then ?_
  refine s_seq ?_
  refine c_reg ?_
  refine qd rfl rfl rfl (r_move (v := v) rfl) ?_
  refine qd rfl rfl rfl (run_len Tryd.underlying22 (v := v) rfl hv) ?_
  refine q1 rfl rfl rfl (o_make (E := eNode) (⟨[], []⟩ : Nd) 48 (.agg #[(.slice none 0 0), (.slice none 0 0)]) Tryd.underlying28 mk44 zero_node rfl rfl hX0.pins (by omega) (by omega) (by omega) (fun u1 w2 ho3 hp4 hl5 hk6 => ?_))
  have hX7 := hX0.step hp4 hl5
  have ho8 : Own eNode 44 G w2 w.heap.size u1 (List.replicate ns.length (⟨[], []⟩ : Nd)) := ho3.weaken hX0.size
  have hm9 : (List.replicate ns.length (⟨[], []⟩ : Nd)).length = ns.length := List.length_replicate ..
  refine qd rfl rfl rfl (r_assign (v := u1) rfl) ?_
  refine qe ?_
  refine s_then ?_
  refine s_seq ?_
  refine s_seq ?_
  refine c_reg ?_
  refine qd rfl rfl rfl (r_assign (v := (.int .i64 0)) rfl) ?_
  refine qe ?_
  refine s_then ?_
  refine s_blk ?_
  refine s_loop (fun (k : Nat) (en : Nat → Value) (W : World) => ∃ (env1 : Nat → Value) (j : Nat) (os : List Nd) (GL1 : Pin), en = (upd (upd (upd (upd env1 0 v) 2 (.slice none 0 0)) 3 u1) 4 (.int .i64 (j : Int))) ∧ k = ns.length - j ∧ Ext noS G w GL1 W ∧ Pin.le G GL1 ∧ (j ≤ ns.length) ∧ (os = cpy ns j ⟨[], []⟩) ∧ (os.length = ns.length) ∧ (Own eNode 44 GL1 W w.heap.size u1 (os))) _ ⟨_, 0, List.replicate ns.length (⟨[], []⟩ : Nd), G, (packS (x := 4) (packS (x := 3) (packS (x := 2) (pack1 (x := 0) rfl) rfl) rfl) rfl), rfl, hX7, Pin.le_refl _, Nat.zero_le _, cpy_start, (by simp), ho8⟩ ?_
  rintro k10 _ w11 ⟨env1, j, os, GL1, rfl, hk12, hX13, hlek10, hj, hr, hol, hw14⟩
  refine s_seq ?_
  refine s_seq ?_
  refine c_reg ?_
  refine qd rfl rfl rfl (r_move (v := (.int .i64 (j : Int))) rfl) ?_
  refine qd rfl rfl rfl (r_move (v := v) rfl) ?_
  refine qd rfl rfl rfl (run_len Tryd.underlying22 (v := v) rfl hv) ?_
  refine qd rfl rfl rfl (r_lss rfl rfl) ?_
  refine qe ?_
  refine s_then ?_
  refine c_ifd (p := ((j : Int) : Int) < (ns.length : Int)) rfl rfl (fun h15 => ?_) (fun h15 => ?_)
  · skip
    have hso := hsm.opts j (by omega)
    refine wp_skip ?_
    refine s_then ?_
    refine s_seq ?_
    refine s_blk ?_
    refine c_reg ?_
    refine qd rfl rfl rfl (r_move (v := u1) rfl) ?_
    refine qd rfl rfl rfl (r_move (v := (.int .i64 (j : Int))) rfl) ?_
    refine qd rfl rfl rfl (r_move (v := v) rfl) ?_
    refine qd rfl rfl rfl (r_move (v := (.int .i64 (j : Int))) rfl) ?_
    refine qd rfl rfl rfl (run_idx Tryd.underlying22 sz55 (v := v) rfl rfl hv (by omega) (by omega)) ?_
    obtain ⟨u16, u17, hr18, hr19, hl20⟩ := nm_node (hv.at (z := (j : Int)) (by omega) (by omega)) (j := j) rfl
    have hm21 := hr18.max
    have hm22 := hr19.max
    refine qd rfl rfl rfl (hl20 ag55 sz55 rfl (Pins.of_le hX13.pins hlek10)) ?_
    refine q1 rfl rfl rfl (o_call (vs := [(.agg [u16, u17].toArray)]) Tryd.func33 nm33 rfl rfl rfl ?_)
    refine Calls.mono (toNode_spec (n := ⟨(ns.getD j default).l, (ns.getD j default).r⟩) hX13.pins (hr18.mono hlek10) (hr19.mono hlek10) (by omega)) ?_
    rintro _ w26 ⟨u23, v24, G25, rfl, hr27, hr28, hx29⟩
    refine ⟨_, rfl, ?_⟩
    have hX30 := hX13.tr hx29
    have ho31 := hw14.ext hx29
    refine qd rfl rfl rfl (run_idx Tryd.underlying28 sz44 (v := u1) rfl rfl ho31.read (by omega) (by omega)) ?_
    refine q0 rfl rfl rfl (o_set (E := eNode) (v := u1) (u := (.agg [u23, v24].toArray)) (z := (j : Int)) ((⟨(ns.getD j default).l, (ns.getD j default).r⟩ : Nd)) sz44 rfl rfl rfl ⟨_, _, rfl, hr27, hr28⟩ hX30.pins ho31 (by omega) (by omega) (fun w32 ho33 hp34 hg35 hz36 => ?_))
    have hX37 := hX30.write hp34 hg35 ((lo_own ho31))
    refine qe ?_
    refine s_blkN ?_
    refine s_then ?_
    refine c_reg ?_
    refine qd rfl rfl rfl (r_move (v := (.int .i64 (j : Int))) rfl) ?_
    refine qd rfl rfl rfl (r_add rfl rfl (by omega)) ?_
    refine qd rfl rfl rfl (r_assign (v := (.int .i64 ((j : Int) + 1))) rfl) ?_
    refine qe ?_
    refine s_lopN ?_
    refine ⟨_, ?_, _, rfl, _, j + 1, os.set j (ns.getD j default), G25, (packS (x := 4) (packS (x := 3) (packS (x := 2) (pack1 (x := 0) rfl) rfl) rfl) rfl), rfl, hX37, (Pin.le_trans hlek10 hx29.le), (by omega), (by rw [hr]; exact cpy_next default (by omega)), ((List.length_set ..).trans hol), ho33⟩
    omega
  refine wp_exit ?_
  refine s_thenE ?_
  refine s_lopE ?_
  refine s_blkE ?_
  refine s_then ?_
  refine s_seq ?_
  refine c_reg ?_
  refine qd rfl rfl rfl (r_move (v := u1) rfl) ?_
  refine qd rfl rfl rfl (r_assign (v := u1) rfl) ?_
  refine qe ?_
  refine s_then ?_
  refine wp_ret ?_
  refine s_ret ?_
  refine c_ret1 (v := u1) rfl rfl rfl ?_
  obtain ⟨G38, hle41, hX40, hr39, hf42⟩ := hw14.sealed hX13
  exact ⟨_, _, rfl, (by rw [cpy_end (by omega)] at hr; rw [← hr]; exact hr39), hX40⟩

theorem toForm_spec {w : World} {G : Pin} {v : Value} {ns : List Nd} (hP : Pins G w) (hv : RSl eNode G v ns) (hsm : Small ns) :
    Calls Tryd.prog 6 [(.agg [v].toArray)].toArray w fun e w' => ∃ (u : Value) (G' : Pin), e = .returned (.agg [u].toArray) ∧ RSl eNode G' u ns ∧ Ext noS G w G' w' := by
  refine s_enter (n := 9) Tryd.func6 Tryd.ntmps6 rfl rfl ?_
  have hX0 : Ext noS G w G w := Ext.refl hP
  refine s_seq ?_
  refine c_reg ?_
  refine q1 rfl rfl rfl (o_box [v] (v := (.agg [v].toArray)) rfl rfl hX0.pins (fun b1 w2 hk3 hb4 hp5 hl6 => ?_))
  have hX7 := hX0.step hp5 hl6
  have hlo8 : w.heap.size ≤ b1 := by have := hX0.size; omega
  obtain ⟨G9, hle10, hX11, hbp12, hf13⟩ := hb4.shut hX7 hlo8
  refine q1 rfl rfl rfl (o_alloc [(.slice none 0 0)] zr30 rfl hX11.pins (fun b14 w15 hk16 hb17 hp18 hl19 => ?_))
  have hX20 := hX11.step hp18 hl19
  have hlo21 : w.heap.size ≤ b14 := by have := hX11.size; omega
  refine qe ?_
  refine s_then ?_
  refine s_seq ?_
  refine c_reg ?_
  refine q1 rfl rfl rfl (o_alloc [(.slice none 0 0)] zr30 rfl hX20.pins (fun b22 w23 hk24 hb25 hp26 hl27 => ?_))
  have hX28 := hX20.step hp26 hl27
  have hb29 := hb17.below hl27
  have ha30 : Apart (some b22) (some b14) := new_ne_box (congrArg some hk24) hb17.lt
  have hlo31 : w.heap.size ≤ b22 := by have := hX20.size; omega
  refine qe ?_
  refine s_then ?_
  refine s_seq ?_
  refine c_reg ?_
  refine qd rfl rfl rfl (r_fldp (k := 0) rfl Tryd.underlying24 rfl nz22 rfl) ?_
  refine qd rfl rfl rfl (r_ldp1 (u := v) ag22 rfl (hX28.pins _ _ _ (hbp12 0 _ rfl))) ?_
  refine q1 rfl rfl rfl (o_call (vs := [v]) Tryd.func15 nm15 rfl rfl rfl ?_)
  refine Calls.mono (toNodeS_spec hX28.pins (hv.mono hle10) hsm) ?_
  rintro _ w34 ⟨u32, G33, rfl, hr35, hx36⟩
  refine ⟨_, rfl, ?_⟩
  have hX37 := hX28.tr hx36
  have hb38 := hb29.ext hx36
  have hb39 := hb25.ext hx36
  refine qd rfl rfl rfl (r_fldp (k := 0) rfl Tryd.underlying30 rfl nz28 rfl) ?_
  refine q0 rfl rfl rfl (o_stp (cs' := [u32]) (us := [u32]) (v := u32) sz28 rfl rfl (cells1 hr35.one) (ones1 hr35.one) hX37.pins hb39 (Nat.le_of_ble_eq_true rfl) rfl (fun w40 hb41 hp42 hg43 hz44 => ?_))
  have hX45 := hX37.write hp42 hg43 ((lo_box hlo31))
  have hb46 := hb38.keptA hg43 ha30.symm
  refine qe ?_
  refine s_then ?_
  refine s_seq ?_
  refine c_reg ?_
  refine qd rfl rfl rfl (r_ldpA (cs := [u32]) ag30 sz30 rfl (fun j u hj => hb41.cell (by simpa using hj))) ?_
  refine q0 rfl rfl rfl (o_stp (cs' := [u32]) (us := [u32]) (v := (.agg [u32].toArray)) sz30 rfl rfl rfl (ones1 hr35.one) hX45.pins hb46 (Nat.le_of_ble_eq_true rfl) rfl (fun w47 hb48 hp49 hg50 hz51 => ?_))
  have hX52 := hX45.write hp49 hg50 ((lo_box hlo21))
  refine qe ?_
  refine s_then ?_
  refine wp_ret ?_
  refine s_ret ?_
  refine c_retc (cs := [u32]) rfl rfl rfl ag30 sz30 (fun j u hj => by rw [Nat.zero_add]; exact hb48.cell hj) ?_
  exact ⟨_, _, rfl, hr35, hX52⟩

theorem eqIntS_spec {w : World} {G : Pin} {u v : Value} {xs ys : List Int} (hP : Pins G w) (hu : RSl eInt G u xs) (hv : RSl eInt G v ys) :
    Calls Tryd.prog 63 [u, v].toArray w fun e w' => e = .returned (.bool (decide (xs = ys))) ∧ Ext noS G w G w' := by
  refine s_enter (n := 26) Tryd.func63 Tryd.ntmps63 rfl rfl ?_
  have hX0 : Ext noS G w G w := Ext.refl hP
  have hm := hu.max
  refine s_seq ?_
  refine c_reg ?_
  refine qd rfl rfl rfl (r_assign (v := (.bool false)) rfl) ?_
  refine qe ?_
  refine s_then ?_
  refine s_seq ?_
  refine s_seq ?_
  refine c_reg ?_
  refine qd rfl rfl rfl (r_move (v := u) rfl) ?_
  refine qd rfl rfl rfl (run_len Tryd.underlying37 (v := u) rfl hu) ?_
  refine qd rfl rfl rfl (r_move (v := v) rfl) ?_
  refine qd rfl rfl rfl (run_len Tryd.underlying37 (v := v) rfl hv) ?_
  refine qd rfl rfl rfl (r_neq rfl rfl) ?_
  refine qe ?_
  refine s_then ?_
  refine c_ifd (p := ((xs.length : Int) : Int) ≠ (ys.length : Int)) rfl rfl (fun h1 => ?_) (fun h1 => ?_)
  · skip
    refine s_seq ?_
    refine c_reg ?_
    refine qd rfl rfl rfl (r_assign (v := (.bool false)) rfl) ?_
    refine qe ?_
    refine s_then ?_
    refine wp_ret ?_
    refine s_ret ?_
    refine c_ret1 (v := (.bool false)) rfl rfl rfl ?_
    exact ⟨congrArg (fun z => Ending.returned (Value.bool z)) ((decide_eq_false (fun e => h1 (by rw [e]))).symm), hX0⟩
  refine wp_skip ?_
  refine s_then ?_
  refine s_seq ?_
  refine s_seq ?_
  refine c_reg ?_
  refine qd rfl rfl rfl (r_assign (v := (.int .i64 0)) rfl) ?_
  refine qe ?_
  refine s_then ?_
  refine s_blk ?_
  refine s_loop (fun (k : Nat) (en : Nat → Value) (W : World) => ∃ (env1 : Nat → Value) (j : Nat), en = (upd (upd (upd env1 0 u) 1 v) 5 (.int .i64 (j : Int))) ∧ k = xs.length - j ∧ Ext noS G w G W ∧ (j ≤ xs.length) ∧ (xs.length = ys.length) ∧ (∀ i, i < j → xs.getD i 0 = ys.getD i 0)) _ ⟨_, 0, (packS (x := 5) (packS (x := 1) (pack1 (x := 0) rfl) rfl) rfl), rfl, hX0, Nat.zero_le _, (by omega), (fun i hi => absurd hi (Nat.not_lt_zero i))⟩ ?_
  rintro k2 _ w3 ⟨env1, j, rfl, hk4, hX5, hj, heq, hp⟩
  refine s_seq ?_
  refine s_seq ?_
  refine c_reg ?_
  refine qd rfl rfl rfl (r_move (v := (.int .i64 (j : Int))) rfl) ?_
  refine qd rfl rfl rfl (r_move (v := u) rfl) ?_
  refine qd rfl rfl rfl (run_len Tryd.underlying37 (v := u) rfl hu) ?_
  refine qd rfl rfl rfl (r_lss rfl rfl) ?_
  refine qe ?_
  refine s_then ?_
  refine c_ifd (p := ((j : Int) : Int) < (xs.length : Int)) rfl rfl (fun h6 => ?_) (fun h6 => ?_)
  · skip
    refine wp_skip ?_
    refine s_then ?_
    refine s_seq ?_
    refine s_blk ?_
    refine s_seq ?_
    refine c_draw (S := fun wz => Pins G wz) (last := 9) (by kernel_rfl) rfl ?_
    have hl7 : Below w3.heap.size w3 w3.drew := (Below.refl _ _).drew
    have hp8 := hX5.pins.below hl7
    have hX9 := hX5.step hp8 hl7
    refine dr_take (i := 0) rfl rfl rfl (want_none rfl _) (by kernel_rfl) (fun _ _ => r_move (v := u) rfl) hX9.pins ?_
    refine dr_take (i := 1) rfl rfl rfl (want_none rfl _) (by kernel_rfl) (fun _ _ => r_move (v := (.int .i64 (j : Int))) rfl) hX9.pins ?_
    refine dr_take (i := 2) rfl rfl rfl (want_none rfl _) (by kernel_rfl) (fun _ _ => run_idx Tryd.underlying37 sz3 (v := u) rfl rfl hu (by omega) (by omega)) hX9.pins ?_
    refine dr_take (i := 3) rfl rfl rfl (want_none rfl _) (by kernel_rfl) (fun _ hS => run_load_int (r := xs.getD j 0) rfl ag3 (z := (j : Int)) rfl hu hS (by omega) (by omega)) hX9.pins ?_
    refine dr_take (i := 4) rfl rfl rfl (want_none rfl _) (by kernel_rfl) (fun _ _ => r_move (v := v) rfl) hX9.pins ?_
    refine dr_take (i := 5) rfl rfl rfl (want_none rfl _) (by kernel_rfl) (fun _ _ => r_move (v := (.int .i64 (j : Int))) rfl) hX9.pins ?_
    refine dr_take (i := 6) rfl rfl rfl (want_none rfl _) (by kernel_rfl) (fun _ _ => run_idx Tryd.underlying37 sz3 (v := v) rfl rfl hv (by omega) (by omega)) hX9.pins ?_
    refine dr_take (i := 7) rfl rfl rfl (want_none rfl _) (by kernel_rfl) (fun _ hS => run_load_int (r := ys.getD j 0) rfl ag3 (z := (j : Int)) rfl hv hS (by omega) (by omega)) hX9.pins ?_
    refine dr_take (i := 8) rfl rfl rfl (want_none rfl _) (by kernel_rfl) (fun _ _ => r_neq rfl rfl) hX9.pins ?_
    refine dr_end (by kernel_rfl) ?_
    refine s_then ?_
    refine c_ifd (p := (xs.getD j 0 : Int) ≠ (ys.getD j 0)) rfl rfl (fun h10 => ?_) (fun h10 => ?_)
    · skip
      refine s_seq ?_
      refine c_reg ?_
      refine qd rfl rfl rfl (r_assign (v := (.bool false)) rfl) ?_
      refine qe ?_
      refine s_then ?_
      refine wp_ret ?_
      refine s_ret ?_
      refine c_ret1 (v := (.bool false)) rfl rfl rfl ?_
      exact ⟨congrArg (fun z => Ending.returned (Value.bool z)) ((decide_eq_false (fun e => h10 (by rw [e]))).symm), hX9⟩
    refine wp_skip ?_
    refine s_blkN ?_
    refine s_then ?_
    refine c_reg ?_
    refine qd rfl rfl rfl (r_move (v := (.int .i64 (j : Int))) rfl) ?_
    refine qd rfl rfl rfl (r_add rfl rfl (by omega)) ?_
    refine qd rfl rfl rfl (r_assign (v := (.int .i64 ((j : Int) + 1))) rfl) ?_
    refine qe ?_
    refine s_lopN ?_
    refine ⟨_, ?_, _, rfl, _, j + 1, (packS (x := 5) (packS (x := 1) (pack1 (x := 0) rfl) rfl) rfl), rfl, hX9, (by omega), heq, (eqstep hp h10)⟩
    omega
  refine wp_exit ?_
  refine s_thenE ?_
  refine s_lopE ?_
  refine s_blkE ?_
  refine s_then ?_
  refine s_seq ?_
  refine c_reg ?_
  refine qd rfl rfl rfl (r_assign (v := (.bool true)) rfl) ?_
  refine qe ?_
  refine s_then ?_
  refine wp_ret ?_
  refine s_ret ?_
  refine c_ret1 (v := (.bool true)) rfl rfl rfl ?_
  exact ⟨congrArg (fun z => Ending.returned (Value.bool z)) ((decide_eq_true (eqdone heq (by omega) hp)).symm), hX5⟩

theorem eqNode_spec {w : World} {G : Pin} {al ar bl br : Value} {a b : Nd} (hP : Pins G w) (hal : RSl eInt G al a.l) (har : RSl eInt G ar a.r) (hbl : RSl eInt G bl b.l) (hbr : RSl eInt G br b.r) :
    Calls Tryd.prog 44 [(.agg [al, ar].toArray), (.agg [bl, br].toArray)].toArray w fun e w' => ∃ G', e = .returned (.bool (decide (a = b))) ∧ Ext noS G w G' w' := by
  refine s_enter (n := 17) Tryd.func44 Tryd.ntmps44 rfl rfl ?_
  have hX0 : Ext noS G w G w := Ext.refl hP
  refine s_seq ?_
  refine c_reg ?_
  refine q1 rfl rfl rfl (o_box [al, ar] (v := (.agg [al, ar].toArray)) rfl rfl hX0.pins (fun b1 w2 hk3 hb4 hp5 hl6 => ?_))
  have hX7 := hX0.step hp5 hl6
  have hlo8 : w.heap.size ≤ b1 := by have := hX0.size; omega
  obtain ⟨G9, hle10, hX11, hbp12, hf13⟩ := hb4.shut hX7 hlo8
  refine q1 rfl rfl rfl (o_box [bl, br] (v := (.agg [bl, br].toArray)) rfl rfl hX11.pins (fun b14 w15 hk16 hb17 hp18 hl19 => ?_))
  have hX20 := hX11.step hp18 hl19
  have hlo21 : w.heap.size ≤ b14 := by have := hX11.size; omega
  obtain ⟨G22, hle23, hX24, hbp25, hf26⟩ := hb17.shut hX20 hlo21
  refine qd rfl rfl rfl (r_assign (v := (.bool false)) rfl) ?_
  refine qe ?_
  refine s_then ?_
  refine s_seq ?_
  refine s_seq ?_
  refine c_reg ?_
  refine qd rfl rfl rfl (r_fldp (k := 0) rfl Tryd.underlying44 rfl nz37 rfl) ?_
  refine qd rfl rfl rfl (r_ldp1 (u := al) ag37 rfl ((Pins.of_le hX24.pins hle23) _ _ _ (hbp12 0 _ rfl))) ?_
  refine qd rfl rfl rfl (r_fldp (k := 0) rfl Tryd.underlying44 rfl nz37 rfl) ?_
  refine qd rfl rfl rfl (r_ldp1 (u := bl) ag37 rfl (hX24.pins _ _ _ (hbp25 0 _ rfl))) ?_
  refine q1 rfl rfl rfl (o_call (vs := [al, bl]) Tryd.func63 nm63 rfl rfl rfl ?_)
  refine Calls.mono (eqIntS_spec hX24.pins (hal.mono (Pin.le_trans hle10 hle23)) (hbl.mono (Pin.le_trans hle10 hle23))) ?_
  rintro _ w27 ⟨rfl, hx28⟩
  refine ⟨_, rfl, ?_⟩
  have hX29 := hX24.step hx28.pins hx28.below
  refine qd rfl rfl rfl (r_not rfl) ?_
  refine qe ?_
  refine s_then ?_
  refine c_ifn rfl rfl (fun h30 => ?_) (fun h30 => ?_)
  · skip
    replace h30 := of_decide_eq_true h30
    refine wp_skip ?_
    refine s_then ?_
    refine s_seq ?_
    refine s_seq ?_
    refine c_reg ?_
    refine qd rfl rfl rfl (r_fldp (k := 1) rfl Tryd.underlying44 rfl nz37 rfl) ?_
    refine qd rfl rfl rfl (r_ldp1 (u := ar) ag37 rfl ((Pins.of_le hX29.pins hle23) _ _ _ (hbp12 1 _ rfl))) ?_
    refine qd rfl rfl rfl (r_fldp (k := 1) rfl Tryd.underlying44 rfl nz37 rfl) ?_
    refine qd rfl rfl rfl (r_ldp1 (u := br) ag37 rfl (hX29.pins _ _ _ (hbp25 1 _ rfl))) ?_
    refine q1 rfl rfl rfl (o_call (vs := [ar, br]) Tryd.func63 nm63 rfl rfl rfl ?_)
    refine Calls.mono (eqIntS_spec hX29.pins (har.mono (Pin.le_trans hle10 hle23)) (hbr.mono (Pin.le_trans hle10 hle23))) ?_
    rintro _ w31 ⟨rfl, hx32⟩
    refine ⟨_, rfl, ?_⟩
    have hX33 := hX29.step hx32.pins hx32.below
    refine qd rfl rfl rfl (r_not rfl) ?_
    refine qe ?_
    refine s_then ?_
    refine c_ifn rfl rfl (fun h34 => ?_) (fun h34 => ?_)
    · skip
      replace h34 := of_decide_eq_true h34
      refine wp_skip ?_
      refine s_then ?_
      refine s_seq ?_
      refine c_reg ?_
      refine qd rfl rfl rfl (r_assign (v := (.bool true)) rfl) ?_
      refine qe ?_
      refine s_then ?_
      refine wp_ret ?_
      refine s_ret ?_
      refine c_ret1 (v := (.bool true)) rfl rfl rfl ?_
      exact ⟨_, congrArg (fun z => Ending.returned (Value.bool z)) (decide_eq_true (nd_ext h30 h34)).symm, hX33⟩
    replace h34 := of_decide_eq_false h34
    refine s_seq ?_
    refine c_reg ?_
    refine qd rfl rfl rfl (r_assign (v := (.bool false)) rfl) ?_
    refine qe ?_
    refine s_then ?_
    refine wp_ret ?_
    refine s_ret ?_
    refine c_ret1 (v := (.bool false)) rfl rfl rfl ?_
    exact ⟨_, congrArg (fun z => Ending.returned (Value.bool z)) (decide_eq_false (fun e => h34 (by rw [e]))).symm, hX33⟩
  replace h30 := of_decide_eq_false h30
  refine s_seq ?_
  refine c_reg ?_
  refine qd rfl rfl rfl (r_assign (v := (.bool false)) rfl) ?_
  refine qe ?_
  refine s_then ?_
  refine wp_ret ?_
  refine s_ret ?_
  refine c_ret1 (v := (.bool false)) rfl rfl rfl ?_
  exact ⟨_, congrArg (fun z => Ending.returned (Value.bool z)) (decide_eq_false (fun e => h30 (by rw [e]))).symm, hX29⟩

theorem eqNodeS_spec {w : World} {G : Pin} {u v : Value} {xs ys : List Nd} (hP : Pins G w) (hu : RSl eNode G u xs) (hv : RSl eNode G v ys) :
    Calls Tryd.prog 20 [u, v].toArray w fun e w' => ∃ G', e = .returned (.bool (decide (xs = ys))) ∧ Ext noS G w G' w' := by
  refine s_enter (n := 27) Tryd.func20 Tryd.ntmps20 rfl rfl ?_
  have hX0 : Ext noS G w G w := Ext.refl hP
  have hm := hu.max
  refine s_seq ?_
  refine c_reg ?_
  refine qd rfl rfl rfl (r_assign (v := (.bool false)) rfl) ?_
  refine qe ?_
  refine s_then ?_
  refine s_seq ?_
  refine s_seq ?_
  refine c_reg ?_
  refine qd rfl rfl rfl (r_move (v := u) rfl) ?_
  refine qd rfl rfl rfl (run_len Tryd.underlying28 (v := u) rfl hu) ?_
  refine qd rfl rfl rfl (r_move (v := v) rfl) ?_
  refine qd rfl rfl rfl (run_len Tryd.underlying28 (v := v) rfl hv) ?_
  refine qd rfl rfl rfl (r_neq rfl rfl) ?_
  refine qe ?_
  refine s_then ?_
  refine c_ifd (p := ((xs.length : Int) : Int) ≠ (ys.length : Int)) rfl rfl (fun h1 => ?_) (fun h1 => ?_)
  · skip
    refine s_seq ?_
    refine c_reg ?_
    refine qd rfl rfl rfl (r_assign (v := (.bool false)) rfl) ?_
    refine qe ?_
    refine s_then ?_
    refine wp_ret ?_
    refine s_ret ?_
    refine c_ret1 (v := (.bool false)) rfl rfl rfl ?_
    exact ⟨_, congrArg (fun z => Ending.returned (Value.bool z)) (decide_eq_false (fun e => h1 (by rw [e]))).symm, hX0⟩
  refine wp_skip ?_
  refine s_then ?_
  refine s_seq ?_
  refine s_seq ?_
  refine c_reg ?_
  refine qd rfl rfl rfl (r_assign (v := (.int .i64 0)) rfl) ?_
  refine qe ?_
  refine s_then ?_
  refine s_blk ?_
  refine s_loop (fun (k : Nat) (en : Nat → Value) (W : World) => ∃ (env1 : Nat → Value) (j : Nat) (GL1 : Pin), en = (upd (upd (upd env1 0 u) 1 v) 5 (.int .i64 (j : Int))) ∧ k = xs.length - j ∧ Ext noS G w GL1 W ∧ Pin.le G GL1 ∧ (j ≤ xs.length) ∧ (xs.length = ys.length) ∧ (∀ i, i < j → xs.getD i default = ys.getD i default)) _ ⟨_, 0, G, (packS (x := 5) (packS (x := 1) (pack1 (x := 0) rfl) rfl) rfl), rfl, hX0, Pin.le_refl _, Nat.zero_le _, (by omega), (fun i hi => absurd hi (Nat.not_lt_zero i))⟩ ?_
  rintro k2 _ w3 ⟨env1, j, GL1, rfl, hk4, hX5, hlek2, hj, heq, hp⟩
  refine s_seq ?_
  refine s_seq ?_
  refine c_reg ?_
  refine qd rfl rfl rfl (r_move (v := (.int .i64 (j : Int))) rfl) ?_
  refine qd rfl rfl rfl (r_move (v := u) rfl) ?_
  refine qd rfl rfl rfl (run_len Tryd.underlying28 (v := u) rfl hu) ?_
  refine qd rfl rfl rfl (r_lss rfl rfl) ?_
  refine qe ?_
  refine s_then ?_
  refine c_ifd (p := ((j : Int) : Int) < (xs.length : Int)) rfl rfl (fun h6 => ?_) (fun h6 => ?_)
  · skip
    refine wp_skip ?_
    refine s_then ?_
    refine s_seq ?_
    refine s_blk ?_
    refine s_seq ?_
    refine c_draw (S := fun wz => Pins GL1 wz) (last := 10) (by kernel_rfl) rfl ?_
    have hl7 : Below w3.heap.size w3 w3.drew := (Below.refl _ _).drew
    have hp8 := hX5.pins.below hl7
    have hX9 := hX5.step hp8 hl7
    refine dr_take (i := 0) rfl rfl rfl (want_none rfl _) (by kernel_rfl) (fun _ _ => r_move (v := u) rfl) hX9.pins ?_
    refine dr_take (i := 1) rfl rfl rfl (want_none rfl _) (by kernel_rfl) (fun _ _ => r_move (v := (.int .i64 (j : Int))) rfl) hX9.pins ?_
    refine dr_take (i := 2) rfl rfl rfl (want_none rfl _) (by kernel_rfl) (fun _ _ => run_idx Tryd.underlying28 sz44 (v := u) rfl rfl hu (by omega) (by omega)) hX9.pins ?_
    obtain ⟨u10, u11, hr12, hr13, hl14⟩ := nm_node (hu.at (z := (j : Int)) (by omega) (by omega)) (j := j) rfl
    have hm15 := hr12.max
    have hm16 := hr13.max
    refine dr_take (i := 3) rfl rfl rfl (want_none rfl _) (by kernel_rfl) (fun _ hS => hl14 ag44 sz44 rfl (Pins.of_le hS hlek2)) hX9.pins ?_
    refine dr_take (i := 4) rfl rfl rfl (want_none rfl _) (by kernel_rfl) (fun _ _ => r_move (v := v) rfl) hX9.pins ?_
    refine dr_take (i := 5) rfl rfl rfl (want_none rfl _) (by kernel_rfl) (fun _ _ => r_move (v := (.int .i64 (j : Int))) rfl) hX9.pins ?_
    refine dr_take (i := 6) rfl rfl rfl (want_none rfl _) (by kernel_rfl) (fun _ _ => run_idx Tryd.underlying28 sz44 (v := v) rfl rfl hv (by omega) (by omega)) hX9.pins ?_
    obtain ⟨u17, u18, hr19, hr20, hl21⟩ := nm_node (hv.at (z := (j : Int)) (by omega) (by omega)) (j := j) rfl
    have hm22 := hr19.max
    have hm23 := hr20.max
    refine dr_take (i := 7) rfl rfl rfl (want_none rfl _) (by kernel_rfl) (fun _ hS => hl21 ag44 sz44 rfl (Pins.of_le hS hlek2)) hX9.pins ?_
    refine dr_one (i := 8) (by kernel_rfl) (drOp1 (i := 8) rfl rfl rfl (want_none rfl _) (o_call (vs := [(.agg [u10, u11].toArray), (.agg [u17, u18].toArray)]) Tryd.func44 nm44 rfl rfl rfl ?_))
    refine Calls.mono (eqNode_spec (a := ⟨(xs.getD j default).l, (xs.getD j default).r⟩) (b := ⟨(ys.getD j default).l, (ys.getD j default).r⟩) hX9.pins (hr12.mono hlek2) (hr13.mono hlek2) (hr19.mono hlek2) (hr20.mono hlek2)) ?_
    rintro _ w25 ⟨G24, rfl, hx26⟩
    refine ⟨_, rfl, ?_⟩
    have hX27 := hX9.tr hx26
    refine ⟨fun _ => (Pins.of_le hX27.pins hx26.le), ?_⟩
    refine dr_take (i := 9) rfl rfl rfl (want_none rfl _) (by kernel_rfl) (fun _ _ => r_not rfl) (Pins.of_le hX27.pins hx26.le) ?_
    refine dr_end (by kernel_rfl) ?_
    refine s_then ?_
    refine c_ifn rfl rfl (fun h28 => ?_) (fun h28 => ?_)
    · skip
      replace h28 := of_decide_eq_true h28
      refine wp_skip ?_
      refine s_blkN ?_
      refine s_then ?_
      refine c_reg ?_
      refine qd rfl rfl rfl (r_move (v := (.int .i64 (j : Int))) rfl) ?_
      refine qd rfl rfl rfl (r_add rfl rfl (by omega)) ?_
      refine qd rfl rfl rfl (r_assign (v := (.int .i64 ((j : Int) + 1))) rfl) ?_
      refine qe ?_
      refine s_lopN ?_
      refine ⟨_, ?_, _, rfl, _, j + 1, G24, (packS (x := 5) (packS (x := 1) (pack1 (x := 0) rfl) rfl) rfl), rfl, hX27, (Pin.le_trans hlek2 hx26.le), (by omega), heq, (eqstepN hp (congrArg Nd.l h28) (congrArg Nd.r h28))⟩
      omega
    replace h28 := of_decide_eq_false h28
    refine s_seq ?_
    refine c_reg ?_
    refine qd rfl rfl rfl (r_assign (v := (.bool false)) rfl) ?_
    refine qe ?_
    refine s_then ?_
    refine wp_ret ?_
    refine s_ret ?_
    refine c_ret1 (v := (.bool false)) rfl rfl rfl ?_
    exact ⟨_, congrArg (fun z => Ending.returned (Value.bool z)) (decide_eq_false (fun e => h28 (by rw [e]))).symm, hX27⟩
  refine wp_exit ?_
  refine s_thenE ?_
  refine s_lopE ?_
  refine s_blkE ?_
  refine s_then ?_
  refine s_seq ?_
  refine c_reg ?_
  refine qd rfl rfl rfl (r_assign (v := (.bool true)) rfl) ?_
  refine qe ?_
  refine s_then ?_
  refine wp_ret ?_
  refine s_ret ?_
  refine c_ret1 (v := (.bool true)) rfl rfl rfl ?_
  exact ⟨_, congrArg (fun z => Ending.returned (Value.bool z)) (decide_eq_true (eqdoneN heq (by omega) hp)).symm, hX5⟩

theorem eqForm_spec {w : World} {G : Pin} {u v : Value} {xs ys : List Nd} (hP : Pins G w) (hu : RSl eNode G u xs) (hv : RSl eNode G v ys) :
    Calls Tryd.prog 8 [(.agg [u].toArray), (.agg [v].toArray)].toArray w fun e w' => ∃ G', e = .returned (.bool (decide (xs = ys))) ∧ Ext noS G w G' w' := by
  refine s_enter (n := 11) Tryd.func8 Tryd.ntmps8 rfl rfl ?_
  have hX0 : Ext noS G w G w := Ext.refl hP
  refine s_seq ?_
  refine c_reg ?_
  refine q1 rfl rfl rfl (o_box [u] (v := (.agg [u].toArray)) rfl rfl hX0.pins (fun b1 w2 hk3 hb4 hp5 hl6 => ?_))
  have hX7 := hX0.step hp5 hl6
  have hlo8 : w.heap.size ≤ b1 := by have := hX0.size; omega
  obtain ⟨G9, hle10, hX11, hbp12, hf13⟩ := hb4.shut hX7 hlo8
  refine q1 rfl rfl rfl (o_box [v] (v := (.agg [v].toArray)) rfl rfl hX11.pins (fun b14 w15 hk16 hb17 hp18 hl19 => ?_))
  have hX20 := hX11.step hp18 hl19
  have hlo21 : w.heap.size ≤ b14 := by have := hX11.size; omega
  obtain ⟨G22, hle23, hX24, hbp25, hf26⟩ := hb17.shut hX20 hlo21
  refine qd rfl rfl rfl (r_assign (v := (.bool false)) rfl) ?_
  refine qe ?_
  refine s_then ?_
  refine s_seq ?_
  refine s_seq ?_
  refine c_reg ?_
  refine qd rfl rfl rfl (r_fldp (k := 0) rfl Tryd.underlying30 rfl nz28 rfl) ?_
  refine qd rfl rfl rfl (r_ldp1 (u := u) ag28 rfl ((Pins.of_le hX24.pins hle23) _ _ _ (hbp12 0 _ rfl))) ?_
  refine qd rfl rfl rfl (r_fldp (k := 0) rfl Tryd.underlying30 rfl nz28 rfl) ?_
  refine qd rfl rfl rfl (r_ldp1 (u := v) ag28 rfl (hX24.pins _ _ _ (hbp25 0 _ rfl))) ?_
  refine q1 rfl rfl rfl (o_call (vs := [u, v]) Tryd.func20 nm20 rfl rfl rfl ?_)
  refine Calls.mono (eqNodeS_spec hX24.pins (hu.mono (Pin.le_trans hle10 hle23)) (hv.mono (Pin.le_trans hle10 hle23))) ?_
  rintro _ w28 ⟨G27, rfl, hx29⟩
  refine ⟨_, rfl, ?_⟩
  have hX30 := hX24.tr hx29
  refine qd rfl rfl rfl (r_not rfl) ?_
  refine qe ?_
  refine s_then ?_
  refine c_ifn rfl rfl (fun h31 => ?_) (fun h31 => ?_)
  · skip
    replace h31 := of_decide_eq_true h31
    refine wp_skip ?_
    refine s_then ?_
    refine s_seq ?_
    refine c_reg ?_
    refine qd rfl rfl rfl (r_assign (v := (.bool true)) rfl) ?_
    refine qe ?_
    refine s_then ?_
    refine wp_ret ?_
    refine s_ret ?_
    refine c_ret1 (v := (.bool true)) rfl rfl rfl ?_
    exact ⟨_, congrArg (fun z => Ending.returned (Value.bool z)) (decide_eq_true h31).symm, hX30⟩
  replace h31 := of_decide_eq_false h31
  refine s_seq ?_
  refine c_reg ?_
  refine qd rfl rfl rfl (r_assign (v := (.bool false)) rfl) ?_
  refine qe ?_
  refine s_then ?_
  refine wp_ret ?_
  refine s_ret ?_
  refine c_ret1 (v := (.bool false)) rfl rfl rfl ?_
  exact ⟨_, congrArg (fun z => Ending.returned (Value.bool z)) (decide_eq_false h31).symm, hX30⟩

end L1
end Go.Proofs.YtfkompdmejpmmaaDoor

/- Walks, printed by a program (walkgen.py) from the spec specs_ds. -/
set_option maxRecDepth 20000
set_option maxHeartbeats 2000000
namespace Go.Proofs.YtfkompdmejpmmaaDoor
namespace DS1
open Go.RowKit Go.GL Go.Proofs
open Go.Proofs.YtfkompdmejpmmaaDoor.B1
open Go.Proofs.YtfkompdmejpmmaaDoor.C1
open Go.Proofs.YtfkompdmejpmmaaDoor.D1
open Go.Proofs.YtfkompdmejpmmaaDoor.E1
open Go.Proofs.YtfkompdmejpmmaaDoor.OR1
theorem ag3 : (Tryd.prog.underlying 3).map aggD = some false := by kernel_rfl
theorem nm29 : (Tryd.f29.name == "runtime.NumGoroutine") = false := by kernel_rfl
theorem nm30 : (Tryd.f30.name == "runtime.NumGoroutine") = false := by kernel_rfl
theorem sz3 : (Tryd.prog.info? 3).map (·.size) = some 1 := by kernel_rfl

theorem l6Dominated_spec {w : World} {G : Pin} {o b : Nat} {bu bv kv : Value} {ns : List Nd} {bs : List Int} {ks : List Int} {x : Value} {xs : List Int} {lf : Bool} (hP : Pins G w) (hO : Od 44 3 G w o b bu bv kv ns bs ks) (hx : RSl eInt G x xs) (hxl : xs.length ≤ 1048576) (hpl : ∀ i, i < xs.length → 0 ≤ xs.getD i 0 ∧ xs.getD i 0 < ns.length) (hok : BookOk ns bs) (hka : KAll ns ks) :
    Calls Tryd.prog 13 [(.pointer (some ⟨o, 0, none⟩)), x, (.bool lf)].toArray w fun e w' => ∃ (u : Value) (ks' : List Int) (G' : Pin), e = .returned u ∧ RSl eInt G' u (domL (gN ns xs) lf xs.length xs.length) ∧ Od 44 3 G' w' o b bu bv kv ns bs ks' ∧ KAll ns ks' ∧ Ext (inO kv.ownBlock) G w G' w' := by
  refine s_enter (n := 68) Tryd.func13 Tryd.ntmps13 rfl rfl ?_
  have hX0 : Ext (inO kv.ownBlock) G w G w := Ext.refl hP
  have hB := hO.bk
  have hbx := hB.bx
  have hou := hB.ou
  have hov := hB.ov
  have habu := hB.abu
  have habv := hB.abv
  have hauv := hB.auv
  have hlen := hok.len
  have hlim := hok.lim
  have hox := hO.ox
  have hok2 := hO.ok
  have haok := hO.aok
  have habk := hO.abk
  have hauk := hO.auk
  have havk := hO.avk
  have hlok : Lo w (inO kv.ownBlock) kv.ownBlock := lo_self
  have hoo : OptsOk ns := hok.optsOk
  have hlens := hok.lens
  have hxm := hx.max
  refine s_seq ?_
  refine c_reg ?_
  refine qd rfl rfl rfl (r_assign (v := (.slice none 0 0)) rfl) ?_
  refine qe ?_
  refine s_then ?_
  refine s_seq ?_
  refine c_reg ?_
  refine q1 rfl rfl rfl (o_build0 (E := eInt) (e := 3) Tryd.underlying37 sz3 hX0.pins (fun u1 w2 ho3 hp4 hl5 hk6 => ?_))
  have hX7 := hX0.step hp4 hl5
  have ho8 := hou.below hl5
  have ho9 := hov.below hl5
  have ho10 := hok2.below hl5
  have hb11 := hbx.below hl5
  have hb12 := hox.below hl5
  have ha13 : Apart u1.ownBlock bu.ownBlock := new_ne_own hk6 hou.lt
  have ha14 : Apart u1.ownBlock bv.ownBlock := new_ne_own hk6 hov.lt
  have ha15 : Apart u1.ownBlock kv.ownBlock := new_ne_own hk6 hok2.lt
  have ha16 : Apart u1.ownBlock (some b) := new_ne_box hk6 hbx.lt
  have ha17 : Apart u1.ownBlock (some o) := new_ne_box hk6 hox.lt
  have ho18 : Own eInt 3 G w2 w.heap.size u1 ([]) := ho3.weaken hX0.size
  refine qd rfl rfl rfl (r_assign (v := u1) rfl) ?_
  refine qe ?_
  refine s_then ?_
  refine s_seq ?_
  refine s_seq ?_
  refine c_reg ?_
  refine qd rfl rfl rfl (r_assign (v := (.int .i64 0)) rfl) ?_
  refine qe ?_
  refine s_then ?_
  refine s_blk ?_
  obtain ⟨G23, hle26, hX25, hr24, hf27⟩ := ho18.sealed hX7
  have ho28 := ho8.moreO hle26 hf27 ha13.symm
  have ho29 := ho9.moreO hle26 hf27 ha14.symm
  have ho30 := ho10.moreO hle26 hf27 ha15.symm
  have hb31 := hb11.moreO hf27 ha16.symm
  have hb32 := hb12.moreO hf27 ha17.symm
  refine s_loop (fun (k : Nat) (en : Nat → Value) (W : World) => ∃ (env1 : Nat → Value) (i : Nat) (kq : List Int) (ov : Value) (out : List Int) (GL1 : Pin), en = (upd (upd (upd (upd (upd (upd env1 0 (.pointer (some ⟨o, 0, none⟩))) 1 x) 2 (.bool lf)) 6 (.slice none 0 0)) 7 ov) 8 (.int .i64 (i : Int))) ∧ k = xs.length - i ∧ Ext (inO kv.ownBlock) G w GL1 W ∧ Pin.le G23 GL1 ∧ (i ≤ xs.length) ∧ (KAll ns kq) ∧ (out = domL (gN ns xs) lf xs.length i) ∧ (Own eInt 3 GL1 W 0 kv (kq)) ∧ (Own eNode 44 GL1 W 0 bu (ns)) ∧ (Own eInt 3 GL1 W 0 bv (bs)) ∧ (Bx GL1 W b [bu, bv]) ∧ (Bx GL1 W o [(.pointer (some ⟨b, 0, none⟩)), kv]) ∧ (RSl eInt GL1 ov (out))) _ ⟨_, 0, ks, u1, [], G23, (packS (x := 8) (packS (x := 7) (packS (x := 6) (packS (x := 2) (packS (x := 1) (pack1 (x := 0) rfl) rfl) rfl) rfl) rfl) rfl), rfl, hX25, Pin.le_refl _, Nat.zero_le _, hka, rfl, ho30, ho28, ho29, hb31, hb32, hr24⟩ ?_
  rintro k19 _ w20 ⟨env1, i, kq, ov, out, GL1, rfl, hk21, hX22, hlek19, hi, hka1, hout, hw33, hw34, hw35, hw36, hw37, hr38⟩
  have hol : out.length ≤ i := by rw [hout]; exact (dom_len i).1
  refine s_seq ?_
  refine s_seq ?_
  refine c_reg ?_
  refine qd rfl rfl rfl (r_move (v := (.int .i64 (i : Int))) rfl) ?_
  refine qd rfl rfl rfl (r_move (v := x) rfl) ?_
  refine qd rfl rfl rfl (run_len Tryd.underlying37 (v := x) rfl hx) ?_
  refine qd rfl rfl rfl (r_lss rfl rfl) ?_
  refine qe ?_
  refine s_then ?_
  refine c_ifd (p := ((i : Int) : Int) < (xs.length : Int)) rfl rfl (fun h39 => ?_) (fun h39 => ?_)
  · skip
    refine wp_skip ?_
    refine s_then ?_
    refine s_seq ?_
    refine s_blk ?_
    refine s_seq ?_
    refine c_reg ?_
    refine qd rfl rfl rfl (r_assign (v := (.int .i64 0)) rfl) ?_
    refine qe ?_
    refine s_then ?_
    refine s_blk ?_
    refine s_loop (fun (k : Nat) (en : Nat → Value) (W : World) => ∃ (env1 : Nat → Value) (j : Nat) (kq2 : List Int) (ov2 : Value) (out2 : List Int) (GL2 : Pin), en = (upd (upd (upd (upd (upd (upd (upd env1 0 (.pointer (some ⟨o, 0, none⟩))) 1 x) 2 (.bool lf)) 6 (.slice none 0 0)) 7 ov2) 8 (.int .i64 (i : Int))) 9 (.int .i64 (j : Int))) ∧ k = xs.length - j ∧ Ext (inO kv.ownBlock) G w GL2 W ∧ Pin.le GL1 GL2 ∧ (j ≤ xs.length) ∧ (KAll ns kq2) ∧ (out2 = domI out (domB (gN ns xs) lf i j) (i : Int)) ∧ (Own eInt 3 GL2 W 0 kv (kq2)) ∧ (Own eNode 44 GL2 W 0 bu (ns)) ∧ (Own eInt 3 GL2 W 0 bv (bs)) ∧ (Bx GL2 W b [bu, bv]) ∧ (Bx GL2 W o [(.pointer (some ⟨b, 0, none⟩)), kv]) ∧ (RSl eInt GL2 ov2 (out2))) _ ⟨_, 0, kq, ov, out, GL1, (packS (x := 9) (packS (x := 8) (packS (x := 7) (packS (x := 6) (packS (x := 2) (packS (x := 1) (pack1 (x := 0) rfl) rfl) rfl) rfl) rfl) rfl) rfl), rfl, hX22, Pin.le_refl _, Nat.zero_le _, hka1, domI_start, hw33, hw34, hw35, hw36, hw37, hr38⟩ ?_
    rintro k40 _ w41 ⟨env1, j, kq2, ov2, out2, GL2, rfl, hk42, hX43, hlek40, hj, hka2, hout2, hw44, hw45, hw46, hw47, hw48, hr49⟩
    have hol2 : out2.length ≤ out.length + 1 := by rw [hout2]; exact domI_len
    refine s_seq ?_
    refine s_seq ?_
    refine c_reg ?_
    refine qd rfl rfl rfl (r_move (v := (.int .i64 (j : Int))) rfl) ?_
    refine qd rfl rfl rfl (r_move (v := x) rfl) ?_
    refine qd rfl rfl rfl (run_len Tryd.underlying37 (v := x) rfl hx) ?_
    refine qd rfl rfl rfl (r_lss rfl rfl) ?_
    refine qe ?_
    refine s_then ?_
    refine c_ifd (p := ((j : Int) : Int) < (xs.length : Int)) rfl rfl (fun h50 => ?_) (fun h50 => ?_)
    · skip
      refine wp_skip ?_
      refine s_then ?_
      refine s_seq ?_
      refine s_blk ?_
      refine s_seq ?_
      refine c_draw (S := fun wz => Pins GL2 wz) (last := 22) (by kernel_rfl) rfl ?_
      have hl51 : Below w41.heap.size w41 w41.drew := (Below.refl _ _).drew
      have hp52 := hX43.pins.below hl51
      have hX53 := hX43.step hp52 hl51
      have ho54 := hw44.below hl51
      have ho55 := hw45.below hl51
      have ho56 := hw46.below hl51
      have hb57 := hw47.below hl51
      have hb58 := hw48.below hl51
      refine dr_take (i := 0) rfl rfl rfl (want_none rfl _) (by kernel_rfl) (fun _ _ => r_move (v := (.pointer (some ⟨o, 0, none⟩))) rfl) hX53.pins ?_
      refine dr_take (i := 1) rfl rfl rfl (want_none rfl _) (by kernel_rfl) (fun _ _ => r_move (v := x) rfl) hX53.pins ?_
      refine dr_take (i := 2) rfl rfl rfl (want_none rfl _) (by kernel_rfl) (fun _ _ => r_move (v := (.int .i64 (j : Int))) rfl) hX53.pins ?_
      refine dr_take (i := 3) rfl rfl rfl (want_none rfl _) (by kernel_rfl) (fun _ _ => run_idx Tryd.underlying37 sz3 (v := x) rfl rfl hx (by omega) (by omega)) hX53.pins ?_
      refine dr_take (i := 4) rfl rfl rfl (want_none rfl _) (by kernel_rfl) (fun _ hS => run_load_int (r := xs.getD j 0) rfl ag3 (z := (j : Int)) rfl hx (Pins.of_le hS (Pin.le_trans (Pin.le_trans hle26 hlek19) hlek40)) (by omega) (by omega)) hX53.pins ?_
      refine dr_take (i := 5) rfl rfl rfl (want_none rfl _) (by kernel_rfl) (fun _ _ => r_move (v := x) rfl) hX53.pins ?_
      refine dr_take (i := 6) rfl rfl rfl (want_none rfl _) (by kernel_rfl) (fun _ _ => r_move (v := (.int .i64 (i : Int))) rfl) hX53.pins ?_
      refine dr_take (i := 7) rfl rfl rfl (want_none rfl _) (by kernel_rfl) (fun _ _ => run_idx Tryd.underlying37 sz3 (v := x) rfl rfl hx (by omega) (by omega)) hX53.pins ?_
      refine dr_take (i := 8) rfl rfl rfl (want_none rfl _) (by kernel_rfl) (fun _ hS => run_load_int (r := xs.getD i 0) rfl ag3 (z := (i : Int)) rfl hx (Pins.of_le hS (Pin.le_trans (Pin.le_trans hle26 hlek19) hlek40)) (by omega) (by omega)) hX53.pins ?_
      refine dr_take (i := 10) rfl rfl rfl (want_none rfl _) (by kernel_rfl) (fun _ _ => r_move (v := (.pointer (some ⟨o, 0, none⟩))) rfl) hX53.pins ?_
      refine dr_take (i := 11) rfl rfl rfl (want_none rfl _) (by kernel_rfl) (fun _ _ => r_move (v := x) rfl) hX53.pins ?_
      refine dr_take (i := 12) rfl rfl rfl (want_none rfl _) (by kernel_rfl) (fun _ _ => r_move (v := (.int .i64 (i : Int))) rfl) hX53.pins ?_
      refine dr_take (i := 13) rfl rfl rfl (want_none rfl _) (by kernel_rfl) (fun _ _ => run_idx Tryd.underlying37 sz3 (v := x) rfl rfl hx (by omega) (by omega)) hX53.pins ?_
      refine dr_take (i := 14) rfl rfl rfl (want_none rfl _) (by kernel_rfl) (fun _ hS => run_load_int (r := xs.getD i 0) rfl ag3 (z := (i : Int)) rfl hx (Pins.of_le hS (Pin.le_trans (Pin.le_trans hle26 hlek19) hlek40)) (by omega) (by omega)) hX53.pins ?_
      refine dr_take (i := 15) rfl rfl rfl (want_none rfl _) (by kernel_rfl) (fun _ _ => r_move (v := x) rfl) hX53.pins ?_
      refine dr_take (i := 16) rfl rfl rfl (want_none rfl _) (by kernel_rfl) (fun _ _ => r_move (v := (.int .i64 (j : Int))) rfl) hX53.pins ?_
      refine dr_take (i := 17) rfl rfl rfl (want_none rfl _) (by kernel_rfl) (fun _ _ => run_idx Tryd.underlying37 sz3 (v := x) rfl rfl hx (by omega) (by omega)) hX53.pins ?_
      refine dr_take (i := 18) rfl rfl rfl (want_none rfl _) (by kernel_rfl) (fun _ hS => run_load_int (r := xs.getD j 0) rfl ag3 (z := (j : Int)) rfl hx (Pins.of_le hS (Pin.le_trans (Pin.le_trans hle26 hlek19) hlek40)) (by omega) (by omega)) hX53.pins ?_
      refine dr_one (i := 9) (by kernel_rfl) (drOp1 (i := 9) rfl rfl rfl (want_none rfl _) (o_call (vs := [(.pointer (some ⟨o, 0, none⟩)), (.int .i64 (xs.getD j 0)), (.int .i64 (xs.getD i 0))]) Tryd.func29 nm29 rfl rfl rfl ?_))
      refine Calls.mono (geq_spec hX53.pins ⟨⟨hb57, ho55, ho56, habu, habv, hauv⟩, hb58, ho54, haok, habk, hauk, havk⟩ (hpl j (by omega)) (hpl i (by omega)) hka2.1 hok (hka2.2 _)) ?_
      rintro _ w61 ⟨ks59, G60, rfl, hd62, hr63, hx64⟩
      refine ⟨_, rfl, ?_⟩
      have hX65 := hX53.trans hx64 (fun i hi => hlok i hi)
      have ho66 := ho55.extS hx64 (notO hauk)
      have ho67 := ho56.extS hx64 (notO havk)
      have hb68 := hb57.extS hx64 (notOb habk)
      have hb69 := hb58.extS hx64 (notOb haok)
      have hkl71 := hr63.len
      have hka72 := KAll.res hka2 hr63
      refine ⟨fun _ => (Pins.of_le hX65.pins hx64.le), ?_⟩
      refine dr_one (i := 19) (by kernel_rfl) (drOp1 (i := 19) rfl rfl rfl (want_none rfl _) (o_call (vs := [(.pointer (some ⟨o, 0, none⟩)), (.int .i64 (xs.getD i 0)), (.int .i64 (xs.getD j 0))]) Tryd.func29 nm29 rfl rfl rfl ?_))
      refine Calls.mono (geq_spec hX65.pins ⟨⟨hb68, ho66, ho67, habu, habv, hauv⟩, hb69, hd62.ok, haok, habk, hauk, havk⟩ (hpl i (by omega)) (hpl j (by omega)) hka72.1 hok (hka72.2 _)) ?_
      rintro _ w75 ⟨ks73, G74, rfl, hd76, hr77, hx78⟩
      refine ⟨_, rfl, ?_⟩
      have hX79 := hX65.trans hx78 (fun i hi => hlok i hi)
      have ho80 := ho66.extS hx78 (notO hauk)
      have ho81 := ho67.extS hx78 (notO havk)
      have hb82 := hb68.extS hx78 (notOb habk)
      have hb83 := hb69.extS hx78 (notOb haok)
      have hkl85 := hr77.len
      have hka86 := KAll.res hka72 hr77
      refine ⟨fun _ => (Pins.of_le hX79.pins (Pin.le_trans hx64.le hx78.le)), ?_⟩
      refine dr_take (i := 20) rfl rfl rfl (want_none rfl _) (by kernel_rfl) (fun _ _ => r_assign (v := (.bool (geB ns (xs.getD j 0) (xs.getD i 0)))) rfl) (Pins.of_le hX79.pins (Pin.le_trans hx64.le hx78.le)) ?_
      refine dr_take (i := 21) rfl rfl rfl (want_none rfl _) (by kernel_rfl) (fun _ _ => r_assign (v := (.bool (geB ns (xs.getD i 0) (xs.getD j 0)))) rfl) (Pins.of_le hX79.pins (Pin.le_trans hx64.le hx78.le)) ?_
      refine dr_end (by kernel_rfl) ?_
      refine s_then ?_
      refine s_seq ?_
      refine s_seq ?_
      refine c_reg ?_
      refine qd rfl rfl rfl (r_move (v := (.bool lf)) rfl) ?_
      refine qd rfl rfl rfl (r_not rfl) ?_
      refine qe ?_
      refine s_then ?_
      refine c_ifn rfl rfl (fun h87 => ?_) (fun h87 => ?_)
      · skip
        refine wp_skip ?_
        refine s_then ?_
        refine s_seq ?_
        refine c_reg ?_
        refine qd rfl rfl rfl (r_move (v := (.int .i64 (j : Int))) rfl) ?_
        refine qd rfl rfl rfl (r_move (v := (.int .i64 (i : Int))) rfl) ?_
        refine qd rfl rfl rfl (r_neq rfl rfl) ?_
        refine qd rfl rfl rfl (r_move (v := (.bool (decide (((j : Int) : Int) ≠ (i : Int))))) rfl) ?_
        refine qbd (p := ((j : Int) : Int) ≠ (i : Int)) (t := 52) rfl (fun h88 => ?_) (fun h88 => ?_)
        · skip
          refine qdg rfl rfl rfl rfl rfl rfl (r_move (v := (.bool (geB ns (xs.getD j 0) (xs.getD i 0)))) rfl) ?_
          refine qd rfl rfl rfl (r_pickT (v := (.bool (geB ns (xs.getD j 0) (xs.getD i 0)))) rfl rfl) ?_
          refine qd rfl rfl rfl (r_move (v := (.bool (geB ns (xs.getD j 0) (xs.getD i 0)))) rfl) ?_
          refine qb (t := 55) rfl (fun h89 => ?_) (fun h89 => ?_)
          · skip
            refine qdg rfl rfl rfl rfl rfl rfl (r_move (v := (.bool (geB ns (xs.getD i 0) (xs.getD j 0)))) rfl) ?_
            refine qdg rfl rfl rfl rfl rfl rfl (r_not rfl) ?_
            refine qdg rfl rfl rfl rfl rfl rfl (r_move (v := (.bool (!(geB ns (xs.getD i 0) (xs.getD j 0))))) rfl) ?_
            refine qbn (t := 58) rfl (fun h90 => ?_) (fun h90 => ?_)
            · skip
              refine qdg rfl rfl rfl rfl rfl rfl (r_move (v := (.int .i64 (j : Int))) rfl) ?_
              refine qdg rfl rfl rfl rfl rfl rfl (r_move (v := (.int .i64 (i : Int))) rfl) ?_
              refine qdg rfl rfl rfl rfl rfl rfl (r_lss rfl rfl) ?_
              refine qdg rfl rfl rfl rfl rfl rfl (r_pickF (v := (.bool (decide (((j : Int) : Int) < (i : Int))))) rfl rfl) ?_
              refine qd rfl rfl rfl (r_pickT (v := (.bool (decide (((j : Int) : Int) < (i : Int))))) rfl rfl) ?_
              refine qe ?_
              refine s_then ?_
              refine c_ifd (p := ((j : Int) : Int) < (i : Int)) rfl rfl (fun h91 => ?_) (fun h91 => ?_)
              · skip
                refine c_reg ?_
                refine qd rfl rfl rfl (r_move (v := ov2) rfl) ?_
                refine qd rfl rfl rfl (r_move (v := (.int .i64 (i : Int))) rfl) ?_
                refine q1 rfl rfl rfl (o_call (vs := [ov2, (.int .i64 (i : Int))]) Tryd.func30 nm30 rfl rfl rfl ?_)
                refine Calls.mono (l1Put_spec hX79.pins (hr49.mono (Pin.le_trans hx64.le hx78.le)) (by omega)) ?_
                rintro _ w94 ⟨u92, G93, rfl, hr95, hx96⟩
                refine ⟨_, rfl, ?_⟩
                have hX97 := hX79.tr hx96
                have ho98 := hd76.ok.ext hx96
                have ho99 := ho80.ext hx96
                have ho100 := ho81.ext hx96
                have hb101 := hb82.ext hx96
                have hb102 := hb83.ext hx96
                refine qd rfl rfl rfl (r_assign (v := u92) rfl) ?_
                refine qe ?_
                refine s_blkN ?_
                refine s_then ?_
                refine c_reg ?_
                refine qd rfl rfl rfl (r_move (v := (.int .i64 (j : Int))) rfl) ?_
                refine qd rfl rfl rfl (r_add rfl rfl (by omega)) ?_
                refine qd rfl rfl rfl (r_assign (v := (.int .i64 ((j : Int) + 1))) rfl) ?_
                refine qe ?_
                refine s_lopN ?_
                refine ⟨_, ?_, _, rfl, _, j + 1, ks73, u92, putL out2 (i : Int), G93, (packS (x := 9) (packS (x := 8) (packS (x := 7) (packS (x := 6) (packS (x := 2) (packS (x := 1) (pack1 (x := 0) rfl) rfl) rfl) rfl) rfl) rfl) rfl), rfl, hX97, (Pin.le_trans (Pin.le_trans (Pin.le_trans hlek40 hx64.le) hx78.le) hx96.le), (by omega), hka86, (domI_yes hout2 (by rw [hout]; exact (dom_len i).2) ⟨h88, (geD_t h87).2 (decP_true.1 h89), Or.inr h91⟩), ho98, ho99, ho100, hb101, hb102, hr95⟩
                omega
              refine wp_skip ?_
              refine s_blkN ?_
              refine s_then ?_
              refine c_reg ?_
              refine qd rfl rfl rfl (r_move (v := (.int .i64 (j : Int))) rfl) ?_
              refine qd rfl rfl rfl (r_add rfl rfl (by omega)) ?_
              refine qd rfl rfl rfl (r_assign (v := (.int .i64 ((j : Int) + 1))) rfl) ?_
              refine qe ?_
              refine s_lopN ?_
              refine ⟨_, ?_, _, rfl, _, j + 1, ks73, ov2, out2, G74, (packS (x := 9) (packS (x := 8) (packS (x := 7) (packS (x := 6) (packS (x := 2) (packS (x := 1) (pack1 (x := 0) rfl) rfl) rfl) rfl) rfl) rfl) rfl), rfl, hX79, (Pin.le_trans (Pin.le_trans hlek40 hx64.le) hx78.le), (by omega), hka86, (domI_no hout2 (fun p => p.2.2.elim (fun h => h ((geD_t h87).2 (decP_true.1 h90))) h91)), hd76.ok, ho80, ho81, hb82, hb83, (hr49.mono (Pin.le_trans hx64.le hx78.le))⟩
              omega
            refine qs rfl rfl rfl rfl rfl rfl ?_
            refine qs rfl rfl rfl rfl rfl rfl ?_
            refine qs rfl rfl rfl rfl rfl rfl ?_
            refine qdg rfl rfl rfl rfl rfl rfl (r_pickT (v := (.bool true)) rfl rfl) ?_
            refine qd rfl rfl rfl (r_pickT (v := (.bool true)) rfl rfl) ?_
            refine qe ?_
            refine s_then ?_
            refine c_ifT rfl rfl ?_
            refine c_reg ?_
            refine qd rfl rfl rfl (r_move (v := ov2) rfl) ?_
            refine qd rfl rfl rfl (r_move (v := (.int .i64 (i : Int))) rfl) ?_
            refine q1 rfl rfl rfl (o_call (vs := [ov2, (.int .i64 (i : Int))]) Tryd.func30 nm30 rfl rfl rfl ?_)
            refine Calls.mono (l1Put_spec hX79.pins (hr49.mono (Pin.le_trans hx64.le hx78.le)) (by omega)) ?_
            rintro _ w105 ⟨u103, G104, rfl, hr106, hx107⟩
            refine ⟨_, rfl, ?_⟩
            have hX108 := hX79.tr hx107
            have ho109 := hd76.ok.ext hx107
            have ho110 := ho80.ext hx107
            have ho111 := ho81.ext hx107
            have hb112 := hb82.ext hx107
            have hb113 := hb83.ext hx107
            refine qd rfl rfl rfl (r_assign (v := u103) rfl) ?_
            refine qe ?_
            refine s_blkN ?_
            refine s_then ?_
            refine c_reg ?_
            refine qd rfl rfl rfl (r_move (v := (.int .i64 (j : Int))) rfl) ?_
            refine qd rfl rfl rfl (r_add rfl rfl (by omega)) ?_
            refine qd rfl rfl rfl (r_assign (v := (.int .i64 ((j : Int) + 1))) rfl) ?_
            refine qe ?_
            refine s_lopN ?_
            refine ⟨_, ?_, _, rfl, _, j + 1, ks73, u103, putL out2 (i : Int), G104, (packS (x := 9) (packS (x := 8) (packS (x := 7) (packS (x := 6) (packS (x := 2) (packS (x := 1) (pack1 (x := 0) rfl) rfl) rfl) rfl) rfl) rfl) rfl), rfl, hX108, (Pin.le_trans (Pin.le_trans (Pin.le_trans hlek40 hx64.le) hx78.le) hx107.le), (by omega), hka86, (domI_yes hout2 (by rw [hout]; exact (dom_len i).2) ⟨h88, (geD_t h87).2 (decP_true.1 h89), Or.inl (fun h => (decP_false.1 h90) ((geD_t h87).1 h))⟩), ho109, ho110, ho111, hb112, hb113, hr106⟩
            omega
          refine qs rfl rfl rfl rfl rfl rfl ?_
          refine qs rfl rfl rfl rfl rfl rfl ?_
          refine qs rfl rfl rfl rfl rfl rfl ?_
          refine qsu rfl rfl rfl rfl rfl ?_
          refine qsu rfl rfl rfl rfl rfl ?_
          refine qsu rfl rfl rfl rfl rfl ?_
          refine qs rfl rfl rfl rfl rfl rfl ?_
          refine qd rfl rfl rfl (r_pickF (v := (.bool false)) rfl rfl) ?_
          refine qe ?_
          refine s_then ?_
          refine c_ifF rfl rfl ?_
          refine wp_skip ?_
          refine s_blkN ?_
          refine s_then ?_
          refine c_reg ?_
          refine qd rfl rfl rfl (r_move (v := (.int .i64 (j : Int))) rfl) ?_
          refine qd rfl rfl rfl (r_add rfl rfl (by omega)) ?_
          refine qd rfl rfl rfl (r_assign (v := (.int .i64 ((j : Int) + 1))) rfl) ?_
          refine qe ?_
          refine s_lopN ?_
          refine ⟨_, ?_, _, rfl, _, j + 1, ks73, ov2, out2, G74, (packS (x := 9) (packS (x := 8) (packS (x := 7) (packS (x := 6) (packS (x := 2) (packS (x := 1) (pack1 (x := 0) rfl) rfl) rfl) rfl) rfl) rfl) rfl), rfl, hX79, (Pin.le_trans (Pin.le_trans hlek40 hx64.le) hx78.le), (by omega), hka86, (domI_no hout2 (fun p => (decP_false.1 h89) ((geD_t h87).1 p.2.1))), hd76.ok, ho80, ho81, hb82, hb83, (hr49.mono (Pin.le_trans hx64.le hx78.le))⟩
          omega
        refine qs rfl rfl rfl rfl rfl rfl ?_
        refine qd rfl rfl rfl (r_pickF (v := (.bool false)) rfl rfl) ?_
        refine qd rfl rfl rfl (r_move (v := (.bool false)) rfl) ?_
        refine qs rfl rfl rfl rfl rfl rfl ?_
        refine qs rfl rfl rfl rfl rfl rfl ?_
        refine qs rfl rfl rfl rfl rfl rfl ?_
        refine qsu rfl rfl rfl rfl rfl ?_
        refine qsu rfl rfl rfl rfl rfl ?_
        refine qsu rfl rfl rfl rfl rfl ?_
        refine qs rfl rfl rfl rfl rfl rfl ?_
        refine qd rfl rfl rfl (r_pickF (v := (.bool false)) rfl rfl) ?_
        refine qe ?_
        refine s_then ?_
        refine c_ifF rfl rfl ?_
        refine wp_skip ?_
        refine s_blkN ?_
        refine s_then ?_
        refine c_reg ?_
        refine qd rfl rfl rfl (r_move (v := (.int .i64 (j : Int))) rfl) ?_
        refine qd rfl rfl rfl (r_add rfl rfl (by omega)) ?_
        refine qd rfl rfl rfl (r_assign (v := (.int .i64 ((j : Int) + 1))) rfl) ?_
        refine qe ?_
        refine s_lopN ?_
        refine ⟨_, ?_, _, rfl, _, j + 1, ks73, ov2, out2, G74, (packS (x := 9) (packS (x := 8) (packS (x := 7) (packS (x := 6) (packS (x := 2) (packS (x := 1) (pack1 (x := 0) rfl) rfl) rfl) rfl) rfl) rfl) rfl), rfl, hX79, (Pin.le_trans (Pin.le_trans hlek40 hx64.le) hx78.le), (by omega), hka86, (domI_no hout2 (fun p => h88 p.1)), hd76.ok, ho80, ho81, hb82, hb83, (hr49.mono (Pin.le_trans hx64.le hx78.le))⟩
        omega
      refine c_reg ?_
      refine qd rfl rfl rfl (r_move (v := (.bool (geB ns (xs.getD i 0) (xs.getD j 0)))) rfl) ?_
      refine qd rfl rfl rfl (r_move (v := (.bool (geB ns (xs.getD j 0) (xs.getD i 0)))) rfl) ?_
      refine qd rfl rfl rfl (r_assign (v := (.bool (geB ns (xs.getD i 0) (xs.getD j 0)))) rfl) ?_
      refine qd rfl rfl rfl (r_assign (v := (.bool (geB ns (xs.getD j 0) (xs.getD i 0)))) rfl) ?_
      refine qe ?_
      refine s_then ?_
      refine s_seq ?_
      refine c_reg ?_
      refine qd rfl rfl rfl (r_move (v := (.int .i64 (j : Int))) rfl) ?_
      refine qd rfl rfl rfl (r_move (v := (.int .i64 (i : Int))) rfl) ?_
      refine qd rfl rfl rfl (r_neq rfl rfl) ?_
      refine qd rfl rfl rfl (r_move (v := (.bool (decide (((j : Int) : Int) ≠ (i : Int))))) rfl) ?_
      refine qbd (p := ((j : Int) : Int) ≠ (i : Int)) (t := 52) rfl (fun h114 => ?_) (fun h114 => ?_)
      · skip
        refine qdg rfl rfl rfl rfl rfl rfl (r_move (v := (.bool (geB ns (xs.getD i 0) (xs.getD j 0)))) rfl) ?_
        refine qd rfl rfl rfl (r_pickT (v := (.bool (geB ns (xs.getD i 0) (xs.getD j 0)))) rfl rfl) ?_
        refine qd rfl rfl rfl (r_move (v := (.bool (geB ns (xs.getD i 0) (xs.getD j 0)))) rfl) ?_
        refine qb (t := 55) rfl (fun h115 => ?_) (fun h115 => ?_)
        · skip
          refine qdg rfl rfl rfl rfl rfl rfl (r_move (v := (.bool (geB ns (xs.getD j 0) (xs.getD i 0)))) rfl) ?_
          refine qdg rfl rfl rfl rfl rfl rfl (r_not rfl) ?_
          refine qdg rfl rfl rfl rfl rfl rfl (r_move (v := (.bool (!(geB ns (xs.getD j 0) (xs.getD i 0))))) rfl) ?_
          refine qbn (t := 58) rfl (fun h116 => ?_) (fun h116 => ?_)
          · skip
            refine qdg rfl rfl rfl rfl rfl rfl (r_move (v := (.int .i64 (j : Int))) rfl) ?_
            refine qdg rfl rfl rfl rfl rfl rfl (r_move (v := (.int .i64 (i : Int))) rfl) ?_
            refine qdg rfl rfl rfl rfl rfl rfl (r_lss rfl rfl) ?_
            refine qdg rfl rfl rfl rfl rfl rfl (r_pickF (v := (.bool (decide (((j : Int) : Int) < (i : Int))))) rfl rfl) ?_
            refine qd rfl rfl rfl (r_pickT (v := (.bool (decide (((j : Int) : Int) < (i : Int))))) rfl rfl) ?_
            refine qe ?_
            refine s_then ?_
            refine c_ifd (p := ((j : Int) : Int) < (i : Int)) rfl rfl (fun h117 => ?_) (fun h117 => ?_)
            · skip
              refine c_reg ?_
              refine qd rfl rfl rfl (r_move (v := ov2) rfl) ?_
              refine qd rfl rfl rfl (r_move (v := (.int .i64 (i : Int))) rfl) ?_
              refine q1 rfl rfl rfl (o_call (vs := [ov2, (.int .i64 (i : Int))]) Tryd.func30 nm30 rfl rfl rfl ?_)
              refine Calls.mono (l1Put_spec hX79.pins (hr49.mono (Pin.le_trans hx64.le hx78.le)) (by omega)) ?_
              rintro _ w120 ⟨u118, G119, rfl, hr121, hx122⟩
              refine ⟨_, rfl, ?_⟩
              have hX123 := hX79.tr hx122
              have ho124 := hd76.ok.ext hx122
              have ho125 := ho80.ext hx122
              have ho126 := ho81.ext hx122
              have hb127 := hb82.ext hx122
              have hb128 := hb83.ext hx122
              refine qd rfl rfl rfl (r_assign (v := u118) rfl) ?_
              refine qe ?_
              refine s_blkN ?_
              refine s_then ?_
              refine c_reg ?_
              refine qd rfl rfl rfl (r_move (v := (.int .i64 (j : Int))) rfl) ?_
              refine qd rfl rfl rfl (r_add rfl rfl (by omega)) ?_
              refine qd rfl rfl rfl (r_assign (v := (.int .i64 ((j : Int) + 1))) rfl) ?_
              refine qe ?_
              refine s_lopN ?_
              refine ⟨_, ?_, _, rfl, _, j + 1, ks73, u118, putL out2 (i : Int), G119, (packS (x := 9) (packS (x := 8) (packS (x := 7) (packS (x := 6) (packS (x := 2) (packS (x := 1) (pack1 (x := 0) rfl) rfl) rfl) rfl) rfl) rfl) rfl), rfl, hX123, (Pin.le_trans (Pin.le_trans (Pin.le_trans hlek40 hx64.le) hx78.le) hx122.le), (by omega), hka86, (domI_yes hout2 (by rw [hout]; exact (dom_len i).2) ⟨h114, (geD_f h87).2 (decP_true.1 h115), Or.inr h117⟩), ho124, ho125, ho126, hb127, hb128, hr121⟩
              omega
            refine wp_skip ?_
            refine s_blkN ?_
            refine s_then ?_
            refine c_reg ?_
            refine qd rfl rfl rfl (r_move (v := (.int .i64 (j : Int))) rfl) ?_
            refine qd rfl rfl rfl (r_add rfl rfl (by omega)) ?_
            refine qd rfl rfl rfl (r_assign (v := (.int .i64 ((j : Int) + 1))) rfl) ?_
            refine qe ?_
            refine s_lopN ?_
            refine ⟨_, ?_, _, rfl, _, j + 1, ks73, ov2, out2, G74, (packS (x := 9) (packS (x := 8) (packS (x := 7) (packS (x := 6) (packS (x := 2) (packS (x := 1) (pack1 (x := 0) rfl) rfl) rfl) rfl) rfl) rfl) rfl), rfl, hX79, (Pin.le_trans (Pin.le_trans hlek40 hx64.le) hx78.le), (by omega), hka86, (domI_no hout2 (fun p => p.2.2.elim (fun h => h ((geD_f h87).2 (decP_true.1 h116))) h117)), hd76.ok, ho80, ho81, hb82, hb83, (hr49.mono (Pin.le_trans hx64.le hx78.le))⟩
            omega
          refine qs rfl rfl rfl rfl rfl rfl ?_
          refine qs rfl rfl rfl rfl rfl rfl ?_
          refine qs rfl rfl rfl rfl rfl rfl ?_
          refine qdg rfl rfl rfl rfl rfl rfl (r_pickT (v := (.bool true)) rfl rfl) ?_
          refine qd rfl rfl rfl (r_pickT (v := (.bool true)) rfl rfl) ?_
          refine qe ?_
          refine s_then ?_
          refine c_ifT rfl rfl ?_
          refine c_reg ?_
          refine qd rfl rfl rfl (r_move (v := ov2) rfl) ?_
          refine qd rfl rfl rfl (r_move (v := (.int .i64 (i : Int))) rfl) ?_
          refine q1 rfl rfl rfl (o_call (vs := [ov2, (.int .i64 (i : Int))]) Tryd.func30 nm30 rfl rfl rfl ?_)
          refine Calls.mono (l1Put_spec hX79.pins (hr49.mono (Pin.le_trans hx64.le hx78.le)) (by omega)) ?_
          rintro _ w131 ⟨u129, G130, rfl, hr132, hx133⟩
          refine ⟨_, rfl, ?_⟩
          have hX134 := hX79.tr hx133
          have ho135 := hd76.ok.ext hx133
          have ho136 := ho80.ext hx133
          have ho137 := ho81.ext hx133
          have hb138 := hb82.ext hx133
          have hb139 := hb83.ext hx133
          refine qd rfl rfl rfl (r_assign (v := u129) rfl) ?_
          refine qe ?_
          refine s_blkN ?_
          refine s_then ?_
          refine c_reg ?_
          refine qd rfl rfl rfl (r_move (v := (.int .i64 (j : Int))) rfl) ?_
          refine qd rfl rfl rfl (r_add rfl rfl (by omega)) ?_
          refine qd rfl rfl rfl (r_assign (v := (.int .i64 ((j : Int) + 1))) rfl) ?_
          refine qe ?_
          refine s_lopN ?_
          refine ⟨_, ?_, _, rfl, _, j + 1, ks73, u129, putL out2 (i : Int), G130, (packS (x := 9) (packS (x := 8) (packS (x := 7) (packS (x := 6) (packS (x := 2) (packS (x := 1) (pack1 (x := 0) rfl) rfl) rfl) rfl) rfl) rfl) rfl), rfl, hX134, (Pin.le_trans (Pin.le_trans (Pin.le_trans hlek40 hx64.le) hx78.le) hx133.le), (by omega), hka86, (domI_yes hout2 (by rw [hout]; exact (dom_len i).2) ⟨h114, (geD_f h87).2 (decP_true.1 h115), Or.inl (fun h => (decP_false.1 h116) ((geD_f h87).1 h))⟩), ho135, ho136, ho137, hb138, hb139, hr132⟩
          omega
        refine qs rfl rfl rfl rfl rfl rfl ?_
        refine qs rfl rfl rfl rfl rfl rfl ?_
        refine qs rfl rfl rfl rfl rfl rfl ?_
        refine qsu rfl rfl rfl rfl rfl ?_
        refine qsu rfl rfl rfl rfl rfl ?_
        refine qsu rfl rfl rfl rfl rfl ?_
        refine qs rfl rfl rfl rfl rfl rfl ?_
        refine qd rfl rfl rfl (r_pickF (v := (.bool false)) rfl rfl) ?_
        refine qe ?_
        refine s_then ?_
        refine c_ifF rfl rfl ?_
        refine wp_skip ?_
        refine s_blkN ?_
        refine s_then ?_
        refine c_reg ?_
        refine qd rfl rfl rfl (r_move (v := (.int .i64 (j : Int))) rfl) ?_
        refine qd rfl rfl rfl (r_add rfl rfl (by omega)) ?_
        refine qd rfl rfl rfl (r_assign (v := (.int .i64 ((j : Int) + 1))) rfl) ?_
        refine qe ?_
        refine s_lopN ?_
        refine ⟨_, ?_, _, rfl, _, j + 1, ks73, ov2, out2, G74, (packS (x := 9) (packS (x := 8) (packS (x := 7) (packS (x := 6) (packS (x := 2) (packS (x := 1) (pack1 (x := 0) rfl) rfl) rfl) rfl) rfl) rfl) rfl), rfl, hX79, (Pin.le_trans (Pin.le_trans hlek40 hx64.le) hx78.le), (by omega), hka86, (domI_no hout2 (fun p => (decP_false.1 h115) ((geD_f h87).1 p.2.1))), hd76.ok, ho80, ho81, hb82, hb83, (hr49.mono (Pin.le_trans hx64.le hx78.le))⟩
        omega
      refine qs rfl rfl rfl rfl rfl rfl ?_
      refine qd rfl rfl rfl (r_pickF (v := (.bool false)) rfl rfl) ?_
      refine qd rfl rfl rfl (r_move (v := (.bool false)) rfl) ?_
      refine qs rfl rfl rfl rfl rfl rfl ?_
      refine qs rfl rfl rfl rfl rfl rfl ?_
      refine qs rfl rfl rfl rfl rfl rfl ?_
      refine qsu rfl rfl rfl rfl rfl ?_
      refine qsu rfl rfl rfl rfl rfl ?_
      refine qsu rfl rfl rfl rfl rfl ?_
      refine qs rfl rfl rfl rfl rfl rfl ?_
      refine qd rfl rfl rfl (r_pickF (v := (.bool false)) rfl rfl) ?_
      refine qe ?_
      refine s_then ?_
      refine c_ifF rfl rfl ?_
      refine wp_skip ?_
      refine s_blkN ?_
      refine s_then ?_
      refine c_reg ?_
      refine qd rfl rfl rfl (r_move (v := (.int .i64 (j : Int))) rfl) ?_
      refine qd rfl rfl rfl (r_add rfl rfl (by omega)) ?_
      refine qd rfl rfl rfl (r_assign (v := (.int .i64 ((j : Int) + 1))) rfl) ?_
      refine qe ?_
      refine s_lopN ?_
      refine ⟨_, ?_, _, rfl, _, j + 1, ks73, ov2, out2, G74, (packS (x := 9) (packS (x := 8) (packS (x := 7) (packS (x := 6) (packS (x := 2) (packS (x := 1) (pack1 (x := 0) rfl) rfl) rfl) rfl) rfl) rfl) rfl), rfl, hX79, (Pin.le_trans (Pin.le_trans hlek40 hx64.le) hx78.le), (by omega), hka86, (domI_no hout2 (fun p => h114 p.1)), hd76.ok, ho80, ho81, hb82, hb83, (hr49.mono (Pin.le_trans hx64.le hx78.le))⟩
      omega
    refine wp_exit ?_
    refine s_thenE ?_
    refine s_lopE ?_
    refine s_blkE ?_
    refine s_blkN ?_
    refine s_then ?_
    refine c_reg ?_
    refine qd rfl rfl rfl (r_move (v := (.int .i64 (i : Int))) rfl) ?_
    refine qd rfl rfl rfl (r_add rfl rfl (by omega)) ?_
    refine qd rfl rfl rfl (r_assign (v := (.int .i64 ((i : Int) + 1))) rfl) ?_
    refine qe ?_
    refine s_lopN ?_
    have hjn : j = xs.length := by omega
    rw [hjn, hout] at hout2
    refine ⟨_, ?_, _, rfl, _, i + 1, kq2, ov2, out2, GL2, (packS (x := 8) (packS (x := 7) (packS (x := 6) (packS (x := 2) (packS (x := 1) (pack1 (x := 0) rfl) rfl) rfl) rfl) rfl) rfl), rfl, hX43, (Pin.le_trans hlek19 hlek40), (by omega), hka2, (domI_end hout2), hw44, hw45, hw46, hw47, hw48, hr49⟩
    omega
  refine wp_exit ?_
  refine s_thenE ?_
  refine s_lopE ?_
  refine s_blkE ?_
  refine s_then ?_
  refine s_seq ?_
  refine c_reg ?_
  refine qd rfl rfl rfl (r_move (v := ov) rfl) ?_
  refine qd rfl rfl rfl (r_assign (v := ov) rfl) ?_
  refine qe ?_
  refine s_then ?_
  refine wp_ret ?_
  refine s_ret ?_
  refine c_ret1 (v := ov) rfl rfl rfl ?_
  have hin : i = xs.length := by omega
  rw [hin] at hout
  exact ⟨_, _, _, rfl, (by rw [← hout]; exact hr38), ⟨⟨hw36, hw34, hw35, habu, habv, hauv⟩, hw37, hw33, haok, habk, hauk, havk⟩, hka1, hX22⟩

end DS1
end Go.Proofs.YtfkompdmejpmmaaDoor

/- Walks, printed by a program (walkgen.py) from the spec specs_cs. -/
set_option maxRecDepth 20000
set_option maxHeartbeats 2000000
namespace Go.Proofs.YtfkompdmejpmmaaDoor
namespace CS1
open Go.RowKit Go.GL Go.Proofs
open Go.Proofs.YtfkompdmejpmmaaDoor.B1
open Go.Proofs.YtfkompdmejpmmaaDoor.C1
open Go.Proofs.YtfkompdmejpmmaaDoor.D1
open Go.Proofs.YtfkompdmejpmmaaDoor.E1
open Go.Proofs.YtfkompdmejpmmaaDoor.OR1
open Go.Proofs.YtfkompdmejpmmaaDoor.DS1
theorem ag28 : (Tryd.prog.underlying 28).map aggD = some false := by kernel_rfl
theorem ag3 : (Tryd.prog.underlying 3).map aggD = some false := by kernel_rfl
theorem ag36 : (Tryd.prog.underlying 36).map aggD = some false := by kernel_rfl
theorem ag37 : (Tryd.prog.underlying 37).map aggD = some false := by kernel_rfl
theorem ag44 : (Tryd.prog.underlying 44).map aggD = some true := by kernel_rfl
theorem ap3 : (Tryd.prog.info? 3).map (fun i => (i.size, i.bytes, (i.zero.map (·.cells.size)))) = some (1, 8, some 1) := by kernel_rfl
theorem mk3 : (Tryd.prog.info? 3).map (fun i => (i.size, i.bytes, i.zero)) = some (1, 8, some (.int .i64 0)) := by kernel_rfl
theorem nm29 : (Tryd.f29.name == "runtime.NumGoroutine") = false := by kernel_rfl
theorem nm31 : (Tryd.f31.name == "runtime.NumGoroutine") = false := by kernel_rfl
theorem nm32 : (Tryd.f32.name == "runtime.NumGoroutine") = false := by kernel_rfl
theorem nm53 : (Tryd.f53.name == "runtime.NumGoroutine") = false := by kernel_rfl
theorem nz28 : (Tryd.prog.info? 28).map (·.size == 0) = some false := by kernel_rfl
theorem nz36 : (Tryd.prog.info? 36).map (·.size == 0) = some false := by kernel_rfl
theorem nz37 : (Tryd.prog.info? 37).map (·.size == 0) = some false := by kernel_rfl
theorem pl61 : (Tryd.prog.underlying 61).bind (placesD Tryd.prog) = some [(0, 1), (1, 1)] := by kernel_rfl
theorem sz3 : (Tryd.prog.info? 3).map (·.size) = some 1 := by kernel_rfl
theorem sz44 : (Tryd.prog.info? 44).map (·.size) = some 2 := by kernel_rfl
theorem zr3 : (Tryd.prog.info? 3).bind (·.zero) = some (.int .i64 0) := by kernel_rfl
theorem zr44 : (Tryd.prog.info? 44).bind (·.zero) = some (.agg #[(.slice none 0 0), (.slice none 0 0)]) := by kernel_rfl
theorem zr61 : (Tryd.prog.info? 61).bind (·.zero) = some (.agg #[(.pointer none), (.slice none 0 0)]) := by kernel_rfl

theorem l4Of_spec {w : World} {G : Pin} {b : Nat} {bu bv : Value} {ns : List Nd} {bs : List Int} (hP : Pins G w) (hB : Bk 44 3 G w b bu bv ns bs) (hok : BookOk ns bs) :
    Calls Tryd.prog 12 [(.pointer (some ⟨b, 0, none⟩))].toArray w fun e w' => ∃ (o : Nat) (kv : Value) (G' : Pin), e = .returned (.pointer (some ⟨o, 0, none⟩)) ∧ Bx G' w' o [.pointer (some ⟨b, 0, none⟩), kv] ∧ Own eInt 3 G' w' w.heap.size kv (List.replicate (ns.length * ns.length) 0) ∧ w.heap.size ≤ o ∧ Apart (some o) kv.ownBlock ∧ Ext noS G w G' w' := by
  refine s_enter (n := 18) Tryd.func12 Tryd.ntmps12 rfl rfl ?_
  have hX0 : Ext noS G w G w := Ext.refl hP
  have hbx := hB.bx
  have hou := hB.ou
  have hov := hB.ov
  have habu := hB.abu
  have habv := hB.abv
  have hauv := hB.auv
  have hlen := hok.len
  have hlim := hok.lim
  have hsq := sq_bd hok.lim
  refine s_seq ?_
  refine c_reg ?_
  refine qd rfl rfl rfl (r_assign (v := (.pointer none)) rfl) ?_
  refine qe ?_
  refine s_then ?_
  refine s_seq ?_
  have hq1 := Gadd.pins hX0.pins bu
  have hr2 := hou.read
  refine c_draw (S := fun wz => BxR wz b [bu, bv] ∧ Pins (Gadd G w bu) wz) (last := 16) (by kernel_rfl) rfl ?_
  have hl3 : Below w.heap.size w w.drew := (Below.refl _ _).drew
  have hp4 := hX0.pins.below hl3
  have hX5 := hX0.step hp4 hl3
  have hb8 := hbx.below hl3
  have hq9 := hq1.below hl3
  refine dr_take (i := 0) rfl rfl rfl (want_none rfl _) (by kernel_rfl) (fun _ _ => r_move (v := (.pointer (some ⟨b, 0, none⟩))) rfl) ⟨hb8.reads, hq9⟩ ?_
  refine dr_take (i := 1) rfl rfl rfl (want_none rfl _) (by kernel_rfl) (fun _ _ => r_move (v := (.pointer (some ⟨b, 0, none⟩))) rfl) ⟨hb8.reads, hq9⟩ ?_
  refine dr_take (i := 2) rfl rfl rfl (want_none rfl _) (by kernel_rfl) (fun _ _ => r_nil rfl) ⟨hb8.reads, hq9⟩ ?_
  refine dr_take (i := 3) rfl rfl rfl (want_none rfl _) (by kernel_rfl) (fun _ _ => r_fldp (k := 0) rfl Tryd.underlying39 rfl nz28 rfl) ⟨hb8.reads, hq9⟩ ?_
  refine dr_take (i := 4) rfl rfl rfl (want_none rfl _) (by kernel_rfl) (fun _ hS => r_ldp1 (u := bu) ag28 rfl (hS.1 0 _ rfl)) ⟨hb8.reads, hq9⟩ ?_
  refine dr_take (i := 5) rfl rfl rfl (want_none rfl _) (by kernel_rfl) (fun _ _ => run_len Tryd.underlying28 (v := bu) rfl hr2) ⟨hb8.reads, hq9⟩ ?_
  refine dr_take (i := 6) rfl rfl rfl (want_none rfl _) (by kernel_rfl) (fun _ _ => r_move (v := (.pointer (some ⟨b, 0, none⟩))) rfl) ⟨hb8.reads, hq9⟩ ?_
  refine dr_take (i := 7) rfl rfl rfl (want_none rfl _) (by kernel_rfl) (fun _ _ => r_nil rfl) ⟨hb8.reads, hq9⟩ ?_
  refine dr_take (i := 8) rfl rfl rfl (want_none rfl _) (by kernel_rfl) (fun _ _ => r_fldp (k := 0) rfl Tryd.underlying39 rfl nz28 rfl) ⟨hb8.reads, hq9⟩ ?_
  refine dr_take (i := 9) rfl rfl rfl (want_none rfl _) (by kernel_rfl) (fun _ hS => r_ldp1 (u := bu) ag28 rfl (hS.1 0 _ rfl)) ⟨hb8.reads, hq9⟩ ?_
  refine dr_take (i := 10) rfl rfl rfl (want_none rfl _) (by kernel_rfl) (fun _ _ => run_len Tryd.underlying28 (v := bu) rfl hr2) ⟨hb8.reads, hq9⟩ ?_
  refine dr_take (i := 11) rfl rfl rfl (want_none rfl _) (by kernel_rfl) (fun _ _ => r_mul rfl rfl (by omega)) ⟨hb8.reads, hq9⟩ ?_
  refine dr_one (i := 12) (by kernel_rfl) (drOp1 (i := 12) rfl rfl rfl (want_none rfl _) (o_make (E := eInt) 0 8 (.int .i64 0) Tryd.underlying37 mk3 (fun _ => rfl) rfl rfl hX5.pins (by omega) (by omega) (by omega) (fun u10 w11 ho12 hp13 hl14 hk15 => ?_)))
  have hX16 := hX5.step hp13 hl14
  have hb19 := hb8.below hl14
  have ho23 : Own eInt 3 G w11 w.heap.size u10 (List.replicate ((ns.length : Int) * (ns.length : Int)).toNat 0) := ho12.weaken hX5.size
  have hm24 : (List.replicate ((ns.length : Int) * (ns.length : Int)).toNat 0).length = ((ns.length : Int) * (ns.length : Int)).toNat := List.length_replicate ..
  have hq25 := hq9.below hl14
  refine ⟨fun _ => ⟨hb19.reads, hq25⟩, ?_⟩
  refine dr_take (i := 13) rfl rfl rfl (want_none rfl _) (by kernel_rfl) (fun _ _ => r_build [(.pointer none), (.slice none 0 0)] [(.pointer (some ⟨b, 0, none⟩)), u10] [(0, (.pointer (some ⟨b, 0, none⟩)), [(.pointer (some ⟨b, 0, none⟩))]), (1, u10, [u10])] Tryd.underlying61 zr61 rfl pl61 rfl (List.forall_mem_cons.2 ⟨rfl, (List.forall_mem_cons.2 ⟨(cells_one ho23.one), (fun _ h => by cases h)⟩)⟩) rfl) ⟨hb19.reads, hq25⟩ ?_
  refine dr_one (i := 14) (by kernel_rfl) (drOp1 (i := 14) rfl rfl rfl (want_none rfl _) (o_box [(.pointer (some ⟨b, 0, none⟩)), u10] (v := (.agg [(.pointer (some ⟨b, 0, none⟩)), u10].toArray)) rfl rfl hX16.pins (fun b26 w27 hk28 hb29 hp30 hl31 => ?_)))
  have hX32 := hX16.step hp30 hl31
  have ho35 := ho23.below hl31
  have hb36 := hb19.below hl31
  have ha39 : Apart (some b26) u10.ownBlock := new_ne_own (congrArg some hk28) ho23.lt
  have hlo41 : w.heap.size ≤ b26 := by have := hX16.size; omega
  have hq42 := hq25.below hl31
  refine ⟨fun _ => ⟨hb36.reads, hq42⟩, ?_⟩
  refine dr_take (i := 15) rfl rfl rfl (want_none rfl _) (by kernel_rfl) (fun _ _ => r_assign (v := (.pointer (some ⟨b26, 0, none⟩))) rfl) ⟨hb36.reads, hq42⟩ ?_
  refine dr_end (by kernel_rfl) ?_
  refine s_then ?_
  refine wp_ret ?_
  refine s_ret ?_
  refine c_ret1 (v := (.pointer (some ⟨b26, 0, none⟩))) rfl rfl rfl ?_
  have hrow := ho35
  rw [sq_nat] at hrow
  exact ⟨_, _, _, rfl, hb29, hrow, hlo41, ha39, hX32⟩

theorem l6Through_spec {w : World} {G : Pin} {o b : Nat} {bu bv kv : Value} {ns : List Nd} {bs : List Int} {ks : List Int} {y z : Int} {lf : Bool} (hP : Pins G w) (hO : Od 44 3 G w o b bu bv kv ns bs ks) (hy : 0 ≤ y ∧ y < ns.length) (hz : 0 ≤ z ∧ z < ns.length) (hok : BookOk ns bs) (hka : KAll ns ks) :
    Calls Tryd.prog 31 [(.pointer (some ⟨o, 0, none⟩)), (.int .i64 y), (.int .i64 z), (.bool lf)].toArray w fun e w' => ∃ (t : Int) (ks' : List Int) (G' : Pin), e = .returned (.int .i64 t) ∧ thrP ns lf y z t ∧ Od 44 3 G' w' o b bu bv kv ns bs ks' ∧ KAll ns ks' ∧ Ext (inO kv.ownBlock) G w G' w' := by
  refine s_enter (n := 70) Tryd.func31 Tryd.ntmps31 rfl rfl ?_
  have hX0 : Ext (inO kv.ownBlock) G w G w := Ext.refl hP
  have hB := hO.bk
  have hbx := hB.bx
  have hou := hB.ou
  have hov := hB.ov
  have habu := hB.abu
  have habv := hB.abv
  have hauv := hB.auv
  have hlen := hok.len
  have hlim := hok.lim
  have hox := hO.ox
  have hok2 := hO.ok
  have haok := hO.aok
  have habk := hO.abk
  have hauk := hO.auk
  have havk := hO.avk
  have hlok : Lo w (inO kv.ownBlock) kv.ownBlock := lo_self
  have hoo : OptsOk ns := hok.optsOk
  have hlens := hok.lens
  refine s_seq ?_
  refine c_reg ?_
  refine qd rfl rfl rfl (r_assign (v := (.int .i64 0)) rfl) ?_
  refine qe ?_
  refine s_then ?_
  refine s_seq ?_
  refine s_seq ?_
  refine c_reg ?_
  refine qd rfl rfl rfl (r_move (v := (.bool lf)) rfl) ?_
  refine qe ?_
  refine s_then ?_
  refine c_if rfl rfl (fun h1 => ?_) (fun h1 => ?_)
  · skip
    refine s_seq ?_
    refine c_reg ?_
    refine qd rfl rfl rfl (r_move (v := (.pointer (some ⟨o, 0, none⟩))) rfl) ?_
    refine qd rfl rfl rfl (r_nil rfl) ?_
    refine qd rfl rfl rfl (r_fldp (k := 0) rfl Tryd.underlying61 rfl nz36 rfl) ?_
    refine qd rfl rfl rfl (r_ldp1 (u := (.pointer (some ⟨b, 0, none⟩))) ag36 rfl (hox.cell (o := 0) rfl)) ?_
    refine qd rfl rfl rfl (r_nil rfl) ?_
    refine qd rfl rfl rfl (r_fldp (k := 0) rfl Tryd.underlying39 rfl nz28 rfl) ?_
    refine qd rfl rfl rfl (r_ldp1 (u := bu) ag28 rfl (hbx.cell (o := 0) rfl)) ?_
    refine qd rfl rfl rfl (r_move (v := (.int .i64 z)) rfl) ?_
    refine qd rfl rfl rfl (run_idx Tryd.underlying28 sz44 (v := bu) rfl rfl hou.read (by omega) (by omega)) ?_
    refine qd rfl rfl rfl (run_fld (off := 1) Tryd.underlying44 rfl rfl nz37 (z := z) (k := 0) rfl hou.read (by omega) (by omega)) ?_
    obtain ⟨u2, hr3, hl4⟩ := nm_nr (hou.at (z := z) (by omega) (by omega)) (j := (z).toNat) rfl
    have hm5 := hr3.max
    refine qd rfl rfl rfl (hl4 ag37 rfl (Gadd.pins hX0.pins bu)) ?_
    refine qd rfl rfl rfl (r_assign (v := u2) rfl) ?_
    refine qe ?_
    refine s_then ?_
    refine s_seq ?_
    refine s_seq ?_
    refine c_reg ?_
    refine qd rfl rfl rfl (r_assign (v := (.int .i64 0)) rfl) ?_
    refine qe ?_
    refine s_then ?_
    refine s_blk ?_
    refine s_loop (fun (k : Nat) (en : Nat → Value) (W : World) => ∃ (env1 : Nat → Value) (i : Nat) (kq : List Int) (GL1 : Pin), en = (upd (upd (upd (upd (upd env1 0 (.pointer (some ⟨o, 0, none⟩))) 1 (.int .i64 y)) 2 (.int .i64 z)) 9 u2) 10 (.int .i64 (i : Int))) ∧ k = (ns.getD (z).toNat default).r.length - i ∧ Ext (inO kv.ownBlock) G w GL1 W ∧ Pin.le G GL1 ∧ (i ≤ (ns.getD (z).toNat default).r.length) ∧ (KAll ns kq) ∧ (∀ x, x < i → geB ns y ((ns.getD (z).toNat default).r.getD x 0) = false) ∧ (Own eInt 3 GL1 W 0 kv (kq)) ∧ (Own eNode 44 GL1 W 0 bu (ns)) ∧ (Own eInt 3 GL1 W 0 bv (bs)) ∧ (Bx GL1 W b [bu, bv]) ∧ (Bx GL1 W o [(.pointer (some ⟨b, 0, none⟩)), kv])) _ ⟨_, 0, ks, G, (packS (x := 10) (packS (x := 9) (packS (x := 2) (packS (x := 1) (pack1 (x := 0) rfl) rfl) rfl) rfl) rfl), rfl, hX0, Pin.le_refl _, Nat.zero_le _, hka, (fun x h => absurd h (Nat.not_lt_zero x)), hok2, hou, hov, hbx, hox⟩ ?_
    rintro k6 _ w7 ⟨env1, i, kq, GL1, rfl, hk8, hX9, hlek6, hj, hka1, hpp, hw10, hw11, hw12, hw13, hw14⟩
    refine s_seq ?_
    refine s_seq ?_
    refine c_reg ?_
    refine qd rfl rfl rfl (r_move (v := (.int .i64 (i : Int))) rfl) ?_
    refine qd rfl rfl rfl (r_move (v := u2) rfl) ?_
    refine qd rfl rfl rfl (run_len Tryd.underlying37 (v := u2) rfl hr3) ?_
    refine qd rfl rfl rfl (r_lss rfl rfl) ?_
    refine qe ?_
    refine s_then ?_
    refine c_ifd (p := ((i : Int) : Int) < (((ns.getD (z).toNat default).r).length : Int)) rfl rfl (fun h15 => ?_) (fun h15 => ?_)
    · skip
      have hki := (optsAt hok.optsOk (show (z).toNat < ns.length by omega)).2 _ (getD_mem (d := (0 : Int)) (show i < (ns.getD (z).toNat default).r.length by omega))
      refine wp_skip ?_
      refine s_then ?_
      refine s_seq ?_
      refine s_blk ?_
      refine s_seq ?_
      refine c_reg ?_
      refine qd rfl rfl rfl (r_move (v := (.pointer (some ⟨o, 0, none⟩))) rfl) ?_
      refine qd rfl rfl rfl (r_move (v := (.int .i64 y)) rfl) ?_
      refine qd rfl rfl rfl (r_move (v := u2) rfl) ?_
      refine qd rfl rfl rfl (r_move (v := (.int .i64 (i : Int))) rfl) ?_
      refine qd rfl rfl rfl (run_idx Tryd.underlying37 sz3 (v := u2) rfl rfl hr3 (by omega) (by omega)) ?_
      refine qd rfl rfl rfl (run_load_int (r := ((ns.getD (z).toNat default).r).getD i 0) rfl ag3 (z := (i : Int)) rfl hr3 (Pins.of_le hX9.pins hlek6) (by omega) (by omega)) ?_
      refine q1 rfl rfl rfl (o_call (vs := [(.pointer (some ⟨o, 0, none⟩)), (.int .i64 y), (.int .i64 (((ns.getD (z).toNat default).r).getD i 0))]) Tryd.func29 nm29 rfl rfl rfl ?_)
      refine Calls.mono (geq_spec hX9.pins ⟨⟨hw13, hw11, hw12, habu, habv, hauv⟩, hw14, hw10, haok, habk, hauk, havk⟩ ⟨by omega, by omega⟩ ⟨by omega, by omega⟩ hka1.1 hok (hka1.2 _)) ?_
      rintro _ w18 ⟨ks16, G17, rfl, hd19, hr20, hx21⟩
      refine ⟨_, rfl, ?_⟩
      have hX22 := hX9.trans hx21 (fun i hi => hlok i hi)
      have ho23 := hw11.extS hx21 (notO hauk)
      have ho24 := hw12.extS hx21 (notO havk)
      have hb25 := hw13.extS hx21 (notOb habk)
      have hb26 := hw14.extS hx21 (notOb haok)
      have hkl28 := hr20.len
      have hka29 := KAll.res hka1 hr20
      refine qe ?_
      refine s_then ?_
      refine c_if rfl rfl (fun h30 => ?_) (fun h30 => ?_)
      · skip
        refine s_seq ?_
        refine c_reg ?_
        refine qd rfl rfl rfl (r_move (v := u2) rfl) ?_
        refine qd rfl rfl rfl (r_move (v := (.int .i64 (i : Int))) rfl) ?_
        refine qd rfl rfl rfl (run_idx Tryd.underlying37 sz3 (v := u2) rfl rfl hr3 (by omega) (by omega)) ?_
        refine qd rfl rfl rfl (run_load_int (r := ((ns.getD (z).toNat default).r).getD i 0) rfl ag3 (z := (i : Int)) rfl hr3 (Pins.of_le hX22.pins (Pin.le_trans hlek6 hx21.le)) (by omega) (by omega)) ?_
        refine qd rfl rfl rfl (r_assign (v := (.int .i64 (((ns.getD (z).toNat default).r).getD i 0))) rfl) ?_
        refine qe ?_
        refine s_then ?_
        refine wp_ret ?_
        refine s_ret ?_
        refine c_ret1 (v := (.int .i64 (((ns.getD (z).toNat default).r).getD i 0))) rfl rfl rfl ?_
        exact ⟨_, _, _, rfl, thr_hit hok.optsOk hz (Or.inl ⟨h1, getD_mem (by omega), h30⟩), ⟨⟨hb25, ho23, ho24, habu, habv, hauv⟩, hb26, hd19.ok, haok, habk, hauk, havk⟩, hka29, hX22⟩
      refine wp_skip ?_
      refine s_blkN ?_
      refine s_then ?_
      refine c_reg ?_
      refine qd rfl rfl rfl (r_move (v := (.int .i64 (i : Int))) rfl) ?_
      refine qd rfl rfl rfl (r_add rfl rfl (by omega)) ?_
      refine qd rfl rfl rfl (r_assign (v := (.int .i64 ((i : Int) + 1))) rfl) ?_
      refine qe ?_
      refine s_lopN ?_
      refine ⟨_, ?_, _, rfl, _, i + 1, ks16, G17, (packS (x := 10) (packS (x := 9) (packS (x := 2) (packS (x := 1) (pack1 (x := 0) rfl) rfl) rfl) rfl) rfl), rfl, hX22, (Pin.le_trans hlek6 hx21.le), (by omega), hka29, (fun x h2 => if h3 : x = i then h3 ▸ h30 else hpp x (by omega)), hd19.ok, ho23, ho24, hb25, hb26⟩
      omega
    refine wp_exit ?_
    refine s_thenE ?_
    refine s_lopE ?_
    refine s_blkE ?_
    refine s_then ?_
    refine s_seq ?_
    refine c_reg ?_
    refine qd rfl rfl rfl (r_assign (v := (.int .i64 (-1))) rfl) ?_
    refine qe ?_
    refine s_then ?_
    refine wp_ret ?_
    refine s_ret ?_
    refine c_ret1 (v := (.int .i64 (-1))) rfl rfl rfl ?_
    exact ⟨_, _, _, rfl, (by rw [h1]; exact thr_none_t hok.optsOk hz (fun k hk => hpp k (by omega))), ⟨⟨hw13, hw11, hw12, habu, habv, hauv⟩, hw14, hw10, haok, habk, hauk, havk⟩, hka1, hX9⟩
  refine wp_skip ?_
  refine s_then ?_
  refine s_seq ?_
  refine c_reg ?_
  refine qd rfl rfl rfl (r_move (v := (.pointer (some ⟨o, 0, none⟩))) rfl) ?_
  refine qd rfl rfl rfl (r_nil rfl) ?_
  refine qd rfl rfl rfl (r_fldp (k := 0) rfl Tryd.underlying61 rfl nz36 rfl) ?_
  refine qd rfl rfl rfl (r_ldp1 (u := (.pointer (some ⟨b, 0, none⟩))) ag36 rfl (hox.cell (o := 0) rfl)) ?_
  refine qd rfl rfl rfl (r_nil rfl) ?_
  refine qd rfl rfl rfl (r_fldp (k := 0) rfl Tryd.underlying39 rfl nz28 rfl) ?_
  refine qd rfl rfl rfl (r_ldp1 (u := bu) ag28 rfl (hbx.cell (o := 0) rfl)) ?_
  refine qd rfl rfl rfl (r_move (v := (.int .i64 z)) rfl) ?_
  refine qd rfl rfl rfl (run_idx Tryd.underlying28 sz44 (v := bu) rfl rfl hou.read (by omega) (by omega)) ?_
  refine qd rfl rfl rfl (run_fld (off := 0) Tryd.underlying44 rfl rfl nz37 (z := z) (k := 0) rfl hou.read (by omega) (by omega)) ?_
  obtain ⟨u31, hr32, hl33⟩ := nm_nl (hou.at (z := z) (by omega) (by omega)) (j := (z).toNat) rfl
  have hm34 := hr32.max
  refine qd rfl rfl rfl (hl33 ag37 rfl (Gadd.pins hX0.pins bu)) ?_
  refine qd rfl rfl rfl (r_assign (v := u31) rfl) ?_
  refine qe ?_
  refine s_then ?_
  refine s_seq ?_
  refine s_seq ?_
  refine c_reg ?_
  refine qd rfl rfl rfl (r_assign (v := (.int .i64 0)) rfl) ?_
  refine qe ?_
  refine s_then ?_
  refine s_blk ?_
  refine s_loop (fun (k : Nat) (en : Nat → Value) (W : World) => ∃ (env1 : Nat → Value) (i2 : Nat) (kq : List Int) (GL1 : Pin), en = (upd (upd (upd (upd env1 0 (.pointer (some ⟨o, 0, none⟩))) 1 (.int .i64 y)) 11 u31) 12 (.int .i64 (i2 : Int))) ∧ k = (ns.getD (z).toNat default).l.length - i2 ∧ Ext (inO kv.ownBlock) G w GL1 W ∧ Pin.le G GL1 ∧ (i2 ≤ (ns.getD (z).toNat default).l.length) ∧ (KAll ns kq) ∧ (∀ x, x < i2 → geB ns ((ns.getD (z).toNat default).l.getD x 0) y = false) ∧ (Own eInt 3 GL1 W 0 kv (kq)) ∧ (Own eNode 44 GL1 W 0 bu (ns)) ∧ (Own eInt 3 GL1 W 0 bv (bs)) ∧ (Bx GL1 W b [bu, bv]) ∧ (Bx GL1 W o [(.pointer (some ⟨b, 0, none⟩)), kv])) _ ⟨_, 0, ks, G, (packS (x := 12) (packS (x := 11) (packS (x := 1) (pack1 (x := 0) rfl) rfl) rfl) rfl), rfl, hX0, Pin.le_refl _, Nat.zero_le _, hka, (fun x h => absurd h (Nat.not_lt_zero x)), hok2, hou, hov, hbx, hox⟩ ?_
  rintro k35 _ w36 ⟨env1, i2, kq, GL1, rfl, hk37, hX38, hlek35, hj, hka1, hpp, hw39, hw40, hw41, hw42, hw43⟩
  refine s_seq ?_
  refine s_seq ?_
  refine c_reg ?_
  refine qd rfl rfl rfl (r_move (v := (.int .i64 (i2 : Int))) rfl) ?_
  refine qd rfl rfl rfl (r_move (v := u31) rfl) ?_
  refine qd rfl rfl rfl (run_len Tryd.underlying37 (v := u31) rfl hr32) ?_
  refine qd rfl rfl rfl (r_lss rfl rfl) ?_
  refine qe ?_
  refine s_then ?_
  refine c_ifd (p := ((i2 : Int) : Int) < (((ns.getD (z).toNat default).l).length : Int)) rfl rfl (fun h44 => ?_) (fun h44 => ?_)
  · skip
    have hki := (optsAt hok.optsOk (show (z).toNat < ns.length by omega)).1 _ (getD_mem (d := (0 : Int)) (show i2 < (ns.getD (z).toNat default).l.length by omega))
    refine wp_skip ?_
    refine s_then ?_
    refine s_seq ?_
    refine s_blk ?_
    refine s_seq ?_
    refine c_reg ?_
    refine qd rfl rfl rfl (r_move (v := (.pointer (some ⟨o, 0, none⟩))) rfl) ?_
    refine qd rfl rfl rfl (r_move (v := u31) rfl) ?_
    refine qd rfl rfl rfl (r_move (v := (.int .i64 (i2 : Int))) rfl) ?_
    refine qd rfl rfl rfl (run_idx Tryd.underlying37 sz3 (v := u31) rfl rfl hr32 (by omega) (by omega)) ?_
    refine qd rfl rfl rfl (run_load_int (r := ((ns.getD (z).toNat default).l).getD i2 0) rfl ag3 (z := (i2 : Int)) rfl hr32 (Pins.of_le hX38.pins hlek35) (by omega) (by omega)) ?_
    refine qd rfl rfl rfl (r_move (v := (.int .i64 y)) rfl) ?_
    refine q1 rfl rfl rfl (o_call (vs := [(.pointer (some ⟨o, 0, none⟩)), (.int .i64 (((ns.getD (z).toNat default).l).getD i2 0)), (.int .i64 y)]) Tryd.func29 nm29 rfl rfl rfl ?_)
    refine Calls.mono (geq_spec hX38.pins ⟨⟨hw42, hw40, hw41, habu, habv, hauv⟩, hw43, hw39, haok, habk, hauk, havk⟩ ⟨by omega, by omega⟩ ⟨by omega, by omega⟩ hka1.1 hok (hka1.2 _)) ?_
    rintro _ w47 ⟨ks45, G46, rfl, hd48, hr49, hx50⟩
    refine ⟨_, rfl, ?_⟩
    have hX51 := hX38.trans hx50 (fun i hi => hlok i hi)
    have ho52 := hw40.extS hx50 (notO hauk)
    have ho53 := hw41.extS hx50 (notO havk)
    have hb54 := hw42.extS hx50 (notOb habk)
    have hb55 := hw43.extS hx50 (notOb haok)
    have hkl57 := hr49.len
    have hka58 := KAll.res hka1 hr49
    refine qe ?_
    refine s_then ?_
    refine c_if rfl rfl (fun h59 => ?_) (fun h59 => ?_)
    · skip
      refine s_seq ?_
      refine c_reg ?_
      refine qd rfl rfl rfl (r_move (v := u31) rfl) ?_
      refine qd rfl rfl rfl (r_move (v := (.int .i64 (i2 : Int))) rfl) ?_
      refine qd rfl rfl rfl (run_idx Tryd.underlying37 sz3 (v := u31) rfl rfl hr32 (by omega) (by omega)) ?_
      refine qd rfl rfl rfl (run_load_int (r := ((ns.getD (z).toNat default).l).getD i2 0) rfl ag3 (z := (i2 : Int)) rfl hr32 (Pins.of_le hX51.pins (Pin.le_trans hlek35 hx50.le)) (by omega) (by omega)) ?_
      refine qd rfl rfl rfl (r_assign (v := (.int .i64 (((ns.getD (z).toNat default).l).getD i2 0))) rfl) ?_
      refine qe ?_
      refine s_then ?_
      refine wp_ret ?_
      refine s_ret ?_
      refine c_ret1 (v := (.int .i64 (((ns.getD (z).toNat default).l).getD i2 0))) rfl rfl rfl ?_
      exact ⟨_, _, _, rfl, thr_hit hok.optsOk hz (Or.inr ⟨h1, getD_mem (by omega), h59⟩), ⟨⟨hb54, ho52, ho53, habu, habv, hauv⟩, hb55, hd48.ok, haok, habk, hauk, havk⟩, hka58, hX51⟩
    refine wp_skip ?_
    refine s_blkN ?_
    refine s_then ?_
    refine c_reg ?_
    refine qd rfl rfl rfl (r_move (v := (.int .i64 (i2 : Int))) rfl) ?_
    refine qd rfl rfl rfl (r_add rfl rfl (by omega)) ?_
    refine qd rfl rfl rfl (r_assign (v := (.int .i64 ((i2 : Int) + 1))) rfl) ?_
    refine qe ?_
    refine s_lopN ?_
    refine ⟨_, ?_, _, rfl, _, i2 + 1, ks45, G46, (packS (x := 12) (packS (x := 11) (packS (x := 1) (pack1 (x := 0) rfl) rfl) rfl) rfl), rfl, hX51, (Pin.le_trans hlek35 hx50.le), (by omega), hka58, (fun x h2 => if h3 : x = i2 then h3 ▸ h59 else hpp x (by omega)), hd48.ok, ho52, ho53, hb54, hb55⟩
    omega
  refine wp_exit ?_
  refine s_thenE ?_
  refine s_lopE ?_
  refine s_blkE ?_
  refine s_then ?_
  refine s_seq ?_
  refine c_reg ?_
  refine qd rfl rfl rfl (r_assign (v := (.int .i64 (-1))) rfl) ?_
  refine qe ?_
  refine s_then ?_
  refine wp_ret ?_
  refine s_ret ?_
  refine c_ret1 (v := (.int .i64 (-1))) rfl rfl rfl ?_
  exact ⟨_, _, _, rfl, (by rw [h1]; exact thr_none_f hok.optsOk hz (fun k hk => hpp k (by omega))), ⟨⟨hw42, hw40, hw41, habu, habv, hauv⟩, hw43, hw39, haok, habk, hauk, havk⟩, hka1, hX38⟩

theorem l1Has_spec {w : World} {G : Pin} {v : Value} {xs : List Int} {n : Int} (hP : Pins G w) (hv : RSl eInt G v xs) :
    Calls Tryd.prog 53 [v, (.int .i64 n)].toArray w fun e w' => ∃ (t : Bool) (G' : Pin), e = .returned (.bool t) ∧ Ext noS G w G' w' := by
  refine s_enter (n := 18) Tryd.func53 Tryd.ntmps53 rfl rfl ?_
  have hX0 : Ext noS G w G w := Ext.refl hP
  have hm := hv.max
  refine s_seq ?_
  refine c_reg ?_
  refine qd rfl rfl rfl (r_assign (v := (.bool false)) rfl) ?_
  refine qe ?_
  refine s_then ?_
  refine s_seq ?_
  refine s_seq ?_
  refine c_reg ?_
  refine qd rfl rfl rfl (r_assign (v := (.int .i64 0)) rfl) ?_
  refine qe ?_
  refine s_then ?_
  refine s_blk ?_
  refine s_loop (fun (k : Nat) (en : Nat → Value) (W : World) => ∃ (env1 : Nat → Value) (j : Nat) (GL1 : Pin), en = (upd (upd (upd env1 0 v) 1 (.int .i64 n)) 5 (.int .i64 (j : Int))) ∧ k = xs.length - j ∧ Ext noS G w GL1 W ∧ Pin.le G GL1 ∧ (j ≤ xs.length)) _ ⟨_, 0, G, (packS (x := 5) (packS (x := 1) (pack1 (x := 0) rfl) rfl) rfl), rfl, hX0, Pin.le_refl _, Nat.zero_le _⟩ ?_
  rintro k1 _ w2 ⟨env1, j, GL1, rfl, hk3, hX4, hlek1, hj⟩
  refine s_seq ?_
  refine s_seq ?_
  refine c_reg ?_
  refine qd rfl rfl rfl (r_move (v := (.int .i64 (j : Int))) rfl) ?_
  refine qd rfl rfl rfl (r_move (v := v) rfl) ?_
  refine qd rfl rfl rfl (run_len Tryd.underlying37 (v := v) rfl hv) ?_
  refine qd rfl rfl rfl (r_lss rfl rfl) ?_
  refine qe ?_
  refine s_then ?_
  refine c_ifd (p := ((j : Int) : Int) < (xs.length : Int)) rfl rfl (fun h5 => ?_) (fun h5 => ?_)
  · skip
    refine wp_skip ?_
    refine s_then ?_
    refine s_seq ?_
    refine s_blk ?_
    refine s_seq ?_
    refine c_reg ?_
    refine qd rfl rfl rfl (r_move (v := v) rfl) ?_
    refine qd rfl rfl rfl (r_move (v := (.int .i64 (j : Int))) rfl) ?_
    refine qd rfl rfl rfl (run_idx Tryd.underlying37 sz3 (v := v) rfl rfl hv (by omega) (by omega)) ?_
    refine qd rfl rfl rfl (run_load_int (r := xs.getD j 0) rfl ag3 (z := (j : Int)) rfl hv (Pins.of_le hX4.pins hlek1) (by omega) (by omega)) ?_
    refine qd rfl rfl rfl (r_move (v := (.int .i64 n)) rfl) ?_
    refine qd rfl rfl rfl (r_eql rfl rfl) ?_
    refine qe ?_
    refine s_then ?_
    refine c_ifd (p := (xs.getD j 0 : Int) = n) rfl rfl (fun h6 => ?_) (fun h6 => ?_)
    · skip
      refine s_seq ?_
      refine c_reg ?_
      refine qd rfl rfl rfl (r_assign (v := (.bool true)) rfl) ?_
      refine qe ?_
      refine s_then ?_
      refine wp_ret ?_
      refine s_ret ?_
      refine c_ret1 (v := (.bool true)) rfl rfl rfl ?_
      exact ⟨_, _, rfl, hX4⟩
    refine wp_skip ?_
    refine s_blkN ?_
    refine s_then ?_
    refine c_reg ?_
    refine qd rfl rfl rfl (r_move (v := (.int .i64 (j : Int))) rfl) ?_
    refine qd rfl rfl rfl (r_add rfl rfl (by omega)) ?_
    refine qd rfl rfl rfl (r_assign (v := (.int .i64 ((j : Int) + 1))) rfl) ?_
    refine qe ?_
    refine s_lopN ?_
    refine ⟨_, ?_, _, rfl, _, j + 1, GL1, (packS (x := 5) (packS (x := 1) (pack1 (x := 0) rfl) rfl) rfl), rfl, hX4, hlek1, (by omega)⟩
    omega
  refine wp_exit ?_
  refine s_thenE ?_
  refine s_lopE ?_
  refine s_blkE ?_
  refine s_then ?_
  refine s_seq ?_
  refine c_reg ?_
  refine qd rfl rfl rfl (r_assign (v := (.bool false)) rfl) ?_
  refine qe ?_
  refine s_then ?_
  refine wp_ret ?_
  refine s_ret ?_
  refine c_ret1 (v := (.bool false)) rfl rfl rfl ?_
  exact ⟨_, _, rfl, hX4⟩

theorem l6Without_spec {w : World} {G : Pin} {x y : Value} {xs D : List Int} (hP : Pins G w) (hx : RSl eInt G x xs) (hy : RSl eInt G y D) (hxl : xs.length ≤ 1048576) :
    Calls Tryd.prog 32 [x, y].toArray w fun e w' => ∃ (u : Value) (zs : List Int) (G' : Pin), e = .returned u ∧ Own eInt 3 G' w' w.heap.size u zs ∧ zs.length ≤ 1048576 ∧ Ext noS G w G' w' := by
  refine s_enter (n := 26) Tryd.func32 Tryd.ntmps32 rfl rfl ?_
  have hX0 : Ext noS G w G w := Ext.refl hP
  refine s_seq ?_
  refine c_reg ?_
  refine qd rfl rfl rfl (r_assign (v := (.slice none 0 0)) rfl) ?_
  refine qe ?_
  refine s_then ?_
  refine s_seq ?_
  refine c_reg ?_
  refine q1 rfl rfl rfl (o_build0 (E := eInt) (e := 3) Tryd.underlying37 sz3 hX0.pins (fun u1 w2 ho3 hp4 hl5 hk6 => ?_))
  have hX7 := hX0.step hp4 hl5
  have ho8 : Own eInt 3 G w2 w.heap.size u1 ([]) := ho3.weaken hX0.size
  refine qd rfl rfl rfl (r_assign (v := u1) rfl) ?_
  refine qe ?_
  refine s_then ?_
  refine s_seq ?_
  refine s_seq ?_
  refine c_reg ?_
  refine qd rfl rfl rfl (r_assign (v := (.int .i64 0)) rfl) ?_
  refine qe ?_
  refine s_then ?_
  refine s_blk ?_
  refine s_loop (fun (k : Nat) (en : Nat → Value) (W : World) => ∃ (env1 : Nat → Value) (i : Nat) (ov : Value) (out : List Int) (GL1 : Pin), en = (upd (upd (upd (upd (upd env1 0 x) 1 y) 4 (.slice none 0 0)) 5 ov) 6 (.int .i64 (i : Int))) ∧ k = xs.length - i ∧ Ext noS G w GL1 W ∧ Pin.le G GL1 ∧ (i ≤ xs.length) ∧ (out.length ≤ i) ∧ (Own eInt 3 GL1 W w.heap.size ov (out))) _ ⟨_, 0, u1, [], G, (packS (x := 6) (packS (x := 5) (packS (x := 4) (packS (x := 1) (pack1 (x := 0) rfl) rfl) rfl) rfl) rfl), rfl, hX7, Pin.le_refl _, Nat.zero_le _, Nat.le_refl 0, ho8⟩ ?_
  rintro k9 _ w10 ⟨env1, i, ov, out, GL1, rfl, hk11, hX12, hlek9, hi, hol, hw13⟩
  refine s_seq ?_
  refine s_seq ?_
  refine c_reg ?_
  refine qd rfl rfl rfl (r_move (v := (.int .i64 (i : Int))) rfl) ?_
  refine qd rfl rfl rfl (r_move (v := x) rfl) ?_
  refine qd rfl rfl rfl (run_len Tryd.underlying37 (v := x) rfl hx) ?_
  refine qd rfl rfl rfl (r_lss rfl rfl) ?_
  refine qe ?_
  refine s_then ?_
  refine c_ifd (p := ((i : Int) : Int) < (xs.length : Int)) rfl rfl (fun h14 => ?_) (fun h14 => ?_)
  · skip
    refine wp_skip ?_
    refine s_then ?_
    refine s_seq ?_
    refine s_blk ?_
    refine s_seq ?_
    refine c_reg ?_
    refine qd rfl rfl rfl (r_move (v := y) rfl) ?_
    refine qd rfl rfl rfl (r_move (v := (.int .i64 (i : Int))) rfl) ?_
    refine q1 rfl rfl rfl (o_call (vs := [y, (.int .i64 (i : Int))]) Tryd.func53 nm53 rfl rfl rfl ?_)
    refine Calls.mono (l1Has_spec (n := (i : Int)) hX12.pins (hy.mono hlek9)) ?_
    rintro _ w17 ⟨t15, G16, rfl, hx18⟩
    refine ⟨_, rfl, ?_⟩
    have hX19 := hX12.tr hx18
    have ho20 := hw13.ext hx18
    refine qd rfl rfl rfl (r_not rfl) ?_
    refine qe ?_
    refine s_then ?_
    refine c_ifn rfl rfl (fun h21 => ?_) (fun h21 => ?_)
    · skip
      refine wp_skip ?_
      refine s_blkN ?_
      refine s_then ?_
      refine c_reg ?_
      refine qd rfl rfl rfl (r_move (v := (.int .i64 (i : Int))) rfl) ?_
      refine qd rfl rfl rfl (r_add rfl rfl (by omega)) ?_
      refine qd rfl rfl rfl (r_assign (v := (.int .i64 ((i : Int) + 1))) rfl) ?_
      refine qe ?_
      refine s_lopN ?_
      refine ⟨_, ?_, _, rfl, _, i + 1, ov, out, G16, (packS (x := 6) (packS (x := 5) (packS (x := 4) (packS (x := 1) (pack1 (x := 0) rfl) rfl) rfl) rfl) rfl), rfl, hX19, (Pin.le_trans hlek9 hx18.le), (by omega), (by first | omega | (rw [List.length_append, List.length_singleton]; omega)), ho20⟩
      omega
    refine c_reg ?_
    refine qd rfl rfl rfl (r_move (v := ov) rfl) ?_
    refine qd rfl rfl rfl (r_move (v := x) rfl) ?_
    refine qd rfl rfl rfl (r_move (v := (.int .i64 (i : Int))) rfl) ?_
    refine qd rfl rfl rfl (run_idx Tryd.underlying37 sz3 (v := x) rfl rfl hx (by omega) (by omega)) ?_
    refine qd rfl rfl rfl (run_load_int (r := xs.getD i 0) rfl ag3 (z := (i : Int)) rfl hx (Pins.of_le hX19.pins (Pin.le_trans hlek9 hx18.le)) (by omega) (by omega)) ?_
    refine q1 rfl rfl rfl (o_buildF (E := eInt) (e := 3) [(.int .i64 (xs.getD i 0))] [xs.getD i 0] Tryd.underlying37 sz3 zr3 (by exact reps1 (by rfl)) (ones1 (by rfl)) rfl rfl rfl rfl (by decide) hX19.pins (fun u22 w23 ho24 hp25 hl26 hk27 => ?_))
    have hX28 := hX19.step hp25 hl26
    have ho29 := ho20.below hl26
    have ha30 : Apart u22.ownBlock ov.ownBlock := new_ne_own hk27 ho20.lt
    have ho31 : Own eInt 3 G16 w23 w.heap.size u22 ([xs.getD i 0]) := ho24.weaken hX19.size
    refine q1 rfl rfl rfl (o_append (E := eInt) (v := ov) (u := u22) 8 Tryd.underlying37 ap3 (by decide) rfl rfl hX28.pins ho29 ho31.src (by first | omega | (rw [List.nil_append]; omega) | (rw [List.length_nil]; omega) | (rw [List.length_append]; omega) | (simp; done) | (simp; omega) | (simp only [List.length_append, List.length_cons, List.length_nil]; omega)) (by first | omega | (rw [List.nil_append]; omega) | (rw [List.length_nil]; omega) | (rw [List.length_append]; omega) | (simp; done) | (simp; omega) | (simp only [List.length_append, List.length_cons, List.length_nil]; omega)) (hX28.size) (fun u32 w33 ho34 hp35 hg36 hw37 => ?_))
    have hX38 := hX28.write hp35 hg36 ((lo_own ho29))
    have ha40 : Apart u22.ownBlock u32.ownBlock := app_ne_own ha30 hw37 ho31.lt
    have hm41 : (out ++ ([xs.getD i 0])).length = out.length + 1 := List.length_append
    refine qd rfl rfl rfl (r_assign (v := u32) rfl) ?_
    refine qe ?_
    refine s_blkN ?_
    refine s_then ?_
    refine c_reg ?_
    refine qd rfl rfl rfl (r_move (v := (.int .i64 (i : Int))) rfl) ?_
    refine qd rfl rfl rfl (r_add rfl rfl (by omega)) ?_
    refine qd rfl rfl rfl (r_assign (v := (.int .i64 ((i : Int) + 1))) rfl) ?_
    refine qe ?_
    refine s_lopN ?_
    refine ⟨_, ?_, _, rfl, _, i + 1, u32, out ++ ([xs.getD i 0]), G16, (packS (x := 6) (packS (x := 5) (packS (x := 4) (packS (x := 1) (pack1 (x := 0) rfl) rfl) rfl) rfl) rfl), rfl, hX38, (Pin.le_trans hlek9 hx18.le), (by omega), (by first | omega | (rw [List.length_append, List.length_singleton]; omega)), ho34⟩
    omega
  refine wp_exit ?_
  refine s_thenE ?_
  refine s_lopE ?_
  refine s_blkE ?_
  refine s_then ?_
  refine s_seq ?_
  refine c_reg ?_
  refine qd rfl rfl rfl (r_move (v := ov) rfl) ?_
  refine qd rfl rfl rfl (r_assign (v := ov) rfl) ?_
  refine qe ?_
  refine s_then ?_
  refine wp_ret ?_
  refine s_ret ?_
  refine c_ret1 (v := ov) rfl rfl rfl ?_
  exact ⟨_, _, _, rfl, hw13, (by omega), hX12⟩

theorem l6Bypass_spec {w : World} {G : Pin} {o b : Nat} {bu bv kv : Value} {ns : List Nd} {bs : List Int} {ks : List Int} {y : Int} (hP : Pins G w) (hO : Od 44 3 G w o b bu bv kv ns bs ks) (hy : 0 ≤ y ∧ y < ns.length) (hok : BookOk ns bs) (hka : KAll ns ks) :
    Calls Tryd.prog 14 [(.pointer (some ⟨o, 0, none⟩)), (.int .i64 y)].toArray w fun e w' => ∃ (u1 u2 : Value) (t : Bool) (ks' : List Int) (G' : Pin), e = .returned (.tuple #[u1, u2, .bool t]) ∧ t = decP (hasRev ns (y).toNat) ∧ Od 44 3 G' w' o b bu bv kv ns bs ks' ∧ KAll ns ks' ∧ Ext (inO kv.ownBlock) G w G' w' := by
  refine s_enter (n := 94) Tryd.func14 Tryd.ntmps14 rfl rfl ?_
  have hX0 : Ext (inO kv.ownBlock) G w G w := Ext.refl hP
  have hB := hO.bk
  have hbx := hB.bx
  have hou := hB.ou
  have hov := hB.ov
  have habu := hB.abu
  have habv := hB.abv
  have hauv := hB.auv
  have hlen := hok.len
  have hlim := hok.lim
  have hox := hO.ox
  have hok2 := hO.ok
  have haok := hO.aok
  have habk := hO.abk
  have hauk := hO.auk
  have havk := hO.avk
  have hlok : Lo w (inO kv.ownBlock) kv.ownBlock := lo_self
  have hoo : OptsOk ns := hok.optsOk
  have hlens := hok.lens
  have hoy := optsAt hok.optsOk (show (y).toNat < ns.length by omega)
  have hly := hok.lens (y).toNat (by omega)
  refine s_seq ?_
  refine c_reg ?_
  refine qd rfl rfl rfl (r_assign (v := (.slice none 0 0)) rfl) ?_
  refine qd rfl rfl rfl (r_assign (v := (.slice none 0 0)) rfl) ?_
  refine qd rfl rfl rfl (r_assign (v := (.bool false)) rfl) ?_
  refine qe ?_
  refine s_then ?_
  refine s_seq ?_
  refine c_reg ?_
  refine qd rfl rfl rfl (r_move (v := (.pointer (some ⟨o, 0, none⟩))) rfl) ?_
  refine qd rfl rfl rfl (r_nil rfl) ?_
  refine qd rfl rfl rfl (r_fldp (k := 0) rfl Tryd.underlying61 rfl nz36 rfl) ?_
  refine qd rfl rfl rfl (r_ldp1 (u := (.pointer (some ⟨b, 0, none⟩))) ag36 rfl (hox.cell (o := 0) rfl)) ?_
  refine qd rfl rfl rfl (r_nil rfl) ?_
  refine qd rfl rfl rfl (r_fldp (k := 0) rfl Tryd.underlying39 rfl nz28 rfl) ?_
  refine qd rfl rfl rfl (r_ldp1 (u := bu) ag28 rfl (hbx.cell (o := 0) rfl)) ?_
  refine qd rfl rfl rfl (r_move (v := (.int .i64 y)) rfl) ?_
  refine qd rfl rfl rfl (run_idx Tryd.underlying28 sz44 (v := bu) rfl rfl hou.read (by omega) (by omega)) ?_
  obtain ⟨u1, u2, hr3, hr4, hl5⟩ := nm_node (hou.at (z := y) (by omega) (by omega)) (j := (y).toNat) rfl
  have hm6 := hr3.max
  have hm7 := hr4.max
  refine qd rfl rfl rfl (hl5 ag44 sz44 rfl (Gadd.pins hX0.pins bu)) ?_
  refine q1 rfl rfl rfl (o_alloc [(.slice none 0 0), (.slice none 0 0)] zr44 rfl hX0.pins (fun b8 w9 hk10 hb11 hp12 hl13 => ?_))
  have hX14 := hX0.step hp12 hl13
  have ho15 := hou.below hl13
  have ho16 := hov.below hl13
  have ho17 := hok2.below hl13
  have hb18 := hbx.below hl13
  have hb19 := hox.below hl13
  have ha20 : Apart (some b8) bu.ownBlock := new_ne_own (congrArg some hk10) hou.lt
  have ha21 : Apart (some b8) bv.ownBlock := new_ne_own (congrArg some hk10) hov.lt
  have ha22 : Apart (some b8) kv.ownBlock := new_ne_own (congrArg some hk10) hok2.lt
  have ha23 : Apart (some b8) (some b) := new_ne_box (congrArg some hk10) hbx.lt
  have ha24 : Apart (some b8) (some o) := new_ne_box (congrArg some hk10) hox.lt
  have hlo25 : w.heap.size ≤ b8 := by have := hX0.size; omega
  refine q0 rfl rfl rfl (o_stp (cs' := [u1, u2]) (us := [u1, u2]) (v := (.agg [u1, u2].toArray)) sz44 rfl rfl rfl (ones2 hr3.one hr4.one) hX14.pins hb11 (Nat.le_of_ble_eq_true rfl) rfl (fun w26 hb27 hp28 hg29 hz30 => ?_))
  have hX31 := hX14.write hp28 hg29 ((lo_box hlo25))
  have ho32 := ho15.keptA hg29 ha20.symm
  have ho33 := ho16.keptA hg29 ha21.symm
  have ho34 := ho17.keptA hg29 ha22.symm
  have hb35 := hb18.keptA hg29 ha23.symm
  have hb36 := hb19.keptA hg29 ha24.symm
  obtain ⟨G37, hle38, hX39, hbp40, hf41⟩ := hb27.shut hX31 hlo25
  have ho42 := ho32.moreA hle38 hf41 ha20.symm
  have ho43 := ho33.moreA hle38 hf41 ha21.symm
  have ho44 := ho34.moreA hle38 hf41 ha22.symm
  have hb45 := hb35.moreA hf41 ha23.symm
  have hb46 := hb36.moreA hf41 ha24.symm
  refine qe ?_
  refine s_then ?_
  refine s_seq ?_
  refine s_seq ?_
  refine c_reg ?_
  refine qd rfl rfl rfl (r_assign (v := (.int .i64 0)) rfl) ?_
  refine qe ?_
  refine s_then ?_
  refine s_blk ?_
  refine s_loop (fun (k : Nat) (en : Nat → Value) (W : World) => ∃ (env1 : Nat → Value) (i : Nat) (kql : List Int) (GLl : Pin), en = (upd (upd (upd (upd env1 0 (.pointer (some ⟨o, 0, none⟩))) 1 (.int .i64 y)) 7 (.pointer (some ⟨b8, 0, none⟩))) 8 (.int .i64 (i : Int))) ∧ k = (ns.getD (y).toNat default).l.length - i ∧ Ext (inO kv.ownBlock) G w GLl W ∧ Pin.le G37 GLl ∧ (i ≤ (ns.getD (y).toNat default).l.length) ∧ (KAll ns kql) ∧ (∀ a, a < i → ¬ revP true (den ns (y).toNat) (gN ns (ns.getD (y).toNat default).l a)) ∧ (Own eInt 3 GLl W 0 kv (kql)) ∧ (Own eNode 44 GLl W 0 bu (ns)) ∧ (Own eInt 3 GLl W 0 bv (bs)) ∧ (Bx GLl W b [bu, bv]) ∧ (Bx GLl W o [(.pointer (some ⟨b, 0, none⟩)), kv])) _ ⟨_, 0, ks, G37, (packS (x := 8) (packS (x := 7) (packS (x := 1) (pack1 (x := 0) rfl) rfl) rfl) rfl), rfl, hX39, Pin.le_refl _, Nat.zero_le _, hka, (fun x h => absurd h (Nat.not_lt_zero x)), ho44, ho42, ho43, hb45, hb46⟩ ?_
  rintro k47 _ w48 ⟨env1, i, kql, GLl, rfl, hk49, hX50, hlek47, hji, hkal, hppl, hw51, hw52, hw53, hw54, hw55⟩
  refine s_seq ?_
  refine s_seq ?_
  refine c_reg ?_
  refine qd rfl rfl rfl (r_move (v := (.int .i64 (i : Int))) rfl) ?_
  refine qd rfl rfl rfl (r_fldp (k := 0) rfl Tryd.underlying44 rfl nz37 rfl) ?_
  refine qd rfl rfl rfl (r_ldp1 (u := u1) ag37 rfl ((Pins.of_le hX50.pins hlek47) _ _ _ (hbp40 0 _ rfl))) ?_
  refine qd rfl rfl rfl (run_len Tryd.underlying37 (v := u1) rfl hr3) ?_
  refine qd rfl rfl rfl (r_lss rfl rfl) ?_
  refine qe ?_
  refine s_then ?_
  refine c_ifd (p := ((i : Int) : Int) < (((ns.getD (y).toNat default).l).length : Int)) rfl rfl (fun h56 => ?_) (fun h56 => ?_)
  · skip
    have hki := hoy.1 _ (getD_mem (d := (0 : Int)) (show i < (ns.getD (y).toNat default).l.length by omega))
    refine wp_skip ?_
    refine s_then ?_
    refine s_seq ?_
    refine s_blk ?_
    refine s_seq ?_
    refine c_reg ?_
    refine qd rfl rfl rfl (r_move (v := (.pointer (some ⟨o, 0, none⟩))) rfl) ?_
    refine qd rfl rfl rfl (r_move (v := (.int .i64 y)) rfl) ?_
    refine qd rfl rfl rfl (r_fldp (k := 0) rfl Tryd.underlying44 rfl nz37 rfl) ?_
    refine qd rfl rfl rfl (r_ldp1 (u := u1) ag37 rfl ((Pins.of_le hX50.pins hlek47) _ _ _ (hbp40 0 _ rfl))) ?_
    refine qd rfl rfl rfl (r_move (v := (.int .i64 (i : Int))) rfl) ?_
    refine qd rfl rfl rfl (run_idx Tryd.underlying37 sz3 (v := u1) rfl rfl hr3 (by omega) (by omega)) ?_
    refine qd rfl rfl rfl (run_load_int (r := ((ns.getD (y).toNat default).l).getD i 0) rfl ag3 (z := (i : Int)) rfl hr3 (Pins.of_le hX50.pins (Pin.le_trans hle38 hlek47)) (by omega) (by omega)) ?_
    refine q1 rfl rfl rfl (o_call (vs := [(.pointer (some ⟨o, 0, none⟩)), (.int .i64 y), (.int .i64 (((ns.getD (y).toNat default).l).getD i 0)), (.bool true)]) Tryd.func31 nm31 rfl rfl rfl ?_)
    refine Calls.mono (l6Through_spec (lf := true) hX50.pins ⟨⟨hw54, hw52, hw53, habu, habv, hauv⟩, hw55, hw51, haok, habk, hauk, havk⟩ ⟨by omega, by omega⟩ ⟨by omega, by omega⟩ hok hkal) ?_
    rintro _ w60 ⟨t57, ks58, G59, rfl, hthr61, hd62, hka63, hx64⟩
    refine ⟨_, rfl, ?_⟩
    have hX65 := hX50.trans hx64 (fun i hi => hlok i hi)
    have ho66 := hw52.extS hx64 (notO hauk)
    have ho67 := hw53.extS hx64 (notO havk)
    have hb68 := hw54.extS hx64 (notOb habk)
    have hb69 := hw55.extS hx64 (notOb haok)
    refine qd rfl rfl rfl (r_assign (v := (.int .i64 t57)) rfl) ?_
    refine qe ?_
    refine s_then ?_
    refine s_seq ?_
    refine c_reg ?_
    refine qd rfl rfl rfl (r_move (v := (.int .i64 t57)) rfl) ?_
    refine qd rfl rfl rfl (r_geq rfl rfl) ?_
    refine qe ?_
    refine s_then ?_
    refine c_ifd (p := (0 : Int) ≤ t57) rfl rfl (fun h70 => ?_) (fun h70 => ?_)
    · skip
      refine s_seq ?_
      have htl := thr_pl hok.optsOk (by omega) hthr61 (by omega)
      have htl1 := htl.1
      have htl2 := htl.2
      have hlt := hok.lens t57.toNat (by omega)
      have hq71 := Gadd.pins hX65.pins bu
      have hr72 := ho66.read
      refine c_draw (S := fun wz => Pins G59 wz ∧ BxR wz o [(.pointer (some ⟨b, 0, none⟩)), kv] ∧ BxR wz b [bu, bv] ∧ Pins (Gadd G59 w60 bu) wz) (last := 22) (by kernel_rfl) rfl ?_
      have hl73 : Below w60.heap.size w60 w60.drew := (Below.refl _ _).drew
      have hp74 := hX65.pins.below hl73
      have hX75 := hX65.step hp74 hl73
      have ho76 := hd62.ok.below hl73
      have ho77 := ho66.below hl73
      have ho78 := ho67.below hl73
      have hb79 := hb68.below hl73
      have hb80 := hb69.below hl73
      have hq81 := hq71.below hl73
      refine dr_take (i := 0) rfl rfl rfl (want_none rfl _) (by kernel_rfl) (fun _ _ => r_fldp (k := 0) rfl Tryd.underlying44 rfl nz37 rfl) ⟨hX75.pins, hb80.reads, hb79.reads, hq81⟩ ?_
      refine dr_take (i := 1) rfl rfl rfl (want_none rfl _) (by kernel_rfl) (fun _ hS => r_ldp1 (u := u1) ag37 rfl ((Pins.of_le hS.1 (Pin.le_trans hlek47 hx64.le)) _ _ _ (hbp40 0 _ rfl))) ⟨hX75.pins, hb80.reads, hb79.reads, hq81⟩ ?_
      refine dr_take (i := 2) rfl rfl rfl (want_none rfl _) (by kernel_rfl) (fun _ _ => r_move (v := (.int .i64 (i : Int))) rfl) ⟨hX75.pins, hb80.reads, hb79.reads, hq81⟩ ?_
      refine dr_take (i := 5) rfl rfl rfl (want_none rfl _) (by kernel_rfl) (fun _ _ => r_move (v := (.pointer (some ⟨o, 0, none⟩))) rfl) ⟨hX75.pins, hb80.reads, hb79.reads, hq81⟩ ?_
      refine dr_take (i := 6) rfl rfl rfl (want_none rfl _) (by kernel_rfl) (fun _ _ => r_nil rfl) ⟨hX75.pins, hb80.reads, hb79.reads, hq81⟩ ?_
      refine dr_take (i := 7) rfl rfl rfl (want_none rfl _) (by kernel_rfl) (fun _ _ => r_fldp (k := 0) rfl Tryd.underlying61 rfl nz36 rfl) ⟨hX75.pins, hb80.reads, hb79.reads, hq81⟩ ?_
      refine dr_take (i := 8) rfl rfl rfl (want_none rfl _) (by kernel_rfl) (fun _ hS => r_ldp1 (u := (.pointer (some ⟨b, 0, none⟩))) ag36 rfl (hS.2.1 0 _ rfl)) ⟨hX75.pins, hb80.reads, hb79.reads, hq81⟩ ?_
      refine dr_take (i := 9) rfl rfl rfl (want_none rfl _) (by kernel_rfl) (fun _ _ => r_nil rfl) ⟨hX75.pins, hb80.reads, hb79.reads, hq81⟩ ?_
      refine dr_take (i := 10) rfl rfl rfl (want_none rfl _) (by kernel_rfl) (fun _ _ => r_fldp (k := 0) rfl Tryd.underlying39 rfl nz28 rfl) ⟨hX75.pins, hb80.reads, hb79.reads, hq81⟩ ?_
      refine dr_take (i := 11) rfl rfl rfl (want_none rfl _) (by kernel_rfl) (fun _ hS => r_ldp1 (u := bu) ag28 rfl (hS.2.2.1 0 _ rfl)) ⟨hX75.pins, hb80.reads, hb79.reads, hq81⟩ ?_
      refine dr_take (i := 12) rfl rfl rfl (want_none rfl _) (by kernel_rfl) (fun _ _ => r_move (v := (.int .i64 t57)) rfl) ⟨hX75.pins, hb80.reads, hb79.reads, hq81⟩ ?_
      refine dr_take (i := 13) rfl rfl rfl (want_none rfl _) (by kernel_rfl) (fun _ _ => run_idx Tryd.underlying28 sz44 (v := bu) rfl rfl hr72 (by omega) (by omega)) ⟨hX75.pins, hb80.reads, hb79.reads, hq81⟩ ?_
      refine dr_take (i := 14) rfl rfl rfl (want_none rfl _) (by kernel_rfl) (fun _ _ => run_fld (off := 0) Tryd.underlying44 rfl rfl nz37 (z := t57) (k := 0) rfl hr72 (by omega) (by omega)) ⟨hX75.pins, hb80.reads, hb79.reads, hq81⟩ ?_
      obtain ⟨u82, hr83, hl84⟩ := nm_nl (ho66.at (z := t57) (by omega) (by omega)) (j := (t57).toNat) rfl
      have hm85 := hr83.max
      refine dr_take (i := 15) rfl rfl rfl (want_none rfl _) (by kernel_rfl) (fun _ hS => hl84 ag37 rfl hS.2.2.2) ⟨hX75.pins, hb80.reads, hb79.reads, hq81⟩ ?_
      refine dr_take (i := 17) rfl rfl rfl (want_none rfl _) (by kernel_rfl) (fun _ _ => r_fldp (k := 1) rfl Tryd.underlying44 rfl nz37 rfl) ⟨hX75.pins, hb80.reads, hb79.reads, hq81⟩ ?_
      refine dr_take (i := 18) rfl rfl rfl (want_none rfl _) (by kernel_rfl) (fun _ hS => r_ldp1 (u := u2) ag37 rfl ((Pins.of_le hS.1 (Pin.le_trans hlek47 hx64.le)) _ _ _ (hbp40 1 _ rfl))) ⟨hX75.pins, hb80.reads, hb79.reads, hq81⟩ ?_
      refine dr_one (i := 3) (by kernel_rfl) (drOp1 (i := 3) rfl rfl rfl (want_none rfl _) (o_buildF (E := eInt) (e := 3) [(.int .i64 (i : Int))] [(i : Int)] Tryd.underlying37 sz3 zr3 (by exact reps1 (by rfl)) (ones1 (by rfl)) rfl rfl rfl rfl (by decide) hX75.pins (fun u86 w87 ho88 hp89 hl90 hk91 => ?_)))
      have hX92 := hX75.step hp89 hl90
      have ho93 := ho76.below hl90
      have ho94 := ho77.below hl90
      have ho95 := ho78.below hl90
      have hb96 := hb79.below hl90
      have hb97 := hb80.below hl90
      have ha98 : Apart u86.ownBlock kv.ownBlock := new_ne_own hk91 ho76.lt
      have ha99 : Apart u86.ownBlock bu.ownBlock := new_ne_own hk91 ho77.lt
      have ha100 : Apart u86.ownBlock bv.ownBlock := new_ne_own hk91 ho78.lt
      have ha101 : Apart u86.ownBlock (some b) := new_ne_box hk91 hb79.lt
      have ha102 : Apart u86.ownBlock (some o) := new_ne_box hk91 hb80.lt
      have ho103 : Own eInt 3 G59 w87 w.heap.size u86 ([(i : Int)]) := ho88.weaken hX75.size
      have hq104 := hq81.below hl90
      refine ⟨fun _ => ⟨hX92.pins, hb97.reads, hb96.reads, hq104⟩, ?_⟩
      obtain ⟨G105, hle108, hX107, hr106, hf109⟩ := ho103.sealed hX92
      have ho110 := ho93.moreO hle108 hf109 ha98.symm
      have ho111 := ho94.moreO hle108 hf109 ha99.symm
      have ho112 := ho95.moreO hle108 hf109 ha100.symm
      have hb113 := hb96.moreO hf109 ha101.symm
      have hb114 := hb97.moreO hf109 ha102.symm
      refine dr_one (i := 4) (by kernel_rfl) (drOp1 (i := 4) rfl rfl rfl (want_none rfl _) (o_call (vs := [u1, u86]) Tryd.func32 nm32 rfl rfl rfl ?_))
      refine Calls.mono (l6Without_spec hX107.pins (hr3.mono (Pin.le_trans (Pin.le_trans (Pin.le_trans hle38 hlek47) hx64.le) hle108)) hr106 (by omega)) ?_
      rintro _ w118 ⟨u115, zs116, G117, rfl, ho119, hzl120, hx121⟩
      refine ⟨_, rfl, ?_⟩
      have hX122 := hX107.tr hx121
      have ho123 := ho110.ext hx121
      have ho124 := ho111.ext hx121
      have ho125 := ho112.ext hx121
      have hb126 := hb113.ext hx121
      have hb127 := hb114.ext hx121
      have ha128 : Apart u115.ownBlock kv.ownBlock := made_ne_own ho119.lt ho110.lt
      have ha129 : Apart u115.ownBlock bu.ownBlock := made_ne_own ho119.lt ho111.lt
      have ha130 : Apart u115.ownBlock bv.ownBlock := made_ne_own ho119.lt ho112.lt
      have ha131 : Apart u115.ownBlock (some b) := made_ne_box ho119.lt hb113.lt
      have ha132 : Apart u115.ownBlock (some o) := made_ne_box ho119.lt hb114.lt
      have ho133 : Own eInt 3 G117 w118 w.heap.size u115 zs116 := ho119.weaken hX107.size
      have hq134 := hq104.below hx121.below
      refine ⟨fun _ => ⟨(Pins.of_le hX122.pins (Pin.le_trans hle108 hx121.le)), hb127.reads, hb126.reads, hq134⟩, ?_⟩
      refine dr_one (i := 16) (by kernel_rfl) (drOp1 (i := 16) rfl rfl rfl (want_none rfl _) (o_append (E := eInt) (v := u115) (u := u82) 8 Tryd.underlying37 ap3 (by decide) rfl rfl hX122.pins ho133 ((hr83.mono (Pin.le_trans hle108 hx121.le)).src hX122.pins (by decide)) (by first | omega | (rw [List.nil_append]; omega) | (rw [List.length_nil]; omega) | (rw [List.length_append]; omega) | (simp; done) | (simp; omega) | (simp only [List.length_append, List.length_cons, List.length_nil]; omega)) (by first | omega | (rw [List.nil_append]; omega) | (rw [List.length_nil]; omega) | (rw [List.length_append]; omega) | (simp; done) | (simp; omega) | (simp only [List.length_append, List.length_cons, List.length_nil]; omega)) (hX122.size) (fun u135 w136 ho137 hp138 hg139 hw140 => ?_)))
      have hX141 := hX122.write hp138 hg139 ((lo_own ho133))
      have ho142 := ho123.keptA hg139 ha128.symm
      have ho143 := ho124.keptA hg139 ha129.symm
      have ho144 := ho125.keptA hg139 ha130.symm
      have hb145 := hb126.keptA hg139 ha131.symm
      have hb146 := hb127.keptA hg139 ha132.symm
      have ha147 : Apart kv.ownBlock u135.ownBlock := app_ne_own ha128.symm hw140 ho123.lt
      have ha148 : Apart bu.ownBlock u135.ownBlock := app_ne_own ha129.symm hw140 ho124.lt
      have ha149 : Apart bv.ownBlock u135.ownBlock := app_ne_own ha130.symm hw140 ho125.lt
      have ha150 : Apart (some b) u135.ownBlock := app_ne_box ha131.symm hw140 hb126.lt
      have ha151 : Apart (some o) u135.ownBlock := app_ne_box ha132.symm hw140 hb127.lt
      have hm152 : (zs116 ++ ((ns.getD (t57).toNat default).l)).length = zs116.length + ((ns.getD (t57).toNat default).l).length := List.length_append
      have hq153 := Gadd.turn hq134 (Pins.of_le hX141.pins (Pin.le_trans hle108 hx121.le)) (Ext.one hp138 hg139) (notO ha129.symm)
      refine ⟨fun _ => ⟨(Pins.of_le hX141.pins (Pin.le_trans hle108 hx121.le)), hb146.reads, hb145.reads, hq153⟩, ?_⟩
      refine dr_take (i := 19) rfl rfl rfl (want_none rfl _) (by kernel_rfl) (fun _ _ => r_assign (v := u135) rfl) ⟨(Pins.of_le hX141.pins (Pin.le_trans hle108 hx121.le)), hb146.reads, hb145.reads, hq153⟩ ?_
      refine dr_take (i := 20) rfl rfl rfl (want_none rfl _) (by kernel_rfl) (fun _ _ => r_assign (v := u2) rfl) ⟨(Pins.of_le hX141.pins (Pin.le_trans hle108 hx121.le)), hb146.reads, hb145.reads, hq153⟩ ?_
      refine dr_take (i := 21) rfl rfl rfl (want_none rfl _) (by kernel_rfl) (fun _ _ => r_assign (v := (.bool true)) rfl) ⟨(Pins.of_le hX141.pins (Pin.le_trans hle108 hx121.le)), hb146.reads, hb145.reads, hq153⟩ ?_
      refine dr_end (by kernel_rfl) ?_
      refine s_then ?_
      refine wp_ret ?_
      refine s_ret ?_
      refine c_ret3 (v := u135) (u := u2) (x := (.bool true)) rfl rfl rfl rfl rfl rfl rfl ?_
      exact ⟨_, _, _, _, _, rfl, (decP_true.2 (Or.inl ⟨i, (by omega), hthr61.1.1 h70⟩)).symm, ⟨⟨hb145, ho143, ho144, habu, habv, hauv⟩, hb146, ho142, haok, habk, hauk, havk⟩, hka63, hX141⟩
    refine wp_skip ?_
    refine s_blkN ?_
    refine s_then ?_
    refine c_reg ?_
    refine qd rfl rfl rfl (r_move (v := (.int .i64 (i : Int))) rfl) ?_
    refine qd rfl rfl rfl (r_add rfl rfl (by omega)) ?_
    refine qd rfl rfl rfl (r_assign (v := (.int .i64 ((i : Int) + 1))) rfl) ?_
    refine qe ?_
    refine s_lopN ?_
    refine ⟨_, ?_, _, rfl, _, i + 1, ks58, G59, (packS (x := 8) (packS (x := 7) (packS (x := 1) (pack1 (x := 0) rfl) rfl) rfl) rfl), rfl, hX65, (Pin.le_trans hlek47 hx64.le), (by omega), hka63, (fun a h2 => if h3 : a = i then h3 ▸ (fun hr => h70 (hthr61.1.2 hr)) else hppl a (by omega)), hd62.ok, ho66, ho67, hb68, hb69⟩
    omega
  refine wp_exit ?_
  refine s_thenE ?_
  refine s_lopE ?_
  refine s_blkE ?_
  refine s_then ?_
  refine s_seq ?_
  refine s_seq ?_
  refine c_reg ?_
  refine qd rfl rfl rfl (r_assign (v := (.int .i64 0)) rfl) ?_
  refine qe ?_
  refine s_then ?_
  refine s_blk ?_
  refine s_loop (fun (k : Nat) (en : Nat → Value) (W : World) => ∃ (env1 : Nat → Value) (i2 : Nat) (kqr : List Int) (GLr : Pin), en = (upd (upd (upd (upd env1 0 (.pointer (some ⟨o, 0, none⟩))) 1 (.int .i64 y)) 7 (.pointer (some ⟨b8, 0, none⟩))) 10 (.int .i64 (i2 : Int))) ∧ k = (ns.getD (y).toNat default).r.length - i2 ∧ Ext (inO kv.ownBlock) G w GLr W ∧ Pin.le GLl GLr ∧ (i2 ≤ (ns.getD (y).toNat default).r.length) ∧ (KAll ns kqr) ∧ (∀ a, a < i2 → ¬ revP false (den ns (y).toNat) (gN ns (ns.getD (y).toNat default).r a)) ∧ (Own eInt 3 GLr W 0 kv (kqr)) ∧ (Own eNode 44 GLr W 0 bu (ns)) ∧ (Own eInt 3 GLr W 0 bv (bs)) ∧ (Bx GLr W b [bu, bv]) ∧ (Bx GLr W o [(.pointer (some ⟨b, 0, none⟩)), kv])) _ ⟨_, 0, kql, GLl, (packS (x := 10) (packS (x := 7) (packS (x := 1) (pack1 (x := 0) rfl) rfl) rfl) rfl), rfl, hX50, Pin.le_refl _, Nat.zero_le _, hkal, (fun x h => absurd h (Nat.not_lt_zero x)), hw51, hw52, hw53, hw54, hw55⟩ ?_
  rintro k154 _ w155 ⟨env1, i2, kqr, GLr, rfl, hk156, hX157, hlek154, hji2, hkar, hppr, hw158, hw159, hw160, hw161, hw162⟩
  refine s_seq ?_
  refine s_seq ?_
  refine c_reg ?_
  refine qd rfl rfl rfl (r_move (v := (.int .i64 (i2 : Int))) rfl) ?_
  refine qd rfl rfl rfl (r_fldp (k := 1) rfl Tryd.underlying44 rfl nz37 rfl) ?_
  refine qd rfl rfl rfl (r_ldp1 (u := u2) ag37 rfl ((Pins.of_le hX157.pins (Pin.le_trans hlek47 hlek154)) _ _ _ (hbp40 1 _ rfl))) ?_
  refine qd rfl rfl rfl (run_len Tryd.underlying37 (v := u2) rfl hr4) ?_
  refine qd rfl rfl rfl (r_lss rfl rfl) ?_
  refine qe ?_
  refine s_then ?_
  refine c_ifd (p := ((i2 : Int) : Int) < (((ns.getD (y).toNat default).r).length : Int)) rfl rfl (fun h163 => ?_) (fun h163 => ?_)
  · skip
    have hki := hoy.2 _ (getD_mem (d := (0 : Int)) (show i2 < (ns.getD (y).toNat default).r.length by omega))
    refine wp_skip ?_
    refine s_then ?_
    refine s_seq ?_
    refine s_blk ?_
    refine s_seq ?_
    refine c_reg ?_
    refine qd rfl rfl rfl (r_move (v := (.pointer (some ⟨o, 0, none⟩))) rfl) ?_
    refine qd rfl rfl rfl (r_move (v := (.int .i64 y)) rfl) ?_
    refine qd rfl rfl rfl (r_fldp (k := 1) rfl Tryd.underlying44 rfl nz37 rfl) ?_
    refine qd rfl rfl rfl (r_ldp1 (u := u2) ag37 rfl ((Pins.of_le hX157.pins (Pin.le_trans hlek47 hlek154)) _ _ _ (hbp40 1 _ rfl))) ?_
    refine qd rfl rfl rfl (r_move (v := (.int .i64 (i2 : Int))) rfl) ?_
    refine qd rfl rfl rfl (run_idx Tryd.underlying37 sz3 (v := u2) rfl rfl hr4 (by omega) (by omega)) ?_
    refine qd rfl rfl rfl (run_load_int (r := ((ns.getD (y).toNat default).r).getD i2 0) rfl ag3 (z := (i2 : Int)) rfl hr4 (Pins.of_le hX157.pins (Pin.le_trans (Pin.le_trans hle38 hlek47) hlek154)) (by omega) (by omega)) ?_
    refine q1 rfl rfl rfl (o_call (vs := [(.pointer (some ⟨o, 0, none⟩)), (.int .i64 y), (.int .i64 (((ns.getD (y).toNat default).r).getD i2 0)), (.bool false)]) Tryd.func31 nm31 rfl rfl rfl ?_)
    refine Calls.mono (l6Through_spec (lf := false) hX157.pins ⟨⟨hw161, hw159, hw160, habu, habv, hauv⟩, hw162, hw158, haok, habk, hauk, havk⟩ ⟨by omega, by omega⟩ ⟨by omega, by omega⟩ hok hkar) ?_
    rintro _ w167 ⟨t164, ks165, G166, rfl, hthr168, hd169, hka170, hx171⟩
    refine ⟨_, rfl, ?_⟩
    have hX172 := hX157.trans hx171 (fun i hi => hlok i hi)
    have ho173 := hw159.extS hx171 (notO hauk)
    have ho174 := hw160.extS hx171 (notO havk)
    have hb175 := hw161.extS hx171 (notOb habk)
    have hb176 := hw162.extS hx171 (notOb haok)
    refine qd rfl rfl rfl (r_assign (v := (.int .i64 t164)) rfl) ?_
    refine qe ?_
    refine s_then ?_
    refine s_seq ?_
    refine c_reg ?_
    refine qd rfl rfl rfl (r_move (v := (.int .i64 t164)) rfl) ?_
    refine qd rfl rfl rfl (r_geq rfl rfl) ?_
    refine qe ?_
    refine s_then ?_
    refine c_ifd (p := (0 : Int) ≤ t164) rfl rfl (fun h177 => ?_) (fun h177 => ?_)
    · skip
      refine s_seq ?_
      have htl := thr_pl hok.optsOk (by omega) hthr168 (by omega)
      have htl1 := htl.1
      have htl2 := htl.2
      have hlt := hok.lens t164.toNat (by omega)
      have hq178 := Gadd.pins hX172.pins bu
      have hr179 := ho173.read
      refine c_draw (S := fun wz => Pins G166 wz ∧ BxR wz o [(.pointer (some ⟨b, 0, none⟩)), kv] ∧ BxR wz b [bu, bv] ∧ Pins (Gadd G166 w167 bu) wz) (last := 22) (by kernel_rfl) rfl ?_
      have hl180 : Below w167.heap.size w167 w167.drew := (Below.refl _ _).drew
      have hp181 := hX172.pins.below hl180
      have hX182 := hX172.step hp181 hl180
      have ho183 := hd169.ok.below hl180
      have ho184 := ho173.below hl180
      have ho185 := ho174.below hl180
      have hb186 := hb175.below hl180
      have hb187 := hb176.below hl180
      have hq188 := hq178.below hl180
      refine dr_take (i := 0) rfl rfl rfl (want_none rfl _) (by kernel_rfl) (fun _ _ => r_fldp (k := 0) rfl Tryd.underlying44 rfl nz37 rfl) ⟨hX182.pins, hb187.reads, hb186.reads, hq188⟩ ?_
      refine dr_take (i := 1) rfl rfl rfl (want_none rfl _) (by kernel_rfl) (fun _ hS => r_ldp1 (u := u1) ag37 rfl ((Pins.of_le hS.1 (Pin.le_trans (Pin.le_trans hlek47 hlek154) hx171.le)) _ _ _ (hbp40 0 _ rfl))) ⟨hX182.pins, hb187.reads, hb186.reads, hq188⟩ ?_
      refine dr_take (i := 2) rfl rfl rfl (want_none rfl _) (by kernel_rfl) (fun _ _ => r_fldp (k := 1) rfl Tryd.underlying44 rfl nz37 rfl) ⟨hX182.pins, hb187.reads, hb186.reads, hq188⟩ ?_
      refine dr_take (i := 3) rfl rfl rfl (want_none rfl _) (by kernel_rfl) (fun _ hS => r_ldp1 (u := u2) ag37 rfl ((Pins.of_le hS.1 (Pin.le_trans (Pin.le_trans hlek47 hlek154) hx171.le)) _ _ _ (hbp40 1 _ rfl))) ⟨hX182.pins, hb187.reads, hb186.reads, hq188⟩ ?_
      refine dr_take (i := 4) rfl rfl rfl (want_none rfl _) (by kernel_rfl) (fun _ _ => r_move (v := (.int .i64 (i2 : Int))) rfl) ⟨hX182.pins, hb187.reads, hb186.reads, hq188⟩ ?_
      refine dr_take (i := 7) rfl rfl rfl (want_none rfl _) (by kernel_rfl) (fun _ _ => r_move (v := (.pointer (some ⟨o, 0, none⟩))) rfl) ⟨hX182.pins, hb187.reads, hb186.reads, hq188⟩ ?_
      refine dr_take (i := 8) rfl rfl rfl (want_none rfl _) (by kernel_rfl) (fun _ _ => r_nil rfl) ⟨hX182.pins, hb187.reads, hb186.reads, hq188⟩ ?_
      refine dr_take (i := 9) rfl rfl rfl (want_none rfl _) (by kernel_rfl) (fun _ _ => r_fldp (k := 0) rfl Tryd.underlying61 rfl nz36 rfl) ⟨hX182.pins, hb187.reads, hb186.reads, hq188⟩ ?_
      refine dr_take (i := 10) rfl rfl rfl (want_none rfl _) (by kernel_rfl) (fun _ hS => r_ldp1 (u := (.pointer (some ⟨b, 0, none⟩))) ag36 rfl (hS.2.1 0 _ rfl)) ⟨hX182.pins, hb187.reads, hb186.reads, hq188⟩ ?_
      refine dr_take (i := 11) rfl rfl rfl (want_none rfl _) (by kernel_rfl) (fun _ _ => r_nil rfl) ⟨hX182.pins, hb187.reads, hb186.reads, hq188⟩ ?_
      refine dr_take (i := 12) rfl rfl rfl (want_none rfl _) (by kernel_rfl) (fun _ _ => r_fldp (k := 0) rfl Tryd.underlying39 rfl nz28 rfl) ⟨hX182.pins, hb187.reads, hb186.reads, hq188⟩ ?_
      refine dr_take (i := 13) rfl rfl rfl (want_none rfl _) (by kernel_rfl) (fun _ hS => r_ldp1 (u := bu) ag28 rfl (hS.2.2.1 0 _ rfl)) ⟨hX182.pins, hb187.reads, hb186.reads, hq188⟩ ?_
      refine dr_take (i := 14) rfl rfl rfl (want_none rfl _) (by kernel_rfl) (fun _ _ => r_move (v := (.int .i64 t164)) rfl) ⟨hX182.pins, hb187.reads, hb186.reads, hq188⟩ ?_
      refine dr_take (i := 15) rfl rfl rfl (want_none rfl _) (by kernel_rfl) (fun _ _ => run_idx Tryd.underlying28 sz44 (v := bu) rfl rfl hr179 (by omega) (by omega)) ⟨hX182.pins, hb187.reads, hb186.reads, hq188⟩ ?_
      refine dr_take (i := 16) rfl rfl rfl (want_none rfl _) (by kernel_rfl) (fun _ _ => run_fld (off := 1) Tryd.underlying44 rfl rfl nz37 (z := t164) (k := 0) rfl hr179 (by omega) (by omega)) ⟨hX182.pins, hb187.reads, hb186.reads, hq188⟩ ?_
      obtain ⟨u189, hr190, hl191⟩ := nm_nr (ho173.at (z := t164) (by omega) (by omega)) (j := (t164).toNat) rfl
      have hm192 := hr190.max
      refine dr_take (i := 17) rfl rfl rfl (want_none rfl _) (by kernel_rfl) (fun _ hS => hl191 ag37 rfl hS.2.2.2) ⟨hX182.pins, hb187.reads, hb186.reads, hq188⟩ ?_
      refine dr_one (i := 5) (by kernel_rfl) (drOp1 (i := 5) rfl rfl rfl (want_none rfl _) (o_buildF (E := eInt) (e := 3) [(.int .i64 (i2 : Int))] [(i2 : Int)] Tryd.underlying37 sz3 zr3 (by exact reps1 (by rfl)) (ones1 (by rfl)) rfl rfl rfl rfl (by decide) hX182.pins (fun u193 w194 ho195 hp196 hl197 hk198 => ?_)))
      have hX199 := hX182.step hp196 hl197
      have ho200 := ho183.below hl197
      have ho201 := ho184.below hl197
      have ho202 := ho185.below hl197
      have hb203 := hb186.below hl197
      have hb204 := hb187.below hl197
      have ha205 : Apart u193.ownBlock kv.ownBlock := new_ne_own hk198 ho183.lt
      have ha206 : Apart u193.ownBlock bu.ownBlock := new_ne_own hk198 ho184.lt
      have ha207 : Apart u193.ownBlock bv.ownBlock := new_ne_own hk198 ho185.lt
      have ha208 : Apart u193.ownBlock (some b) := new_ne_box hk198 hb186.lt
      have ha209 : Apart u193.ownBlock (some o) := new_ne_box hk198 hb187.lt
      have ho210 : Own eInt 3 G166 w194 w.heap.size u193 ([(i2 : Int)]) := ho195.weaken hX182.size
      have hq211 := hq188.below hl197
      refine ⟨fun _ => ⟨hX199.pins, hb204.reads, hb203.reads, hq211⟩, ?_⟩
      obtain ⟨G212, hle215, hX214, hr213, hf216⟩ := ho210.sealed hX199
      have ho217 := ho200.moreO hle215 hf216 ha205.symm
      have ho218 := ho201.moreO hle215 hf216 ha206.symm
      have ho219 := ho202.moreO hle215 hf216 ha207.symm
      have hb220 := hb203.moreO hf216 ha208.symm
      have hb221 := hb204.moreO hf216 ha209.symm
      refine dr_one (i := 6) (by kernel_rfl) (drOp1 (i := 6) rfl rfl rfl (want_none rfl _) (o_call (vs := [u2, u193]) Tryd.func32 nm32 rfl rfl rfl ?_))
      refine Calls.mono (l6Without_spec hX214.pins (hr4.mono (Pin.le_trans (Pin.le_trans (Pin.le_trans (Pin.le_trans hle38 hlek47) hlek154) hx171.le) hle215)) hr213 (by omega)) ?_
      rintro _ w225 ⟨u222, zs223, G224, rfl, ho226, hzl227, hx228⟩
      refine ⟨_, rfl, ?_⟩
      have hX229 := hX214.tr hx228
      have ho230 := ho217.ext hx228
      have ho231 := ho218.ext hx228
      have ho232 := ho219.ext hx228
      have hb233 := hb220.ext hx228
      have hb234 := hb221.ext hx228
      have ha235 : Apart u222.ownBlock kv.ownBlock := made_ne_own ho226.lt ho217.lt
      have ha236 : Apart u222.ownBlock bu.ownBlock := made_ne_own ho226.lt ho218.lt
      have ha237 : Apart u222.ownBlock bv.ownBlock := made_ne_own ho226.lt ho219.lt
      have ha238 : Apart u222.ownBlock (some b) := made_ne_box ho226.lt hb220.lt
      have ha239 : Apart u222.ownBlock (some o) := made_ne_box ho226.lt hb221.lt
      have ho240 : Own eInt 3 G224 w225 w.heap.size u222 zs223 := ho226.weaken hX214.size
      have hq241 := hq211.below hx228.below
      refine ⟨fun _ => ⟨(Pins.of_le hX229.pins (Pin.le_trans hle215 hx228.le)), hb234.reads, hb233.reads, hq241⟩, ?_⟩
      refine dr_one (i := 18) (by kernel_rfl) (drOp1 (i := 18) rfl rfl rfl (want_none rfl _) (o_append (E := eInt) (v := u222) (u := u189) 8 Tryd.underlying37 ap3 (by decide) rfl rfl hX229.pins ho240 ((hr190.mono (Pin.le_trans hle215 hx228.le)).src hX229.pins (by decide)) (by first | omega | (rw [List.nil_append]; omega) | (rw [List.length_nil]; omega) | (rw [List.length_append]; omega) | (simp; done) | (simp; omega) | (simp only [List.length_append, List.length_cons, List.length_nil]; omega)) (by first | omega | (rw [List.nil_append]; omega) | (rw [List.length_nil]; omega) | (rw [List.length_append]; omega) | (simp; done) | (simp; omega) | (simp only [List.length_append, List.length_cons, List.length_nil]; omega)) (hX229.size) (fun u242 w243 ho244 hp245 hg246 hw247 => ?_)))
      have hX248 := hX229.write hp245 hg246 ((lo_own ho240))
      have ho249 := ho230.keptA hg246 ha235.symm
      have ho250 := ho231.keptA hg246 ha236.symm
      have ho251 := ho232.keptA hg246 ha237.symm
      have hb252 := hb233.keptA hg246 ha238.symm
      have hb253 := hb234.keptA hg246 ha239.symm
      have ha254 : Apart kv.ownBlock u242.ownBlock := app_ne_own ha235.symm hw247 ho230.lt
      have ha255 : Apart bu.ownBlock u242.ownBlock := app_ne_own ha236.symm hw247 ho231.lt
      have ha256 : Apart bv.ownBlock u242.ownBlock := app_ne_own ha237.symm hw247 ho232.lt
      have ha257 : Apart (some b) u242.ownBlock := app_ne_box ha238.symm hw247 hb233.lt
      have ha258 : Apart (some o) u242.ownBlock := app_ne_box ha239.symm hw247 hb234.lt
      have hm259 : (zs223 ++ ((ns.getD (t164).toNat default).r)).length = zs223.length + ((ns.getD (t164).toNat default).r).length := List.length_append
      have hq260 := Gadd.turn hq241 (Pins.of_le hX248.pins (Pin.le_trans hle215 hx228.le)) (Ext.one hp245 hg246) (notO ha236.symm)
      refine ⟨fun _ => ⟨(Pins.of_le hX248.pins (Pin.le_trans hle215 hx228.le)), hb253.reads, hb252.reads, hq260⟩, ?_⟩
      refine dr_take (i := 19) rfl rfl rfl (want_none rfl _) (by kernel_rfl) (fun _ _ => r_assign (v := u1) rfl) ⟨(Pins.of_le hX248.pins (Pin.le_trans hle215 hx228.le)), hb253.reads, hb252.reads, hq260⟩ ?_
      refine dr_take (i := 20) rfl rfl rfl (want_none rfl _) (by kernel_rfl) (fun _ _ => r_assign (v := u242) rfl) ⟨(Pins.of_le hX248.pins (Pin.le_trans hle215 hx228.le)), hb253.reads, hb252.reads, hq260⟩ ?_
      refine dr_take (i := 21) rfl rfl rfl (want_none rfl _) (by kernel_rfl) (fun _ _ => r_assign (v := (.bool true)) rfl) ⟨(Pins.of_le hX248.pins (Pin.le_trans hle215 hx228.le)), hb253.reads, hb252.reads, hq260⟩ ?_
      refine dr_end (by kernel_rfl) ?_
      refine s_then ?_
      refine wp_ret ?_
      refine s_ret ?_
      refine c_ret3 (v := u1) (u := u242) (x := (.bool true)) rfl rfl rfl rfl rfl rfl rfl ?_
      exact ⟨_, _, _, _, _, rfl, (decP_true.2 (Or.inr ⟨i2, (by omega), hthr168.1.1 h177⟩)).symm, ⟨⟨hb252, ho250, ho251, habu, habv, hauv⟩, hb253, ho249, haok, habk, hauk, havk⟩, hka170, hX248⟩
    refine wp_skip ?_
    refine s_blkN ?_
    refine s_then ?_
    refine c_reg ?_
    refine qd rfl rfl rfl (r_move (v := (.int .i64 (i2 : Int))) rfl) ?_
    refine qd rfl rfl rfl (r_add rfl rfl (by omega)) ?_
    refine qd rfl rfl rfl (r_assign (v := (.int .i64 ((i2 : Int) + 1))) rfl) ?_
    refine qe ?_
    refine s_lopN ?_
    refine ⟨_, ?_, _, rfl, _, i2 + 1, ks165, G166, (packS (x := 10) (packS (x := 7) (packS (x := 1) (pack1 (x := 0) rfl) rfl) rfl) rfl), rfl, hX172, (Pin.le_trans hlek154 hx171.le), (by omega), hka170, (fun a h2 => if h3 : a = i2 then h3 ▸ (fun hr => h177 (hthr168.1.2 hr)) else hppr a (by omega)), hd169.ok, ho173, ho174, hb175, hb176⟩
    omega
  refine wp_exit ?_
  refine s_thenE ?_
  refine s_lopE ?_
  refine s_blkE ?_
  refine s_then ?_
  refine s_seq ?_
  refine c_reg ?_
  refine qd rfl rfl rfl (r_assign (v := (.slice none 0 0)) rfl) ?_
  refine qd rfl rfl rfl (r_assign (v := (.slice none 0 0)) rfl) ?_
  refine qd rfl rfl rfl (r_assign (v := (.bool false)) rfl) ?_
  refine qe ?_
  refine s_then ?_
  refine wp_ret ?_
  refine s_ret ?_
  refine c_ret3 (v := (.slice none 0 0)) (u := (.slice none 0 0)) (x := (.bool false)) rfl rfl rfl rfl rfl rfl rfl ?_
  exact ⟨_, _, _, _, _, rfl, (decP_false.2 (fun h => h.elim (fun ⟨a, ha, hr⟩ => hppl a (by omega) hr) (fun ⟨a, ha, hr⟩ => hppr a (by omega) hr))).symm, ⟨⟨hw161, hw159, hw160, habu, habv, hauv⟩, hw162, hw158, haok, habk, hauk, havk⟩, hkar, hX157⟩

end CS1
end Go.Proofs.YtfkompdmejpmmaaDoor

/- Walks, printed by a program (walkgen.py) from the spec specs_cs. -/
set_option maxRecDepth 20000
set_option maxHeartbeats 2000000
namespace Go.Proofs.YtfkompdmejpmmaaDoor
namespace CS2
open Go.RowKit Go.GL Go.Proofs
open Go.Proofs.YtfkompdmejpmmaaDoor.B1
open Go.Proofs.YtfkompdmejpmmaaDoor.C1
open Go.Proofs.YtfkompdmejpmmaaDoor.D1
open Go.Proofs.YtfkompdmejpmmaaDoor.E1
open Go.Proofs.YtfkompdmejpmmaaDoor.OR1
open Go.Proofs.YtfkompdmejpmmaaDoor.DS1
open Go.Proofs.YtfkompdmejpmmaaDoor.CS1
theorem ag28 : (Tryd.prog.underlying 28).map aggD = some false := by kernel_rfl
theorem ag3 : (Tryd.prog.underlying 3).map aggD = some false := by kernel_rfl
theorem ag30 : (Tryd.prog.underlying 30).map aggD = some true := by kernel_rfl
theorem ag37 : (Tryd.prog.underlying 37).map aggD = some false := by kernel_rfl
theorem ag44 : (Tryd.prog.underlying 44).map aggD = some true := by kernel_rfl
theorem nm10 : (Tryd.f10.name == "runtime.NumGoroutine") = false := by kernel_rfl
theorem nm11 : (Tryd.f11.name == "runtime.NumGoroutine") = false := by kernel_rfl
theorem nm12 : (Tryd.f12.name == "runtime.NumGoroutine") = false := by kernel_rfl
theorem nm13 : (Tryd.f13.name == "runtime.NumGoroutine") = false := by kernel_rfl
theorem nm14 : (Tryd.f14.name == "runtime.NumGoroutine") = false := by kernel_rfl
theorem nz28 : (Tryd.prog.info? 28).map (·.size == 0) = some false := by kernel_rfl
theorem nz37 : (Tryd.prog.info? 37).map (·.size == 0) = some false := by kernel_rfl
theorem pl39 : (Tryd.prog.underlying 39).bind (placesD Tryd.prog) = some [(0, 1), (1, 1)] := by kernel_rfl
theorem sz3 : (Tryd.prog.info? 3).map (·.size) = some 1 := by kernel_rfl
theorem sz30 : (Tryd.prog.info? 30).map (·.size) = some 1 := by kernel_rfl
theorem sz44 : (Tryd.prog.info? 44).map (·.size) = some 2 := by kernel_rfl
theorem zr39 : (Tryd.prog.info? 39).bind (·.zero) = some (.agg #[(.slice none 0 0), (.slice none 0 0)]) := by kernel_rfl
theorem zr44 : (Tryd.prog.info? 44).bind (·.zero) = some (.agg #[(.slice none 0 0), (.slice none 0 0)]) := by kernel_rfl

theorem sIsCanon_spec {w : World} {G : Pin} {v : Value} {fs : List Nd} (hP : Pins G w) (hv : RSl eNode G v fs) :
    Calls Tryd.prog 5 [(.agg [v].toArray)].toArray w fun e w' => ∃ G', e = .returned (.tuple #[.bool (icB fs), .bool (goodB fs)]) ∧ Ext noS G w G' w' := by
  refine s_enter (n := 61) Tryd.func5 Tryd.ntmps5 rfl rfl ?_
  have hX0 : Ext noS G w G w := Ext.refl hP
  refine s_seq ?_
  refine c_reg ?_
  refine q1 rfl rfl rfl (o_box [v] (v := (.agg [v].toArray)) rfl rfl hX0.pins (fun b1 w2 hk3 hb4 hp5 hl6 => ?_))
  have hX7 := hX0.step hp5 hl6
  have hlo8 : w.heap.size ≤ b1 := by have := hX0.size; omega
  obtain ⟨G9, hle10, hX11, hbp12, hf13⟩ := hb4.shut hX7 hlo8
  refine qd rfl rfl rfl (r_assign (v := (.bool false)) rfl) ?_
  refine qd rfl rfl rfl (r_assign (v := (.bool false)) rfl) ?_
  refine qe ?_
  refine s_then ?_
  refine s_seq ?_
  refine s_seq ?_
  refine c_reg ?_
  refine qd rfl rfl rfl (r_ldpA (cs := [v]) ag30 sz30 rfl (fun j u hj => hX11.pins _ _ _ (hbp12 _ _ (by simpa using hj)))) ?_
  refine q1 rfl rfl rfl (o_call (vs := [(.agg [v].toArray)]) Tryd.func10 nm10 rfl rfl rfl ?_)
  refine Calls.mono (l3Good_spec hX11.pins (hv.mono hle10)) ?_
  rintro _ w15 ⟨G14, rfl, hx16⟩
  refine ⟨_, rfl, ?_⟩
  have hX17 := hX11.tr hx16
  refine qd rfl rfl rfl (r_not rfl) ?_
  refine qe ?_
  refine s_then ?_
  refine c_ifn rfl rfl (fun h18 => ?_) (fun h18 => ?_)
  · skip
    refine wp_skip ?_
    refine s_then ?_
    refine s_seq ?_
    refine c_reg ?_
    have hgb : goodB fs = true := (good_eq fs).symm.trans h18
    have hga : GoodP fs := goodB_true.1 hgb
    have hsg := good_sg hga
    have hsb := self_book hga
    have hla := hga.lo
    have hha := hga.hi
    have h0 := addM_all book_empty (good_form hga) (by simp; omega)
    have hal := h0.len
    have hnl : (addM ([]) ([]) fs).2.1.length = fs.length := by rw [hsb.1]
    refine qd rfl rfl rfl (r_build [(.slice none 0 0), (.slice none 0 0)] [(.slice none 0 0), (.slice none 0 0)] [] Tryd.underlying39 zr39 rfl pl39 rfl (fun _ h => by cases h) rfl) ?_
    refine q1 rfl rfl rfl (o_box [(.slice none 0 0), (.slice none 0 0)] (v := (.agg [(.slice none 0 0), (.slice none 0 0)].toArray)) rfl rfl hX17.pins (fun b19 w20 hk21 hb22 hp23 hl24 => ?_))
    have hX25 := hX17.step hp23 hl24
    have hlo26 : w.heap.size ≤ b19 := by have := hX17.size; omega
    refine qd rfl rfl rfl (r_assign (v := (.pointer (some ⟨b19, 0, none⟩))) rfl) ?_
    refine qe ?_
    refine s_then ?_
    refine s_seq ?_
    refine c_reg ?_
    refine qd rfl rfl rfl (r_move (v := (.pointer (some ⟨b19, 0, none⟩))) rfl) ?_
    refine qd rfl rfl rfl (r_ldpA (cs := [v]) ag30 sz30 rfl (fun j u hj => (Pins.of_le hX25.pins hx16.le) _ _ _ (hbp12 _ _ (by simpa using hj)))) ?_
    refine q1 rfl rfl rfl (o_call (vs := [(.pointer (some ⟨b19, 0, none⟩)), (.agg [v].toArray)]) Tryd.func11 nm11 rfl rfl rfl ?_)
    refine Calls.mono (add_spec hX25.pins ⟨hb22, (Own.nil _ _ _ _ _), (Own.nil _ _ _ _ _), apart_none.symm, apart_none.symm, apart_none⟩ book_empty (hv.mono (Pin.le_trans hle10 hx16.le)) (good_form hga) (by first | omega | (simp; omega))) ?_
    rintro _ w30 ⟨u35, u27, v28, G29, rfl, hr36, hbk31, hx32, hlu33, hlv34⟩
    refine ⟨_, rfl, ?_⟩
    have hin37 : ∀ i, inS b19 (.slice none 0 0) (.slice none 0 0) i → w.heap.size ≤ i ∨ noS i := inS_lo (lo_box hlo26) (lo_none _ _) (lo_none _ _)
    have hX38 := hX25.trans hx32 hin37
    have hb39 := hbk31.bx
    have ho40 := hbk31.ou
    have ho41 := hbk31.ov
    have ha42 := hbk31.abu
    have ha43 := hbk31.abv
    have ha44 := hbk31.auv
    have hlo45 := lo_call hlu33 hin37 hX25.size
    have hlo46 := lo_call hlv34 hin37 hX25.size
    refine qd rfl rfl rfl (r_assign (v := u35) rfl) ?_
    refine qe ?_
    refine s_then ?_
    refine s_seq ?_
    refine c_reg ?_
    refine qd rfl rfl rfl (r_move (v := (.pointer (some ⟨b19, 0, none⟩))) rfl) ?_
    refine q1 rfl rfl rfl (o_call (vs := [(.pointer (some ⟨b19, 0, none⟩))]) Tryd.func12 nm12 rfl rfl rfl ?_)
    refine Calls.mono (l4Of_spec hX38.pins ⟨hb39, ho40, ho41, ha42, ha43, ha44⟩ h0.book) ?_
    rintro _ w50 ⟨b47, u48, G49, rfl, hb51, ho52, hlo53, ha54, hx55⟩
    refine ⟨_, rfl, ?_⟩
    have hX56 := hX38.tr hx55
    have ho57 := ho40.ext hx55
    have ho58 := ho41.ext hx55
    have hb59 := hb39.ext hx55
    have ha60 : Apart u48.ownBlock u27.ownBlock := made_ne_own ho52.lt ho40.lt
    have ha62 : Apart u48.ownBlock v28.ownBlock := made_ne_own ho52.lt ho41.lt
    have ha64 : Apart u48.ownBlock (some b19) := made_ne_box ho52.lt hb39.lt
    have hlo66 := Nat.le_trans hX38.size hlo53
    have ho67 := ho52.weaken hX38.size
    refine qd rfl rfl rfl (r_assign (v := (.pointer (some ⟨b47, 0, none⟩))) rfl) ?_
    refine qe ?_
    refine s_then ?_
    refine s_seq ?_
    refine s_seq ?_
    refine c_reg ?_
    refine qd rfl rfl rfl (r_assign (v := (.int .i64 0)) rfl) ?_
    refine qe ?_
    refine s_then ?_
    refine s_blk ?_
    have hlok : Lo w noS u48.ownBlock := (lo_own ho67)
    have hok0 := ho67.weaken (Nat.zero_le _)
    have hka0 : KAll (addM ([]) ([]) fs).2.1 (List.replicate ((addM ([]) ([]) fs).2.1.length * (addM ([]) ([]) fs).2.1.length) 0) := KAll.zero
    refine s_loop (fun (k : Nat) (en : Nat → Value) (W : World) => ∃ (env1 : Nat → Value) (j : Nat) (kq : List Int) (GL1 : Pin), en = (upd (upd (upd (upd env1 4 (.pointer (some ⟨b19, 0, none⟩))) 5 u35) 6 (.pointer (some ⟨b47, 0, none⟩))) 7 (.int .i64 (j : Int))) ∧ k = fs.length - j ∧ Ext noS G w GL1 W ∧ Pin.le G49 GL1 ∧ (j ≤ fs.length) ∧ (KAll (addM ([]) ([]) fs).2.1 kq) ∧ (∀ x, x < j → NodeC fs x) ∧ (Own eInt 3 GL1 W 0 u48 (kq)) ∧ (Own eNode 44 GL1 W 0 u27 ((addM ([]) ([]) fs).2.1)) ∧ (Own eInt 3 GL1 W 0 v28 ((addM ([]) ([]) fs).2.2)) ∧ (Bx GL1 W b19 [u27, v28]) ∧ (Bx GL1 W b47 [(.pointer (some ⟨b19, 0, none⟩)), u48])) _ ⟨_, 0, List.replicate (((addM ([]) ([]) fs).2.1).length * ((addM ([]) ([]) fs).2.1).length) 0, G49, (packS (x := 7) (packS (x := 6) (packS (x := 5) (pack1 (x := 4) rfl) rfl) rfl) rfl), rfl, hX56, Pin.le_refl _, Nat.zero_le _, hka0, (fun x h => absurd h (Nat.not_lt_zero x)), hok0, ho57, ho58, hb59, hb51⟩ ?_
    rintro k68 _ w69 ⟨env1, j, kq, GL1, rfl, hk70, hX71, hlek68, hj, hka1, hnc, hw72, hw73, hw74, hw75, hw76⟩
    refine s_seq ?_
    refine s_seq ?_
    refine c_reg ?_
    refine qd rfl rfl rfl (r_move (v := (.int .i64 (j : Int))) rfl) ?_
    refine qd rfl rfl rfl (r_move (v := u35) rfl) ?_
    refine qd rfl rfl rfl (run_len Tryd.underlying37 (v := u35) rfl hr36) ?_
    refine qd rfl rfl rfl (r_lss rfl rfl) ?_
    refine qe ?_
    refine s_then ?_
    refine c_ifd (p := ((j : Int) : Int) < (((addM ([]) ([]) fs).1).length : Int)) rfl rfl (fun h77 => ?_) (fun h77 => ?_)
    · skip
      have hidx : (idx fs.length).getD j 0 = (j : Int) := idx_getD (by omega)
      have hat : (addM ([]) ([]) fs).1.getD j 0 = (j : Int) := by rw [hsb.1]; exact hidx
      have hbo := optsAt h0.book.optsOk (show ((addM ([]) ([]) fs).1.getD j 0).toNat < (addM ([]) ([]) fs).2.1.length by omega)
      have hbl := h0.book.lens ((addM ([]) ([]) fs).1.getD j 0).toNat (by omega)
      refine wp_skip ?_
      refine s_then ?_
      refine s_seq ?_
      refine s_blk ?_
      refine s_seq ?_
      have hq78 := Gadd.pins hX71.pins u27
      have hr79 := hw73.read
      refine c_draw (S := fun wz => BxR wz b19 [u27, v28] ∧ Pins GL1 wz ∧ Pins (Gadd GL1 w69 u27) wz) (last := 11) (by kernel_rfl) rfl ?_
      have hl80 : Below w69.heap.size w69 w69.drew := (Below.refl _ _).drew
      have hp81 := hX71.pins.below hl80
      have hX82 := hX71.step hp81 hl80
      have ho83 := hw72.below hl80
      have ho84 := hw73.below hl80
      have ho85 := hw74.below hl80
      have hb86 := hw75.below hl80
      have hb87 := hw76.below hl80
      have hq88 := hq78.below hl80
      refine dr_take (i := 0) rfl rfl rfl (want_none rfl _) (by kernel_rfl) (fun _ _ => r_move (v := (.pointer (some ⟨b19, 0, none⟩))) rfl) ⟨hb86.reads, hX82.pins, hq88⟩ ?_
      refine dr_take (i := 1) rfl rfl rfl (want_none rfl _) (by kernel_rfl) (fun _ _ => r_nil rfl) ⟨hb86.reads, hX82.pins, hq88⟩ ?_
      refine dr_take (i := 2) rfl rfl rfl (want_none rfl _) (by kernel_rfl) (fun _ _ => r_fldp (k := 0) rfl Tryd.underlying39 rfl nz28 rfl) ⟨hb86.reads, hX82.pins, hq88⟩ ?_
      refine dr_take (i := 3) rfl rfl rfl (want_none rfl _) (by kernel_rfl) (fun _ hS => r_ldp1 (u := u27) ag28 rfl (hS.1 0 _ rfl)) ⟨hb86.reads, hX82.pins, hq88⟩ ?_
      refine dr_take (i := 4) rfl rfl rfl (want_none rfl _) (by kernel_rfl) (fun _ _ => r_move (v := u35) rfl) ⟨hb86.reads, hX82.pins, hq88⟩ ?_
      refine dr_take (i := 5) rfl rfl rfl (want_none rfl _) (by kernel_rfl) (fun _ _ => r_move (v := (.int .i64 (j : Int))) rfl) ⟨hb86.reads, hX82.pins, hq88⟩ ?_
      refine dr_take (i := 6) rfl rfl rfl (want_none rfl _) (by kernel_rfl) (fun _ _ => run_idx Tryd.underlying37 sz3 (v := u35) rfl rfl hr36 (by omega) (by omega)) ⟨hb86.reads, hX82.pins, hq88⟩ ?_
      refine dr_take (i := 7) rfl rfl rfl (want_none rfl _) (by kernel_rfl) (fun _ hS => run_load_int (r := ((addM ([]) ([]) fs).1).getD j 0) rfl ag3 (z := (j : Int)) rfl hr36 (Pins.of_le hS.2.1 (Pin.le_trans hx55.le hlek68)) (by omega) (by omega)) ⟨hb86.reads, hX82.pins, hq88⟩ ?_
      refine dr_take (i := 8) rfl rfl rfl (want_none rfl _) (by kernel_rfl) (fun _ _ => run_idx Tryd.underlying28 sz44 (v := u27) rfl rfl hr79 (by omega) (by omega)) ⟨hb86.reads, hX82.pins, hq88⟩ ?_
      obtain ⟨u89, u90, hr91, hr92, hl93⟩ := nm_node (hw73.at (z := (((addM ([]) ([]) fs).1).getD j 0)) (by omega) (by omega)) (j := (((addM ([]) ([]) fs).1).getD j 0).toNat) rfl
      have hm94 := hr91.max
      have hm95 := hr92.max
      refine dr_take (i := 9) rfl rfl rfl (want_none rfl _) (by kernel_rfl) (fun _ hS => hl93 ag44 sz44 rfl hS.2.2) ⟨hb86.reads, hX82.pins, hq88⟩ ?_
      refine dr_one (i := 10) (by kernel_rfl) (drOp1 (i := 10) rfl rfl rfl (want_none rfl _) (o_alloc [(.slice none 0 0), (.slice none 0 0)] zr44 rfl hX82.pins (fun b96 w97 hk98 hb99 hp100 hl101 => ?_)))
      have hX102 := hX82.step hp100 hl101
      have ho103 := ho83.below hl101
      have ho104 := ho84.below hl101
      have ho105 := ho85.below hl101
      have hb106 := hb86.below hl101
      have hb107 := hb87.below hl101
      have ha108 : Apart (some b96) u48.ownBlock := new_ne_own (congrArg some hk98) ho83.lt
      have ha109 : Apart (some b96) u27.ownBlock := new_ne_own (congrArg some hk98) ho84.lt
      have ha110 : Apart (some b96) v28.ownBlock := new_ne_own (congrArg some hk98) ho85.lt
      have ha111 : Apart (some b96) (some b19) := new_ne_box (congrArg some hk98) hb86.lt
      have ha112 : Apart (some b96) (some b47) := new_ne_box (congrArg some hk98) hb87.lt
      have hlo113 : w.heap.size ≤ b96 := by have := hX82.size; omega
      have hq114 := hq88.below hl101
      refine ⟨fun _ => ⟨hb106.reads, hX102.pins, hq114⟩, ?_⟩
      refine dr_one (i := 11) (by kernel_rfl) (drOp0 (i := 11) rfl rfl rfl (want_none rfl _) (o_stp (cs' := [u89, u90]) (us := [u89, u90]) (v := (.agg [u89, u90].toArray)) sz44 rfl rfl rfl (ones2 hr91.one hr92.one) hX102.pins hb99 (Nat.le_of_ble_eq_true rfl) rfl (fun w115 hb116 hp117 hg118 hz119 => ?_)))
      have hX120 := hX102.write hp117 hg118 ((lo_box hlo113))
      have ho121 := ho103.keptA hg118 ha108.symm
      have ho122 := ho104.keptA hg118 ha109.symm
      have ho123 := ho105.keptA hg118 ha110.symm
      have hb124 := hb106.keptA hg118 ha111.symm
      have hb125 := hb107.keptA hg118 ha112.symm
      obtain ⟨G126, hle127, hX128, hbp129, hf130⟩ := hb116.shut hX120 hlo113
      have ho131 := ho121.moreA hle127 hf130 ha108.symm
      have ho132 := ho122.moreA hle127 hf130 ha109.symm
      have ho133 := ho123.moreA hle127 hf130 ha110.symm
      have hb134 := hb124.moreA hf130 ha111.symm
      have hb135 := hb125.moreA hf130 ha112.symm
      refine ⟨fun h => absurd rfl h, ?_⟩
      refine dr_end (by kernel_rfl) ?_
      refine s_then ?_
      refine s_seq ?_
      refine s_seq ?_
      refine c_draw (S := fun wz => Pins G126 wz) (last := 12) (by kernel_rfl) rfl ?_
      have hl136 : Below w115.heap.size w115 w115.drew := (Below.refl _ _).drew
      have hp137 := hX128.pins.below hl136
      have hX138 := hX128.step hp137 hl136
      have ho139 := ho131.below hl136
      have ho140 := ho132.below hl136
      have ho141 := ho133.below hl136
      have hb142 := hb134.below hl136
      have hb143 := hb135.below hl136
      refine dr_take (i := 0) rfl rfl rfl (want_none rfl _) (by kernel_rfl) (fun _ _ => r_move (v := (.pointer (some ⟨b47, 0, none⟩))) rfl) hX138.pins ?_
      refine dr_take (i := 1) rfl rfl rfl (want_none rfl _) (by kernel_rfl) (fun _ _ => r_fldp (k := 0) rfl Tryd.underlying44 rfl nz37 rfl) hX138.pins ?_
      refine dr_take (i := 2) rfl rfl rfl (want_none rfl _) (by kernel_rfl) (fun _ hS => r_ldp1 (u := u89) ag37 rfl (hS _ _ _ (hbp129 0 _ rfl))) hX138.pins ?_
      refine dr_take (i := 5) rfl rfl rfl (want_none rfl _) (by kernel_rfl) (fun _ _ => r_move (v := (.pointer (some ⟨b47, 0, none⟩))) rfl) hX138.pins ?_
      refine dr_take (i := 6) rfl rfl rfl (want_none rfl _) (by kernel_rfl) (fun _ _ => r_fldp (k := 1) rfl Tryd.underlying44 rfl nz37 rfl) hX138.pins ?_
      refine dr_take (i := 7) rfl rfl rfl (want_none rfl _) (by kernel_rfl) (fun _ hS => r_ldp1 (u := u90) ag37 rfl (hS _ _ _ (hbp129 1 _ rfl))) hX138.pins ?_
      have hdl152 := (dom_len (g := gN (addM ([]) ([]) fs).2.1 ((((addM ([]) ([]) fs).2.1).getD (((addM ([]) ([]) fs).1).getD j 0).toNat default).l)) (lf := true) (n := ((((addM ([]) ([]) fs).2.1).getD (((addM ([]) ([]) fs).1).getD j 0).toNat default).l).length) ((((addM ([]) ([]) fs).2.1).getD (((addM ([]) ([]) fs).1).getD j 0).toNat default).l).length).1
      refine dr_one (i := 3) (by kernel_rfl) (drOp1 (i := 3) rfl rfl rfl (want_none rfl _) (o_call (vs := [(.pointer (some ⟨b47, 0, none⟩)), u89, (.bool true)]) Tryd.func13 nm13 rfl rfl rfl ?_))
      refine Calls.mono (l6Dominated_spec hX138.pins ⟨⟨hb142, ho140, ho141, ha42, ha43, ha44⟩, hb143, ho139, ha54, ha64.symm, ha60.symm, ha62.symm⟩ (lf := true) (hr91.mono hle127) hbl.1 (fun i hi => by have := hbo.1 _ (getD_mem (d := (0 : Int)) hi); omega) h0.book hka1) ?_
      rintro _ w147 ⟨u144, ks145, G146, rfl, hr148, hd149, hka150, hx151⟩
      refine ⟨_, rfl, ?_⟩
      have hX153 := hX138.trans hx151 (fun i hi => hlok i hi)
      have ho154 := ho140.extS hx151 (notO ha60.symm)
      have ho155 := ho141.extS hx151 (notO ha62.symm)
      have hb156 := hb142.extS hx151 (notOb ha64.symm)
      have hb157 := hb143.extS hx151 (notOb ha54)
      refine ⟨fun _ => (Pins.of_le hX153.pins hx151.le), ?_⟩
      refine dr_take (i := 4) rfl rfl rfl (want_none rfl _) (by kernel_rfl) (fun _ _ => run_len Tryd.underlying37 (v := u144) rfl hr148) (Pins.of_le hX153.pins hx151.le) ?_
      have hdl166 := (dom_len (g := gN (addM ([]) ([]) fs).2.1 ((((addM ([]) ([]) fs).2.1).getD (((addM ([]) ([]) fs).1).getD j 0).toNat default).r)) (lf := false) (n := ((((addM ([]) ([]) fs).2.1).getD (((addM ([]) ([]) fs).1).getD j 0).toNat default).r).length) ((((addM ([]) ([]) fs).2.1).getD (((addM ([]) ([]) fs).1).getD j 0).toNat default).r).length).1
      refine dr_one (i := 8) (by kernel_rfl) (drOp1 (i := 8) rfl rfl rfl (want_none rfl _) (o_call (vs := [(.pointer (some ⟨b47, 0, none⟩)), u90, (.bool false)]) Tryd.func13 nm13 rfl rfl rfl ?_))
      refine Calls.mono (l6Dominated_spec hX153.pins ⟨⟨hb156, ho154, ho155, ha42, ha43, ha44⟩, hb157, hd149.ok, ha54, ha64.symm, ha60.symm, ha62.symm⟩ (lf := false) (hr92.mono (Pin.le_trans hle127 hx151.le)) hbl.2 (fun i hi => by have := hbo.2 _ (getD_mem (d := (0 : Int)) hi); omega) h0.book hka150) ?_
      rintro _ w161 ⟨u158, ks159, G160, rfl, hr162, hd163, hka164, hx165⟩
      refine ⟨_, rfl, ?_⟩
      have hX167 := hX153.trans hx165 (fun i hi => hlok i hi)
      have ho168 := ho154.extS hx165 (notO ha60.symm)
      have ho169 := ho155.extS hx165 (notO ha62.symm)
      have hb170 := hb156.extS hx165 (notOb ha64.symm)
      have hb171 := hb157.extS hx165 (notOb ha54)
      refine ⟨fun _ => (Pins.of_le hX167.pins (Pin.le_trans hx151.le hx165.le)), ?_⟩
      refine dr_take (i := 9) rfl rfl rfl (want_none rfl _) (by kernel_rfl) (fun _ _ => run_len Tryd.underlying37 (v := u158) rfl hr162) (Pins.of_le hX167.pins (Pin.le_trans hx151.le hx165.le)) ?_
      refine dr_take (i := 10) rfl rfl rfl (want_none rfl _) (by kernel_rfl) (fun _ _ => r_add rfl rfl (by omega)) (Pins.of_le hX167.pins (Pin.le_trans hx151.le hx165.le)) ?_
      refine dr_take (i := 11) rfl rfl rfl (want_none rfl _) (by kernel_rfl) (fun _ _ => r_gtr rfl rfl) (Pins.of_le hX167.pins (Pin.le_trans hx151.le hx165.le)) ?_
      refine dr_end (by kernel_rfl) ?_
      refine s_then ?_
      refine c_ifd (p := (0 : Int) < (((domL (gN ((addM ([]) ([]) fs).2.1) ((((addM ([]) ([]) fs).2.1).getD (((addM ([]) ([]) fs).1).getD j 0).toNat default).l)) true ((((addM ([]) ([]) fs).2.1).getD (((addM ([]) ([]) fs).1).getD j 0).toNat default).l).length ((((addM ([]) ([]) fs).2.1).getD (((addM ([]) ([]) fs).1).getD j 0).toNat default).l).length).length : Int) + ((domL (gN ((addM ([]) ([]) fs).2.1) ((((addM ([]) ([]) fs).2.1).getD (((addM ([]) ([]) fs).1).getD j 0).toNat default).r)) false ((((addM ([]) ([]) fs).2.1).getD (((addM ([]) ([]) fs).1).getD j 0).toNat default).r).length ((((addM ([]) ([]) fs).2.1).getD (((addM ([]) ([]) fs).1).getD j 0).toNat default).r).length).length : Int))) rfl rfl (fun h172 => ?_) (fun h172 => ?_)
      · skip
        refine s_seq ?_
        refine c_reg ?_
        refine qd rfl rfl rfl (r_assign (v := (.bool false)) rfl) ?_
        refine qd rfl rfl rfl (r_assign (v := (.bool true)) rfl) ?_
        refine qe ?_
        refine s_then ?_
        refine wp_ret ?_
        refine s_ret ?_
        refine c_ret2 (v := (.bool false)) (u := (.bool true)) rfl rfl rfl rfl rfl ?_
        have hd0 := h172
        simp only [hsb.1, hidx, Int.toNat_natCast] at hd0
        rw [hgb, isc_not hga (k := j) (by omega) (fun hc => by have := (nodom_iff hsg (by omega)).1 hc.1; omega)]
        exact ⟨_, rfl, hX167⟩
      refine wp_skip ?_
      refine s_then ?_
      refine s_seq ?_
      refine c_reg ?_
      refine qd rfl rfl rfl (r_move (v := (.pointer (some ⟨b47, 0, none⟩))) rfl) ?_
      refine qd rfl rfl rfl (r_move (v := u35) rfl) ?_
      refine qd rfl rfl rfl (r_move (v := (.int .i64 (j : Int))) rfl) ?_
      refine qd rfl rfl rfl (run_idx Tryd.underlying37 sz3 (v := u35) rfl rfl hr36 (by omega) (by omega)) ?_
      refine qd rfl rfl rfl (run_load_int (r := ((addM ([]) ([]) fs).1).getD j 0) rfl ag3 (z := (j : Int)) rfl hr36 (Pins.of_le hX167.pins (Pin.le_trans (Pin.le_trans (Pin.le_trans (Pin.le_trans hx55.le hlek68) hle127) hx151.le) hx165.le)) (by omega) (by omega)) ?_
      refine q1 rfl rfl rfl (o_call (vs := [(.pointer (some ⟨b47, 0, none⟩)), (.int .i64 (((addM ([]) ([]) fs).1).getD j 0))]) Tryd.func14 nm14 rfl rfl rfl ?_)
      refine Calls.mono (l6Bypass_spec hX167.pins ⟨⟨hb170, ho168, ho169, ha42, ha43, ha44⟩, hb171, hd163.ok, ha54, ha64.symm, ha60.symm, ha62.symm⟩ ⟨by omega, by omega⟩ h0.book hka164) ?_
      rintro _ w178 ⟨u173, v174, t175, ks176, G177, rfl, ht179, hd180, hka181, hx182⟩
      refine ⟨_, rfl, ?_⟩
      have hX183 := hX167.trans hx182 (fun i hi => hlok i hi)
      have ho184 := ho168.extS hx182 (notO ha60.symm)
      have ho185 := ho169.extS hx182 (notO ha62.symm)
      have hb186 := hb170.extS hx182 (notOb ha64.symm)
      have hb187 := hb171.extS hx182 (notOb ha54)
      refine qd rfl rfl rfl (r_move (v := (.tuple #[u173, v174, (.bool t175)])) rfl) ?_
      refine qd rfl rfl rfl (r_extract (v := u173) rfl rfl) ?_
      refine qd rfl rfl rfl (r_extract (v := v174) rfl rfl) ?_
      refine qd rfl rfl rfl (r_extract (v := (.bool t175)) rfl rfl) ?_
      refine qd rfl rfl rfl (r_assign (v := u173) rfl) ?_
      refine qd rfl rfl rfl (r_assign (v := v174) rfl) ?_
      refine qd rfl rfl rfl (r_assign (v := (.bool t175)) rfl) ?_
      refine qe ?_
      refine s_then ?_
      refine s_seq ?_
      refine c_reg ?_
      refine qd rfl rfl rfl (r_move (v := (.bool t175)) rfl) ?_
      refine qe ?_
      refine s_then ?_
      refine c_if rfl rfl (fun h188 => ?_) (fun h188 => ?_)
      · skip
        refine s_seq ?_
        refine c_reg ?_
        refine qd rfl rfl rfl (r_assign (v := (.bool false)) rfl) ?_
        refine qd rfl rfl rfl (r_assign (v := (.bool true)) rfl) ?_
        refine qe ?_
        refine s_then ?_
        refine wp_ret ?_
        refine s_ret ?_
        refine c_ret2 (v := (.bool false)) (u := (.bool true)) rfl rfl rfl rfl rfl ?_
        have hr0 := ht179.symm.trans h188
        simp only [hsb.1, hidx, Int.toNat_natCast] at hr0
        rw [hgb, isc_not hga (k := j) (by omega) (fun hc => (norev_iff hsg (by omega)).1 hc.2 (decP_true.1 hr0))]
        exact ⟨_, rfl, hX183⟩
      refine wp_skip ?_
      refine s_blkN ?_
      refine s_then ?_
      refine c_reg ?_
      refine qd rfl rfl rfl (r_move (v := (.int .i64 (j : Int))) rfl) ?_
      refine qd rfl rfl rfl (r_add rfl rfl (by omega)) ?_
      refine qd rfl rfl rfl (r_assign (v := (.int .i64 ((j : Int) + 1))) rfl) ?_
      refine qe ?_
      refine s_lopN ?_
      have hd0 := h172
      have hr0 := ht179.symm.trans h188
      simp only [hsb.1, hidx, Int.toNat_natCast] at hd0 hr0
      have hnode : NodeC fs j := ⟨(nodom_iff hsg (by omega)).2 ⟨by omega, by omega⟩, (norev_iff hsg (by omega)).2 (decP_false.1 hr0)⟩
      refine ⟨_, ?_, _, rfl, _, j + 1, ks176, G177, (packS (x := 7) (packS (x := 6) (packS (x := 5) (pack1 (x := 4) rfl) rfl) rfl) rfl), rfl, hX183, (Pin.le_trans (Pin.le_trans (Pin.le_trans (Pin.le_trans hlek68 hle127) hx151.le) hx165.le) hx182.le), (by omega), hka181, (fun x h2 => if h3 : x = j then h3 ▸ hnode else hnc x (by omega)), hd180.ok, ho184, ho185, hb186, hb187⟩
      omega
    refine wp_exit ?_
    refine s_thenE ?_
    refine s_lopE ?_
    refine s_blkE ?_
    refine s_then ?_
    refine s_seq ?_
    refine c_reg ?_
    refine qd rfl rfl rfl (r_assign (v := (.bool true)) rfl) ?_
    refine qd rfl rfl rfl (r_assign (v := (.bool true)) rfl) ?_
    refine qe ?_
    refine s_then ?_
    refine wp_ret ?_
    refine s_ret ?_
    refine c_ret2 (v := (.bool true)) (u := (.bool true)) rfl rfl rfl rfl rfl ?_
    rw [hgb, isc_nodes hga (fun k hk => hnc k (by omega))]
    exact ⟨_, rfl, hX71⟩
  refine s_seq ?_
  refine c_reg ?_
  refine qd rfl rfl rfl (r_assign (v := (.bool false)) rfl) ?_
  refine qd rfl rfl rfl (r_assign (v := (.bool false)) rfl) ?_
  refine qe ?_
  refine s_then ?_
  refine wp_ret ?_
  refine s_ret ?_
  refine c_ret2 (v := (.bool false)) (u := (.bool false)) rfl rfl rfl rfl rfl ?_
  have hgb : goodB fs = false := (good_eq fs).symm.trans h18
  rw [hgb, isc_bad hgb]
  exact ⟨_, rfl, hX17⟩

end CS2
end Go.Proofs.YtfkompdmejpmmaaDoor

/- Walks, printed by a program (walkgen.py) from the spec specs_k. -/
set_option maxRecDepth 20000
set_option maxHeartbeats 2000000
namespace Go.Proofs.YtfkompdmejpmmaaDoor
namespace K1
open Go.RowKit Go.GL Go.Proofs
theorem ap5 : (Tryd.prog.info? 5).map (fun i => (i.size, i.bytes, (i.zero.map (·.cells.size)))) = some (1, 1, some 1) := by kernel_rfl
theorem nm68 : (Tryd.f68.name == "runtime.NumGoroutine") = false := by kernel_rfl
theorem nm72 : (Tryd.f72.name == "runtime.NumGoroutine") = false := by kernel_rfl
theorem nm87 : (Tryd.f87.name == "runtime.NumGoroutine") = false := by kernel_rfl
theorem nm95 : (Tryd.f95.name == "runtime.NumGoroutine") = false := by kernel_rfl
theorem sz5 : (Tryd.prog.info? 5).map (·.size) = some 1 := by kernel_rfl
theorem zr124 : (Tryd.prog.info? 124).bind (·.zero) = some (.agg #[(.int .u8 0), (.int .u8 0), (.int .u8 0), (.int .u8 0), (.int .u8 0), (.int .u8 0), (.int .u8 0), (.int .u8 0), (.int .u8 0), (.int .u8 0), (.int .u8 0), (.int .u8 0), (.int .u8 0), (.int .u8 0), (.int .u8 0), (.int .u8 0), (.int .u8 0), (.int .u8 0), (.int .u8 0), (.int .u8 0), (.int .u8 0), (.int .u8 0), (.int .u8 0), (.int .u8 0), (.int .u8 0), (.int .u8 0), (.int .u8 0), (.int .u8 0), (.int .u8 0), (.int .u8 0), (.int .u8 0), (.int .u8 0), (.int .u8 0), (.int .u8 0), (.int .u8 0), (.int .u8 0), (.int .u8 0), (.int .u8 0), (.int .u8 0), (.int .u8 0), (.int .u8 0), (.int .u8 0), (.int .u8 0), (.int .u8 0), (.int .u8 0), (.int .u8 0), (.int .u8 0), (.int .u8 0), (.int .u8 0), (.int .u8 0), (.int .u8 0), (.int .u8 0), (.int .u8 0), (.int .u8 0), (.int .u8 0), (.int .u8 0), (.int .u8 0), (.int .u8 0), (.int .u8 0), (.int .u8 0), (.int .u8 0), (.int .u8 0), (.int .u8 0), (.int .u8 0), (.int .u8 0)]) := by kernel_rfl

theorem isPow_spec {w : World} {G : Pin} (hP : Pins G w) :
    Calls Tryd.prog 95 [(.int .i64 36)].toArray w fun e w' => e = .returned (.bool false) ∧ w' = w := by
  refine s_enter (n := 8) Tryd.func95 Tryd.ntmps95 rfl rfl ?_
  have hX0 : Ext noS G w G w := Ext.refl hP
  refine s_seq ?_
  refine c_reg ?_
  refine qd rfl rfl rfl (r_assign (v := (.bool false)) rfl) ?_
  refine qe ?_
  refine s_then ?_
  refine s_seq ?_
  refine c_reg ?_
  refine qd rfl rfl rfl (r_move (v := (.int .i64 36)) rfl) ?_
  refine qd rfl rfl rfl (r_move (v := (.int .i64 36)) rfl) ?_
  refine qd rfl rfl rfl (r_sub rfl rfl (by omega)) ?_
  refine qd rfl rfl rfl (r_and rfl rfl) ?_
  refine qd rfl rfl rfl (r_eql rfl rfl) ?_
  refine qd rfl rfl rfl (r_assign (v := (.bool (decide ((andW .i64 36 (36 - 1) : Int) = 0)))) rfl) ?_
  refine qe ?_
  refine s_then ?_
  refine wp_ret ?_
  refine s_ret ?_
  refine c_ret1 (v := (.bool (decide ((andW .i64 36 (36 - 1) : Int) = 0)))) rfl rfl rfl ?_
  exact ⟨congrArg (fun z => Ending.returned (Value.bool z)) not_pow36, rfl⟩

theorem formatBits_spec {w : World} {G : Pin} {v : Value} {xs : List UInt8} {i : Int} (hP : Pins G w) (hv : Own eByte 5 G w 0 v xs) (hxl : xs.length ≤ 1099511627776) (hi : 0 ≤ i ∧ i ≤ 9223372036854775807) :
    Calls Tryd.prog 87 [v, (.int .u64 i), (.int .i64 36), (.bool false), (.bool true)].toArray w fun e w' => ∃ (u : Value) (G' : Pin), e = .returned (.tuple #[u, .string (⟨#[]⟩ : ByteArray)]) ∧ Own eByte 5 G' w' 0 u (xs ++ dig36 i.toNat) ∧ Lo w (inO v.ownBlock) u.ownBlock ∧ Ext (inO v.ownBlock) G w G' w' := by
  refine s_enter (n := 102) Tryd.func87 Tryd.ntmps87 rfl rfl ?_
  have hX0 : Ext (inO v.ownBlock) G w G w := Ext.refl hP
  have hlov : Lo w (inO v.ownBlock) v.ownBlock := lo_self
  refine s_seq ?_
  refine c_reg ?_
  refine qd rfl rfl rfl (r_assign (v := (.slice none 0 0)) rfl) ?_
  refine qd rfl rfl rfl (r_assign (v := (.string (⟨#[]⟩ : ByteArray))) rfl) ?_
  refine qe ?_
  refine s_then ?_
  refine s_seq ?_
  refine s_seq ?_
  refine c_reg ?_
  refine qd rfl rfl rfl (r_move (v := (.int .i64 36)) rfl) ?_
  refine qd rfl rfl rfl (r_lss rfl rfl) ?_
  refine qd rfl rfl rfl (r_move (v := (.bool false)) rfl) ?_
  refine qdg rfl rfl rfl rfl rfl rfl (r_move (v := (.int .i64 36)) rfl) ?_
  refine qdg rfl rfl rfl rfl rfl rfl (r_eql rfl rfl) ?_
  refine qd rfl rfl rfl (r_pickF (v := (.bool false)) rfl rfl) ?_
  refine qd rfl rfl rfl (r_move (v := (.bool false)) rfl) ?_
  refine qdg rfl rfl rfl rfl rfl rfl (r_move (v := (.int .i64 36)) rfl) ?_
  refine qdg rfl rfl rfl rfl rfl rfl (r_gtr rfl rfl) ?_
  refine qd rfl rfl rfl (r_pickF (v := (.bool false)) rfl rfl) ?_
  refine qe ?_
  refine s_then ?_
  refine c_ifF rfl rfl ?_
  refine wp_skip ?_
  refine s_then ?_
  refine s_seq ?_
  refine c_reg ?_
  refine q1 rfl rfl rfl (o_alloc (arrV (List.replicate 65 0)) zr124 rfl hX0.pins (fun b1 w2 hk3 hb4 hp5 hl6 => ?_))
  have hX7 := hX0.step hp5 hl6
  have ho8 := hv.below hl6
  have ha9 : Apart (some b1) v.ownBlock := new_ne_own (congrArg some hk3) hv.lt
  have hlo10 : w.heap.size ≤ b1 := by have := hX0.size; omega
  refine qe ?_
  refine s_then ?_
  refine s_seq ?_
  refine c_reg ?_
  refine qd rfl rfl rfl (r_assign (v := (.int .i64 65)) rfl) ?_
  refine qe ?_
  refine s_then ?_
  refine s_seq ?_
  refine s_seq ?_
  refine c_reg ?_
  refine qd rfl rfl rfl (r_move (v := (.bool false)) rfl) ?_
  refine qe ?_
  refine s_then ?_
  refine c_ifF rfl rfl ?_
  refine wp_skip ?_
  refine s_then ?_
  refine s_seq ?_
  refine s_seq ?_
  refine c_reg ?_
  refine qd rfl rfl rfl (r_move (v := (.int .i64 36)) rfl) ?_
  refine q1 rfl rfl rfl (o_call (vs := [(.int .i64 36)]) Tryd.func95 nm95 rfl rfl rfl ?_)
  refine Calls.mono (isPow_spec hX7.pins ) ?_
  rintro _ _ ⟨rfl, rfl⟩
  refine ⟨_, rfl, ?_⟩
  refine qe ?_
  refine s_then ?_
  refine c_ifF rfl rfl ?_
  refine s_seq ?_
  refine c_reg ?_
  refine qd rfl rfl rfl (r_move (v := (.int .i64 36)) rfl) ?_
  refine qd rfl rfl rfl (r_conv (j := 36) Tryd.underlying3 Tryd.underlying99 rfl (wrapU (by omega))) ?_
  refine qd rfl rfl rfl (r_assign (v := (.int .u64 36)) rfl) ?_
  refine qe ?_
  refine s_then ?_
  refine s_seq ?_
  refine s_blk ?_
  refine s_loop (fun (k : Nat) (en : Nat → Value) (W : World) => ∃ (env1 : Nat → Value) (uz : Int) (iz : Int) (L : List UInt8), en = (upd (upd (upd (upd (upd (upd (upd (upd (upd env1 0 v) 1 (.int .u64 uz)) 3 (.bool false)) 4 (.bool true)) 10 (.slice none 0 0)) 11 (.string (⟨#[]⟩ : ByteArray))) 12 (.pointer (some ⟨b1, 0, none⟩))) 13 (.int .i64 iz)) 17 (.int .u64 36)) ∧ k = uz.toNat ∧ Ext (inO v.ownBlock) G w G W ∧ (L.length = 65) ∧ (0 ≤ uz ∧ uz ≤ 9223372036854775807) ∧ (iz ≤ 65) ∧ (dig36 i.toNat = dig36 uz.toNat ++ L.drop iz.toNat) ∧ (Own eByte 5 G W 0 v (xs)) ∧ (Bx G W b1 (arrV (L)))) _ ⟨_, i, 65, List.replicate 65 0, (packS (x := 17) (packS (x := 13) (packS (x := 12) (packS (x := 11) (packS (x := 10) (packS (x := 4) (packS (x := 3) (packS (x := 1) (pack1 (x := 0) rfl) rfl) rfl) rfl) rfl) rfl) rfl) rfl) rfl), rfl, hX7, List.length_replicate, hi, (Int.le_refl _), (by simp), ho8, hb4⟩ ?_
  rintro k11 _ w12 ⟨env1, uz, iz, L, rfl, hk13, hX14, hL, hu, hiz, hd, hw15, hw16⟩
  have hpl := dig_place hd hL (by omega)
  refine s_seq ?_
  refine s_seq ?_
  refine c_reg ?_
  refine qd rfl rfl rfl (r_move (v := (.int .u64 uz)) rfl) ?_
  refine qd rfl rfl rfl (r_move (v := (.int .u64 36)) rfl) ?_
  refine qd rfl rfl rfl (r_geq rfl rfl) ?_
  refine qe ?_
  refine s_then ?_
  refine c_ifd (p := (36 : Int) ≤ uz) rfl rfl (fun h17 => ?_) (fun h17 => ?_)
  · skip
    refine wp_skip ?_
    refine s_then ?_
    refine s_blk ?_
    refine s_seq ?_
    refine c_reg ?_
    refine qd rfl rfl rfl (r_move (v := (.int .i64 iz)) rfl) ?_
    refine qd rfl rfl rfl (r_sub rfl rfl (by omega)) ?_
    refine qd rfl rfl rfl (r_assign (v := (.int .i64 (iz - 1))) rfl) ?_
    refine qe ?_
    refine s_then ?_
    refine s_seq ?_
    refine c_reg ?_
    refine qd rfl rfl rfl (r_move (v := (.int .u64 uz)) rfl) ?_
    refine qd rfl rfl rfl (r_move (v := (.int .u64 36)) rfl) ?_
    refine qd rfl rfl rfl (r_quoX rfl rfl (by omega) (by omega) (by omega)) ?_
    refine qd rfl rfl rfl (r_assign (v := (.int .u64 (uz / 36))) rfl) ?_
    refine qe ?_
    refine s_then ?_
    refine s_seq ?_
    refine c_reg ?_
    refine qd rfl rfl rfl (r_move (v := (.int .i64 (iz - 1))) rfl) ?_
    refine qd rfl rfl rfl (r_move (v := (.int .u64 uz)) rfl) ?_
    refine qd rfl rfl rfl (r_move (v := (.int .u64 (uz / 36))) rfl) ?_
    refine qd rfl rfl rfl (r_move (v := (.int .u64 36)) rfl) ?_
    refine qd rfl rfl rfl (r_mulX rfl rfl (by omega)) ?_
    refine qd rfl rfl rfl (r_subX rfl rfl (by omega)) ?_
    refine qd rfl rfl rfl (r_digit Tryd.underlying9 rfl rfl (by omega)) ?_
    refine qd rfl rfl rfl (r_idxb (k := (iz - 1).toNat) Tryd.underlying124 sz5 rfl rfl (by omega) (by omega) (by omega)) ?_
    refine q0 rfl rfl rfl (o_stpk (k := (iz - 1).toNat) (x0 := digC (uz - ((uz / 36) * 36)).toNat) sz5 rfl rfl (by first | omega | (simp only [List.length_set]; omega)) hX14.pins hw16 (fun w18 hb19 hp20 hg21 hz22 => ?_))
    have hX23 := hX14.write hp20 hg21 ((lo_box hlo10))
    have ho24 := hw15.keptA hg21 ha9.symm
    refine qe ?_
    refine s_then ?_
    refine c_reg ?_
    refine qd rfl rfl rfl (r_move (v := (.int .u64 (uz / 36))) rfl) ?_
    refine qd rfl rfl rfl (r_assign (v := (.int .u64 (uz / 36))) rfl) ?_
    refine qe ?_
    refine s_blkN ?_
    refine s_lopN ?_
    refine ⟨_, ?_, _, rfl, _, uz / 36, iz - 1, L.set (iz - 1).toNat (digC (uz - ((uz / 36) * 36)).toNat), (packS (x := 17) (packS (x := 13) (packS (x := 12) (packS (x := 11) (packS (x := 10) (packS (x := 4) (packS (x := 3) (packS (x := 1) (pack1 (x := 0) rfl) rfl) rfl) rfl) rfl) rfl) rfl) rfl) rfl), rfl, hX23, (by rw [List.length_set]; exact hL), (by omega), (by omega), (dig_step hd hL (by omega) (by omega)), ho24, hb19⟩
    omega
  refine wp_exit ?_
  refine s_thenE ?_
  refine s_lopE ?_
  refine s_blkE ?_
  refine s_then ?_
  refine s_seq ?_
  refine c_reg ?_
  refine qd rfl rfl rfl (r_move (v := (.int .i64 iz)) rfl) ?_
  refine qd rfl rfl rfl (r_sub rfl rfl (by omega)) ?_
  refine qd rfl rfl rfl (r_assign (v := (.int .i64 (iz - 1))) rfl) ?_
  refine qe ?_
  refine s_then ?_
  refine c_reg ?_
  refine qd rfl rfl rfl (r_move (v := (.int .i64 (iz - 1))) rfl) ?_
  refine qd rfl rfl rfl (r_move (v := (.int .u64 uz)) rfl) ?_
  refine qd rfl rfl rfl (r_digit Tryd.underlying9 rfl rfl (by omega)) ?_
  refine qd rfl rfl rfl (r_idxb (k := (iz - 1).toNat) Tryd.underlying124 sz5 rfl rfl (by omega) (by omega) (by omega)) ?_
  refine q0 rfl rfl rfl (o_stpk (k := (iz - 1).toNat) (x0 := digC (uz).toNat) sz5 rfl rfl (by first | omega | (simp only [List.length_set]; omega)) hX14.pins hw16 (fun w25 hb26 hp27 hg28 hz29 => ?_))
  have hX30 := hX14.write hp27 hg28 ((lo_box hlo10))
  have ho31 := hw15.keptA hg28 ha9.symm
  refine qe ?_
  refine s_then ?_
  refine s_seq ?_
  refine s_seq ?_
  refine c_reg ?_
  refine qd rfl rfl rfl (r_move (v := (.bool false)) rfl) ?_
  refine qe ?_
  refine s_then ?_
  refine c_ifF rfl rfl ?_
  refine wp_skip ?_
  refine s_then ?_
  refine s_seq ?_
  refine s_seq ?_
  refine c_reg ?_
  refine qd rfl rfl rfl (r_move (v := (.bool true)) rfl) ?_
  refine qe ?_
  refine s_then ?_
  refine c_ifT rfl rfl ?_
  refine s_seq ?_
  refine c_reg ?_
  refine qd rfl rfl rfl (r_move (v := v) rfl) ?_
  refine qd rfl rfl rfl (r_move (v := (.int .i64 (iz - 1))) rfl) ?_
  obtain ⟨G32, hle33, hX34, hbp35, hf36⟩ := hb26.shut hX30 hlo10
  have ho37 := ho31.moreA hle33 hf36 ha9.symm
  obtain ⟨u38, hr39, hl40⟩ := name_arr (z := iz - 1) (n := 65) hbp35 (by rw [List.length_set]; exact hL) (by omega) (by decide)
  refine qd rfl rfl rfl (hl40 Tryd.underlying124 sz5 rfl rfl) ?_
  refine q1 rfl rfl rfl (o_append (E := eByte) (v := v) (u := u38) 1 Tryd.underlying90 ap5 (by decide) rfl rfl hX34.pins ho37 ((hr39.mono (Pin.le_refl _)).src hX34.pins (by decide)) (by first | omega | (rw [List.nil_append]; omega) | (rw [List.length_nil]; omega) | (rw [List.length_append]; omega) | (simp; done) | (simp; omega) | (simp only [List.length_append, List.length_cons, List.length_nil]; omega)) (by first | omega | (rw [List.nil_append]; omega) | (rw [List.length_nil]; omega) | (rw [List.length_append]; omega) | (simp; done) | (simp; omega) | (simp only [List.length_append, List.length_cons, List.length_nil]; omega)) (Nat.zero_le _) (fun u41 w42 ho43 hp44 hg45 hw46 => ?_))
  have hX47 := hX34.write hp44 hg45 (hlov)
  have hlo48 : Lo w (inO v.ownBlock) u41.ownBlock := lo_app hlov hw46 hX34.size
  have hm49 : (xs ++ ((L.set (iz - 1).toNat (digC (uz).toNat)).drop (iz - 1).toNat)).length = xs.length + ((L.set (iz - 1).toNat (digC (uz).toNat)).drop (iz - 1).toNat).length := List.length_append
  refine qd rfl rfl rfl (r_assign (v := u41) rfl) ?_
  refine qe ?_
  refine s_then ?_
  refine wp_ret ?_
  refine s_ret ?_
  refine c_ret2 (v := u41) (u := (.string (⟨#[]⟩ : ByteArray))) rfl rfl rfl rfl rfl ?_
  have hown := ho43
  rw [dig_last hd hL (by omega) (by omega)] at hown
  exact ⟨_, _, rfl, hown, hlo48, hX47⟩

theorem appendUint_spec {w : World} {G : Pin} {v : Value} {xs : List UInt8} {i : Int} (hP : Pins G w) (hv : Own eByte 5 G w 0 v xs) (hxl : xs.length ≤ 1099511627776) (hi : 0 ≤ i ∧ i ≤ 9223372036854775807) :
    Calls Tryd.prog 72 [v, (.int .u64 i), (.int .i64 36)].toArray w fun e w' => ∃ (u : Value) (G' : Pin), e = .returned u ∧ Own eByte 5 G' w' 0 u (xs ++ dig36 i.toNat) ∧ Lo w (inO v.ownBlock) u.ownBlock ∧ Ext (inO v.ownBlock) G w G' w' := by
  refine s_enter (n := 36) Tryd.func72 Tryd.ntmps72 rfl rfl ?_
  have hX0 : Ext (inO v.ownBlock) G w G w := Ext.refl hP
  have hlov : Lo w (inO v.ownBlock) v.ownBlock := lo_self
  refine s_seq ?_
  refine c_reg ?_
  refine qd rfl rfl rfl (r_assign (v := (.slice none 0 0)) rfl) ?_
  refine qe ?_
  refine s_then ?_
  refine s_seq ?_
  refine s_seq ?_
  refine c_reg ?_
  refine qd rfl rfl rfl (r_move (v := (.int .i64 36)) rfl) ?_
  refine qd rfl rfl rfl (r_eql rfl rfl) ?_
  refine qe ?_
  refine s_then ?_
  refine c_ifF rfl rfl ?_
  refine wp_skip ?_
  refine s_then ?_
  refine s_seq ?_
  refine c_reg ?_
  refine qd rfl rfl rfl (r_move (v := v) rfl) ?_
  refine qd rfl rfl rfl (r_move (v := (.int .u64 i)) rfl) ?_
  refine qd rfl rfl rfl (r_move (v := (.int .i64 36)) rfl) ?_
  refine q1 rfl rfl rfl (o_call (vs := [v, (.int .u64 i), (.int .i64 36), (.bool false), (.bool true)]) Tryd.func87 nm87 rfl rfl rfl ?_)
  refine Calls.mono (formatBits_spec (i := i) hX0.pins hv (by omega) (by omega)) ?_
  rintro _ w3 ⟨u1, G2, rfl, ho4, hlo5, hx6⟩
  refine ⟨_, rfl, ?_⟩
  have hX7 := hX0.trans hx6 (fun i hi => hlov i hi)
  have hlo8 := lo_turn hlo5 hlov hX0.size
  have hm9 : (xs ++ dig36 (i).toNat).length = xs.length + (dig36 (i).toNat).length := List.length_append
  refine qd rfl rfl rfl (r_move (v := (.tuple #[u1, (.string (⟨#[]⟩ : ByteArray))])) rfl) ?_
  refine qd rfl rfl rfl (r_extract (v := u1) rfl rfl) ?_
  refine qd rfl rfl rfl (r_extract (v := (.string (⟨#[]⟩ : ByteArray))) rfl rfl) ?_
  refine qd rfl rfl rfl (r_assign (v := u1) rfl) ?_
  refine qe ?_
  refine s_then ?_
  refine s_seq ?_
  refine c_reg ?_
  refine qd rfl rfl rfl (r_move (v := u1) rfl) ?_
  refine qd rfl rfl rfl (r_assign (v := u1) rfl) ?_
  refine qe ?_
  refine s_then ?_
  refine wp_ret ?_
  refine s_ret ?_
  refine c_ret1 (v := u1) rfl rfl rfl ?_
  exact ⟨_, _, rfl, ho4, hlo8, hX7⟩

theorem iAppendInt_spec {w : World} {G : Pin} {v : Value} {xs : List UInt8} {i : Int} (hP : Pins G w) (hv : Own eByte 5 G w 0 v xs) (hxl : xs.length ≤ 1099511627776) (hi : 0 ≤ i ∧ i ≤ 9223372036854775807) :
    Calls Tryd.prog 68 [v, (.int .i64 i), (.int .i64 36)].toArray w fun e w' => ∃ (u : Value) (G' : Pin), e = .returned u ∧ Own eByte 5 G' w' 0 u (xs ++ dig36 i.toNat) ∧ Lo w (inO v.ownBlock) u.ownBlock ∧ Ext (inO v.ownBlock) G w G' w' := by
  refine s_enter (n := 21) Tryd.func68 Tryd.ntmps68 rfl rfl ?_
  have hX0 : Ext (inO v.ownBlock) G w G w := Ext.refl hP
  have hlov : Lo w (inO v.ownBlock) v.ownBlock := lo_self
  refine s_seq ?_
  refine c_reg ?_
  refine qd rfl rfl rfl (r_assign (v := (.slice none 0 0)) rfl) ?_
  refine qe ?_
  refine s_then ?_
  refine s_seq ?_
  refine c_reg ?_
  refine qd rfl rfl rfl (r_move (v := (.int .i64 i)) rfl) ?_
  refine qd rfl rfl rfl (r_conv (j := i) Tryd.underlying2 Tryd.underlying99 rfl (wrapU (by omega))) ?_
  refine qd rfl rfl rfl (r_assign (v := (.int .u64 i)) rfl) ?_
  refine qe ?_
  refine s_then ?_
  refine s_seq ?_
  refine s_seq ?_
  refine c_reg ?_
  refine qd rfl rfl rfl (r_move (v := (.int .i64 i)) rfl) ?_
  refine qd rfl rfl rfl (r_lss rfl rfl) ?_
  refine qe ?_
  refine s_then ?_
  refine c_ifd (p := (i : Int) < 0) rfl rfl (fun h1 => ?_) (fun h1 => ?_)
  · skip
    exfalso; omega
  refine wp_skip ?_
  refine s_then ?_
  refine s_seq ?_
  refine c_reg ?_
  refine qd rfl rfl rfl (r_move (v := v) rfl) ?_
  refine qd rfl rfl rfl (r_move (v := (.int .u64 i)) rfl) ?_
  refine qd rfl rfl rfl (r_move (v := (.int .i64 36)) rfl) ?_
  refine q1 rfl rfl rfl (o_call (vs := [v, (.int .u64 i), (.int .i64 36)]) Tryd.func72 nm72 rfl rfl rfl ?_)
  refine Calls.mono (appendUint_spec (i := i) hX0.pins hv (by omega) (by omega)) ?_
  rintro _ w4 ⟨u2, G3, rfl, ho5, hlo6, hx7⟩
  refine ⟨_, rfl, ?_⟩
  have hX8 := hX0.trans hx7 (fun i hi => hlov i hi)
  have hlo9 := lo_turn hlo6 hlov hX0.size
  have hm10 : (xs ++ dig36 (i).toNat).length = xs.length + (dig36 (i).toNat).length := List.length_append
  refine qd rfl rfl rfl (r_assign (v := u2) rfl) ?_
  refine qe ?_
  refine s_then ?_
  refine wp_ret ?_
  refine s_ret ?_
  refine c_ret1 (v := u2) rfl rfl rfl ?_
  exact ⟨_, _, rfl, ho5, hlo9, hX8⟩

theorem appendInt_spec {w : World} {G : Pin} {v : Value} {xs : List UInt8} {i : Int} (hP : Pins G w) (hv : Own eByte 5 G w 0 v xs) (hxl : xs.length ≤ 1099511627776) (hi : 0 ≤ i ∧ i ≤ 9223372036854775807) :
    Calls Tryd.prog 59 [v, (.int .i64 i), (.int .i64 36)].toArray w fun e w' => ∃ (u : Value) (G' : Pin), e = .returned u ∧ Own eByte 5 G' w' 0 u (xs ++ dig36 i.toNat) ∧ Lo w (inO v.ownBlock) u.ownBlock ∧ Ext (inO v.ownBlock) G w G' w' := by
  refine s_enter (n := 11) Tryd.func59 Tryd.ntmps59 rfl rfl ?_
  have hX0 : Ext (inO v.ownBlock) G w G w := Ext.refl hP
  have hlov : Lo w (inO v.ownBlock) v.ownBlock := lo_self
  refine s_seq ?_
  refine c_reg ?_
  refine qd rfl rfl rfl (r_assign (v := (.slice none 0 0)) rfl) ?_
  refine qe ?_
  refine s_then ?_
  refine s_seq ?_
  refine c_reg ?_
  refine qd rfl rfl rfl (r_move (v := v) rfl) ?_
  refine qd rfl rfl rfl (r_move (v := (.int .i64 i)) rfl) ?_
  refine qd rfl rfl rfl (r_move (v := (.int .i64 36)) rfl) ?_
  refine q1 rfl rfl rfl (o_call (vs := [v, (.int .i64 i), (.int .i64 36)]) Tryd.func68 nm68 rfl rfl rfl ?_)
  refine Calls.mono (iAppendInt_spec (i := i) hX0.pins hv (by omega) (by omega)) ?_
  rintro _ w3 ⟨u1, G2, rfl, ho4, hlo5, hx6⟩
  refine ⟨_, rfl, ?_⟩
  have hX7 := hX0.trans hx6 (fun i hi => hlov i hi)
  have hlo8 := lo_turn hlo5 hlov hX0.size
  have hm9 : (xs ++ dig36 (i).toNat).length = xs.length + (dig36 (i).toNat).length := List.length_append
  refine qd rfl rfl rfl (r_assign (v := u1) rfl) ?_
  refine qe ?_
  refine s_then ?_
  refine wp_ret ?_
  refine s_ret ?_
  refine c_ret1 (v := u1) rfl rfl rfl ?_
  exact ⟨_, _, rfl, ho4, hlo8, hX7⟩

end K1
end Go.Proofs.YtfkompdmejpmmaaDoor

/-
  DERIVED: THE SHELF's CONTRACTS AT THIS DUMP, IN PLAIN WORDS (tools/lay-plain.mjs out of 'TrydShelf.lean', which tools/lay-shelf.mjs wrote): THE SAME DECLARATIONS UNDER THE SAME NAMES: 'import', 'namespace', 'open', 'def', 'theorem' AND NOTHING ELSE: no command of the shelf's: FOR A HAND-IN. Each laying: the table of numbers ('.._ren') and one theorem, a field a fact of the dump's own or the kernel's comparison; each contract: ONE APPLICATION.
-/
namespace Go.Proofs
open Go.Shelf
def Tryd.lays189_ren : Go.Shelf.Ren := ⟨fun | 189 => 66 | 125 => 71 | 257 => 70 | 128 => 82 | 129 => 83 | 294 => 73 | 295 => 74 | 296 => 75 | 297 => 76 | 298 => 77 | 299 => 78 | 216 => 79 | 300 => 80 | 301 => 81 | 328 => 88 | 329 => 89 | 330 => 90 | 331 => 91 | 332 => 92 | 215 => 55 | 343 => 97 | n => n, fun | 28 => 37 | 3 => 3 | 46 => 98 | 0 => 0 | 51 => 109 | 53 => 99 | 4 => 4 | 183 => 104 | 182 => 103 | 131 => 80 | 5 => 5 | 9 => 9 | 218 => 116 | 222 => 120 | 228 => 125 | 229 => 126 | n => n, fun | n => n⟩
theorem Tryd.lays189 : Go.Proofs.Lays.n189 Tryd.prog Tryd.lays189_ren := {
  mixed := by kernel_rfl
  f125 := Tryd.func71.trans (congrArg some (by kernel_rfl))
  f128 := Tryd.func82.trans (congrArg some (by kernel_rfl))
  f129 := Tryd.func83.trans (congrArg some (by kernel_rfl))
  f189 := Tryd.func66.trans (congrArg some (by kernel_rfl))
  f215 := Tryd.func55.trans (congrArg some (by kernel_rfl))
  f216 := Tryd.func79.trans (congrArg some (by kernel_rfl))
  f257 := Tryd.func70.trans (congrArg some (by kernel_rfl))
  f294 := Tryd.func73.trans (congrArg some (by kernel_rfl))
  f295 := Tryd.func74.trans (congrArg some (by kernel_rfl))
  f296 := Tryd.func75.trans (congrArg some (by kernel_rfl))
  f297 := Tryd.func76.trans (congrArg some (by kernel_rfl))
  f298 := Tryd.func77.trans (congrArg some (by kernel_rfl))
  f299 := Tryd.func78.trans (congrArg some (by kernel_rfl))
  f300 := Tryd.func80.trans (congrArg some (by kernel_rfl))
  f301 := Tryd.func81.trans (congrArg some (by kernel_rfl))
  f328 := Tryd.func88.trans (congrArg some (by kernel_rfl))
  f329 := Tryd.func89.trans (congrArg some (by kernel_rfl))
  f330 := Tryd.func90.trans (congrArg some (by kernel_rfl))
  f331 := Tryd.func91.trans (congrArg some (by kernel_rfl))
  f332 := Tryd.func92.trans (congrArg some (by kernel_rfl))
  f343 := Tryd.func97.trans (congrArg some (by kernel_rfl))
  t0 := Tryd.underlying0
  a0 := Tryd.isAgg0
  z0 := Tryd.sizeOf0
  v0 := Tryd.zeroValue0
  t3 := Tryd.underlying3
  a3 := Tryd.isAgg3
  z3 := Tryd.sizeOf3
  v3 := Tryd.zeroValue3
  t4 := Tryd.underlying4
  a4 := Tryd.isAgg4
  z4 := Tryd.sizeOf4
  v4 := Tryd.zeroValue4
  t5 := Tryd.underlying5
  a5 := Tryd.isAgg5
  z5 := Tryd.sizeOf5
  v5 := Tryd.zeroValue5
  t9 := Tryd.underlying9
  a9 := Tryd.isAgg9
  z9 := Tryd.sizeOf9
  v9 := Tryd.zeroValue9
  t28 := Tryd.underlying37
  a28 := Tryd.isAgg37
  z28 := Tryd.sizeOf37
  v28 := Tryd.zeroValue37
  t46 := Tryd.underlying98
  a46 := Tryd.isAgg98
  z46 := Tryd.sizeOf98
  v46 := Tryd.zeroValue98
  t51 := Tryd.underlying109
  a51 := Tryd.isAgg109
  z51 := Tryd.sizeOf109
  v51 := Tryd.zeroValue109
  t53 := Tryd.underlying99
  a53 := Tryd.isAgg99
  z53 := Tryd.sizeOf99
  v53 := Tryd.zeroValue99
  t131 := Tryd.underlying80
  a131 := Tryd.isAgg80
  z131 := Tryd.sizeOf80
  v131 := Tryd.zeroValue80
  t182 := Tryd.underlying103
  a182 := Tryd.isAgg103
  z182 := Tryd.sizeOf103
  v182 := Tryd.zeroValue103
  t183 := Tryd.underlying104
  a183 := Tryd.isAgg104
  z183 := Tryd.sizeOf104
  v183 := Tryd.zeroValue104
  t218 := Tryd.underlying116
  a218 := Tryd.isAgg116
  z218 := Tryd.sizeOf116
  v218 := Tryd.zeroValue116
  t222 := Tryd.underlying120
  a222 := Tryd.isAgg120
  z222 := Tryd.sizeOf120
  v222 := Tryd.zeroValue120
  t228 := Tryd.underlying125
  a228 := Tryd.isAgg125
  z228 := Tryd.sizeOf125
  v228 := Tryd.zeroValue125
  t229 := Tryd.underlying126
  a229 := Tryd.isAgg126
  z229 := Tryd.sizeOf126
  v229 := Tryd.zeroValue126 }
open Go.Sort Go.RowKit in
theorem Tryd.slices_Sort_int (blk off cap : Nat) (zs : List Int) (w : World) (hH : Holds (Value.int .i64) w blk off zs.toArray) (hblk : blk < w.heap.size) (hsz : zs.length < 4611686018427387904) :
    Calls Tryd.prog 66 #[.slice (some ⟨blk, off, none⟩) zs.length cap] w fun e w' =>
      e = .returned (.tuple #[]) ∧ ∃ n os, w' = grow (putRow (Value.int .i64) (Sort.ahead w n) blk off (zs.mergeSort fun x y => decide (x ≤ y)).toArray) os := Any.slices_Sort_int Tryd.lays189 blk off cap zs w hH hblk hsz
def Tryd.laysNm220_ren : Go.Shelf.Ren := ⟨fun | 20 => 67 | n => n, fun | 22 => 37 | 3 => 3 | 4 => 4 | 0 => 0 | n => n, fun | n => n⟩
theorem Tryd.laysNm220 : Go.Proofs.Lays2.n20 Tryd.prog Tryd.laysNm220_ren := {
  mixed := by kernel_rfl
  f20 := Tryd.func67.trans (congrArg some (by kernel_rfl))
  t0 := Tryd.underlying0
  a0 := Tryd.isAgg0
  z0 := Tryd.sizeOf0
  v0 := Tryd.zeroValue0
  t3 := Tryd.underlying3
  a3 := Tryd.isAgg3
  z3 := Tryd.sizeOf3
  v3 := Tryd.zeroValue3
  t4 := Tryd.underlying4
  a4 := Tryd.isAgg4
  z4 := Tryd.sizeOf4
  v4 := Tryd.zeroValue4
  t22 := Tryd.underlying37
  a22 := Tryd.isAgg37
  z22 := Tryd.sizeOf37
  v22 := Tryd.zeroValue37
  i3 := by kernel_rfl }
open Go.RowKit Go.Lib Go.Sort in
/-- slices.Compact at []int: "Compact replaces consecutive runs of equal elements with a single copy. This is like the uniq command found on Unix. Compact modifies the contents of the slice s and returns the modified slice, which may have a smaller length. Compact zeroes the elements between the new length and the original length. The result preserves the nilness of s.": IT RETURNS THE SLICE CUT TO 'Lib.compact zs'; ITS CELLS HOLD 'Lib.compact zs', THEN ZERO VALUES up to the old length; all else is as it was, but for the count of draws. IN THE WORDS OF slices.Sort's CONTRACT ('Holds', 'putRow'): so the everyday 'slices.Sort(xs); xs = slices.Compact(xs)' goes from the one contract to the other. It asks 'zs.length ≤ cap' (every slice's: the reslicing 's[:k]' looks at it). Length 0, nil: '.._empty'. (LAID: no walk: one application.) -/
theorem Tryd.slices_Compact_int (blk off cap : Nat) (zs : List Int) (w : World) (hH : Holds (Value.int .i64) w blk off zs.toArray) (hsz : zs.length ≤ 9223372036854775807) (hcap : zs.length ≤ cap) :
    Calls Tryd.prog 67 #[.slice (some ⟨blk, off, none⟩) zs.length cap] w fun e w' => e = .returned (.slice (some ⟨blk, off, none⟩) (Lib.compact zs).length cap) ∧ ∃ q, w' = putRow (Value.int .i64) (Sort.ahead w q) blk off (Lib.compact zs ++ List.replicate (zs.length - (Lib.compact zs).length) 0).toArray := Any.slices_Compact_int Tryd.laysNm220 blk off cap zs w hH hsz hcap
open Go.RowKit Go.Lib Go.Sort in
/-- The same at a slice of length 0, a nil one too: it comes back as it is. (LAID: no walk: one application.) -/
theorem Tryd.slices_Compact_int_empty (a : Option Addr) (cap : Nat) (w : World) :
    Calls Tryd.prog 67 #[.slice a 0 cap] w fun e w' => e = .returned (.slice a 0 cap) ∧ w' = w := Any.slices_Compact_int_empty Tryd.laysNm220 a cap w
open Go.RowKit Go.Sort in
/-- .. and plain. (LAID: no walk: one application.) -/
theorem Tryd.slices_Sort_int_none (p : Option Addr) (cap : Nat) (w : World) :
    Calls Tryd.prog 66 #[.slice p 0 cap] w fun e w' => e = .returned (.tuple #[]) ∧ w' = w := Any.slices_Sort_int_none Tryd.lays189 p cap w
end Go.Proofs

/- Walks, printed by a program (walkgen.py) from the spec specs_po. -/
set_option maxRecDepth 20000
set_option maxHeartbeats 2000000
namespace Go.Proofs.YtfkompdmejpmmaaDoor
namespace PO1
open Go.RowKit Go.GL Go.Proofs
open Go.Proofs.YtfkompdmejpmmaaDoor.B1
open Go.Proofs.YtfkompdmejpmmaaDoor.K1
theorem ag3 : (Tryd.prog.underlying 3).map aggD = some false := by kernel_rfl
theorem ag37 : (Tryd.prog.underlying 37).map aggD = some false := by kernel_rfl
theorem ag73 : (Tryd.prog.underlying 73).map aggD = some false := by kernel_rfl
theorem ag77 : (Tryd.prog.underlying 77).map aggD = some false := by kernel_rfl
theorem ap3 : (Tryd.prog.info? 3).map (fun i => (i.size, i.bytes, (i.zero.map (·.cells.size)))) = some (1, 8, some 1) := by kernel_rfl
theorem ap37 : (Tryd.prog.info? 37).map (fun i => (i.size, i.bytes, (i.zero.map (·.cells.size)))) = some (1, 24, some 1) := by kernel_rfl
theorem ap5 : (Tryd.prog.info? 5).map (fun i => (i.size, i.bytes, (i.zero.map (·.cells.size)))) = some (1, 1, some 1) := by kernel_rfl
theorem mk5 : (Tryd.prog.info? 5).map (fun i => (i.size, i.bytes, i.zero)) = some (1, 1, some (.int .u8 0)) := by kernel_rfl
theorem nm58 : (Tryd.f58.name == "runtime.NumGoroutine") = false := by kernel_rfl
theorem nm59 : (Tryd.f59.name == "runtime.NumGoroutine") = false := by kernel_rfl
theorem nm65 : (Tryd.f65.name == "runtime.NumGoroutine") = false := by kernel_rfl
theorem nm66 : (Tryd.f66.name == "runtime.NumGoroutine") = false := by kernel_rfl
theorem nm67 : (Tryd.f67.name == "runtime.NumGoroutine") = false := by kernel_rfl
theorem nz37 : (Tryd.prog.info? 37).map (·.size == 0) = some false := by kernel_rfl
theorem nz73 : (Tryd.prog.info? 73).map (·.size == 0) = some false := by kernel_rfl
theorem nz77 : (Tryd.prog.info? 77).map (·.size == 0) = some false := by kernel_rfl
theorem sz3 : (Tryd.prog.info? 3).map (·.size) = some 1 := by kernel_rfl
theorem sz37 : (Tryd.prog.info? 37).map (·.size) = some 1 := by kernel_rfl
theorem sz5 : (Tryd.prog.info? 5).map (·.size) = some 1 := by kernel_rfl
theorem sz77 : (Tryd.prog.info? 77).map (·.size) = some 1 := by kernel_rfl
theorem zr3 : (Tryd.prog.info? 3).bind (·.zero) = some (.int .i64 0) := by kernel_rfl
theorem zr37 : (Tryd.prog.info? 37).bind (·.zero) = some (.slice none 0 0) := by kernel_rfl
theorem zr5 : (Tryd.prog.info? 5).bind (·.zero) = some (.int .u8 0) := by kernel_rfl

theorem clone_spec {w : World} {G : Pin} {v : Value} {xs : List Int} (hP : Pins G w) (hv : RSl eInt G v xs) (hs : xs.length ≤ 1048576) :
    Calls Tryd.prog 65 [v].toArray w fun e w' => ∃ (u : Value) (G' : Pin), e = .returned u ∧ Own eInt 3 G' w' w.heap.size u xs ∧ Ext noS G w G' w' := by
  refine s_enter (n := 8) Tryd.func65 Tryd.ntmps65 rfl rfl ?_
  have hX0 : Ext noS G w G w := Ext.refl hP
  refine s_seq ?_
  refine c_reg ?_
  refine qd rfl rfl rfl (r_assign (v := (.slice none 0 0)) rfl) ?_
  refine qe ?_
  refine s_then ?_
  refine s_seq ?_
  refine s_seq ?_
  refine c_reg ?_
  refine qd rfl rfl rfl (r_move (v := v) rfl) ?_
  refine qd rfl rfl rfl (r_eqlNil Tryd.underlying37 hv rfl rfl) ?_
  refine qe ?_
  refine s_then ?_
  refine c_if rfl rfl (fun h1 => ?_) (fun h1 => ?_)
  · skip
    refine s_seq ?_
    refine c_reg ?_
    refine qd rfl rfl rfl (r_assign (v := (.slice none 0 0)) rfl) ?_
    refine qe ?_
    refine s_then ?_
    refine wp_ret ?_
    refine s_ret ?_
    refine c_ret1 (v := (.slice none 0 0)) rfl rfl rfl ?_
    have hx0 := nil_of hv h1
    subst hx0
    exact ⟨_, _, rfl, Own.nil _ _ _ _ _, hX0⟩
  refine wp_skip ?_
  refine s_then ?_
  refine s_seq ?_
  refine c_reg ?_
  refine q1 rfl rfl rfl (o_build0 (E := eInt) (e := 3) Tryd.underlying37 sz3 hX0.pins (fun u2 w3 ho4 hp5 hl6 hk7 => ?_))
  have hX8 := hX0.step hp5 hl6
  have ho9 : Own eInt 3 G w3 w.heap.size u2 ([]) := ho4.weaken hX0.size
  refine qd rfl rfl rfl (r_move (v := v) rfl) ?_
  refine q1 rfl rfl rfl (o_append (E := eInt) (v := u2) (u := v) 8 Tryd.underlying37 ap3 (by decide) rfl rfl hX8.pins ho9 ((hv.mono (Pin.le_refl _)).src hX8.pins (by decide)) (by first | omega | (rw [List.nil_append]; omega) | (rw [List.length_nil]; omega) | (rw [List.length_append]; omega) | (simp; done) | (simp; omega) | (simp only [List.length_append, List.length_cons, List.length_nil]; omega)) (by first | omega | (rw [List.nil_append]; omega) | (rw [List.length_nil]; omega) | (rw [List.length_append]; omega) | (simp; done) | (simp; omega) | (simp only [List.length_append, List.length_cons, List.length_nil]; omega)) (hX8.size) (fun u10 w11 ho12 hp13 hg14 hw15 => ?_))
  have hX16 := hX8.write hp13 hg14 ((lo_own ho9))
  have hm17 : (([]) ++ xs).length = ([]).length + xs.length := List.length_append
  refine qd rfl rfl rfl (r_assign (v := u10) rfl) ?_
  refine qe ?_
  refine s_then ?_
  refine wp_ret ?_
  refine s_ret ?_
  refine c_ret1 (v := u10) rfl rfl rfl ?_
  exact ⟨_, _, rfl, ho12, hX16⟩

theorem sortI_spec {w : World} {G : Pin} {e base : Nat} {v : Value} {xs : List Int} (hP : Pins G w) (hv : Own eInt e G w base v xs) (hl : xs.length ≤ 1073741824) :
    Calls Tryd.prog 66 [v].toArray w fun en w' => ∃ G', en = .returned (.tuple #[]) ∧ Own eInt e G' w' base v (sortM xs) ∧ Ext (inO v.ownBlock) G w G' w' := by
  rcases own_cases hv with ⟨rfl, rfl⟩ | ⟨g, cap, rfl⟩
  · refine (Tryd.slices_Sort_int_none none 0 w).mono ?_
    rintro en w' ⟨rfl, rfl⟩
    exact ⟨G, rfl, by simpa [sortM] using hv, Ext.refl hP⟩
  · obtain ⟨_, h1, h2, h3⟩ := own_holds hv
    refine (Tryd.slices_Sort_int g 0 cap xs w h3 h1 (by omega)).mono ?_
    rintro en w' ⟨rfl, m, os, hw⟩
    obtain ⟨a, b, c⟩ := own_put (ys := sortM xs) hv hP hw (sortM_length xs) (List.take_length ..)
    rw [sortM_length] at a
    exact ⟨G, rfl, a, Ext.one b c⟩
theorem compactI_spec {w : World} {G : Pin} {e base : Nat} {v : Value} {xs : List Int} (hP : Pins G w) (hv : Own eInt e G w base v xs) (hl : xs.length ≤ 1073741824) :
    Calls Tryd.prog 67 [v].toArray w fun en w' => ∃ (u : Value) (G' : Pin), en = .returned u ∧ Own eInt e G' w' base u (Go.Lib.compact xs) ∧ Lo w (inO v.ownBlock) u.ownBlock ∧ Ext (inO v.ownBlock) G w G' w' := by
  rcases own_cases hv with ⟨rfl, rfl⟩ | ⟨g, cap, rfl⟩
  · refine (Tryd.slices_Compact_int_empty none 0 w).mono ?_
    rintro en w' ⟨rfl, rfl⟩
    exact ⟨_, G, rfl, hv, lo_self, Ext.refl hP⟩
  · obtain ⟨_, h1, h2, h3⟩ := own_holds hv
    refine (Tryd.slices_Compact_int g 0 cap xs w h3 (by omega) h2).mono ?_
    rintro en w' ⟨rfl, m, hw⟩
    have hcl := compact_len xs
    obtain ⟨a, b, c⟩ := own_put (os := #[]) (ys := Go.Lib.compact xs) hv hP (hw.trans (Go.Sort.grow_empty _).symm) (by simp; omega) (List.take_left ..)
    exact ⟨_, G, rfl, a, lo_self, Ext.one b c⟩

theorem distinct_spec {w : World} {G : Pin} {v : Value} {xs : List Int} (hP : Pins G w) (hv : RSl eInt G v xs) (hs : xs.length ≤ 1048576) :
    Calls Tryd.prog 58 [v].toArray w fun e w' => ∃ (u : Value) (G' : Pin), e = .returned u ∧ Own eInt 3 G' w' w.heap.size u (sortL xs) ∧ Ext noS G w G' w' := by
  refine s_enter (n := 10) Tryd.func58 Tryd.ntmps58 rfl rfl ?_
  have hX0 : Ext noS G w G w := Ext.refl hP
  refine s_seq ?_
  refine c_reg ?_
  refine qd rfl rfl rfl (r_assign (v := (.slice none 0 0)) rfl) ?_
  refine qe ?_
  refine s_then ?_
  refine s_seq ?_
  refine c_reg ?_
  refine qd rfl rfl rfl (r_move (v := v) rfl) ?_
  refine q1 rfl rfl rfl (o_call (vs := [v]) Tryd.func65 nm65 rfl rfl rfl ?_)
  refine Calls.mono (clone_spec hX0.pins hv (by omega)) ?_
  rintro _ w3 ⟨u1, G2, rfl, ho4, hx5⟩
  refine ⟨_, rfl, ?_⟩
  have hX6 := hX0.tr hx5
  have ho7 : Own eInt 3 G2 w3 w.heap.size u1 xs := ho4.weaken hX0.size
  refine qd rfl rfl rfl (r_assign (v := u1) rfl) ?_
  refine qe ?_
  refine s_then ?_
  refine s_seq ?_
  refine c_reg ?_
  refine qd rfl rfl rfl (r_move (v := u1) rfl) ?_
  refine q1 rfl rfl rfl (o_call (vs := [u1]) Tryd.func66 nm66 rfl rfl rfl ?_)
  refine Calls.mono (sortI_spec hX6.pins ho7 (by omega)) ?_
  rintro _ w9 ⟨G8, rfl, ho10, hx11⟩
  refine ⟨_, rfl, ?_⟩
  have hX12 := hX6.trans hx11 (fun i hi => (lo_own ho7) i hi)
  have hm13 := sortM_length xs
  refine qe ?_
  refine s_then ?_
  refine s_seq ?_
  refine c_reg ?_
  refine qd rfl rfl rfl (r_move (v := u1) rfl) ?_
  refine q1 rfl rfl rfl (o_call (vs := [u1]) Tryd.func67 nm67 rfl rfl rfl ?_)
  refine Calls.mono (compactI_spec hX12.pins (ho10.weaken (Nat.zero_le _)) (by omega)) ?_
  rintro _ w16 ⟨u14, G15, rfl, ho17, hlo18, hx19⟩
  refine ⟨_, rfl, ?_⟩
  have hX20 := hX12.trans hx19 (fun i hi => (lo_own ho10) i hi)
  have ho21 := ho17.up (lo := w.heap.size) (fun k hk => (hlo18 k hk).elim (fun h => Nat.le_trans hX12.size h) (fun h => (ho10.lt k h).1))
  refine qd rfl rfl rfl (r_assign (v := u14) rfl) ?_
  refine qe ?_
  refine s_then ?_
  refine wp_ret ?_
  refine s_ret ?_
  refine c_ret1 (v := u14) rfl rfl rfl ?_
  exact ⟨_, _, rfl, (by rw [← distinct_eq]; simpa using ho21), hX20⟩

theorem node_spec {w : World} {G : Pin} {p : Nat} {L R B : Value} {mm : PM} {q : PSt} (hP : Pins G w) (hpk : Pk 37 3 G w p L R B mm q) (hok : PoolOk q) {x y : Value} {xs ys : List Int} (hx : RSl eInt G x xs) (hy : RSl eInt G y ys) (hlim : q.ns.length + 1 ≤ 1048576) (hls : xs.length ≤ 1048576 ∧ ys.length ≤ 1048576) (hk1 : ∀ i, i < xs.length → 0 ≤ xs.getD i 0 ∧ xs.getD i 0 < q.ns.length) (hk2 : ∀ i, i < ys.length → 0 ≤ ys.getD i 0 ∧ ys.getD i 0 < q.ns.length) :
    Calls Tryd.prog 42 [(.pointer (some ⟨p, 0, none⟩)), x, y].toArray w fun e w' => ∃ (z : Int) (L' R' B' : Value) (q' : PSt) (G' : Pin), e = .returned (.int .i64 z) ∧ Pk 37 3 G' w' p L' R' B' mm q' ∧ PoolOk q' ∧ PX q q' ∧ PLo w p L R B mm L' R' B' ∧ Ext (inP p L R B mm) G w G' w' ∧ PlaceOk q' z ∧ pd q' z = mkG (xs.map (pd q)) (ys.map (pd q)) ∧ q'.ns.length ≤ q.ns.length + 1 ∧ (q'.cm = q.cm ∧ (q'.ns.length = q.ns.length ∨ z = q.ns.length)) := by
  refine s_enter (n := 130) Tryd.func42 Tryd.ntmps42 rfl rfl ?_
  have hX0 : Ext (inP p L R B mm) G w G w := Ext.refl hP
  have hpin : PIn w (inP p L R B mm) p L R B mm := PIn.self
  have hml1 : (q.ns.map Nd.l).length = q.ns.length ∧ (q.ns.map Nd.r).length = q.ns.length := ⟨List.length_map .., List.length_map ..⟩
  have hml2 : q.bs.length = q.ns.length ∧ q.ns.length ≤ 1048576 := ⟨hok.ar.ok.len, hok.ar.ok.lim⟩
  obtain ⟨xs2, hxs2⟩ : ∃ l, l = sortL xs := ⟨_, rfl⟩
  obtain ⟨ys2, hys2⟩ : ∃ l, l = sortL ys := ⟨_, rfl⟩
  have hb1 := sort_bounds hk1
  have hb2 := sort_bounds hk2
  rw [← hxs2] at hb1
  rw [← hys2] at hb2
  have hsl1 : xs2.length ≤ 1048576 := by rw [hxs2]; exact Nat.le_trans sort_length hls.1
  have hsl2 : ys2.length ≤ 1048576 := by rw [hys2]; exact Nat.le_trans sort_length hls.2
  refine s_seq ?_
  refine c_reg ?_
  refine qd rfl rfl rfl (r_assign (v := (.int .i64 0)) rfl) ?_
  refine qe ?_
  refine s_then ?_
  refine s_seq ?_
  refine c_reg ?_
  refine qd rfl rfl rfl (r_move (v := x) rfl) ?_
  refine q1 rfl rfl rfl (o_call (vs := [x]) Tryd.func58 nm58 rfl rfl rfl ?_)
  refine Calls.mono (distinct_spec hX0.pins hx (by omega)) ?_
  rintro _ w5 ⟨u3, G4, rfl, ho6, hx7⟩
  refine ⟨_, rfl, ?_⟩
  rw [← hxs2] at ho6
  have hX8 := hX0.tr hx7
  have hpk9 := hpk.ext hx7
  have hnp10 := hpk.new (x := u3.ownBlock) (fun k hk => (ho6.lt k hk).1)
  have ho11 : Own eInt 3 G4 w5 w.heap.size u3 xs2 := ho6.weaken hX0.size
  refine qd rfl rfl rfl (r_move (v := y) rfl) ?_
  refine q1 rfl rfl rfl (o_call (vs := [y]) Tryd.func58 nm58 rfl rfl rfl ?_)
  refine Calls.mono (distinct_spec hX8.pins (hy.mono hx7.le) (by omega)) ?_
  rintro _ w14 ⟨u12, G13, rfl, ho15, hx16⟩
  refine ⟨_, rfl, ?_⟩
  rw [← hys2] at ho15
  have hX17 := hX8.tr hx16
  have ho18 := ho11.ext hx16
  have hpk19 := hpk9.ext hx16
  have ha20 : Apart u12.ownBlock u3.ownBlock := made_ne_own ho15.lt ho11.lt
  have hnp21 := hpk9.new (x := u12.ownBlock) (fun k hk => (ho15.lt k hk).1)
  have ho22 : Own eInt 3 G13 w14 w.heap.size u12 ys2 := ho15.weaken hX8.size
  refine qd rfl rfl rfl (r_assign (v := u3) rfl) ?_
  refine qd rfl rfl rfl (r_assign (v := u12) rfl) ?_
  refine qe ?_
  refine s_then ?_
  refine s_seq ?_
  refine c_reg ?_
  refine qd rfl rfl rfl (r_move (v := u3) rfl) ?_
  refine qd rfl rfl rfl (run_len Tryd.underlying37 (v := u3) rfl ho18.read) ?_
  refine qd rfl rfl rfl (r_move (v := u12) rfl) ?_
  refine qd rfl rfl rfl (run_len Tryd.underlying37 (v := u12) rfl ho22.read) ?_
  refine qd rfl rfl rfl (r_add rfl rfl (by omega)) ?_
  refine qd rfl rfl rfl (r_mul rfl rfl (by omega)) ?_
  refine qd rfl rfl rfl (r_add rfl rfl (by omega)) ?_
  refine q1 rfl rfl rfl (o_make0 (E := eByte) Tryd.underlying90 mk5 rfl rfl hX17.pins (by omega) (by omega) (by omega) (fun u23 w24 ho25 hp26 hl27 hk28 => ?_))
  have hX29 := hX17.step hp26 hl27
  have ho30 := ho18.below hl27
  have ho31 := ho22.below hl27
  have hpk32 := hpk19.below hl27 hp26
  have ha33 : Apart u23.ownBlock u3.ownBlock := new_ne_own hk28 ho18.lt
  have ha37 : Apart u23.ownBlock u12.ownBlock := new_ne_own hk28 ho22.lt
  have ha39 := hpk19.new (x := u23.ownBlock) (fun k hk => by rw [hk28] at hk; cases hk; exact Nat.le_refl _)
  have ho40 : Own eByte 5 G13 w24 w.heap.size u23 ([]) := ho25.weaken hX17.size
  refine qd rfl rfl rfl (r_assign (v := u23) rfl) ?_
  refine qe ?_
  refine s_then ?_
  refine s_seq ?_
  refine c_reg ?_
  refine qd rfl rfl rfl (r_assign (v := (.int .i64 0)) rfl) ?_
  refine qe ?_
  refine s_then ?_
  refine s_seq ?_
  refine s_seq ?_
  refine c_reg ?_
  refine qd rfl rfl rfl (r_move (v := u3) rfl) ?_
  refine qd rfl rfl rfl (run_len Tryd.underlying37 (v := u3) rfl ho30.read) ?_
  refine qd rfl rfl rfl (r_move (v := (.int .i64 0)) rfl) ?_
  refine qe ?_
  refine s_then ?_
  refine s_blk ?_
  refine s_loop (fun (k : Nat) (en : Nat → Value) (W : World) => ∃ (env1 : Nat → Value) (i : Nat) (kva : Value) (kxa : List UInt8) (bn : Int) (GLa : Pin), en = (upd (upd (upd (upd (upd (upd (upd (upd (upd env1 0 (.pointer (some ⟨p, 0, none⟩))) 1 u3) 2 u12) 6 (.int .i64 0)) 7 kva) 8 (.int .i64 bn)) 28 u3) 29 (.int .i64 (xs2.length : Int))) 30 (.int .i64 (i : Int))) ∧ k = xs2.length - i ∧ Ext (inP p L R B mm) G w GLa W ∧ Pin.le G13 GLa ∧ (i ≤ xs2.length) ∧ (kxa = keyL (xs2.take i)) ∧ (bn = bornOf q.bs (xs2.take i) 0) ∧ (0 ≤ bn ∧ bn ≤ q.ns.length) ∧ (Own eByte 5 GLa W w.heap.size kva (kxa)) ∧ (Own eInt 3 GLa W w.heap.size u3 (xs2)) ∧ (Own eInt 3 GLa W w.heap.size u12 (ys2)) ∧ (Apart kva.ownBlock u3.ownBlock) ∧ (Apart kva.ownBlock u12.ownBlock) ∧ (Pk 37 3 GLa W p L R B mm q) ∧ (NP p L R B mm kva.ownBlock)) _ ⟨_, 0, u23, [], 0, G13, (packS (x := 30) (packS (x := 29) (packS (x := 28) (packS (x := 8) (packS (x := 7) (packS (x := 6) (packS (x := 2) (packS (x := 1) (pack1 (x := 0) rfl) rfl) rfl) rfl) rfl) rfl) rfl) rfl) rfl), rfl, hX29, Pin.le_refl _, Nat.zero_le _, (by simp [keyL]), rfl, (by omega), ho40, ho30, ho31, ha33, ha37, hpk32, ha39⟩ ?_
  rintro k45 _ w46 ⟨env1, i, kva, kxa, bn, GLa, rfl, hk47, hX48, hlek45, hji, hka, hbbn, hlbn, hw49, hw50, hw51, ha52, ha53, hpk54, hnp55⟩
  have hkla : kxa.length ≤ 117440640 := by
    have := key_bound (j := i) hb1 hok.ar.ok.lim
    rw [hka]; omega
  refine s_seq ?_
  refine c_reg ?_
  refine qd rfl rfl rfl (r_lss rfl rfl) ?_
  refine qe ?_
  refine s_then ?_
  refine s_seq ?_
  refine c_ifd (p := ((i : Int) : Int) < (xs2.length : Int)) rfl rfl (fun h56 => ?_) (fun h56 => ?_)
  · skip
    have hki := hb1 i (by omega)
    have hbk := hok.ar.ok.born (xs2.getD i 0).toNat (by omega)
    have hd13 := dig13 (n := (xs2.getD i 0).toNat) (by omega)
    refine wp_skip ?_
    refine s_then ?_
    refine s_seq ?_
    refine s_blk ?_
    refine s_seq ?_
    refine c_reg ?_
    refine qd rfl rfl rfl (run_idx Tryd.underlying37 sz3 (v := u3) rfl rfl hw50.read (by omega) (by omega)) ?_
    refine qd rfl rfl rfl (run_load_int (r := xs2.getD i 0) rfl ag3 (z := (i : Int)) rfl hw50.read (Gadd.pins hX48.pins u3) (by omega) (by omega)) ?_
    refine qd rfl rfl rfl (r_assign (v := (.int .i64 (xs2.getD i 0))) rfl) ?_
    refine qe ?_
    refine s_then ?_
    refine s_seq ?_
    refine c_reg ?_
    refine qd rfl rfl rfl (r_move (v := kva) rfl) ?_
    refine qd rfl rfl rfl (r_move (v := (.int .i64 (xs2.getD i 0))) rfl) ?_
    refine q1 rfl rfl rfl (o_call (vs := [kva, (.int .i64 (xs2.getD i 0)), (.int .i64 36)]) Tryd.func59 nm59 rfl rfl rfl ?_)
    refine Calls.mono (appendInt_spec (i := xs2.getD i 0) hX48.pins (hw49.weaken (Nat.zero_le _)) (by omega) (by omega)) ?_
    rintro _ w59 ⟨u57, G58, rfl, ho60, hlo61, hx62⟩
    refine ⟨_, rfl, ?_⟩
    have hnp63 := np_turn hnp55 hpk54 hlo61
    have hX64 := hX48.trans hx62 (fun i hi => (lo_own hw49) i hi)
    have ho65 := hw50.extS hx62 (notO ha52.symm)
    have ho66 := hw51.extS hx62 (notO ha53.symm)
    have hpk67 := hpk54.extS hx62 (fun k hk hx => hnp55 k hx hk)
    have ha68 : Apart u3.ownBlock u57.ownBlock := ap_turn hlo61 ha52.symm (own_lt hw50)
    have ha69 : Apart u12.ownBlock u57.ownBlock := ap_turn hlo61 ha53.symm (own_lt hw51)
    have ho70 := ho60.up (lo := w.heap.size) (fun k hk => (hlo61 k hk).elim (fun h => Nat.le_trans hX48.size h) (fun h => (hw49.lt k h).1))
    have hm71 : (kxa ++ dig36 (xs2.getD i 0).toNat).length = kxa.length + (dig36 (xs2.getD i 0).toNat).length := List.length_append
    refine q1 rfl rfl rfl (o_buildF (E := eByte) (e := 5) [(.int .u8 44)] [44] Tryd.underlying90 sz5 zr5 (by exact reps1 (by rfl)) (ones1 (by rfl)) rfl rfl rfl rfl (by decide) hX64.pins (fun u72 w73 ho74 hp75 hl76 hk77 => ?_))
    have hX78 := hX64.step hp75 hl76
    have ho79 := ho65.below hl76
    have ho80 := ho66.below hl76
    have ho81 := ho70.below hl76
    have hpk82 := hpk67.below hl76 hp75
    have ha88 : Apart u72.ownBlock u57.ownBlock := new_ne_own hk77 ho70.lt
    have ho91 : Own eByte 5 G58 w73 w.heap.size u72 ([44]) := ho74.weaken hX64.size
    refine q1 rfl rfl rfl (o_append (E := eByte) (v := u57) (u := u72) 1 Tryd.underlying90 ap5 (by decide) rfl rfl hX78.pins ho81 ho91.src (by first | omega | (rw [List.nil_append]; omega) | (rw [List.length_nil]; omega) | (rw [List.length_append]; omega) | (simp; done) | (simp; omega) | (simp only [List.length_append, List.length_cons, List.length_nil]; omega)) (by first | omega | (rw [List.nil_append]; omega) | (rw [List.length_nil]; omega) | (rw [List.length_append]; omega) | (simp; done) | (simp; omega) | (simp only [List.length_append, List.length_cons, List.length_nil]; omega)) (hX78.size) (fun u92 w93 ho94 hp95 hg96 hw97 => ?_))
    have hX98 := hX78.write hp95 hg96 ((lo_own ho81))
    have ho99 := ho79.keptA hg96 ha68
    have ho100 := ho80.keptA hg96 ha69
    have hpk102 := hpk82.kept hg96 hp95 hnp63
    have ha103 : Apart u3.ownBlock u92.ownBlock := app_ne_own ha68 hw97 ho79.lt
    have ha104 : Apart u12.ownBlock u92.ownBlock := app_ne_own ha69 hw97 ho80.lt
    have ha105 : Apart u72.ownBlock u92.ownBlock := app_ne_own ha88 hw97 ho91.lt
    have hnp106 := np_app hnp63 hpk82 hw97
    have hm107 : ((kxa ++ dig36 (xs2.getD i 0).toNat) ++ ([44])).length = (kxa ++ dig36 (xs2.getD i 0).toNat).length + 1 := List.length_append
    refine qd rfl rfl rfl (r_assign (v := u92) rfl) ?_
    refine qe ?_
    refine s_then ?_
    refine c_reg ?_
    refine qd rfl rfl rfl (r_move (v := (.int .i64 bn)) rfl) ?_
    refine qd rfl rfl rfl (r_move (v := (.pointer (some ⟨p, 0, none⟩))) rfl) ?_
    refine qd rfl rfl rfl (r_nil rfl) ?_
    refine qd rfl rfl rfl (r_fldp (k := 2) rfl Tryd.underlying79 rfl nz37 rfl) ?_
    refine qd rfl rfl rfl (r_ldp1 (u := B) ag37 rfl (hpk102.bx.cell (o := 2) rfl)) ?_
    refine qd rfl rfl rfl (r_move (v := (.int .i64 (xs2.getD i 0))) rfl) ?_
    refine qd rfl rfl rfl (run_idx Tryd.underlying37 sz3 (v := B) rfl rfl hpk102.ob.read (by omega) (by omega)) ?_
    refine qd rfl rfl rfl (run_load_int (r := q.bs.getD (xs2.getD i 0).toNat 0) rfl ag3 (z := (xs2.getD i 0)) rfl hpk102.ob.read (Gadd.pins hX98.pins B) (by omega) (by omega)) ?_
    refine qd rfl rfl rfl (r_add rfl rfl (by omega)) ?_
    refine qd rfl rfl rfl (r_max rfl rfl) ?_
    refine qd rfl rfl rfl (r_assign (v := (.int .i64 (max bn ((q.bs.getD (xs2.getD i 0).toNat 0) + 1)))) rfl) ?_
    refine qe ?_
    refine s_blkN ?_
    refine s_then ?_
    refine c_reg ?_
    refine qd rfl rfl rfl (r_add rfl rfl (by omega)) ?_
    refine qd rfl rfl rfl (r_move (v := (.int .i64 ((i : Int) + 1))) rfl) ?_
    refine qe ?_
    refine s_lopN ?_
    refine ⟨_, ?_, _, rfl, _, i + 1, u92, (kxa ++ dig36 (xs2.getD i 0).toNat) ++ ([44]), max bn ((q.bs.getD (xs2.getD i 0).toNat 0) + 1), G58, (packS (x := 30) (packS (x := 29) (packS (x := 28) (packS (x := 8) (packS (x := 7) (packS (x := 6) (packS (x := 2) (packS (x := 1) (pack1 (x := 0) rfl) rfl) rfl) rfl) rfl) rfl) rfl) rfl) rfl), rfl, hX98, (Pin.le_trans hlek45 hx62.le), (by omega), (by rw [key_next (by omega), hka]), (by rw [hbbn, born_next (by omega)]), (by omega), ho94, ho99, ho100, ha103.symm, ha104.symm, hpk102, hnp106⟩
    omega
  refine wp_exit ?_
  refine s_thenE ?_
  refine s_lopE ?_
  refine s_blkE ?_
  refine s_then ?_
  refine s_seq ?_
  refine c_reg ?_
  refine qd rfl rfl rfl (r_move (v := kva) rfl) ?_
  refine q1 rfl rfl rfl (o_buildF (E := eByte) (e := 5) [(.int .u8 124)] [124] Tryd.underlying90 sz5 zr5 (by exact reps1 (by rfl)) (ones1 (by rfl)) rfl rfl rfl rfl (by decide) hX48.pins (fun u108 w109 ho110 hp111 hl112 hk113 => ?_))
  have hX114 := hX48.step hp111 hl112
  have ho115 := hw49.below hl112
  have ho116 := hw50.below hl112
  have ho117 := hw51.below hl112
  have hpk118 := hpk54.below hl112 hp111
  have ha119 : Apart u108.ownBlock kva.ownBlock := new_ne_own hk113 hw49.lt
  have ho127 : Own eByte 5 GLa w109 w.heap.size u108 ([124]) := ho110.weaken hX48.size
  refine q1 rfl rfl rfl (o_append (E := eByte) (v := kva) (u := u108) 1 Tryd.underlying90 ap5 (by decide) rfl rfl hX114.pins ho115 ho127.src (by first | omega | (rw [List.nil_append]; omega) | (rw [List.length_nil]; omega) | (rw [List.length_append]; omega) | (simp; done) | (simp; omega) | (simp only [List.length_append, List.length_cons, List.length_nil]; omega)) (by first | omega | (rw [List.nil_append]; omega) | (rw [List.length_nil]; omega) | (rw [List.length_append]; omega) | (simp; done) | (simp; omega) | (simp only [List.length_append, List.length_cons, List.length_nil]; omega)) (hX114.size) (fun u128 w129 ho130 hp131 hg132 hw133 => ?_))
  have hX134 := hX114.write hp131 hg132 ((lo_own ho115))
  have ho135 := ho116.keptA hg132 ha52.symm
  have ho136 := ho117.keptA hg132 ha53.symm
  have hpk138 := hpk118.kept hg132 hp131 hnp55
  have ha139 : Apart u3.ownBlock u128.ownBlock := app_ne_own ha52.symm hw133 ho116.lt
  have ha140 : Apart u12.ownBlock u128.ownBlock := app_ne_own ha53.symm hw133 ho117.lt
  have ha141 : Apart u108.ownBlock u128.ownBlock := app_ne_own ha119 hw133 ho127.lt
  have hnp142 := np_app hnp55 hpk118 hw133
  have hm143 : (kxa ++ ([124])).length = kxa.length + 1 := List.length_append
  refine qd rfl rfl rfl (r_assign (v := u128) rfl) ?_
  refine qe ?_
  refine s_then ?_
  refine s_seq ?_
  refine s_seq ?_
  refine c_reg ?_
  rw [take_all (by omega)] at hka hbbn
  have hkk : keyL xs2 ++ [124] = kxa ++ [124] := by rw [hka]
  refine qd rfl rfl rfl (r_move (v := u12) rfl) ?_
  refine qd rfl rfl rfl (run_len Tryd.underlying37 (v := u12) rfl ho136.read) ?_
  refine qd rfl rfl rfl (r_move (v := (.int .i64 0)) rfl) ?_
  refine qe ?_
  refine s_then ?_
  refine s_blk ?_
  refine s_loop (fun (k : Nat) (en : Nat → Value) (W : World) => ∃ (env1 : Nat → Value) (i2 : Nat) (kvb : Value) (kxb : List UInt8) (bm : Int) (GLb : Pin), en = (upd (upd (upd (upd (upd (upd (upd (upd (upd env1 0 (.pointer (some ⟨p, 0, none⟩))) 1 u3) 2 u12) 6 (.int .i64 0)) 7 kvb) 8 (.int .i64 bm)) 53 u12) 54 (.int .i64 (ys2.length : Int))) 55 (.int .i64 (i2 : Int))) ∧ k = ys2.length - i2 ∧ Ext (inP p L R B mm) G w GLb W ∧ Pin.le GLa GLb ∧ (i2 ≤ ys2.length) ∧ (kxb = keyL xs2 ++ [124] ++ keyL (ys2.take i2)) ∧ (bm = bornOf q.bs (ys2.take i2) bn) ∧ (0 ≤ bm ∧ bm ≤ q.ns.length) ∧ (Own eByte 5 GLb W w.heap.size kvb (kxb)) ∧ (Own eInt 3 GLb W w.heap.size u3 (xs2)) ∧ (Own eInt 3 GLb W w.heap.size u12 (ys2)) ∧ (Apart kvb.ownBlock u3.ownBlock) ∧ (Apart kvb.ownBlock u12.ownBlock) ∧ (Pk 37 3 GLb W p L R B mm q) ∧ (NP p L R B mm kvb.ownBlock)) _ ⟨_, 0, u128, kxa ++ ([124]), bn, GLa, (packS (x := 55) (packS (x := 54) (packS (x := 53) (packS (x := 8) (packS (x := 7) (packS (x := 6) (packS (x := 2) (packS (x := 1) (pack1 (x := 0) rfl) rfl) rfl) rfl) rfl) rfl) rfl) rfl) rfl), rfl, hX134, Pin.le_refl _, Nat.zero_le _, (by rw [← hkk]; simp [keyL]), rfl, (by omega), ho130, ho135, ho136, ha139.symm, ha140.symm, hpk138, hnp142⟩ ?_
  rintro k148 _ w149 ⟨env1, i2, kvb, kxb, bm, GLb, rfl, hk150, hX151, hlek148, hji2, hkb, hbbm, hlbm, hw152, hw153, hw154, ha155, ha156, hpk157, hnp158⟩
  have hklb : kxb.length ≤ 117440640 := by
    have := key_bound (j := i2) hb2 hok.ar.ok.lim
    have h2 := key_bound (j := xs2.length) hb1 hok.ar.ok.lim; rw [hkb, List.length_append, List.length_append]; simp only [List.length_cons, List.length_nil]; rw [take_all (Nat.le_refl _)] at h2; omega
  refine s_seq ?_
  refine c_reg ?_
  refine qd rfl rfl rfl (r_lss rfl rfl) ?_
  refine qe ?_
  refine s_then ?_
  refine s_seq ?_
  refine c_ifd (p := ((i2 : Int) : Int) < (ys2.length : Int)) rfl rfl (fun h159 => ?_) (fun h159 => ?_)
  · skip
    have hki := hb2 i2 (by omega)
    have hbk := hok.ar.ok.born (ys2.getD i2 0).toNat (by omega)
    have hd13 := dig13 (n := (ys2.getD i2 0).toNat) (by omega)
    refine wp_skip ?_
    refine s_then ?_
    refine s_seq ?_
    refine s_blk ?_
    refine s_seq ?_
    refine c_reg ?_
    refine qd rfl rfl rfl (run_idx Tryd.underlying37 sz3 (v := u12) rfl rfl hw154.read (by omega) (by omega)) ?_
    refine qd rfl rfl rfl (run_load_int (r := ys2.getD i2 0) rfl ag3 (z := (i2 : Int)) rfl hw154.read (Gadd.pins hX151.pins u12) (by omega) (by omega)) ?_
    refine qd rfl rfl rfl (r_assign (v := (.int .i64 (ys2.getD i2 0))) rfl) ?_
    refine qe ?_
    refine s_then ?_
    refine s_seq ?_
    refine c_reg ?_
    refine qd rfl rfl rfl (r_move (v := kvb) rfl) ?_
    refine qd rfl rfl rfl (r_move (v := (.int .i64 (ys2.getD i2 0))) rfl) ?_
    refine q1 rfl rfl rfl (o_call (vs := [kvb, (.int .i64 (ys2.getD i2 0)), (.int .i64 36)]) Tryd.func59 nm59 rfl rfl rfl ?_)
    refine Calls.mono (appendInt_spec (i := ys2.getD i2 0) hX151.pins (hw152.weaken (Nat.zero_le _)) (by omega) (by omega)) ?_
    rintro _ w162 ⟨u160, G161, rfl, ho163, hlo164, hx165⟩
    refine ⟨_, rfl, ?_⟩
    have hnp166 := np_turn hnp158 hpk157 hlo164
    have hX167 := hX151.trans hx165 (fun i hi => (lo_own hw152) i hi)
    have ho168 := hw153.extS hx165 (notO ha155.symm)
    have ho169 := hw154.extS hx165 (notO ha156.symm)
    have hpk170 := hpk157.extS hx165 (fun k hk hx => hnp158 k hx hk)
    have ha171 : Apart u3.ownBlock u160.ownBlock := ap_turn hlo164 ha155.symm (own_lt hw153)
    have ha172 : Apart u12.ownBlock u160.ownBlock := ap_turn hlo164 ha156.symm (own_lt hw154)
    have ho173 := ho163.up (lo := w.heap.size) (fun k hk => (hlo164 k hk).elim (fun h => Nat.le_trans hX151.size h) (fun h => (hw152.lt k h).1))
    have hm174 : (kxb ++ dig36 (ys2.getD i2 0).toNat).length = kxb.length + (dig36 (ys2.getD i2 0).toNat).length := List.length_append
    refine q1 rfl rfl rfl (o_buildF (E := eByte) (e := 5) [(.int .u8 44)] [44] Tryd.underlying90 sz5 zr5 (by exact reps1 (by rfl)) (ones1 (by rfl)) rfl rfl rfl rfl (by decide) hX167.pins (fun u175 w176 ho177 hp178 hl179 hk180 => ?_))
    have hX181 := hX167.step hp178 hl179
    have ho182 := ho168.below hl179
    have ho183 := ho169.below hl179
    have ho184 := ho173.below hl179
    have hpk185 := hpk170.below hl179 hp178
    have ha191 : Apart u175.ownBlock u160.ownBlock := new_ne_own hk180 ho173.lt
    have ho194 : Own eByte 5 G161 w176 w.heap.size u175 ([44]) := ho177.weaken hX167.size
    refine q1 rfl rfl rfl (o_append (E := eByte) (v := u160) (u := u175) 1 Tryd.underlying90 ap5 (by decide) rfl rfl hX181.pins ho184 ho194.src (by first | omega | (rw [List.nil_append]; omega) | (rw [List.length_nil]; omega) | (rw [List.length_append]; omega) | (simp; done) | (simp; omega) | (simp only [List.length_append, List.length_cons, List.length_nil]; omega)) (by first | omega | (rw [List.nil_append]; omega) | (rw [List.length_nil]; omega) | (rw [List.length_append]; omega) | (simp; done) | (simp; omega) | (simp only [List.length_append, List.length_cons, List.length_nil]; omega)) (hX181.size) (fun u195 w196 ho197 hp198 hg199 hw200 => ?_))
    have hX201 := hX181.write hp198 hg199 ((lo_own ho184))
    have ho202 := ho182.keptA hg199 ha171
    have ho203 := ho183.keptA hg199 ha172
    have hpk205 := hpk185.kept hg199 hp198 hnp166
    have ha206 : Apart u3.ownBlock u195.ownBlock := app_ne_own ha171 hw200 ho182.lt
    have ha207 : Apart u12.ownBlock u195.ownBlock := app_ne_own ha172 hw200 ho183.lt
    have ha208 : Apart u175.ownBlock u195.ownBlock := app_ne_own ha191 hw200 ho194.lt
    have hnp209 := np_app hnp166 hpk185 hw200
    have hm210 : ((kxb ++ dig36 (ys2.getD i2 0).toNat) ++ ([44])).length = (kxb ++ dig36 (ys2.getD i2 0).toNat).length + 1 := List.length_append
    refine qd rfl rfl rfl (r_assign (v := u195) rfl) ?_
    refine qe ?_
    refine s_then ?_
    refine c_reg ?_
    refine qd rfl rfl rfl (r_move (v := (.int .i64 bm)) rfl) ?_
    refine qd rfl rfl rfl (r_move (v := (.pointer (some ⟨p, 0, none⟩))) rfl) ?_
    refine qd rfl rfl rfl (r_nil rfl) ?_
    refine qd rfl rfl rfl (r_fldp (k := 2) rfl Tryd.underlying79 rfl nz37 rfl) ?_
    refine qd rfl rfl rfl (r_ldp1 (u := B) ag37 rfl (hpk205.bx.cell (o := 2) rfl)) ?_
    refine qd rfl rfl rfl (r_move (v := (.int .i64 (ys2.getD i2 0))) rfl) ?_
    refine qd rfl rfl rfl (run_idx Tryd.underlying37 sz3 (v := B) rfl rfl hpk205.ob.read (by omega) (by omega)) ?_
    refine qd rfl rfl rfl (run_load_int (r := q.bs.getD (ys2.getD i2 0).toNat 0) rfl ag3 (z := (ys2.getD i2 0)) rfl hpk205.ob.read (Gadd.pins hX201.pins B) (by omega) (by omega)) ?_
    refine qd rfl rfl rfl (r_add rfl rfl (by omega)) ?_
    refine qd rfl rfl rfl (r_max rfl rfl) ?_
    refine qd rfl rfl rfl (r_assign (v := (.int .i64 (max bm ((q.bs.getD (ys2.getD i2 0).toNat 0) + 1)))) rfl) ?_
    refine qe ?_
    refine s_blkN ?_
    refine s_then ?_
    refine c_reg ?_
    refine qd rfl rfl rfl (r_add rfl rfl (by omega)) ?_
    refine qd rfl rfl rfl (r_move (v := (.int .i64 ((i2 : Int) + 1))) rfl) ?_
    refine qe ?_
    refine s_lopN ?_
    refine ⟨_, ?_, _, rfl, _, i2 + 1, u195, (kxb ++ dig36 (ys2.getD i2 0).toNat) ++ ([44]), max bm ((q.bs.getD (ys2.getD i2 0).toNat 0) + 1), G161, (packS (x := 55) (packS (x := 54) (packS (x := 53) (packS (x := 8) (packS (x := 7) (packS (x := 6) (packS (x := 2) (packS (x := 1) (pack1 (x := 0) rfl) rfl) rfl) rfl) rfl) rfl) rfl) rfl) rfl), rfl, hX201, (Pin.le_trans hlek148 hx165.le), (by omega), (by rw [key_next (by omega), hkb]; simp only [List.append_assoc]), (by rw [hbbm, born_next (by omega)]), (by omega), ho197, ho202, ho203, ha206.symm, ha207.symm, hpk205, hnp209⟩
    omega
  refine wp_exit ?_
  refine s_thenE ?_
  refine s_lopE ?_
  refine s_blkE ?_
  refine s_then ?_
  refine s_seq ?_
  refine s_seq ?_
  rw [take_all (by omega)] at hkb hbbm
  have hkey : kxb = keyN xs2 ys2 := by rw [hkb]; rfl
  have hq211 := Gadd.pins hX151.pins kvb
  have hr212 := hw152.read
  refine c_draw (S := fun wz => BxR wz p [L, R, B, (.map (some mm.f)), (.map (some mm.o)), (.map (some mm.c)), (.map (some mm.s)), (.map (some mm.n))] ∧ Pins (Gadd GLb w149 kvb) wz) (last := 12) (by kernel_rfl) rfl ?_
  have hl213 : Below w149.heap.size w149 w149.drew := (Below.refl _ _).drew
  have hp214 := hX151.pins.below hl213
  have hX215 := hX151.step hp214 hl213
  have ho216 := hw152.below hl213
  have ho217 := hw153.below hl213
  have ho218 := hw154.below hl213
  have hpk219 := hpk157.below hl213 hp214
  have hq220 := hq211.below hl213
  refine dr_take (i := 0) rfl rfl rfl (want_none rfl _) (by kernel_rfl) (fun _ _ => r_move (v := (.pointer (some ⟨p, 0, none⟩))) rfl) ⟨hpk219.bx.reads, hq220⟩ ?_
  refine dr_take (i := 1) rfl rfl rfl (want_none rfl _) (by kernel_rfl) (fun _ _ => r_nil rfl) ⟨hpk219.bx.reads, hq220⟩ ?_
  refine dr_take (i := 2) rfl rfl rfl (want_none rfl _) (by kernel_rfl) (fun _ _ => r_fldp (k := 3) rfl Tryd.underlying79 rfl nz73 rfl) ⟨hpk219.bx.reads, hq220⟩ ?_
  refine dr_take (i := 3) rfl rfl rfl (want_none rfl _) (by kernel_rfl) (fun _ hS => r_ldp1 (u := (.map (some mm.f))) ag73 rfl (hS.1 3 _ rfl)) ⟨hpk219.bx.reads, hq220⟩ ?_
  refine dr_take (i := 4) rfl rfl rfl (want_none rfl _) (by kernel_rfl) (fun _ _ => r_move (v := kvb) rfl) ⟨hpk219.bx.reads, hq220⟩ ?_
  refine dr_one (i := 5) (by kernel_rfl) (drOp1 (i := 5) rfl rfl rfl (want_none rfl _) (EO.run (r_b2s Tryd.underlying90 Tryd.underlying5 Tryd.underlying9 rfl ho216.read (Gadd.pins hX215.pins kvb)) ?_))
  refine ⟨fun _ => ⟨hpk219.bx.reads, hq220⟩, ?_⟩
  refine dr_one (i := 6) (by kernel_rfl) (drOp1 (i := 6) rfl rfl rfl (want_none rfl _) (EO.run (run_lookv_int (k := (b2s kxb)) (key_str Tryd.underlying9) Tryd.underlying73 zr3 hpk219.ff rfl rfl) ?_))
  refine ⟨fun _ => ⟨hpk219.bx.reads, hq220⟩, ?_⟩
  refine dr_take (i := 7) rfl rfl rfl (want_none rfl _) (by kernel_rfl) (fun _ _ => r_move (v := (.tuple #[(.int .i64 ((Go.GL.look q.fl (b2s kxb)).getD 0)), (.bool ((Go.GL.look q.fl (b2s kxb)).isSome))])) rfl) ⟨hpk219.bx.reads, hq220⟩ ?_
  refine dr_take (i := 8) rfl rfl rfl (want_none rfl _) (by kernel_rfl) (fun _ _ => r_extract (v := (.int .i64 ((Go.GL.look q.fl (b2s kxb)).getD 0))) rfl rfl) ⟨hpk219.bx.reads, hq220⟩ ?_
  refine dr_take (i := 9) rfl rfl rfl (want_none rfl _) (by kernel_rfl) (fun _ _ => r_extract (v := (.bool ((Go.GL.look q.fl (b2s kxb)).isSome))) rfl rfl) ⟨hpk219.bx.reads, hq220⟩ ?_
  refine dr_take (i := 10) rfl rfl rfl (want_none rfl _) (by kernel_rfl) (fun _ _ => r_assign (v := (.int .i64 ((Go.GL.look q.fl (b2s kxb)).getD 0))) rfl) ⟨hpk219.bx.reads, hq220⟩ ?_
  refine dr_take (i := 11) rfl rfl rfl (want_none rfl _) (by kernel_rfl) (fun _ _ => r_assign (v := (.bool ((Go.GL.look q.fl (b2s kxb)).isSome))) rfl) ⟨hpk219.bx.reads, hq220⟩ ?_
  refine dr_end (by kernel_rfl) ?_
  refine s_then ?_
  refine s_seq ?_
  refine c_reg ?_
  refine qd rfl rfl rfl (r_move (v := (.bool ((Go.GL.look q.fl (b2s kxb)).isSome))) rfl) ?_
  refine qe ?_
  refine s_then ?_
  refine c_if rfl rfl (fun h221 => ?_) (fun h221 => ?_)
  · skip
    refine s_seq ?_
    refine c_reg ?_
    refine qd rfl rfl rfl (r_move (v := (.int .i64 ((Go.GL.look q.fl (b2s kxb)).getD 0))) rfl) ?_
    refine qd rfl rfl rfl (r_assign (v := (.int .i64 ((Go.GL.look q.fl (b2s kxb)).getD 0))) rfl) ?_
    refine qe ?_
    refine s_then ?_
    refine wp_ret ?_
    refine s_ret ?_
    refine c_ret1 (v := (.int .i64 ((Go.GL.look q.fl (b2s kxb)).getD 0))) rfl rfl rfl ?_
    obtain ⟨z, hz⟩ := Option.isSome_iff_exists.1 h221
    have hlk := hz
    rw [hkey, hxs2, hys2] at hlk
    obtain ⟨f1, f2⟩ := lookF hok hk1 hk2 hlk
    rw [hz]
    exact ⟨z, L, R, B, q, GLb, rfl, hpk219, hok, (PX.refl _), PIn.lo hpin rfl, hX215, f1, f2, by omega, rfl, Or.inl rfl⟩
  refine wp_skip ?_
  refine s_then ?_
  refine s_seq ?_
  refine c_reg ?_
  refine qd rfl rfl rfl (r_move (v := (.pointer (some ⟨p, 0, none⟩))) rfl) ?_
  refine qd rfl rfl rfl (r_nil rfl) ?_
  refine qd rfl rfl rfl (r_fldp (k := 2) rfl Tryd.underlying79 rfl nz37 rfl) ?_
  refine qd rfl rfl rfl (r_ldp1 (u := B) ag37 rfl (hpk219.bx.cell (o := 2) rfl)) ?_
  refine qd rfl rfl rfl (run_len Tryd.underlying37 (v := B) rfl hpk219.ob.read) ?_
  refine qd rfl rfl rfl (r_assign (v := (.int .i64 (q.bs.length : Int))) rfl) ?_
  refine qe ?_
  refine s_then ?_
  refine s_seq ?_
  have hnone : Go.GL.look q.fl (b2s kxb) = none := by simpa using h221
  rw [hkey, hxs2, hys2] at hnone
  have hadd := hok.add (b := bm) hlim hls hk1 hk2 hnone (by rw [hbbm, hbbn, hxs2, hys2])
  have hq222 := Gadd.pins hX215.pins kvb
  have hr223 := ho216.read
  refine c_draw (S := fun wz => BxR wz p [L, R, B, (.map (some mm.f)), (.map (some mm.o)), (.map (some mm.c)), (.map (some mm.s)), (.map (some mm.n))] ∧ Pins (Gadd GLb w149.drew kvb) wz) (last := 7) (by kernel_rfl) rfl ?_
  have hl224 : Below w149.drew.heap.size w149.drew w149.drew.drew := (Below.refl _ _).drew
  have hp225 := hX215.pins.below hl224
  have hX226 := hX215.step hp225 hl224
  have ho227 := ho216.below hl224
  have ho228 := ho217.below hl224
  have ho229 := ho218.below hl224
  have ho230 := hpk219.ol.below hl224
  have ho231 := hpk219.rr.below hl224
  have ho232 := hpk219.ob.below hl224
  have hb233 := hpk219.bx.below hl224
  have hm234 := hpk219.ff.below hl224
  have hm235 := hpk219.fo.below hl224
  have hm236 := hpk219.fc.below hl224
  have hm237 := hpk219.fs.below hl224
  have hm238 := hpk219.fn.below hl224
  have hq239 := hq222.below hl224
  refine dr_take (i := 0) rfl rfl rfl (want_none rfl _) (by kernel_rfl) (fun _ _ => r_move (v := (.pointer (some ⟨p, 0, none⟩))) rfl) ⟨hb233.reads, hq239⟩ ?_
  refine dr_take (i := 1) rfl rfl rfl (want_none rfl _) (by kernel_rfl) (fun _ _ => r_nil rfl) ⟨hb233.reads, hq239⟩ ?_
  refine dr_take (i := 2) rfl rfl rfl (want_none rfl _) (by kernel_rfl) (fun _ _ => r_fldp (k := 3) rfl Tryd.underlying79 rfl nz73 rfl) ⟨hb233.reads, hq239⟩ ?_
  refine dr_take (i := 3) rfl rfl rfl (want_none rfl _) (by kernel_rfl) (fun _ hS => r_ldp1 (u := (.map (some mm.f))) ag73 rfl (hS.1 3 _ rfl)) ⟨hb233.reads, hq239⟩ ?_
  refine dr_take (i := 4) rfl rfl rfl (want_none rfl _) (by kernel_rfl) (fun _ _ => r_move (v := kvb) rfl) ⟨hb233.reads, hq239⟩ ?_
  refine dr_take (i := 6) rfl rfl rfl (want_none rfl _) (by kernel_rfl) (fun _ _ => r_move (v := (.int .i64 (q.bs.length : Int))) rfl) ⟨hb233.reads, hq239⟩ ?_
  refine dr_one (i := 5) (by kernel_rfl) (drOp1 (i := 5) rfl rfl rfl (want_none rfl _) (EO.run (r_b2s Tryd.underlying90 Tryd.underlying5 Tryd.underlying9 rfl ho227.read (Gadd.pins hX226.pins kvb)) ?_))
  refine ⟨fun _ => ⟨hb233.reads, hq239⟩, ?_⟩
  refine dr_one (i := 7) (by kernel_rfl) (drOp0 (i := 7) rfl rfl rfl (want_none rfl _) (o_mapUpdate (val := (fun v : Int => Value.int .i64 v)) (k := (b2s kxb)) (v := (q.bs.length : Int)) (key_str Tryd.underlying9) Tryd.underlying73 rfl rfl rfl hX226.pins hm234 (fun w240 hm241 hp242 hg243 hz244 => ?_)))
  have hX245 := hX226.write hp242 hg243 ((PIn.f hpin))
  have ho246 := ho227.keptA hg243 (map_ne_own hm234 ho227).symm
  have ho247 := ho228.keptA hg243 (map_ne_own hm234 ho228).symm
  have ho248 := ho229.keptA hg243 (map_ne_own hm234 ho229).symm
  have ho249 := ho230.keptA hg243 (map_ne_own hm234 ho230).symm
  have ho250 := ho231.keptA hg243 (map_ne_own hm234 ho231).symm
  have ho251 := ho232.keptA hg243 (map_ne_own hm234 ho232).symm
  have hb252 := hb233.keptA hg243 (map_ne_box hm234 hb233).symm
  have hm253 := hm235.kept hg243 (apart_maps hpk219.df.fo).symm
  have hm254 := hm236.kept hg243 (apart_maps hpk219.df.fc).symm
  have hm255 := hm237.kept hg243 (apart_maps hpk219.df.fs).symm
  have hm256 := hm238.kept hg243 (apart_maps hpk219.df.fn).symm
  refine ⟨fun h => absurd rfl h, ?_⟩
  refine dr_end (by kernel_rfl) ?_
  refine s_then ?_
  refine s_seq ?_
  refine c_reg ?_
  refine qd rfl rfl rfl (r_move (v := (.pointer (some ⟨p, 0, none⟩))) rfl) ?_
  refine qd rfl rfl rfl (r_move (v := (.pointer (some ⟨p, 0, none⟩))) rfl) ?_
  refine qd rfl rfl rfl (r_nil rfl) ?_
  refine qd rfl rfl rfl (r_fldp (k := 0) rfl Tryd.underlying79 rfl nz77 rfl) ?_
  refine qd rfl rfl rfl (r_ldp1 (u := L) ag77 rfl (hb252.cell (o := 0) rfl)) ?_
  refine qd rfl rfl rfl (r_move (v := u3) rfl) ?_
  obtain ⟨G257, hle260, hX259, hr258, hf261⟩ := ho247.sealed hX245
  have ho262 := ho246.moreO hle260 hf261 ha155
  have ho263 := ho248.moreO hle260 hf261 ha20
  have ho264 := ho249.moreO hle260 hf261 (NP.hl hnp10).symm
  have ho265 := ho250.moreO hle260 hf261 (NP.hr hnp10).symm
  have ho266 := ho251.moreO hle260 hf261 (NP.hb hnp10).symm
  have hb267 := hb252.moreO hf261 (NP.hp hnp10).symm
  refine q1 rfl rfl rfl (o_buildF (E := (eSl eInt)) (e := 37) [u3] [xs2] Tryd.underlying77 sz37 zr37 (by exact reps1 (⟨_, rfl, hr258⟩)) (ones1 hr258.one) rfl rfl rfl rfl (by decide) hX259.pins (fun u268 w269 ho270 hp271 hl272 hk273 => ?_))
  have hX274 := hX259.step hp271 hl272
  have ho275 := ho262.below hl272
  have ho276 := ho263.below hl272
  have ho277 := ho264.below hl272
  have ho278 := ho265.below hl272
  have ho279 := ho266.below hl272
  have hb280 := hb267.below hl272
  have hm281 := hm241.below hl272
  have hm282 := hm253.below hl272
  have hm283 := hm254.below hl272
  have hm284 := hm255.below hl272
  have hm285 := hm256.below hl272
  have ha288 : Apart u268.ownBlock L.ownBlock := new_ne_own hk273 ho264.lt
  have ho292 : Own (eSl eInt) 37 G257 w269 w.heap.size u268 ([xs2]) := ho270.weaken hX259.size
  refine q1 rfl rfl rfl (o_append (E := (eSl eInt)) (v := L) (u := u268) 24 Tryd.underlying77 ap37 (by decide) rfl rfl hX274.pins ho277 ho292.src (by first | omega | (rw [List.nil_append]; omega) | (rw [List.length_nil]; omega) | (rw [List.length_append]; omega) | (simp; done) | (simp; omega) | (simp only [List.length_append, List.length_cons, List.length_nil]; omega)) (by first | omega | (rw [List.nil_append]; omega) | (rw [List.length_nil]; omega) | (rw [List.length_append]; omega) | (simp; done) | (simp; omega) | (simp only [List.length_append, List.length_cons, List.length_nil]; omega)) (Nat.zero_le _) (fun u293 w294 ho295 hp296 hg297 hw298 => ?_))
  have hX299 := hX274.write hp296 hg297 ((PIn.ll hpin))
  have ho300 := ho275.keptA hg297 (NP.hl hnp158)
  have ho301 := ho276.keptA hg297 (NP.hl hnp21)
  have ho302 := ho278.keptA hg297 hpk219.alr.symm
  have ho303 := ho279.keptA hg297 hpk219.alb.symm
  have hb305 := hb280.keptA hg297 hpk219.apl
  have hm306 := hm281.kept hg297 (map_ne_own hm281 ho277)
  have hm307 := hm282.kept hg297 (map_ne_own hm282 ho277)
  have hm308 := hm283.kept hg297 (map_ne_own hm283 ho277)
  have hm309 := hm284.kept hg297 (map_ne_own hm284 ho277)
  have hm310 := hm285.kept hg297 (map_ne_own hm285 ho277)
  have ha311 : Apart kvb.ownBlock u293.ownBlock := app_ne_own (NP.hl hnp158) hw298 ho275.lt
  have ha312 : Apart u12.ownBlock u293.ownBlock := app_ne_own (NP.hl hnp21) hw298 ho276.lt
  have ha313 : Apart R.ownBlock u293.ownBlock := app_ne_own hpk219.alr.symm hw298 ho278.lt
  have ha314 : Apart B.ownBlock u293.ownBlock := app_ne_own hpk219.alb.symm hw298 ho279.lt
  have ha315 : Apart u268.ownBlock u293.ownBlock := app_ne_own ha288 hw298 ho292.lt
  have ha316 : Apart (some p) u293.ownBlock := app_ne_box hpk219.apl hw298 hb280.lt
  have hlo317 : Lo w (inP p L R B mm) u293.ownBlock := lo_app (PIn.ll hpin) hw298 hX274.size
  have hm318 : ((q.ns.map Nd.l) ++ ([xs2])).length = (q.ns.map Nd.l).length + 1 := List.length_append
  refine qd rfl rfl rfl (r_nil rfl) ?_
  refine qd rfl rfl rfl (r_fldp (k := 0) rfl Tryd.underlying79 rfl nz77 rfl) ?_
  refine q0 rfl rfl rfl (o_stp (cs' := [u293, R, B, (.map (some mm.f)), (.map (some mm.o)), (.map (some mm.c)), (.map (some mm.s)), (.map (some mm.n))]) (us := [u293]) (v := u293) sz77 rfl rfl (cells1 ho295.one) (ones1 ho295.one) hX299.pins hb305 (Nat.le_of_ble_eq_true rfl) rfl (fun w319 hb320 hp321 hg322 hz323 => ?_))
  have hX324 := hX299.write hp321 hg322 ((PIn.lp hpin))
  have ho325 := ho300.keptA hg322 (NP.hp hnp158)
  have ho326 := ho301.keptA hg322 (NP.hp hnp21)
  have ho327 := ho302.keptA hg322 hpk219.apr.symm
  have ho328 := ho303.keptA hg322 hpk219.apb.symm
  have ho329 := ho295.keptA hg322 ha316.symm
  have hm330 := hm306.kept hg322 (map_ne_box hm306 hb305)
  have hm331 := hm307.kept hg322 (map_ne_box hm307 hb305)
  have hm332 := hm308.kept hg322 (map_ne_box hm308 hb305)
  have hm333 := hm309.kept hg322 (map_ne_box hm309 hb305)
  have hm334 := hm310.kept hg322 (map_ne_box hm310 hb305)
  refine qe ?_
  refine s_then ?_
  refine s_seq ?_
  refine c_reg ?_
  refine qd rfl rfl rfl (r_move (v := (.pointer (some ⟨p, 0, none⟩))) rfl) ?_
  refine qd rfl rfl rfl (r_move (v := (.pointer (some ⟨p, 0, none⟩))) rfl) ?_
  refine qd rfl rfl rfl (r_nil rfl) ?_
  refine qd rfl rfl rfl (r_fldp (k := 1) rfl Tryd.underlying79 rfl nz77 rfl) ?_
  refine qd rfl rfl rfl (r_ldp1 (u := R) ag77 rfl (hb320.cell (o := 1) rfl)) ?_
  refine qd rfl rfl rfl (r_move (v := u12) rfl) ?_
  obtain ⟨G335, hle338, hX337, hr336, hf339⟩ := ho326.sealed hX324
  have ho340 := ho325.moreO hle338 hf339 ha156
  have ho341 := ho327.moreO hle338 hf339 (NP.hr hnp21).symm
  have ho342 := ho328.moreO hle338 hf339 (NP.hb hnp21).symm
  have ho343 := ho329.moreO hle338 hf339 ha312.symm
  have hb344 := hb320.moreO hf339 (NP.hp hnp21).symm
  refine q1 rfl rfl rfl (o_buildF (E := (eSl eInt)) (e := 37) [u12] [ys2] Tryd.underlying77 sz37 zr37 (by exact reps1 (⟨_, rfl, hr336⟩)) (ones1 hr336.one) rfl rfl rfl rfl (by decide) hX337.pins (fun u345 w346 ho347 hp348 hl349 hk350 => ?_))
  have hX351 := hX337.step hp348 hl349
  have ho352 := ho340.below hl349
  have ho353 := ho341.below hl349
  have ho354 := ho342.below hl349
  have ho355 := ho343.below hl349
  have hb356 := hb344.below hl349
  have hm357 := hm330.below hl349
  have hm358 := hm331.below hl349
  have hm359 := hm332.below hl349
  have hm360 := hm333.below hl349
  have hm361 := hm334.below hl349
  have ha363 : Apart u345.ownBlock R.ownBlock := new_ne_own hk350 ho341.lt
  have ho367 : Own (eSl eInt) 37 G335 w346 w.heap.size u345 ([ys2]) := ho347.weaken hX337.size
  refine q1 rfl rfl rfl (o_append (E := (eSl eInt)) (v := R) (u := u345) 24 Tryd.underlying77 ap37 (by decide) rfl rfl hX351.pins ho353 ho367.src (by first | omega | (rw [List.nil_append]; omega) | (rw [List.length_nil]; omega) | (rw [List.length_append]; omega) | (simp; done) | (simp; omega) | (simp only [List.length_append, List.length_cons, List.length_nil]; omega)) (by first | omega | (rw [List.nil_append]; omega) | (rw [List.length_nil]; omega) | (rw [List.length_append]; omega) | (simp; done) | (simp; omega) | (simp only [List.length_append, List.length_cons, List.length_nil]; omega)) (Nat.zero_le _) (fun u368 w369 ho370 hp371 hg372 hw373 => ?_))
  have hX374 := hX351.write hp371 hg372 ((PIn.lr hpin))
  have ho375 := ho352.keptA hg372 (NP.hr hnp158)
  have ho376 := ho354.keptA hg372 hpk219.arb.symm
  have ho377 := ho355.keptA hg372 ha313.symm
  have hb379 := hb356.keptA hg372 hpk219.apr
  have hm380 := hm357.kept hg372 (map_ne_own hm357 ho353)
  have hm381 := hm358.kept hg372 (map_ne_own hm358 ho353)
  have hm382 := hm359.kept hg372 (map_ne_own hm359 ho353)
  have hm383 := hm360.kept hg372 (map_ne_own hm360 ho353)
  have hm384 := hm361.kept hg372 (map_ne_own hm361 ho353)
  have ha385 : Apart kvb.ownBlock u368.ownBlock := app_ne_own (NP.hr hnp158) hw373 ho352.lt
  have ha386 : Apart B.ownBlock u368.ownBlock := app_ne_own hpk219.arb.symm hw373 ho354.lt
  have ha387 : Apart u293.ownBlock u368.ownBlock := app_ne_own ha313.symm hw373 ho355.lt
  have ha388 : Apart u345.ownBlock u368.ownBlock := app_ne_own ha363 hw373 ho367.lt
  have ha389 : Apart (some p) u368.ownBlock := app_ne_box hpk219.apr hw373 hb356.lt
  have hlo390 : Lo w (inP p L R B mm) u368.ownBlock := lo_app (PIn.lr hpin) hw373 hX351.size
  have hm391 : ((q.ns.map Nd.r) ++ ([ys2])).length = (q.ns.map Nd.r).length + 1 := List.length_append
  refine qd rfl rfl rfl (r_nil rfl) ?_
  refine qd rfl rfl rfl (r_fldp (k := 1) rfl Tryd.underlying79 rfl nz77 rfl) ?_
  refine q0 rfl rfl rfl (o_stp (cs' := [u293, u368, B, (.map (some mm.f)), (.map (some mm.o)), (.map (some mm.c)), (.map (some mm.s)), (.map (some mm.n))]) (us := [u368]) (v := u368) sz77 rfl rfl (cells1 ho370.one) (ones1 ho370.one) hX374.pins hb379 (Nat.le_of_ble_eq_true rfl) rfl (fun w392 hb393 hp394 hg395 hz396 => ?_))
  have hX397 := hX374.write hp394 hg395 ((PIn.lp hpin))
  have ho398 := ho375.keptA hg395 (NP.hp hnp158)
  have ho399 := ho376.keptA hg395 hpk219.apb.symm
  have ho400 := ho377.keptA hg395 ha316.symm
  have ho401 := ho370.keptA hg395 ha389.symm
  have hm402 := hm380.kept hg395 (map_ne_box hm380 hb379)
  have hm403 := hm381.kept hg395 (map_ne_box hm381 hb379)
  have hm404 := hm382.kept hg395 (map_ne_box hm382 hb379)
  have hm405 := hm383.kept hg395 (map_ne_box hm383 hb379)
  have hm406 := hm384.kept hg395 (map_ne_box hm384 hb379)
  refine qe ?_
  refine s_then ?_
  refine s_seq ?_
  refine c_reg ?_
  refine qd rfl rfl rfl (r_move (v := (.pointer (some ⟨p, 0, none⟩))) rfl) ?_
  refine qd rfl rfl rfl (r_move (v := (.pointer (some ⟨p, 0, none⟩))) rfl) ?_
  refine qd rfl rfl rfl (r_nil rfl) ?_
  refine qd rfl rfl rfl (r_fldp (k := 2) rfl Tryd.underlying79 rfl nz37 rfl) ?_
  refine qd rfl rfl rfl (r_ldp1 (u := B) ag37 rfl (hb393.cell (o := 2) rfl)) ?_
  refine qd rfl rfl rfl (r_move (v := (.int .i64 bm)) rfl) ?_
  refine q1 rfl rfl rfl (o_buildF (E := eInt) (e := 3) [(.int .i64 bm)] [bm] Tryd.underlying37 sz3 zr3 (by exact reps1 (by rfl)) (ones1 (by rfl)) rfl rfl rfl rfl (by decide) hX397.pins (fun u407 w408 ho409 hp410 hl411 hk412 => ?_))
  have hX413 := hX397.step hp410 hl411
  have ho414 := ho398.below hl411
  have ho415 := ho399.below hl411
  have ho416 := ho400.below hl411
  have ho417 := ho401.below hl411
  have hb418 := hb393.below hl411
  have hm419 := hm402.below hl411
  have hm420 := hm403.below hl411
  have hm421 := hm404.below hl411
  have hm422 := hm405.below hl411
  have hm423 := hm406.below hl411
  have ha425 : Apart u407.ownBlock B.ownBlock := new_ne_own hk412 ho399.lt
  have ho429 : Own eInt 3 G335 w408 w.heap.size u407 ([bm]) := ho409.weaken hX397.size
  refine q1 rfl rfl rfl (o_append (E := eInt) (v := B) (u := u407) 8 Tryd.underlying37 ap3 (by decide) rfl rfl hX413.pins ho415 ho429.src (by first | omega | (rw [List.nil_append]; omega) | (rw [List.length_nil]; omega) | (rw [List.length_append]; omega) | (simp; done) | (simp; omega) | (simp only [List.length_append, List.length_cons, List.length_nil]; omega)) (by first | omega | (rw [List.nil_append]; omega) | (rw [List.length_nil]; omega) | (rw [List.length_append]; omega) | (simp; done) | (simp; omega) | (simp only [List.length_append, List.length_cons, List.length_nil]; omega)) (Nat.zero_le _) (fun u430 w431 ho432 hp433 hg434 hw435 => ?_))
  have hX436 := hX413.write hp433 hg434 ((PIn.lb hpin))
  have ho438 := ho416.keptA hg434 ha314.symm
  have ho439 := ho417.keptA hg434 ha386.symm
  have hb441 := hb418.keptA hg434 hpk219.apb
  have hm442 := hm419.kept hg434 (map_ne_own hm419 ho415)
  have hm443 := hm420.kept hg434 (map_ne_own hm420 ho415)
  have hm444 := hm421.kept hg434 (map_ne_own hm421 ho415)
  have hm445 := hm422.kept hg434 (map_ne_own hm422 ho415)
  have hm446 := hm423.kept hg434 (map_ne_own hm423 ho415)
  have ha447 : Apart kvb.ownBlock u430.ownBlock := app_ne_own (NP.hb hnp158) hw435 ho414.lt
  have ha448 : Apart u293.ownBlock u430.ownBlock := app_ne_own ha314.symm hw435 ho416.lt
  have ha449 : Apart u368.ownBlock u430.ownBlock := app_ne_own ha386.symm hw435 ho417.lt
  have ha450 : Apart u407.ownBlock u430.ownBlock := app_ne_own ha425 hw435 ho429.lt
  have ha451 : Apart (some p) u430.ownBlock := app_ne_box hpk219.apb hw435 hb418.lt
  have hlo452 : Lo w (inP p L R B mm) u430.ownBlock := lo_app (PIn.lb hpin) hw435 hX413.size
  have hm453 : (q.bs ++ ([bm])).length = q.bs.length + 1 := List.length_append
  refine qd rfl rfl rfl (r_nil rfl) ?_
  refine qd rfl rfl rfl (r_fldp (k := 2) rfl Tryd.underlying79 rfl nz37 rfl) ?_
  refine q0 rfl rfl rfl (o_stp (cs' := [u293, u368, u430, (.map (some mm.f)), (.map (some mm.o)), (.map (some mm.c)), (.map (some mm.s)), (.map (some mm.n))]) (us := [u430]) (v := u430) sz37 rfl rfl (cells1 ho432.one) (ones1 ho432.one) hX436.pins hb441 (Nat.le_of_ble_eq_true rfl) rfl (fun w454 hb455 hp456 hg457 hz458 => ?_))
  have hX459 := hX436.write hp456 hg457 ((PIn.lp hpin))
  have ho461 := ho438.keptA hg457 ha316.symm
  have ho462 := ho439.keptA hg457 ha389.symm
  have ho463 := ho432.keptA hg457 ha451.symm
  have hm464 := hm442.kept hg457 (map_ne_box hm442 hb441)
  have hm465 := hm443.kept hg457 (map_ne_box hm443 hb441)
  have hm466 := hm444.kept hg457 (map_ne_box hm444 hb441)
  have hm467 := hm445.kept hg457 (map_ne_box hm445 hb441)
  have hm468 := hm446.kept hg457 (map_ne_box hm446 hb441)
  refine qe ?_
  refine s_then ?_
  refine s_seq ?_
  refine c_reg ?_
  refine qd rfl rfl rfl (r_move (v := (.int .i64 (q.bs.length : Int))) rfl) ?_
  refine qd rfl rfl rfl (r_assign (v := (.int .i64 (q.bs.length : Int))) rfl) ?_
  refine qe ?_
  refine s_then ?_
  refine wp_ret ?_
  refine s_ret ?_
  refine c_ret1 (v := (.int .i64 (q.bs.length : Int))) rfl rfl rfl ?_
  have el : (q.ns.map Nd.l) ++ [xs2] = (addQ q xs ys bm).ns.map Nd.l := by rw [hxs2]; simp [addQ]
  have er : (q.ns.map Nd.r) ++ [ys2] = (addQ q xs ys bm).ns.map Nd.r := by rw [hys2]; simp [addQ]
  have ef : putE q.fl (b2s kxb) (q.bs.length : Int) = (addQ q xs ys bm).fl := by rw [hkey, hxs2, hys2, hok.ar.ok.len]; rfl
  have hol := ho461
  have hor := ho462
  have hff := hm464
  rw [el] at hol
  rw [er] at hor
  rw [ef] at hff
  exact ⟨(q.bs.length : Int), u293, u368, u430, addQ q xs ys bm, G335, rfl, ⟨hb455, hol, hor, ho463, hff, hm465, hm466, hm467, hm468, ha316, ha389, ha451, ha387, ha448, ha449, hpk219.df⟩, hadd.1, hadd.2.1, ⟨hlo317, hlo390, hlo452⟩, hX459, by rw [hok.ar.ok.len]; exact hadd.2.2.1, by rw [hok.ar.ok.len]; exact hadd.2.2.2.1, hadd.2.2.2.2, rfl, Or.inr (by omega)⟩

end PO1
end Go.Proofs.YtfkompdmejpmmaaDoor
