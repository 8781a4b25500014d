/- Walks, printed by a program (walkgen.py) from the spec specs_lc. -/
import Derived.Test.YtgnbnieoghnboaaChecked
import Derived.Test.YtgnbnieoghnboaaRow
import Derived.Test.YtgnbnieoghnboaaClaim
import Derived.Test.YtgnbnieoghnboaaL1
set_option maxRecDepth 20000
set_option maxHeartbeats 2000000
namespace Go.Proofs.Ytgnbnieoghnboaa
namespace LC1
open Go.RowKit Go.GL Go.Proofs
open Go.Proofs.Ytgnbnieoghnboaa.L1
theorem ag102 : (Try.prog.underlying 102).map aggD = some true := by kernel_rfl
theorem ag25 : (Try.prog.underlying 25).map aggD = some false := by kernel_rfl
theorem ag3 : (Try.prog.underlying 3).map aggD = some false := by kernel_rfl
theorem ag36 : (Try.prog.underlying 36).map aggD = some false := by kernel_rfl
theorem ag38 : (Try.prog.underlying 38).map aggD = some true := by kernel_rfl
theorem ag69 : (Try.prog.underlying 69).map aggD = some false := by kernel_rfl
theorem ag71 : (Try.prog.underlying 71).map aggD = some true := by kernel_rfl
theorem mk71 : (Try.prog.info? 71).map (fun i => (i.size, i.bytes, i.zero)) = some (4, 64, some (.agg #[(.int .i64 0), (.int .i64 0), (.slice none 0 0), (.slice none 0 0)])) := by kernel_rfl
theorem nm103 : (Try.f103.name == "runtime.NumGoroutine") = false := by kernel_rfl
theorem nm107 : (Try.f107.name == "runtime.NumGoroutine") = false := by kernel_rfl
theorem nm28 : (Try.f28.name == "runtime.NumGoroutine") = false := by kernel_rfl
theorem nm34 : (Try.f34.name == "runtime.NumGoroutine") = false := by kernel_rfl
theorem nm38 : (Try.f38.name == "runtime.NumGoroutine") = false := by kernel_rfl
theorem nm59 : (Try.f59.name == "runtime.NumGoroutine") = false := by kernel_rfl
theorem nm68 : (Try.f68.name == "runtime.NumGoroutine") = false := by kernel_rfl
theorem nm80 : (Try.f80.name == "runtime.NumGoroutine") = false := by kernel_rfl
theorem nm97 : (Try.f97.name == "runtime.NumGoroutine") = false := by kernel_rfl
theorem nz25 : (Try.prog.info? 25).map (·.size == 0) = some false := by kernel_rfl
theorem nz3 : (Try.prog.info? 3).map (·.size == 0) = some false := by kernel_rfl
theorem nz36 : (Try.prog.info? 36).map (·.size == 0) = some false := by kernel_rfl
theorem nz69 : (Try.prog.info? 69).map (·.size == 0) = some false := by kernel_rfl
theorem sz102 : (Try.prog.info? 102).map (·.size) = some 4 := by kernel_rfl
theorem sz3 : (Try.prog.info? 3).map (·.size) = some 1 := by kernel_rfl
theorem sz36 : (Try.prog.info? 36).map (·.size) = some 1 := by kernel_rfl
theorem sz38 : (Try.prog.info? 38).map (·.size) = some 1 := by kernel_rfl
theorem sz69 : (Try.prog.info? 69).map (·.size) = some 1 := by kernel_rfl
theorem sz71 : (Try.prog.info? 71).map (·.size) = some 4 := by kernel_rfl
theorem zr38 : (Try.prog.info? 38).bind (·.zero) = some (.agg #[(.slice none 0 0)]) := by kernel_rfl
theorem zr71 : (Try.prog.info? 71).bind (·.zero) = some (.agg #[(.int .i64 0), (.int .i64 0), (.slice none 0 0), (.slice none 0 0)]) := by kernel_rfl

theorem szClaim_spec {w : World} {G : Pin} {u v : Value} {c : Cl} (hP : Pins G w) (hu : RSl eInt G u c.r) (hv : RSl eInt G v c.l) {left : Int} (hl : 0 ≤ left ∧ left ≤ 1048576) :
    Calls Try.prog 59 [(.agg [(.int .i64 c.a), (.int .i64 c.b), u, v].toArray), (.int .i64 left)].toArray w fun e w' => ∃ G', e = .returned (.int .i64 (szNd ⟨c.r, c.l⟩ left)) ∧ Ext noS G w G' w' := by
  refine s_enter (n := 18) Try.func59 Try.ntmps59 rfl rfl ?_
  have hX0 : Ext noS G w G w := Ext.refl hP
  refine s_seq ?_
  refine c_reg ?_
  refine q1 rfl rfl rfl (o_box [(.int .i64 c.a), (.int .i64 c.b), u, v] (v := (.agg [(.int .i64 c.a), (.int .i64 c.b), u, v].toArray)) rfl rfl hX0.pins (fun b1 w2 hk3 hb4 hp5 hl6 => ?_))
  have hX7 := hX0.step hp5 hl6
  have hlo8 : w.heap.size ≤ b1 := by have := hX0.size; omega
  obtain ⟨G9, hle10, hX11, hbp12, hf13⟩ := hb4.shut hX7 hlo8
  refine qd rfl rfl rfl (r_assign (v := (.int .i64 0)) rfl) ?_
  refine qe ?_
  refine s_then ?_
  refine s_seq ?_
  refine c_reg ?_
  refine qd rfl rfl rfl (r_fldp (k := 2) rfl Try.underlying102 rfl nz69 rfl) ?_
  refine qd rfl rfl rfl (r_ldp1 (u := u) ag69 rfl (hX11.pins _ _ _ (hbp12 2 _ rfl))) ?_
  refine qd rfl rfl rfl (r_move (v := (.int .i64 left)) rfl) ?_
  refine q1 rfl rfl rfl (o_call (vs := [u, (.int .i64 left)]) Try.func97 nm97 rfl rfl rfl ?_)
  refine Calls.mono (szIntS_spec hX11.pins (hu.mono hle10) (by omega)) ?_
  rintro _ _ ⟨rfl, rfl⟩
  refine ⟨_, rfl, ?_⟩
  refine qd rfl rfl rfl (r_assign (v := (.int .i64 (szInts c.r left))) rfl) ?_
  refine qe ?_
  refine s_then ?_
  refine s_seq ?_
  refine s_seq ?_
  refine c_reg ?_
  refine qd rfl rfl rfl (r_move (v := (.int .i64 (szInts c.r left))) rfl) ?_
  refine qd rfl rfl rfl (r_lss rfl rfl) ?_
  refine qe ?_
  refine s_then ?_
  refine c_ifd (p := (szInts c.r left : Int) < 0) rfl rfl (fun h14 => ?_) (fun h14 => ?_)
  · skip
    refine s_seq ?_
    refine c_reg ?_
    refine qd rfl rfl rfl (r_assign (v := (.int .i64 (-1))) rfl) ?_
    refine qe ?_
    refine s_then ?_
    refine wp_ret ?_
    refine s_ret ?_
    refine c_ret1 (v := (.int .i64 (-1))) rfl rfl rfl ?_
    exact ⟨_, congrArg (fun z => Ending.returned (Value.int .i64 z)) (by unfold szNd; rw [if_pos h14]), hX11⟩
  · skip
    refine wp_skip ?_
    refine s_then ?_
    refine s_seq ?_
    refine c_reg ?_
    have hq := szInts_ok h14 hl
    refine qd rfl rfl rfl (r_fldp (k := 3) rfl Try.underlying102 rfl nz69 rfl) ?_
    refine qd rfl rfl rfl (r_ldp1 (u := v) ag69 rfl (hX11.pins _ _ _ (hbp12 3 _ rfl))) ?_
    refine qd rfl rfl rfl (r_move (v := (.int .i64 (szInts c.r left))) rfl) ?_
    refine q1 rfl rfl rfl (o_call (vs := [v, (.int .i64 (szInts c.r left))]) Try.func97 nm97 rfl rfl rfl ?_)
    refine Calls.mono (szIntS_spec hX11.pins (hv.mono hle10) (by omega)) ?_
    rintro _ _ ⟨rfl, rfl⟩
    refine ⟨_, rfl, ?_⟩
    refine qd rfl rfl rfl (r_assign (v := (.int .i64 (szInts c.l (szInts c.r left)))) rfl) ?_
    refine qe ?_
    refine s_then ?_
    refine s_seq ?_
    refine s_seq ?_
    refine c_reg ?_
    refine qd rfl rfl rfl (r_move (v := (.int .i64 (szInts c.l (szInts c.r left)))) rfl) ?_
    refine qd rfl rfl rfl (r_lss rfl rfl) ?_
    refine qe ?_
    refine s_then ?_
    refine c_ifd (p := (szInts c.l (szInts c.r left) : Int) < 0) rfl rfl (fun h15 => ?_) (fun h15 => ?_)
    · skip
      refine s_seq ?_
      refine c_reg ?_
      refine qd rfl rfl rfl (r_assign (v := (.int .i64 (-1))) rfl) ?_
      refine qe ?_
      refine s_then ?_
      refine wp_ret ?_
      refine s_ret ?_
      refine c_ret1 (v := (.int .i64 (-1))) rfl rfl rfl ?_
      exact ⟨_, congrArg (fun z => Ending.returned (Value.int .i64 z)) (by unfold szNd; rw [if_neg h14, if_pos h15]), hX11⟩
    · skip
      refine wp_skip ?_
      refine s_then ?_
      refine s_seq ?_
      refine c_reg ?_
      refine qd rfl rfl rfl (r_move (v := (.int .i64 (szInts c.l (szInts c.r left)))) rfl) ?_
      refine qd rfl rfl rfl (r_assign (v := (.int .i64 (szInts c.l (szInts c.r left)))) rfl) ?_
      refine qe ?_
      refine s_then ?_
      refine wp_ret ?_
      refine s_ret ?_
      refine c_ret1 (v := (.int .i64 (szInts c.l (szInts c.r left)))) rfl rfl rfl ?_
      exact ⟨_, congrArg (fun z => Ending.returned (Value.int .i64 z)) (by unfold szNd; rw [if_neg h14, if_neg h15]), hX11⟩

theorem szClaimS_spec {w : World} {G : Pin} {v : Value} {cs : List Cl} {left : Int} (hP : Pins G w) (hv : RSl eClaim G v cs) (hl : 0 ≤ left ∧ left ≤ 1048576) :
    Calls Try.prog 28 [v, (.int .i64 left)].toArray w fun e w' => ∃ G', e = .returned (.int .i64 (szNds (cs.map ndC) left)) ∧ Ext noS G w G' w' := by
  refine s_enter (n := 27) Try.func28 Try.ntmps28 rfl rfl ?_
  have hX0 : Ext noS G w G w := Ext.refl hP
  have hm := hv.max
  have hml : (cs.map ndC).length = cs.length := by simp
  refine s_seq ?_
  refine c_reg ?_
  refine qd rfl rfl rfl (r_assign (v := (.int .i64 0)) rfl) ?_
  refine qe ?_
  refine s_then ?_
  refine s_seq ?_
  refine c_reg ?_
  refine qd rfl rfl rfl (r_move (v := (.int .i64 left)) rfl) ?_
  refine qd rfl rfl rfl (r_move (v := v) rfl) ?_
  refine qd rfl rfl rfl (run_len Try.underlying25 (v := v) rfl hv) ?_
  refine qd rfl rfl rfl (r_sub rfl rfl (by omega)) ?_
  refine qd rfl rfl rfl (r_assign (v := (.int .i64 (left - (cs.length : Int)))) rfl) ?_
  refine qe ?_
  refine s_then ?_
  refine s_seq ?_
  refine s_seq ?_
  refine c_reg ?_
  refine qd rfl rfl rfl (r_move (v := (.int .i64 (left - (cs.length : Int)))) rfl) ?_
  refine qd rfl rfl rfl (r_lss rfl rfl) ?_
  refine qe ?_
  refine s_then ?_
  refine c_ifd (p := (left - (cs.length : Int) : Int) < 0) rfl rfl (fun h1 => ?_) (fun h1 => ?_)
  · skip
    refine s_seq ?_
    refine c_reg ?_
    refine qd rfl rfl rfl (r_assign (v := (.int .i64 (-1))) rfl) ?_
    refine qe ?_
    refine s_then ?_
    refine wp_ret ?_
    refine s_ret ?_
    refine c_ret1 (v := (.int .i64 (-1))) rfl rfl rfl ?_
    exact ⟨_, congrArg (fun z => Ending.returned (Value.int .i64 z)) (by unfold szNds; rw [if_pos (by omega)]), hX0⟩
  · skip
    refine wp_skip ?_
    refine s_then ?_
    refine s_seq ?_
    refine s_seq ?_
    refine c_reg ?_
    refine qd rfl rfl rfl (r_assign (v := (.int .i64 0)) rfl) ?_
    refine qe ?_
    refine s_then ?_
    refine s_blk ?_
    refine s_loop (fun (k : Nat) (en : Nat → Value) (W : World) => ∃ (env1 : Nat → Value) (j : Nat) (q : Int) (GL1 : Pin), en = (upd (upd (upd env1 0 v) 1 (.int .i64 q)) 5 (.int .i64 (j : Int))) ∧ k = cs.length - j ∧ Ext noS G w GL1 W ∧ Pin.le G GL1 ∧ (j ≤ cs.length) ∧ (0 ≤ q ∧ q ≤ 1048576) ∧ (szGo (cs.map ndC) (left - (cs.map ndC).length) = szGo ((cs.map ndC).drop j) q)) _ ⟨_, 0, left - (cs.length : Int), G, (packS (x := 5) (packS (x := 1) (pack1 (x := 0) rfl) rfl) rfl), rfl, hX0, Pin.le_refl _, Nat.zero_le _, (by omega), (by rw [hml]; rfl)⟩ ?_
    rintro k2 _ w3 ⟨env1, j, q, GL1, rfl, hk4, hX5, hlek2, hj, hq, hr⟩
    have hnd := ndC_getD cs j
    refine s_seq ?_
    refine s_seq ?_
    refine c_reg ?_
    refine qd rfl rfl rfl (r_move (v := (.int .i64 (j : Int))) rfl) ?_
    refine qd rfl rfl rfl (r_move (v := v) rfl) ?_
    refine qd rfl rfl rfl (run_len Try.underlying25 (v := v) rfl hv) ?_
    refine qd rfl rfl rfl (r_lss rfl rfl) ?_
    refine qe ?_
    refine s_then ?_
    refine c_ifd (p := ((j : Int) : Int) < (cs.length : Int)) rfl rfl (fun h6 => ?_) (fun h6 => ?_)
    · skip
      refine wp_skip ?_
      refine s_then ?_
      refine s_seq ?_
      refine s_blk ?_
      refine s_seq ?_
      refine c_reg ?_
      refine qd rfl rfl rfl (r_move (v := v) rfl) ?_
      refine qd rfl rfl rfl (r_move (v := (.int .i64 (j : Int))) rfl) ?_
      refine qd rfl rfl rfl (run_idx Try.underlying25 sz102 (v := v) rfl rfl hv (by omega) (by omega)) ?_
      obtain ⟨cs7, hrep8, hagg9, hcell10⟩ := nm_el (j := j) default (hv.at (z := (j : Int)) (by omega) (by omega)) rfl
      obtain ⟨u11, u13, rfl, hr12, hr14⟩ := hrep8
      have hm15 := hr12.max
      have hm16 := hr14.max
      refine qd rfl rfl rfl (hagg9 ag102 sz102 rfl (Pins.of_le hX5.pins hlek2)) ?_
      refine qd rfl rfl rfl (r_move (v := (.int .i64 q)) rfl) ?_
      refine q1 rfl rfl rfl (o_call (vs := [(.agg [(.int .i64 ((cs.getD j default).a)), (.int .i64 ((cs.getD j default).b)), u11, u13].toArray), (.int .i64 q)]) Try.func59 nm59 rfl rfl rfl ?_)
      refine Calls.mono (szClaim_spec (c := (cs.getD j default)) (left := q) hX5.pins (hr12.mono hlek2) (hr14.mono hlek2) (by omega)) ?_
      rintro _ w18 ⟨G17, rfl, hx19⟩
      refine ⟨_, rfl, ?_⟩
      have hX20 := hX5.tr hx19
      refine qd rfl rfl rfl (r_assign (v := (.int .i64 (szNd ⟨(cs.getD j default).r, (cs.getD j default).l⟩ q))) rfl) ?_
      refine qe ?_
      refine s_then ?_
      refine s_seq ?_
      refine c_reg ?_
      refine qd rfl rfl rfl (r_move (v := (.int .i64 (szNd ⟨(cs.getD j default).r, (cs.getD j default).l⟩ q))) rfl) ?_
      refine qd rfl rfl rfl (r_lss rfl rfl) ?_
      refine qe ?_
      refine s_then ?_
      refine c_ifd (p := (szNd ⟨(cs.getD j default).r, (cs.getD j default).l⟩ q : Int) < 0) rfl rfl (fun h21 => ?_) (fun h21 => ?_)
      · skip
        refine s_seq ?_
        refine c_reg ?_
        refine qd rfl rfl rfl (r_assign (v := (.int .i64 (-1))) rfl) ?_
        refine qe ?_
        refine s_then ?_
        refine wp_ret ?_
        refine s_ret ?_
        refine c_ret1 (v := (.int .i64 (-1))) rfl rfl rfl ?_
        exact ⟨_, congrArg (fun z => Ending.returned (Value.int .i64 z)) (by unfold szNds; rw [if_neg (by omega)]; exact (hr.trans (szGo_stop (by omega) (by rw [hnd]; exact h21))).symm), hX20⟩
      · skip
        refine wp_skip ?_
        refine s_blkN ?_
        refine s_then ?_
        refine c_reg ?_
        refine qd rfl rfl rfl (r_move (v := (.int .i64 (j : Int))) rfl) ?_
        refine qd rfl rfl rfl (r_add rfl rfl (by omega)) ?_
        refine qd rfl rfl rfl (r_assign (v := (.int .i64 ((j : Int) + 1))) rfl) ?_
        refine qe ?_
        refine s_lopN ?_
        have hz := szNd_ok h21
        have hn2 := h21
        rw [← hnd] at hn2
        refine ⟨_, ?_, _, rfl, _, j + 1, szNd ⟨(cs.getD j default).r, (cs.getD j default).l⟩ q, G17, (packS (x := 5) (packS (x := 1) (pack1 (x := 0) rfl) rfl) rfl), rfl, hX20, (Pin.le_trans hlek2 hx19.le), (by omega), (by have h1 := hz.1; have h2 := hz.2.1; exact ⟨h1, by omega⟩), (hr.trans ((szGo_next (by omega) hn2).trans (by rw [hnd])))⟩
        omega
    · skip
      refine wp_exit ?_
      refine s_thenE ?_
      refine s_lopE ?_
      refine s_blkE ?_
      refine s_then ?_
      refine s_seq ?_
      refine c_reg ?_
      refine qd rfl rfl rfl (r_move (v := (.int .i64 q)) rfl) ?_
      refine qd rfl rfl rfl (r_assign (v := (.int .i64 q)) rfl) ?_
      refine qe ?_
      refine s_then ?_
      refine wp_ret ?_
      refine s_ret ?_
      refine c_ret1 (v := (.int .i64 q)) rfl rfl rfl ?_
      exact ⟨_, congrArg (fun z => Ending.returned (Value.int .i64 z)) (by unfold szNds; rw [if_neg (by omega)]; exact (hr.trans (szGo_end (by omega))).symm), hX5⟩

theorem szProof_spec {w : World} {G : Pin} {v : Value} {cs : List Cl} {left : Int} (hP : Pins G w) (hv : RSl eClaim G v cs) (hl : 0 ≤ left ∧ left ≤ 1048576) :
    Calls Try.prog 7 [(.agg [v].toArray), (.int .i64 left)].toArray w fun e w' => ∃ z G', e = .returned (.int .i64 z) ∧ (z < 0 ∧ szNds (cs.map ndC) left < 0 ∨ 0 ≤ z ∧ z ≤ left ∧ ¬ szNds (cs.map ndC) left < 0) ∧ Ext noS G w G' w' := by
  refine s_enter (n := 12) Try.func7 Try.ntmps7 rfl rfl ?_
  have hX0 : Ext noS G w G w := Ext.refl hP
  refine s_seq ?_
  refine c_reg ?_
  refine q1 rfl rfl rfl (o_box [v] (v := (.agg [v].toArray)) rfl rfl hX0.pins (fun b1 w2 hk3 hb4 hp5 hl6 => ?_))
  have hX7 := hX0.step hp5 hl6
  have hlo8 : w.heap.size ≤ b1 := by have := hX0.size; omega
  obtain ⟨G9, hle10, hX11, hbp12, hf13⟩ := hb4.shut hX7 hlo8
  refine qd rfl rfl rfl (r_assign (v := (.int .i64 0)) rfl) ?_
  refine qe ?_
  refine s_then ?_
  refine s_seq ?_
  refine c_reg ?_
  refine qd rfl rfl rfl (r_fldp (k := 0) rfl Try.underlying27 rfl nz25 rfl) ?_
  refine qd rfl rfl rfl (r_ldp1 (u := v) ag25 rfl (hX11.pins _ _ _ (hbp12 0 _ rfl))) ?_
  refine qd rfl rfl rfl (r_move (v := (.int .i64 left)) rfl) ?_
  refine q1 rfl rfl rfl (o_call (vs := [v, (.int .i64 left)]) Try.func28 nm28 rfl rfl rfl ?_)
  refine Calls.mono (szClaimS_spec hX11.pins (hv.mono hle10) (by omega)) ?_
  rintro _ w15 ⟨G14, rfl, hx16⟩
  refine ⟨_, rfl, ?_⟩
  have hX17 := hX11.tr hx16
  refine qd rfl rfl rfl (r_assign (v := (.int .i64 (szNds (cs.map ndC) left))) rfl) ?_
  refine qe ?_
  refine s_then ?_
  refine s_seq ?_
  refine s_seq ?_
  refine c_reg ?_
  refine qd rfl rfl rfl (r_move (v := (.int .i64 (szNds (cs.map ndC) left))) rfl) ?_
  refine qd rfl rfl rfl (r_lss rfl rfl) ?_
  refine qe ?_
  refine s_then ?_
  refine c_ifd (p := (szNds (cs.map ndC) left : Int) < 0) rfl rfl (fun h18 => ?_) (fun h18 => ?_)
  · skip
    refine s_seq ?_
    refine c_reg ?_
    refine qd rfl rfl rfl (r_assign (v := (.int .i64 (-1))) rfl) ?_
    refine qe ?_
    refine s_then ?_
    refine wp_ret ?_
    refine s_ret ?_
    refine c_ret1 (v := (.int .i64 (-1))) rfl rfl rfl ?_
    have hzl := @szNds_le (cs.map ndC) left
    exact ⟨_, _, rfl, by omega, hX17⟩
  · skip
    refine wp_skip ?_
    refine s_then ?_
    refine s_seq ?_
    refine c_reg ?_
    refine qd rfl rfl rfl (r_move (v := (.int .i64 (szNds (cs.map ndC) left))) rfl) ?_
    refine qd rfl rfl rfl (r_assign (v := (.int .i64 (szNds (cs.map ndC) left))) rfl) ?_
    refine qe ?_
    refine s_then ?_
    refine wp_ret ?_
    refine s_ret ?_
    refine c_ret1 (v := (.int .i64 (szNds (cs.map ndC) left))) rfl rfl rfl ?_
    have hzl := @szNds_le (cs.map ndC) left
    exact ⟨_, _, rfl, by omega, hX17⟩

theorem toClaim_spec {w : World} {G : Pin} {u v : Value} {c : Cl} (hP : Pins G w) (hu : RSl eInt G u c.r) (hv : RSl eInt G v c.l) (hs : c.r.length ≤ 1048576 ∧ c.l.length ≤ 1048576) :
    Calls Try.prog 68 [(.agg [(.int .i64 c.a), (.int .i64 c.b), u, v].toArray)].toArray w fun e w' => ∃ (u v : Value) (G' : Pin), e = .returned (.agg [.int .i64 c.a, .int .i64 c.b, u, v].toArray) ∧ RSl eInt G' u c.r ∧ RSl eInt G' v c.l ∧ Ext noS G w G' w' := by
  refine s_enter (n := 19) Try.func68 Try.ntmps68 rfl rfl ?_
  have hX0 : Ext noS G w G w := Ext.refl hP
  refine s_seq ?_
  refine c_reg ?_
  refine q1 rfl rfl rfl (o_box [(.int .i64 c.a), (.int .i64 c.b), u, v] (v := (.agg [(.int .i64 c.a), (.int .i64 c.b), u, v].toArray)) rfl rfl hX0.pins (fun b1 w2 hk3 hb4 hp5 hl6 => ?_))
  have hX7 := hX0.step hp5 hl6
  have hlo8 : w.heap.size ≤ b1 := by have := hX0.size; omega
  obtain ⟨G9, hle10, hX11, hbp12, hf13⟩ := hb4.shut hX7 hlo8
  refine q1 rfl rfl rfl (o_alloc [(.int .i64 0), (.int .i64 0), (.slice none 0 0), (.slice none 0 0)] zr71 rfl hX11.pins (fun b14 w15 hk16 hb17 hp18 hl19 => ?_))
  have hX20 := hX11.step hp18 hl19
  have hlo21 : w.heap.size ≤ b14 := by have := hX11.size; omega
  refine qe ?_
  refine s_then ?_
  refine s_seq ?_
  refine c_reg ?_
  refine q1 rfl rfl rfl (o_alloc [(.int .i64 0), (.int .i64 0), (.slice none 0 0), (.slice none 0 0)] zr71 rfl hX20.pins (fun b22 w23 hk24 hb25 hp26 hl27 => ?_))
  have hX28 := hX20.step hp26 hl27
  have hb29 := hb17.below hl27
  have ha30 : Apart (some b22) (some b14) := new_ne_box (congrArg some hk24) hb17.lt
  have hlo31 : w.heap.size ≤ b22 := by have := hX20.size; omega
  refine qe ?_
  refine s_then ?_
  refine s_seq ?_
  refine c_reg ?_
  refine qd rfl rfl rfl (r_fldp (k := 0) rfl Try.underlying102 rfl nz3 rfl) ?_
  refine qd rfl rfl rfl (r_ldp1 (u := (.int .i64 c.a)) ag3 rfl (hX28.pins _ _ _ (hbp12 0 _ rfl))) ?_
  refine qd rfl rfl rfl (r_fldp (k := 0) rfl Try.underlying71 rfl nz3 rfl) ?_
  refine q0 rfl rfl rfl (o_stp (cs' := [(.int .i64 c.a), (.int .i64 0), (.slice none 0 0), (.slice none 0 0)]) (us := [(.int .i64 c.a)]) (v := (.int .i64 c.a)) sz3 rfl rfl rfl (ones1 (by rfl)) hX28.pins hb25 (Nat.le_of_ble_eq_true rfl) rfl (fun w32 hb33 hp34 hg35 hz36 => ?_))
  have hX37 := hX28.write hp34 hg35 ((lo_box hlo31))
  have hb38 := hb29.keptA hg35 ha30.symm
  refine qe ?_
  refine s_then ?_
  refine s_seq ?_
  refine c_reg ?_
  refine qd rfl rfl rfl (r_fldp (k := 1) rfl Try.underlying102 rfl nz3 rfl) ?_
  refine qd rfl rfl rfl (r_ldp1 (u := (.int .i64 c.b)) ag3 rfl (hX37.pins _ _ _ (hbp12 1 _ rfl))) ?_
  refine qd rfl rfl rfl (r_fldp (k := 1) rfl Try.underlying71 rfl nz3 rfl) ?_
  refine q0 rfl rfl rfl (o_stp (cs' := [(.int .i64 c.a), (.int .i64 c.b), (.slice none 0 0), (.slice none 0 0)]) (us := [(.int .i64 c.b)]) (v := (.int .i64 c.b)) sz3 rfl rfl rfl (ones1 (by rfl)) hX37.pins hb33 (Nat.le_of_ble_eq_true rfl) rfl (fun w39 hb40 hp41 hg42 hz43 => ?_))
  have hX44 := hX37.write hp41 hg42 ((lo_box hlo31))
  have hb45 := hb38.keptA hg42 ha30.symm
  refine qe ?_
  refine s_then ?_
  refine s_seq ?_
  refine c_reg ?_
  refine qd rfl rfl rfl (r_fldp (k := 2) rfl Try.underlying102 rfl nz69 rfl) ?_
  refine qd rfl rfl rfl (r_ldp1 (u := u) ag69 rfl (hX44.pins _ _ _ (hbp12 2 _ rfl))) ?_
  refine q1 rfl rfl rfl (o_call (vs := [u]) Try.func103 nm103 rfl rfl rfl ?_)
  refine Calls.mono (toIntS_spec hX44.pins (hu.mono hle10) (by omega)) ?_
  rintro _ w48 ⟨u46, G47, rfl, ho49, hx50⟩
  refine ⟨_, rfl, ?_⟩
  have hX51 := hX44.tr hx50
  have hb52 := hb45.ext hx50
  have hb53 := hb40.ext hx50
  have ha54 : Apart u46.ownBlock (some b14) := made_ne_box ho49.lt hb45.lt
  have ha55 : Apart u46.ownBlock (some b22) := made_ne_box ho49.lt hb40.lt
  have ho56 : Own eInt 3 G47 w48 w.heap.size u46 c.r := ho49.weaken hX44.size
  refine qd rfl rfl rfl (r_fldp (k := 2) rfl Try.underlying71 rfl nz69 rfl) ?_
  refine q0 rfl rfl rfl (o_stp (cs' := [(.int .i64 c.a), (.int .i64 c.b), u46, (.slice none 0 0)]) (us := [u46]) (v := u46) sz69 rfl rfl (cells1 ho56.one) (ones1 ho56.one) hX51.pins hb53 (Nat.le_of_ble_eq_true rfl) rfl (fun w57 hb58 hp59 hg60 hz61 => ?_))
  have hX62 := hX51.write hp59 hg60 ((lo_box hlo31))
  have ho63 := ho56.keptA hg60 ha55
  have hb64 := hb52.keptA hg60 ha30.symm
  refine qe ?_
  refine s_then ?_
  refine s_seq ?_
  refine c_reg ?_
  refine qd rfl rfl rfl (r_fldp (k := 3) rfl Try.underlying102 rfl nz69 rfl) ?_
  refine qd rfl rfl rfl (r_ldp1 (u := v) ag69 rfl ((Pins.of_le hX62.pins hx50.le) _ _ _ (hbp12 3 _ rfl))) ?_
  refine q1 rfl rfl rfl (o_call (vs := [v]) Try.func103 nm103 rfl rfl rfl ?_)
  refine Calls.mono (toIntS_spec hX62.pins (hv.mono (Pin.le_trans hle10 hx50.le)) (by omega)) ?_
  rintro _ w67 ⟨u65, G66, rfl, ho68, hx69⟩
  refine ⟨_, rfl, ?_⟩
  have hX70 := hX62.tr hx69
  have ho71 := ho63.ext hx69
  have hb72 := hb64.ext hx69
  have hb73 := hb58.ext hx69
  have ha74 : Apart u65.ownBlock u46.ownBlock := made_ne_own ho68.lt ho63.lt
  have ha75 : Apart u65.ownBlock (some b14) := made_ne_box ho68.lt hb64.lt
  have ha76 : Apart u65.ownBlock (some b22) := made_ne_box ho68.lt hb58.lt
  have ho77 : Own eInt 3 G66 w67 w.heap.size u65 c.l := ho68.weaken hX62.size
  refine qd rfl rfl rfl (r_fldp (k := 3) rfl Try.underlying71 rfl nz69 rfl) ?_
  refine q0 rfl rfl rfl (o_stp (cs' := [(.int .i64 c.a), (.int .i64 c.b), u46, u65]) (us := [u65]) (v := u65) sz69 rfl rfl (cells1 ho77.one) (ones1 ho77.one) hX70.pins hb73 (Nat.le_of_ble_eq_true rfl) rfl (fun w78 hb79 hp80 hg81 hz82 => ?_))
  have hX83 := hX70.write hp80 hg81 ((lo_box hlo31))
  have ho84 := ho71.keptA hg81 ha55
  have ho85 := ho77.keptA hg81 ha76
  have hb86 := hb72.keptA hg81 ha30.symm
  refine qe ?_
  refine s_then ?_
  refine s_seq ?_
  refine c_reg ?_
  refine qd rfl rfl rfl (r_ldpA (cs := [(.int .i64 c.a), (.int .i64 c.b), u46, u65]) ag71 sz71 rfl (fun j u hj => hb79.cell (by simpa using hj))) ?_
  refine q0 rfl rfl rfl (o_stp (cs' := [(.int .i64 c.a), (.int .i64 c.b), u46, u65]) (us := [(.int .i64 c.a), (.int .i64 c.b), u46, u65]) (v := (.agg [(.int .i64 c.a), (.int .i64 c.b), u46, u65].toArray)) sz71 rfl rfl rfl (ones4 (by rfl) (by rfl) ho84.one ho85.one) hX83.pins hb86 (Nat.le_of_ble_eq_true rfl) rfl (fun w87 hb88 hp89 hg90 hz91 => ?_))
  have hX92 := hX83.write hp89 hg90 ((lo_box hlo21))
  have ho93 := ho84.keptA hg90 ha54
  have ho94 := ho85.keptA hg90 ha75
  have hb95 := hb79.keptA hg90 ha30
  refine qe ?_
  refine s_then ?_
  refine wp_ret ?_
  refine s_ret ?_
  refine c_retc (cs := [(.int .i64 c.a), (.int .i64 c.b), u46, u65]) rfl rfl rfl ag71 sz71 (fun j u hj => by rw [Nat.zero_add]; exact hb88.cell hj) ?_
  obtain ⟨G96, hle99, hX98, hr97, hf100⟩ := ho93.sealed hX92
  have ho101 := ho94.moreO hle99 hf100 ha74
  have hb102 := hb88.moreO hf100 ha54.symm
  have hb103 := hb95.moreO hf100 ha55.symm
  obtain ⟨G104, hle107, hX106, hr105, hf108⟩ := ho101.sealed hX98
  have hb109 := hb102.moreO hf108 ha75.symm
  have hb110 := hb103.moreO hf108 ha76.symm
  exact ⟨_, _, _, rfl, (hr97.mono hle107), hr105, hX106⟩

theorem toClaimS_spec {w : World} {G : Pin} {v : Value} {cs : List Cl} (hP : Pins G w) (hv : RSl eClaim G v cs) (hsm : SmallC cs) :
    Calls Try.prog 34 [v].toArray w fun e w' => ∃ (u : Value) (G' : Pin), e = .returned u ∧ RSl eClaim G' u cs ∧ Ext noS G w G' w' := by
  refine s_enter (n := 23) Try.func34 Try.ntmps34 rfl rfl ?_
  have hX0 : Ext noS G w G w := Ext.refl hP
  have hln := hsm.len
  refine s_seq ?_
  refine c_reg ?_
  refine qd rfl rfl rfl (r_assign (v := (.slice none 0 0)) rfl) ?_
  refine qe ?_
  refine s_then ?_
  refine s_seq ?_
  refine c_reg ?_
  refine qd rfl rfl rfl (r_move (v := v) rfl) ?_
  refine qd rfl rfl rfl (run_len Try.underlying25 (v := v) rfl hv) ?_
  refine q1 rfl rfl rfl (o_make (E := eClaim) (⟨0, 0, [], []⟩ : Cl) 64 (.agg #[(.int .i64 0), (.int .i64 0), (.slice none 0 0), (.slice none 0 0)]) Try.underlying36 mk71 zero_claim rfl rfl hX0.pins (by omega) (by omega) (by omega) (fun u1 w2 ho3 hp4 hl5 hk6 => ?_))
  have hX7 := hX0.step hp4 hl5
  have ho8 : Own eClaim 71 G w2 w.heap.size u1 (List.replicate cs.length (⟨0, 0, [], []⟩ : Cl)) := ho3.weaken hX0.size
  have hm9 : (List.replicate cs.length (⟨0, 0, [], []⟩ : Cl)).length = cs.length := List.length_replicate ..
  refine qd rfl rfl rfl (r_assign (v := u1) rfl) ?_
  refine qe ?_
  refine s_then ?_
  refine s_seq ?_
  refine s_seq ?_
  refine c_reg ?_
  refine qd rfl rfl rfl (r_assign (v := (.int .i64 0)) rfl) ?_
  refine qe ?_
  refine s_then ?_
  refine s_blk ?_
  refine s_loop (fun (k : Nat) (en : Nat → Value) (W : World) => ∃ (env1 : Nat → Value) (j : Nat) (os : List Cl) (GL1 : Pin), en = (upd (upd (upd (upd env1 0 v) 2 (.slice none 0 0)) 3 u1) 4 (.int .i64 (j : Int))) ∧ k = cs.length - j ∧ Ext noS G w GL1 W ∧ Pin.le G GL1 ∧ (j ≤ cs.length) ∧ (os = cpy cs j ⟨0, 0, [], []⟩) ∧ (os.length = cs.length) ∧ (Own eClaim 71 GL1 W w.heap.size u1 (os))) _ ⟨_, 0, List.replicate cs.length (⟨0, 0, [], []⟩ : Cl), G, (packS (x := 4) (packS (x := 3) (packS (x := 2) (pack1 (x := 0) rfl) rfl) rfl) rfl), rfl, hX7, Pin.le_refl _, Nat.zero_le _, cpy_start, (by simp), ho8⟩ ?_
  rintro k10 _ w11 ⟨env1, j, os, GL1, rfl, hk12, hX13, hlek10, hj, hr, hol, hw14⟩
  refine s_seq ?_
  refine s_seq ?_
  refine c_reg ?_
  refine qd rfl rfl rfl (r_move (v := (.int .i64 (j : Int))) rfl) ?_
  refine qd rfl rfl rfl (r_move (v := v) rfl) ?_
  refine qd rfl rfl rfl (run_len Try.underlying25 (v := v) rfl hv) ?_
  refine qd rfl rfl rfl (r_lss rfl rfl) ?_
  refine qe ?_
  refine s_then ?_
  refine c_ifd (p := ((j : Int) : Int) < (cs.length : Int)) rfl rfl (fun h15 => ?_) (fun h15 => ?_)
  · skip
    have hso := hsm.opts j (by omega)
    refine wp_skip ?_
    refine s_then ?_
    refine s_seq ?_
    refine s_blk ?_
    refine c_reg ?_
    refine qd rfl rfl rfl (r_move (v := u1) rfl) ?_
    refine qd rfl rfl rfl (r_move (v := (.int .i64 (j : Int))) rfl) ?_
    refine qd rfl rfl rfl (r_move (v := v) rfl) ?_
    refine qd rfl rfl rfl (r_move (v := (.int .i64 (j : Int))) rfl) ?_
    refine qd rfl rfl rfl (run_idx Try.underlying25 sz102 (v := v) rfl rfl hv (by omega) (by omega)) ?_
    obtain ⟨cs16, hrep17, hagg18, hcell19⟩ := nm_el (j := j) default (hv.at (z := (j : Int)) (by omega) (by omega)) rfl
    obtain ⟨u20, u22, rfl, hr21, hr23⟩ := hrep17
    have hm24 := hr21.max
    have hm25 := hr23.max
    refine qd rfl rfl rfl (hagg18 ag102 sz102 rfl (Pins.of_le hX13.pins hlek10)) ?_
    refine q1 rfl rfl rfl (o_call (vs := [(.agg [(.int .i64 ((cs.getD j default).a)), (.int .i64 ((cs.getD j default).b)), u20, u22].toArray)]) Try.func68 nm68 rfl rfl rfl ?_)
    refine Calls.mono (toClaim_spec (c := (cs.getD j default)) hX13.pins (hr21.mono hlek10) (hr23.mono hlek10) (by omega)) ?_
    rintro _ w29 ⟨u26, v27, G28, rfl, hr30, hr31, hx32⟩
    refine ⟨_, rfl, ?_⟩
    have hX33 := hX13.tr hx32
    have ho34 := hw14.ext hx32
    refine qd rfl rfl rfl (run_idx Try.underlying36 sz71 (v := u1) rfl rfl ho34.read (by omega) (by omega)) ?_
    refine q0 rfl rfl rfl (o_set (E := eClaim) (v := u1) (u := (.agg [(.int .i64 ((cs.getD j default).a)), (.int .i64 ((cs.getD j default).b)), u26, v27].toArray)) (z := (j : Int)) ((⟨(cs.getD j default).a, (cs.getD j default).b, (cs.getD j default).r, (cs.getD j default).l⟩ : Cl)) sz71 rfl rfl rfl ⟨_, _, rfl, hr30, hr31⟩ hX33.pins ho34 (by omega) (by omega) (fun w35 ho36 hp37 hg38 hz39 => ?_))
    have hX40 := hX33.write hp37 hg38 ((lo_own ho34))
    refine qe ?_
    refine s_blkN ?_
    refine s_then ?_
    refine c_reg ?_
    refine qd rfl rfl rfl (r_move (v := (.int .i64 (j : Int))) rfl) ?_
    refine qd rfl rfl rfl (r_add rfl rfl (by omega)) ?_
    refine qd rfl rfl rfl (r_assign (v := (.int .i64 ((j : Int) + 1))) rfl) ?_
    refine qe ?_
    refine s_lopN ?_
    refine ⟨_, ?_, _, rfl, _, j + 1, os.set j (cs.getD j default), G28, (packS (x := 4) (packS (x := 3) (packS (x := 2) (pack1 (x := 0) rfl) rfl) rfl) rfl), rfl, hX40, (Pin.le_trans hlek10 hx32.le), (by omega), (by rw [hr]; exact cpy_next default (by omega)), ((List.length_set ..).trans hol), ho36⟩
    omega
  · skip
    refine wp_exit ?_
    refine s_thenE ?_
    refine s_lopE ?_
    refine s_blkE ?_
    refine s_then ?_
    refine s_seq ?_
    refine c_reg ?_
    refine qd rfl rfl rfl (r_move (v := u1) rfl) ?_
    refine qd rfl rfl rfl (r_assign (v := u1) rfl) ?_
    refine qe ?_
    refine s_then ?_
    refine wp_ret ?_
    refine s_ret ?_
    refine c_ret1 (v := u1) rfl rfl rfl ?_
    obtain ⟨G41, hle44, hX43, hr42, hf45⟩ := hw14.sealed hX13
    exact ⟨_, _, rfl, (by rw [cpy_end (by omega)] at hr; rw [← hr]; exact hr42), hX43⟩

theorem toProof_spec {w : World} {G : Pin} {v : Value} {cs : List Cl} (hP : Pins G w) (hv : RSl eClaim G v cs) (hsm : SmallC cs) :
    Calls Try.prog 10 [(.agg [v].toArray)].toArray w fun e w' => ∃ (u : Value) (G' : Pin), e = .returned (.agg [u].toArray) ∧ RSl eClaim G' u cs ∧ Ext noS G w G' w' := by
  refine s_enter (n := 9) Try.func10 Try.ntmps10 rfl rfl ?_
  have hX0 : Ext noS G w G w := Ext.refl hP
  refine s_seq ?_
  refine c_reg ?_
  refine q1 rfl rfl rfl (o_box [v] (v := (.agg [v].toArray)) rfl rfl hX0.pins (fun b1 w2 hk3 hb4 hp5 hl6 => ?_))
  have hX7 := hX0.step hp5 hl6
  have hlo8 : w.heap.size ≤ b1 := by have := hX0.size; omega
  obtain ⟨G9, hle10, hX11, hbp12, hf13⟩ := hb4.shut hX7 hlo8
  refine q1 rfl rfl rfl (o_alloc [(.slice none 0 0)] zr38 rfl hX11.pins (fun b14 w15 hk16 hb17 hp18 hl19 => ?_))
  have hX20 := hX11.step hp18 hl19
  have hlo21 : w.heap.size ≤ b14 := by have := hX11.size; omega
  refine qe ?_
  refine s_then ?_
  refine s_seq ?_
  refine c_reg ?_
  refine q1 rfl rfl rfl (o_alloc [(.slice none 0 0)] zr38 rfl hX20.pins (fun b22 w23 hk24 hb25 hp26 hl27 => ?_))
  have hX28 := hX20.step hp26 hl27
  have hb29 := hb17.below hl27
  have ha30 : Apart (some b22) (some b14) := new_ne_box (congrArg some hk24) hb17.lt
  have hlo31 : w.heap.size ≤ b22 := by have := hX20.size; omega
  refine qe ?_
  refine s_then ?_
  refine s_seq ?_
  refine c_reg ?_
  refine qd rfl rfl rfl (r_fldp (k := 0) rfl Try.underlying27 rfl nz25 rfl) ?_
  refine qd rfl rfl rfl (r_ldp1 (u := v) ag25 rfl (hX28.pins _ _ _ (hbp12 0 _ rfl))) ?_
  refine q1 rfl rfl rfl (o_call (vs := [v]) Try.func34 nm34 rfl rfl rfl ?_)
  refine Calls.mono (toClaimS_spec hX28.pins (hv.mono hle10) hsm) ?_
  rintro _ w34 ⟨u32, G33, rfl, hr35, hx36⟩
  refine ⟨_, rfl, ?_⟩
  have hX37 := hX28.tr hx36
  have hb38 := hb29.ext hx36
  have hb39 := hb25.ext hx36
  refine qd rfl rfl rfl (r_fldp (k := 0) rfl Try.underlying38 rfl nz36 rfl) ?_
  refine q0 rfl rfl rfl (o_stp (cs' := [u32]) (us := [u32]) (v := u32) sz36 rfl rfl (cells1 hr35.one) (ones1 hr35.one) hX37.pins hb39 (Nat.le_of_ble_eq_true rfl) rfl (fun w40 hb41 hp42 hg43 hz44 => ?_))
  have hX45 := hX37.write hp42 hg43 ((lo_box hlo31))
  have hb46 := hb38.keptA hg43 ha30.symm
  refine qe ?_
  refine s_then ?_
  refine s_seq ?_
  refine c_reg ?_
  refine qd rfl rfl rfl (r_ldpA (cs := [u32]) ag38 sz38 rfl (fun j u hj => hb41.cell (by simpa using hj))) ?_
  refine q0 rfl rfl rfl (o_stp (cs' := [u32]) (us := [u32]) (v := (.agg [u32].toArray)) sz38 rfl rfl rfl (ones1 hr35.one) hX45.pins hb46 (Nat.le_of_ble_eq_true rfl) rfl (fun w47 hb48 hp49 hg50 hz51 => ?_))
  have hX52 := hX45.write hp49 hg50 ((lo_box hlo21))
  have hb53 := hb41.keptA hg50 ha30
  refine qe ?_
  refine s_then ?_
  refine wp_ret ?_
  refine s_ret ?_
  refine c_retc (cs := [u32]) rfl rfl rfl ag38 sz38 (fun j u hj => by rw [Nat.zero_add]; exact hb48.cell hj) ?_
  exact ⟨_, _, rfl, hr35, hX52⟩

theorem eqClaim_spec {w : World} {G : Pin} {u v x y : Value} {c d : Cl} (hP : Pins G w) (hu : RSl eInt G u c.r) (hv : RSl eInt G v c.l) (hx : RSl eInt G x d.r) (hy : RSl eInt G y d.l) :
    Calls Try.prog 80 [(.agg [(.int .i64 c.a), (.int .i64 c.b), u, v].toArray), (.agg [(.int .i64 d.a), (.int .i64 d.b), x, y].toArray)].toArray w fun e w' => ∃ G', e = .returned (.bool (decide (c = d))) ∧ Ext noS G w G' w' := by
  refine s_enter (n := 27) Try.func80 Try.ntmps80 rfl rfl ?_
  have hX0 : Ext noS G w G w := Ext.refl hP
  refine s_seq ?_
  refine c_reg ?_
  refine q1 rfl rfl rfl (o_box [(.int .i64 c.a), (.int .i64 c.b), u, v] (v := (.agg [(.int .i64 c.a), (.int .i64 c.b), u, v].toArray)) rfl rfl hX0.pins (fun b1 w2 hk3 hb4 hp5 hl6 => ?_))
  have hX7 := hX0.step hp5 hl6
  have hlo8 : w.heap.size ≤ b1 := by have := hX0.size; omega
  obtain ⟨G9, hle10, hX11, hbp12, hf13⟩ := hb4.shut hX7 hlo8
  refine q1 rfl rfl rfl (o_box [(.int .i64 d.a), (.int .i64 d.b), x, y] (v := (.agg [(.int .i64 d.a), (.int .i64 d.b), x, y].toArray)) rfl rfl hX11.pins (fun b14 w15 hk16 hb17 hp18 hl19 => ?_))
  have hX20 := hX11.step hp18 hl19
  have hlo21 : w.heap.size ≤ b14 := by have := hX11.size; omega
  obtain ⟨G22, hle23, hX24, hbp25, hf26⟩ := hb17.shut hX20 hlo21
  refine qd rfl rfl rfl (r_assign (v := (.bool false)) rfl) ?_
  refine qe ?_
  refine s_then ?_
  refine s_seq ?_
  refine s_seq ?_
  refine c_reg ?_
  refine qd rfl rfl rfl (r_fldp (k := 0) rfl Try.underlying71 rfl nz3 rfl) ?_
  refine qd rfl rfl rfl (r_ldp1 (u := (.int .i64 c.a)) ag3 rfl ((Pins.of_le hX24.pins hle23) _ _ _ (hbp12 0 _ rfl))) ?_
  refine qd rfl rfl rfl (r_fldp (k := 0) rfl Try.underlying71 rfl nz3 rfl) ?_
  refine qd rfl rfl rfl (r_ldp1 (u := (.int .i64 d.a)) ag3 rfl (hX24.pins _ _ _ (hbp25 0 _ rfl))) ?_
  refine qd rfl rfl rfl (r_neq rfl rfl) ?_
  refine qe ?_
  refine s_then ?_
  refine c_ifd (p := (c.a : Int) ≠ d.a) rfl rfl (fun h27 => ?_) (fun h27 => ?_)
  · skip
    refine s_seq ?_
    refine c_reg ?_
    refine qd rfl rfl rfl (r_assign (v := (.bool false)) rfl) ?_
    refine qe ?_
    refine s_then ?_
    refine wp_ret ?_
    refine s_ret ?_
    refine c_ret1 (v := (.bool false)) rfl rfl rfl ?_
    exact ⟨_, congrArg (fun z => Ending.returned (Value.bool z)) (decide_eq_false (fun e => h27 (by rw [e]))).symm, hX24⟩
  · skip
    refine wp_skip ?_
    refine s_then ?_
    refine s_seq ?_
    refine s_seq ?_
    refine c_reg ?_
    refine qd rfl rfl rfl (r_fldp (k := 1) rfl Try.underlying71 rfl nz3 rfl) ?_
    refine qd rfl rfl rfl (r_ldp1 (u := (.int .i64 c.b)) ag3 rfl ((Pins.of_le hX24.pins hle23) _ _ _ (hbp12 1 _ rfl))) ?_
    refine qd rfl rfl rfl (r_fldp (k := 1) rfl Try.underlying71 rfl nz3 rfl) ?_
    refine qd rfl rfl rfl (r_ldp1 (u := (.int .i64 d.b)) ag3 rfl (hX24.pins _ _ _ (hbp25 1 _ rfl))) ?_
    refine qd rfl rfl rfl (r_neq rfl rfl) ?_
    refine qe ?_
    refine s_then ?_
    refine c_ifd (p := (c.b : Int) ≠ d.b) rfl rfl (fun h28 => ?_) (fun h28 => ?_)
    · skip
      refine s_seq ?_
      refine c_reg ?_
      refine qd rfl rfl rfl (r_assign (v := (.bool false)) rfl) ?_
      refine qe ?_
      refine s_then ?_
      refine wp_ret ?_
      refine s_ret ?_
      refine c_ret1 (v := (.bool false)) rfl rfl rfl ?_
      exact ⟨_, congrArg (fun z => Ending.returned (Value.bool z)) (decide_eq_false (fun e => h28 (by rw [e]))).symm, hX24⟩
    · skip
      refine wp_skip ?_
      refine s_then ?_
      refine s_seq ?_
      refine s_seq ?_
      refine c_reg ?_
      refine qd rfl rfl rfl (r_fldp (k := 2) rfl Try.underlying71 rfl nz69 rfl) ?_
      refine qd rfl rfl rfl (r_ldp1 (u := u) ag69 rfl ((Pins.of_le hX24.pins hle23) _ _ _ (hbp12 2 _ rfl))) ?_
      refine qd rfl rfl rfl (r_fldp (k := 2) rfl Try.underlying71 rfl nz69 rfl) ?_
      refine qd rfl rfl rfl (r_ldp1 (u := x) ag69 rfl (hX24.pins _ _ _ (hbp25 2 _ rfl))) ?_
      refine q1 rfl rfl rfl (o_call (vs := [u, x]) Try.func107 nm107 rfl rfl rfl ?_)
      refine Calls.mono (eqIntS_spec hX24.pins (hu.mono (Pin.le_trans hle10 hle23)) (hx.mono (Pin.le_trans hle10 hle23))) ?_
      rintro _ w29 ⟨rfl, hx30⟩
      refine ⟨_, rfl, ?_⟩
      have hX31 := hX24.step hx30.pins hx30.below
      refine qd rfl rfl rfl (r_not rfl) ?_
      refine qe ?_
      refine s_then ?_
      refine c_ifn rfl rfl (fun h32 => ?_) (fun h32 => ?_)
      · skip
        replace h32 := of_decide_eq_true h32
        refine wp_skip ?_
        refine s_then ?_
        refine s_seq ?_
        refine s_seq ?_
        refine c_reg ?_
        refine qd rfl rfl rfl (r_fldp (k := 3) rfl Try.underlying71 rfl nz69 rfl) ?_
        refine qd rfl rfl rfl (r_ldp1 (u := v) ag69 rfl ((Pins.of_le hX31.pins hle23) _ _ _ (hbp12 3 _ rfl))) ?_
        refine qd rfl rfl rfl (r_fldp (k := 3) rfl Try.underlying71 rfl nz69 rfl) ?_
        refine qd rfl rfl rfl (r_ldp1 (u := y) ag69 rfl (hX31.pins _ _ _ (hbp25 3 _ rfl))) ?_
        refine q1 rfl rfl rfl (o_call (vs := [v, y]) Try.func107 nm107 rfl rfl rfl ?_)
        refine Calls.mono (eqIntS_spec hX31.pins (hv.mono (Pin.le_trans hle10 hle23)) (hy.mono (Pin.le_trans hle10 hle23))) ?_
        rintro _ w33 ⟨rfl, hx34⟩
        refine ⟨_, rfl, ?_⟩
        have hX35 := hX31.step hx34.pins hx34.below
        refine qd rfl rfl rfl (r_not rfl) ?_
        refine qe ?_
        refine s_then ?_
        refine c_ifn rfl rfl (fun h36 => ?_) (fun h36 => ?_)
        · skip
          replace h36 := of_decide_eq_true h36
          refine wp_skip ?_
          refine s_then ?_
          refine s_seq ?_
          refine c_reg ?_
          refine qd rfl rfl rfl (r_assign (v := (.bool true)) rfl) ?_
          refine qe ?_
          refine s_then ?_
          refine wp_ret ?_
          refine s_ret ?_
          refine c_ret1 (v := (.bool true)) rfl rfl rfl ?_
          exact ⟨_, congrArg (fun z => Ending.returned (Value.bool z)) (decide_eq_true (cl_ext (by first | exact h27 | exact Decidable.not_not.1 h27) (by first | exact h28 | exact Decidable.not_not.1 h28) (by first | exact h32 | exact Decidable.not_not.1 h32) (by first | exact h36 | exact Decidable.not_not.1 h36))).symm, hX35⟩
        · skip
          replace h36 := of_decide_eq_false h36
          refine s_seq ?_
          refine c_reg ?_
          refine qd rfl rfl rfl (r_assign (v := (.bool false)) rfl) ?_
          refine qe ?_
          refine s_then ?_
          refine wp_ret ?_
          refine s_ret ?_
          refine c_ret1 (v := (.bool false)) rfl rfl rfl ?_
          exact ⟨_, congrArg (fun z => Ending.returned (Value.bool z)) (decide_eq_false (fun e => h36 (by rw [e]))).symm, hX35⟩
      · skip
        replace h32 := of_decide_eq_false h32
        refine s_seq ?_
        refine c_reg ?_
        refine qd rfl rfl rfl (r_assign (v := (.bool false)) rfl) ?_
        refine qe ?_
        refine s_then ?_
        refine wp_ret ?_
        refine s_ret ?_
        refine c_ret1 (v := (.bool false)) rfl rfl rfl ?_
        exact ⟨_, congrArg (fun z => Ending.returned (Value.bool z)) (decide_eq_false (fun e => h32 (by rw [e]))).symm, hX31⟩

theorem eqClaimS_spec {w : World} {G : Pin} {u v : Value} {xs ys : List Cl} (hP : Pins G w) (hu : RSl eClaim G u xs) (hv : RSl eClaim G v ys) :
    Calls Try.prog 38 [u, v].toArray w fun e w' => ∃ G', e = .returned (.bool (decide (xs = ys))) ∧ Ext noS G w G' w' := by
  refine s_enter (n := 27) Try.func38 Try.ntmps38 rfl rfl ?_
  have hX0 : Ext noS G w G w := Ext.refl hP
  have hm := hu.max
  refine s_seq ?_
  refine c_reg ?_
  refine qd rfl rfl rfl (r_assign (v := (.bool false)) rfl) ?_
  refine qe ?_
  refine s_then ?_
  refine s_seq ?_
  refine s_seq ?_
  refine c_reg ?_
  refine qd rfl rfl rfl (r_move (v := u) rfl) ?_
  refine qd rfl rfl rfl (run_len Try.underlying36 (v := u) rfl hu) ?_
  refine qd rfl rfl rfl (r_move (v := v) rfl) ?_
  refine qd rfl rfl rfl (run_len Try.underlying36 (v := v) rfl hv) ?_
  refine qd rfl rfl rfl (r_neq rfl rfl) ?_
  refine qe ?_
  refine s_then ?_
  refine c_ifd (p := ((xs.length : Int) : Int) ≠ (ys.length : Int)) rfl rfl (fun h1 => ?_) (fun h1 => ?_)
  · skip
    refine s_seq ?_
    refine c_reg ?_
    refine qd rfl rfl rfl (r_assign (v := (.bool false)) rfl) ?_
    refine qe ?_
    refine s_then ?_
    refine wp_ret ?_
    refine s_ret ?_
    refine c_ret1 (v := (.bool false)) rfl rfl rfl ?_
    exact ⟨_, congrArg (fun z => Ending.returned (Value.bool z)) (decide_eq_false (fun e => h1 (by rw [e]))).symm, hX0⟩
  · skip
    refine wp_skip ?_
    refine s_then ?_
    refine s_seq ?_
    refine s_seq ?_
    refine c_reg ?_
    refine qd rfl rfl rfl (r_assign (v := (.int .i64 0)) rfl) ?_
    refine qe ?_
    refine s_then ?_
    refine s_blk ?_
    refine s_loop (fun (k : Nat) (en : Nat → Value) (W : World) => ∃ (env1 : Nat → Value) (j : Nat) (GL1 : Pin), en = (upd (upd (upd env1 0 u) 1 v) 5 (.int .i64 (j : Int))) ∧ k = xs.length - j ∧ Ext noS G w GL1 W ∧ Pin.le G GL1 ∧ (j ≤ xs.length) ∧ (xs.length = ys.length) ∧ (∀ i, i < j → xs.getD i default = ys.getD i default)) _ ⟨_, 0, G, (packS (x := 5) (packS (x := 1) (pack1 (x := 0) rfl) rfl) rfl), rfl, hX0, Pin.le_refl _, Nat.zero_le _, (by omega), (fun i hi => absurd hi (Nat.not_lt_zero i))⟩ ?_
    rintro k2 _ w3 ⟨env1, j, GL1, rfl, hk4, hX5, hlek2, hj, heq, hp⟩
    refine s_seq ?_
    refine s_seq ?_
    refine c_reg ?_
    refine qd rfl rfl rfl (r_move (v := (.int .i64 (j : Int))) rfl) ?_
    refine qd rfl rfl rfl (r_move (v := u) rfl) ?_
    refine qd rfl rfl rfl (run_len Try.underlying36 (v := u) rfl hu) ?_
    refine qd rfl rfl rfl (r_lss rfl rfl) ?_
    refine qe ?_
    refine s_then ?_
    refine c_ifd (p := ((j : Int) : Int) < (xs.length : Int)) rfl rfl (fun h6 => ?_) (fun h6 => ?_)
    · skip
      refine wp_skip ?_
      refine s_then ?_
      refine s_seq ?_
      refine s_blk ?_
      refine s_seq ?_
      refine c_draw (S := fun w => Pins GL1 w) (last := 10) (by kernel_rfl) rfl ?_
      have hl7 : Below w3.heap.size w3 w3.drew := (Below.refl _ _).drew
      have hp8 := hX5.pins.below hl7
      have hX9 := hX5.step hp8 hl7
      refine dr_take (i := 0) rfl rfl rfl (want_none rfl _) (by kernel_rfl) (fun _ _ => r_move (v := u) rfl) hX9.pins ?_
      refine dr_take (i := 1) rfl rfl rfl (want_none rfl _) (by kernel_rfl) (fun _ _ => r_move (v := (.int .i64 (j : Int))) rfl) hX9.pins ?_
      refine dr_take (i := 2) rfl rfl rfl (want_none rfl _) (by kernel_rfl) (fun _ _ => run_idx Try.underlying36 sz71 (v := u) rfl rfl hu (by omega) (by omega)) hX9.pins ?_
      obtain ⟨cs10, hrep11, hagg12, hcell13⟩ := nm_el (j := j) default (hu.at (z := (j : Int)) (by omega) (by omega)) rfl
      obtain ⟨u14, u16, rfl, hr15, hr17⟩ := hrep11
      have hm18 := hr15.max
      have hm19 := hr17.max
      refine dr_take (i := 3) rfl rfl rfl (want_none rfl _) (by kernel_rfl) (fun _ hS => hagg12 ag71 sz71 rfl (Pins.of_le hS hlek2)) hX9.pins ?_
      refine dr_take (i := 4) rfl rfl rfl (want_none rfl _) (by kernel_rfl) (fun _ _ => r_move (v := v) rfl) hX9.pins ?_
      refine dr_take (i := 5) rfl rfl rfl (want_none rfl _) (by kernel_rfl) (fun _ _ => r_move (v := (.int .i64 (j : Int))) rfl) hX9.pins ?_
      refine dr_take (i := 6) rfl rfl rfl (want_none rfl _) (by kernel_rfl) (fun _ _ => run_idx Try.underlying36 sz71 (v := v) rfl rfl hv (by omega) (by omega)) hX9.pins ?_
      obtain ⟨cs20, hrep21, hagg22, hcell23⟩ := nm_el (j := j) default (hv.at (z := (j : Int)) (by omega) (by omega)) rfl
      obtain ⟨u24, u26, rfl, hr25, hr27⟩ := hrep21
      have hm28 := hr25.max
      have hm29 := hr27.max
      refine dr_take (i := 7) rfl rfl rfl (want_none rfl _) (by kernel_rfl) (fun _ hS => hagg22 ag71 sz71 rfl (Pins.of_le hS hlek2)) hX9.pins ?_
      refine dr_one (i := 8) (by kernel_rfl) (drOp1 (i := 8) rfl rfl rfl (want_none rfl _) (o_call (vs := [(.agg [(.int .i64 ((xs.getD j default).a)), (.int .i64 ((xs.getD j default).b)), u14, u16].toArray), (.agg [(.int .i64 ((ys.getD j default).a)), (.int .i64 ((ys.getD j default).b)), u24, u26].toArray)]) Try.func80 nm80 rfl rfl rfl ?_))
      refine Calls.mono (eqClaim_spec (c := (xs.getD j default)) (d := (ys.getD j default)) hX9.pins (hr15.mono hlek2) (hr17.mono hlek2) (hr25.mono hlek2) (hr27.mono hlek2)) ?_
      rintro _ w31 ⟨G30, rfl, hx32⟩
      refine ⟨_, rfl, ?_⟩
      have hX33 := hX9.tr hx32
      refine ⟨fun _ => (Pins.of_le hX33.pins hx32.le), ?_⟩
      refine dr_take (i := 9) rfl rfl rfl (want_none rfl _) (by kernel_rfl) (fun _ _ => r_not rfl) (Pins.of_le hX33.pins hx32.le) ?_
      refine dr_end (by kernel_rfl) ?_
      refine s_then ?_
      refine c_ifn rfl rfl (fun h34 => ?_) (fun h34 => ?_)
      · skip
        replace h34 := of_decide_eq_true h34
        refine wp_skip ?_
        refine s_blkN ?_
        refine s_then ?_
        refine c_reg ?_
        refine qd rfl rfl rfl (r_move (v := (.int .i64 (j : Int))) rfl) ?_
        refine qd rfl rfl rfl (r_add rfl rfl (by omega)) ?_
        refine qd rfl rfl rfl (r_assign (v := (.int .i64 ((j : Int) + 1))) rfl) ?_
        refine qe ?_
        refine s_lopN ?_
        refine ⟨_, ?_, _, rfl, _, j + 1, G30, (packS (x := 5) (packS (x := 1) (pack1 (x := 0) rfl) rfl) rfl), rfl, hX33, (Pin.le_trans hlek2 hx32.le), (by omega), heq, (eqstepG hp h34)⟩
        omega
      · skip
        replace h34 := of_decide_eq_false h34
        refine s_seq ?_
        refine c_reg ?_
        refine qd rfl rfl rfl (r_assign (v := (.bool false)) rfl) ?_
        refine qe ?_
        refine s_then ?_
        refine wp_ret ?_
        refine s_ret ?_
        refine c_ret1 (v := (.bool false)) rfl rfl rfl ?_
        exact ⟨_, congrArg (fun z => Ending.returned (Value.bool z)) (decide_eq_false (fun e => h34 (by rw [e]))).symm, hX33⟩
    · skip
      refine wp_exit ?_
      refine s_thenE ?_
      refine s_lopE ?_
      refine s_blkE ?_
      refine s_then ?_
      refine s_seq ?_
      refine c_reg ?_
      refine qd rfl rfl rfl (r_assign (v := (.bool true)) rfl) ?_
      refine qe ?_
      refine s_then ?_
      refine wp_ret ?_
      refine s_ret ?_
      refine c_ret1 (v := (.bool true)) rfl rfl rfl ?_
      exact ⟨_, congrArg (fun z => Ending.returned (Value.bool z)) (decide_eq_true (eqdoneG heq (by omega) hp)).symm, hX5⟩

theorem eqProof_spec {w : World} {G : Pin} {u v : Value} {xs ys : List Cl} (hP : Pins G w) (hu : RSl eClaim G u xs) (hv : RSl eClaim G v ys) :
    Calls Try.prog 13 [(.agg [u].toArray), (.agg [v].toArray)].toArray w fun e w' => ∃ G', e = .returned (.bool (decide (xs = ys))) ∧ Ext noS G w G' w' := by
  refine s_enter (n := 11) Try.func13 Try.ntmps13 rfl rfl ?_
  have hX0 : Ext noS G w G w := Ext.refl hP
  refine s_seq ?_
  refine c_reg ?_
  refine q1 rfl rfl rfl (o_box [u] (v := (.agg [u].toArray)) rfl rfl hX0.pins (fun b1 w2 hk3 hb4 hp5 hl6 => ?_))
  have hX7 := hX0.step hp5 hl6
  have hlo8 : w.heap.size ≤ b1 := by have := hX0.size; omega
  obtain ⟨G9, hle10, hX11, hbp12, hf13⟩ := hb4.shut hX7 hlo8
  refine q1 rfl rfl rfl (o_box [v] (v := (.agg [v].toArray)) rfl rfl hX11.pins (fun b14 w15 hk16 hb17 hp18 hl19 => ?_))
  have hX20 := hX11.step hp18 hl19
  have hlo21 : w.heap.size ≤ b14 := by have := hX11.size; omega
  obtain ⟨G22, hle23, hX24, hbp25, hf26⟩ := hb17.shut hX20 hlo21
  refine qd rfl rfl rfl (r_assign (v := (.bool false)) rfl) ?_
  refine qe ?_
  refine s_then ?_
  refine s_seq ?_
  refine s_seq ?_
  refine c_reg ?_
  refine qd rfl rfl rfl (r_fldp (k := 0) rfl Try.underlying38 rfl nz36 rfl) ?_
  refine qd rfl rfl rfl (r_ldp1 (u := u) ag36 rfl ((Pins.of_le hX24.pins hle23) _ _ _ (hbp12 0 _ rfl))) ?_
  refine qd rfl rfl rfl (r_fldp (k := 0) rfl Try.underlying38 rfl nz36 rfl) ?_
  refine qd rfl rfl rfl (r_ldp1 (u := v) ag36 rfl (hX24.pins _ _ _ (hbp25 0 _ rfl))) ?_
  refine q1 rfl rfl rfl (o_call (vs := [u, v]) Try.func38 nm38 rfl rfl rfl ?_)
  refine Calls.mono (eqClaimS_spec hX24.pins (hu.mono (Pin.le_trans hle10 hle23)) (hv.mono (Pin.le_trans hle10 hle23))) ?_
  rintro _ w28 ⟨G27, rfl, hx29⟩
  refine ⟨_, rfl, ?_⟩
  have hX30 := hX24.tr hx29
  refine qd rfl rfl rfl (r_not rfl) ?_
  refine qe ?_
  refine s_then ?_
  refine c_ifn rfl rfl (fun h31 => ?_) (fun h31 => ?_)
  · skip
    replace h31 := of_decide_eq_true h31
    refine wp_skip ?_
    refine s_then ?_
    refine s_seq ?_
    refine c_reg ?_
    refine qd rfl rfl rfl (r_assign (v := (.bool true)) rfl) ?_
    refine qe ?_
    refine s_then ?_
    refine wp_ret ?_
    refine s_ret ?_
    refine c_ret1 (v := (.bool true)) rfl rfl rfl ?_
    exact ⟨_, congrArg (fun z => Ending.returned (Value.bool z)) (decide_eq_true h31).symm, hX30⟩
  · skip
    replace h31 := of_decide_eq_false h31
    refine s_seq ?_
    refine c_reg ?_
    refine qd rfl rfl rfl (r_assign (v := (.bool false)) rfl) ?_
    refine qe ?_
    refine s_then ?_
    refine wp_ret ?_
    refine s_ret ?_
    refine c_ret1 (v := (.bool false)) rfl rfl rfl ?_
    exact ⟨_, congrArg (fun z => Ending.returned (Value.bool z)) (decide_eq_false h31).symm, hX30⟩

end LC1
end Go.Proofs.Ytgnbnieoghnboaa
