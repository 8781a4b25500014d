/- Walks, printed by a program (walkgen.py) from the spec specs_m. -/
import Derived.Test.YtndhhpaldhlghaaDoorChecked
import Derived.Test.YtndhhpaldhlghaaDoorRow
import Derived.Test.YtndhhpaldhlghaaDoorTable
import Derived.Test.YtndhhpaldhlghaaDoorB1
import Derived.Test.YtndhhpaldhlghaaDoorC1
import Derived.Test.YtndhhpaldhlghaaDoorE1
import Derived.Test.YtndhhpaldhlghaaDoorL1
import Derived.Test.YtndhhpaldhlghaaDoorG1
set_option maxRecDepth 20000
set_option maxHeartbeats 2000000
namespace Go.Proofs.YtndhhpaldhlghaaDoor
namespace M1
open Go.RowKit Go.GL Go.Proofs
open Go.Proofs.YtndhhpaldhlghaaDoor.B1
open Go.Proofs.YtndhhpaldhlghaaDoor.C1
open Go.Proofs.YtndhhpaldhlghaaDoor.E1
open Go.Proofs.YtndhhpaldhlghaaDoor.L1
open Go.Proofs.YtndhhpaldhlghaaDoor.G1
theorem ag22 : (Tryd.prog.underlying 22).map aggD = some false := by kernel_rfl
theorem ag24 : (Tryd.prog.underlying 24).map aggD = some true := by kernel_rfl
theorem ag28 : (Tryd.prog.underlying 28).map aggD = some false := by kernel_rfl
theorem ag30 : (Tryd.prog.underlying 30).map aggD = some true := by kernel_rfl
theorem ag38 : (Tryd.prog.underlying 38).map aggD = some false := by kernel_rfl
theorem mk30 : (Tryd.prog.info? 30).map (fun i => (i.size, i.bytes, i.zero)) = some (1, 24, some (.agg #[(.slice none 0 0)])) := by kernel_rfl
theorem nm11 : (Tryd.f11.name == "runtime.NumGoroutine") = false := by kernel_rfl
theorem nm13 : (Tryd.f13.name == "runtime.NumGoroutine") = false := by kernel_rfl
theorem nm25 : (Tryd.f25.name == "runtime.NumGoroutine") = false := by kernel_rfl
theorem nm32 : (Tryd.f32.name == "runtime.NumGoroutine") = false := by kernel_rfl
theorem nm46 : (Tryd.f46.name == "runtime.NumGoroutine") = false := by kernel_rfl
theorem nm9 : (Tryd.f9.name == "runtime.NumGoroutine") = false := by kernel_rfl
theorem nz22 : (Tryd.prog.info? 22).map (·.size == 0) = some false := by kernel_rfl
theorem nz28 : (Tryd.prog.info? 28).map (·.size == 0) = some false := by kernel_rfl
theorem nz38 : (Tryd.prog.info? 38).map (·.size == 0) = some false := by kernel_rfl
theorem sz24 : (Tryd.prog.info? 24).map (·.size) = some 1 := by kernel_rfl
theorem sz30 : (Tryd.prog.info? 30).map (·.size) = some 1 := by kernel_rfl
theorem sz69 : (Tryd.prog.info? 69).map (·.size) = some 2 := by kernel_rfl

theorem szFormT_spec {w : World} {G : Pin} {v : Value} {ns : List Nd} {left : Int} (hP : Pins G w) (hv : RSl eNode G v ns) (hl : 0 ≤ left ∧ left ≤ 1048576) :
    Calls Tryd.prog 9 [(.agg [v].toArray), (.int .i64 left)].toArray w fun e w' => ∃ z G', e = .returned (.int .i64 z) ∧ (z < 0 ∨ 0 ≤ z ∧ z + totN ns ≤ left ∧ Small ns) ∧ Ext noS G w G' w' := by
  refine s_enter (n := 12) Tryd.func9 Tryd.ntmps9 rfl rfl ?_
  have hX0 : Ext noS G w G w := Ext.refl hP
  refine s_seq ?_
  refine c_reg ?_
  refine q1 rfl rfl rfl (o_box [v] (v := (.agg [v].toArray)) rfl rfl hX0.pins (fun b1 w2 hk3 hb4 hp5 hl6 => ?_))
  have hX7 := hX0.step hp5 hl6
  have hlo8 : w.heap.size ≤ b1 := by have := hX0.size; omega
  obtain ⟨G9, hle10, hX11, hbp12, hf13⟩ := hb4.shut hX7 hlo8
  refine qd rfl rfl rfl (r_assign (v := (.int .i64 0)) rfl) ?_
  refine qe ?_
  refine s_then ?_
  refine s_seq ?_
  refine c_reg ?_
  refine qd rfl rfl rfl (r_fldp (k := 0) rfl Tryd.underlying24 rfl nz22 rfl) ?_
  refine qd rfl rfl rfl (r_ldp1 (u := v) ag22 rfl (hX11.pins _ _ _ (hbp12 0 _ rfl))) ?_
  refine qd rfl rfl rfl (r_move (v := (.int .i64 left)) rfl) ?_
  refine q1 rfl rfl rfl (o_call (vs := [v, (.int .i64 left)]) Tryd.func32 nm32 rfl rfl rfl ?_)
  refine Calls.mono (szNodeS_spec hX11.pins (hv.mono hle10) (by omega)) ?_
  rintro _ w15 ⟨G14, rfl, hx16⟩
  refine ⟨_, rfl, ?_⟩
  have hX17 := hX11.tr hx16
  refine qd rfl rfl rfl (r_assign (v := (.int .i64 (szNds ns left))) rfl) ?_
  refine qe ?_
  refine s_then ?_
  refine s_seq ?_
  refine s_seq ?_
  refine c_reg ?_
  refine qd rfl rfl rfl (r_move (v := (.int .i64 (szNds ns left))) rfl) ?_
  refine qd rfl rfl rfl (r_lss rfl rfl) ?_
  refine qe ?_
  refine s_then ?_
  refine c_ifd (p := (szNds ns left : Int) < 0) rfl rfl (fun h18 => ?_) (fun h18 => ?_)
  · skip
    refine s_seq ?_
    refine c_reg ?_
    refine qd rfl rfl rfl (r_assign (v := (.int .i64 (-1))) rfl) ?_
    refine qe ?_
    refine s_then ?_
    refine wp_ret ?_
    refine s_ret ?_
    refine c_ret1 (v := (.int .i64 (-1))) rfl rfl rfl ?_
    exact ⟨_, _, rfl, Or.inl (by omega), hX17⟩
  refine wp_skip ?_
  refine s_then ?_
  refine s_seq ?_
  refine c_reg ?_
  refine qd rfl rfl rfl (r_move (v := (.int .i64 (szNds ns left))) rfl) ?_
  refine qd rfl rfl rfl (r_assign (v := (.int .i64 (szNds ns left))) rfl) ?_
  refine qe ?_
  refine s_then ?_
  refine wp_ret ?_
  refine s_ret ?_
  refine c_ret1 (v := (.int .i64 (szNds ns left))) rfl rfl rfl ?_
  have hzl := szNds_le h18
  have hzt := szNds_tot h18
  exact ⟨_, _, rfl, Or.inr ⟨by omega, by omega, small_le h18 hl.2⟩, hX17⟩

theorem szFormS_spec {w : World} {G : Pin} {v : Value} {fs : List (List Nd)} {left : Int} (hP : Pins G w) (hv : RSl (eSl eNode) G v fs) (hl : 0 ≤ left ∧ left ≤ 1048576) :
    Calls Tryd.prog 18 [v, (.int .i64 left)].toArray w fun e w' => ∃ z G', e = .returned (.int .i64 z) ∧ (z < 0 ∨ 0 ≤ z ∧ z ≤ left ∧ SmallF fs) ∧ Ext noS G w G' w' := by
  refine s_enter (n := 27) Tryd.func18 Tryd.ntmps18 rfl rfl ?_
  have hX0 : Ext noS G w G w := Ext.refl hP
  have hm := hv.max
  have htf := totF_nonneg fs
  refine s_seq ?_
  refine c_reg ?_
  refine qd rfl rfl rfl (r_assign (v := (.int .i64 0)) rfl) ?_
  refine qe ?_
  refine s_then ?_
  refine s_seq ?_
  refine c_reg ?_
  refine qd rfl rfl rfl (r_move (v := (.int .i64 left)) rfl) ?_
  refine qd rfl rfl rfl (r_move (v := v) rfl) ?_
  refine qd rfl rfl rfl (run_len Tryd.underlying36 (v := v) rfl hv) ?_
  refine qd rfl rfl rfl (r_sub rfl rfl (by omega)) ?_
  refine qd rfl rfl rfl (r_assign (v := (.int .i64 (left - (fs.length : Int)))) rfl) ?_
  refine qe ?_
  refine s_then ?_
  refine s_seq ?_
  refine s_seq ?_
  refine c_reg ?_
  refine qd rfl rfl rfl (r_move (v := (.int .i64 (left - (fs.length : Int)))) rfl) ?_
  refine qd rfl rfl rfl (r_lss rfl rfl) ?_
  refine qe ?_
  refine s_then ?_
  refine c_ifd (p := (left - (fs.length : Int) : Int) < 0) rfl rfl (fun h1 => ?_) (fun h1 => ?_)
  · skip
    refine s_seq ?_
    refine c_reg ?_
    refine qd rfl rfl rfl (r_assign (v := (.int .i64 (-1))) rfl) ?_
    refine qe ?_
    refine s_then ?_
    refine wp_ret ?_
    refine s_ret ?_
    refine c_ret1 (v := (.int .i64 (-1))) rfl rfl rfl ?_
    exact ⟨_, _, rfl, Or.inl (by omega), hX0⟩
  refine wp_skip ?_
  refine s_then ?_
  refine s_seq ?_
  refine s_seq ?_
  refine c_reg ?_
  refine qd rfl rfl rfl (r_assign (v := (.int .i64 0)) rfl) ?_
  refine qe ?_
  refine s_then ?_
  refine s_blk ?_
  refine s_loop (fun (k : Nat) (en : Nat → Value) (W : World) => ∃ (env1 : Nat → Value) (j : Nat) (q : Int) (GL1 : Pin), en = (upd (upd (upd env1 0 v) 1 (.int .i64 q)) 5 (.int .i64 (j : Int))) ∧ k = fs.length - j ∧ Ext noS G w GL1 W ∧ Pin.le G GL1 ∧ (j ≤ fs.length) ∧ (0 ≤ q ∧ q ≤ left) ∧ (totF fs + q ≤ totF (fs.drop j) + (left - (fs.length : Int))) ∧ (∀ i, i < j → Small (fs.getD i []))) _ ⟨_, 0, left - (fs.length : Int), G, (packS (x := 5) (packS (x := 1) (pack1 (x := 0) rfl) rfl) rfl), rfl, hX0, Pin.le_refl _, Nat.zero_le _, (by omega), Int.le_refl _, (fun i hi => absurd hi (Nat.not_lt_zero i))⟩ ?_
  rintro k2 _ w3 ⟨env1, j, q, GL1, rfl, hk4, hX5, hlek2, hj, hq, hr, hsm⟩
  refine s_seq ?_
  refine s_seq ?_
  refine c_reg ?_
  refine qd rfl rfl rfl (r_move (v := (.int .i64 (j : Int))) rfl) ?_
  refine qd rfl rfl rfl (r_move (v := v) rfl) ?_
  refine qd rfl rfl rfl (run_len Tryd.underlying36 (v := v) rfl hv) ?_
  refine qd rfl rfl rfl (r_lss rfl rfl) ?_
  refine qe ?_
  refine s_then ?_
  refine c_ifd (p := ((j : Int) : Int) < (fs.length : Int)) rfl rfl (fun h6 => ?_) (fun h6 => ?_)
  · skip
    refine wp_skip ?_
    refine s_then ?_
    refine s_seq ?_
    refine s_blk ?_
    refine s_seq ?_
    refine c_reg ?_
    refine qd rfl rfl rfl (r_move (v := v) rfl) ?_
    refine qd rfl rfl rfl (r_move (v := (.int .i64 (j : Int))) rfl) ?_
    refine qd rfl rfl rfl (run_idx Tryd.underlying36 sz24 (v := v) rfl rfl hv (by omega) (by omega)) ?_
    obtain ⟨u7, hr8, hl9⟩ := nm_form (hv.at (z := (j : Int)) (by omega) (by omega)) (j := j) rfl
    have hm10 := hr8.max
    refine qd rfl rfl rfl (hl9 ag24 sz24 rfl (Pins.of_le hX5.pins hlek2)) ?_
    refine qd rfl rfl rfl (r_move (v := (.int .i64 q)) rfl) ?_
    refine q1 rfl rfl rfl (o_call (vs := [(.agg [u7].toArray), (.int .i64 q)]) Tryd.func9 nm9 rfl rfl rfl ?_)
    refine Calls.mono (szFormT_spec hX5.pins (hr8.mono hlek2) (by omega)) ?_
    rintro _ w13 ⟨z11, G12, rfl, hz14, hx15⟩
    refine ⟨_, rfl, ?_⟩
    have hX16 := hX5.tr hx15
    refine qd rfl rfl rfl (r_assign (v := (.int .i64 z11)) rfl) ?_
    refine qe ?_
    refine s_then ?_
    refine s_seq ?_
    refine c_reg ?_
    refine qd rfl rfl rfl (r_move (v := (.int .i64 z11)) rfl) ?_
    refine qd rfl rfl rfl (r_lss rfl rfl) ?_
    refine qe ?_
    refine s_then ?_
    refine c_ifd (p := (z11 : Int) < 0) rfl rfl (fun h17 => ?_) (fun h17 => ?_)
    · skip
      refine s_seq ?_
      refine c_reg ?_
      refine qd rfl rfl rfl (r_assign (v := (.int .i64 (-1))) rfl) ?_
      refine qe ?_
      refine s_then ?_
      refine wp_ret ?_
      refine s_ret ?_
      refine c_ret1 (v := (.int .i64 (-1))) rfl rfl rfl ?_
      exact ⟨_, _, rfl, Or.inl (by omega), hX16⟩
    refine wp_skip ?_
    refine s_blkN ?_
    refine s_then ?_
    refine c_reg ?_
    refine qd rfl rfl rfl (r_move (v := (.int .i64 (j : Int))) rfl) ?_
    refine qd rfl rfl rfl (r_add rfl rfl (by omega)) ?_
    refine qd rfl rfl rfl (r_assign (v := (.int .i64 ((j : Int) + 1))) rfl) ?_
    refine qe ?_
    refine s_lopN ?_
    have hz1 : 0 ≤ z11 ∧ z11 + totN (fs.getD j []) ≤ q ∧ Small (fs.getD j []) := by rcases hz14 with h | h <;> first | omega | exact h
    refine ⟨_, ?_, _, rfl, _, j + 1, z11, G12, (packS (x := 5) (packS (x := 1) (pack1 (x := 0) rfl) rfl) rfl), rfl, hX16, (Pin.le_trans hlek2 hx15.le), (by omega), ⟨hz1.1, by have := hz1.2.1; have := totN_nonneg (fs.getD j []); omega⟩, (by have := hz1.2.1; have := totF_next (show j < fs.length by omega); omega), (fun i hi => if h3 : i = j then h3 ▸ hz1.2.2 else hsm i (by omega))⟩
    omega
  refine wp_exit ?_
  refine s_thenE ?_
  refine s_lopE ?_
  refine s_blkE ?_
  refine s_then ?_
  refine s_seq ?_
  refine c_reg ?_
  refine qd rfl rfl rfl (r_move (v := (.int .i64 q)) rfl) ?_
  refine qd rfl rfl rfl (r_assign (v := (.int .i64 q)) rfl) ?_
  refine qe ?_
  refine s_then ?_
  refine wp_ret ?_
  refine s_ret ?_
  refine c_ret1 (v := (.int .i64 q)) rfl rfl rfl ?_
  rw [totF_end (by omega)] at hr
  exact ⟨_, _, rfl, Or.inr ⟨hq.1, by omega, ⟨by omega, fun i hi => hsm i (by omega), by omega⟩⟩, hX5⟩

theorem toFormS_dspec {w : World} {G : Pin} {v : Value} {fs : List (List Nd)} (hP : Pins G w) (hv : RSl (eSl eNode) G v fs) (hsf : SmallF fs) :
    Calls Tryd.prog 20 [v].toArray w fun e w' => ∃ (u : Value) (G' : Pin), e = .returned u ∧ DForms 69 30 3 G' w' w.heap.size w'.heap.size u fs ∧ Ext noS G w G' w' := by
  refine s_enter (n := 23) Tryd.func20 Tryd.ntmps20 rfl rfl ?_
  have hX0 : Ext noS G w G w := Ext.refl hP
  have hln := hsf.len
  refine s_seq ?_
  refine c_reg ?_
  refine qd rfl rfl rfl (r_assign (v := (.slice none 0 0)) rfl) ?_
  refine qe ?_
  refine s_then ?_
  refine s_seq ?_
  refine c_reg ?_
  refine qd rfl rfl rfl (r_move (v := v) rfl) ?_
  refine qd rfl rfl rfl (run_len Tryd.underlying36 (v := v) rfl hv) ?_
  refine q1 rfl rfl rfl (o_make (E := eVal) (.slice none 0 0 : Value) 24 (.agg #[(.slice none 0 0)]) Tryd.underlying41 mk30 (fun _ => ⟨rfl, rfl⟩) rfl rfl hX0.pins (by omega) (by omega) (by omega) (fun u1 w2 ho3 hp4 hl5 hk6 => ?_))
  have hX7 := hX0.step hp4 hl5
  have ho8 : Own eVal 30 G w2 w.heap.size u1 (List.replicate fs.length (.slice none 0 0 : Value)) := ho3.weaken hX0.size
  have hm9 : (List.replicate fs.length (.slice none 0 0 : Value)).length = fs.length := List.length_replicate ..
  refine qd rfl rfl rfl (r_assign (v := u1) rfl) ?_
  refine qe ?_
  refine s_then ?_
  refine s_seq ?_
  refine s_seq ?_
  refine c_reg ?_
  refine qd rfl rfl rfl (r_assign (v := (.int .i64 0)) rfl) ?_
  refine qe ?_
  refine s_then ?_
  refine s_blk ?_
  refine s_loop (fun (k : Nat) (en : Nat → Value) (W : World) => ∃ (env1 : Nat → Value) (j : Nat) (os : List Value) (GL1 : Pin), en = (upd (upd (upd (upd env1 0 v) 2 (.slice none 0 0)) 3 u1) 4 (.int .i64 (j : Int))) ∧ k = fs.length - j ∧ Ext noS G w GL1 W ∧ Pin.le G GL1 ∧ (j ≤ fs.length) ∧ (os.length = fs.length) ∧ (DCh 69 3 GL1 W u1.ownBlock w.heap.size W.heap.size (os.take j) (fs.take j)) ∧ (Own eVal 30 GL1 W w.heap.size u1 (os))) _ ⟨_, 0, List.replicate fs.length (.slice none 0 0 : Value), G, (packS (x := 4) (packS (x := 3) (packS (x := 2) (pack1 (x := 0) rfl) rfl) rfl) rfl), rfl, hX7, Pin.le_refl _, Nat.zero_le _, (by simp), hX7.size, ho8⟩ ?_
  rintro k10 _ w11 ⟨env1, j, os, GL1, rfl, hk12, hX13, hlek10, hj, hol, hch, hw14⟩
  refine s_seq ?_
  refine s_seq ?_
  refine c_reg ?_
  refine qd rfl rfl rfl (r_move (v := (.int .i64 (j : Int))) rfl) ?_
  refine qd rfl rfl rfl (r_move (v := v) rfl) ?_
  refine qd rfl rfl rfl (run_len Tryd.underlying36 (v := v) rfl hv) ?_
  refine qd rfl rfl rfl (r_lss rfl rfl) ?_
  refine qe ?_
  refine s_then ?_
  refine c_ifd (p := ((j : Int) : Int) < (fs.length : Int)) rfl rfl (fun h15 => ?_) (fun h15 => ?_)
  · skip
    have hso := hsf.small j (by omega)
    refine wp_skip ?_
    refine s_then ?_
    refine s_seq ?_
    refine s_blk ?_
    refine c_reg ?_
    refine qd rfl rfl rfl (r_move (v := u1) rfl) ?_
    refine qd rfl rfl rfl (r_move (v := (.int .i64 (j : Int))) rfl) ?_
    refine qd rfl rfl rfl (r_move (v := v) rfl) ?_
    refine qd rfl rfl rfl (r_move (v := (.int .i64 (j : Int))) rfl) ?_
    refine qd rfl rfl rfl (run_idx Tryd.underlying36 sz24 (v := v) rfl rfl hv (by omega) (by omega)) ?_
    obtain ⟨u16, hr17, hl18⟩ := nm_form (hv.at (z := (j : Int)) (by omega) (by omega)) (j := j) rfl
    have hm19 := hr17.max
    refine qd rfl rfl rfl (hl18 ag24 sz24 rfl (Pins.of_le hX13.pins hlek10)) ?_
    refine q1 rfl rfl rfl (o_call (vs := [(.agg [u16].toArray)]) Tryd.func11 nm11 rfl rfl rfl ?_)
    refine Calls.mono (toForm_dspec hX13.pins (hr17.mono hlek10) hso) ?_
    rintro _ w22 ⟨u20, G21, rfl, hd23, hx24⟩
    refine ⟨_, rfl, ?_⟩
    have ha25 : ∀ b, u1.ownBlock = some b → w22.heap.size ≤ b ∨ b < w11.heap.size := fun b hb => Or.inr (hw14.lt b hb).2
    have hX26 := hX13.tr hx24
    have ho27 := hw14.ext hx24
    have hd28 := hch.ext hx24
    have hs29 := Nat.le_trans (Nat.le_refl w11.heap.size) hx24.size
    have hone30 := hd23.one
    refine qd rfl rfl rfl (run_idx Tryd.underlying41 sz30 (v := u1) rfl rfl ho27.read (by omega) (by omega)) ?_
    refine q0 rfl rfl rfl (o_set (E := eVal) (v := u1) (u := (.agg [u20].toArray)) (z := (j : Int)) (u20) sz30 rfl rfl rfl ⟨rfl, hone30⟩ hX26.pins ho27 (by omega) (by omega) (fun w31 ho32 hp33 hg34 hz35 => ?_))
    have hX36 := hX26.write hp33 hg34 ((lo_own ho27))
    have hd37 := hd28.keptR hg34
    have hs38 := Nat.le_trans hs29 hg34.size
    have hd39 := hd23.keptO hg34 ha25
    have hs40 := Nat.le_trans (Nat.le_refl w22.heap.size) hg34.size
    refine qe ?_
    refine s_blkN ?_
    refine s_then ?_
    refine c_reg ?_
    refine qd rfl rfl rfl (r_move (v := (.int .i64 (j : Int))) rfl) ?_
    refine qd rfl rfl rfl (r_add rfl rfl (by omega)) ?_
    refine qd rfl rfl rfl (r_assign (v := (.int .i64 ((j : Int) + 1))) rfl) ?_
    refine qe ?_
    refine s_lopN ?_
    refine ⟨_, ?_, _, rfl, _, j + 1, os.set j u20, G21, (packS (x := 4) (packS (x := 3) (packS (x := 2) (pack1 (x := 0) rfl) rfl) rfl) rfl), rfl, hX36, (Pin.le_trans hlek10 hx24.le), (by omega), ((List.length_set ..).trans hol), (by rw [set_take hol (by omega), take_snoc fs [] (by omega)]; exact (hd37.snoc hd39 (Nat.le_refl _) hx24.size ha25).top hs40), ho32⟩
    omega
  refine wp_exit ?_
  refine s_thenE ?_
  refine s_lopE ?_
  refine s_blkE ?_
  refine s_then ?_
  refine s_seq ?_
  refine c_reg ?_
  refine qd rfl rfl rfl (r_move (v := u1) rfl) ?_
  refine qd rfl rfl rfl (r_assign (v := u1) rfl) ?_
  refine qe ?_
  refine s_then ?_
  refine wp_ret ?_
  refine s_ret ?_
  refine c_ret1 (v := u1) rfl rfl rfl ?_
  have hcc := hch
  rw [take_all (by omega), take_all (by omega)] at hcc
  exact ⟨_, _, rfl, ⟨os, hw14, fun k hk => (hw14.lt k hk).2, hcc⟩, hX13⟩

theorem eqFormS_spec {w : World} {G : Pin} {u v : Value} {xs ys : List (List Nd)} (hP : Pins G w) (hu : RSl (eSl eNode) G u xs) (hv : RSl (eSl eNode) G v ys) :
    Calls Tryd.prog 23 [u, v].toArray w fun e w' => ∃ G', e = .returned (.bool (decide (xs = ys))) ∧ Ext noS G w G' w' := by
  refine s_enter (n := 27) Tryd.func23 Tryd.ntmps23 rfl rfl ?_
  have hX0 : Ext noS G w G w := Ext.refl hP
  have hm := hu.max
  refine s_seq ?_
  refine c_reg ?_
  refine qd rfl rfl rfl (r_assign (v := (.bool false)) rfl) ?_
  refine qe ?_
  refine s_then ?_
  refine s_seq ?_
  refine s_seq ?_
  refine c_reg ?_
  refine qd rfl rfl rfl (r_move (v := u) rfl) ?_
  refine qd rfl rfl rfl (run_len Tryd.underlying41 (v := u) rfl hu) ?_
  refine qd rfl rfl rfl (r_move (v := v) rfl) ?_
  refine qd rfl rfl rfl (run_len Tryd.underlying41 (v := v) rfl hv) ?_
  refine qd rfl rfl rfl (r_neq rfl rfl) ?_
  refine qe ?_
  refine s_then ?_
  refine c_ifd (p := ((xs.length : Int) : Int) ≠ (ys.length : Int)) rfl rfl (fun h1 => ?_) (fun h1 => ?_)
  · skip
    refine s_seq ?_
    refine c_reg ?_
    refine qd rfl rfl rfl (r_assign (v := (.bool false)) rfl) ?_
    refine qe ?_
    refine s_then ?_
    refine wp_ret ?_
    refine s_ret ?_
    refine c_ret1 (v := (.bool false)) rfl rfl rfl ?_
    exact ⟨_, congrArg (fun z => Ending.returned (Value.bool z)) (decide_eq_false (fun e => h1 (by rw [e]))).symm, hX0⟩
  refine wp_skip ?_
  refine s_then ?_
  refine s_seq ?_
  refine s_seq ?_
  refine c_reg ?_
  refine qd rfl rfl rfl (r_assign (v := (.int .i64 0)) rfl) ?_
  refine qe ?_
  refine s_then ?_
  refine s_blk ?_
  refine s_loop (fun (k : Nat) (en : Nat → Value) (W : World) => ∃ (env1 : Nat → Value) (j : Nat) (GL1 : Pin), en = (upd (upd (upd env1 0 u) 1 v) 5 (.int .i64 (j : Int))) ∧ k = xs.length - j ∧ Ext noS G w GL1 W ∧ Pin.le G GL1 ∧ (j ≤ xs.length) ∧ (xs.length = ys.length) ∧ (∀ i, i < j → xs.getD i [] = ys.getD i [])) _ ⟨_, 0, G, (packS (x := 5) (packS (x := 1) (pack1 (x := 0) rfl) rfl) rfl), rfl, hX0, Pin.le_refl _, Nat.zero_le _, (by omega), (fun i hi => absurd hi (Nat.not_lt_zero i))⟩ ?_
  rintro k2 _ w3 ⟨env1, j, GL1, rfl, hk4, hX5, hlek2, hj, heq, hp⟩
  refine s_seq ?_
  refine s_seq ?_
  refine c_reg ?_
  refine qd rfl rfl rfl (r_move (v := (.int .i64 (j : Int))) rfl) ?_
  refine qd rfl rfl rfl (r_move (v := u) rfl) ?_
  refine qd rfl rfl rfl (run_len Tryd.underlying41 (v := u) rfl hu) ?_
  refine qd rfl rfl rfl (r_lss rfl rfl) ?_
  refine qe ?_
  refine s_then ?_
  refine c_ifd (p := ((j : Int) : Int) < (xs.length : Int)) rfl rfl (fun h6 => ?_) (fun h6 => ?_)
  · skip
    refine wp_skip ?_
    refine s_then ?_
    refine s_seq ?_
    refine s_blk ?_
    refine s_seq ?_
    refine c_draw (S := fun wz => Pins GL1 wz) (last := 10) (by kernel_rfl) rfl ?_
    have hl7 : Below w3.heap.size w3 w3.drew := (Below.refl _ _).drew
    have hp8 := hX5.pins.below hl7
    have hX9 := hX5.step hp8 hl7
    refine dr_take (i := 0) rfl rfl rfl (want_none rfl _) (by kernel_rfl) (fun _ _ => r_move (v := u) rfl) hX9.pins ?_
    refine dr_take (i := 1) rfl rfl rfl (want_none rfl _) (by kernel_rfl) (fun _ _ => r_move (v := (.int .i64 (j : Int))) rfl) hX9.pins ?_
    refine dr_take (i := 2) rfl rfl rfl (want_none rfl _) (by kernel_rfl) (fun _ _ => run_idx Tryd.underlying41 sz30 (v := u) rfl rfl hu (by omega) (by omega)) hX9.pins ?_
    obtain ⟨u10, hr11, hl12⟩ := nm_form (hu.at (z := (j : Int)) (by omega) (by omega)) (j := j) rfl
    have hm13 := hr11.max
    refine dr_take (i := 3) rfl rfl rfl (want_none rfl _) (by kernel_rfl) (fun _ hS => hl12 ag30 sz30 rfl (Pins.of_le hS hlek2)) hX9.pins ?_
    refine dr_take (i := 4) rfl rfl rfl (want_none rfl _) (by kernel_rfl) (fun _ _ => r_move (v := v) rfl) hX9.pins ?_
    refine dr_take (i := 5) rfl rfl rfl (want_none rfl _) (by kernel_rfl) (fun _ _ => r_move (v := (.int .i64 (j : Int))) rfl) hX9.pins ?_
    refine dr_take (i := 6) rfl rfl rfl (want_none rfl _) (by kernel_rfl) (fun _ _ => run_idx Tryd.underlying41 sz30 (v := v) rfl rfl hv (by omega) (by omega)) hX9.pins ?_
    obtain ⟨u14, hr15, hl16⟩ := nm_form (hv.at (z := (j : Int)) (by omega) (by omega)) (j := j) rfl
    have hm17 := hr15.max
    refine dr_take (i := 7) rfl rfl rfl (want_none rfl _) (by kernel_rfl) (fun _ hS => hl16 ag30 sz30 rfl (Pins.of_le hS hlek2)) hX9.pins ?_
    refine dr_one (i := 8) (by kernel_rfl) (drOp1 (i := 8) rfl rfl rfl (want_none rfl _) (o_call (vs := [(.agg [u10].toArray), (.agg [u14].toArray)]) Tryd.func13 nm13 rfl rfl rfl ?_))
    refine Calls.mono (eqForm_spec hX9.pins (hr11.mono hlek2) (hr15.mono hlek2)) ?_
    rintro _ w19 ⟨G18, rfl, hx20⟩
    refine ⟨_, rfl, ?_⟩
    have hX21 := hX9.tr hx20
    refine ⟨fun _ => (Pins.of_le hX21.pins hx20.le), ?_⟩
    refine dr_take (i := 9) rfl rfl rfl (want_none rfl _) (by kernel_rfl) (fun _ _ => r_not rfl) (Pins.of_le hX21.pins hx20.le) ?_
    refine dr_end (by kernel_rfl) ?_
    refine s_then ?_
    refine c_ifn rfl rfl (fun h22 => ?_) (fun h22 => ?_)
    · skip
      replace h22 := of_decide_eq_true h22
      refine wp_skip ?_
      refine s_blkN ?_
      refine s_then ?_
      refine c_reg ?_
      refine qd rfl rfl rfl (r_move (v := (.int .i64 (j : Int))) rfl) ?_
      refine qd rfl rfl rfl (r_add rfl rfl (by omega)) ?_
      refine qd rfl rfl rfl (r_assign (v := (.int .i64 ((j : Int) + 1))) rfl) ?_
      refine qe ?_
      refine s_lopN ?_
      refine ⟨_, ?_, _, rfl, _, j + 1, G18, (packS (x := 5) (packS (x := 1) (pack1 (x := 0) rfl) rfl) rfl), rfl, hX21, (Pin.le_trans hlek2 hx20.le), (by omega), heq, (eqstepG hp h22)⟩
      omega
    replace h22 := of_decide_eq_false h22
    refine s_seq ?_
    refine c_reg ?_
    refine qd rfl rfl rfl (r_assign (v := (.bool false)) rfl) ?_
    refine qe ?_
    refine s_then ?_
    refine wp_ret ?_
    refine s_ret ?_
    refine c_ret1 (v := (.bool false)) rfl rfl rfl ?_
    exact ⟨_, congrArg (fun z => Ending.returned (Value.bool z)) (decide_eq_false (fun e => h22 (by rw [e]))).symm, hX21⟩
  refine wp_exit ?_
  refine s_thenE ?_
  refine s_lopE ?_
  refine s_blkE ?_
  refine s_then ?_
  refine s_seq ?_
  refine c_reg ?_
  refine qd rfl rfl rfl (r_assign (v := (.bool true)) rfl) ?_
  refine qe ?_
  refine s_then ?_
  refine wp_ret ?_
  refine s_ret ?_
  refine c_ret1 (v := (.bool true)) rfl rfl rfl ?_
  exact ⟨_, congrArg (fun z => Ending.returned (Value.bool z)) (decide_eq_true (eqdoneG heq (by omega) hp)).symm, hX5⟩

theorem markNodeX_spec {w : World} {G : Pin} {v : Value} {ps : List (Value × Value)} {ns : List Nd} {kz : Int} {lo hi : Nat} (hP : Pins G w) (ho : Own eVal2 69 G w 0 v ps) (hpl : ps.length = ns.length) (hav : ∀ u ∈ leafV ps, Apart u.ownBlock v.ownBlock) (hF : Lvs 3 G w lo hi (lvN ps ns)) (hsm : Small ns) (hk : 0 ≤ kz ∧ kz ≤ 1099511627776) :
    Calls Tryd.prog 46 [v, (.int .i64 kz)].toArray w fun e w' => e = .returned (.int .i64 (kz + totN ns)) ∧ Lvs 3 G w' lo hi (lvN ps (markN kz ns)) ∧ Ext (inV (leafV ps)) G w G w' := by
  refine s_enter (n := 27) Tryd.func46 Tryd.ntmps46 rfl rfl ?_
  have hX0 : Ext (inV (leafV ps)) G w G w := Ext.refl hP
  have hln := hsm.len
  refine s_seq ?_
  refine c_reg ?_
  refine qd rfl rfl rfl (r_assign (v := (.int .i64 0)) rfl) ?_
  refine qe ?_
  refine s_then ?_
  refine s_seq ?_
  refine s_seq ?_
  refine c_reg ?_
  refine qd rfl rfl rfl (r_assign (v := (.int .i64 0)) rfl) ?_
  refine qe ?_
  refine s_then ?_
  refine s_blk ?_
  refine s_loop (fun (k : Nat) (en : Nat → Value) (W : World) => ∃ (env1 : Nat → Value) (j : Nat) (q : Int) (A : List Leaf), en = (upd (upd (upd (upd env1 0 v) 1 (.int .i64 q)) 4 (.int .i64 0)) 5 (.int .i64 (j : Int))) ∧ k = ps.length - j ∧ Ext (inV (leafV ps)) G w G W ∧ (j ≤ ps.length) ∧ (0 ≤ q ∧ q ≤ kz + 2097152 * (j : Int)) ∧ (kz + totN ns = q + totN (ns.drop j)) ∧ (lvN ps (markN kz ns) = A ++ lvN (ps.drop j) (markN q (ns.drop j))) ∧ (Lvs 3 G W lo hi (A ++ lvN (ps.drop j) (ns.drop j))) ∧ (Own eVal2 69 G W 0 v (ps))) _ ⟨_, 0, kz, [], (packS (x := 5) (packS (x := 4) (packS (x := 1) (pack1 (x := 0) rfl) rfl) rfl) rfl), rfl, hX0, Nat.zero_le _, (by omega), rfl, rfl, hF, ho⟩ ?_
  rintro k1 _ w2 ⟨env1, j, q, A, rfl, hk3, hX4, hj, hq, hqt, hA, hF1, hw5⟩
  refine s_seq ?_
  refine s_seq ?_
  refine c_reg ?_
  refine qd rfl rfl rfl (r_move (v := (.int .i64 (j : Int))) rfl) ?_
  refine qd rfl rfl rfl (r_move (v := v) rfl) ?_
  refine qd rfl rfl rfl (run_len Tryd.underlying28 (v := v) rfl hw5.read) ?_
  refine qd rfl rfl rfl (r_lss rfl rfl) ?_
  refine qe ?_
  refine s_then ?_
  refine c_ifd (p := ((j : Int) : Int) < (ps.length : Int)) rfl rfl (fun h6 => ?_) (fun h6 => ?_)
  · skip
    have hso := hsm.opts j (by omega)
    refine wp_skip ?_
    refine s_then ?_
    refine s_seq ?_
    refine s_blk ?_
    refine s_seq ?_
    refine c_reg ?_
    refine qd rfl rfl rfl (r_move (v := v) rfl) ?_
    refine qd rfl rfl rfl (r_move (v := (.int .i64 (j : Int))) rfl) ?_
    refine qd rfl rfl rfl (run_idx Tryd.underlying28 sz69 (v := v) rfl rfl hw5.read (by omega) (by omega)) ?_
    refine qd rfl rfl rfl (run_fld (off := 0) Tryd.underlying69 rfl rfl nz38 (z := (j : Int)) (k := 0) rfl hw5.read (by omega) (by omega)) ?_
    obtain ⟨cs7, hrep8, hagg9, hcell10⟩ := nm_el (j := j) default (hw5.at (z := (j : Int)) (by omega) (by omega)) rfl
    obtain ⟨rfl, hone13⟩ := hrep8
    obtain ⟨u11, hu12⟩ : ∃ u, u = (ps.getD j default).1 := ⟨_, rfl⟩
    refine qd rfl rfl rfl (hcell10 0 u11 (by rw [hu12]; rfl) ag38 rfl (Gadd.pins hX4.pins v)) ?_
    refine qd rfl rfl rfl (r_move (v := (.int .i64 q)) rfl) ?_
    have hmem17 : u11 ∈ leafV ps := by rw [hu12]; exact (leafV_mem (by omega)).1
    have hL18 : Lvs 3 G w2 lo hi (A ++ (u11, (ns.getD j default).l) :: (((ps.getD j default).2, (ns.getD j default).r) :: lvN (ps.drop (j + 1)) (ns.drop (j + 1)))) := by rw [hu12, ← lvN_next (by omega) (by omega)]; exact hF1
    refine q1 rfl rfl rfl (o_call (vs := [u11, (.int .i64 q)]) Tryd.func25 nm25 rfl rfl rfl ?_)
    refine Calls.mono (markIntS_spec hX4.pins ((hL18.own _ (List.mem_append_right _ List.mem_cons_self)).weaken (Nat.zero_le _)) (by omega) (hso.1)) ?_
    rintro _ w14 ⟨rfl, ho15, hx16⟩
    refine ⟨_, rfl, ?_⟩
    have hg20 := mark_grown hx16
    have hX21 := hX4.write hx16.pins hg20 (fun k hk => Or.inr ⟨_, hmem17, hk⟩)
    have ho22 := hw5.keptA hg20 (hav _ hmem17).symm
    have hL19 := Lvs.step hL18 (ho15.up (fun k hk => ((hL18.own _ (List.mem_append_right _ List.mem_cons_self)).lt k hk).1)) hg20
    refine qd rfl rfl rfl (r_assign (v := (.int .i64 (q + ((ns.getD j default).l.length : Int)))) rfl) ?_
    refine qe ?_
    refine s_then ?_
    refine c_reg ?_
    refine qd rfl rfl rfl (r_move (v := v) rfl) ?_
    refine qd rfl rfl rfl (r_move (v := (.int .i64 (j : Int))) rfl) ?_
    refine qd rfl rfl rfl (run_idx Tryd.underlying28 sz69 (v := v) rfl rfl ho22.read (by omega) (by omega)) ?_
    refine qd rfl rfl rfl (run_fld (off := 1) Tryd.underlying69 rfl rfl nz38 (z := (j : Int)) (k := 0) rfl ho22.read (by omega) (by omega)) ?_
    obtain ⟨cs23, hrep24, hagg25, hcell26⟩ := nm_el (j := j) default (ho22.at (z := (j : Int)) (by omega) (by omega)) rfl
    obtain ⟨rfl, hone29⟩ := hrep24
    obtain ⟨u27, hu28⟩ : ∃ u, u = (ps.getD j default).2 := ⟨_, rfl⟩
    refine qd rfl rfl rfl (hcell26 1 u27 (by rw [hu28]; rfl) ag38 rfl (Gadd.pins hX21.pins v)) ?_
    refine qd rfl rfl rfl (r_move (v := (.int .i64 (q + ((ns.getD j default).l.length : Int)))) rfl) ?_
    have hmem33 : u27 ∈ leafV ps := by rw [hu28]; exact (leafV_mem (by omega)).2
    have hL34 : Lvs 3 G w14 lo hi ((A ++ [(u11, upL (q) (ns.getD j default).l.length)]) ++ (u27, (ns.getD j default).r) :: lvN (ps.drop (j + 1)) (ns.drop (j + 1))) := by rw [hu28, List.append_assoc]; exact hL19
    refine q1 rfl rfl rfl (o_call (vs := [u27, (.int .i64 (q + ((ns.getD j default).l.length : Int)))]) Tryd.func25 nm25 rfl rfl rfl ?_)
    refine Calls.mono (markIntS_spec hX21.pins ((hL34.own _ (List.mem_append_right _ List.mem_cons_self)).weaken (Nat.zero_le _)) (by omega) (hso.2)) ?_
    rintro _ w30 ⟨rfl, ho31, hx32⟩
    refine ⟨_, rfl, ?_⟩
    have hg36 := mark_grown hx32
    have hX37 := hX21.write hx32.pins hg36 (fun k hk => Or.inr ⟨_, hmem33, hk⟩)
    have ho38 := ho22.keptA hg36 (hav _ hmem33).symm
    have hL35 := Lvs.step hL34 (ho31.up (fun k hk => ((hL34.own _ (List.mem_append_right _ List.mem_cons_self)).lt k hk).1)) hg36
    refine qd rfl rfl rfl (r_assign (v := (.int .i64 ((q + ((ns.getD j default).l.length : Int)) + ((ns.getD j default).r.length : Int)))) rfl) ?_
    refine qe ?_
    refine s_blkN ?_
    refine s_then ?_
    refine c_reg ?_
    refine qd rfl rfl rfl (r_move (v := (.int .i64 (j : Int))) rfl) ?_
    refine qd rfl rfl rfl (r_add rfl rfl (by omega)) ?_
    refine qd rfl rfl rfl (r_assign (v := (.int .i64 ((j : Int) + 1))) rfl) ?_
    refine qe ?_
    refine s_lopN ?_
    refine ⟨_, ?_, _, rfl, _, j + 1, (q + ((ns.getD j default).l.length : Int)) + ((ns.getD j default).r.length : Int), A ++ [(u11, upL (q) (ns.getD j default).l.length)] ++ [(u27, upL (q + ((ns.getD j default).l.length : Int)) (ns.getD j default).r.length)], (packS (x := 5) (packS (x := 4) (packS (x := 1) (pack1 (x := 0) rfl) rfl) rfl) rfl), rfl, hX37, (by omega), (by omega), (hqt.trans (by rw [totN_next (by omega)]; omega)), (hA.trans (by rw [lvN_markN (by omega) (by omega), List.append_assoc, List.append_assoc, ← hu12, ← hu28]; rfl)), (by rw [List.append_assoc]; exact hL35), ho38⟩
    omega
  refine wp_exit ?_
  refine s_thenE ?_
  refine s_lopE ?_
  refine s_blkE ?_
  refine s_then ?_
  refine s_seq ?_
  refine c_reg ?_
  refine qd rfl rfl rfl (r_move (v := (.int .i64 q)) rfl) ?_
  refine qd rfl rfl rfl (r_assign (v := (.int .i64 q)) rfl) ?_
  refine qe ?_
  refine s_then ?_
  refine wp_ret ?_
  refine s_ret ?_
  refine c_ret1 (v := (.int .i64 q)) rfl rfl rfl ?_
  rw [lvN_end (by omega), List.append_nil] at hA
  rw [lvN_end (by omega), List.append_nil] at hF1
  exact ⟨congrArg (fun z => Ending.returned (Value.int .i64 z)) (by rw [hqt, totN_end (by omega)]; omega), (by rw [hA]; exact hF1), hX4⟩

theorem markFormS_spec {w : World} {G : Pin} {v : Value} {us : List Value} {fs : List (List Nd)} {kz : Int} {lo hi : Nat} (hP : Pins G w) (ho : Own eVal 30 G w 0 v us) (hC : DCh 69 3 G w v.ownBlock lo hi us fs) (hsf : SmallF fs) (hk : 0 ≤ kz ∧ kz ≤ 1073741824) :
    Calls Tryd.prog 24 [v, (.int .i64 kz)].toArray w fun e w' => e = .returned (.int .i64 (kz + totF fs)) ∧ DCh 69 3 G w' v.ownBlock lo hi us (markF kz fs) ∧ Ext (inNR v.ownBlock lo hi) G w G w' := by
  refine s_enter (n := 20) Tryd.func24 Tryd.ntmps24 rfl rfl ?_
  have hX0 : Ext (inNR v.ownBlock lo hi) G w G w := Ext.refl hP
  have hln := hsf.len
  have hul := hC.len
  have htn := totF_nonneg fs
  have htt := hsf.tot
  refine s_seq ?_
  refine c_reg ?_
  refine qd rfl rfl rfl (r_assign (v := (.int .i64 0)) rfl) ?_
  refine qe ?_
  refine s_then ?_
  refine s_seq ?_
  refine s_seq ?_
  refine c_reg ?_
  refine qd rfl rfl rfl (r_assign (v := (.int .i64 0)) rfl) ?_
  refine qe ?_
  refine s_then ?_
  refine s_blk ?_
  refine s_loop (fun (k : Nat) (en : Nat → Value) (W : World) => ∃ (env1 : Nat → Value) (j : Nat) (q : Int), en = (upd (upd (upd (upd env1 0 v) 1 (.int .i64 q)) 4 (.int .i64 0)) 5 (.int .i64 (j : Int))) ∧ k = us.length - j ∧ Ext (inNR v.ownBlock lo hi) G w G W ∧ (j ≤ us.length) ∧ (0 ≤ q) ∧ (kz + totF fs = q + totF (fs.drop j)) ∧ (markF kz fs).drop j = markF q (fs.drop j) ∧ (DCh 69 3 G W v.ownBlock lo hi us ((markF kz fs).take j ++ fs.drop j)) ∧ (Own eVal 30 G W 0 v (us))) _ ⟨_, 0, kz, (packS (x := 5) (packS (x := 4) (packS (x := 1) (pack1 (x := 0) rfl) rfl) rfl) rfl), rfl, hX0, Nat.zero_le _, hk.1, rfl, rfl, hC, ho⟩ ?_
  rintro k1 _ w2 ⟨env1, j, q, rfl, hk3, hX4, hj, hq, hqt, hA, hC1, hw5⟩
  refine s_seq ?_
  refine s_seq ?_
  refine c_reg ?_
  refine qd rfl rfl rfl (r_move (v := (.int .i64 (j : Int))) rfl) ?_
  refine qd rfl rfl rfl (r_move (v := v) rfl) ?_
  refine qd rfl rfl rfl (run_len Tryd.underlying41 (v := v) rfl hw5.read) ?_
  refine qd rfl rfl rfl (r_lss rfl rfl) ?_
  refine qe ?_
  refine s_then ?_
  refine c_ifd (p := ((j : Int) : Int) < (us.length : Int)) rfl rfl (fun h6 => ?_) (fun h6 => ?_)
  · skip
    have hsj := hsf.small j (by omega)
    have htd := totF_nonneg (fs.drop j)
    have htj := totN_nonneg (fs.getD j [])
    have hAj := markF_at (show j < fs.length by omega) hA
    refine wp_skip ?_
    refine s_then ?_
    refine s_seq ?_
    refine s_blk ?_
    refine c_reg ?_
    refine qd rfl rfl rfl (r_move (v := v) rfl) ?_
    refine qd rfl rfl rfl (r_move (v := (.int .i64 (j : Int))) rfl) ?_
    refine qd rfl rfl rfl (run_idx Tryd.underlying41 sz30 (v := v) rfl rfl hw5.read (by omega) (by omega)) ?_
    refine qd rfl rfl rfl (run_fld (off := 0) Tryd.underlying30 rfl rfl nz28 (z := (j : Int)) (k := 0) rfl hw5.read (by omega) (by omega)) ?_
    obtain ⟨cs7, hrep8, hagg9, hcell10⟩ := nm_el (j := j) default (hw5.at (z := (j : Int)) (by omega) (by omega)) rfl
    obtain ⟨rfl, hone13⟩ := hrep8
    obtain ⟨u11, hu12⟩ : ∃ u, u = (us.getD j default) := ⟨_, rfl⟩
    refine qd rfl rfl rfl (hcell10 0 u11 (by rw [hu12]; rfl) ag28 rfl (Gadd.pins hX4.pins v)) ?_
    refine qd rfl rfl rfl (r_move (v := (.int .i64 q)) rfl) ?_
    have hcl : j < ((markF kz fs).take j ++ fs.drop j).length := by simp [markF_length]; omega
    obtain ⟨l14, m15, hll16, hmm17, hrr18, hd19, hst20⟩ := hC1.at hcl
    rw [cur_at [] (markF_length kz fs) (by omega), ← hu12] at hd19
    obtain ⟨ps21, ho22, hpl23, hav24, hL25, hin26, hst27⟩ := hd19.mark
    refine q1 rfl rfl rfl (o_call (vs := [u11, (.int .i64 q)]) Tryd.func46 nm46 rfl rfl rfl ?_)
    refine Calls.mono (markNodeX_spec hX4.pins ho22 hpl23 hav24 hL25 hsj (by omega)) ?_
    rintro _ w28 ⟨rfl, hL29, hx30⟩
    refine ⟨_, rfl, ?_⟩
    have hd31 := hst27 (markN_length _ _) hL29 hx30
    rw [hu12] at hd31
    have hC32 := hst20 (hx30.back hin26) hd31
    have hX33 := hX4.trans hx30 (fun i hi => Or.inr ⟨Nat.le_trans hll16 (hin26 i hi).1, Nat.lt_of_lt_of_le (hin26 i hi).2 hmm17, fun e => by have h1 := hin26 i hi; have h2 := hrr18 i e; have := h1.1; have := h1.2; omega⟩)
    have ho34 := hw5.extS (hx30.back hin26) (fun k hk hS => by have h2 := hrr18 k hk; have := hS.1; have := hS.2; omega)
    refine qd rfl rfl rfl (r_assign (v := (.int .i64 (q + totN (fs.getD j [])))) rfl) ?_
    refine qe ?_
    refine s_blkN ?_
    refine s_then ?_
    refine c_reg ?_
    refine qd rfl rfl rfl (r_move (v := (.int .i64 (j : Int))) rfl) ?_
    refine qd rfl rfl rfl (r_add rfl rfl (by omega)) ?_
    refine qd rfl rfl rfl (r_assign (v := (.int .i64 ((j : Int) + 1))) rfl) ?_
    refine qe ?_
    refine s_lopN ?_
    refine ⟨_, ?_, _, rfl, _, j + 1, q + totN (fs.getD j []), (packS (x := 5) (packS (x := 4) (packS (x := 1) (pack1 (x := 0) rfl) rfl) rfl) rfl), rfl, hX33, (by omega), (by omega), (hqt.trans (by rw [totF_next (show j < fs.length by omega)]; omega)), hAj.2, (by rw [← cur_set [] (markF_length kz fs) (by omega) hAj.1]; exact hC32), ho34⟩
    omega
  refine wp_exit ?_
  refine s_thenE ?_
  refine s_lopE ?_
  refine s_blkE ?_
  refine s_then ?_
  refine s_seq ?_
  refine c_reg ?_
  refine qd rfl rfl rfl (r_move (v := (.int .i64 q)) rfl) ?_
  refine qd rfl rfl rfl (r_assign (v := (.int .i64 q)) rfl) ?_
  refine qe ?_
  refine s_then ?_
  refine wp_ret ?_
  refine s_ret ?_
  refine c_ret1 (v := (.int .i64 q)) rfl rfl rfl ?_
  rw [cur_end (markF_length kz fs) (by omega)] at hC1
  exact ⟨congrArg (fun z => Ending.returned (Value.int .i64 z)) (by rw [hqt, totF_end (by omega)]; omega), hC1, hX4⟩

end M1
end Go.Proofs.YtndhhpaldhlghaaDoor
