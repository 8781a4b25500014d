/- Walks, printed by a program (walkgen.py) from the spec specs_n. -/
import Derived.Test.YtphmcmkpcjlkfaaChecked
import Derived.Test.YtphmcmkpcjlkfaaRow
import Derived.Test.YtphmcmkpcjlkfaaTable
import Derived.Test.YtphmcmkpcjlkfaaB1
import Derived.Test.YtphmcmkpcjlkfaaC1
import Derived.Test.YtphmcmkpcjlkfaaE1
import Derived.Test.YtphmcmkpcjlkfaaL1
import Derived.Test.YtphmcmkpcjlkfaaG1
import Derived.Test.YtphmcmkpcjlkfaaM1
set_option maxRecDepth 20000
set_option maxHeartbeats 2000000
namespace Go.Proofs.Ytphmcmkpcjlkfaa
namespace N1
open Go.RowKit Go.GL Go.Proofs
open Go.Proofs.Ytphmcmkpcjlkfaa.B1
open Go.Proofs.Ytphmcmkpcjlkfaa.C1
open Go.Proofs.Ytphmcmkpcjlkfaa.E1
open Go.Proofs.Ytphmcmkpcjlkfaa.L1
open Go.Proofs.Ytphmcmkpcjlkfaa.G1
open Go.Proofs.Ytphmcmkpcjlkfaa.M1
theorem ag28 : (Try.prog.underlying 28).map aggD = some false := by kernel_rfl
theorem ag3 : (Try.prog.underlying 3).map aggD = some false := by kernel_rfl
theorem ag4 : (Try.prog.underlying 4).map aggD = some false := by kernel_rfl
theorem ag48 : (Try.prog.underlying 48).map aggD = some false := by kernel_rfl
theorem ag50 : (Try.prog.underlying 50).map aggD = some true := by kernel_rfl
theorem ag63 : (Try.prog.underlying 63).map aggD = some false := by kernel_rfl
theorem ag90 : (Try.prog.underlying 90).map aggD = some true := by kernel_rfl
theorem ap50 : (Try.prog.info? 50).map (fun i => (i.size, i.bytes, (i.zero.map (·.cells.size)))) = some (1, 24, some 1) := by kernel_rfl
theorem nm35 : (Try.f35.name == "runtime.NumGoroutine") = false := by kernel_rfl
theorem nm40 : (Try.f40.name == "runtime.NumGoroutine") = false := by kernel_rfl
theorem nm48 : (Try.f48.name == "runtime.NumGoroutine") = false := by kernel_rfl
theorem nm49 : (Try.f49.name == "runtime.NumGoroutine") = false := by kernel_rfl
theorem nm51 : (Try.f51.name == "runtime.NumGoroutine") = false := by kernel_rfl
theorem nm59 : (Try.f59.name == "runtime.NumGoroutine") = false := by kernel_rfl
theorem nm64 : (Try.f64.name == "runtime.NumGoroutine") = false := by kernel_rfl
theorem nm82 : (Try.f82.name == "runtime.NumGoroutine") = false := by kernel_rfl
theorem nz28 : (Try.prog.info? 28).map (·.size == 0) = some false := by kernel_rfl
theorem nz4 : (Try.prog.info? 4).map (·.size == 0) = some false := by kernel_rfl
theorem nz48 : (Try.prog.info? 48).map (·.size == 0) = some false := by kernel_rfl
theorem nz63 : (Try.prog.info? 63).map (·.size == 0) = some false := by kernel_rfl
theorem pl98 : (Try.prog.underlying 98).bind (placesD Try.prog) = some [(0, 1), (1, 1)] := by kernel_rfl
theorem sz3 : (Try.prog.info? 3).map (·.size) = some 1 := by kernel_rfl
theorem sz50 : (Try.prog.info? 50).map (·.size) = some 1 := by kernel_rfl
theorem sz90 : (Try.prog.info? 90).map (·.size) = some 2 := by kernel_rfl
theorem zr50 : (Try.prog.info? 50).bind (·.zero) = some (.agg #[(.slice none 0 0)]) := by kernel_rfl
theorem zr90 : (Try.prog.info? 90).bind (·.zero) = some (.agg #[(.slice none 0 0), (.slice none 0 0)]) := by kernel_rfl
theorem zr98 : (Try.prog.info? 98).bind (·.zero) = some (.agg #[(.slice none 0 0), (.slice none 0 0)]) := by kernel_rfl

theorem top_spec {w : World} {G : Pin} {v : Value} {ns : List Nd} (hP : Pins G w) (hv : RSl eNode G v ns) (hn : 1 ≤ ns.length) :
    Calls Try.prog 51 [(.agg [v].toArray)].toArray w fun e w' => ∃ (u v : Value) (G' : Pin), e = .returned (.agg [u, v].toArray) ∧ RSl eInt G' u (lastN ns).l ∧ RSl eInt G' v (lastN ns).r ∧ Ext noS G w G' w' := by
  refine s_enter (n := 11) Try.func51 Try.ntmps51 rfl rfl ?_
  have hX0 : Ext noS G w G w := Ext.refl hP
  have hm := hv.max
  have hlast : ((ns.length : Int) - 1).toNat = ns.length - 1 := by omega
  refine s_seq ?_
  refine c_reg ?_
  refine q1 rfl rfl rfl (o_box [v] (v := (.agg [v].toArray)) rfl rfl hX0.pins (fun b1 w2 hk3 hb4 hp5 hl6 => ?_))
  have hX7 := hX0.step hp5 hl6
  have hlo8 : w.heap.size ≤ b1 := by have := hX0.size; omega
  obtain ⟨G9, hle10, hX11, hbp12, hf13⟩ := hb4.shut hX7 hlo8
  refine q1 rfl rfl rfl (o_alloc [(.slice none 0 0), (.slice none 0 0)] zr90 rfl hX11.pins (fun b14 w15 hk16 hb17 hp18 hl19 => ?_))
  have hX20 := hX11.step hp18 hl19
  have hlo21 : w.heap.size ≤ b14 := by have := hX11.size; omega
  refine qe ?_
  refine s_then ?_
  refine s_seq ?_
  refine c_reg ?_
  refine qd rfl rfl rfl (r_fldp (k := 0) rfl Try.underlying50 rfl nz48 rfl) ?_
  refine qd rfl rfl rfl (r_ldp1 (u := v) ag48 rfl (hX20.pins _ _ _ (hbp12 0 _ rfl))) ?_
  refine qd rfl rfl rfl (r_fldp (k := 0) rfl Try.underlying50 rfl nz48 rfl) ?_
  refine qd rfl rfl rfl (r_ldp1 (u := v) ag48 rfl (hX20.pins _ _ _ (hbp12 0 _ rfl))) ?_
  refine qd rfl rfl rfl (run_len Try.underlying48 (v := v) rfl hv) ?_
  refine qd rfl rfl rfl (r_sub rfl rfl (by omega)) ?_
  refine qd rfl rfl rfl (run_idx Try.underlying48 sz90 (v := v) rfl rfl hv (by omega) (by omega)) ?_
  obtain ⟨u22, u23, hr24, hr25, hl26⟩ := nm_node (hv.at (z := ((ns.length : Int) - 1)) (by omega) (by omega)) (j := ((ns.length : Int) - 1).toNat) rfl
  have hm27 := hr24.max
  have hm28 := hr25.max
  refine qd rfl rfl rfl (hl26 ag90 sz90 rfl (Pins.of_le hX20.pins hle10)) ?_
  refine q0 rfl rfl rfl (o_stp (cs' := [u22, u23]) (us := [u22, u23]) (v := (.agg [u22, u23].toArray)) sz90 rfl rfl rfl (ones2 hr24.one hr25.one) hX20.pins hb17 (Nat.le_of_ble_eq_true rfl) rfl (fun w29 hb30 hp31 hg32 hz33 => ?_))
  have hX34 := hX20.write hp31 hg32 ((lo_box hlo21))
  refine qe ?_
  refine s_then ?_
  refine wp_ret ?_
  refine s_ret ?_
  refine c_retc (cs := [u22, u23]) rfl rfl rfl ag90 sz90 (fun j u hj => by rw [Nat.zero_add]; exact hb30.cell hj) ?_
  unfold lastN
  rw [← hlast]
  exact ⟨_, _, _, rfl, (hr24.mono hle10), (hr25.mono hle10), hX34⟩

theorem options_spec {w : World} {G : Pin} {v : Value} {lf : Bool} {fs : List (List Nd)} {j : Nat} (hP : Pins G w) (hv : RSl (eSl eNode) G v fs) (hj : j < fs.length) (hn : 1 ≤ (fs.getD j []).length) :
    Calls Try.prog 29 [(.agg [v, (.bool lf)].toArray), (.int .i64 (j : Int))].toArray w fun e w' => ∃ (u : Value) (G' : Pin), e = .returned u ∧ RSl eInt G' u (optL lf (fs.getD j [])) ∧ Ext noS G w G' w' := by
  refine s_enter (n := 21) Try.func29 Try.ntmps29 rfl rfl ?_
  have hX0 : Ext noS G w G w := Ext.refl hP
  refine s_seq ?_
  refine c_reg ?_
  refine q1 rfl rfl rfl (o_box [v, (.bool lf)] (v := (.agg [v, (.bool lf)].toArray)) rfl rfl hX0.pins (fun b1 w2 hk3 hb4 hp5 hl6 => ?_))
  have hX7 := hX0.step hp5 hl6
  have hlo8 : w.heap.size ≤ b1 := by have := hX0.size; omega
  obtain ⟨G9, hle10, hX11, hbp12, hf13⟩ := hb4.shut hX7 hlo8
  refine qd rfl rfl rfl (r_assign (v := (.slice none 0 0)) rfl) ?_
  refine qe ?_
  refine s_then ?_
  refine s_seq ?_
  refine s_seq ?_
  refine c_reg ?_
  refine qd rfl rfl rfl (r_fldp (k := 1) rfl Try.underlying30 rfl nz4 rfl) ?_
  refine qd rfl rfl rfl (r_ldp1 (u := (.bool lf)) ag4 rfl (hX11.pins _ _ _ (hbp12 1 _ rfl))) ?_
  refine qe ?_
  refine s_then ?_
  refine c_if rfl rfl (fun h14 => ?_) (fun h14 => ?_)
  · skip
    refine s_seq ?_
    refine c_reg ?_
    refine qd rfl rfl rfl (r_fldp (k := 0) rfl Try.underlying30 rfl nz28 rfl) ?_
    refine qd rfl rfl rfl (r_ldp1 (u := v) ag28 rfl (hX11.pins _ _ _ (hbp12 0 _ rfl))) ?_
    refine qd rfl rfl rfl (r_move (v := (.int .i64 (j : Int))) rfl) ?_
    refine qd rfl rfl rfl (run_idx Try.underlying28 sz50 (v := v) rfl rfl hv (by omega) (by omega)) ?_
    obtain ⟨u15, hr16, hl17⟩ := nm_form (hv.at (z := (j : Int)) (by omega) (by omega)) (j := j) rfl
    have hm18 := hr16.max
    refine qd rfl rfl rfl (hl17 ag50 sz50 rfl (Pins.of_le hX11.pins hle10)) ?_
    refine q1 rfl rfl rfl (o_call (vs := [(.agg [u15].toArray)]) Try.func51 nm51 rfl rfl rfl ?_)
    refine Calls.mono (top_spec hX11.pins (hr16.mono hle10) (by omega)) ?_
    rintro _ w22 ⟨u19, v20, G21, rfl, hr23, hr24, hx25⟩
    refine ⟨_, rfl, ?_⟩
    have hX26 := hX11.tr hx25
    refine qd rfl rfl rfl (r_field1 (v := u19) Try.underlying90 rfl ag63 rfl rfl) ?_
    refine qd rfl rfl rfl (r_assign (v := u19) rfl) ?_
    refine qe ?_
    refine s_then ?_
    refine wp_ret ?_
    refine s_ret ?_
    refine c_ret1 (v := u19) rfl rfl rfl ?_
    exact ⟨_, _, rfl, (by unfold optL; rw [if_pos h14]; exact hr23), hX26⟩
  · skip
    refine wp_skip ?_
    refine s_then ?_
    refine s_seq ?_
    refine c_reg ?_
    refine qd rfl rfl rfl (r_fldp (k := 0) rfl Try.underlying30 rfl nz28 rfl) ?_
    refine qd rfl rfl rfl (r_ldp1 (u := v) ag28 rfl (hX11.pins _ _ _ (hbp12 0 _ rfl))) ?_
    refine qd rfl rfl rfl (r_move (v := (.int .i64 (j : Int))) rfl) ?_
    refine qd rfl rfl rfl (run_idx Try.underlying28 sz50 (v := v) rfl rfl hv (by omega) (by omega)) ?_
    obtain ⟨u27, hr28, hl29⟩ := nm_form (hv.at (z := (j : Int)) (by omega) (by omega)) (j := j) rfl
    have hm30 := hr28.max
    refine qd rfl rfl rfl (hl29 ag50 sz50 rfl (Pins.of_le hX11.pins hle10)) ?_
    refine q1 rfl rfl rfl (o_call (vs := [(.agg [u27].toArray)]) Try.func51 nm51 rfl rfl rfl ?_)
    refine Calls.mono (top_spec hX11.pins (hr28.mono hle10) (by omega)) ?_
    rintro _ w34 ⟨u31, v32, G33, rfl, hr35, hr36, hx37⟩
    refine ⟨_, rfl, ?_⟩
    have hX38 := hX11.tr hx37
    refine qd rfl rfl rfl (r_field1 (v := v32) Try.underlying90 rfl ag63 rfl rfl) ?_
    refine qd rfl rfl rfl (r_assign (v := v32) rfl) ?_
    refine qe ?_
    refine s_then ?_
    refine wp_ret ?_
    refine s_ret ?_
    refine c_ret1 (v := v32) rfl rfl rfl ?_
    exact ⟨_, _, rfl, (by unfold optL; rw [if_neg (by rw [h14]; decide)]; exact hr36), hX38⟩

theorem iGoodTable_spec {w : World} {G : Pin} {v : Value} {lf : Bool} {fs : List (List Nd)} (hP : Pins G w) (hv : RSl (eSl eNode) G v fs) :
    Calls Try.prog 28 [(.agg [v, (.bool lf)].toArray)].toArray w fun e w' => ∃ G', e = .returned (.bool (goodT fs)) ∧ Ext noS G w G' w' := by
  refine s_enter (n := 20) Try.func28 Try.ntmps28 rfl rfl ?_
  have hX0 : Ext noS G w G w := Ext.refl hP
  have hm := hv.max
  refine s_seq ?_
  refine c_reg ?_
  refine q1 rfl rfl rfl (o_box [v, (.bool lf)] (v := (.agg [v, (.bool lf)].toArray)) rfl rfl hX0.pins (fun b1 w2 hk3 hb4 hp5 hl6 => ?_))
  have hX7 := hX0.step hp5 hl6
  have hlo8 : w.heap.size ≤ b1 := by have := hX0.size; omega
  obtain ⟨G9, hle10, hX11, hbp12, hf13⟩ := hb4.shut hX7 hlo8
  refine qd rfl rfl rfl (r_assign (v := (.bool false)) rfl) ?_
  refine qe ?_
  refine s_then ?_
  refine s_seq ?_
  refine s_seq ?_
  refine c_reg ?_
  refine qd rfl rfl rfl (r_fldp (k := 0) rfl Try.underlying30 rfl nz28 rfl) ?_
  refine qd rfl rfl rfl (r_ldp1 (u := v) ag28 rfl (hX11.pins _ _ _ (hbp12 0 _ rfl))) ?_
  refine qd rfl rfl rfl (run_len Try.underlying28 (v := v) rfl hv) ?_
  refine qd rfl rfl rfl (r_gtr rfl rfl) ?_
  refine qe ?_
  refine s_then ?_
  refine c_ifd (p := (6 : Int) < (fs.length : Int)) rfl rfl (fun h14 => ?_) (fun h14 => ?_)
  · skip
    refine s_seq ?_
    refine c_reg ?_
    refine qd rfl rfl rfl (r_assign (v := (.bool false)) rfl) ?_
    refine qe ?_
    refine s_then ?_
    refine wp_ret ?_
    refine s_ret ?_
    refine c_ret1 (v := (.bool false)) rfl rfl rfl ?_
    exact ⟨_, congrArg (fun z => Ending.returned (Value.bool z)) (decP_false.2 (fun g => by have := g.1; omega)).symm, hX11⟩
  · skip
    refine wp_skip ?_
    refine s_then ?_
    refine s_seq ?_
    refine s_seq ?_
    refine c_reg ?_
    refine qd rfl rfl rfl (r_fldp (k := 0) rfl Try.underlying30 rfl nz28 rfl) ?_
    refine qd rfl rfl rfl (r_ldp1 (u := v) ag28 rfl (hX11.pins _ _ _ (hbp12 0 _ rfl))) ?_
    refine qd rfl rfl rfl (run_len Try.underlying28 (v := v) rfl hv) ?_
    refine qd rfl rfl rfl (r_move (v := (.int .i64 0)) rfl) ?_
    refine qe ?_
    refine s_then ?_
    refine s_blk ?_
    refine s_loop (fun (k : Nat) (en : Nat → Value) (W : World) => ∃ (env1 : Nat → Value) (j : Nat) (GL1 : Pin), en = (upd (upd (upd env1 10 v) 11 (.int .i64 (fs.length : Int))) 12 (.int .i64 (j : Int))) ∧ k = fs.length - j ∧ Ext noS G w GL1 W ∧ Pin.le G9 GL1 ∧ (j ≤ fs.length) ∧ (∀ i, i < j → goodB (fs.getD i []) = true)) _ ⟨_, 0, G9, (packS (x := 12) (packS (x := 11) (pack1 (x := 10) rfl) rfl) rfl), rfl, hX11, Pin.le_refl _, Nat.zero_le _, (fun i hi => absurd hi (Nat.not_lt_zero i))⟩ ?_
    rintro k15 _ w16 ⟨env1, j, GL1, rfl, hk17, hX18, hlek15, hj, hp⟩
    refine s_seq ?_
    refine c_reg ?_
    refine qd rfl rfl rfl (r_lss rfl rfl) ?_
    refine qe ?_
    refine s_then ?_
    refine s_seq ?_
    refine c_ifd (p := ((j : Int) : Int) < (fs.length : Int)) rfl rfl (fun h19 => ?_) (fun h19 => ?_)
    · skip
      refine wp_skip ?_
      refine s_then ?_
      refine s_seq ?_
      refine s_blk ?_
      refine s_seq ?_
      refine c_reg ?_
      refine qd rfl rfl rfl (run_idx Try.underlying28 sz50 (v := v) rfl rfl hv (by omega) (by omega)) ?_
      obtain ⟨u20, hr21, hl22⟩ := nm_form (hv.at (z := (j : Int)) (by omega) (by omega)) (j := j) rfl
      have hm23 := hr21.max
      refine qd rfl rfl rfl (hl22 ag50 sz50 rfl (Pins.of_le hX18.pins (Pin.le_trans hle10 hlek15))) ?_
      refine q1 rfl rfl rfl (o_alloc [(.slice none 0 0)] zr50 rfl hX18.pins (fun b24 w25 hk26 hb27 hp28 hl29 => ?_))
      have hX30 := hX18.step hp28 hl29
      have hlo31 : w.heap.size ≤ b24 := by have := hX18.size; omega
      refine q0 rfl rfl rfl (o_stp (cs' := [u20]) (us := [u20]) (v := (.agg [u20].toArray)) sz50 rfl rfl rfl (ones1 hr21.one) hX30.pins hb27 (Nat.le_of_ble_eq_true rfl) rfl (fun w32 hb33 hp34 hg35 hz36 => ?_))
      have hX37 := hX30.write hp34 hg35 ((lo_box hlo31))
      obtain ⟨G38, hle39, hX40, hbp41, hf42⟩ := hb33.shut hX37 hlo31
      refine qe ?_
      refine s_then ?_
      refine s_seq ?_
      refine c_reg ?_
      refine qd rfl rfl rfl (r_ldpA (cs := [u20]) ag50 sz50 rfl (fun j u hj => hX40.pins _ _ _ (hbp41 _ _ (by simpa using hj)))) ?_
      refine q1 rfl rfl rfl (o_call (vs := [(.agg [u20].toArray)]) Try.func40 nm40 rfl rfl rfl ?_)
      refine Calls.mono (goodForm_spec hX40.pins (hr21.mono (Pin.le_trans (Pin.le_trans hle10 hlek15) hle39))) ?_
      rintro _ w44 ⟨G43, rfl, hx45⟩
      refine ⟨_, rfl, ?_⟩
      have hX46 := hX40.tr hx45
      refine qd rfl rfl rfl (r_not rfl) ?_
      refine qe ?_
      refine s_then ?_
      refine c_ifn rfl rfl (fun h47 => ?_) (fun h47 => ?_)
      · skip
        refine wp_skip ?_
        refine s_blkN ?_
        refine s_then ?_
        refine c_reg ?_
        refine qd rfl rfl rfl (r_add rfl rfl (by omega)) ?_
        refine qd rfl rfl rfl (r_move (v := (.int .i64 ((j : Int) + 1))) rfl) ?_
        refine qe ?_
        refine s_lopN ?_
        refine ⟨_, ?_, _, rfl, _, j + 1, G43, (packS (x := 12) (packS (x := 11) (pack1 (x := 10) rfl) rfl) rfl), rfl, hX46, (Pin.le_trans (Pin.le_trans hlek15 hle39) hx45.le), (by omega), (fun i hi => if h3 : i = j then h3 ▸ h47 else hp i (by omega))⟩
        omega
      · skip
        refine s_seq ?_
        refine c_reg ?_
        refine qd rfl rfl rfl (r_assign (v := (.bool false)) rfl) ?_
        refine qe ?_
        refine s_then ?_
        refine wp_ret ?_
        refine s_ret ?_
        refine c_ret1 (v := (.bool false)) rfl rfl rfl ?_
        exact ⟨_, congrArg (fun z => Ending.returned (Value.bool z)) (decP_false.2 (fun g => by have := g.2 j (by omega); rw [h47] at this; cases this)).symm, hX46⟩
    · skip
      refine wp_exit ?_
      refine s_thenE ?_
      refine s_lopE ?_
      refine s_blkE ?_
      refine s_then ?_
      refine s_seq ?_
      refine c_reg ?_
      refine qd rfl rfl rfl (r_assign (v := (.bool true)) rfl) ?_
      refine qe ?_
      refine s_then ?_
      refine wp_ret ?_
      refine s_ret ?_
      refine c_ret1 (v := (.bool true)) rfl rfl rfl ?_
      exact ⟨_, congrArg (fun z => Ending.returned (Value.bool z)) (decP_true.2 ⟨by omega, fun i hi => hp i (by omega)⟩).symm, hX18⟩

theorem l3All_spec {w : World} {G : Pin} {v : Value} {fs : List (List Nd)} {most : Int} (hP : Pins G w) (hv : RSl (eSl eNode) G v fs) :
    Calls Try.prog 48 [v, (.int .i64 most)].toArray w fun e w' => ∃ G', e = .returned (.bool (decP (((fs.length : Int) ≤ most) ∧ ∀ i, i < fs.length → GoodS (fs.getD i [])))) ∧ Ext noS G w G' w' := by
  refine s_enter (n := 27) Try.func48 Try.ntmps48 rfl rfl ?_
  have hX0 : Ext noS G w G w := Ext.refl hP
  have hm := hv.max
  refine s_seq ?_
  refine c_reg ?_
  refine qd rfl rfl rfl (r_assign (v := (.bool false)) rfl) ?_
  refine qe ?_
  refine s_then ?_
  refine s_seq ?_
  refine s_seq ?_
  refine c_reg ?_
  refine qd rfl rfl rfl (r_assign (v := (.int .i64 0)) rfl) ?_
  refine qe ?_
  refine s_then ?_
  refine s_blk ?_
  refine s_loop (fun (k : Nat) (en : Nat → Value) (W : World) => ∃ (env1 : Nat → Value) (j : Nat) (GL1 : Pin), en = (upd (upd (upd env1 0 v) 1 (.int .i64 most)) 5 (.int .i64 (j : Int))) ∧ k = fs.length - j ∧ Ext noS G w GL1 W ∧ Pin.le G GL1 ∧ (j ≤ fs.length) ∧ (∀ i, i < j → GoodS (fs.getD i []))) _ ⟨_, 0, G, (packS (x := 5) (packS (x := 1) (pack1 (x := 0) rfl) rfl) rfl), rfl, hX0, Pin.le_refl _, Nat.zero_le _, (fun i hi => absurd hi (Nat.not_lt_zero i))⟩ ?_
  rintro k1 _ w2 ⟨env1, j, GL1, rfl, hk3, hX4, hlek1, hj, hp⟩
  refine s_seq ?_
  refine s_seq ?_
  refine c_reg ?_
  refine qd rfl rfl rfl (r_move (v := (.int .i64 (j : Int))) rfl) ?_
  refine qd rfl rfl rfl (r_move (v := v) rfl) ?_
  refine qd rfl rfl rfl (run_len Try.underlying28 (v := v) rfl hv) ?_
  refine qd rfl rfl rfl (r_lss rfl rfl) ?_
  refine qd rfl rfl rfl (r_move (v := (.bool (decide (((j : Int) : Int) < (fs.length : Int))))) rfl) ?_
  refine qbd (p := ((j : Int) : Int) < (fs.length : Int)) (t := 10) rfl (fun h5 => ?_) (fun h5 => ?_)
  · skip
    refine qdg rfl rfl rfl rfl rfl rfl (r_move (v := (.int .i64 (j : Int))) rfl) ?_
    refine qdg rfl rfl rfl rfl rfl rfl (r_move (v := (.int .i64 most)) rfl) ?_
    refine qdg rfl rfl rfl rfl rfl rfl (r_leq rfl rfl) ?_
    refine qd rfl rfl rfl (r_pickT (v := (.bool (decide (((j : Int) : Int) ≤ most)))) rfl rfl) ?_
    refine qe ?_
    refine s_then ?_
    refine c_ifd (p := ((j : Int) : Int) ≤ most) rfl rfl (fun h6 => ?_) (fun h6 => ?_)
    · skip
      refine wp_skip ?_
      refine s_then ?_
      refine s_seq ?_
      refine s_blk ?_
      refine s_seq ?_
      refine c_reg ?_
      refine qd rfl rfl rfl (r_move (v := v) rfl) ?_
      refine qd rfl rfl rfl (r_move (v := (.int .i64 (j : Int))) rfl) ?_
      refine qd rfl rfl rfl (run_idx Try.underlying28 sz50 (v := v) rfl rfl hv (by omega) (by omega)) ?_
      obtain ⟨u7, hr8, hl9⟩ := nm_form (hv.at (z := (j : Int)) (by omega) (by omega)) (j := j) rfl
      have hm10 := hr8.max
      refine qd rfl rfl rfl (hl9 ag50 sz50 rfl (Pins.of_le hX4.pins hlek1)) ?_
      refine q1 rfl rfl rfl (o_call (vs := [(.agg [u7].toArray)]) Try.func35 nm35 rfl rfl rfl ?_)
      refine Calls.mono (l3Good_spec hX4.pins (hr8.mono hlek1)) ?_
      rintro _ w12 ⟨G11, rfl, hx13⟩
      refine ⟨_, rfl, ?_⟩
      have hX14 := hX4.tr hx13
      refine qd rfl rfl rfl (r_not rfl) ?_
      refine qe ?_
      refine s_then ?_
      refine c_ifn rfl rfl (fun h15 => ?_) (fun h15 => ?_)
      · skip
        refine wp_skip ?_
        refine s_blkN ?_
        refine s_then ?_
        refine c_reg ?_
        refine qd rfl rfl rfl (r_move (v := (.int .i64 (j : Int))) rfl) ?_
        refine qd rfl rfl rfl (r_add rfl rfl (by omega)) ?_
        refine qd rfl rfl rfl (r_assign (v := (.int .i64 ((j : Int) + 1))) rfl) ?_
        refine qe ?_
        refine s_lopN ?_
        refine ⟨_, ?_, _, rfl, _, j + 1, G11, (packS (x := 5) (packS (x := 1) (pack1 (x := 0) rfl) rfl) rfl), rfl, hX14, (Pin.le_trans hlek1 hx13.le), (by omega), (fun i hi => if h3 : i = j then h3 ▸ decP_true.1 h15 else hp i (by omega))⟩
        omega
      · skip
        refine s_seq ?_
        refine c_reg ?_
        refine qd rfl rfl rfl (r_assign (v := (.bool false)) rfl) ?_
        refine qe ?_
        refine s_then ?_
        refine wp_ret ?_
        refine s_ret ?_
        refine c_ret1 (v := (.bool false)) rfl rfl rfl ?_
        exact ⟨_, congrArg (fun z => Ending.returned (Value.bool z)) (decP_false.2 (fun g => by have := g.2 j (by omega); rw [decP_true.2 this] at h15; cases h15)).symm, hX14⟩
    · skip
      refine wp_exit ?_
      refine s_thenE ?_
      refine s_lopE ?_
      refine s_blkE ?_
      refine s_then ?_
      refine s_seq ?_
      refine c_reg ?_
      refine qd rfl rfl rfl (r_move (v := v) rfl) ?_
      refine qd rfl rfl rfl (run_len Try.underlying28 (v := v) rfl hv) ?_
      refine qd rfl rfl rfl (r_move (v := (.int .i64 most)) rfl) ?_
      refine qd rfl rfl rfl (r_leq rfl rfl) ?_
      refine qd rfl rfl rfl (r_assign (v := (.bool (decide (((fs.length : Int) : Int) ≤ most)))) rfl) ?_
      refine qe ?_
      refine s_then ?_
      refine wp_ret ?_
      refine s_ret ?_
      refine c_ret1 (v := (.bool (decide (((fs.length : Int) : Int) ≤ most)))) rfl rfl rfl ?_
      exact ⟨_, congrArg (fun z => Ending.returned (Value.bool z)) (decP_dec.symm.trans (decP_iff ⟨fun h => ⟨h, fun i hi => hp i (by omega)⟩, fun h => h.1⟩)), hX4⟩
  · skip
    refine qs rfl rfl rfl rfl rfl rfl ?_
    refine qs rfl rfl rfl rfl rfl rfl ?_
    refine qs rfl rfl rfl rfl rfl rfl ?_
    refine qd rfl rfl rfl (r_pickF (v := (.bool false)) rfl rfl) ?_
    refine qe ?_
    refine s_then ?_
    refine c_ifF rfl rfl ?_
    refine wp_exit ?_
    refine s_thenE ?_
    refine s_lopE ?_
    refine s_blkE ?_
    refine s_then ?_
    refine s_seq ?_
    refine c_reg ?_
    refine qd rfl rfl rfl (r_move (v := v) rfl) ?_
    refine qd rfl rfl rfl (run_len Try.underlying28 (v := v) rfl hv) ?_
    refine qd rfl rfl rfl (r_move (v := (.int .i64 most)) rfl) ?_
    refine qd rfl rfl rfl (r_leq rfl rfl) ?_
    refine qd rfl rfl rfl (r_assign (v := (.bool (decide (((fs.length : Int) : Int) ≤ most)))) rfl) ?_
    refine qe ?_
    refine s_then ?_
    refine wp_ret ?_
    refine s_ret ?_
    refine c_ret1 (v := (.bool (decide (((fs.length : Int) : Int) ≤ most)))) rfl rfl rfl ?_
    exact ⟨_, congrArg (fun z => Ending.returned (Value.bool z)) (decP_dec.symm.trans (decP_iff ⟨fun h => ⟨h, fun i hi => hp i (by omega)⟩, fun h => h.1⟩)), hX4⟩

theorem l14Good_spec {w : World} {G : Pin} {v : Value} {lf : Bool} {fs : List (List Nd)} (hP : Pins G w) (hv : RSl (eSl eNode) G v fs) :
    Calls Try.prog 23 [(.agg [v, (.bool lf)].toArray)].toArray w fun e w' => ∃ G', e = .returned (.bool (goodT fs)) ∧ Ext noS G w G' w' := by
  refine s_enter (n := 6) Try.func23 Try.ntmps23 rfl rfl ?_
  have hX0 : Ext noS G w G w := Ext.refl hP
  refine s_seq ?_
  refine c_reg ?_
  refine q1 rfl rfl rfl (o_box [v, (.bool lf)] (v := (.agg [v, (.bool lf)].toArray)) rfl rfl hX0.pins (fun b1 w2 hk3 hb4 hp5 hl6 => ?_))
  have hX7 := hX0.step hp5 hl6
  have hlo8 : w.heap.size ≤ b1 := by have := hX0.size; omega
  obtain ⟨G9, hle10, hX11, hbp12, hf13⟩ := hb4.shut hX7 hlo8
  refine qd rfl rfl rfl (r_assign (v := (.bool false)) rfl) ?_
  refine qe ?_
  refine s_then ?_
  refine s_seq ?_
  refine c_reg ?_
  refine qd rfl rfl rfl (r_fldp (k := 0) rfl Try.underlying30 rfl nz28 rfl) ?_
  refine qd rfl rfl rfl (r_ldp1 (u := v) ag28 rfl (hX11.pins _ _ _ (hbp12 0 _ rfl))) ?_
  refine q1 rfl rfl rfl (o_call (vs := [v, (.int .i64 6)]) Try.func48 nm48 rfl rfl rfl ?_)
  refine Calls.mono (l3All_spec hX11.pins (hv.mono hle10)) ?_
  rintro _ w15 ⟨G14, rfl, hx16⟩
  refine ⟨_, rfl, ?_⟩
  have hX17 := hX11.tr hx16
  refine qd rfl rfl rfl (r_assign (v := (.bool (decP (((fs.length : Int) ≤ 6) ∧ ∀ i, i < fs.length → GoodS (fs.getD i []))))) rfl) ?_
  refine qe ?_
  refine s_then ?_
  refine wp_ret ?_
  refine s_ret ?_
  refine c_ret1 (v := (.bool (decP (((fs.length : Int) ≤ 6) ∧ ∀ i, i < fs.length → GoodS (fs.getD i []))))) rfl rfl rfl ?_
  exact ⟨_, congrArg (fun z => Ending.returned (Value.bool z)) goodT_of.symm, hX17⟩

theorem l3Part_spec {w : World} {G : Pin} {v : Value} {ns : List Nd} {z : Int} (hP : Pins G w) (hv : RSl eNode G v ns) (hf : FormOk ns) (hz : 0 ≤ z ∧ z < ns.length) :
    Calls Try.prog 82 [(.agg [v].toArray), (.int .i64 z)].toArray w fun e w' => ∃ (u : Value) (G' : Pin), e = .returned (.agg [u].toArray) ∧ RSl eNode G' u (partS ns z) ∧ Ext noS G w G' w' := by
  refine s_enter (n := 18) Try.func82 Try.ntmps82 rfl rfl ?_
  have hX0 : Ext noS G w G w := Ext.refl hP
  have hfl := hf.len
  have hao := addM_all book_empty hf (by simp; omega)
  have hal := hao.len
  refine s_seq ?_
  refine c_reg ?_
  refine q1 rfl rfl rfl (o_box [v] (v := (.agg [v].toArray)) rfl rfl hX0.pins (fun b1 w2 hk3 hb4 hp5 hl6 => ?_))
  have hX7 := hX0.step hp5 hl6
  have hlo8 : w.heap.size ≤ b1 := by have := hX0.size; omega
  obtain ⟨G9, hle10, hX11, hbp12, hf13⟩ := hb4.shut hX7 hlo8
  refine q1 rfl rfl rfl (o_alloc [(.slice none 0 0)] zr50 rfl hX11.pins (fun b14 w15 hk16 hb17 hp18 hl19 => ?_))
  have hX20 := hX11.step hp18 hl19
  have hlo21 : w.heap.size ≤ b14 := by have := hX11.size; omega
  refine qe ?_
  refine s_then ?_
  refine s_seq ?_
  refine c_reg ?_
  refine qd rfl rfl rfl (r_build [(.slice none 0 0), (.slice none 0 0)] [(.slice none 0 0), (.slice none 0 0)] [] Try.underlying98 zr98 rfl pl98 rfl (fun _ h => by cases h) rfl) ?_
  refine q1 rfl rfl rfl (o_box [(.slice none 0 0), (.slice none 0 0)] (v := (.agg [(.slice none 0 0), (.slice none 0 0)].toArray)) rfl rfl hX20.pins (fun b22 w23 hk24 hb25 hp26 hl27 => ?_))
  have hX28 := hX20.step hp26 hl27
  have hb29 := hb17.below hl27
  have ha30 : Apart (some b22) (some b14) := new_ne_box (congrArg some hk24) hb17.lt
  have hlo31 : w.heap.size ≤ b22 := by have := hX20.size; omega
  refine qd rfl rfl rfl (r_assign (v := (.pointer (some ⟨b22, 0, none⟩))) rfl) ?_
  refine qe ?_
  refine s_then ?_
  refine s_seq ?_
  refine c_reg ?_
  refine qd rfl rfl rfl (r_move (v := (.pointer (some ⟨b22, 0, none⟩))) rfl) ?_
  refine qd rfl rfl rfl (r_ldpA (cs := [v]) ag50 sz50 rfl (fun j u hj => hX28.pins _ _ _ (hbp12 _ _ (by simpa using hj)))) ?_
  refine q1 rfl rfl rfl (o_call (vs := [(.pointer (some ⟨b22, 0, none⟩)), (.agg [v].toArray)]) Try.func64 nm64 rfl rfl rfl ?_)
  refine Calls.mono (add_spec hX28.pins ⟨hb25, (Own.nil _ _ _ _ _), (Own.nil _ _ _ _ _), apart_none.symm, apart_none.symm, apart_none⟩ book_empty (hv.mono hle10) hf (by first | omega | (simp; omega))) ?_
  rintro _ w35 ⟨u40, u32, v33, G34, rfl, hr41, hbk36, hx37, hlu38, hlv39⟩
  refine ⟨_, rfl, ?_⟩
  have hin42 : ∀ i, inS b22 (.slice none 0 0) (.slice none 0 0) i → w.heap.size ≤ i ∨ noS i := inS_lo (lo_box hlo31) (lo_none _ _) (lo_none _ _)
  have hX43 := hX28.trans hx37 hin42
  have hn44 := notS (u := (.slice none 0 0)) (v := (.slice none 0 0)) ha30.symm apart_none.symm apart_none.symm
  have ho45 := hb29.extS hx37 (notSb hn44)
  have ha46 : Apart (some b14) u32.ownBlock := ap_call hlu38 hn44 (box_lt hb29)
  have ha47 : Apart (some b14) v33.ownBlock := ap_call hlv39 hn44 (box_lt hb29)
  have hb48 := hbk36.bx
  have ho49 := hbk36.ou
  have ho50 := hbk36.ov
  have ha51 := hbk36.abu
  have ha52 := hbk36.abv
  have ha53 := hbk36.auv
  have hlo54 := lo_call hlu38 hin42 hX28.size
  have hlo55 := lo_call hlv39 hin42 hX28.size
  refine qd rfl rfl rfl (r_assign (v := u40) rfl) ?_
  refine qe ?_
  refine s_then ?_
  refine s_seq ?_
  refine c_reg ?_
  refine qd rfl rfl rfl (r_move (v := (.pointer (some ⟨b22, 0, none⟩))) rfl) ?_
  refine qd rfl rfl rfl (r_move (v := u40) rfl) ?_
  refine qd rfl rfl rfl (r_move (v := (.int .i64 z)) rfl) ?_
  refine qd rfl rfl rfl (run_idx Try.underlying63 sz3 (v := u40) rfl rfl hr41 (by omega) (by omega)) ?_
  refine qd rfl rfl rfl (run_load_int (r := ((addM ([]) ([]) ns).1).getD (z).toNat 0) rfl ag3 (z := z) rfl hr41 hX43.pins (by omega) (by omega)) ?_
  refine q1 rfl rfl rfl (o_call (vs := [(.pointer (some ⟨b22, 0, none⟩)), (.int .i64 (((addM ([]) ([]) ns).1).getD (z).toNat 0))]) Try.func59 nm59 rfl rfl rfl ?_)
  refine Calls.mono (form_spec hX43.pins ⟨hb48, ho49, ho50, ha51, ha52, ha53⟩ hao.book (hao.places _ (by omega))) ?_
  rintro _ w58 ⟨u56, G57, rfl, hr59, hx60⟩
  refine ⟨_, rfl, ?_⟩
  have hX61 := hX43.tr hx60
  have ho62 := ho49.ext hx60
  have ho63 := ho50.ext hx60
  have hb64 := ho45.ext hx60
  have hb65 := hb48.ext hx60
  refine q0 rfl rfl rfl (o_stp (cs' := [u56]) (us := [u56]) (v := (.agg [u56].toArray)) sz50 rfl rfl rfl (ones1 hr59.one) hX61.pins hb64 (Nat.le_of_ble_eq_true rfl) rfl (fun w66 hb67 hp68 hg69 hz70 => ?_))
  have hX71 := hX61.write hp68 hg69 ((lo_box hlo21))
  have ho72 := ho62.keptA hg69 ha46.symm
  have ho73 := ho63.keptA hg69 ha47.symm
  have hb74 := hb65.keptA hg69 ha30
  refine qe ?_
  refine s_then ?_
  refine wp_ret ?_
  refine s_ret ?_
  refine c_retc (cs := [u56]) rfl rfl rfl ag50 sz50 (fun j u hj => by rw [Nat.zero_add]; exact hb67.cell hj) ?_
  exact ⟨_, _, rfl, hr59, hX71⟩

theorem l3Opts_spec {w : World} {G : Pin} {v : Value} {ns : List Nd} (hP : Pins G w) (hv : RSl eNode G v ns) (hg : GoodP ns) :
    Calls Try.prog 49 [(.agg [v].toArray)].toArray w fun e w' => ∃ (u v : Value) (G' : Pin), e = .returned (.tuple #[u, v]) ∧ RSl (eSl eNode) G' u (optsS ns (lastN ns).l) ∧ RSl (eSl eNode) G' v (optsS ns (lastN ns).r) ∧ Ext noS G w G' w' := by
  refine s_enter (n := 55) Try.func49 Try.ntmps49 rfl rfl ?_
  have hX0 : Ext noS G w G w := Ext.refl hP
  have hlo := hg.lo
  have hhi := hg.hi
  have hlast : ((ns.length : Int) - 1).toNat = ns.length - 1 := by omega
  have hL := optL_at hg true
  have hR := optL_at hg false
  have hLl := optL_len (left := true) hg
  have hRl := optL_len (left := false) hg
  rw [show optL true ns = (lastN ns).l from rfl] at hL hLl
  rw [show optL false ns = (lastN ns).r from rfl] at hR hRl
  have elast : lastN ns = ns.getD ((ns.length : Int) - 1).toNat default := by unfold lastN; rw [hlast]
  rw [elast] at hL hR hLl hRl
  refine s_seq ?_
  refine c_reg ?_
  refine q1 rfl rfl rfl (o_box [v] (v := (.agg [v].toArray)) rfl rfl hX0.pins (fun b1 w2 hk3 hb4 hp5 hl6 => ?_))
  have hX7 := hX0.step hp5 hl6
  have hlo8 : w.heap.size ≤ b1 := by have := hX0.size; omega
  obtain ⟨G9, hle10, hX11, hbp12, hf13⟩ := hb4.shut hX7 hlo8
  refine qd rfl rfl rfl (r_assign (v := (.slice none 0 0)) rfl) ?_
  refine qd rfl rfl rfl (r_assign (v := (.slice none 0 0)) rfl) ?_
  refine qe ?_
  refine s_then ?_
  refine s_seq ?_
  refine c_reg ?_
  refine q1 rfl rfl rfl (o_build0 (E := (eSl eNode)) (e := 50) Try.underlying28 sz50 hX11.pins (fun u14 w15 ho16 hp17 hl18 hk19 => ?_))
  have hX20 := hX11.step hp17 hl18
  have ho21 : Own (eSl eNode) 50 G9 w15 w.heap.size u14 ([]) := ho16.weaken hX11.size
  refine q1 rfl rfl rfl (o_build0 (E := (eSl eNode)) (e := 50) Try.underlying28 sz50 hX20.pins (fun u22 w23 ho24 hp25 hl26 hk27 => ?_))
  have hX28 := hX20.step hp25 hl26
  have ho29 := ho21.below hl26
  have ha30 : Apart u22.ownBlock u14.ownBlock := new_ne_own hk27 ho21.lt
  have ho31 : Own (eSl eNode) 50 G9 w23 w.heap.size u22 ([]) := ho24.weaken hX20.size
  refine qd rfl rfl rfl (r_assign (v := u14) rfl) ?_
  refine qd rfl rfl rfl (r_assign (v := u22) rfl) ?_
  refine qe ?_
  refine s_then ?_
  refine s_seq ?_
  refine c_reg ?_
  refine qd rfl rfl rfl (r_fldp (k := 0) rfl Try.underlying50 rfl nz48 rfl) ?_
  refine qd rfl rfl rfl (r_ldp1 (u := v) ag48 rfl (hX28.pins _ _ _ (hbp12 0 _ rfl))) ?_
  refine qd rfl rfl rfl (r_fldp (k := 0) rfl Try.underlying50 rfl nz48 rfl) ?_
  refine qd rfl rfl rfl (r_ldp1 (u := v) ag48 rfl (hX28.pins _ _ _ (hbp12 0 _ rfl))) ?_
  refine qd rfl rfl rfl (run_len Try.underlying48 (v := v) rfl hv) ?_
  refine qd rfl rfl rfl (r_sub rfl rfl (by omega)) ?_
  refine qd rfl rfl rfl (run_idx Try.underlying48 sz90 (v := v) rfl rfl hv (by omega) (by omega)) ?_
  obtain ⟨u32, u33, hr34, hr35, hl36⟩ := nm_node (hv.at (z := ((ns.length : Int) - 1)) (by omega) (by omega)) (j := ((ns.length : Int) - 1).toNat) rfl
  have hm37 := hr34.max
  have hm38 := hr35.max
  refine qd rfl rfl rfl (hl36 ag90 sz90 rfl (Pins.of_le hX28.pins hle10)) ?_
  refine q1 rfl rfl rfl (o_alloc [(.slice none 0 0), (.slice none 0 0)] zr90 rfl hX28.pins (fun b39 w40 hk41 hb42 hp43 hl44 => ?_))
  have hX45 := hX28.step hp43 hl44
  have ho46 := ho29.below hl44
  have ho47 := ho31.below hl44
  have ha48 : Apart (some b39) u14.ownBlock := new_ne_own (congrArg some hk41) ho29.lt
  have ha49 : Apart (some b39) u22.ownBlock := new_ne_own (congrArg some hk41) ho31.lt
  have hlo50 : w.heap.size ≤ b39 := by have := hX28.size; omega
  refine q0 rfl rfl rfl (o_stp (cs' := [u32, u33]) (us := [u32, u33]) (v := (.agg [u32, u33].toArray)) sz90 rfl rfl rfl (ones2 hr34.one hr35.one) hX45.pins hb42 (Nat.le_of_ble_eq_true rfl) rfl (fun w51 hb52 hp53 hg54 hz55 => ?_))
  have hX56 := hX45.write hp53 hg54 ((lo_box hlo50))
  have ho57 := ho46.keptA hg54 ha48.symm
  have ho58 := ho47.keptA hg54 ha49.symm
  obtain ⟨G59, hle60, hX61, hbp62, hf63⟩ := hb52.shut hX56 hlo50
  have ho64 := ho57.moreA hle60 hf63 ha48.symm
  have ho65 := ho58.moreA hle60 hf63 ha49.symm
  refine qe ?_
  refine s_then ?_
  refine s_seq ?_
  refine s_seq ?_
  refine c_reg ?_
  refine qd rfl rfl rfl (r_assign (v := (.int .i64 0)) rfl) ?_
  refine qe ?_
  refine s_then ?_
  refine s_blk ?_
  refine s_loop (fun (k : Nat) (en : Nat → Value) (W : World) => ∃ (env1 : Nat → Value) (j : Nat) (ovA : Value) (osA : List (List Nd)) (GA : Pin), en = (upd (upd (upd (upd (upd (upd (upd env1 1 (.pointer (some ⟨b1, 0, none⟩))) 2 (.slice none 0 0)) 3 (.slice none 0 0)) 4 ovA) 5 u22) 6 (.pointer (some ⟨b39, 0, none⟩))) 7 (.int .i64 (j : Int))) ∧ k = (ns.getD ((ns.length : Int) - 1).toNat default).l.length - j ∧ Ext noS G w GA W ∧ Pin.le G59 GA ∧ (j ≤ (ns.getD ((ns.length : Int) - 1).toNat default).l.length) ∧ (osA = optsS ns ((ns.getD ((ns.length : Int) - 1).toNat default).l.take j)) ∧ (osA.length = j) ∧ (Own (eSl eNode) 50 GA W w.heap.size ovA (osA)) ∧ (Own (eSl eNode) 50 GA W w.heap.size u22 ([])) ∧ (Apart ovA.ownBlock u22.ownBlock)) _ ⟨_, 0, u14, [], G59, (packS (x := 7) (packS (x := 6) (packS (x := 5) (packS (x := 4) (packS (x := 3) (packS (x := 2) (pack1 (x := 1) rfl) rfl) rfl) rfl) rfl) rfl) rfl), rfl, hX61, Pin.le_refl _, Nat.zero_le _, rfl, rfl, ho64, ho65, ha30.symm⟩ ?_
  rintro k66 _ w67 ⟨env1, j, ovA, osA, GA, rfl, hk68, hX69, hlek66, hjA, hosA, holA, hw70, hw71, ha72⟩
  refine s_seq ?_
  refine s_seq ?_
  refine c_reg ?_
  refine qd rfl rfl rfl (r_move (v := (.int .i64 (j : Int))) rfl) ?_
  refine qd rfl rfl rfl (r_fldp (k := 0) rfl Try.underlying90 rfl nz63 rfl) ?_
  refine qd rfl rfl rfl (r_ldp1 (u := u32) ag63 rfl ((Pins.of_le hX69.pins hlek66) _ _ _ (hbp62 0 _ rfl))) ?_
  refine qd rfl rfl rfl (run_len Try.underlying63 (v := u32) rfl hr34) ?_
  refine qd rfl rfl rfl (r_lss rfl rfl) ?_
  refine qe ?_
  refine s_then ?_
  refine c_ifd (p := ((j : Int) : Int) < (((ns.getD ((ns.length : Int) - 1).toNat default).l).length : Int)) rfl rfl (fun h73 => ?_) (fun h73 => ?_)
  · skip
    refine wp_skip ?_
    refine s_then ?_
    refine s_seq ?_
    refine s_blk ?_
    refine c_draw (S := fun w => Pins GA w) (last := 11) (by kernel_rfl) rfl ?_
    have hl74 : Below w67.heap.size w67 w67.drew := (Below.refl _ _).drew
    have hp75 := hX69.pins.below hl74
    have hX76 := hX69.step hp75 hl74
    have ho77 := hw70.below hl74
    have ho78 := hw71.below hl74
    refine dr_take (i := 0) rfl rfl rfl (want_none rfl _) (by kernel_rfl) (fun _ _ => r_move (v := ovA) rfl) hX76.pins ?_
    refine dr_take (i := 1) rfl rfl rfl (want_none rfl _) (by kernel_rfl) (fun _ hS => r_ldpA (cs := [v]) ag50 sz50 rfl (fun j u hj => (Pins.of_le hS (Pin.le_trans hle60 hlek66)) _ _ _ (hbp12 _ _ (by simpa using hj)))) hX76.pins ?_
    refine dr_take (i := 2) rfl rfl rfl (want_none rfl _) (by kernel_rfl) (fun _ _ => r_fldp (k := 0) rfl Try.underlying90 rfl nz63 rfl) hX76.pins ?_
    refine dr_take (i := 3) rfl rfl rfl (want_none rfl _) (by kernel_rfl) (fun _ hS => r_ldp1 (u := u32) ag63 rfl ((Pins.of_le hS hlek66) _ _ _ (hbp62 0 _ rfl))) hX76.pins ?_
    refine dr_take (i := 4) rfl rfl rfl (want_none rfl _) (by kernel_rfl) (fun _ _ => r_move (v := (.int .i64 (j : Int))) rfl) hX76.pins ?_
    refine dr_take (i := 5) rfl rfl rfl (want_none rfl _) (by kernel_rfl) (fun _ _ => run_idx Try.underlying63 sz3 (v := u32) rfl rfl hr34 (by omega) (by omega)) hX76.pins ?_
    refine dr_take (i := 6) rfl rfl rfl (want_none rfl _) (by kernel_rfl) (fun _ hS => run_load_int (r := ((ns.getD ((ns.length : Int) - 1).toNat default).l).getD j 0) rfl ag3 (z := (j : Int)) rfl hr34 (Pins.of_le hS (Pin.le_trans (Pin.le_trans hle10 hle60) hlek66)) (by omega) (by omega)) hX76.pins ?_
    refine dr_one (i := 7) (by kernel_rfl) (drOp1 (i := 7) rfl rfl rfl (want_none rfl _) (o_call (vs := [(.agg [v].toArray), (.int .i64 (((ns.getD ((ns.length : Int) - 1).toNat default).l).getD j 0))]) Try.func82 nm82 rfl rfl rfl ?_))
    refine Calls.mono (l3Part_spec hX76.pins (hv.mono (Pin.le_trans (Pin.le_trans hle10 hle60) hlek66)) (good_form hg) (hL _ (by omega))) ?_
    rintro _ w81 ⟨u79, G80, rfl, hr82, hx83⟩
    refine ⟨_, rfl, ?_⟩
    have hX84 := hX76.tr hx83
    have ho85 := ho77.ext hx83
    have ho86 := ho78.ext hx83
    refine ⟨fun _ => (Pins.of_le hX84.pins hx83.le), ?_⟩
    refine dr_one (i := 8) (by kernel_rfl) (drOp1 (i := 8) rfl rfl rfl (want_none rfl _) (o_build1 (E := (eSl eNode)) (e := 50) [u79] (partS ns (((ns.getD ((ns.length : Int) - 1).toNat default).l).getD j 0)) Try.underlying28 sz50 zr50 ⟨_, rfl, hr82⟩ rfl (by decide) hX84.pins (fun u87 w88 ho89 hp90 hl91 hk92 => ?_)))
    have hX93 := hX84.step hp90 hl91
    have ho94 := ho85.below hl91
    have ho95 := ho86.below hl91
    have ha96 : Apart u87.ownBlock ovA.ownBlock := new_ne_own hk92 ho85.lt
    have ha97 : Apart u87.ownBlock u22.ownBlock := new_ne_own hk92 ho86.lt
    have ho98 : Own (eSl eNode) 50 G80 w88 w.heap.size u87 ([partS ns (((ns.getD ((ns.length : Int) - 1).toNat default).l).getD j 0)]) := ho89.weaken hX84.size
    refine ⟨fun _ => (Pins.of_le hX93.pins hx83.le), ?_⟩
    refine dr_one (i := 9) (by kernel_rfl) (drOp1 (i := 9) rfl rfl rfl (want_none rfl _) (o_append (E := (eSl eNode)) (v := ovA) (u := u87) 24 Try.underlying28 ap50 (by decide) rfl rfl hX93.pins ho94 ho98.src (by first | omega | (rw [List.nil_append]; omega) | (rw [List.length_nil]; omega) | (rw [List.length_append]; omega) | (simp; done) | (simp; omega)) (by first | omega | (rw [List.nil_append]; omega) | (rw [List.length_nil]; omega) | (rw [List.length_append]; omega) | (simp; done) | (simp; omega)) (hX93.size) (fun u99 w100 ho101 hp102 hg103 hw104 => ?_)))
    have hX105 := hX93.write hp102 hg103 ((lo_own ho94))
    have ho106 := ho95.keptA hg103 ha72.symm
    have ho107 := ho98.keptA hg103 ha96
    have ha108 : Apart u22.ownBlock u99.ownBlock := app_ne_own ha72.symm hw104 ho95.lt
    have ha109 : Apart u87.ownBlock u99.ownBlock := app_ne_own ha96 hw104 ho98.lt
    have hm110 : (osA ++ ([partS ns (((ns.getD ((ns.length : Int) - 1).toNat default).l).getD j 0)])).length = osA.length + 1 := by simp
    refine ⟨fun _ => (Pins.of_le hX105.pins hx83.le), ?_⟩
    refine dr_take (i := 10) rfl rfl rfl (want_none rfl _) (by kernel_rfl) (fun _ _ => r_assign (v := u99) rfl) (Pins.of_le hX105.pins hx83.le) ?_
    refine dr_end (by kernel_rfl) ?_
    refine s_blkN ?_
    refine s_then ?_
    refine c_reg ?_
    refine qd rfl rfl rfl (r_move (v := (.int .i64 (j : Int))) rfl) ?_
    refine qd rfl rfl rfl (r_add rfl rfl (by omega)) ?_
    refine qd rfl rfl rfl (r_assign (v := (.int .i64 ((j : Int) + 1))) rfl) ?_
    refine qe ?_
    refine s_lopN ?_
    refine ⟨_, ?_, _, rfl, _, j + 1, u99, osA ++ [partS ns ((ns.getD ((ns.length : Int) - 1).toNat default).l.getD j 0)], G80, (packS (x := 7) (packS (x := 6) (packS (x := 5) (packS (x := 4) (packS (x := 3) (packS (x := 2) (pack1 (x := 1) rfl) rfl) rfl) rfl) rfl) rfl) rfl), rfl, hX105, (Pin.le_trans hlek66 hx83.le), (by omega), (by rw [hosA]; exact optsS_next (by omega)), (by simp; omega), ho101, ho106, ha108.symm⟩
    omega
  · skip
    refine wp_exit ?_
    refine s_thenE ?_
    refine s_lopE ?_
    refine s_blkE ?_
    refine s_then ?_
    refine s_seq ?_
    refine s_seq ?_
    refine c_reg ?_
    refine qd rfl rfl rfl (r_assign (v := (.int .i64 0)) rfl) ?_
    refine qe ?_
    refine s_then ?_
    refine s_blk ?_
    refine s_loop (fun (k : Nat) (en : Nat → Value) (W : World) => ∃ (env1 : Nat → Value) (i : Nat) (ovB : Value) (osB : List (List Nd)) (GB : Pin), en = (upd (upd (upd (upd (upd (upd (upd env1 1 (.pointer (some ⟨b1, 0, none⟩))) 2 (.slice none 0 0)) 3 (.slice none 0 0)) 4 ovA) 5 ovB) 6 (.pointer (some ⟨b39, 0, none⟩))) 8 (.int .i64 (i : Int))) ∧ k = (ns.getD ((ns.length : Int) - 1).toNat default).r.length - i ∧ Ext noS G w GB W ∧ Pin.le GA GB ∧ (i ≤ (ns.getD ((ns.length : Int) - 1).toNat default).r.length) ∧ (osB = optsS ns ((ns.getD ((ns.length : Int) - 1).toNat default).r.take i)) ∧ (osB.length = i) ∧ (Own (eSl eNode) 50 GB W w.heap.size ovB (osB)) ∧ (Own (eSl eNode) 50 GB W w.heap.size ovA (osA)) ∧ (Apart ovB.ownBlock ovA.ownBlock)) _ ⟨_, 0, u22, [], GA, (packS (x := 8) (packS (x := 6) (packS (x := 5) (packS (x := 4) (packS (x := 3) (packS (x := 2) (pack1 (x := 1) rfl) rfl) rfl) rfl) rfl) rfl) rfl), rfl, hX69, Pin.le_refl _, Nat.zero_le _, rfl, rfl, hw71, hw70, ha72.symm⟩ ?_
    rintro k111 _ w112 ⟨env1, i, ovB, osB, GB, rfl, hk113, hX114, hlek111, hjB, hosB, holB, hw115, hw116, ha117⟩
    refine s_seq ?_
    refine s_seq ?_
    refine c_reg ?_
    refine qd rfl rfl rfl (r_move (v := (.int .i64 (i : Int))) rfl) ?_
    refine qd rfl rfl rfl (r_fldp (k := 1) rfl Try.underlying90 rfl nz63 rfl) ?_
    refine qd rfl rfl rfl (r_ldp1 (u := u33) ag63 rfl ((Pins.of_le hX114.pins (Pin.le_trans hlek66 hlek111)) _ _ _ (hbp62 1 _ rfl))) ?_
    refine qd rfl rfl rfl (run_len Try.underlying63 (v := u33) rfl hr35) ?_
    refine qd rfl rfl rfl (r_lss rfl rfl) ?_
    refine qe ?_
    refine s_then ?_
    refine c_ifd (p := ((i : Int) : Int) < (((ns.getD ((ns.length : Int) - 1).toNat default).r).length : Int)) rfl rfl (fun h118 => ?_) (fun h118 => ?_)
    · skip
      refine wp_skip ?_
      refine s_then ?_
      refine s_seq ?_
      refine s_blk ?_
      refine c_draw (S := fun w => Pins GB w) (last := 11) (by kernel_rfl) rfl ?_
      have hl119 : Below w112.heap.size w112 w112.drew := (Below.refl _ _).drew
      have hp120 := hX114.pins.below hl119
      have hX121 := hX114.step hp120 hl119
      have ho122 := hw115.below hl119
      have ho123 := hw116.below hl119
      refine dr_take (i := 0) rfl rfl rfl (want_none rfl _) (by kernel_rfl) (fun _ _ => r_move (v := ovB) rfl) hX121.pins ?_
      refine dr_take (i := 1) rfl rfl rfl (want_none rfl _) (by kernel_rfl) (fun _ hS => r_ldpA (cs := [v]) ag50 sz50 rfl (fun j u hj => (Pins.of_le hS (Pin.le_trans (Pin.le_trans hle60 hlek66) hlek111)) _ _ _ (hbp12 _ _ (by simpa using hj)))) hX121.pins ?_
      refine dr_take (i := 2) rfl rfl rfl (want_none rfl _) (by kernel_rfl) (fun _ _ => r_fldp (k := 1) rfl Try.underlying90 rfl nz63 rfl) hX121.pins ?_
      refine dr_take (i := 3) rfl rfl rfl (want_none rfl _) (by kernel_rfl) (fun _ hS => r_ldp1 (u := u33) ag63 rfl ((Pins.of_le hS (Pin.le_trans hlek66 hlek111)) _ _ _ (hbp62 1 _ rfl))) hX121.pins ?_
      refine dr_take (i := 4) rfl rfl rfl (want_none rfl _) (by kernel_rfl) (fun _ _ => r_move (v := (.int .i64 (i : Int))) rfl) hX121.pins ?_
      refine dr_take (i := 5) rfl rfl rfl (want_none rfl _) (by kernel_rfl) (fun _ _ => run_idx Try.underlying63 sz3 (v := u33) rfl rfl hr35 (by omega) (by omega)) hX121.pins ?_
      refine dr_take (i := 6) rfl rfl rfl (want_none rfl _) (by kernel_rfl) (fun _ hS => run_load_int (r := ((ns.getD ((ns.length : Int) - 1).toNat default).r).getD i 0) rfl ag3 (z := (i : Int)) rfl hr35 (Pins.of_le hS (Pin.le_trans (Pin.le_trans (Pin.le_trans hle10 hle60) hlek66) hlek111)) (by omega) (by omega)) hX121.pins ?_
      refine dr_one (i := 7) (by kernel_rfl) (drOp1 (i := 7) rfl rfl rfl (want_none rfl _) (o_call (vs := [(.agg [v].toArray), (.int .i64 (((ns.getD ((ns.length : Int) - 1).toNat default).r).getD i 0))]) Try.func82 nm82 rfl rfl rfl ?_))
      refine Calls.mono (l3Part_spec hX121.pins (hv.mono (Pin.le_trans (Pin.le_trans (Pin.le_trans hle10 hle60) hlek66) hlek111)) (good_form hg) (hR _ (by omega))) ?_
      rintro _ w126 ⟨u124, G125, rfl, hr127, hx128⟩
      refine ⟨_, rfl, ?_⟩
      have hX129 := hX121.tr hx128
      have ho130 := ho122.ext hx128
      have ho131 := ho123.ext hx128
      refine ⟨fun _ => (Pins.of_le hX129.pins hx128.le), ?_⟩
      refine dr_one (i := 8) (by kernel_rfl) (drOp1 (i := 8) rfl rfl rfl (want_none rfl _) (o_build1 (E := (eSl eNode)) (e := 50) [u124] (partS ns (((ns.getD ((ns.length : Int) - 1).toNat default).r).getD i 0)) Try.underlying28 sz50 zr50 ⟨_, rfl, hr127⟩ rfl (by decide) hX129.pins (fun u132 w133 ho134 hp135 hl136 hk137 => ?_)))
      have hX138 := hX129.step hp135 hl136
      have ho139 := ho130.below hl136
      have ho140 := ho131.below hl136
      have ha141 : Apart u132.ownBlock ovB.ownBlock := new_ne_own hk137 ho130.lt
      have ha142 : Apart u132.ownBlock ovA.ownBlock := new_ne_own hk137 ho131.lt
      have ho143 : Own (eSl eNode) 50 G125 w133 w.heap.size u132 ([partS ns (((ns.getD ((ns.length : Int) - 1).toNat default).r).getD i 0)]) := ho134.weaken hX129.size
      refine ⟨fun _ => (Pins.of_le hX138.pins hx128.le), ?_⟩
      refine dr_one (i := 9) (by kernel_rfl) (drOp1 (i := 9) rfl rfl rfl (want_none rfl _) (o_append (E := (eSl eNode)) (v := ovB) (u := u132) 24 Try.underlying28 ap50 (by decide) rfl rfl hX138.pins ho139 ho143.src (by first | omega | (rw [List.nil_append]; omega) | (rw [List.length_nil]; omega) | (rw [List.length_append]; omega) | (simp; done) | (simp; omega)) (by first | omega | (rw [List.nil_append]; omega) | (rw [List.length_nil]; omega) | (rw [List.length_append]; omega) | (simp; done) | (simp; omega)) (hX138.size) (fun u144 w145 ho146 hp147 hg148 hw149 => ?_)))
      have hX150 := hX138.write hp147 hg148 ((lo_own ho139))
      have ho151 := ho140.keptA hg148 ha117.symm
      have ho152 := ho143.keptA hg148 ha141
      have ha153 : Apart ovA.ownBlock u144.ownBlock := app_ne_own ha117.symm hw149 ho140.lt
      have ha154 : Apart u132.ownBlock u144.ownBlock := app_ne_own ha141 hw149 ho143.lt
      have hm155 : (osB ++ ([partS ns (((ns.getD ((ns.length : Int) - 1).toNat default).r).getD i 0)])).length = osB.length + 1 := by simp
      refine ⟨fun _ => (Pins.of_le hX150.pins hx128.le), ?_⟩
      refine dr_take (i := 10) rfl rfl rfl (want_none rfl _) (by kernel_rfl) (fun _ _ => r_assign (v := u144) rfl) (Pins.of_le hX150.pins hx128.le) ?_
      refine dr_end (by kernel_rfl) ?_
      refine s_blkN ?_
      refine s_then ?_
      refine c_reg ?_
      refine qd rfl rfl rfl (r_move (v := (.int .i64 (i : Int))) rfl) ?_
      refine qd rfl rfl rfl (r_add rfl rfl (by omega)) ?_
      refine qd rfl rfl rfl (r_assign (v := (.int .i64 ((i : Int) + 1))) rfl) ?_
      refine qe ?_
      refine s_lopN ?_
      refine ⟨_, ?_, _, rfl, _, i + 1, u144, osB ++ [partS ns ((ns.getD ((ns.length : Int) - 1).toNat default).r.getD i 0)], G125, (packS (x := 8) (packS (x := 6) (packS (x := 5) (packS (x := 4) (packS (x := 3) (packS (x := 2) (pack1 (x := 1) rfl) rfl) rfl) rfl) rfl) rfl) rfl), rfl, hX150, (Pin.le_trans hlek111 hx128.le), (by omega), (by rw [hosB]; exact optsS_next (by omega)), (by simp; omega), ho146, ho151, ha153.symm⟩
      omega
    · skip
      refine wp_exit ?_
      refine s_thenE ?_
      refine s_lopE ?_
      refine s_blkE ?_
      refine s_then ?_
      refine s_seq ?_
      refine c_reg ?_
      refine qd rfl rfl rfl (r_move (v := ovA) rfl) ?_
      refine qd rfl rfl rfl (r_move (v := ovB) rfl) ?_
      refine qd rfl rfl rfl (r_assign (v := ovA) rfl) ?_
      refine qd rfl rfl rfl (r_assign (v := ovB) rfl) ?_
      refine qe ?_
      refine s_then ?_
      refine wp_ret ?_
      refine s_ret ?_
      refine c_ret2 (v := ovA) (u := ovB) rfl rfl rfl rfl rfl ?_
      obtain ⟨G156, hle159, hX158, hr157, hf160⟩ := hw116.sealed hX114
      have ho161 := hw115.moreO hle159 hf160 ha117
      obtain ⟨G162, hle165, hX164, hr163, hf166⟩ := ho161.sealed hX158
      rw [take_all (by omega)] at hosA hosB
      rw [elast, ← hosA, ← hosB]
      exact ⟨_, _, _, rfl, (hr157.mono hle165), hr163, hX164⟩

theorem l14Side_spec {w : World} {G : Pin} {v : Value} {ns : List Nd} {lf : Bool} (hP : Pins G w) (hv : RSl eNode G v ns) (hg : GoodP ns) :
    Calls Try.prog 25 [(.agg [v].toArray), (.bool lf)].toArray w fun e w' => ∃ (u : Value) (G' : Pin), e = .returned u ∧ RSl (eSl eNode) G' u (sideS lf ns) ∧ Ext noS G w G' w' := by
  refine s_enter (n := 15) Try.func25 Try.ntmps25 rfl rfl ?_
  have hX0 : Ext noS G w G w := Ext.refl hP
  refine s_seq ?_
  refine c_reg ?_
  refine q1 rfl rfl rfl (o_box [v] (v := (.agg [v].toArray)) rfl rfl hX0.pins (fun b1 w2 hk3 hb4 hp5 hl6 => ?_))
  have hX7 := hX0.step hp5 hl6
  have hlo8 : w.heap.size ≤ b1 := by have := hX0.size; omega
  obtain ⟨G9, hle10, hX11, hbp12, hf13⟩ := hb4.shut hX7 hlo8
  refine qd rfl rfl rfl (r_assign (v := (.slice none 0 0)) rfl) ?_
  refine qe ?_
  refine s_then ?_
  refine s_seq ?_
  refine c_reg ?_
  refine qd rfl rfl rfl (r_ldpA (cs := [v]) ag50 sz50 rfl (fun j u hj => hX11.pins _ _ _ (hbp12 _ _ (by simpa using hj)))) ?_
  refine q1 rfl rfl rfl (o_call (vs := [(.agg [v].toArray)]) Try.func49 nm49 rfl rfl rfl ?_)
  refine Calls.mono (l3Opts_spec hX11.pins (hv.mono hle10) hg) ?_
  rintro _ w17 ⟨u14, v15, G16, rfl, hr18, hr19, hx20⟩
  refine ⟨_, rfl, ?_⟩
  have hX21 := hX11.tr hx20
  refine qd rfl rfl rfl (r_move (v := (.tuple #[u14, v15])) rfl) ?_
  refine qd rfl rfl rfl (r_extract (v := u14) rfl rfl) ?_
  refine qd rfl rfl rfl (r_extract (v := v15) rfl rfl) ?_
  refine qd rfl rfl rfl (r_assign (v := u14) rfl) ?_
  refine qd rfl rfl rfl (r_assign (v := v15) rfl) ?_
  refine qe ?_
  refine s_then ?_
  refine s_seq ?_
  refine s_seq ?_
  refine c_reg ?_
  refine qd rfl rfl rfl (r_move (v := (.bool lf)) rfl) ?_
  refine qe ?_
  refine s_then ?_
  refine c_if rfl rfl (fun h22 => ?_) (fun h22 => ?_)
  · skip
    refine s_seq ?_
    refine c_reg ?_
    refine qd rfl rfl rfl (r_move (v := u14) rfl) ?_
    refine qd rfl rfl rfl (r_assign (v := u14) rfl) ?_
    refine qe ?_
    refine s_then ?_
    refine wp_ret ?_
    refine s_ret ?_
    refine c_ret1 (v := u14) rfl rfl rfl ?_
    exact ⟨_, _, rfl, (by unfold sideS optL; rw [if_pos h22]; exact hr18), hX21⟩
  · skip
    refine wp_skip ?_
    refine s_then ?_
    refine s_seq ?_
    refine c_reg ?_
    refine qd rfl rfl rfl (r_move (v := v15) rfl) ?_
    refine qd rfl rfl rfl (r_assign (v := v15) rfl) ?_
    refine qe ?_
    refine s_then ?_
    refine wp_ret ?_
    refine s_ret ?_
    refine c_ret1 (v := v15) rfl rfl rfl ?_
    exact ⟨_, _, rfl, (by unfold sideS optL; rw [if_neg (by rw [h22]; decide)]; exact hr19), hX21⟩

end N1
end Go.Proofs.Ytphmcmkpcjlkfaa
