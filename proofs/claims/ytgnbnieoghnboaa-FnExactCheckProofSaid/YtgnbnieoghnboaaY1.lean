/- Walks, printed by a program (walkgen.py) from the spec specs_y. -/
import Derived.Test.YtgnbnieoghnboaaChecked
import Derived.Test.YtgnbnieoghnboaaRow
import Derived.Test.YtgnbnieoghnboaaClaim
import Derived.Test.YtgnbnieoghnboaaText
import Derived.Test.YtgnbnieoghnboaaL1
import Derived.Test.YtgnbnieoghnboaaLC1
import Derived.Test.YtgnbnieoghnboaaB1
import Derived.Test.YtgnbnieoghnboaaC1
import Derived.Test.YtgnbnieoghnboaaE1
import Derived.Test.YtgnbnieoghnboaaP1
set_option maxRecDepth 20000
set_option maxHeartbeats 1000000
namespace Go.Proofs.Ytgnbnieoghnboaa
namespace Y1
open Go.RowKit Go.GL Go.Proofs
open Go.Proofs.Ytgnbnieoghnboaa.L1
open Go.Proofs.Ytgnbnieoghnboaa.LC1
open Go.Proofs.Ytgnbnieoghnboaa.B1
open Go.Proofs.Ytgnbnieoghnboaa.C1
open Go.Proofs.Ytgnbnieoghnboaa.E1
open Go.Proofs.Ytgnbnieoghnboaa.P1
theorem ag24 : (Try.prog.underlying 24).map aggD = some true := by kernel_rfl
theorem ag27 : (Try.prog.underlying 27).map aggD = some true := by kernel_rfl
theorem ag34 : (Try.prog.underlying 34).map aggD = some true := by kernel_rfl
theorem ag38 : (Try.prog.underlying 38).map aggD = some true := by kernel_rfl
theorem nm10 : (Try.f10.name == "runtime.NumGoroutine") = false := by kernel_rfl
theorem nm11 : (Try.f11.name == "runtime.NumGoroutine") = false := by kernel_rfl
theorem nm12 : (Try.f12.name == "runtime.NumGoroutine") = false := by kernel_rfl
theorem nm13 : (Try.f13.name == "runtime.NumGoroutine") = false := by kernel_rfl
theorem nm6 : (Try.f6.name == "runtime.NumGoroutine") = false := by kernel_rfl
theorem nm7 : (Try.f7.name == "runtime.NumGoroutine") = false := by kernel_rfl
theorem nm8 : (Try.f8.name == "runtime.NumGoroutine") = false := by kernel_rfl
theorem nm9 : (Try.f9.name == "runtime.NumGoroutine") = false := by kernel_rfl
theorem sz24 : (Try.prog.info? 24).map (·.size) = some 1 := by kernel_rfl
theorem sz27 : (Try.prog.info? 27).map (·.size) = some 1 := by kernel_rfl
theorem sz34 : (Try.prog.info? 34).map (·.size) = some 1 := by kernel_rfl
theorem sz38 : (Try.prog.info? 38).map (·.size) = some 1 := by kernel_rfl
theorem zr34 : (Try.prog.info? 34).bind (·.zero) = some (.agg #[(.slice none 0 0)]) := by kernel_rfl
theorem zr38 : (Try.prog.info? 38).bind (·.zero) = some (.agg #[(.slice none 0 0)]) := by kernel_rfl

theorem law {w : World} {G : Pin} {u v x : Value} {ns ms : List Nd} {ps : List Cl} (hP : Pins G w) (hu : RSl eNode G u ns) (hv : RSl eNode G v ms) (hx : RSl eClaim G x ps) :
    Calls Try.prog 3 [(.agg [u].toArray), (.agg [v].toArray), (.agg [x].toArray)].toArray w fun e w' => ∃ G', e = .returned (.bool true) ∧ Ext noS G w G' w' := by
  refine s_enter (n := 76) Try.func3 Try.ntmps3 rfl rfl ?_
  have hX0 : Ext noS G w G w := Ext.refl hP
  refine s_seq ?_
  refine c_reg ?_
  refine q1 rfl rfl rfl (o_box [u] (v := (.agg [u].toArray)) rfl rfl hX0.pins (fun b1 w2 hk3 hb4 hp5 hl6 => ?_))
  have hX7 := hX0.step hp5 hl6
  have hlo8 : w.heap.size ≤ b1 := by have := hX0.size; omega
  obtain ⟨G9, hle10, hX11, hbp12, hf13⟩ := hb4.shut hX7 hlo8
  refine q1 rfl rfl rfl (o_box [v] (v := (.agg [v].toArray)) rfl rfl hX11.pins (fun b14 w15 hk16 hb17 hp18 hl19 => ?_))
  have hX20 := hX11.step hp18 hl19
  have hlo21 : w.heap.size ≤ b14 := by have := hX11.size; omega
  obtain ⟨G22, hle23, hX24, hbp25, hf26⟩ := hb17.shut hX20 hlo21
  refine q1 rfl rfl rfl (o_box [x] (v := (.agg [x].toArray)) rfl rfl hX24.pins (fun b27 w28 hk29 hb30 hp31 hl32 => ?_))
  have hX33 := hX24.step hp31 hl32
  have hlo34 : w.heap.size ≤ b27 := by have := hX24.size; omega
  obtain ⟨G35, hle36, hX37, hbp38, hf39⟩ := hb30.shut hX33 hlo34
  refine qd rfl rfl rfl (r_assign (v := (.bool false)) rfl) ?_
  refine qe ?_
  refine s_then ?_
  refine s_seq ?_
  refine c_reg ?_
  refine qd rfl rfl rfl (r_assign (v := (.int .i64 1048576)) rfl) ?_
  refine qe ?_
  refine s_then ?_
  refine s_seq ?_
  refine c_reg ?_
  refine qd rfl rfl rfl (r_ldpA (cs := [u]) ag24 sz24 rfl (fun j u hj => (Pins.of_le hX37.pins (Pin.le_trans hle23 hle36)) _ _ _ (hbp12 _ _ (by simpa using hj)))) ?_
  refine qd rfl rfl rfl (r_move (v := (.int .i64 1048576)) rfl) ?_
  refine q1 rfl rfl rfl (o_call (vs := [(.agg [u].toArray), (.int .i64 1048576)]) Try.func6 nm6 rfl rfl rfl ?_)
  refine Calls.mono (szForm_spec hX37.pins (hu.mono (Pin.le_trans (Pin.le_trans hle10 hle23) hle36)) (by omega)) ?_
  rintro _ w42 ⟨z40, G41, rfl, hz43, hx44⟩
  refine ⟨_, rfl, ?_⟩
  have hX45 := hX37.tr hx44
  refine qd rfl rfl rfl (r_assign (v := (.int .i64 z40)) rfl) ?_
  refine qe ?_
  refine s_then ?_
  refine s_seq ?_
  refine s_seq ?_
  refine c_reg ?_
  refine qd rfl rfl rfl (r_move (v := (.int .i64 z40)) rfl) ?_
  refine qd rfl rfl rfl (r_lss rfl rfl) ?_
  refine qe ?_
  refine s_then ?_
  refine c_ifd (p := (z40 : Int) < 0) rfl rfl (fun h46 => ?_) (fun h46 => ?_)
  · skip
    refine s_seq ?_
    refine c_reg ?_
    refine qd rfl rfl rfl (r_assign (v := (.bool true)) rfl) ?_
    refine qe ?_
    refine s_then ?_
    refine wp_ret ?_
    refine s_ret ?_
    refine c_ret1 (v := (.bool true)) rfl rfl rfl ?_
    exact ⟨_, rfl, hX45⟩
  · skip
    refine wp_skip ?_
    refine s_then ?_
    refine s_seq ?_
    refine c_reg ?_
    refine qd rfl rfl rfl (r_ldpA (cs := [v]) ag24 sz24 rfl (fun j u hj => (Pins.of_le hX45.pins (Pin.le_trans hle36 hx44.le)) _ _ _ (hbp25 _ _ (by simpa using hj)))) ?_
    refine qd rfl rfl rfl (r_move (v := (.int .i64 z40)) rfl) ?_
    refine q1 rfl rfl rfl (o_call (vs := [(.agg [v].toArray), (.int .i64 z40)]) Try.func6 nm6 rfl rfl rfl ?_)
    refine Calls.mono (szForm_spec hX45.pins (hv.mono (Pin.le_trans (Pin.le_trans (Pin.le_trans hle10 hle23) hle36) hx44.le)) (by omega)) ?_
    rintro _ w49 ⟨z47, G48, rfl, hz50, hx51⟩
    refine ⟨_, rfl, ?_⟩
    have hX52 := hX45.tr hx51
    refine qd rfl rfl rfl (r_assign (v := (.int .i64 z47)) rfl) ?_
    refine qe ?_
    refine s_then ?_
    refine s_seq ?_
    refine s_seq ?_
    refine c_reg ?_
    refine qd rfl rfl rfl (r_move (v := (.int .i64 z47)) rfl) ?_
    refine qd rfl rfl rfl (r_lss rfl rfl) ?_
    refine qe ?_
    refine s_then ?_
    refine c_ifd (p := (z47 : Int) < 0) rfl rfl (fun h53 => ?_) (fun h53 => ?_)
    · skip
      refine s_seq ?_
      refine c_reg ?_
      refine qd rfl rfl rfl (r_assign (v := (.bool true)) rfl) ?_
      refine qe ?_
      refine s_then ?_
      refine wp_ret ?_
      refine s_ret ?_
      refine c_ret1 (v := (.bool true)) rfl rfl rfl ?_
      exact ⟨_, rfl, hX52⟩
    · skip
      refine wp_skip ?_
      refine s_then ?_
      refine s_seq ?_
      refine c_reg ?_
      refine qd rfl rfl rfl (r_ldpA (cs := [x]) ag27 sz27 rfl (fun j u hj => (Pins.of_le hX52.pins (Pin.le_trans hx44.le hx51.le)) _ _ _ (hbp38 _ _ (by simpa using hj)))) ?_
      refine qd rfl rfl rfl (r_move (v := (.int .i64 z47)) rfl) ?_
      refine q1 rfl rfl rfl (o_call (vs := [(.agg [x].toArray), (.int .i64 z47)]) Try.func7 nm7 rfl rfl rfl ?_)
      refine Calls.mono (szProof_spec hX52.pins (hx.mono (Pin.le_trans (Pin.le_trans (Pin.le_trans (Pin.le_trans hle10 hle23) hle36) hx44.le) hx51.le)) (by omega)) ?_
      rintro _ w56 ⟨z54, G55, rfl, hz57, hx58⟩
      refine ⟨_, rfl, ?_⟩
      have hX59 := hX52.tr hx58
      refine qd rfl rfl rfl (r_assign (v := (.int .i64 z54)) rfl) ?_
      refine qe ?_
      refine s_then ?_
      refine s_seq ?_
      refine s_seq ?_
      refine c_reg ?_
      refine qd rfl rfl rfl (r_move (v := (.int .i64 z54)) rfl) ?_
      refine qd rfl rfl rfl (r_lss rfl rfl) ?_
      refine qe ?_
      refine s_then ?_
      refine c_ifd (p := (z54 : Int) < 0) rfl rfl (fun h60 => ?_) (fun h60 => ?_)
      · skip
        refine s_seq ?_
        refine c_reg ?_
        refine qd rfl rfl rfl (r_assign (v := (.bool true)) rfl) ?_
        refine qe ?_
        refine s_then ?_
        refine wp_ret ?_
        refine s_ret ?_
        refine c_ret1 (v := (.bool true)) rfl rfl rfl ?_
        exact ⟨_, rfl, hX59⟩
      · skip
        refine wp_skip ?_
        refine s_then ?_
        refine s_seq ?_
        have hsn : Small ns := (by rcases hz43 with h | h <;> first | omega | exact small_le h.2.2 (by omega))
        have hsm : Small ms := (by rcases hz50 with h | h <;> first | omega | exact small_le h.2.2 (by omega))
        have hsp : SmallC ps := (by rcases hz57 with h | h <;> first | omega | exact small_le h.2.2 (by omega))
        refine c_draw (S := fun w => Pins G55 w) (last := 12) (by kernel_rfl) rfl ?_
        have hl61 : Below w56.heap.size w56 w56.drew := (Below.refl _ _).drew
        have hp62 := hX59.pins.below hl61
        have hX63 := hX59.step hp62 hl61
        refine dr_take (i := 0) rfl rfl rfl (want_none rfl _) (by kernel_rfl) (fun _ hS => r_ldpA (cs := [u]) ag24 sz24 rfl (fun j u hj => (Pins.of_le hS (Pin.le_trans (Pin.le_trans (Pin.le_trans (Pin.le_trans hle23 hle36) hx44.le) hx51.le) hx58.le)) _ _ _ (hbp12 _ _ (by simpa using hj)))) hX63.pins ?_
        refine dr_take (i := 2) rfl rfl rfl (want_none rfl _) (by kernel_rfl) (fun _ hS => r_ldpA (cs := [v]) ag24 sz24 rfl (fun j u hj => (Pins.of_le hS (Pin.le_trans (Pin.le_trans (Pin.le_trans hle36 hx44.le) hx51.le) hx58.le)) _ _ _ (hbp25 _ _ (by simpa using hj)))) hX63.pins ?_
        refine dr_take (i := 4) rfl rfl rfl (want_none rfl _) (by kernel_rfl) (fun _ hS => r_ldpA (cs := [x]) ag27 sz27 rfl (fun j u hj => (Pins.of_le hS (Pin.le_trans (Pin.le_trans hx44.le hx51.le) hx58.le)) _ _ _ (hbp38 _ _ (by simpa using hj)))) hX63.pins ?_
        refine dr_one (i := 1) (by kernel_rfl) (drOp1 (i := 1) rfl rfl rfl (want_none rfl _) (o_call (vs := [(.agg [u].toArray)]) Try.func9 nm9 rfl rfl rfl ?_))
        refine Calls.mono (toForm_spec hX63.pins (hu.mono (Pin.le_trans (Pin.le_trans (Pin.le_trans (Pin.le_trans (Pin.le_trans hle10 hle23) hle36) hx44.le) hx51.le) hx58.le)) hsn) ?_
        rintro _ w66 ⟨u64, G65, rfl, hr67, hx68⟩
        refine ⟨_, rfl, ?_⟩
        have hX69 := hX63.tr hx68
        refine ⟨fun _ => (Pins.of_le hX69.pins hx68.le), ?_⟩
        refine dr_one (i := 3) (by kernel_rfl) (drOp1 (i := 3) rfl rfl rfl (want_none rfl _) (o_call (vs := [(.agg [v].toArray)]) Try.func9 nm9 rfl rfl rfl ?_))
        refine Calls.mono (toForm_spec hX69.pins (hv.mono (Pin.le_trans (Pin.le_trans (Pin.le_trans (Pin.le_trans (Pin.le_trans (Pin.le_trans hle10 hle23) hle36) hx44.le) hx51.le) hx58.le) hx68.le)) hsm) ?_
        rintro _ w72 ⟨u70, G71, rfl, hr73, hx74⟩
        refine ⟨_, rfl, ?_⟩
        have hX75 := hX69.tr hx74
        refine ⟨fun _ => (Pins.of_le hX75.pins (Pin.le_trans hx68.le hx74.le)), ?_⟩
        refine dr_one (i := 5) (by kernel_rfl) (drOp1 (i := 5) rfl rfl rfl (want_none rfl _) (o_call (vs := [(.agg [x].toArray)]) Try.func10 nm10 rfl rfl rfl ?_))
        refine Calls.mono (toProof_spec hX75.pins (hx.mono (Pin.le_trans (Pin.le_trans (Pin.le_trans (Pin.le_trans (Pin.le_trans (Pin.le_trans (Pin.le_trans hle10 hle23) hle36) hx44.le) hx51.le) hx58.le) hx68.le) hx74.le)) hsp) ?_
        rintro _ w78 ⟨u76, G77, rfl, hr79, hx80⟩
        refine ⟨_, rfl, ?_⟩
        have hX81 := hX75.tr hx80
        refine ⟨fun _ => (Pins.of_le hX81.pins (Pin.le_trans (Pin.le_trans hx68.le hx74.le) hx80.le)), ?_⟩
        refine dr_one (i := 6) (by kernel_rfl) (drOp1 (i := 6) rfl rfl rfl (want_none rfl _) (o_call (vs := [(.agg [u64].toArray), (.agg [u70].toArray), (.agg [u76].toArray)]) Try.func8 nm8 rfl rfl rfl ?_))
        refine Calls.mono (sCheckProof_spec hX81.pins (hr67.mono (Pin.le_trans hx74.le hx80.le)) (hr73.mono hx80.le) hr79) ?_
        rintro _ w83 ⟨G82, rfl, hx84⟩
        refine ⟨_, rfl, ?_⟩
        have hX85 := hX81.tr hx84
        refine ⟨fun _ => (Pins.of_le hX85.pins (Pin.le_trans (Pin.le_trans (Pin.le_trans hx68.le hx74.le) hx80.le) hx84.le)), ?_⟩
        refine dr_take (i := 7) rfl rfl rfl (want_none rfl _) (by kernel_rfl) (fun _ _ => r_move (v := (.tuple #[(.bool (cpB ns ms ps)), (.bool (goodB ns && goodB ms))])) rfl) (Pins.of_le hX85.pins (Pin.le_trans (Pin.le_trans (Pin.le_trans hx68.le hx74.le) hx80.le) hx84.le)) ?_
        refine dr_take (i := 8) rfl rfl rfl (want_none rfl _) (by kernel_rfl) (fun _ _ => r_extract (v := (.bool (cpB ns ms ps))) rfl rfl) (Pins.of_le hX85.pins (Pin.le_trans (Pin.le_trans (Pin.le_trans hx68.le hx74.le) hx80.le) hx84.le)) ?_
        refine dr_take (i := 9) rfl rfl rfl (want_none rfl _) (by kernel_rfl) (fun _ _ => r_extract (v := (.bool (goodB ns && goodB ms))) rfl rfl) (Pins.of_le hX85.pins (Pin.le_trans (Pin.le_trans (Pin.le_trans hx68.le hx74.le) hx80.le) hx84.le)) ?_
        refine dr_take (i := 10) rfl rfl rfl (want_none rfl _) (by kernel_rfl) (fun _ _ => r_assign (v := (.bool (cpB ns ms ps))) rfl) (Pins.of_le hX85.pins (Pin.le_trans (Pin.le_trans (Pin.le_trans hx68.le hx74.le) hx80.le) hx84.le)) ?_
        refine dr_take (i := 11) rfl rfl rfl (want_none rfl _) (by kernel_rfl) (fun _ _ => r_assign (v := (.bool (goodB ns && goodB ms))) rfl) (Pins.of_le hX85.pins (Pin.le_trans (Pin.le_trans (Pin.le_trans hx68.le hx74.le) hx80.le) hx84.le)) ?_
        refine dr_end (by kernel_rfl) ?_
        refine s_then ?_
        refine s_seq ?_
        refine c_reg ?_
        refine qd rfl rfl rfl (r_ldpA (cs := [u]) ag24 sz24 rfl (fun j u hj => (Pins.of_le hX85.pins (Pin.le_trans (Pin.le_trans (Pin.le_trans (Pin.le_trans (Pin.le_trans (Pin.le_trans (Pin.le_trans (Pin.le_trans hle23 hle36) hx44.le) hx51.le) hx58.le) hx68.le) hx74.le) hx80.le) hx84.le)) _ _ _ (hbp12 _ _ (by simpa using hj)))) ?_
        refine q1 rfl rfl rfl (o_call (vs := [(.agg [u].toArray)]) Try.func9 nm9 rfl rfl rfl ?_)
        refine Calls.mono (toForm_spec hX85.pins (hu.mono (Pin.le_trans (Pin.le_trans (Pin.le_trans (Pin.le_trans (Pin.le_trans (Pin.le_trans (Pin.le_trans (Pin.le_trans (Pin.le_trans hle10 hle23) hle36) hx44.le) hx51.le) hx58.le) hx68.le) hx74.le) hx80.le) hx84.le)) hsn) ?_
        rintro _ w88 ⟨u86, G87, rfl, hr89, hx90⟩
        refine ⟨_, rfl, ?_⟩
        have hX91 := hX85.tr hx90
        refine q1 rfl rfl rfl (o_alloc [(.slice none 0 0)] zr34 rfl hX91.pins (fun b92 w93 hk94 hb95 hp96 hl97 => ?_))
        have hX98 := hX91.step hp96 hl97
        have hlo99 : w.heap.size ≤ b92 := by have := hX91.size; omega
        refine q0 rfl rfl rfl (o_stp (cs' := [u86]) (us := [u86]) (v := (.agg [u86].toArray)) sz34 rfl rfl rfl (ones1 hr89.one) hX98.pins hb95 (Nat.le_of_ble_eq_true rfl) rfl (fun w100 hb101 hp102 hg103 hz104 => ?_))
        have hX105 := hX98.write hp102 hg103 ((lo_box hlo99))
        obtain ⟨G106, hle107, hX108, hbp109, hf110⟩ := hb101.shut hX105 hlo99
        refine qe ?_
        refine s_then ?_
        refine s_seq ?_
        refine c_reg ?_
        refine qd rfl rfl rfl (r_ldpA (cs := [v]) ag24 sz24 rfl (fun j u hj => (Pins.of_le hX108.pins (Pin.le_trans (Pin.le_trans (Pin.le_trans (Pin.le_trans (Pin.le_trans (Pin.le_trans (Pin.le_trans (Pin.le_trans (Pin.le_trans hle36 hx44.le) hx51.le) hx58.le) hx68.le) hx74.le) hx80.le) hx84.le) hx90.le) hle107)) _ _ _ (hbp25 _ _ (by simpa using hj)))) ?_
        refine q1 rfl rfl rfl (o_call (vs := [(.agg [v].toArray)]) Try.func9 nm9 rfl rfl rfl ?_)
        refine Calls.mono (toForm_spec hX108.pins (hv.mono (Pin.le_trans (Pin.le_trans (Pin.le_trans (Pin.le_trans (Pin.le_trans (Pin.le_trans (Pin.le_trans (Pin.le_trans (Pin.le_trans (Pin.le_trans (Pin.le_trans hle10 hle23) hle36) hx44.le) hx51.le) hx58.le) hx68.le) hx74.le) hx80.le) hx84.le) hx90.le) hle107)) hsm) ?_
        rintro _ w113 ⟨u111, G112, rfl, hr114, hx115⟩
        refine ⟨_, rfl, ?_⟩
        have hX116 := hX108.tr hx115
        refine q1 rfl rfl rfl (o_alloc [(.slice none 0 0)] zr34 rfl hX116.pins (fun b117 w118 hk119 hb120 hp121 hl122 => ?_))
        have hX123 := hX116.step hp121 hl122
        have hlo124 : w.heap.size ≤ b117 := by have := hX116.size; omega
        refine q0 rfl rfl rfl (o_stp (cs' := [u111]) (us := [u111]) (v := (.agg [u111].toArray)) sz34 rfl rfl rfl (ones1 hr114.one) hX123.pins hb120 (Nat.le_of_ble_eq_true rfl) rfl (fun w125 hb126 hp127 hg128 hz129 => ?_))
        have hX130 := hX123.write hp127 hg128 ((lo_box hlo124))
        obtain ⟨G131, hle132, hX133, hbp134, hf135⟩ := hb126.shut hX130 hlo124
        refine qe ?_
        refine s_then ?_
        refine s_seq ?_
        refine c_reg ?_
        refine qd rfl rfl rfl (r_ldpA (cs := [x]) ag27 sz27 rfl (fun j u hj => (Pins.of_le hX133.pins (Pin.le_trans (Pin.le_trans (Pin.le_trans (Pin.le_trans (Pin.le_trans (Pin.le_trans (Pin.le_trans (Pin.le_trans (Pin.le_trans (Pin.le_trans hx44.le hx51.le) hx58.le) hx68.le) hx74.le) hx80.le) hx84.le) hx90.le) hle107) hx115.le) hle132)) _ _ _ (hbp38 _ _ (by simpa using hj)))) ?_
        refine q1 rfl rfl rfl (o_call (vs := [(.agg [x].toArray)]) Try.func10 nm10 rfl rfl rfl ?_)
        refine Calls.mono (toProof_spec hX133.pins (hx.mono (Pin.le_trans (Pin.le_trans (Pin.le_trans (Pin.le_trans (Pin.le_trans (Pin.le_trans (Pin.le_trans (Pin.le_trans (Pin.le_trans (Pin.le_trans (Pin.le_trans (Pin.le_trans (Pin.le_trans hle10 hle23) hle36) hx44.le) hx51.le) hx58.le) hx68.le) hx74.le) hx80.le) hx84.le) hx90.le) hle107) hx115.le) hle132)) hsp) ?_
        rintro _ w138 ⟨u136, G137, rfl, hr139, hx140⟩
        refine ⟨_, rfl, ?_⟩
        have hX141 := hX133.tr hx140
        refine q1 rfl rfl rfl (o_alloc [(.slice none 0 0)] zr38 rfl hX141.pins (fun b142 w143 hk144 hb145 hp146 hl147 => ?_))
        have hX148 := hX141.step hp146 hl147
        have hlo149 : w.heap.size ≤ b142 := by have := hX141.size; omega
        refine q0 rfl rfl rfl (o_stp (cs' := [u136]) (us := [u136]) (v := (.agg [u136].toArray)) sz38 rfl rfl rfl (ones1 hr139.one) hX148.pins hb145 (Nat.le_of_ble_eq_true rfl) rfl (fun w150 hb151 hp152 hg153 hz154 => ?_))
        have hX155 := hX148.write hp152 hg153 ((lo_box hlo149))
        obtain ⟨G156, hle157, hX158, hbp159, hf160⟩ := hb151.shut hX155 hlo149
        refine qe ?_
        refine s_then ?_
        refine s_seq ?_
        refine c_reg ?_
        refine qd rfl rfl rfl (r_ldpA (cs := [u86]) ag34 sz34 rfl (fun j u hj => (Pins.of_le hX158.pins (Pin.le_trans (Pin.le_trans (Pin.le_trans hx115.le hle132) hx140.le) hle157)) _ _ _ (hbp109 _ _ (by simpa using hj)))) ?_
        refine qd rfl rfl rfl (r_ldpA (cs := [u111]) ag34 sz34 rfl (fun j u hj => (Pins.of_le hX158.pins (Pin.le_trans hx140.le hle157)) _ _ _ (hbp134 _ _ (by simpa using hj)))) ?_
        refine qd rfl rfl rfl (r_ldpA (cs := [u136]) ag38 sz38 rfl (fun j u hj => hX158.pins _ _ _ (hbp159 _ _ (by simpa using hj)))) ?_
        refine q1 rfl rfl rfl (o_call (vs := [(.agg [u86].toArray), (.agg [u111].toArray), (.agg [u136].toArray)]) Try.func11 nm11 rfl rfl rfl ?_)
        refine Calls.mono (iCheckProof_spec hX158.pins (hr89.mono (Pin.le_trans (Pin.le_trans (Pin.le_trans (Pin.le_trans hle107 hx115.le) hle132) hx140.le) hle157)) (hr114.mono (Pin.le_trans (Pin.le_trans hle132 hx140.le) hle157)) (hr139.mono hle157)) ?_
        rintro _ w162 ⟨G161, rfl, hx163⟩
        refine ⟨_, rfl, ?_⟩
        have hX164 := hX158.tr hx163
        refine qd rfl rfl rfl (r_move (v := (.tuple #[(.bool (cpB ns ms ps)), (.bool (goodB ns && goodB ms))])) rfl) ?_
        refine qd rfl rfl rfl (r_extract (v := (.bool (cpB ns ms ps))) rfl rfl) ?_
        refine qd rfl rfl rfl (r_extract (v := (.bool (goodB ns && goodB ms))) rfl rfl) ?_
        refine qd rfl rfl rfl (r_assign (v := (.bool (cpB ns ms ps))) rfl) ?_
        refine qd rfl rfl rfl (r_assign (v := (.bool (goodB ns && goodB ms))) rfl) ?_
        refine qe ?_
        refine s_then ?_
        refine s_seq ?_
        refine s_seq ?_
        refine c_reg ?_
        refine qd rfl rfl rfl (r_move (v := (.bool (cpB ns ms ps))) rfl) ?_
        refine qd rfl rfl rfl (r_move (v := (.bool (cpB ns ms ps))) rfl) ?_
        refine qd rfl rfl rfl (r_neqB_same Try.underlying4 rfl rfl) ?_
        refine qd rfl rfl rfl (r_move (v := (.bool false)) rfl) ?_
        refine qdg rfl rfl rfl rfl rfl rfl (r_move (v := (.bool (goodB ns && goodB ms))) rfl) ?_
        refine qdg rfl rfl rfl rfl rfl rfl (r_move (v := (.bool (goodB ns && goodB ms))) rfl) ?_
        refine qdg rfl rfl rfl rfl rfl rfl (r_neqB_same Try.underlying4 rfl rfl) ?_
        refine qd rfl rfl rfl (r_pickF (v := (.bool false)) rfl rfl) ?_
        refine qe ?_
        refine s_then ?_
        refine c_ifF rfl rfl ?_
        refine wp_skip ?_
        refine s_then ?_
        refine s_seq ?_
        refine s_seq ?_
        refine c_draw (S := fun w => Pins G161 w) (last := 5) (by kernel_rfl) rfl ?_
        have hl165 : Below w162.heap.size w162 w162.drew := (Below.refl _ _).drew
        have hp166 := hX164.pins.below hl165
        have hX167 := hX164.step hp166 hl165
        refine dr_take (i := 0) rfl rfl rfl (want_none rfl _) (by kernel_rfl) (fun _ hS => r_ldpA (cs := [u86]) ag34 sz34 rfl (fun j u hj => (Pins.of_le hS (Pin.le_trans (Pin.le_trans (Pin.le_trans (Pin.le_trans hx115.le hle132) hx140.le) hle157) hx163.le)) _ _ _ (hbp109 _ _ (by simpa using hj)))) hX167.pins ?_
        refine dr_take (i := 1) rfl rfl rfl (want_none rfl _) (by kernel_rfl) (fun _ hS => r_ldpA (cs := [u]) ag24 sz24 rfl (fun j u hj => (Pins.of_le hS (Pin.le_trans (Pin.le_trans (Pin.le_trans (Pin.le_trans (Pin.le_trans (Pin.le_trans (Pin.le_trans (Pin.le_trans (Pin.le_trans (Pin.le_trans (Pin.le_trans (Pin.le_trans (Pin.le_trans (Pin.le_trans (Pin.le_trans hle23 hle36) hx44.le) hx51.le) hx58.le) hx68.le) hx74.le) hx80.le) hx84.le) hx90.le) hle107) hx115.le) hle132) hx140.le) hle157) hx163.le)) _ _ _ (hbp12 _ _ (by simpa using hj)))) hX167.pins ?_
        refine dr_one (i := 2) (by kernel_rfl) (drOp1 (i := 2) rfl rfl rfl (want_none rfl _) (o_call (vs := [(.agg [u].toArray)]) Try.func9 nm9 rfl rfl rfl ?_))
        refine Calls.mono (toForm_spec hX167.pins (hu.mono (Pin.le_trans (Pin.le_trans (Pin.le_trans (Pin.le_trans (Pin.le_trans (Pin.le_trans (Pin.le_trans (Pin.le_trans (Pin.le_trans (Pin.le_trans (Pin.le_trans (Pin.le_trans (Pin.le_trans (Pin.le_trans (Pin.le_trans (Pin.le_trans hle10 hle23) hle36) hx44.le) hx51.le) hx58.le) hx68.le) hx74.le) hx80.le) hx84.le) hx90.le) hle107) hx115.le) hle132) hx140.le) hle157) hx163.le)) hsn) ?_
        rintro _ w170 ⟨u168, G169, rfl, hr171, hx172⟩
        refine ⟨_, rfl, ?_⟩
        have hX173 := hX167.tr hx172
        refine ⟨fun _ => (Pins.of_le hX173.pins hx172.le), ?_⟩
        refine dr_one (i := 3) (by kernel_rfl) (drOp1 (i := 3) rfl rfl rfl (want_none rfl _) (o_call (vs := [(.agg [u86].toArray), (.agg [u168].toArray)]) Try.func12 nm12 rfl rfl rfl ?_))
        refine Calls.mono (eqForm_spec hX173.pins (hr89.mono (Pin.le_trans (Pin.le_trans (Pin.le_trans (Pin.le_trans (Pin.le_trans (Pin.le_trans hle107 hx115.le) hle132) hx140.le) hle157) hx163.le) hx172.le)) hr171) ?_
        rintro _ w175 ⟨G174, rfl, hx176⟩
        refine ⟨_, rfl, ?_⟩
        have hX177 := hX173.tr hx176
        refine ⟨fun _ => (Pins.of_le hX177.pins (Pin.le_trans hx172.le hx176.le)), ?_⟩
        refine dr_take (i := 4) rfl rfl rfl (want_none rfl _) (by kernel_rfl) (fun _ _ => r_not rfl) (Pins.of_le hX177.pins (Pin.le_trans hx172.le hx176.le)) ?_
        refine dr_end (by kernel_rfl) ?_
        refine s_then ?_
        refine c_ifn rfl rfl (fun _ => ?_) (fun h => absurd rfl (of_decide_eq_false h))
        refine wp_skip ?_
        refine s_then ?_
        refine s_seq ?_
        refine s_seq ?_
        refine c_draw (S := fun w => Pins G174 w) (last := 5) (by kernel_rfl) rfl ?_
        have hl179 : Below w175.heap.size w175 w175.drew := (Below.refl _ _).drew
        have hp180 := hX177.pins.below hl179
        have hX181 := hX177.step hp180 hl179
        refine dr_take (i := 0) rfl rfl rfl (want_none rfl _) (by kernel_rfl) (fun _ hS => r_ldpA (cs := [u111]) ag34 sz34 rfl (fun j u hj => (Pins.of_le hS (Pin.le_trans (Pin.le_trans (Pin.le_trans (Pin.le_trans hx140.le hle157) hx163.le) hx172.le) hx176.le)) _ _ _ (hbp134 _ _ (by simpa using hj)))) hX181.pins ?_
        refine dr_take (i := 1) rfl rfl rfl (want_none rfl _) (by kernel_rfl) (fun _ hS => r_ldpA (cs := [v]) ag24 sz24 rfl (fun j u hj => (Pins.of_le hS (Pin.le_trans (Pin.le_trans (Pin.le_trans (Pin.le_trans (Pin.le_trans (Pin.le_trans (Pin.le_trans (Pin.le_trans (Pin.le_trans (Pin.le_trans (Pin.le_trans (Pin.le_trans (Pin.le_trans (Pin.le_trans (Pin.le_trans (Pin.le_trans hle36 hx44.le) hx51.le) hx58.le) hx68.le) hx74.le) hx80.le) hx84.le) hx90.le) hle107) hx115.le) hle132) hx140.le) hle157) hx163.le) hx172.le) hx176.le)) _ _ _ (hbp25 _ _ (by simpa using hj)))) hX181.pins ?_
        refine dr_one (i := 2) (by kernel_rfl) (drOp1 (i := 2) rfl rfl rfl (want_none rfl _) (o_call (vs := [(.agg [v].toArray)]) Try.func9 nm9 rfl rfl rfl ?_))
        refine Calls.mono (toForm_spec hX181.pins (hv.mono (Pin.le_trans (Pin.le_trans (Pin.le_trans (Pin.le_trans (Pin.le_trans (Pin.le_trans (Pin.le_trans (Pin.le_trans (Pin.le_trans (Pin.le_trans (Pin.le_trans (Pin.le_trans (Pin.le_trans (Pin.le_trans (Pin.le_trans (Pin.le_trans (Pin.le_trans (Pin.le_trans hle10 hle23) hle36) hx44.le) hx51.le) hx58.le) hx68.le) hx74.le) hx80.le) hx84.le) hx90.le) hle107) hx115.le) hle132) hx140.le) hle157) hx163.le) hx172.le) hx176.le)) hsm) ?_
        rintro _ w184 ⟨u182, G183, rfl, hr185, hx186⟩
        refine ⟨_, rfl, ?_⟩
        have hX187 := hX181.tr hx186
        refine ⟨fun _ => (Pins.of_le hX187.pins hx186.le), ?_⟩
        refine dr_one (i := 3) (by kernel_rfl) (drOp1 (i := 3) rfl rfl rfl (want_none rfl _) (o_call (vs := [(.agg [u111].toArray), (.agg [u182].toArray)]) Try.func12 nm12 rfl rfl rfl ?_))
        refine Calls.mono (eqForm_spec hX187.pins (hr114.mono (Pin.le_trans (Pin.le_trans (Pin.le_trans (Pin.le_trans (Pin.le_trans (Pin.le_trans hle132 hx140.le) hle157) hx163.le) hx172.le) hx176.le) hx186.le)) hr185) ?_
        rintro _ w189 ⟨G188, rfl, hx190⟩
        refine ⟨_, rfl, ?_⟩
        have hX191 := hX187.tr hx190
        refine ⟨fun _ => (Pins.of_le hX191.pins (Pin.le_trans hx186.le hx190.le)), ?_⟩
        refine dr_take (i := 4) rfl rfl rfl (want_none rfl _) (by kernel_rfl) (fun _ _ => r_not rfl) (Pins.of_le hX191.pins (Pin.le_trans hx186.le hx190.le)) ?_
        refine dr_end (by kernel_rfl) ?_
        refine s_then ?_
        refine c_ifn rfl rfl (fun _ => ?_) (fun h => absurd rfl (of_decide_eq_false h))
        refine wp_skip ?_
        refine s_then ?_
        refine s_seq ?_
        refine s_seq ?_
        refine c_draw (S := fun w => Pins G188 w) (last := 5) (by kernel_rfl) rfl ?_
        have hl193 : Below w189.heap.size w189 w189.drew := (Below.refl _ _).drew
        have hp194 := hX191.pins.below hl193
        have hX195 := hX191.step hp194 hl193
        refine dr_take (i := 0) rfl rfl rfl (want_none rfl _) (by kernel_rfl) (fun _ hS => r_ldpA (cs := [u136]) ag38 sz38 rfl (fun j u hj => (Pins.of_le hS (Pin.le_trans (Pin.le_trans (Pin.le_trans (Pin.le_trans hx163.le hx172.le) hx176.le) hx186.le) hx190.le)) _ _ _ (hbp159 _ _ (by simpa using hj)))) hX195.pins ?_
        refine dr_take (i := 1) rfl rfl rfl (want_none rfl _) (by kernel_rfl) (fun _ hS => r_ldpA (cs := [x]) ag27 sz27 rfl (fun j u hj => (Pins.of_le hS (Pin.le_trans (Pin.le_trans (Pin.le_trans (Pin.le_trans (Pin.le_trans (Pin.le_trans (Pin.le_trans (Pin.le_trans (Pin.le_trans (Pin.le_trans (Pin.le_trans (Pin.le_trans (Pin.le_trans (Pin.le_trans (Pin.le_trans (Pin.le_trans (Pin.le_trans hx44.le hx51.le) hx58.le) hx68.le) hx74.le) hx80.le) hx84.le) hx90.le) hle107) hx115.le) hle132) hx140.le) hle157) hx163.le) hx172.le) hx176.le) hx186.le) hx190.le)) _ _ _ (hbp38 _ _ (by simpa using hj)))) hX195.pins ?_
        refine dr_one (i := 2) (by kernel_rfl) (drOp1 (i := 2) rfl rfl rfl (want_none rfl _) (o_call (vs := [(.agg [x].toArray)]) Try.func10 nm10 rfl rfl rfl ?_))
        refine Calls.mono (toProof_spec hX195.pins (hx.mono (Pin.le_trans (Pin.le_trans (Pin.le_trans (Pin.le_trans (Pin.le_trans (Pin.le_trans (Pin.le_trans (Pin.le_trans (Pin.le_trans (Pin.le_trans (Pin.le_trans (Pin.le_trans (Pin.le_trans (Pin.le_trans (Pin.le_trans (Pin.le_trans (Pin.le_trans (Pin.le_trans (Pin.le_trans (Pin.le_trans hle10 hle23) hle36) hx44.le) hx51.le) hx58.le) hx68.le) hx74.le) hx80.le) hx84.le) hx90.le) hle107) hx115.le) hle132) hx140.le) hle157) hx163.le) hx172.le) hx176.le) hx186.le) hx190.le)) hsp) ?_
        rintro _ w198 ⟨u196, G197, rfl, hr199, hx200⟩
        refine ⟨_, rfl, ?_⟩
        have hX201 := hX195.tr hx200
        refine ⟨fun _ => (Pins.of_le hX201.pins hx200.le), ?_⟩
        refine dr_one (i := 3) (by kernel_rfl) (drOp1 (i := 3) rfl rfl rfl (want_none rfl _) (o_call (vs := [(.agg [u136].toArray), (.agg [u196].toArray)]) Try.func13 nm13 rfl rfl rfl ?_))
        refine Calls.mono (eqProof_spec hX201.pins (hr139.mono (Pin.le_trans (Pin.le_trans (Pin.le_trans (Pin.le_trans (Pin.le_trans (Pin.le_trans hle157 hx163.le) hx172.le) hx176.le) hx186.le) hx190.le) hx200.le)) hr199) ?_
        rintro _ w203 ⟨G202, rfl, hx204⟩
        refine ⟨_, rfl, ?_⟩
        have hX205 := hX201.tr hx204
        refine ⟨fun _ => (Pins.of_le hX205.pins (Pin.le_trans hx200.le hx204.le)), ?_⟩
        refine dr_take (i := 4) rfl rfl rfl (want_none rfl _) (by kernel_rfl) (fun _ _ => r_not rfl) (Pins.of_le hX205.pins (Pin.le_trans hx200.le hx204.le)) ?_
        refine dr_end (by kernel_rfl) ?_
        refine s_then ?_
        refine c_ifn rfl rfl (fun _ => ?_) (fun h => absurd rfl (of_decide_eq_false h))
        refine wp_skip ?_
        refine s_then ?_
        refine s_seq ?_
        refine c_reg ?_
        refine qd rfl rfl rfl (r_assign (v := (.bool true)) rfl) ?_
        refine qe ?_
        refine s_then ?_
        refine wp_ret ?_
        refine s_ret ?_
        refine c_ret1 (v := (.bool true)) rfl rfl rfl ?_
        exact ⟨_, rfl, hX205⟩

end Y1
end Go.Proofs.Ytgnbnieoghnboaa
