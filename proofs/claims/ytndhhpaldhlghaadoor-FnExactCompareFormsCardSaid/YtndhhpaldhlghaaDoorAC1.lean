/- Walks, printed by a program (walkgen.py) from the spec specs_al. -/
import Derived.Test.YtndhhpaldhlghaaDoorChecked
import Derived.Test.YtndhhpaldhlghaaDoorRow
import Derived.Test.YtndhhpaldhlghaaDoorLoad
import Derived.Test.YtndhhpaldhlghaaDoorLaw
import Derived.Test.YtndhhpaldhlghaaDoorGoodB
import Derived.Test.YtndhhpaldhlghaaDoorB1
import Derived.Test.YtndhhpaldhlghaaDoorC1
import Derived.Test.YtndhhpaldhlghaaDoorD1
import Derived.Test.YtndhhpaldhlghaaDoorE1
import Derived.Test.YtndhhpaldhlghaaDoorOR1
import Derived.Test.YtndhhpaldhlghaaDoorL1
import Derived.Test.YtndhhpaldhlghaaDoorK1
import Derived.Test.YtndhhpaldhlghaaDoorPO1
import Derived.Test.YtndhhpaldhlghaaDoorPL1
import Derived.Test.YtndhhpaldhlghaaDoorPF1
import Derived.Test.YtndhhpaldhlghaaDoorSF1
set_option maxRecDepth 20000
set_option maxHeartbeats 2000000
namespace Go.Proofs.YtndhhpaldhlghaaDoor
namespace AC1
open Go.RowKit Go.GL Go.Proofs
open Go.Proofs.YtndhhpaldhlghaaDoor.B1
open Go.Proofs.YtndhhpaldhlghaaDoor.C1
open Go.Proofs.YtndhhpaldhlghaaDoor.D1
open Go.Proofs.YtndhhpaldhlghaaDoor.E1
open Go.Proofs.YtndhhpaldhlghaaDoor.OR1
open Go.Proofs.YtndhhpaldhlghaaDoor.L1
open Go.Proofs.YtndhhpaldhlghaaDoor.K1
open Go.Proofs.YtndhhpaldhlghaaDoor.PO1
open Go.Proofs.YtndhhpaldhlghaaDoor.PL1
open Go.Proofs.YtndhhpaldhlghaaDoor.PF1
open Go.Proofs.YtndhhpaldhlghaaDoor.SF1
theorem ag24 : (Tryd.prog.underlying 24).map aggD = some true := by kernel_rfl
theorem ag30 : (Tryd.prog.underlying 30).map aggD = some true := by kernel_rfl
theorem nm11 : (Tryd.f11.name == "runtime.NumGoroutine") = false := by kernel_rfl
theorem nm13 : (Tryd.f13.name == "runtime.NumGoroutine") = false := by kernel_rfl
theorem nm16 : (Tryd.f16.name == "runtime.NumGoroutine") = false := by kernel_rfl
theorem nm17 : (Tryd.f17.name == "runtime.NumGoroutine") = false := by kernel_rfl
theorem nm9 : (Tryd.f9.name == "runtime.NumGoroutine") = false := by kernel_rfl
theorem sz24 : (Tryd.prog.info? 24).map (·.size) = some 1 := by kernel_rfl
theorem sz30 : (Tryd.prog.info? 30).map (·.size) = some 1 := by kernel_rfl
theorem zr30 : (Tryd.prog.info? 30).bind (·.zero) = some (.agg #[(.slice none 0 0)]) := by kernel_rfl

theorem law {w : World} {G : Pin} {u v : Value} {ns ms : List Nd} (hP : Pins G w) (hu : RSl eNode G u ns) (hv : RSl eNode G v ms) :
    Calls Tryd.prog 5 [(.agg [u].toArray), (.agg [v].toArray)].toArray w fun e w' => ∃ G', e = .returned (.bool true) ∧ Ext noS G w G' w' := by
  refine s_enter (n := 58) Tryd.func5 Tryd.ntmps5 rfl rfl ?_
  have hX0 : Ext noS G w G w := Ext.refl hP
  refine s_seq ?_
  refine c_reg ?_
  refine q1 rfl rfl rfl (o_box [u] (v := (.agg [u].toArray)) rfl rfl hX0.pins (fun b1 w2 hk3 hb4 hp5 hl6 => ?_))
  have hX7 := hX0.step hp5 hl6
  have hlo8 : w.heap.size ≤ b1 := by have := hX0.size; omega
  obtain ⟨G9, hle10, hX11, hbp12, hf13⟩ := hb4.shut hX7 hlo8
  refine q1 rfl rfl rfl (o_box [v] (v := (.agg [v].toArray)) rfl rfl hX11.pins (fun b14 w15 hk16 hb17 hp18 hl19 => ?_))
  have hX20 := hX11.step hp18 hl19
  have hlo21 : w.heap.size ≤ b14 := by have := hX11.size; omega
  obtain ⟨G22, hle23, hX24, hbp25, hf26⟩ := hb17.shut hX20 hlo21
  refine qd rfl rfl rfl (r_assign (v := (.bool false)) rfl) ?_
  refine qe ?_
  refine s_then ?_
  refine s_seq ?_
  refine c_reg ?_
  refine qd rfl rfl rfl (r_assign (v := (.int .i64 1048576)) rfl) ?_
  refine qe ?_
  refine s_then ?_
  refine s_seq ?_
  refine c_reg ?_
  refine qd rfl rfl rfl (r_ldpA (cs := [u]) ag24 sz24 rfl (fun j u hj => (Pins.of_le hX24.pins hle23) _ _ _ (hbp12 _ _ (by simpa using hj)))) ?_
  refine qd rfl rfl rfl (r_move (v := (.int .i64 1048576)) rfl) ?_
  refine q1 rfl rfl rfl (o_call (vs := [(.agg [u].toArray), (.int .i64 1048576)]) Tryd.func9 nm9 rfl rfl rfl ?_)
  refine Calls.mono (szForm_spec hX24.pins (hu.mono (Pin.le_trans hle10 hle23)) (by omega)) ?_
  rintro _ w29 ⟨z27, G28, rfl, hz30, hx31⟩
  refine ⟨_, rfl, ?_⟩
  have hX32 := hX24.tr hx31
  refine qd rfl rfl rfl (r_assign (v := (.int .i64 z27)) rfl) ?_
  refine qe ?_
  refine s_then ?_
  refine s_seq ?_
  refine s_seq ?_
  refine c_reg ?_
  refine qd rfl rfl rfl (r_move (v := (.int .i64 z27)) rfl) ?_
  refine qd rfl rfl rfl (r_lss rfl rfl) ?_
  refine qe ?_
  refine s_then ?_
  refine c_ifd (p := (z27 : Int) < 0) rfl rfl (fun h33 => ?_) (fun h33 => ?_)
  · skip
    refine s_seq ?_
    refine c_reg ?_
    refine qd rfl rfl rfl (r_assign (v := (.bool true)) rfl) ?_
    refine qe ?_
    refine s_then ?_
    refine wp_ret ?_
    refine s_ret ?_
    refine c_ret1 (v := (.bool true)) rfl rfl rfl ?_
    exact ⟨_, rfl, hX32⟩
  refine wp_skip ?_
  refine s_then ?_
  refine s_seq ?_
  refine c_reg ?_
  refine qd rfl rfl rfl (r_ldpA (cs := [v]) ag24 sz24 rfl (fun j u hj => (Pins.of_le hX32.pins hx31.le) _ _ _ (hbp25 _ _ (by simpa using hj)))) ?_
  refine qd rfl rfl rfl (r_move (v := (.int .i64 z27)) rfl) ?_
  refine q1 rfl rfl rfl (o_call (vs := [(.agg [v].toArray), (.int .i64 z27)]) Tryd.func9 nm9 rfl rfl rfl ?_)
  refine Calls.mono (szForm_spec hX32.pins (hv.mono (Pin.le_trans (Pin.le_trans hle10 hle23) hx31.le)) (by omega)) ?_
  rintro _ w36 ⟨z34, G35, rfl, hz37, hx38⟩
  refine ⟨_, rfl, ?_⟩
  have hX39 := hX32.tr hx38
  refine qd rfl rfl rfl (r_assign (v := (.int .i64 z34)) rfl) ?_
  refine qe ?_
  refine s_then ?_
  refine s_seq ?_
  refine s_seq ?_
  refine c_reg ?_
  refine qd rfl rfl rfl (r_move (v := (.int .i64 z34)) rfl) ?_
  refine qd rfl rfl rfl (r_lss rfl rfl) ?_
  refine qe ?_
  refine s_then ?_
  refine c_ifd (p := (z34 : Int) < 0) rfl rfl (fun h40 => ?_) (fun h40 => ?_)
  · skip
    refine s_seq ?_
    refine c_reg ?_
    refine qd rfl rfl rfl (r_assign (v := (.bool true)) rfl) ?_
    refine qe ?_
    refine s_then ?_
    refine wp_ret ?_
    refine s_ret ?_
    refine c_ret1 (v := (.bool true)) rfl rfl rfl ?_
    exact ⟨_, rfl, hX39⟩
  refine wp_skip ?_
  refine s_then ?_
  refine s_seq ?_
  have hsn : Small ns := (by rcases hz30 with h | h <;> first | omega | exact small_le h.2.2 (by omega))
  have hsm : Small ms := (by rcases hz37 with h | h <;> first | omega | exact small_le h.2.2 (by omega))
  refine c_draw (S := fun wz => Pins G35 wz) (last := 10) (by kernel_rfl) rfl ?_
  have hl41 : Below w36.heap.size w36 w36.drew := (Below.refl _ _).drew
  have hp42 := hX39.pins.below hl41
  have hX43 := hX39.step hp42 hl41
  refine dr_take (i := 0) rfl rfl rfl (want_none rfl _) (by kernel_rfl) (fun _ hS => r_ldpA (cs := [u]) ag24 sz24 rfl (fun j u hj => (Pins.of_le hS (Pin.le_trans (Pin.le_trans hle23 hx31.le) hx38.le)) _ _ _ (hbp12 _ _ (by simpa using hj)))) hX43.pins ?_
  refine dr_take (i := 2) rfl rfl rfl (want_none rfl _) (by kernel_rfl) (fun _ hS => r_ldpA (cs := [v]) ag24 sz24 rfl (fun j u hj => (Pins.of_le hS (Pin.le_trans hx31.le hx38.le)) _ _ _ (hbp25 _ _ (by simpa using hj)))) hX43.pins ?_
  refine dr_one (i := 1) (by kernel_rfl) (drOp1 (i := 1) rfl rfl rfl (want_none rfl _) (o_call (vs := [(.agg [u].toArray)]) Tryd.func11 nm11 rfl rfl rfl ?_))
  refine Calls.mono (toForm_spec hX43.pins (hu.mono (Pin.le_trans (Pin.le_trans (Pin.le_trans hle10 hle23) hx31.le) hx38.le)) hsn) ?_
  rintro _ w46 ⟨u44, G45, rfl, hr47, hx48⟩
  refine ⟨_, rfl, ?_⟩
  have hX49 := hX43.tr hx48
  refine ⟨fun _ => (Pins.of_le hX49.pins hx48.le), ?_⟩
  refine dr_one (i := 3) (by kernel_rfl) (drOp1 (i := 3) rfl rfl rfl (want_none rfl _) (o_call (vs := [(.agg [v].toArray)]) Tryd.func11 nm11 rfl rfl rfl ?_))
  refine Calls.mono (toForm_spec hX49.pins (hv.mono (Pin.le_trans (Pin.le_trans (Pin.le_trans (Pin.le_trans hle10 hle23) hx31.le) hx38.le) hx48.le)) hsm) ?_
  rintro _ w52 ⟨u50, G51, rfl, hr53, hx54⟩
  refine ⟨_, rfl, ?_⟩
  have hX55 := hX49.tr hx54
  refine ⟨fun _ => (Pins.of_le hX55.pins (Pin.le_trans hx48.le hx54.le)), ?_⟩
  refine dr_one (i := 4) (by kernel_rfl) (drOp1 (i := 4) rfl rfl rfl (want_none rfl _) (o_call (vs := [(.agg [u44].toArray), (.agg [u50].toArray)]) Tryd.func16 nm16 rfl rfl rfl ?_))
  refine Calls.mono (sCompareForms_spec hX55.pins (hr47.mono hx54.le) hr53) ?_
  rintro _ w57 ⟨G56, rfl, hx58⟩
  refine ⟨_, rfl, ?_⟩
  have hX59 := hX55.tr hx58
  refine ⟨fun _ => (Pins.of_le hX59.pins (Pin.le_trans (Pin.le_trans hx48.le hx54.le) hx58.le)), ?_⟩
  refine dr_take (i := 5) rfl rfl rfl (want_none rfl _) (by kernel_rfl) (fun _ _ => r_move (v := (.tuple #[(.int .i64 (cfI ns ms)), (.bool (goodB ns && goodB ms))])) rfl) (Pins.of_le hX59.pins (Pin.le_trans (Pin.le_trans hx48.le hx54.le) hx58.le)) ?_
  refine dr_take (i := 6) rfl rfl rfl (want_none rfl _) (by kernel_rfl) (fun _ _ => r_extract (v := (.int .i64 (cfI ns ms))) rfl rfl) (Pins.of_le hX59.pins (Pin.le_trans (Pin.le_trans hx48.le hx54.le) hx58.le)) ?_
  refine dr_take (i := 7) rfl rfl rfl (want_none rfl _) (by kernel_rfl) (fun _ _ => r_extract (v := (.bool (goodB ns && goodB ms))) rfl rfl) (Pins.of_le hX59.pins (Pin.le_trans (Pin.le_trans hx48.le hx54.le) hx58.le)) ?_
  refine dr_take (i := 8) rfl rfl rfl (want_none rfl _) (by kernel_rfl) (fun _ _ => r_assign (v := (.int .i64 (cfI ns ms))) rfl) (Pins.of_le hX59.pins (Pin.le_trans (Pin.le_trans hx48.le hx54.le) hx58.le)) ?_
  refine dr_take (i := 9) rfl rfl rfl (want_none rfl _) (by kernel_rfl) (fun _ _ => r_assign (v := (.bool (goodB ns && goodB ms))) rfl) (Pins.of_le hX59.pins (Pin.le_trans (Pin.le_trans hx48.le hx54.le) hx58.le)) ?_
  refine dr_end (by kernel_rfl) ?_
  refine s_then ?_
  refine s_seq ?_
  refine c_reg ?_
  refine qd rfl rfl rfl (r_ldpA (cs := [u]) ag24 sz24 rfl (fun j u hj => (Pins.of_le hX59.pins (Pin.le_trans (Pin.le_trans (Pin.le_trans (Pin.le_trans (Pin.le_trans hle23 hx31.le) hx38.le) hx48.le) hx54.le) hx58.le)) _ _ _ (hbp12 _ _ (by simpa using hj)))) ?_
  refine q1 rfl rfl rfl (o_call (vs := [(.agg [u].toArray)]) Tryd.func11 nm11 rfl rfl rfl ?_)
  refine Calls.mono (toForm_spec hX59.pins (hu.mono (Pin.le_trans (Pin.le_trans (Pin.le_trans (Pin.le_trans (Pin.le_trans (Pin.le_trans hle10 hle23) hx31.le) hx38.le) hx48.le) hx54.le) hx58.le)) hsn) ?_
  rintro _ w62 ⟨u60, G61, rfl, hr63, hx64⟩
  refine ⟨_, rfl, ?_⟩
  have hX65 := hX59.tr hx64
  refine q1 rfl rfl rfl (o_alloc [(.slice none 0 0)] zr30 rfl hX65.pins (fun b66 w67 hk68 hb69 hp70 hl71 => ?_))
  have hX72 := hX65.step hp70 hl71
  have hlo73 : w.heap.size ≤ b66 := by have := hX65.size; omega
  refine q0 rfl rfl rfl (o_stp (cs' := [u60]) (us := [u60]) (v := (.agg [u60].toArray)) sz30 rfl rfl rfl (ones1 hr63.one) hX72.pins hb69 (Nat.le_of_ble_eq_true rfl) rfl (fun w74 hb75 hp76 hg77 hz78 => ?_))
  have hX79 := hX72.write hp76 hg77 ((lo_box hlo73))
  obtain ⟨G80, hle81, hX82, hbp83, hf84⟩ := hb75.shut hX79 hlo73
  refine qe ?_
  refine s_then ?_
  refine s_seq ?_
  refine c_reg ?_
  refine qd rfl rfl rfl (r_ldpA (cs := [v]) ag24 sz24 rfl (fun j u hj => (Pins.of_le hX82.pins (Pin.le_trans (Pin.le_trans (Pin.le_trans (Pin.le_trans (Pin.le_trans (Pin.le_trans hx31.le hx38.le) hx48.le) hx54.le) hx58.le) hx64.le) hle81)) _ _ _ (hbp25 _ _ (by simpa using hj)))) ?_
  refine q1 rfl rfl rfl (o_call (vs := [(.agg [v].toArray)]) Tryd.func11 nm11 rfl rfl rfl ?_)
  refine Calls.mono (toForm_spec hX82.pins (hv.mono (Pin.le_trans (Pin.le_trans (Pin.le_trans (Pin.le_trans (Pin.le_trans (Pin.le_trans (Pin.le_trans (Pin.le_trans hle10 hle23) hx31.le) hx38.le) hx48.le) hx54.le) hx58.le) hx64.le) hle81)) hsm) ?_
  rintro _ w87 ⟨u85, G86, rfl, hr88, hx89⟩
  refine ⟨_, rfl, ?_⟩
  have hX90 := hX82.tr hx89
  refine q1 rfl rfl rfl (o_alloc [(.slice none 0 0)] zr30 rfl hX90.pins (fun b91 w92 hk93 hb94 hp95 hl96 => ?_))
  have hX97 := hX90.step hp95 hl96
  have hlo98 : w.heap.size ≤ b91 := by have := hX90.size; omega
  refine q0 rfl rfl rfl (o_stp (cs' := [u85]) (us := [u85]) (v := (.agg [u85].toArray)) sz30 rfl rfl rfl (ones1 hr88.one) hX97.pins hb94 (Nat.le_of_ble_eq_true rfl) rfl (fun w99 hb100 hp101 hg102 hz103 => ?_))
  have hX104 := hX97.write hp101 hg102 ((lo_box hlo98))
  obtain ⟨G105, hle106, hX107, hbp108, hf109⟩ := hb100.shut hX104 hlo98
  refine qe ?_
  refine s_then ?_
  refine s_seq ?_
  refine c_reg ?_
  refine qd rfl rfl rfl (r_ldpA (cs := [u60]) ag30 sz30 rfl (fun j u hj => (Pins.of_le hX107.pins (Pin.le_trans hx89.le hle106)) _ _ _ (hbp83 _ _ (by simpa using hj)))) ?_
  refine qd rfl rfl rfl (r_ldpA (cs := [u85]) ag30 sz30 rfl (fun j u hj => hX107.pins _ _ _ (hbp108 _ _ (by simpa using hj)))) ?_
  refine q1 rfl rfl rfl (o_call (vs := [(.agg [u60].toArray), (.agg [u85].toArray)]) Tryd.func17 nm17 rfl rfl rfl ?_)
  refine Calls.mono (iCompareForms_spec hX107.pins (hr63.mono (Pin.le_trans (Pin.le_trans hle81 hx89.le) hle106)) (hr88.mono hle106)) ?_
  rintro _ w111 ⟨G110, rfl, hx112⟩
  refine ⟨_, rfl, ?_⟩
  have hX113 := hX107.tr hx112
  refine qd rfl rfl rfl (r_move (v := (.tuple #[(.int .i64 (cfI ns ms)), (.bool (goodB ns && goodB ms))])) rfl) ?_
  refine qd rfl rfl rfl (r_extract (v := (.int .i64 (cfI ns ms))) rfl rfl) ?_
  refine qd rfl rfl rfl (r_extract (v := (.bool (goodB ns && goodB ms))) rfl rfl) ?_
  refine qd rfl rfl rfl (r_assign (v := (.int .i64 (cfI ns ms))) rfl) ?_
  refine qd rfl rfl rfl (r_assign (v := (.bool (goodB ns && goodB ms))) rfl) ?_
  refine qe ?_
  refine s_then ?_
  refine s_seq ?_
  refine s_seq ?_
  refine c_reg ?_
  refine qd rfl rfl rfl (r_move (v := (.int .i64 (cfI ns ms))) rfl) ?_
  refine qd rfl rfl rfl (r_move (v := (.int .i64 (cfI ns ms))) rfl) ?_
  refine qd rfl rfl rfl (r_neq rfl rfl) ?_
  refine qd rfl rfl rfl (r_move (v := (.bool (decide ((cfI ns ms : Int) ≠ (cfI ns ms))))) rfl) ?_
  refine qbd (p := (cfI ns ms : Int) ≠ (cfI ns ms)) (t := 43) rfl (fun h114 => ?_) (fun h114 => ?_)
  · skip
    refine qs rfl rfl rfl rfl rfl rfl ?_
    refine qs rfl rfl rfl rfl rfl rfl ?_
    refine qs rfl rfl rfl rfl rfl rfl ?_
    refine qd rfl rfl rfl (r_pickT (v := (.bool true)) rfl rfl) ?_
    refine qe ?_
    refine s_then ?_
    refine c_ifT rfl rfl ?_
    refine s_seq ?_
    refine c_reg ?_
    refine qd rfl rfl rfl (r_assign (v := (.bool false)) rfl) ?_
    refine qe ?_
    refine s_then ?_
    refine wp_ret ?_
    refine s_ret ?_
    refine c_ret1 (v := (.bool false)) rfl rfl rfl ?_
    exact absurd rfl h114
  refine qdg rfl rfl rfl rfl rfl rfl (r_move (v := (.bool (goodB ns && goodB ms))) rfl) ?_
  refine qdg rfl rfl rfl rfl rfl rfl (r_move (v := (.bool (goodB ns && goodB ms))) rfl) ?_
  refine qdg rfl rfl rfl rfl rfl rfl (r_neqB_same Tryd.underlying4 rfl rfl) ?_
  refine qd rfl rfl rfl (r_pickF (v := (.bool false)) rfl rfl) ?_
  refine qe ?_
  refine s_then ?_
  refine c_ifF rfl rfl ?_
  refine wp_skip ?_
  refine s_then ?_
  refine s_seq ?_
  refine s_seq ?_
  refine c_draw (S := fun wz => Pins G110 wz) (last := 5) (by kernel_rfl) rfl ?_
  have hl115 : Below w111.heap.size w111 w111.drew := (Below.refl _ _).drew
  have hp116 := hX113.pins.below hl115
  have hX117 := hX113.step hp116 hl115
  refine dr_take (i := 0) rfl rfl rfl (want_none rfl _) (by kernel_rfl) (fun _ hS => r_ldpA (cs := [u60]) ag30 sz30 rfl (fun j u hj => (Pins.of_le hS (Pin.le_trans (Pin.le_trans hx89.le hle106) hx112.le)) _ _ _ (hbp83 _ _ (by simpa using hj)))) hX117.pins ?_
  refine dr_take (i := 1) rfl rfl rfl (want_none rfl _) (by kernel_rfl) (fun _ hS => r_ldpA (cs := [u]) ag24 sz24 rfl (fun j u hj => (Pins.of_le hS (Pin.le_trans (Pin.le_trans (Pin.le_trans (Pin.le_trans (Pin.le_trans (Pin.le_trans (Pin.le_trans (Pin.le_trans (Pin.le_trans (Pin.le_trans hle23 hx31.le) hx38.le) hx48.le) hx54.le) hx58.le) hx64.le) hle81) hx89.le) hle106) hx112.le)) _ _ _ (hbp12 _ _ (by simpa using hj)))) hX117.pins ?_
  refine dr_one (i := 2) (by kernel_rfl) (drOp1 (i := 2) rfl rfl rfl (want_none rfl _) (o_call (vs := [(.agg [u].toArray)]) Tryd.func11 nm11 rfl rfl rfl ?_))
  refine Calls.mono (toForm_spec hX117.pins (hu.mono (Pin.le_trans (Pin.le_trans (Pin.le_trans (Pin.le_trans (Pin.le_trans (Pin.le_trans (Pin.le_trans (Pin.le_trans (Pin.le_trans (Pin.le_trans (Pin.le_trans hle10 hle23) hx31.le) hx38.le) hx48.le) hx54.le) hx58.le) hx64.le) hle81) hx89.le) hle106) hx112.le)) hsn) ?_
  rintro _ w120 ⟨u118, G119, rfl, hr121, hx122⟩
  refine ⟨_, rfl, ?_⟩
  have hX123 := hX117.tr hx122
  refine ⟨fun _ => (Pins.of_le hX123.pins hx122.le), ?_⟩
  refine dr_one (i := 3) (by kernel_rfl) (drOp1 (i := 3) rfl rfl rfl (want_none rfl _) (o_call (vs := [(.agg [u60].toArray), (.agg [u118].toArray)]) Tryd.func13 nm13 rfl rfl rfl ?_))
  refine Calls.mono (eqForm_spec hX123.pins (hr63.mono (Pin.le_trans (Pin.le_trans (Pin.le_trans (Pin.le_trans hle81 hx89.le) hle106) hx112.le) hx122.le)) hr121) ?_
  rintro _ w125 ⟨G124, rfl, hx126⟩
  refine ⟨_, rfl, ?_⟩
  have hX127 := hX123.tr hx126
  refine ⟨fun _ => (Pins.of_le hX127.pins (Pin.le_trans hx122.le hx126.le)), ?_⟩
  refine dr_take (i := 4) rfl rfl rfl (want_none rfl _) (by kernel_rfl) (fun _ _ => r_not rfl) (Pins.of_le hX127.pins (Pin.le_trans hx122.le hx126.le)) ?_
  refine dr_end (by kernel_rfl) ?_
  refine s_then ?_
  refine c_ifn rfl rfl (fun _ => ?_) (fun h => absurd rfl (of_decide_eq_false h))
  refine wp_skip ?_
  refine s_then ?_
  refine s_seq ?_
  refine s_seq ?_
  refine c_draw (S := fun wz => Pins G124 wz) (last := 5) (by kernel_rfl) rfl ?_
  have hl129 : Below w125.heap.size w125 w125.drew := (Below.refl _ _).drew
  have hp130 := hX127.pins.below hl129
  have hX131 := hX127.step hp130 hl129
  refine dr_take (i := 0) rfl rfl rfl (want_none rfl _) (by kernel_rfl) (fun _ hS => r_ldpA (cs := [u85]) ag30 sz30 rfl (fun j u hj => (Pins.of_le hS (Pin.le_trans (Pin.le_trans hx112.le hx122.le) hx126.le)) _ _ _ (hbp108 _ _ (by simpa using hj)))) hX131.pins ?_
  refine dr_take (i := 1) rfl rfl rfl (want_none rfl _) (by kernel_rfl) (fun _ hS => r_ldpA (cs := [v]) ag24 sz24 rfl (fun j u hj => (Pins.of_le hS (Pin.le_trans (Pin.le_trans (Pin.le_trans (Pin.le_trans (Pin.le_trans (Pin.le_trans (Pin.le_trans (Pin.le_trans (Pin.le_trans (Pin.le_trans (Pin.le_trans hx31.le hx38.le) hx48.le) hx54.le) hx58.le) hx64.le) hle81) hx89.le) hle106) hx112.le) hx122.le) hx126.le)) _ _ _ (hbp25 _ _ (by simpa using hj)))) hX131.pins ?_
  refine dr_one (i := 2) (by kernel_rfl) (drOp1 (i := 2) rfl rfl rfl (want_none rfl _) (o_call (vs := [(.agg [v].toArray)]) Tryd.func11 nm11 rfl rfl rfl ?_))
  refine Calls.mono (toForm_spec hX131.pins (hv.mono (Pin.le_trans (Pin.le_trans (Pin.le_trans (Pin.le_trans (Pin.le_trans (Pin.le_trans (Pin.le_trans (Pin.le_trans (Pin.le_trans (Pin.le_trans (Pin.le_trans (Pin.le_trans (Pin.le_trans hle10 hle23) hx31.le) hx38.le) hx48.le) hx54.le) hx58.le) hx64.le) hle81) hx89.le) hle106) hx112.le) hx122.le) hx126.le)) hsm) ?_
  rintro _ w134 ⟨u132, G133, rfl, hr135, hx136⟩
  refine ⟨_, rfl, ?_⟩
  have hX137 := hX131.tr hx136
  refine ⟨fun _ => (Pins.of_le hX137.pins hx136.le), ?_⟩
  refine dr_one (i := 3) (by kernel_rfl) (drOp1 (i := 3) rfl rfl rfl (want_none rfl _) (o_call (vs := [(.agg [u85].toArray), (.agg [u132].toArray)]) Tryd.func13 nm13 rfl rfl rfl ?_))
  refine Calls.mono (eqForm_spec hX137.pins (hr88.mono (Pin.le_trans (Pin.le_trans (Pin.le_trans (Pin.le_trans hle106 hx112.le) hx122.le) hx126.le) hx136.le)) hr135) ?_
  rintro _ w139 ⟨G138, rfl, hx140⟩
  refine ⟨_, rfl, ?_⟩
  have hX141 := hX137.tr hx140
  refine ⟨fun _ => (Pins.of_le hX141.pins (Pin.le_trans hx136.le hx140.le)), ?_⟩
  refine dr_take (i := 4) rfl rfl rfl (want_none rfl _) (by kernel_rfl) (fun _ _ => r_not rfl) (Pins.of_le hX141.pins (Pin.le_trans hx136.le hx140.le)) ?_
  refine dr_end (by kernel_rfl) ?_
  refine s_then ?_
  refine c_ifn rfl rfl (fun _ => ?_) (fun h => absurd rfl (of_decide_eq_false h))
  refine wp_skip ?_
  refine s_then ?_
  refine s_seq ?_
  refine c_reg ?_
  refine qd rfl rfl rfl (r_assign (v := (.bool true)) rfl) ?_
  refine qe ?_
  refine s_then ?_
  refine wp_ret ?_
  refine s_ret ?_
  refine c_ret1 (v := (.bool true)) rfl rfl rfl ?_
  exact ⟨_, rfl, hX141⟩

end AC1
end Go.Proofs.YtndhhpaldhlghaaDoor
