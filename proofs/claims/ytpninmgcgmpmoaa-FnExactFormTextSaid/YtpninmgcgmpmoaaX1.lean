/- Walks, printed by a program (walkgen.py) from the spec specs_x. -/
import Derived.Test.YtpninmgcgmpmoaaChecked
import Derived.Test.YtpninmgcgmpmoaaRow
import Derived.Test.YtpninmgcgmpmoaaText2
import Derived.Test.YtpninmgcgmpmoaaShelf
import Derived.Test.YtpninmgcgmpmoaaB1
import Derived.Test.YtpninmgcgmpmoaaC1
import Derived.Test.YtpninmgcgmpmoaaE1
import Derived.Test.YtpninmgcgmpmoaaL1
import Derived.Test.YtpninmgcgmpmoaaT1
set_option maxRecDepth 20000
set_option maxHeartbeats 2000000
namespace Go.Proofs.Ytpninmgcgmpmoaa
namespace X1
open Go.RowKit Go.GL Go.Proofs
open Go.Proofs.Ytpninmgcgmpmoaa.B1
open Go.Proofs.Ytpninmgcgmpmoaa.C1
open Go.Proofs.Ytpninmgcgmpmoaa.E1
open Go.Proofs.Ytpninmgcgmpmoaa.L1
open Go.Proofs.Ytpninmgcgmpmoaa.T1
theorem ag26 : (Try.prog.underlying 26).map aggD = some true := by kernel_rfl
theorem ag40 : (Try.prog.underlying 40).map aggD = some true := by kernel_rfl
theorem nm16 : (Try.f16.name == "runtime.NumGoroutine") = false := by kernel_rfl
theorem nm18 : (Try.f18.name == "runtime.NumGoroutine") = false := by kernel_rfl
theorem nm21 : (Try.f21.name == "runtime.NumGoroutine") = false := by kernel_rfl
theorem nm25 : (Try.f25.name == "runtime.NumGoroutine") = false := by kernel_rfl
theorem nm26 : (Try.f26.name == "runtime.NumGoroutine") = false := by kernel_rfl
theorem sz26 : (Try.prog.info? 26).map (·.size) = some 1 := by kernel_rfl
theorem sz40 : (Try.prog.info? 40).map (·.size) = some 1 := by kernel_rfl
theorem zr26 : (Try.prog.info? 26).bind (·.zero) = some (.agg #[(.slice none 0 0)]) := by kernel_rfl

theorem law {w : World} {G : Pin} {v : Value} {ns : List Nd} (hP : Pins G w) (hv : RSl eNode G v ns) :
    Calls Try.prog 5 [(.agg [v].toArray)].toArray w fun e w' => ∃ G', e = .returned (.bool true) ∧ Ext noS G w G' w' := by
  refine s_enter (n := 40) Try.func5 Try.ntmps5 rfl rfl ?_
  have hX0 : Ext noS G w G w := Ext.refl hP
  refine s_seq ?_
  refine c_reg ?_
  refine q1 rfl rfl rfl (o_box [v] (v := (.agg [v].toArray)) rfl rfl hX0.pins (fun b1 w2 hk3 hb4 hp5 hl6 => ?_))
  have hX7 := hX0.step hp5 hl6
  have hlo8 : w.heap.size ≤ b1 := by have := hX0.size; omega
  obtain ⟨G9, hle10, hX11, hbp12, hf13⟩ := hb4.shut hX7 hlo8
  refine qd rfl rfl rfl (r_assign (v := (.bool false)) rfl) ?_
  refine qe ?_
  refine s_then ?_
  refine s_seq ?_
  refine c_reg ?_
  refine qd rfl rfl rfl (r_assign (v := (.int .i64 1048576)) rfl) ?_
  refine qe ?_
  refine s_then ?_
  refine s_seq ?_
  refine c_reg ?_
  refine qd rfl rfl rfl (r_ldpA (cs := [v]) ag40 sz40 rfl (fun j u hj => hX11.pins _ _ _ (hbp12 _ _ (by simpa using hj)))) ?_
  refine qd rfl rfl rfl (r_move (v := (.int .i64 1048576)) rfl) ?_
  refine q1 rfl rfl rfl (o_call (vs := [(.agg [v].toArray), (.int .i64 1048576)]) Try.func16 nm16 rfl rfl rfl (Calls.mono (szForm_spec hX11.pins (hv.mono hle10) (by omega)) ?_))
  rintro _ w16 ⟨z14, G15, rfl, hz17, hx18⟩
  refine ⟨_, rfl, ?_⟩
  have hX19 := hX11.tr hx18
  refine qd rfl rfl rfl (r_assign (v := (.int .i64 z14)) rfl) ?_
  refine qe ?_
  refine s_then ?_
  refine s_seq ?_
  refine s_seq ?_
  refine c_reg ?_
  refine qd rfl rfl rfl (r_move (v := (.int .i64 z14)) rfl) ?_
  refine qd rfl rfl rfl (r_lss rfl rfl) ?_
  refine qe ?_
  refine s_then ?_
  refine c_ifd (p := (z14 : Int) < 0) rfl rfl (fun h20 => ?_) (fun h20 => ?_)
  · skip
    refine s_seq ?_
    refine c_reg ?_
    refine qd rfl rfl rfl (r_assign (v := (.bool true)) rfl) ?_
    refine qe ?_
    refine s_then ?_
    refine wp_ret ?_
    refine s_ret ?_
    refine c_ret1 (v := (.bool true)) rfl rfl rfl ?_
    exact ⟨_, rfl, hX19⟩
  · skip
    refine wp_skip ?_
    refine s_then ?_
    refine s_seq ?_
    refine c_reg ?_
    have hsm : Small ns := small_of (by omega)
    refine qd rfl rfl rfl (r_ldpA (cs := [v]) ag40 sz40 rfl (fun j u hj => (Pins.of_le hX19.pins hx18.le) _ _ _ (hbp12 _ _ (by simpa using hj)))) ?_
    refine q1 rfl rfl rfl (o_call (vs := [(.agg [v].toArray)]) Try.func18 nm18 rfl rfl rfl (Calls.mono (toForm_spec hX19.pins (hv.mono (Pin.le_trans hle10 hx18.le)) hsm) ?_))
    rintro _ w23 ⟨u21, G22, rfl, hr24, hx25⟩
    refine ⟨_, rfl, ?_⟩
    have hX26 := hX19.tr hx25
    refine q1 rfl rfl rfl (o_call (vs := [(.agg [u21].toArray)]) Try.func25 nm25 rfl rfl rfl (Calls.mono (sFormText_spec hX26.pins hr24) ?_))
    rintro _ w28 ⟨G27, rfl, hx29⟩
    refine ⟨_, rfl, ?_⟩
    have hX30 := hX26.tr hx29
    refine qd rfl rfl rfl (r_move (v := (.tuple #[(.string (ftS ns)), (.bool (ftOk ns))])) rfl) ?_
    refine qd rfl rfl rfl (r_extract (v := (.string (ftS ns))) rfl rfl) ?_
    refine qd rfl rfl rfl (r_extract (v := (.bool (ftOk ns))) rfl rfl) ?_
    refine qd rfl rfl rfl (r_assign (v := (.string (ftS ns))) rfl) ?_
    refine qd rfl rfl rfl (r_assign (v := (.bool (ftOk ns))) rfl) ?_
    refine qe ?_
    refine s_then ?_
    refine s_seq ?_
    refine c_reg ?_
    refine qd rfl rfl rfl (r_ldpA (cs := [v]) ag40 sz40 rfl (fun j u hj => (Pins.of_le hX30.pins (Pin.le_trans (Pin.le_trans hx18.le hx25.le) hx29.le)) _ _ _ (hbp12 _ _ (by simpa using hj)))) ?_
    refine q1 rfl rfl rfl (o_call (vs := [(.agg [v].toArray)]) Try.func18 nm18 rfl rfl rfl (Calls.mono (toForm_spec hX30.pins (hv.mono (Pin.le_trans (Pin.le_trans (Pin.le_trans hle10 hx18.le) hx25.le) hx29.le)) hsm) ?_))
    rintro _ w33 ⟨u31, G32, rfl, hr34, hx35⟩
    refine ⟨_, rfl, ?_⟩
    have hX36 := hX30.tr hx35
    refine q1 rfl rfl rfl (o_alloc [(.slice none 0 0)] zr26 rfl hX36.pins (fun b37 w38 hk39 hb40 hp41 hl42 => ?_))
    have hX43 := hX36.step hp41 hl42
    have hlo44 : w.heap.size ≤ b37 := by have := hX36.size; omega
    refine q0 rfl rfl rfl (o_stp (cs' := [u31]) (us := [u31]) (v := (.agg [u31].toArray)) sz26 rfl rfl rfl (ones1 hr34.one) hX43.pins hb40 (Nat.le_of_ble_eq_true rfl) rfl (fun w45 hb46 hp47 hg48 hz49 => ?_))
    have hX50 := hX43.write hp47 hg48 ((lo_box hlo44))
    obtain ⟨G51, hle52, hX53, hbp54, hf55⟩ := hb46.shut hX50 hlo44
    refine qe ?_
    refine s_then ?_
    refine s_seq ?_
    refine c_reg ?_
    refine qd rfl rfl rfl (r_ldpA (cs := [u31]) ag26 sz26 rfl (fun j u hj => hX53.pins _ _ _ (hbp54 _ _ (by simpa using hj)))) ?_
    refine q1 rfl rfl rfl (o_call (vs := [(.agg [u31].toArray)]) Try.func26 nm26 rfl rfl rfl (Calls.mono (iFormText_spec hX53.pins (hr34.mono hle52)) ?_))
    rintro _ w57 ⟨G56, rfl, hx58⟩
    refine ⟨_, rfl, ?_⟩
    have hX59 := hX53.tr hx58
    refine qd rfl rfl rfl (r_move (v := (.tuple #[(.string (ftS ns)), (.bool (ftOk ns))])) rfl) ?_
    refine qd rfl rfl rfl (r_extract (v := (.string (ftS ns))) rfl rfl) ?_
    refine qd rfl rfl rfl (r_extract (v := (.bool (ftOk ns))) rfl rfl) ?_
    refine qd rfl rfl rfl (r_assign (v := (.string (ftS ns))) rfl) ?_
    refine qd rfl rfl rfl (r_assign (v := (.bool (ftOk ns))) rfl) ?_
    refine qe ?_
    refine s_then ?_
    refine s_seq ?_
    refine s_seq ?_
    refine c_reg ?_
    refine qd rfl rfl rfl (r_move (v := (.string (ftS ns))) rfl) ?_
    refine qd rfl rfl rfl (r_move (v := (.string (ftS ns))) rfl) ?_
    refine qd rfl rfl rfl (r_neqS_same rfl rfl) ?_
    refine qd rfl rfl rfl (r_move (v := (.bool false)) rfl) ?_
    refine qdg rfl rfl rfl rfl rfl rfl (r_move (v := (.bool (ftOk ns))) rfl) ?_
    refine qdg rfl rfl rfl rfl rfl rfl (r_move (v := (.bool (ftOk ns))) rfl) ?_
    refine qdg rfl rfl rfl rfl rfl rfl (r_neqB_same Try.underlying4 rfl rfl) ?_
    refine qd rfl rfl rfl (r_pickF (v := (.bool false)) rfl rfl) ?_
    refine qe ?_
    refine s_then ?_
    refine c_ifF rfl rfl ?_
    refine wp_skip ?_
    refine s_then ?_
    refine s_seq ?_
    refine s_seq ?_
    refine c_draw (S := fun w => Pins G56 w) (last := 5) (by kernel_rfl) rfl ?_
    have hl60 : Below w57.heap.size w57 w57.drew := (Below.refl _ _).drew
    have hp61 := hX59.pins.below hl60
    have hX62 := hX59.step hp61 hl60
    refine dr_take (i := 0) rfl rfl rfl (want_none rfl _) (by kernel_rfl) (fun _ hS => r_ldpA (cs := [u31]) ag26 sz26 rfl (fun j u hj => (Pins.of_le hS hx58.le) _ _ _ (hbp54 _ _ (by simpa using hj)))) hX62.pins ?_
    refine dr_take (i := 1) rfl rfl rfl (want_none rfl _) (by kernel_rfl) (fun _ hS => r_ldpA (cs := [v]) ag40 sz40 rfl (fun j u hj => (Pins.of_le hS (Pin.le_trans (Pin.le_trans (Pin.le_trans (Pin.le_trans (Pin.le_trans hx18.le hx25.le) hx29.le) hx35.le) hle52) hx58.le)) _ _ _ (hbp12 _ _ (by simpa using hj)))) hX62.pins ?_
    refine dr_one (i := 2) (by kernel_rfl) (drOp1 (i := 2) rfl rfl rfl (want_none rfl _) (o_call (vs := [(.agg [v].toArray)]) Try.func18 nm18 rfl rfl rfl (Calls.mono (toForm_spec hX62.pins (hv.mono (Pin.le_trans (Pin.le_trans (Pin.le_trans (Pin.le_trans (Pin.le_trans (Pin.le_trans hle10 hx18.le) hx25.le) hx29.le) hx35.le) hle52) hx58.le)) hsm) ?_)))
    rintro _ w65 ⟨u63, G64, rfl, hr66, hx67⟩
    refine ⟨_, rfl, ?_⟩
    have hX68 := hX62.tr hx67
    refine ⟨fun _ => (Pins.of_le hX68.pins hx67.le), ?_⟩
    refine dr_one (i := 3) (by kernel_rfl) (drOp1 (i := 3) rfl rfl rfl (want_none rfl _) (o_call (vs := [(.agg [u31].toArray), (.agg [u63].toArray)]) Try.func21 nm21 rfl rfl rfl (Calls.mono (eqForm_spec hX68.pins (hr34.mono (Pin.le_trans (Pin.le_trans hle52 hx58.le) hx67.le)) hr66) ?_)))
    rintro _ w70 ⟨G69, rfl, hx71⟩
    refine ⟨_, rfl, ?_⟩
    have hX72 := hX68.tr hx71
    refine ⟨fun _ => (Pins.of_le hX72.pins (Pin.le_trans hx67.le hx71.le)), ?_⟩
    refine dr_take (i := 4) rfl rfl rfl (want_none rfl _) (by kernel_rfl) (fun _ _ => r_not rfl) (Pins.of_le hX72.pins (Pin.le_trans hx67.le hx71.le)) ?_
    refine dr_end (by kernel_rfl) ?_
    refine s_then ?_
    refine c_ifn rfl rfl (fun _ => ?_) (fun h => absurd rfl (of_decide_eq_false h))
    refine wp_skip ?_
    refine s_then ?_
    refine s_seq ?_
    refine c_reg ?_
    refine qd rfl rfl rfl (r_assign (v := (.bool true)) rfl) ?_
    refine qe ?_
    refine s_then ?_
    refine wp_ret ?_
    refine s_ret ?_
    refine c_ret1 (v := (.bool true)) rfl rfl rfl ?_
    exact ⟨_, rfl, hX72⟩

end X1
end Go.Proofs.Ytpninmgcgmpmoaa
