/- Walks, printed by a program (walkgen.py) from the spec specs_r. -/
import Derived.Test.YtpninmgcgmpmoaaChecked
import Derived.Test.YtpninmgcgmpmoaaRow
import Derived.Test.YtpninmgcgmpmoaaOpts
import Derived.Test.YtpninmgcgmpmoaaB1
import Derived.Test.YtpninmgcgmpmoaaC1
import Derived.Test.YtpninmgcgmpmoaaE1
import Derived.Test.YtpninmgcgmpmoaaL1
import Derived.Test.YtpninmgcgmpmoaaG1
import Derived.Test.YtpninmgcgmpmoaaM1
import Derived.Test.YtpninmgcgmpmoaaN1
import Derived.Test.YtpninmgcgmpmoaaQ1
set_option maxRecDepth 20000
set_option maxHeartbeats 2000000
namespace Go.Proofs.Ytpninmgcgmpmoaa
namespace R1
open Go.RowKit Go.GL Go.Proofs
open Go.Proofs.Ytpninmgcgmpmoaa.B1
open Go.Proofs.Ytpninmgcgmpmoaa.C1
open Go.Proofs.Ytpninmgcgmpmoaa.E1
open Go.Proofs.Ytpninmgcgmpmoaa.L1
open Go.Proofs.Ytpninmgcgmpmoaa.G1
open Go.Proofs.Ytpninmgcgmpmoaa.M1
open Go.Proofs.Ytpninmgcgmpmoaa.N1
open Go.Proofs.Ytpninmgcgmpmoaa.Q1
theorem ag26 : (Try.prog.underlying 26).map aggD = some true := by kernel_rfl
theorem ag40 : (Try.prog.underlying 40).map aggD = some true := by kernel_rfl
theorem nm15 : (Try.f15.name == "runtime.NumGoroutine") = false := by kernel_rfl
theorem nm16 : (Try.f16.name == "runtime.NumGoroutine") = false := by kernel_rfl
theorem nm18 : (Try.f18.name == "runtime.NumGoroutine") = false := by kernel_rfl
theorem nm21 : (Try.f21.name == "runtime.NumGoroutine") = false := by kernel_rfl
theorem nm22 : (Try.f22.name == "runtime.NumGoroutine") = false := by kernel_rfl
theorem nm27 : (Try.f27.name == "runtime.NumGoroutine") = false := by kernel_rfl
theorem nm28 : (Try.f28.name == "runtime.NumGoroutine") = false := by kernel_rfl
theorem nm29 : (Try.f29.name == "runtime.NumGoroutine") = false := by kernel_rfl
theorem nm30 : (Try.f30.name == "runtime.NumGoroutine") = false := by kernel_rfl
theorem sz26 : (Try.prog.info? 26).map (·.size) = some 1 := by kernel_rfl
theorem sz40 : (Try.prog.info? 40).map (·.size) = some 1 := by kernel_rfl
theorem zr26 : (Try.prog.info? 26).bind (·.zero) = some (.agg #[(.slice none 0 0)]) := by kernel_rfl

theorem eqFormS_same {w : World} {G : Pin} {u v : Value} {xs : List (List Nd)} (hP : Pins G w) (hu : RSl (eSl eNode) G u xs) (hv : RSl (eSl eNode) G v xs) :
    Calls Try.prog 28 [u, v].toArray w fun e w' => ∃ G', e = .returned (.bool true) ∧ Ext noS G w G' w' := by
  refine (eqFormS_spec hP hu hv).mono ?_
  rintro e w' ⟨G', rfl, hx⟩
  exact ⟨G', by simp, hx⟩
theorem iOptionsOf_spec {w : World} {G : Pin} {v : Value} {ns : List Nd} (hP : Pins G w) (hv : RSl eNode G v ns) :
    Calls Try.prog 27 [(.agg [v].toArray)].toArray w fun e w' => ∃ (u v : Value) (G' : Pin), e = .returned (.tuple #[u, v, .bool (goodB ns)]) ∧ RSl (eSl eNode) G' u (opL ns) ∧ RSl (eSl eNode) G' v (opR ns) ∧ Ext noS G w G' w' := by
  refine (iOptionsOf_dspec hP hv).mono ?_
  rintro e w' ⟨u, v, la, ha, lb, hb, G', rfl, h1, h2, h3, hx⟩
  obtain ⟨G1, a1, a2, a3, a4⟩ := h1.read hx.pins
  obtain ⟨G2, b1, b2, b3, b4⟩ := h2.read hx.pins
  obtain ⟨G3, c0, c1, c2, c3, c4⟩ := join_pins a1 a2 b2 a4 b4
  exact ⟨u, v, G3, rfl, a3.mono c1, b3.mono c2, hx.promise c0 c3 c4 (by omega)⟩

theorem law {w : World} {G : Pin} {v : Value} {ns : List Nd} (hP : Pins G w) (hv : RSl eNode G v ns) :
    Calls Try.prog 6 [(.agg [v].toArray)].toArray w fun e w' => ∃ G', e = .returned (.bool true) ∧ Ext noS G w G' w' := by
  refine s_enter (n := 133) Try.func6 Try.ntmps6 rfl rfl ?_
  have hX0 : Ext noS G w G w := Ext.refl hP
  have hqa := (op_small ns).1.tot
  have hqb := (op_small ns).2.tot
  have hqc := totF_nonneg (opL ns)
  have hqd := totF_nonneg (opR ns)
  have htn := totN_nonneg ns
  refine s_seq ?_
  refine c_reg ?_
  refine q1 rfl rfl rfl (o_box [v] (v := (.agg [v].toArray)) rfl rfl hX0.pins (fun b1 w2 hk3 hb4 hp5 hl6 => ?_))
  have hX7 := hX0.step hp5 hl6
  have hlo8 : w.heap.size ≤ b1 := by have := hX0.size; omega
  obtain ⟨G9, hle10, hX11, hbp12, hf13⟩ := hb4.shut hX7 hlo8
  refine qd rfl rfl rfl (r_assign (v := (.bool false)) rfl) ?_
  refine qe ?_
  refine s_then ?_
  refine s_seq ?_
  refine c_reg ?_
  refine qd rfl rfl rfl (r_assign (v := (.int .i64 1048576)) rfl) ?_
  refine qe ?_
  refine s_then ?_
  refine s_seq ?_
  refine c_reg ?_
  refine qd rfl rfl rfl (r_ldpA (cs := [v]) ag40 sz40 rfl (fun j u hj => hX11.pins _ _ _ (hbp12 _ _ (by simpa using hj)))) ?_
  refine qd rfl rfl rfl (r_move (v := (.int .i64 1048576)) rfl) ?_
  refine q1 rfl rfl rfl (o_call (vs := [(.agg [v].toArray), (.int .i64 1048576)]) Try.func16 nm16 rfl rfl rfl ?_)
  refine Calls.mono (szFormT_spec hX11.pins (hv.mono hle10) (by omega)) ?_
  rintro _ w16 ⟨z14, G15, rfl, hz17, hx18⟩
  refine ⟨_, rfl, ?_⟩
  have hX19 := hX11.tr hx18
  refine qd rfl rfl rfl (r_assign (v := (.int .i64 z14)) rfl) ?_
  refine qe ?_
  refine s_then ?_
  refine s_seq ?_
  refine s_seq ?_
  refine c_reg ?_
  refine qd rfl rfl rfl (r_move (v := (.int .i64 z14)) rfl) ?_
  refine qd rfl rfl rfl (r_lss rfl rfl) ?_
  refine qe ?_
  refine s_then ?_
  refine c_ifd (p := (z14 : Int) < 0) rfl rfl (fun h20 => ?_) (fun h20 => ?_)
  · skip
    refine s_seq ?_
    refine c_reg ?_
    refine qd rfl rfl rfl (r_assign (v := (.bool true)) rfl) ?_
    refine qe ?_
    refine s_then ?_
    refine wp_ret ?_
    refine s_ret ?_
    refine c_ret1 (v := (.bool true)) rfl rfl rfl ?_
    exact ⟨_, rfl, hX19⟩
  · skip
    refine wp_skip ?_
    refine s_then ?_
    refine s_seq ?_
    refine c_reg ?_
    have hsm : Small ns := by rcases hz17 with h | h <;> first | omega | exact h.2.2
    refine qd rfl rfl rfl (r_ldpA (cs := [v]) ag40 sz40 rfl (fun j u hj => (Pins.of_le hX19.pins hx18.le) _ _ _ (hbp12 _ _ (by simpa using hj)))) ?_
    refine q1 rfl rfl rfl (o_call (vs := [(.agg [v].toArray)]) Try.func18 nm18 rfl rfl rfl ?_)
    refine Calls.mono (toForm_spec hX19.pins (hv.mono (Pin.le_trans hle10 hx18.le)) hsm) ?_
    rintro _ w23 ⟨u21, G22, rfl, hr24, hx25⟩
    refine ⟨_, rfl, ?_⟩
    have hX26 := hX19.tr hx25
    refine q1 rfl rfl rfl (o_call (vs := [(.agg [u21].toArray)]) Try.func15 nm15 rfl rfl rfl ?_)
    refine Calls.mono (sOptionsOf_spec hX26.pins hr24) ?_
    rintro _ w30 ⟨u27, v28, G29, rfl, hr31, hr32, hx33⟩
    refine ⟨_, rfl, ?_⟩
    have hX34 := hX26.tr hx33
    refine qd rfl rfl rfl (r_move (v := (.tuple #[u27, v28, (.bool (goodB ns))])) rfl) ?_
    refine qd rfl rfl rfl (r_extract (v := u27) rfl rfl) ?_
    refine qd rfl rfl rfl (r_extract (v := v28) rfl rfl) ?_
    refine qd rfl rfl rfl (r_extract (v := (.bool (goodB ns))) rfl rfl) ?_
    refine qd rfl rfl rfl (r_assign (v := u27) rfl) ?_
    refine qd rfl rfl rfl (r_assign (v := v28) rfl) ?_
    refine qd rfl rfl rfl (r_assign (v := (.bool (goodB ns))) rfl) ?_
    refine qe ?_
    refine s_then ?_
    refine s_seq ?_
    refine c_reg ?_
    refine qd rfl rfl rfl (r_ldpA (cs := [v]) ag40 sz40 rfl (fun j u hj => (Pins.of_le hX34.pins (Pin.le_trans (Pin.le_trans hx18.le hx25.le) hx33.le)) _ _ _ (hbp12 _ _ (by simpa using hj)))) ?_
    refine q1 rfl rfl rfl (o_call (vs := [(.agg [v].toArray)]) Try.func18 nm18 rfl rfl rfl ?_)
    refine Calls.mono (toForm_dspec hX34.pins (hv.mono (Pin.le_trans (Pin.le_trans (Pin.le_trans hle10 hx18.le) hx25.le) hx33.le)) hsm) ?_
    rintro _ w37 ⟨u35, G36, rfl, hd38, hx39⟩
    refine ⟨_, rfl, ?_⟩
    have hX40 := hX34.tr hx39
    have hone41 := hd38.one
    refine q1 rfl rfl rfl (o_alloc [(.slice none 0 0)] zr26 rfl hX40.pins (fun b42 w43 hk44 hb45 hp46 hl47 => ?_))
    have hX48 := hX40.step hp46 hl47
    have hd49 := hd38.below hl47
    have hs50 := Nat.le_trans (Nat.le_refl w37.heap.size) hl47.size
    have ha51 : w37.heap.size ≤ b42 ∨ b42 < w30.heap.size := Or.inl (by have e := Option.some.inj (congrArg some hk44); have := (Nat.le_refl w37.heap.size); omega)
    have hlo52 : w.heap.size ≤ b42 := by have := hX40.size; omega
    refine q0 rfl rfl rfl (o_stp (cs' := [u35]) (us := [u35]) (v := (.agg [u35].toArray)) sz26 rfl rfl rfl (ones1 hone41) hX48.pins hb45 (Nat.le_of_ble_eq_true rfl) rfl (fun w53 hb54 hp55 hg56 hz57 => ?_))
    have hX58 := hX48.write hp55 hg56 ((lo_box hlo52))
    have hd59 := hd49.kept hg56 ha51
    have hs60 := Nat.le_trans hs50 hg56.size
    obtain ⟨G61, hle62, hX63, hbp64, hf65⟩ := hb54.shut hX58 hlo52
    have hd66 := hd59.more hle62 hf65 ha51
    refine qe ?_
    refine s_then ?_
    refine s_seq ?_
    refine c_reg ?_
    refine qd rfl rfl rfl (r_ldpA (cs := [u35]) ag26 sz26 rfl (fun j u hj => hX63.pins _ _ _ (hbp64 _ _ (by simpa using hj)))) ?_
    obtain ⟨G67, hle68, hp69, hr70, _⟩ := hd66.read hX63.pins
    refine q1 rfl rfl rfl (o_call (vs := [(.agg [u35].toArray)]) Try.func27 nm27 rfl rfl rfl ?_)
    refine Calls.mono (iOptionsOf_dspec hp69 hr70) ?_
    rintro _ w78 ⟨u71, v72, la73, ha74, lb75, hb76, G77, rfl, hd79, hd80, hin81, hx82⟩
    refine ⟨_, rfl, ?_⟩
    have hgx : w37.heap.size ≤ w53.heap.size := hs60
    have hgs := hX63.size
    have hx83 := deep_back hX63.pins hx82
    have hX84 := hX63.step hx83.pins hx83.below
    have hd85 := hd66.below hx83.below
    have hs86 := Nat.le_trans hs60 hx83.below.size
    have hd87 := hd79.anti (Pin.le_trans hle68 hx82.le)
    have hlb88 : w.heap.size ≤ la73 := by omega
    have hone89 := hd87.one
    have hd90 := hd80.anti (Pin.le_trans hle68 hx82.le)
    have hlb91 : w.heap.size ≤ lb75 := by omega
    have hone92 := hd90.one
    have ha93 := hin81.2.2.2.2
    refine qd rfl rfl rfl (r_move (v := (.tuple #[u71, v72, (.bool (goodB ns))])) rfl) ?_
    refine qd rfl rfl rfl (r_extract (v := u71) rfl rfl) ?_
    refine qd rfl rfl rfl (r_extract (v := v72) rfl rfl) ?_
    refine qd rfl rfl rfl (r_extract (v := (.bool (goodB ns))) rfl rfl) ?_
    refine qd rfl rfl rfl (r_assign (v := u71) rfl) ?_
    refine qd rfl rfl rfl (r_assign (v := v72) rfl) ?_
    refine qd rfl rfl rfl (r_assign (v := (.bool (goodB ns))) rfl) ?_
    refine qe ?_
    refine s_then ?_
    refine s_seq ?_
    refine s_seq ?_
    refine c_reg ?_
    refine qd rfl rfl rfl (r_move (v := u71) rfl) ?_
    refine qd rfl rfl rfl (r_move (v := u27) rfl) ?_
    obtain ⟨G97, hle98, hp99, hr100, _⟩ := hd87.read hX84.pins
    refine q1 rfl rfl rfl (o_call (vs := [u71, u27]) Try.func28 nm28 rfl rfl rfl ?_)
    refine Calls.mono (eqFormS_same hp99 hr100 ((hr31.mono (Pin.le_trans hx39.le hle62)).mono hle98)) ?_
    rintro _ w95 ⟨G94, rfl, hx96⟩
    refine ⟨_, rfl, ?_⟩
    have hx101 := deep_back hX84.pins hx96
    have hX102 := hX84.step hx101.pins hx101.below
    have hd103 := hd85.below hx101.below
    have hs104 := Nat.le_trans hs86 hx101.below.size
    have hd105 := hd87.below hx101.below
    have hs106 := Nat.le_trans hin81.2.1 hx101.below.size
    have hd107 := hd90.below hx101.below
    have hs108 := Nat.le_trans hin81.2.2.2.1 hx101.below.size
    refine qd rfl rfl rfl (r_not rfl) ?_
    refine qd rfl rfl rfl (r_move (v := (.bool false)) rfl) ?_
    refine qdg rfl rfl rfl rfl rfl rfl (r_move (v := v72) rfl) ?_
    refine qdg rfl rfl rfl rfl rfl rfl (r_move (v := v28) rfl) ?_
    obtain ⟨G112, hle113, hp114, hr115, _⟩ := hd107.read hX102.pins
    refine q1g rfl rfl rfl rfl rfl rfl (o_call (vs := [v72, v28]) Try.func28 nm28 rfl rfl rfl ?_)
    refine Calls.mono (eqFormS_same hp114 hr115 ((hr32.mono (Pin.le_trans hx39.le hle62)).mono hle113)) ?_
    rintro _ w110 ⟨G109, rfl, hx111⟩
    refine ⟨_, rfl, ?_⟩
    have hx116 := deep_back hX102.pins hx111
    have hX117 := hX102.step hx116.pins hx116.below
    have hd118 := hd103.below hx116.below
    have hs119 := Nat.le_trans hs104 hx116.below.size
    have hd120 := hd105.below hx116.below
    have hs121 := Nat.le_trans hs106 hx116.below.size
    have hd122 := hd107.below hx116.below
    have hs123 := Nat.le_trans hs108 hx116.below.size
    refine qdg rfl rfl rfl rfl rfl rfl (r_not rfl) ?_
    refine qd rfl rfl rfl (r_pickF (v := (.bool false)) rfl rfl) ?_
    refine qd rfl rfl rfl (r_move (v := (.bool false)) rfl) ?_
    refine qdg rfl rfl rfl rfl rfl rfl (r_move (v := (.bool (goodB ns))) rfl) ?_
    refine qdg rfl rfl rfl rfl rfl rfl (r_move (v := (.bool (goodB ns))) rfl) ?_
    refine qdg rfl rfl rfl rfl rfl rfl (r_neqB_same Try.underlying4 rfl rfl) ?_
    refine qd rfl rfl rfl (r_pickF (v := (.bool false)) rfl rfl) ?_
    refine qe ?_
    refine s_then ?_
    refine c_ifF rfl rfl ?_
    refine wp_skip ?_
    refine s_then ?_
    refine s_seq ?_
    refine s_seq ?_
    refine c_draw (S := fun w => Pins G61 w) (last := 5) (by kernel_rfl) rfl ?_
    have hl124 : Below w110.heap.size w110 w110.drew := (Below.refl _ _).drew
    have hp125 := hX117.pins.below hl124
    have hX126 := hX117.step hp125 hl124
    have hd127 := hd118.below hl124
    have hs128 := Nat.le_trans hs119 hl124.size
    have hd129 := hd120.below hl124
    have hs130 := Nat.le_trans hs121 hl124.size
    have hd131 := hd122.below hl124
    have hs132 := Nat.le_trans hs123 hl124.size
    refine dr_take (i := 0) rfl rfl rfl (want_none rfl _) (by kernel_rfl) (fun _ hS => r_ldpA (cs := [u35]) ag26 sz26 rfl (fun j u hj => hS _ _ _ (hbp64 _ _ (by simpa using hj)))) hX126.pins ?_
    refine dr_take (i := 1) rfl rfl rfl (want_none rfl _) (by kernel_rfl) (fun _ hS => r_ldpA (cs := [v]) ag40 sz40 rfl (fun j u hj => (Pins.of_le hS (Pin.le_trans (Pin.le_trans (Pin.le_trans (Pin.le_trans hx18.le hx25.le) hx33.le) hx39.le) hle62)) _ _ _ (hbp12 _ _ (by simpa using hj)))) hX126.pins ?_
    refine dr_one (i := 2) (by kernel_rfl) (drOp1 (i := 2) rfl rfl rfl (want_none rfl _) (o_call (vs := [(.agg [v].toArray)]) Try.func18 nm18 rfl rfl rfl ?_))
    refine Calls.mono (toForm_spec hX126.pins (hv.mono (Pin.le_trans (Pin.le_trans (Pin.le_trans (Pin.le_trans (Pin.le_trans hle10 hx18.le) hx25.le) hx33.le) hx39.le) hle62)) hsm) ?_
    rintro _ w135 ⟨u133, G134, rfl, hr136, hx137⟩
    refine ⟨_, rfl, ?_⟩
    have hX138 := hX126.tr hx137
    have hd139 := hd127.ext hx137
    have hs140 := Nat.le_trans hs128 hx137.size
    have hd141 := hd129.ext hx137
    have hs142 := Nat.le_trans hs130 hx137.size
    have hd143 := hd131.ext hx137
    have hs144 := Nat.le_trans hs132 hx137.size
    refine ⟨fun _ => (Pins.of_le hX138.pins hx137.le), ?_⟩
    obtain ⟨G145, hle146, hp147, hr148, _⟩ := hd139.read hX138.pins
    refine dr_one (i := 3) (by kernel_rfl) (drOp1 (i := 3) rfl rfl rfl (want_none rfl _) (o_call (vs := [(.agg [u35].toArray), (.agg [u133].toArray)]) Try.func21 nm21 rfl rfl rfl ?_))
    refine Calls.mono (eqForm_spec hp147 hr148 (hr136.mono hle146)) ?_
    rintro _ w150 ⟨G149, rfl, hx151⟩
    refine ⟨_, rfl, ?_⟩
    have hx152 := deep_back hX138.pins hx151
    have hX153 := hX138.step hx152.pins hx152.below
    have hd154 := hd139.below hx152.below
    have hs155 := Nat.le_trans hs140 hx152.below.size
    have hd156 := hd141.below hx152.below
    have hs157 := Nat.le_trans hs142 hx152.below.size
    have hd158 := hd143.below hx152.below
    have hs159 := Nat.le_trans hs144 hx152.below.size
    refine ⟨fun _ => (Pins.of_le hX153.pins hx137.le), ?_⟩
    refine dr_take (i := 4) rfl rfl rfl (want_none rfl _) (by kernel_rfl) (fun _ _ => r_not rfl) (Pins.of_le hX153.pins hx137.le) ?_
    refine dr_end (by kernel_rfl) ?_
    refine s_then ?_
    refine c_ifn rfl rfl (fun _ => ?_) (fun h => absurd rfl (of_decide_eq_false h))
    refine wp_skip ?_
    refine s_then ?_
    refine s_seq ?_
    refine c_reg ?_
    refine qd rfl rfl rfl (r_assign (v := (.int .i64 1)) rfl) ?_
    refine qe ?_
    refine s_then ?_
    refine s_seq ?_
    refine c_reg ?_
    refine qd rfl rfl rfl (r_ldpA (cs := [u35]) ag26 sz26 rfl (fun j u hj => (Pins.of_le hX153.pins hx137.le) _ _ _ (hbp64 _ _ (by simpa using hj)))) ?_
    refine qd rfl rfl rfl (r_move (v := (.int .i64 1)) rfl) ?_
    refine q1 rfl rfl rfl (o_call (vs := [(.agg [u35].toArray), (.int .i64 1)]) Try.func22 nm22 rfl rfl rfl ?_)
    refine Calls.mono (markForm_spec hX153.pins hd154 hs155 hsm (by omega)) ?_
    rintro _ w162 ⟨z161, rfl, hz163, hx164⟩
    refine ⟨_, rfl, ?_⟩
    have hX165 := hX153.trans hx164 (fun i hi => Or.inl (Nat.le_trans hX34.size hi.1))
    have hd166 := hd156.extS hx164 (fun k h1 h2 h3 => by have := h3.2; omega)
    have hs167 := Nat.le_trans hs157 hx164.size
    have hd168 := hd158.extS hx164 (fun k h1 h2 h3 => by have := h3.2; omega)
    have hs169 := Nat.le_trans hs159 hx164.size
    refine qd rfl rfl rfl (r_assign (v := (.int .i64 z161)) rfl) ?_
    refine qe ?_
    refine s_then ?_
    refine s_seq ?_
    refine s_seq ?_
    refine c_reg ?_
    refine qd rfl rfl rfl (r_move (v := (.int .i64 z161)) rfl) ?_
    refine qd rfl rfl rfl (r_lss rfl rfl) ?_
    refine qd rfl rfl rfl (r_move (v := (.bool (decide ((z161 : Int) < 0)))) rfl) ?_
    refine qbd (p := (z161 : Int) < 0) (t := 62) rfl (fun h170 => ?_) (fun h170 => ?_)
    · skip
      refine qs rfl rfl rfl rfl rfl rfl ?_
      refine qs rfl rfl rfl rfl rfl rfl ?_
      refine qs rfl rfl rfl rfl rfl rfl ?_
      refine qs rfl rfl rfl rfl rfl rfl ?_
      refine qd rfl rfl rfl (r_pickT (v := (.bool true)) rfl rfl) ?_
      refine qd rfl rfl rfl (r_move (v := (.bool true)) rfl) ?_
      refine qs rfl rfl rfl rfl rfl rfl ?_
      refine qs rfl rfl rfl rfl rfl rfl ?_
      refine qs rfl rfl rfl rfl rfl rfl ?_
      refine qs rfl rfl rfl rfl rfl rfl ?_
      refine qd rfl rfl rfl (r_pickT (v := (.bool true)) rfl rfl) ?_
      refine qd rfl rfl rfl (r_move (v := (.bool true)) rfl) ?_
      refine qs rfl rfl rfl rfl rfl rfl ?_
      refine qs rfl rfl rfl rfl rfl rfl ?_
      refine qs rfl rfl rfl rfl rfl rfl ?_
      refine qd rfl rfl rfl (r_pickT (v := (.bool true)) rfl rfl) ?_
      refine qe ?_
      refine s_then ?_
      refine c_ifT rfl rfl ?_
      refine s_seq ?_
      refine c_reg ?_
      refine qd rfl rfl rfl (r_assign (v := (.bool false)) rfl) ?_
      refine qe ?_
      refine s_then ?_
      refine wp_ret ?_
      refine s_ret ?_
      refine c_ret1 (v := (.bool false)) rfl rfl rfl ?_
      exfalso; omega
    · skip
      refine qdg rfl rfl rfl rfl rfl rfl (r_move (v := u71) rfl) ?_
      refine qdg rfl rfl rfl rfl rfl rfl (r_move (v := u27) rfl) ?_
      obtain ⟨G174, hle175, hp176, hr177, _⟩ := hd166.read hX165.pins
      refine q1g rfl rfl rfl rfl rfl rfl (o_call (vs := [u71, u27]) Try.func28 nm28 rfl rfl rfl ?_)
      refine Calls.mono (eqFormS_same hp176 hr177 ((hr31.mono (Pin.le_trans (Pin.le_trans hx39.le hle62) hx137.le)).mono hle175)) ?_
      rintro _ w172 ⟨G171, rfl, hx173⟩
      refine ⟨_, rfl, ?_⟩
      have hx178 := deep_back hX165.pins hx173
      have hX179 := hX165.step hx178.pins hx178.below
      have hd180 := hd166.below hx178.below
      have hs181 := Nat.le_trans hs167 hx178.below.size
      have hd182 := hd168.below hx178.below
      have hs183 := Nat.le_trans hs169 hx178.below.size
      refine qdg rfl rfl rfl rfl rfl rfl (r_not rfl) ?_
      refine qd rfl rfl rfl (r_pickF (v := (.bool false)) rfl rfl) ?_
      refine qd rfl rfl rfl (r_move (v := (.bool false)) rfl) ?_
      refine qdg rfl rfl rfl rfl rfl rfl (r_move (v := v72) rfl) ?_
      refine qdg rfl rfl rfl rfl rfl rfl (r_move (v := v28) rfl) ?_
      obtain ⟨G187, hle188, hp189, hr190, _⟩ := hd182.read hX179.pins
      refine q1g rfl rfl rfl rfl rfl rfl (o_call (vs := [v72, v28]) Try.func28 nm28 rfl rfl rfl ?_)
      refine Calls.mono (eqFormS_same hp189 hr190 ((hr32.mono (Pin.le_trans (Pin.le_trans hx39.le hle62) hx137.le)).mono hle188)) ?_
      rintro _ w185 ⟨G184, rfl, hx186⟩
      refine ⟨_, rfl, ?_⟩
      have hx191 := deep_back hX179.pins hx186
      have hX192 := hX179.step hx191.pins hx191.below
      have hd193 := hd180.below hx191.below
      have hs194 := Nat.le_trans hs181 hx191.below.size
      have hd195 := hd182.below hx191.below
      have hs196 := Nat.le_trans hs183 hx191.below.size
      refine qdg rfl rfl rfl rfl rfl rfl (r_not rfl) ?_
      refine qd rfl rfl rfl (r_pickF (v := (.bool false)) rfl rfl) ?_
      refine qd rfl rfl rfl (r_move (v := (.bool false)) rfl) ?_
      refine qdg rfl rfl rfl rfl rfl rfl (r_move (v := (.bool (goodB ns))) rfl) ?_
      refine qdg rfl rfl rfl rfl rfl rfl (r_move (v := (.bool (goodB ns))) rfl) ?_
      refine qdg rfl rfl rfl rfl rfl rfl (r_neqB_same Try.underlying4 rfl rfl) ?_
      refine qd rfl rfl rfl (r_pickF (v := (.bool false)) rfl rfl) ?_
      refine qe ?_
      refine s_then ?_
      refine c_ifF rfl rfl ?_
      refine wp_skip ?_
      refine s_then ?_
      refine s_seq ?_
      refine c_reg ?_
      refine qd rfl rfl rfl (r_assign (v := (.int .i64 1)) rfl) ?_
      refine qe ?_
      refine s_then ?_
      refine s_seq ?_
      refine c_reg ?_
      refine qd rfl rfl rfl (r_move (v := u71) rfl) ?_
      refine qd rfl rfl rfl (r_move (v := (.int .i64 1)) rfl) ?_
      obtain ⟨us197, ho198, hul199, hC200, hst201⟩ := hd193.mark
      refine q1 rfl rfl rfl (o_call (vs := [u71, (.int .i64 1)]) Try.func29 nm29 rfl rfl rfl ?_)
      refine Calls.mono (markFormS_spec hX192.pins ho198 hC200 (op_small ns).1 (by omega)) ?_
      rintro _ w202 ⟨rfl, hC203, hx204⟩
      refine ⟨_, rfl, ?_⟩
      have hX205 := hX192.trans hx204 (fun i hi => Or.inl (Nat.le_trans hlb88 hi.1))
      have hd206 := hst201 hC203 hx204
      have hd207 := hd195.extS hx204 (fun k h1 h2 h3 => by have h4 := ha93; have := h3.1; have := h3.2; omega)
      have hs208 := Nat.le_trans hs196 hx204.size
      refine qd rfl rfl rfl (r_assign (v := (.int .i64 (1 + totF (opL ns)))) rfl) ?_
      refine qe ?_
      refine s_then ?_
      refine s_seq ?_
      refine c_reg ?_
      refine qd rfl rfl rfl (r_move (v := v72) rfl) ?_
      refine qd rfl rfl rfl (r_move (v := (.int .i64 (1 + totF (opL ns)))) rfl) ?_
      obtain ⟨us209, ho210, hul211, hC212, hst213⟩ := hd207.mark
      refine q1 rfl rfl rfl (o_call (vs := [v72, (.int .i64 (1 + totF (opL ns)))]) Try.func29 nm29 rfl rfl rfl ?_)
      refine Calls.mono (markFormS_spec hX205.pins ho210 hC212 (op_small ns).2 (by omega)) ?_
      rintro _ w214 ⟨rfl, hC215, hx216⟩
      refine ⟨_, rfl, ?_⟩
      have hX217 := hX205.trans hx216 (fun i hi => Or.inl (Nat.le_trans hlb91 hi.1))
      have hd218 := hst213 hC215 hx216
      have hd219 := hd206.extS hx216 (fun k h1 h2 h3 => by have h4 := ha93; have := h3.1; have := h3.2; omega)
      have hs220 := Nat.le_trans (Nat.le_trans hs194 hx204.size) hx216.size
      obtain ⟨G221, hle224, hp226, hr228, hf230⟩ := hd219.read hX217.pins
      obtain ⟨G222, hle225, hp227, hr229, hf231⟩ := hd218.read hX217.pins
      obtain ⟨G223, hle232, hle233, hle234, hp235, hf236⟩ := join_pins hle224 hp226 hp227 hf230 hf231
      have hX237 := hX217.promise hle232 hp235 hf236 (by omega)
      have hr238 := hr228.mono hle233
      have hr239 := hr229.mono hle234
      refine qd rfl rfl rfl (r_assign (v := (.int .i64 ((1 + totF (opL ns)) + totF (opR ns)))) rfl) ?_
      refine qe ?_
      refine s_then ?_
      refine s_seq ?_
      refine c_reg ?_
      refine qd rfl rfl rfl (r_assign (v := (.int .i64 1)) rfl) ?_
      refine qe ?_
      refine s_then ?_
      refine s_seq ?_
      refine c_reg ?_
      refine qd rfl rfl rfl (r_move (v := u71) rfl) ?_
      refine qd rfl rfl rfl (r_move (v := (.int .i64 1)) rfl) ?_
      refine q1 rfl rfl rfl (o_call (vs := [u71, (.int .i64 1)]) Try.func30 nm30 rfl rfl rfl ?_)
      refine Calls.mono (heldFormS_spec (fs := opL ns) hX237.pins hr238 (op_small ns).1 (by omega)) ?_
      rintro _ _ ⟨rfl, rfl⟩
      refine ⟨_, rfl, ?_⟩
      refine qd rfl rfl rfl (r_assign (v := (.int .i64 (1 + totF (opL ns)))) rfl) ?_
      refine qe ?_
      refine s_then ?_
      refine s_seq ?_
      refine s_seq ?_
      refine c_reg ?_
      refine qd rfl rfl rfl (r_move (v := (.int .i64 (1 + totF (opL ns)))) rfl) ?_
      refine qd rfl rfl rfl (r_lss rfl rfl) ?_
      refine qe ?_
      refine s_then ?_
      refine c_ifd (p := (1 + totF (opL ns) : Int) < 0) rfl rfl (fun h240 => ?_) (fun h240 => ?_)
      · skip
        refine s_seq ?_
        refine c_reg ?_
        refine qd rfl rfl rfl (r_assign (v := (.bool false)) rfl) ?_
        refine qe ?_
        refine s_then ?_
        refine wp_ret ?_
        refine s_ret ?_
        refine c_ret1 (v := (.bool false)) rfl rfl rfl ?_
        exfalso; omega
      · skip
        refine wp_skip ?_
        refine s_then ?_
        refine s_seq ?_
        refine c_reg ?_
        refine qd rfl rfl rfl (r_move (v := v72) rfl) ?_
        refine qd rfl rfl rfl (r_move (v := (.int .i64 (1 + totF (opL ns)))) rfl) ?_
        refine q1 rfl rfl rfl (o_call (vs := [v72, (.int .i64 (1 + totF (opL ns)))]) Try.func30 nm30 rfl rfl rfl ?_)
        refine Calls.mono (heldFormS_spec (fs := opR ns) hX237.pins hr239 (op_small ns).2 (by omega)) ?_
        rintro _ _ ⟨rfl, rfl⟩
        refine ⟨_, rfl, ?_⟩
        refine qd rfl rfl rfl (r_assign (v := (.int .i64 ((1 + totF (opL ns)) + totF (opR ns)))) rfl) ?_
        refine qe ?_
        refine s_then ?_
        refine s_seq ?_
        refine s_seq ?_
        refine c_reg ?_
        refine qd rfl rfl rfl (r_move (v := (.int .i64 ((1 + totF (opL ns)) + totF (opR ns)))) rfl) ?_
        refine qd rfl rfl rfl (r_lss rfl rfl) ?_
        refine qe ?_
        refine s_then ?_
        refine c_ifd (p := ((1 + totF (opL ns)) + totF (opR ns) : Int) < 0) rfl rfl (fun h241 => ?_) (fun h241 => ?_)
        · skip
          refine s_seq ?_
          refine c_reg ?_
          refine qd rfl rfl rfl (r_assign (v := (.bool false)) rfl) ?_
          refine qe ?_
          refine s_then ?_
          refine wp_ret ?_
          refine s_ret ?_
          refine c_ret1 (v := (.bool false)) rfl rfl rfl ?_
          exfalso; omega
        · skip
          refine wp_skip ?_
          refine s_then ?_
          refine s_seq ?_
          refine s_seq ?_
          refine c_reg ?_
          refine qd rfl rfl rfl (r_move (v := (.int .i64 ((1 + totF (opL ns)) + totF (opR ns)))) rfl) ?_
          refine qd rfl rfl rfl (r_move (v := (.int .i64 ((1 + totF (opL ns)) + totF (opR ns)))) rfl) ?_
          refine qd rfl rfl rfl (r_neq rfl rfl) ?_
          refine qe ?_
          refine s_then ?_
          refine c_ifd (p := ((1 + totF (opL ns)) + totF (opR ns) : Int) ≠ ((1 + totF (opL ns)) + totF (opR ns))) rfl rfl (fun h242 => ?_) (fun h242 => ?_)
          · skip
            refine s_seq ?_
            refine c_reg ?_
            refine qd rfl rfl rfl (r_assign (v := (.bool false)) rfl) ?_
            refine qe ?_
            refine s_then ?_
            refine wp_ret ?_
            refine s_ret ?_
            refine c_ret1 (v := (.bool false)) rfl rfl rfl ?_
            exfalso; omega
          · skip
            refine wp_skip ?_
            refine s_then ?_
            refine s_seq ?_
            refine c_reg ?_
            refine qd rfl rfl rfl (r_ldpA (cs := [v]) ag40 sz40 rfl (fun j u hj => (Pins.of_le hX237.pins (Pin.le_trans (Pin.le_trans (Pin.le_trans (Pin.le_trans (Pin.le_trans (Pin.le_trans hx18.le hx25.le) hx33.le) hx39.le) hle62) hx137.le) hle232)) _ _ _ (hbp12 _ _ (by simpa using hj)))) ?_
            refine q1 rfl rfl rfl (o_call (vs := [(.agg [v].toArray)]) Try.func18 nm18 rfl rfl rfl ?_)
            refine Calls.mono (toForm_spec hX237.pins (hv.mono (Pin.le_trans (Pin.le_trans (Pin.le_trans (Pin.le_trans (Pin.le_trans (Pin.le_trans (Pin.le_trans hle10 hx18.le) hx25.le) hx33.le) hx39.le) hle62) hx137.le) hle232)) hsm) ?_
            rintro _ w245 ⟨u243, G244, rfl, hr246, hx247⟩
            refine ⟨_, rfl, ?_⟩
            have hX248 := hX237.tr hx247
            refine q1 rfl rfl rfl (o_call (vs := [(.agg [u243].toArray)]) Try.func27 nm27 rfl rfl rfl ?_)
            refine Calls.mono (iOptionsOf_spec hX248.pins hr246) ?_
            rintro _ w252 ⟨u249, v250, G251, rfl, hr253, hr254, hx255⟩
            refine ⟨_, rfl, ?_⟩
            have hX256 := hX248.tr hx255
            refine qd rfl rfl rfl (r_move (v := (.tuple #[u249, v250, (.bool (goodB ns))])) rfl) ?_
            refine qd rfl rfl rfl (r_extract (v := u249) rfl rfl) ?_
            refine qd rfl rfl rfl (r_extract (v := v250) rfl rfl) ?_
            refine qd rfl rfl rfl (r_extract (v := (.bool (goodB ns))) rfl rfl) ?_
            refine qd rfl rfl rfl (r_assign (v := u249) rfl) ?_
            refine qd rfl rfl rfl (r_assign (v := v250) rfl) ?_
            refine qd rfl rfl rfl (r_assign (v := (.bool (goodB ns))) rfl) ?_
            refine qe ?_
            refine s_then ?_
            refine s_seq ?_
            refine s_seq ?_
            refine c_reg ?_
            refine qd rfl rfl rfl (r_move (v := u249) rfl) ?_
            refine qd rfl rfl rfl (r_move (v := u27) rfl) ?_
            refine q1 rfl rfl rfl (o_call (vs := [u249, u27]) Try.func28 nm28 rfl rfl rfl ?_)
            refine Calls.mono (eqFormS_same hX256.pins hr253 (hr31.mono (Pin.le_trans (Pin.le_trans (Pin.le_trans (Pin.le_trans (Pin.le_trans hx39.le hle62) hx137.le) hle232) hx247.le) hx255.le))) ?_
            rintro _ w258 ⟨G257, rfl, hx259⟩
            refine ⟨_, rfl, ?_⟩
            have hX260 := hX256.tr hx259
            refine qd rfl rfl rfl (r_not rfl) ?_
            refine qd rfl rfl rfl (r_move (v := (.bool false)) rfl) ?_
            refine qdg rfl rfl rfl rfl rfl rfl (r_move (v := v250) rfl) ?_
            refine qdg rfl rfl rfl rfl rfl rfl (r_move (v := v28) rfl) ?_
            refine q1g rfl rfl rfl rfl rfl rfl (o_call (vs := [v250, v28]) Try.func28 nm28 rfl rfl rfl ?_)
            refine Calls.mono (eqFormS_same hX260.pins (hr254.mono hx259.le) (hr32.mono (Pin.le_trans (Pin.le_trans (Pin.le_trans (Pin.le_trans (Pin.le_trans (Pin.le_trans hx39.le hle62) hx137.le) hle232) hx247.le) hx255.le) hx259.le))) ?_
            rintro _ w262 ⟨G261, rfl, hx263⟩
            refine ⟨_, rfl, ?_⟩
            have hX264 := hX260.tr hx263
            refine qdg rfl rfl rfl rfl rfl rfl (r_not rfl) ?_
            refine qd rfl rfl rfl (r_pickF (v := (.bool false)) rfl rfl) ?_
            refine qd rfl rfl rfl (r_move (v := (.bool false)) rfl) ?_
            refine qdg rfl rfl rfl rfl rfl rfl (r_move (v := (.bool (goodB ns))) rfl) ?_
            refine qdg rfl rfl rfl rfl rfl rfl (r_move (v := (.bool (goodB ns))) rfl) ?_
            refine qdg rfl rfl rfl rfl rfl rfl (r_neqB_same Try.underlying4 rfl rfl) ?_
            refine qd rfl rfl rfl (r_pickF (v := (.bool false)) rfl rfl) ?_
            refine qe ?_
            refine s_then ?_
            refine c_ifF rfl rfl ?_
            refine wp_skip ?_
            refine s_then ?_
            refine s_seq ?_
            refine c_reg ?_
            refine qd rfl rfl rfl (r_assign (v := (.int .i64 1)) rfl) ?_
            refine qe ?_
            refine s_then ?_
            refine s_seq ?_
            refine c_reg ?_
            refine qd rfl rfl rfl (r_move (v := u71) rfl) ?_
            refine qd rfl rfl rfl (r_move (v := (.int .i64 1)) rfl) ?_
            refine q1 rfl rfl rfl (o_call (vs := [u71, (.int .i64 1)]) Try.func30 nm30 rfl rfl rfl ?_)
            refine Calls.mono (heldFormS_spec (fs := opL ns) hX264.pins (hr238.mono (Pin.le_trans (Pin.le_trans (Pin.le_trans hx247.le hx255.le) hx259.le) hx263.le)) (op_small ns).1 (by omega)) ?_
            rintro _ _ ⟨rfl, rfl⟩
            refine ⟨_, rfl, ?_⟩
            refine qd rfl rfl rfl (r_assign (v := (.int .i64 (1 + totF (opL ns)))) rfl) ?_
            refine qe ?_
            refine s_then ?_
            refine s_seq ?_
            refine s_seq ?_
            refine c_reg ?_
            refine qd rfl rfl rfl (r_move (v := (.int .i64 (1 + totF (opL ns)))) rfl) ?_
            refine qd rfl rfl rfl (r_lss rfl rfl) ?_
            refine qe ?_
            refine s_then ?_
            refine c_ifd (p := (1 + totF (opL ns) : Int) < 0) rfl rfl (fun h => absurd h h240) (fun _ => ?_)
            refine wp_skip ?_
            refine s_then ?_
            refine s_seq ?_
            refine c_reg ?_
            refine qd rfl rfl rfl (r_move (v := v72) rfl) ?_
            refine qd rfl rfl rfl (r_move (v := (.int .i64 (1 + totF (opL ns)))) rfl) ?_
            refine q1 rfl rfl rfl (o_call (vs := [v72, (.int .i64 (1 + totF (opL ns)))]) Try.func30 nm30 rfl rfl rfl ?_)
            refine Calls.mono (heldFormS_spec (fs := opR ns) hX264.pins (hr239.mono (Pin.le_trans (Pin.le_trans (Pin.le_trans hx247.le hx255.le) hx259.le) hx263.le)) (op_small ns).2 (by omega)) ?_
            rintro _ _ ⟨rfl, rfl⟩
            refine ⟨_, rfl, ?_⟩
            refine qd rfl rfl rfl (r_assign (v := (.int .i64 ((1 + totF (opL ns)) + totF (opR ns)))) rfl) ?_
            refine qe ?_
            refine s_then ?_
            refine s_seq ?_
            refine s_seq ?_
            refine c_reg ?_
            refine qd rfl rfl rfl (r_move (v := (.int .i64 ((1 + totF (opL ns)) + totF (opR ns)))) rfl) ?_
            refine qd rfl rfl rfl (r_lss rfl rfl) ?_
            refine qe ?_
            refine s_then ?_
            refine c_ifd (p := ((1 + totF (opL ns)) + totF (opR ns) : Int) < 0) rfl rfl (fun h => absurd h h241) (fun _ => ?_)
            refine wp_skip ?_
            refine s_then ?_
            refine s_seq ?_
            refine s_seq ?_
            refine c_reg ?_
            refine qd rfl rfl rfl (r_move (v := (.int .i64 ((1 + totF (opL ns)) + totF (opR ns)))) rfl) ?_
            refine qd rfl rfl rfl (r_move (v := (.int .i64 ((1 + totF (opL ns)) + totF (opR ns)))) rfl) ?_
            refine qd rfl rfl rfl (r_neq rfl rfl) ?_
            refine qe ?_
            refine s_then ?_
            refine c_ifd (p := ((1 + totF (opL ns)) + totF (opR ns) : Int) ≠ ((1 + totF (opL ns)) + totF (opR ns))) rfl rfl (fun h => absurd h h242) (fun _ => ?_)
            refine wp_skip ?_
            refine s_then ?_
            refine s_seq ?_
            refine c_reg ?_
            refine qd rfl rfl rfl (r_assign (v := (.bool true)) rfl) ?_
            refine qe ?_
            refine s_then ?_
            refine wp_ret ?_
            refine s_ret ?_
            refine c_ret1 (v := (.bool true)) rfl rfl rfl ?_
            exact ⟨_, rfl, hX264⟩

end R1
end Go.Proofs.Ytpninmgcgmpmoaa
