/- Walks, printed by a program (walkgen.py) from the spec specs_o. -/
import Derived.Test.YtpninmgcgmpmoaaChecked
import Derived.Test.YtpninmgcgmpmoaaRow
import Derived.Test.YtpninmgcgmpmoaaTable
import Derived.Test.YtpninmgcgmpmoaaB1
import Derived.Test.YtpninmgcgmpmoaaC1
import Derived.Test.YtpninmgcgmpmoaaE1
import Derived.Test.YtpninmgcgmpmoaaL1
import Derived.Test.YtpninmgcgmpmoaaG1
import Derived.Test.YtpninmgcgmpmoaaM1
import Derived.Test.YtpninmgcgmpmoaaN1
set_option maxRecDepth 20000
set_option maxHeartbeats 2000000
namespace Go.Proofs.Ytpninmgcgmpmoaa
namespace O1
open Go.RowKit Go.GL Go.Proofs
open Go.Proofs.Ytpninmgcgmpmoaa.B1
open Go.Proofs.Ytpninmgcgmpmoaa.C1
open Go.Proofs.Ytpninmgcgmpmoaa.E1
open Go.Proofs.Ytpninmgcgmpmoaa.L1
open Go.Proofs.Ytpninmgcgmpmoaa.G1
open Go.Proofs.Ytpninmgcgmpmoaa.M1
open Go.Proofs.Ytpninmgcgmpmoaa.N1
theorem ag64 : (Try.prog.underlying 64).map aggD = some true := by kernel_rfl
theorem ag70 : (Try.prog.underlying 70).map aggD = some true := by kernel_rfl
theorem nm36 : (Try.f36.name == "runtime.NumGoroutine") = false := by kernel_rfl
theorem nm37 : (Try.f37.name == "runtime.NumGoroutine") = false := by kernel_rfl
theorem nm38 : (Try.f38.name == "runtime.NumGoroutine") = false := by kernel_rfl
theorem nm39 : (Try.f39.name == "runtime.NumGoroutine") = false := by kernel_rfl
theorem nm40 : (Try.f40.name == "runtime.NumGoroutine") = false := by kernel_rfl
theorem nm41 : (Try.f41.name == "runtime.NumGoroutine") = false := by kernel_rfl
theorem nm42 : (Try.f42.name == "runtime.NumGoroutine") = false := by kernel_rfl
theorem nm43 : (Try.f43.name == "runtime.NumGoroutine") = false := by kernel_rfl
theorem nm44 : (Try.f44.name == "runtime.NumGoroutine") = false := by kernel_rfl
theorem sz64 : (Try.prog.info? 64).map (·.size) = some 2 := by kernel_rfl
theorem sz70 : (Try.prog.info? 70).map (·.size) = some 2 := by kernel_rfl
theorem zr70 : (Try.prog.info? 70).bind (·.zero) = some (.agg #[(.slice none 0 0), (.bool false)]) := by kernel_rfl

theorem eqMoveS_same {w : World} {G : Pin} {u v : Value} {xs : List (Int × Int)} (hP : Pins G w) (hu : RSl eP2 G u xs) (hv : RSl eP2 G v xs) :
    Calls Try.prog 40 [u, v].toArray w fun e w' => ∃ G', e = .returned (.bool true) ∧ Ext noS G w G' w' := by
  refine (eqMoveS_spec hP hu hv).mono ?_
  rintro e w' ⟨G', rfl, hx⟩
  exact ⟨G', by simp, hx⟩
theorem eqTable_same {w : World} {G : Pin} {u v : Value} {lf : Bool} {xs : List (List Nd)} (hP : Pins G w) (hu : RSl (eSl eNode) G u xs) (hv : RSl (eSl eNode) G v xs) :
    Calls Try.prog 41 [(.agg [u, .bool lf].toArray), (.agg [v, .bool lf].toArray)].toArray w fun e w' => ∃ G', e = .returned (.bool true) ∧ Ext noS G w G' w' := by
  refine (eqTable_spec hP hu hv).mono ?_
  rintro e w' ⟨G', rfl, hx⟩
  exact ⟨G', by simp, hx⟩

theorem law {w : World} {G : Pin} {v : Value} {lf : Bool} {fs : List (List Nd)} (hP : Pins G w) (hv : RSl (eSl eNode) G v fs) :
    Calls Try.prog 8 [(.agg [v, (.bool lf)].toArray)].toArray w fun e w' => ∃ G', e = .returned (.bool true) ∧ Ext noS G w G' w' := by
  refine s_enter (n := 96) Try.func8 Try.ntmps8 rfl rfl ?_
  have hX0 : Ext noS G w G w := Ext.refl hP
  have hml := mvL_len lf fs
  have htf := totF_nonneg fs
  refine s_seq ?_
  refine c_reg ?_
  refine q1 rfl rfl rfl (o_box [v, (.bool lf)] (v := (.agg [v, (.bool lf)].toArray)) rfl rfl hX0.pins (fun b1 w2 hk3 hb4 hp5 hl6 => ?_))
  have hX7 := hX0.step hp5 hl6
  have hlo8 : w.heap.size ≤ b1 := by have := hX0.size; omega
  obtain ⟨G9, hle10, hX11, hbp12, hf13⟩ := hb4.shut hX7 hlo8
  refine qd rfl rfl rfl (r_assign (v := (.bool false)) rfl) ?_
  refine qe ?_
  refine s_then ?_
  refine s_seq ?_
  refine c_reg ?_
  refine qd rfl rfl rfl (r_assign (v := (.int .i64 1048576)) rfl) ?_
  refine qe ?_
  refine s_then ?_
  refine s_seq ?_
  refine c_reg ?_
  refine qd rfl rfl rfl (r_ldpA (cs := [v, (.bool lf)]) ag64 sz64 rfl (fun j u hj => hX11.pins _ _ _ (hbp12 _ _ (by simpa using hj)))) ?_
  refine qd rfl rfl rfl (r_move (v := (.int .i64 1048576)) rfl) ?_
  refine q1 rfl rfl rfl (o_call (vs := [(.agg [v, (.bool lf)].toArray), (.int .i64 1048576)]) Try.func36 nm36 rfl rfl rfl ?_)
  refine Calls.mono (szTable_spec hX11.pins (hv.mono hle10) (by omega)) ?_
  rintro _ w16 ⟨z14, G15, rfl, hz17, hx18⟩
  refine ⟨_, rfl, ?_⟩
  have hX19 := hX11.tr hx18
  refine qd rfl rfl rfl (r_assign (v := (.int .i64 z14)) rfl) ?_
  refine qe ?_
  refine s_then ?_
  refine s_seq ?_
  refine s_seq ?_
  refine c_reg ?_
  refine qd rfl rfl rfl (r_move (v := (.int .i64 z14)) rfl) ?_
  refine qd rfl rfl rfl (r_lss rfl rfl) ?_
  refine qe ?_
  refine s_then ?_
  refine c_ifd (p := (z14 : Int) < 0) rfl rfl (fun h20 => ?_) (fun h20 => ?_)
  · skip
    refine s_seq ?_
    refine c_reg ?_
    refine qd rfl rfl rfl (r_assign (v := (.bool true)) rfl) ?_
    refine qe ?_
    refine s_then ?_
    refine wp_ret ?_
    refine s_ret ?_
    refine c_ret1 (v := (.bool true)) rfl rfl rfl ?_
    exact ⟨_, rfl, hX19⟩
  · skip
    refine wp_skip ?_
    refine s_then ?_
    refine s_seq ?_
    refine c_reg ?_
    have hsf : SmallF fs := by rcases hz17 with h | h <;> first | omega | exact h.2.2
    refine qd rfl rfl rfl (r_ldpA (cs := [v, (.bool lf)]) ag64 sz64 rfl (fun j u hj => (Pins.of_le hX19.pins hx18.le) _ _ _ (hbp12 _ _ (by simpa using hj)))) ?_
    refine q1 rfl rfl rfl (o_call (vs := [(.agg [v, (.bool lf)].toArray)]) Try.func38 nm38 rfl rfl rfl ?_)
    refine Calls.mono (toTable_spec hX19.pins (hv.mono (Pin.le_trans hle10 hx18.le)) hsf) ?_
    rintro _ w23 ⟨u21, G22, rfl, hr24, hx25⟩
    refine ⟨_, rfl, ?_⟩
    have hX26 := hX19.tr hx25
    refine q1 rfl rfl rfl (o_call (vs := [(.agg [u21, (.bool lf)].toArray)]) Try.func37 nm37 rfl rfl rfl ?_)
    refine Calls.mono (sMovesOf_spec hX26.pins hr24) ?_
    rintro _ w29 ⟨u27, G28, rfl, hr30, hx31⟩
    refine ⟨_, rfl, ?_⟩
    have hX32 := hX26.tr hx31
    refine qd rfl rfl rfl (r_move (v := (.tuple #[u27, (.bool (goodT fs))])) rfl) ?_
    refine qd rfl rfl rfl (r_extract (v := u27) rfl rfl) ?_
    refine qd rfl rfl rfl (r_extract (v := (.bool (goodT fs))) rfl rfl) ?_
    refine qd rfl rfl rfl (r_assign (v := u27) rfl) ?_
    refine qd rfl rfl rfl (r_assign (v := (.bool (goodT fs))) rfl) ?_
    refine qe ?_
    refine s_then ?_
    refine s_seq ?_
    refine c_reg ?_
    refine qd rfl rfl rfl (r_ldpA (cs := [v, (.bool lf)]) ag64 sz64 rfl (fun j u hj => (Pins.of_le hX32.pins (Pin.le_trans (Pin.le_trans hx18.le hx25.le) hx31.le)) _ _ _ (hbp12 _ _ (by simpa using hj)))) ?_
    refine q1 rfl rfl rfl (o_call (vs := [(.agg [v, (.bool lf)].toArray)]) Try.func38 nm38 rfl rfl rfl ?_)
    refine Calls.mono (toTable_dspec hX32.pins (hv.mono (Pin.le_trans (Pin.le_trans (Pin.le_trans hle10 hx18.le) hx25.le) hx31.le)) hsf) ?_
    rintro _ w35 ⟨u33, G34, rfl, hd36, hx37⟩
    refine ⟨_, rfl, ?_⟩
    have hX38 := hX32.tr hx37
    have hone39 := hd36.one
    refine q1 rfl rfl rfl (o_alloc [(.slice none 0 0), (.bool false)] zr70 rfl hX38.pins (fun b40 w41 hk42 hb43 hp44 hl45 => ?_))
    have hX46 := hX38.step hp44 hl45
    have hd47 := hd36.below hl45
    have hs48 := Nat.le_trans (Nat.le_refl w35.heap.size) hl45.size
    have ha49 : w35.heap.size ≤ b40 ∨ b40 < w29.heap.size := Or.inl (by have e := Option.some.inj (congrArg some hk42); have := (Nat.le_refl w35.heap.size); omega)
    have hlo50 : w.heap.size ≤ b40 := by have := hX38.size; omega
    refine q0 rfl rfl rfl (o_stp (cs' := [u33, (.bool lf)]) (us := [u33, (.bool lf)]) (v := (.agg [u33, (.bool lf)].toArray)) sz70 rfl rfl rfl (ones2 hone39 (by rfl)) hX46.pins hb43 (Nat.le_of_ble_eq_true rfl) rfl (fun w51 hb52 hp53 hg54 hz55 => ?_))
    have hX56 := hX46.write hp53 hg54 ((lo_box hlo50))
    have hd57 := hd47.kept hg54 ha49
    have hs58 := Nat.le_trans hs48 hg54.size
    obtain ⟨G59, hle60, hX61, hbp62, hf63⟩ := hb52.shut hX56 hlo50
    have hd64 := hd57.more hle60 hf63 ha49
    refine qe ?_
    refine s_then ?_
    refine s_seq ?_
    refine c_reg ?_
    refine qd rfl rfl rfl (r_ldpA (cs := [u33, (.bool lf)]) ag70 sz70 rfl (fun j u hj => hX61.pins _ _ _ (hbp62 _ _ (by simpa using hj)))) ?_
    obtain ⟨G65, hle66, hp67, hr68, _⟩ := hd64.read hX61.pins
    refine q1 rfl rfl rfl (o_call (vs := [(.agg [u33, (.bool lf)].toArray)]) Try.func39 nm39 rfl rfl rfl ?_)
    refine Calls.mono (iMovesOf_dspec (lf := lf) hp67 hr68) ?_
    rintro _ w71 ⟨u69, G70, rfl, ho72, hx73⟩
    refine ⟨_, rfl, ?_⟩
    have hgx : w35.heap.size ≤ w51.heap.size := hs58
    have hx74 := deep_back hX61.pins hx73
    have hX75 := hX61.step hx74.pins hx74.below
    have hd76 := hd64.below hx74.below
    have hs77 := Nat.le_trans hs58 hx74.below.size
    have hd78 : DRow eP2 120 G59 w71 w51.heap.size w71.heap.size u69 (mvL lf fs) := ⟨ho72.anti flat_p2 (Pin.le_trans hle66 hx73.le), fun k hk => (ho72.lt k hk).2⟩
    have hone79 := hd78.one
    refine qd rfl rfl rfl (r_move (v := (.tuple #[u69, (.bool (goodT fs))])) rfl) ?_
    refine qd rfl rfl rfl (r_extract (v := u69) rfl rfl) ?_
    refine qd rfl rfl rfl (r_extract (v := (.bool (goodT fs))) rfl rfl) ?_
    refine qd rfl rfl rfl (r_assign (v := u69) rfl) ?_
    refine qd rfl rfl rfl (r_assign (v := (.bool (goodT fs))) rfl) ?_
    refine qe ?_
    refine s_then ?_
    refine s_seq ?_
    refine s_seq ?_
    refine c_reg ?_
    refine qd rfl rfl rfl (r_move (v := u69) rfl) ?_
    refine qd rfl rfl rfl (r_move (v := u27) rfl) ?_
    obtain ⟨G83, hle84, hp85, hr86, _⟩ := hd78.read hX75.pins
    refine q1 rfl rfl rfl (o_call (vs := [u69, u27]) Try.func40 nm40 rfl rfl rfl ?_)
    refine Calls.mono (eqMoveS_same hp85 hr86 ((hr30.mono (Pin.le_trans hx37.le hle60)).mono hle84)) ?_
    rintro _ w81 ⟨G80, rfl, hx82⟩
    refine ⟨_, rfl, ?_⟩
    have hx87 := deep_back hX75.pins hx82
    have hX88 := hX75.step hx87.pins hx87.below
    have hd89 := hd76.below hx87.below
    have hs90 := Nat.le_trans hs77 hx87.below.size
    have hd91 := hd78.below hx87.below
    have hs92 := Nat.le_trans (Nat.le_refl w71.heap.size) hx87.below.size
    refine qd rfl rfl rfl (r_not rfl) ?_
    refine qd rfl rfl rfl (r_move (v := (.bool false)) rfl) ?_
    refine qdg rfl rfl rfl rfl rfl rfl (r_move (v := (.bool (goodT fs))) rfl) ?_
    refine qdg rfl rfl rfl rfl rfl rfl (r_move (v := (.bool (goodT fs))) rfl) ?_
    refine qdg rfl rfl rfl rfl rfl rfl (r_neqB_same Try.underlying4 rfl rfl) ?_
    refine qd rfl rfl rfl (r_pickF (v := (.bool false)) rfl rfl) ?_
    refine qe ?_
    refine s_then ?_
    refine c_ifF rfl rfl ?_
    refine wp_skip ?_
    refine s_then ?_
    refine s_seq ?_
    refine s_seq ?_
    refine c_draw (S := fun w => Pins G59 w) (last := 5) (by kernel_rfl) rfl ?_
    have hl93 : Below w81.heap.size w81 w81.drew := (Below.refl _ _).drew
    have hp94 := hX88.pins.below hl93
    have hX95 := hX88.step hp94 hl93
    have hd96 := hd89.below hl93
    have hs97 := Nat.le_trans hs90 hl93.size
    have hd98 := hd91.below hl93
    have hs99 := Nat.le_trans hs92 hl93.size
    refine dr_take (i := 0) rfl rfl rfl (want_none rfl _) (by kernel_rfl) (fun _ hS => r_ldpA (cs := [u33, (.bool lf)]) ag70 sz70 rfl (fun j u hj => hS _ _ _ (hbp62 _ _ (by simpa using hj)))) hX95.pins ?_
    refine dr_take (i := 1) rfl rfl rfl (want_none rfl _) (by kernel_rfl) (fun _ hS => r_ldpA (cs := [v, (.bool lf)]) ag64 sz64 rfl (fun j u hj => (Pins.of_le hS (Pin.le_trans (Pin.le_trans (Pin.le_trans (Pin.le_trans hx18.le hx25.le) hx31.le) hx37.le) hle60)) _ _ _ (hbp12 _ _ (by simpa using hj)))) hX95.pins ?_
    refine dr_one (i := 2) (by kernel_rfl) (drOp1 (i := 2) rfl rfl rfl (want_none rfl _) (o_call (vs := [(.agg [v, (.bool lf)].toArray)]) Try.func38 nm38 rfl rfl rfl ?_))
    refine Calls.mono (toTable_spec hX95.pins (hv.mono (Pin.le_trans (Pin.le_trans (Pin.le_trans (Pin.le_trans (Pin.le_trans hle10 hx18.le) hx25.le) hx31.le) hx37.le) hle60)) hsf) ?_
    rintro _ w102 ⟨u100, G101, rfl, hr103, hx104⟩
    refine ⟨_, rfl, ?_⟩
    have hX105 := hX95.tr hx104
    have hd106 := hd96.ext hx104
    have hs107 := Nat.le_trans hs97 hx104.size
    have hd108 := hd98.ext hx104
    have hs109 := Nat.le_trans hs99 hx104.size
    refine ⟨fun _ => (Pins.of_le hX105.pins hx104.le), ?_⟩
    obtain ⟨G113, hle114, hp115, hr116, _⟩ := hd106.read hX105.pins
    refine dr_one (i := 3) (by kernel_rfl) (drOp1 (i := 3) rfl rfl rfl (want_none rfl _) (o_call (vs := [(.agg [u33, (.bool lf)].toArray), (.agg [u100, (.bool lf)].toArray)]) Try.func41 nm41 rfl rfl rfl ?_))
    refine Calls.mono (eqTable_same hp115 hr116 (hr103.mono hle114)) ?_
    rintro _ w111 ⟨G110, rfl, hx112⟩
    refine ⟨_, rfl, ?_⟩
    have hx117 := deep_back hX105.pins hx112
    have hX118 := hX105.step hx117.pins hx117.below
    have hd119 := hd106.below hx117.below
    have hs120 := Nat.le_trans hs107 hx117.below.size
    have hd121 := hd108.below hx117.below
    have hs122 := Nat.le_trans hs109 hx117.below.size
    refine ⟨fun _ => (Pins.of_le hX118.pins hx104.le), ?_⟩
    refine dr_take (i := 4) rfl rfl rfl (want_none rfl _) (by kernel_rfl) (fun _ _ => r_not rfl) (Pins.of_le hX118.pins hx104.le) ?_
    refine dr_end (by kernel_rfl) ?_
    refine s_then ?_
    refine c_ifF rfl rfl ?_
    refine wp_skip ?_
    refine s_then ?_
    refine s_seq ?_
    refine c_reg ?_
    refine qd rfl rfl rfl (r_assign (v := (.int .i64 1)) rfl) ?_
    refine qe ?_
    refine s_then ?_
    refine s_seq ?_
    refine c_reg ?_
    refine qd rfl rfl rfl (r_ldpA (cs := [u33, (.bool lf)]) ag70 sz70 rfl (fun j u hj => (Pins.of_le hX118.pins hx104.le) _ _ _ (hbp62 _ _ (by simpa using hj)))) ?_
    refine qd rfl rfl rfl (r_move (v := (.int .i64 1)) rfl) ?_
    refine q1 rfl rfl rfl (o_call (vs := [(.agg [u33, (.bool lf)].toArray), (.int .i64 1)]) Try.func42 nm42 rfl rfl rfl ?_)
    refine Calls.mono (markTable_spec (lf := lf) hX118.pins hd119 hs120 hsf (by omega)) ?_
    rintro _ w123 ⟨rfl, hd124, hx125⟩
    refine ⟨_, rfl, ?_⟩
    have hX126 := hX118.trans hx125 (fun i hi => Or.inl (Nat.le_trans hX32.size hi.1))
    have hd127 := hd121.extS hx125 (fun k h1 h2 h3 => by have := h3.2; omega)
    have hs128 := Nat.le_trans hs122 hx125.size
    refine qd rfl rfl rfl (r_assign (v := (.int .i64 (1 + totF fs))) rfl) ?_
    refine qe ?_
    refine s_then ?_
    refine s_seq ?_
    refine s_seq ?_
    refine c_reg ?_
    refine qd rfl rfl rfl (r_move (v := (.int .i64 (1 + totF fs))) rfl) ?_
    refine qd rfl rfl rfl (r_lss rfl rfl) ?_
    refine qd rfl rfl rfl (r_move (v := (.bool (decide ((1 + totF fs : Int) < 0)))) rfl) ?_
    refine qbd (p := (1 + totF fs : Int) < 0) (t := 51) rfl (fun h129 => ?_) (fun h129 => ?_)
    · skip
      refine qs rfl rfl rfl rfl rfl rfl ?_
      refine qs rfl rfl rfl rfl rfl rfl ?_
      refine qs rfl rfl rfl rfl rfl rfl ?_
      refine qs rfl rfl rfl rfl rfl rfl ?_
      refine qd rfl rfl rfl (r_pickT (v := (.bool true)) rfl rfl) ?_
      refine qd rfl rfl rfl (r_move (v := (.bool true)) rfl) ?_
      refine qs rfl rfl rfl rfl rfl rfl ?_
      refine qs rfl rfl rfl rfl rfl rfl ?_
      refine qs rfl rfl rfl rfl rfl rfl ?_
      refine qd rfl rfl rfl (r_pickT (v := (.bool true)) rfl rfl) ?_
      refine qe ?_
      refine s_then ?_
      refine c_ifT rfl rfl ?_
      refine s_seq ?_
      refine c_reg ?_
      refine qd rfl rfl rfl (r_assign (v := (.bool false)) rfl) ?_
      refine qe ?_
      refine s_then ?_
      refine wp_ret ?_
      refine s_ret ?_
      refine c_ret1 (v := (.bool false)) rfl rfl rfl ?_
      exfalso; omega
    · skip
      refine qdg rfl rfl rfl rfl rfl rfl (r_move (v := u69) rfl) ?_
      refine qdg rfl rfl rfl rfl rfl rfl (r_move (v := u27) rfl) ?_
      obtain ⟨G133, hle134, hp135, hr136, _⟩ := hd127.read hX126.pins
      refine q1g rfl rfl rfl rfl rfl rfl (o_call (vs := [u69, u27]) Try.func40 nm40 rfl rfl rfl ?_)
      refine Calls.mono (eqMoveS_same hp135 hr136 ((hr30.mono (Pin.le_trans (Pin.le_trans hx37.le hle60) hx104.le)).mono hle134)) ?_
      rintro _ w131 ⟨G130, rfl, hx132⟩
      refine ⟨_, rfl, ?_⟩
      have hx137 := deep_back hX126.pins hx132
      have hX138 := hX126.step hx137.pins hx137.below
      have hd139 := hd127.below hx137.below
      have hs140 := Nat.le_trans hs128 hx137.below.size
      refine qdg rfl rfl rfl rfl rfl rfl (r_not rfl) ?_
      refine qd rfl rfl rfl (r_pickF (v := (.bool false)) rfl rfl) ?_
      refine qd rfl rfl rfl (r_move (v := (.bool false)) rfl) ?_
      refine qdg rfl rfl rfl rfl rfl rfl (r_move (v := (.bool (goodT fs))) rfl) ?_
      refine qdg rfl rfl rfl rfl rfl rfl (r_move (v := (.bool (goodT fs))) rfl) ?_
      refine qdg rfl rfl rfl rfl rfl rfl (r_neqB_same Try.underlying4 rfl rfl) ?_
      refine qd rfl rfl rfl (r_pickF (v := (.bool false)) rfl rfl) ?_
      refine qe ?_
      refine s_then ?_
      refine c_ifF rfl rfl ?_
      refine wp_skip ?_
      refine s_then ?_
      refine s_seq ?_
      refine c_reg ?_
      refine qd rfl rfl rfl (r_assign (v := (.int .i64 1)) rfl) ?_
      refine qe ?_
      refine s_then ?_
      refine s_seq ?_
      refine c_reg ?_
      refine qd rfl rfl rfl (r_move (v := u69) rfl) ?_
      refine qd rfl rfl rfl (r_move (v := (.int .i64 1)) rfl) ?_
      refine q1 rfl rfl rfl (o_call (vs := [u69, (.int .i64 1)]) Try.func43 nm43 rfl rfl rfl ?_)
      refine Calls.mono (markMoveS_spec hX138.pins (hd139.row.weaken (Nat.zero_le _)) (by omega) (by omega)) ?_
      rintro _ w141 ⟨rfl, ho142, hx143⟩
      refine ⟨_, rfl, ?_⟩
      have hX144 := hX138.trans hx143 (fun i hi => Or.inl (by obtain ⟨u, hu, hk⟩ := hi; simp at hu; subst hu; exact Nat.le_trans hX61.size (hd139.row.lt _ hk).1))
      obtain ⟨G146, hle147, hp148, hr149, hf150⟩ := DRow.read ⟨ho142.up (fun k hk => (hd139.row.lt k hk).1), hd139.top⟩ hX144.pins
      have hX145 := hX144.promise hle147 hp148 hf150 hX61.size
      refine qd rfl rfl rfl (r_assign (v := (.int .i64 (1 + 2 * ((mvL lf fs).length : Int)))) rfl) ?_
      refine qe ?_
      refine s_then ?_
      refine s_seq ?_
      refine c_reg ?_
      refine qd rfl rfl rfl (r_assign (v := (.int .i64 1)) rfl) ?_
      refine qe ?_
      refine s_then ?_
      refine s_seq ?_
      refine c_reg ?_
      refine qd rfl rfl rfl (r_move (v := u69) rfl) ?_
      refine qd rfl rfl rfl (r_move (v := (.int .i64 1)) rfl) ?_
      refine q1 rfl rfl rfl (o_call (vs := [u69, (.int .i64 1)]) Try.func44 nm44 rfl rfl rfl ?_)
      refine Calls.mono (heldMoveS_spec (xs := mvL lf fs) (kz := 1) hX145.pins hr149 (by omega) (by omega)) ?_
      rintro _ _ ⟨rfl, rfl⟩
      refine ⟨_, rfl, ?_⟩
      refine qd rfl rfl rfl (r_assign (v := (.int .i64 (1 + 2 * ((mvL lf fs).length : Int)))) rfl) ?_
      refine qe ?_
      refine s_then ?_
      refine s_seq ?_
      refine s_seq ?_
      refine c_reg ?_
      refine qd rfl rfl rfl (r_move (v := (.int .i64 (1 + 2 * ((mvL lf fs).length : Int)))) rfl) ?_
      refine qd rfl rfl rfl (r_lss rfl rfl) ?_
      refine qe ?_
      refine s_then ?_
      refine c_ifd (p := (1 + 2 * ((mvL lf fs).length : Int) : Int) < 0) rfl rfl (fun h151 => ?_) (fun h151 => ?_)
      · skip
        refine s_seq ?_
        refine c_reg ?_
        refine qd rfl rfl rfl (r_assign (v := (.bool false)) rfl) ?_
        refine qe ?_
        refine s_then ?_
        refine wp_ret ?_
        refine s_ret ?_
        refine c_ret1 (v := (.bool false)) rfl rfl rfl ?_
        exfalso; omega
      · skip
        refine wp_skip ?_
        refine s_then ?_
        refine s_seq ?_
        refine s_seq ?_
        refine c_reg ?_
        refine qd rfl rfl rfl (r_move (v := (.int .i64 (1 + 2 * ((mvL lf fs).length : Int)))) rfl) ?_
        refine qd rfl rfl rfl (r_move (v := (.int .i64 (1 + 2 * ((mvL lf fs).length : Int)))) rfl) ?_
        refine qd rfl rfl rfl (r_neq rfl rfl) ?_
        refine qe ?_
        refine s_then ?_
        refine c_ifd (p := (1 + 2 * ((mvL lf fs).length : Int) : Int) ≠ (1 + 2 * ((mvL lf fs).length : Int))) rfl rfl (fun h152 => ?_) (fun h152 => ?_)
        · skip
          refine s_seq ?_
          refine c_reg ?_
          refine qd rfl rfl rfl (r_assign (v := (.bool false)) rfl) ?_
          refine qe ?_
          refine s_then ?_
          refine wp_ret ?_
          refine s_ret ?_
          refine c_ret1 (v := (.bool false)) rfl rfl rfl ?_
          exfalso; omega
        · skip
          refine wp_skip ?_
          refine s_then ?_
          refine s_seq ?_
          refine c_reg ?_
          refine qd rfl rfl rfl (r_ldpA (cs := [v, (.bool lf)]) ag64 sz64 rfl (fun j u hj => (Pins.of_le hX145.pins (Pin.le_trans (Pin.le_trans (Pin.le_trans (Pin.le_trans (Pin.le_trans (Pin.le_trans hx18.le hx25.le) hx31.le) hx37.le) hle60) hx104.le) hle147)) _ _ _ (hbp12 _ _ (by simpa using hj)))) ?_
          refine q1 rfl rfl rfl (o_call (vs := [(.agg [v, (.bool lf)].toArray)]) Try.func38 nm38 rfl rfl rfl ?_)
          refine Calls.mono (toTable_spec hX145.pins (hv.mono (Pin.le_trans (Pin.le_trans (Pin.le_trans (Pin.le_trans (Pin.le_trans (Pin.le_trans (Pin.le_trans hle10 hx18.le) hx25.le) hx31.le) hx37.le) hle60) hx104.le) hle147)) hsf) ?_
          rintro _ w155 ⟨u153, G154, rfl, hr156, hx157⟩
          refine ⟨_, rfl, ?_⟩
          have hX158 := hX145.tr hx157
          refine q1 rfl rfl rfl (o_call (vs := [(.agg [u153, (.bool lf)].toArray)]) Try.func39 nm39 rfl rfl rfl ?_)
          refine Calls.mono (iMovesOf_dspec (lf := lf) hX158.pins hr156) ?_
          rintro _ w161 ⟨u159, G160, rfl, ho162, hx163⟩
          refine ⟨_, rfl, ?_⟩
          obtain ⟨G165, ho162r, hx164⟩ := row_give ho162 hx163
          have hX166 := hX158.tr hx164
          refine qd rfl rfl rfl (r_move (v := (.tuple #[u159, (.bool (goodT fs))])) rfl) ?_
          refine qd rfl rfl rfl (r_extract (v := u159) rfl rfl) ?_
          refine qd rfl rfl rfl (r_extract (v := (.bool (goodT fs))) rfl rfl) ?_
          refine qd rfl rfl rfl (r_assign (v := u159) rfl) ?_
          refine qd rfl rfl rfl (r_assign (v := (.bool (goodT fs))) rfl) ?_
          refine qe ?_
          refine s_then ?_
          refine s_seq ?_
          refine s_seq ?_
          refine c_reg ?_
          refine qd rfl rfl rfl (r_move (v := u159) rfl) ?_
          refine qd rfl rfl rfl (r_move (v := u27) rfl) ?_
          refine q1 rfl rfl rfl (o_call (vs := [u159, u27]) Try.func40 nm40 rfl rfl rfl ?_)
          refine Calls.mono (eqMoveS_same hX166.pins ho162r (hr30.mono (Pin.le_trans (Pin.le_trans (Pin.le_trans (Pin.le_trans (Pin.le_trans hx37.le hle60) hx104.le) hle147) hx157.le) hx164.le))) ?_
          rintro _ w168 ⟨G167, rfl, hx169⟩
          refine ⟨_, rfl, ?_⟩
          have hX170 := hX166.tr hx169
          refine qd rfl rfl rfl (r_not rfl) ?_
          refine qd rfl rfl rfl (r_move (v := (.bool false)) rfl) ?_
          refine qdg rfl rfl rfl rfl rfl rfl (r_move (v := (.bool (goodT fs))) rfl) ?_
          refine qdg rfl rfl rfl rfl rfl rfl (r_move (v := (.bool (goodT fs))) rfl) ?_
          refine qdg rfl rfl rfl rfl rfl rfl (r_neqB_same Try.underlying4 rfl rfl) ?_
          refine qd rfl rfl rfl (r_pickF (v := (.bool false)) rfl rfl) ?_
          refine qe ?_
          refine s_then ?_
          refine c_ifF rfl rfl ?_
          refine wp_skip ?_
          refine s_then ?_
          refine s_seq ?_
          refine c_reg ?_
          refine qd rfl rfl rfl (r_assign (v := (.int .i64 1)) rfl) ?_
          refine qe ?_
          refine s_then ?_
          refine s_seq ?_
          refine c_reg ?_
          refine qd rfl rfl rfl (r_move (v := u69) rfl) ?_
          refine qd rfl rfl rfl (r_move (v := (.int .i64 1)) rfl) ?_
          refine q1 rfl rfl rfl (o_call (vs := [u69, (.int .i64 1)]) Try.func44 nm44 rfl rfl rfl ?_)
          refine Calls.mono (heldMoveS_spec (xs := mvL lf fs) (kz := 1) hX170.pins (hr149.mono (Pin.le_trans (Pin.le_trans hx157.le hx164.le) hx169.le)) (by omega) (by omega)) ?_
          rintro _ _ ⟨rfl, rfl⟩
          refine ⟨_, rfl, ?_⟩
          refine qd rfl rfl rfl (r_assign (v := (.int .i64 (1 + 2 * ((mvL lf fs).length : Int)))) rfl) ?_
          refine qe ?_
          refine s_then ?_
          refine s_seq ?_
          refine s_seq ?_
          refine c_reg ?_
          refine qd rfl rfl rfl (r_move (v := (.int .i64 (1 + 2 * ((mvL lf fs).length : Int)))) rfl) ?_
          refine qd rfl rfl rfl (r_lss rfl rfl) ?_
          refine qe ?_
          refine s_then ?_
          refine c_ifd (p := (1 + 2 * ((mvL lf fs).length : Int) : Int) < 0) rfl rfl (fun h => absurd h h151) (fun _ => ?_)
          refine wp_skip ?_
          refine s_then ?_
          refine s_seq ?_
          refine s_seq ?_
          refine c_reg ?_
          refine qd rfl rfl rfl (r_move (v := (.int .i64 (1 + 2 * ((mvL lf fs).length : Int)))) rfl) ?_
          refine qd rfl rfl rfl (r_move (v := (.int .i64 (1 + 2 * ((mvL lf fs).length : Int)))) rfl) ?_
          refine qd rfl rfl rfl (r_neq rfl rfl) ?_
          refine qe ?_
          refine s_then ?_
          refine c_ifd (p := (1 + 2 * ((mvL lf fs).length : Int) : Int) ≠ (1 + 2 * ((mvL lf fs).length : Int))) rfl rfl (fun h => absurd h h152) (fun _ => ?_)
          refine wp_skip ?_
          refine s_then ?_
          refine s_seq ?_
          refine c_reg ?_
          refine qd rfl rfl rfl (r_assign (v := (.bool true)) rfl) ?_
          refine qe ?_
          refine s_then ?_
          refine wp_ret ?_
          refine s_ret ?_
          refine c_ret1 (v := (.bool true)) rfl rfl rfl ?_
          exact ⟨_, rfl, hX170⟩

end O1
end Go.Proofs.Ytpninmgcgmpmoaa
