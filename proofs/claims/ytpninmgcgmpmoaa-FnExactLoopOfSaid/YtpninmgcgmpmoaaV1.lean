/- Walks, printed by a program (walkgen.py) from the spec specs_v. -/
import Derived.Test.YtpninmgcgmpmoaaChecked
import Derived.Test.YtpninmgcgmpmoaaRow
import Derived.Test.YtpninmgcgmpmoaaDeep
import Derived.Test.YtpninmgcgmpmoaaText
import Derived.Test.YtpninmgcgmpmoaaB1
import Derived.Test.YtpninmgcgmpmoaaC1
import Derived.Test.YtpninmgcgmpmoaaE1
import Derived.Test.YtpninmgcgmpmoaaL1
import Derived.Test.YtpninmgcgmpmoaaG1
set_option maxRecDepth 20000
set_option maxHeartbeats 1000000
namespace Go.Proofs.Ytpninmgcgmpmoaa
namespace V1
open Go.RowKit Go.GL Go.Proofs
open Go.Proofs.Ytpninmgcgmpmoaa.B1
open Go.Proofs.Ytpninmgcgmpmoaa.C1
open Go.Proofs.Ytpninmgcgmpmoaa.E1
open Go.Proofs.Ytpninmgcgmpmoaa.L1
open Go.Proofs.Ytpninmgcgmpmoaa.G1
theorem ag26 : (Try.prog.underlying 26).map aggD = some true := by kernel_rfl
theorem ag40 : (Try.prog.underlying 40).map aggD = some true := by kernel_rfl
theorem ag44 : (Try.prog.underlying 44).map aggD = some true := by kernel_rfl
theorem nm16 : (Try.f16.name == "runtime.NumGoroutine") = false := by kernel_rfl
theorem nm17 : (Try.f17.name == "runtime.NumGoroutine") = false := by kernel_rfl
theorem nm18 : (Try.f18.name == "runtime.NumGoroutine") = false := by kernel_rfl
theorem nm19 : (Try.f19.name == "runtime.NumGoroutine") = false := by kernel_rfl
theorem nm20 : (Try.f20.name == "runtime.NumGoroutine") = false := by kernel_rfl
theorem nm21 : (Try.f21.name == "runtime.NumGoroutine") = false := by kernel_rfl
theorem nm22 : (Try.f22.name == "runtime.NumGoroutine") = false := by kernel_rfl
theorem nm23 : (Try.f23.name == "runtime.NumGoroutine") = false := by kernel_rfl
theorem nm24 : (Try.f24.name == "runtime.NumGoroutine") = false := by kernel_rfl
theorem sz26 : (Try.prog.info? 26).map (·.size) = some 1 := by kernel_rfl
theorem sz40 : (Try.prog.info? 40).map (·.size) = some 1 := by kernel_rfl
theorem sz44 : (Try.prog.info? 44).map (·.size) = some 2 := by kernel_rfl
theorem zr26 : (Try.prog.info? 26).bind (·.zero) = some (.agg #[(.slice none 0 0)]) := by kernel_rfl
theorem zr44 : (Try.prog.info? 44).bind (·.zero) = some (.agg #[(.slice none 0 0), (.slice none 0 0)]) := by kernel_rfl

theorem eqLoop_same {w : World} {G : Pin} {u v x y : Value} {a b : List (List Int)} (hP : Pins G w) (hu : RSl (eSl eInt) G u a) (hv : RSl (eSl eInt) G v b) (hx : RSl (eSl eInt) G x a) (hy : RSl (eSl eInt) G y b) :
    Calls Try.prog 20 [(.agg [u, v].toArray), (.agg [x, y].toArray)].toArray w fun e w' => ∃ G', e = .returned (.bool true) ∧ Ext noS G w G' w' := by
  refine (eqLoop_spec hP hu hv hx hy).mono ?_
  rintro e w' ⟨G', rfl, hx⟩
  exact ⟨G', by simp, hx⟩
theorem iLoopOf_spec {w : World} {G : Pin} {v : Value} {ns : List Nd} (hP : Pins G w) (hv : RSl eNode G v ns) (hsm : Small ns) :
    Calls Try.prog 19 [(.agg [v].toArray)].toArray w fun e w' => ∃ (u v : Value) (G' : Pin), e = .returned (.tuple #[.agg [u, v].toArray, .bool (lpOk ns)]) ∧ RSl (eSl eInt) G' u (lpL ns) ∧ RSl (eSl eInt) G' v (lpR ns) ∧ Ext noS G w G' w' := by
  refine (iLoopOf_dspec hP hv hsm).mono ?_
  rintro e w' ⟨u, v, G', rfl, hd, hx⟩
  obtain ⟨G'', h1, h2, h3⟩ := hd.give hx
  exact ⟨u, v, G'', rfl, h1, h2, h3⟩

theorem law {w : World} {G : Pin} {v : Value} {ns : List Nd} (hP : Pins G w) (hv : RSl eNode G v ns) :
    Calls Try.prog 4 [(.agg [v].toArray)].toArray w fun e w' => ∃ G', e = .returned (.bool true) ∧ Ext noS G w G' w' := by
  refine s_enter (n := 96) Try.func4 Try.ntmps4 rfl rfl ?_
  have hX0 : Ext noS G w G w := Ext.refl hP
  have htl := tot_nonneg (lpL ns)
  have htr := tot_nonneg (lpR ns)
  refine s_seq ?_
  refine c_reg ?_
  refine q1 rfl rfl rfl (o_box [v] (v := (.agg [v].toArray)) rfl rfl hX0.pins (fun b1 w2 hk3 hb4 hp5 hl6 => ?_))
  have hX7 := hX0.step hp5 hl6
  have hlo8 : w.heap.size ≤ b1 := by have := hX0.size; omega
  obtain ⟨G9, hle10, hX11, hbp12, hf13⟩ := hb4.shut hX7 hlo8
  refine qd rfl rfl rfl (r_assign (v := (.bool false)) rfl) ?_
  refine qe ?_
  refine s_then ?_
  refine s_seq ?_
  refine c_reg ?_
  refine qd rfl rfl rfl (r_assign (v := (.int .i64 1048576)) rfl) ?_
  refine qe ?_
  refine s_then ?_
  refine s_seq ?_
  refine c_reg ?_
  refine qd rfl rfl rfl (r_ldpA (cs := [v]) ag40 sz40 rfl (fun j u hj => hX11.pins _ _ _ (hbp12 _ _ (by simpa using hj)))) ?_
  refine qd rfl rfl rfl (r_move (v := (.int .i64 1048576)) rfl) ?_
  refine q1 rfl rfl rfl (o_call (vs := [(.agg [v].toArray), (.int .i64 1048576)]) Try.func16 nm16 rfl rfl rfl ?_)
  refine Calls.mono (szForm_spec hX11.pins (hv.mono hle10) (by omega)) ?_
  rintro _ w16 ⟨z14, G15, rfl, hz17, hx18⟩
  refine ⟨_, rfl, ?_⟩
  have hX19 := hX11.tr hx18
  refine qd rfl rfl rfl (r_assign (v := (.int .i64 z14)) rfl) ?_
  refine qe ?_
  refine s_then ?_
  refine s_seq ?_
  refine s_seq ?_
  refine c_reg ?_
  refine qd rfl rfl rfl (r_move (v := (.int .i64 z14)) rfl) ?_
  refine qd rfl rfl rfl (r_lss rfl rfl) ?_
  refine qe ?_
  refine s_then ?_
  refine c_ifd (p := (z14 : Int) < 0) rfl rfl (fun h20 => ?_) (fun h20 => ?_)
  · skip
    refine s_seq ?_
    refine c_reg ?_
    refine qd rfl rfl rfl (r_assign (v := (.bool true)) rfl) ?_
    refine qe ?_
    refine s_then ?_
    refine wp_ret ?_
    refine s_ret ?_
    refine c_ret1 (v := (.bool true)) rfl rfl rfl ?_
    exact ⟨_, rfl, hX19⟩
  · skip
    refine wp_skip ?_
    refine s_then ?_
    refine s_seq ?_
    refine c_reg ?_
    have hsm : Small ns := small_of (by omega)
    have htb : tot (lpL ns) ≤ 1099511627774 := by have := tot_le (inL hsm); have := lp_len36 ns; omega
    refine qd rfl rfl rfl (r_ldpA (cs := [v]) ag40 sz40 rfl (fun j u hj => (Pins.of_le hX19.pins hx18.le) _ _ _ (hbp12 _ _ (by simpa using hj)))) ?_
    refine q1 rfl rfl rfl (o_call (vs := [(.agg [v].toArray)]) Try.func18 nm18 rfl rfl rfl ?_)
    refine Calls.mono (toForm_spec hX19.pins (hv.mono (Pin.le_trans hle10 hx18.le)) hsm) ?_
    rintro _ w23 ⟨u21, G22, rfl, hr24, hx25⟩
    refine ⟨_, rfl, ?_⟩
    have hX26 := hX19.tr hx25
    refine q1 rfl rfl rfl (o_call (vs := [(.agg [u21].toArray)]) Try.func17 nm17 rfl rfl rfl ?_)
    refine Calls.mono (sLoopOf_spec hX26.pins hr24 hsm) ?_
    rintro _ w30 ⟨u27, v28, G29, rfl, hr31, hr32, hx33⟩
    refine ⟨_, rfl, ?_⟩
    have hX34 := hX26.tr hx33
    refine qd rfl rfl rfl (r_move (v := (.tuple #[(.agg [u27, v28].toArray), (.bool (lpOk ns))])) rfl) ?_
    refine qd rfl rfl rfl (r_extract (v := (.agg [u27, v28].toArray)) rfl rfl) ?_
    refine qd rfl rfl rfl (r_extract (v := (.bool (lpOk ns))) rfl rfl) ?_
    refine q1 rfl rfl rfl (o_alloc [(.slice none 0 0), (.slice none 0 0)] zr44 rfl hX34.pins (fun b35 w36 hk37 hb38 hp39 hl40 => ?_))
    have hX41 := hX34.step hp39 hl40
    have hlo42 : w.heap.size ≤ b35 := by have := hX34.size; omega
    refine q0 rfl rfl rfl (o_stp (cs' := [u27, v28]) (us := [u27, v28]) (v := (.agg [u27, v28].toArray)) sz44 rfl rfl rfl (ones2 hr31.one hr32.one) hX41.pins hb38 (Nat.le_of_ble_eq_true rfl) rfl (fun w43 hb44 hp45 hg46 hz47 => ?_))
    have hX48 := hX41.write hp45 hg46 ((lo_box hlo42))
    obtain ⟨G49, hle50, hX51, hbp52, hf53⟩ := hb44.shut hX48 hlo42
    refine qd rfl rfl rfl (r_assign (v := (.bool (lpOk ns))) rfl) ?_
    refine qe ?_
    refine s_then ?_
    refine s_seq ?_
    refine c_reg ?_
    refine qd rfl rfl rfl (r_ldpA (cs := [v]) ag40 sz40 rfl (fun j u hj => (Pins.of_le hX51.pins (Pin.le_trans (Pin.le_trans (Pin.le_trans hx18.le hx25.le) hx33.le) hle50)) _ _ _ (hbp12 _ _ (by simpa using hj)))) ?_
    refine q1 rfl rfl rfl (o_call (vs := [(.agg [v].toArray)]) Try.func18 nm18 rfl rfl rfl ?_)
    refine Calls.mono (toForm_dspec hX51.pins (hv.mono (Pin.le_trans (Pin.le_trans (Pin.le_trans (Pin.le_trans hle10 hx18.le) hx25.le) hx33.le) hle50)) hsm) ?_
    rintro _ w56 ⟨u54, G55, rfl, hd57, hx58⟩
    refine ⟨_, rfl, ?_⟩
    have hX59 := hX51.tr hx58
    have hone60 := hd57.one
    refine q1 rfl rfl rfl (o_alloc [(.slice none 0 0)] zr26 rfl hX59.pins (fun b61 w62 hk63 hb64 hp65 hl66 => ?_))
    have hX67 := hX59.step hp65 hl66
    have hd68 := hd57.below hl66
    have hs69 := Nat.le_trans (Nat.le_refl w56.heap.size) hl66.size
    have ha70 : w56.heap.size ≤ b61 ∨ b61 < w43.heap.size := Or.inl (by have e := Option.some.inj (congrArg some hk63); have := (Nat.le_refl w56.heap.size); omega)
    have hlo71 : w.heap.size ≤ b61 := by have := hX59.size; omega
    refine q0 rfl rfl rfl (o_stp (cs' := [u54]) (us := [u54]) (v := (.agg [u54].toArray)) sz26 rfl rfl rfl (ones1 hone60) hX67.pins hb64 (Nat.le_of_ble_eq_true rfl) rfl (fun w72 hb73 hp74 hg75 hz76 => ?_))
    have hX77 := hX67.write hp74 hg75 ((lo_box hlo71))
    have hd78 := hd68.kept hg75 ha70
    have hs79 := Nat.le_trans hs69 hg75.size
    obtain ⟨G80, hle81, hX82, hbp83, hf84⟩ := hb73.shut hX77 hlo71
    have hd85 := hd78.more hle81 hf84 ha70
    refine qe ?_
    refine s_then ?_
    refine s_seq ?_
    refine c_reg ?_
    refine qd rfl rfl rfl (r_ldpA (cs := [u54]) ag26 sz26 rfl (fun j u hj => hX82.pins _ _ _ (hbp83 _ _ (by simpa using hj)))) ?_
    obtain ⟨G86, hle87, hp88, hr89, _⟩ := hd85.read hX82.pins
    refine q1 rfl rfl rfl (o_call (vs := [(.agg [u54].toArray)]) Try.func19 nm19 rfl rfl rfl ?_)
    refine Calls.mono (iLoopOf_dspec hp88 hr89 hsm) ?_
    rintro _ w93 ⟨u90, v91, G92, rfl, hd94, hx95⟩
    refine ⟨_, rfl, ?_⟩
    have hgx : w56.heap.size ≤ w72.heap.size := hs79
    have hx96 := deep_back hX82.pins hx95
    have hX97 := hX82.step hx96.pins hx96.below
    have hd98 := hd85.below hx96.below
    have hs99 := Nat.le_trans hs79 hx96.below.size
    have hd100 := hd94.anti (Pin.le_trans hle87 hx95.le)
    have hone101 := hd100.oneU
    have hone102 := hd100.oneV
    refine qd rfl rfl rfl (r_move (v := (.tuple #[(.agg [u90, v91].toArray), (.bool (lpOk ns))])) rfl) ?_
    refine qd rfl rfl rfl (r_extract (v := (.agg [u90, v91].toArray)) rfl rfl) ?_
    refine qd rfl rfl rfl (r_extract (v := (.bool (lpOk ns))) rfl rfl) ?_
    refine q1 rfl rfl rfl (o_alloc [(.slice none 0 0), (.slice none 0 0)] zr44 rfl hX97.pins (fun b103 w104 hk105 hb106 hp107 hl108 => ?_))
    have hX109 := hX97.step hp107 hl108
    have hd110 := hd98.below hl108
    have hs111 := Nat.le_trans hs99 hl108.size
    have hd112 := hd100.below hl108
    have hs113 := Nat.le_trans (Nat.le_refl w93.heap.size) hl108.size
    have ha114 : w56.heap.size ≤ b103 ∨ b103 < w43.heap.size := Or.inl (by have e := Option.some.inj (congrArg some hk105); have := hs99; omega)
    have ha115 : w93.heap.size ≤ b103 ∨ b103 < w72.heap.size := Or.inl (by have e := Option.some.inj (congrArg some hk105); have := (Nat.le_refl w93.heap.size); omega)
    have hlo116 : w.heap.size ≤ b103 := by have := hX97.size; omega
    refine q0 rfl rfl rfl (o_stp (cs' := [u90, v91]) (us := [u90, v91]) (v := (.agg [u90, v91].toArray)) sz44 rfl rfl rfl (ones2 hone101 hone102) hX109.pins hb106 (Nat.le_of_ble_eq_true rfl) rfl (fun w117 hb118 hp119 hg120 hz121 => ?_))
    have hX122 := hX109.write hp119 hg120 ((lo_box hlo116))
    have hd123 := hd110.kept hg120 ha114
    have hs124 := Nat.le_trans hs111 hg120.size
    have hd125 := hd112.kept hg120 ha115
    have hs126 := Nat.le_trans hs113 hg120.size
    obtain ⟨G127, hle128, hX129, hbp130, hf131⟩ := hb118.shut hX122 hlo116
    have hd132 := hd123.more hle128 hf131 ha114
    have hd133 := hd125.more hle128 hf131 ha115
    refine qd rfl rfl rfl (r_assign (v := (.bool (lpOk ns))) rfl) ?_
    refine qe ?_
    refine s_then ?_
    refine s_seq ?_
    refine s_seq ?_
    refine c_reg ?_
    refine qd rfl rfl rfl (r_ldpA (cs := [u90, v91]) ag44 sz44 rfl (fun j u hj => hX129.pins _ _ _ (hbp130 _ _ (by simpa using hj)))) ?_
    refine qd rfl rfl rfl (r_ldpA (cs := [u27, v28]) ag44 sz44 rfl (fun j u hj => (Pins.of_le hX129.pins (Pin.le_trans (Pin.le_trans hx58.le hle81) hle128)) _ _ _ (hbp52 _ _ (by simpa using hj)))) ?_
    obtain ⟨G137, hle138, hp139, hr140, hr141, _⟩ := hd133.read hX129.pins
    refine q1 rfl rfl rfl (o_call (vs := [(.agg [u90, v91].toArray), (.agg [u27, v28].toArray)]) Try.func20 nm20 rfl rfl rfl ?_)
    refine Calls.mono (eqLoop_same hp139 hr140 hr141 ((hr31.mono (Pin.le_trans (Pin.le_trans (Pin.le_trans hle50 hx58.le) hle81) hle128)).mono hle138) ((hr32.mono (Pin.le_trans (Pin.le_trans (Pin.le_trans hle50 hx58.le) hle81) hle128)).mono hle138)) ?_
    rintro _ w135 ⟨G134, rfl, hx136⟩
    refine ⟨_, rfl, ?_⟩
    have hx142 := deep_back hX129.pins hx136
    have hX143 := hX129.step hx142.pins hx142.below
    have hd144 := hd132.below hx142.below
    have hs145 := Nat.le_trans hs124 hx142.below.size
    have hd146 := hd133.below hx142.below
    have hs147 := Nat.le_trans hs126 hx142.below.size
    refine qd rfl rfl rfl (r_not rfl) ?_
    refine qd rfl rfl rfl (r_move (v := (.bool false)) rfl) ?_
    refine qdg rfl rfl rfl rfl rfl rfl (r_move (v := (.bool (lpOk ns))) rfl) ?_
    refine qdg rfl rfl rfl rfl rfl rfl (r_move (v := (.bool (lpOk ns))) rfl) ?_
    refine qdg rfl rfl rfl rfl rfl rfl (r_neqB_same Try.underlying4 rfl rfl) ?_
    refine qd rfl rfl rfl (r_pickF (v := (.bool false)) rfl rfl) ?_
    refine qe ?_
    refine s_then ?_
    refine c_ifF rfl rfl ?_
    refine wp_skip ?_
    refine s_then ?_
    refine s_seq ?_
    refine s_seq ?_
    refine c_draw (S := fun w => Pins G127 w) (last := 5) (by kernel_rfl) rfl ?_
    have hl148 : Below w135.heap.size w135 w135.drew := (Below.refl _ _).drew
    have hp149 := hX143.pins.below hl148
    have hX150 := hX143.step hp149 hl148
    have hd151 := hd144.below hl148
    have hs152 := Nat.le_trans hs145 hl148.size
    have hd153 := hd146.below hl148
    have hs154 := Nat.le_trans hs147 hl148.size
    refine dr_take (i := 0) rfl rfl rfl (want_none rfl _) (by kernel_rfl) (fun _ hS => r_ldpA (cs := [u54]) ag26 sz26 rfl (fun j u hj => (Pins.of_le hS hle128) _ _ _ (hbp83 _ _ (by simpa using hj)))) hX150.pins ?_
    refine dr_take (i := 1) rfl rfl rfl (want_none rfl _) (by kernel_rfl) (fun _ hS => r_ldpA (cs := [v]) ag40 sz40 rfl (fun j u hj => (Pins.of_le hS (Pin.le_trans (Pin.le_trans (Pin.le_trans (Pin.le_trans (Pin.le_trans (Pin.le_trans hx18.le hx25.le) hx33.le) hle50) hx58.le) hle81) hle128)) _ _ _ (hbp12 _ _ (by simpa using hj)))) hX150.pins ?_
    refine dr_one (i := 2) (by kernel_rfl) (drOp1 (i := 2) rfl rfl rfl (want_none rfl _) (o_call (vs := [(.agg [v].toArray)]) Try.func18 nm18 rfl rfl rfl ?_))
    refine Calls.mono (toForm_spec hX150.pins (hv.mono (Pin.le_trans (Pin.le_trans (Pin.le_trans (Pin.le_trans (Pin.le_trans (Pin.le_trans (Pin.le_trans hle10 hx18.le) hx25.le) hx33.le) hle50) hx58.le) hle81) hle128)) hsm) ?_
    rintro _ w157 ⟨u155, G156, rfl, hr158, hx159⟩
    refine ⟨_, rfl, ?_⟩
    have hX160 := hX150.tr hx159
    have hd161 := hd151.ext hx159
    have hs162 := Nat.le_trans hs152 hx159.size
    have hd163 := hd153.ext hx159
    have hs164 := Nat.le_trans hs154 hx159.size
    refine ⟨fun _ => (Pins.of_le hX160.pins hx159.le), ?_⟩
    obtain ⟨G165, hle166, hp167, hr168, _⟩ := hd161.read hX160.pins
    refine dr_one (i := 3) (by kernel_rfl) (drOp1 (i := 3) rfl rfl rfl (want_none rfl _) (o_call (vs := [(.agg [u54].toArray), (.agg [u155].toArray)]) Try.func21 nm21 rfl rfl rfl ?_))
    refine Calls.mono (eqForm_spec hp167 hr168 (hr158.mono hle166)) ?_
    rintro _ w170 ⟨G169, rfl, hx171⟩
    refine ⟨_, rfl, ?_⟩
    have hx172 := deep_back hX160.pins hx171
    have hX173 := hX160.step hx172.pins hx172.below
    have hd174 := hd161.below hx172.below
    have hs175 := Nat.le_trans hs162 hx172.below.size
    have hd176 := hd163.below hx172.below
    have hs177 := Nat.le_trans hs164 hx172.below.size
    refine ⟨fun _ => (Pins.of_le hX173.pins hx159.le), ?_⟩
    refine dr_take (i := 4) rfl rfl rfl (want_none rfl _) (by kernel_rfl) (fun _ _ => r_not rfl) (Pins.of_le hX173.pins hx159.le) ?_
    refine dr_end (by kernel_rfl) ?_
    refine s_then ?_
    refine c_ifn rfl rfl (fun _ => ?_) (fun h => absurd rfl (of_decide_eq_false h))
    refine wp_skip ?_
    refine s_then ?_
    refine s_seq ?_
    refine c_reg ?_
    refine qd rfl rfl rfl (r_assign (v := (.int .i64 1)) rfl) ?_
    refine qe ?_
    refine s_then ?_
    refine s_seq ?_
    refine c_reg ?_
    refine qd rfl rfl rfl (r_ldpA (cs := [u54]) ag26 sz26 rfl (fun j u hj => (Pins.of_le hX173.pins (Pin.le_trans hle128 hx159.le)) _ _ _ (hbp83 _ _ (by simpa using hj)))) ?_
    refine qd rfl rfl rfl (r_move (v := (.int .i64 1)) rfl) ?_
    refine q1 rfl rfl rfl (o_call (vs := [(.agg [u54].toArray), (.int .i64 1)]) Try.func22 nm22 rfl rfl rfl ?_)
    refine Calls.mono (markForm_spec hX173.pins hd174 hs175 hsm (by omega)) ?_
    rintro _ w180 ⟨z179, rfl, hz181, hx182⟩
    refine ⟨_, rfl, ?_⟩
    have hX183 := hX173.trans hx182 (fun i hi => Or.inl (Nat.le_trans hX51.size hi.1))
    have hd184 := hd176.extS hx182 (fun k h1 h2 h3 => by have := h3.2; omega)
    have hs185 := Nat.le_trans hs177 hx182.size
    refine qd rfl rfl rfl (r_assign (v := (.int .i64 z179)) rfl) ?_
    refine qe ?_
    refine s_then ?_
    refine s_seq ?_
    refine s_seq ?_
    refine c_reg ?_
    refine qd rfl rfl rfl (r_move (v := (.int .i64 z179)) rfl) ?_
    refine qd rfl rfl rfl (r_lss rfl rfl) ?_
    refine qd rfl rfl rfl (r_move (v := (.bool (decide ((z179 : Int) < 0)))) rfl) ?_
    refine qbd (p := (z179 : Int) < 0) (t := 51) rfl (fun h186 => ?_) (fun h186 => ?_)
    · skip
      refine qs rfl rfl rfl rfl rfl rfl ?_
      refine qs rfl rfl rfl rfl rfl rfl ?_
      refine qs rfl rfl rfl rfl rfl rfl ?_
      refine qs rfl rfl rfl rfl rfl rfl ?_
      refine qd rfl rfl rfl (r_pickT (v := (.bool true)) rfl rfl) ?_
      refine qd rfl rfl rfl (r_move (v := (.bool true)) rfl) ?_
      refine qs rfl rfl rfl rfl rfl rfl ?_
      refine qs rfl rfl rfl rfl rfl rfl ?_
      refine qs rfl rfl rfl rfl rfl rfl ?_
      refine qd rfl rfl rfl (r_pickT (v := (.bool true)) rfl rfl) ?_
      refine qe ?_
      refine s_then ?_
      refine c_ifT rfl rfl ?_
      refine s_seq ?_
      refine c_reg ?_
      refine qd rfl rfl rfl (r_assign (v := (.bool false)) rfl) ?_
      refine qe ?_
      refine s_then ?_
      refine wp_ret ?_
      refine s_ret ?_
      refine c_ret1 (v := (.bool false)) rfl rfl rfl ?_
      exfalso; omega
    · skip
      refine qdg rfl rfl rfl rfl rfl rfl (r_ldpA (cs := [u90, v91]) ag44 sz44 rfl (fun j u hj => (Pins.of_le hX183.pins hx159.le) _ _ _ (hbp130 _ _ (by simpa using hj)))) ?_
      refine qdg rfl rfl rfl rfl rfl rfl (r_ldpA (cs := [u27, v28]) ag44 sz44 rfl (fun j u hj => (Pins.of_le hX183.pins (Pin.le_trans (Pin.le_trans (Pin.le_trans hx58.le hle81) hle128) hx159.le)) _ _ _ (hbp52 _ _ (by simpa using hj)))) ?_
      obtain ⟨G190, hle191, hp192, hr193, hr194, _⟩ := hd184.read hX183.pins
      refine q1g rfl rfl rfl rfl rfl rfl (o_call (vs := [(.agg [u90, v91].toArray), (.agg [u27, v28].toArray)]) Try.func20 nm20 rfl rfl rfl ?_)
      refine Calls.mono (eqLoop_same hp192 hr193 hr194 ((hr31.mono (Pin.le_trans (Pin.le_trans (Pin.le_trans (Pin.le_trans hle50 hx58.le) hle81) hle128) hx159.le)).mono hle191) ((hr32.mono (Pin.le_trans (Pin.le_trans (Pin.le_trans (Pin.le_trans hle50 hx58.le) hle81) hle128) hx159.le)).mono hle191)) ?_
      rintro _ w188 ⟨G187, rfl, hx189⟩
      refine ⟨_, rfl, ?_⟩
      have hx195 := deep_back hX183.pins hx189
      have hX196 := hX183.step hx195.pins hx195.below
      have hd197 := hd184.below hx195.below
      have hs198 := Nat.le_trans hs185 hx195.below.size
      refine qdg rfl rfl rfl rfl rfl rfl (r_not rfl) ?_
      refine qd rfl rfl rfl (r_pickF (v := (.bool false)) rfl rfl) ?_
      refine qd rfl rfl rfl (r_move (v := (.bool false)) rfl) ?_
      refine qdg rfl rfl rfl rfl rfl rfl (r_move (v := (.bool (lpOk ns))) rfl) ?_
      refine qdg rfl rfl rfl rfl rfl rfl (r_move (v := (.bool (lpOk ns))) rfl) ?_
      refine qdg rfl rfl rfl rfl rfl rfl (r_neqB_same Try.underlying4 rfl rfl) ?_
      refine qd rfl rfl rfl (r_pickF (v := (.bool false)) rfl rfl) ?_
      refine qe ?_
      refine s_then ?_
      refine c_ifF rfl rfl ?_
      refine wp_skip ?_
      refine s_then ?_
      refine s_seq ?_
      refine c_reg ?_
      refine qd rfl rfl rfl (r_assign (v := (.int .i64 1)) rfl) ?_
      refine qe ?_
      refine s_then ?_
      refine s_seq ?_
      refine c_reg ?_
      refine qd rfl rfl rfl (r_ldpA (cs := [u90, v91]) ag44 sz44 rfl (fun j u hj => (Pins.of_le hX196.pins hx159.le) _ _ _ (hbp130 _ _ (by simpa using hj)))) ?_
      refine qd rfl rfl rfl (r_move (v := (.int .i64 1)) rfl) ?_
      refine q1 rfl rfl rfl (o_call (vs := [(.agg [u90, v91].toArray), (.int .i64 1)]) Try.func23 nm23 rfl rfl rfl ?_)
      refine Calls.mono (markLoop_spec (kz := 1) hX196.pins hd197 hs198 (by omega) (inL hsm) (inRr hsm) (by have := lp_len36 ns; omega) (by have := lp_len36 ns; omega) htb) ?_
      rintro _ w199 ⟨rfl, hd200, hx201⟩
      refine ⟨_, rfl, ?_⟩
      have hX202 := hX196.trans hx201 (fun i hi => Or.inl (Nat.le_trans hX82.size hi.1))
      obtain ⟨G204, hle205, hp206, hr207, hr208, hf209⟩ := hd200.read hX202.pins
      have hX203 := hX202.promise hle205 hp206 hf209 hX82.size
      refine qd rfl rfl rfl (r_assign (v := (.int .i64 (1 + tot (lpL ns) + tot (lpR ns)))) rfl) ?_
      refine qe ?_
      refine s_then ?_
      refine s_seq ?_
      refine c_reg ?_
      refine qd rfl rfl rfl (r_assign (v := (.int .i64 1)) rfl) ?_
      refine qe ?_
      refine s_then ?_
      refine s_seq ?_
      refine c_reg ?_
      refine qd rfl rfl rfl (r_ldpA (cs := [u90, v91]) ag44 sz44 rfl (fun j u hj => (Pins.of_le hX203.pins (Pin.le_trans hx159.le hle205)) _ _ _ (hbp130 _ _ (by simpa using hj)))) ?_
      refine qd rfl rfl rfl (r_move (v := (.int .i64 1)) rfl) ?_
      refine q1 rfl rfl rfl (o_call (vs := [(.agg [u90, v91].toArray), (.int .i64 1)]) Try.func24 nm24 rfl rfl rfl ?_)
      refine Calls.mono (heldLoop_spec (kz := 1) (ls := lpL ns) (rs := lpR ns) hX203.pins hr207 hr208 (by omega) (inL hsm) (inRr hsm) (by have := lp_len36 ns; omega) (by have := lp_len36 ns; omega) htb) ?_
      rintro _ w211 ⟨G210, rfl, hx212⟩
      refine ⟨_, rfl, ?_⟩
      have hX213 := hX203.tr hx212
      refine qd rfl rfl rfl (r_assign (v := (.int .i64 (1 + tot (lpL ns) + tot (lpR ns)))) rfl) ?_
      refine qe ?_
      refine s_then ?_
      refine s_seq ?_
      refine s_seq ?_
      refine c_reg ?_
      refine qd rfl rfl rfl (r_move (v := (.int .i64 (1 + tot (lpL ns) + tot (lpR ns)))) rfl) ?_
      refine qd rfl rfl rfl (r_lss rfl rfl) ?_
      refine qe ?_
      refine s_then ?_
      refine c_ifd (p := (1 + tot (lpL ns) + tot (lpR ns) : Int) < 0) rfl rfl (fun h214 => ?_) (fun h214 => ?_)
      · skip
        refine s_seq ?_
        refine c_reg ?_
        refine qd rfl rfl rfl (r_assign (v := (.bool false)) rfl) ?_
        refine qe ?_
        refine s_then ?_
        refine wp_ret ?_
        refine s_ret ?_
        refine c_ret1 (v := (.bool false)) rfl rfl rfl ?_
        exfalso; omega
      · skip
        refine wp_skip ?_
        refine s_then ?_
        refine s_seq ?_
        refine s_seq ?_
        refine c_reg ?_
        refine qd rfl rfl rfl (r_move (v := (.int .i64 (1 + tot (lpL ns) + tot (lpR ns)))) rfl) ?_
        refine qd rfl rfl rfl (r_move (v := (.int .i64 (1 + tot (lpL ns) + tot (lpR ns)))) rfl) ?_
        refine qd rfl rfl rfl (r_neq rfl rfl) ?_
        refine qe ?_
        refine s_then ?_
        refine c_ifd (p := (1 + tot (lpL ns) + tot (lpR ns) : Int) ≠ (1 + tot (lpL ns) + tot (lpR ns))) rfl rfl (fun h215 => ?_) (fun h215 => ?_)
        · skip
          refine s_seq ?_
          refine c_reg ?_
          refine qd rfl rfl rfl (r_assign (v := (.bool false)) rfl) ?_
          refine qe ?_
          refine s_then ?_
          refine wp_ret ?_
          refine s_ret ?_
          refine c_ret1 (v := (.bool false)) rfl rfl rfl ?_
          exfalso; omega
        · skip
          refine wp_skip ?_
          refine s_then ?_
          refine s_seq ?_
          refine c_reg ?_
          refine qd rfl rfl rfl (r_ldpA (cs := [v]) ag40 sz40 rfl (fun j u hj => (Pins.of_le hX213.pins (Pin.le_trans (Pin.le_trans (Pin.le_trans (Pin.le_trans (Pin.le_trans (Pin.le_trans (Pin.le_trans (Pin.le_trans (Pin.le_trans hx18.le hx25.le) hx33.le) hle50) hx58.le) hle81) hle128) hx159.le) hle205) hx212.le)) _ _ _ (hbp12 _ _ (by simpa using hj)))) ?_
          refine q1 rfl rfl rfl (o_call (vs := [(.agg [v].toArray)]) Try.func18 nm18 rfl rfl rfl ?_)
          refine Calls.mono (toForm_spec hX213.pins (hv.mono (Pin.le_trans (Pin.le_trans (Pin.le_trans (Pin.le_trans (Pin.le_trans (Pin.le_trans (Pin.le_trans (Pin.le_trans (Pin.le_trans (Pin.le_trans hle10 hx18.le) hx25.le) hx33.le) hle50) hx58.le) hle81) hle128) hx159.le) hle205) hx212.le)) hsm) ?_
          rintro _ w218 ⟨u216, G217, rfl, hr219, hx220⟩
          refine ⟨_, rfl, ?_⟩
          have hX221 := hX213.tr hx220
          refine q1 rfl rfl rfl (o_call (vs := [(.agg [u216].toArray)]) Try.func19 nm19 rfl rfl rfl ?_)
          refine Calls.mono (iLoopOf_spec hX221.pins hr219 hsm) ?_
          rintro _ w225 ⟨u222, v223, G224, rfl, hr226, hr227, hx228⟩
          refine ⟨_, rfl, ?_⟩
          have hX229 := hX221.tr hx228
          refine qd rfl rfl rfl (r_move (v := (.tuple #[(.agg [u222, v223].toArray), (.bool (lpOk ns))])) rfl) ?_
          refine qd rfl rfl rfl (r_extract (v := (.agg [u222, v223].toArray)) rfl rfl) ?_
          refine qd rfl rfl rfl (r_extract (v := (.bool (lpOk ns))) rfl rfl) ?_
          refine q1 rfl rfl rfl (o_alloc [(.slice none 0 0), (.slice none 0 0)] zr44 rfl hX229.pins (fun b230 w231 hk232 hb233 hp234 hl235 => ?_))
          have hX236 := hX229.step hp234 hl235
          have hlo237 : w.heap.size ≤ b230 := by have := hX229.size; omega
          refine q0 rfl rfl rfl (o_stp (cs' := [u222, v223]) (us := [u222, v223]) (v := (.agg [u222, v223].toArray)) sz44 rfl rfl rfl (ones2 hr226.one hr227.one) hX236.pins hb233 (Nat.le_of_ble_eq_true rfl) rfl (fun w238 hb239 hp240 hg241 hz242 => ?_))
          have hX243 := hX236.write hp240 hg241 ((lo_box hlo237))
          obtain ⟨G244, hle245, hX246, hbp247, hf248⟩ := hb239.shut hX243 hlo237
          refine qd rfl rfl rfl (r_assign (v := (.bool (lpOk ns))) rfl) ?_
          refine qe ?_
          refine s_then ?_
          refine s_seq ?_
          refine s_seq ?_
          refine c_reg ?_
          refine qd rfl rfl rfl (r_ldpA (cs := [u222, v223]) ag44 sz44 rfl (fun j u hj => hX246.pins _ _ _ (hbp247 _ _ (by simpa using hj)))) ?_
          refine qd rfl rfl rfl (r_ldpA (cs := [u27, v28]) ag44 sz44 rfl (fun j u hj => (Pins.of_le hX246.pins (Pin.le_trans (Pin.le_trans (Pin.le_trans (Pin.le_trans (Pin.le_trans (Pin.le_trans (Pin.le_trans (Pin.le_trans hx58.le hle81) hle128) hx159.le) hle205) hx212.le) hx220.le) hx228.le) hle245)) _ _ _ (hbp52 _ _ (by simpa using hj)))) ?_
          refine q1 rfl rfl rfl (o_call (vs := [(.agg [u222, v223].toArray), (.agg [u27, v28].toArray)]) Try.func20 nm20 rfl rfl rfl ?_)
          refine Calls.mono (eqLoop_same hX246.pins (hr226.mono hle245) (hr227.mono hle245) (hr31.mono (Pin.le_trans (Pin.le_trans (Pin.le_trans (Pin.le_trans (Pin.le_trans (Pin.le_trans (Pin.le_trans (Pin.le_trans (Pin.le_trans hle50 hx58.le) hle81) hle128) hx159.le) hle205) hx212.le) hx220.le) hx228.le) hle245)) (hr32.mono (Pin.le_trans (Pin.le_trans (Pin.le_trans (Pin.le_trans (Pin.le_trans (Pin.le_trans (Pin.le_trans (Pin.le_trans (Pin.le_trans hle50 hx58.le) hle81) hle128) hx159.le) hle205) hx212.le) hx220.le) hx228.le) hle245))) ?_
          rintro _ w250 ⟨G249, rfl, hx251⟩
          refine ⟨_, rfl, ?_⟩
          have hX252 := hX246.tr hx251
          refine qd rfl rfl rfl (r_not rfl) ?_
          refine qd rfl rfl rfl (r_move (v := (.bool false)) rfl) ?_
          refine qdg rfl rfl rfl rfl rfl rfl (r_move (v := (.bool (lpOk ns))) rfl) ?_
          refine qdg rfl rfl rfl rfl rfl rfl (r_move (v := (.bool (lpOk ns))) rfl) ?_
          refine qdg rfl rfl rfl rfl rfl rfl (r_neqB_same Try.underlying4 rfl rfl) ?_
          refine qd rfl rfl rfl (r_pickF (v := (.bool false)) rfl rfl) ?_
          refine qe ?_
          refine s_then ?_
          refine c_ifF rfl rfl ?_
          refine wp_skip ?_
          refine s_then ?_
          refine s_seq ?_
          refine c_reg ?_
          refine qd rfl rfl rfl (r_assign (v := (.int .i64 1)) rfl) ?_
          refine qe ?_
          refine s_then ?_
          refine s_seq ?_
          refine c_reg ?_
          refine qd rfl rfl rfl (r_ldpA (cs := [u90, v91]) ag44 sz44 rfl (fun j u hj => (Pins.of_le hX252.pins (Pin.le_trans (Pin.le_trans (Pin.le_trans (Pin.le_trans (Pin.le_trans (Pin.le_trans hx159.le hle205) hx212.le) hx220.le) hx228.le) hle245) hx251.le)) _ _ _ (hbp130 _ _ (by simpa using hj)))) ?_
          refine qd rfl rfl rfl (r_move (v := (.int .i64 1)) rfl) ?_
          refine q1 rfl rfl rfl (o_call (vs := [(.agg [u90, v91].toArray), (.int .i64 1)]) Try.func24 nm24 rfl rfl rfl ?_)
          refine Calls.mono (heldLoop_spec (kz := 1) (ls := lpL ns) (rs := lpR ns) hX252.pins (hr207.mono (Pin.le_trans (Pin.le_trans (Pin.le_trans (Pin.le_trans hx212.le hx220.le) hx228.le) hle245) hx251.le)) (hr208.mono (Pin.le_trans (Pin.le_trans (Pin.le_trans (Pin.le_trans hx212.le hx220.le) hx228.le) hle245) hx251.le)) (by omega) (inL hsm) (inRr hsm) (by have := lp_len36 ns; omega) (by have := lp_len36 ns; omega) htb) ?_
          rintro _ w254 ⟨G253, rfl, hx255⟩
          refine ⟨_, rfl, ?_⟩
          have hX256 := hX252.tr hx255
          refine qd rfl rfl rfl (r_assign (v := (.int .i64 (1 + tot (lpL ns) + tot (lpR ns)))) rfl) ?_
          refine qe ?_
          refine s_then ?_
          refine s_seq ?_
          refine s_seq ?_
          refine c_reg ?_
          refine qd rfl rfl rfl (r_move (v := (.int .i64 (1 + tot (lpL ns) + tot (lpR ns)))) rfl) ?_
          refine qd rfl rfl rfl (r_lss rfl rfl) ?_
          refine qe ?_
          refine s_then ?_
          refine c_ifd (p := (1 + tot (lpL ns) + tot (lpR ns) : Int) < 0) rfl rfl (fun h => absurd h h214) (fun _ => ?_)
          refine wp_skip ?_
          refine s_then ?_
          refine s_seq ?_
          refine s_seq ?_
          refine c_reg ?_
          refine qd rfl rfl rfl (r_move (v := (.int .i64 (1 + tot (lpL ns) + tot (lpR ns)))) rfl) ?_
          refine qd rfl rfl rfl (r_move (v := (.int .i64 (1 + tot (lpL ns) + tot (lpR ns)))) rfl) ?_
          refine qd rfl rfl rfl (r_neq rfl rfl) ?_
          refine qe ?_
          refine s_then ?_
          refine c_ifd (p := (1 + tot (lpL ns) + tot (lpR ns) : Int) ≠ (1 + tot (lpL ns) + tot (lpR ns))) rfl rfl (fun h => absurd h h215) (fun _ => ?_)
          refine wp_skip ?_
          refine s_then ?_
          refine s_seq ?_
          refine c_reg ?_
          refine qd rfl rfl rfl (r_assign (v := (.bool true)) rfl) ?_
          refine qe ?_
          refine s_then ?_
          refine wp_ret ?_
          refine s_ret ?_
          refine c_ret1 (v := (.bool true)) rfl rfl rfl ?_
          exact ⟨_, rfl, hX256⟩

end V1
end Go.Proofs.Ytpninmgcgmpmoaa
