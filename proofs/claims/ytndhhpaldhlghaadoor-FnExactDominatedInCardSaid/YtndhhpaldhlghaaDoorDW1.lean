/- Walks, printed by a program (walkgen.py) from the spec specs_dw. -/
import Derived.Test.YtndhhpaldhlghaaDoorChecked
import Derived.Test.YtndhhpaldhlghaaDoorRow
import Derived.Test.YtndhhpaldhlghaaDoorDom
import Derived.Test.YtndhhpaldhlghaaDoorDeep
import Derived.Test.YtndhhpaldhlghaaDoorShelf
import Derived.Test.YtndhhpaldhlghaaDoorLaw
import Derived.Test.YtndhhpaldhlghaaDoorB1
import Derived.Test.YtndhhpaldhlghaaDoorC1
import Derived.Test.YtndhhpaldhlghaaDoorD1
import Derived.Test.YtndhhpaldhlghaaDoorE1
import Derived.Test.YtndhhpaldhlghaaDoorOR1
import Derived.Test.YtndhhpaldhlghaaDoorDS1
import Derived.Test.YtndhhpaldhlghaaDoorDM1
import Derived.Test.YtndhhpaldhlghaaDoorL1
import Derived.Test.YtndhhpaldhlghaaDoorG1
import Derived.Test.YtndhhpaldhlghaaDoorK1
import Derived.Test.YtndhhpaldhlghaaDoorPO1
import Derived.Test.YtndhhpaldhlghaaDoorPL1
import Derived.Test.YtndhhpaldhlghaaDoorDI1
import Derived.Test.YtndhhpaldhlghaaDoorDL1
set_option maxRecDepth 20000
set_option maxHeartbeats 2000000
namespace Go.Proofs.YtndhhpaldhlghaaDoor
namespace DW1
open Go.RowKit Go.GL Go.Proofs
open Go.Proofs.YtndhhpaldhlghaaDoor.B1
open Go.Proofs.YtndhhpaldhlghaaDoor.C1
open Go.Proofs.YtndhhpaldhlghaaDoor.D1
open Go.Proofs.YtndhhpaldhlghaaDoor.E1
open Go.Proofs.YtndhhpaldhlghaaDoor.OR1
open Go.Proofs.YtndhhpaldhlghaaDoor.DS1
open Go.Proofs.YtndhhpaldhlghaaDoor.DM1
open Go.Proofs.YtndhhpaldhlghaaDoor.L1
open Go.Proofs.YtndhhpaldhlghaaDoor.G1
open Go.Proofs.YtndhhpaldhlghaaDoor.K1
open Go.Proofs.YtndhhpaldhlghaaDoor.PO1
open Go.Proofs.YtndhhpaldhlghaaDoor.PL1
open Go.Proofs.YtndhhpaldhlghaaDoor.DI1
open Go.Proofs.YtndhhpaldhlghaaDoor.DL1
theorem ag24 : (Tryd.prog.underlying 24).map aggD = some true := by kernel_rfl
theorem ag30 : (Tryd.prog.underlying 30).map aggD = some true := by kernel_rfl
theorem nm11 : (Tryd.f11.name == "runtime.NumGoroutine") = false := by kernel_rfl
theorem nm13 : (Tryd.f13.name == "runtime.NumGoroutine") = false := by kernel_rfl
theorem nm22 : (Tryd.f22.name == "runtime.NumGoroutine") = false := by kernel_rfl
theorem nm25 : (Tryd.f25.name == "runtime.NumGoroutine") = false := by kernel_rfl
theorem nm26 : (Tryd.f26.name == "runtime.NumGoroutine") = false := by kernel_rfl
theorem nm27 : (Tryd.f27.name == "runtime.NumGoroutine") = false := by kernel_rfl
theorem nm28 : (Tryd.f28.name == "runtime.NumGoroutine") = false := by kernel_rfl
theorem nm29 : (Tryd.f29.name == "runtime.NumGoroutine") = false := by kernel_rfl
theorem nm9 : (Tryd.f9.name == "runtime.NumGoroutine") = false := by kernel_rfl
theorem sz24 : (Tryd.prog.info? 24).map (·.size) = some 1 := by kernel_rfl
theorem sz30 : (Tryd.prog.info? 30).map (·.size) = some 1 := by kernel_rfl
theorem zr30 : (Tryd.prog.info? 30).bind (·.zero) = some (.agg #[(.slice none 0 0)]) := by kernel_rfl

theorem eqIntS_same {w : World} {G : Pin} {u v : Value} {xs : List Int} (hP : Pins G w) (hu : RSl eInt G u xs) (hv : RSl eInt G v xs) :
    Calls Tryd.prog 22 [u, v].toArray w fun e w' => ∃ G', e = .returned (.bool true) ∧ Ext noS G w G' w' := by
  refine (eqIntS_spec hP hu hv).mono ?_
  rintro e w' ⟨rfl, hx⟩
  exact ⟨G, by simp, hx⟩

theorem law {w : World} {G : Pin} {v : Value} {ns : List Nd} (hP : Pins G w) (hv : RSl eNode G v ns) :
    Calls Tryd.prog 7 [(.agg [v].toArray)].toArray w fun e w' => ∃ G', e = .returned (.bool true) ∧ Ext noS G w G' w' := by
  refine s_enter (n := 133) Tryd.func7 Tryd.ntmps7 rfl rfl ?_
  have hX0 : Ext noS G w G w := Ext.refl hP
  have hgl := do_len (fs := ns)
  refine s_seq ?_
  refine c_reg ?_
  refine q1 rfl rfl rfl (o_box [v] (v := (.agg [v].toArray)) rfl rfl hX0.pins (fun b1 w2 hk3 hb4 hp5 hl6 => ?_))
  have hX7 := hX0.step hp5 hl6
  have hlo8 : w.heap.size ≤ b1 := by have := hX0.size; omega
  obtain ⟨G9, hle10, hX11, hbp12, hf13⟩ := hb4.shut hX7 hlo8
  refine qd rfl rfl rfl (r_assign (v := (.bool false)) rfl) ?_
  refine qe ?_
  refine s_then ?_
  refine s_seq ?_
  refine c_reg ?_
  refine qd rfl rfl rfl (r_assign (v := (.int .i64 1048576)) rfl) ?_
  refine qe ?_
  refine s_then ?_
  refine s_seq ?_
  refine c_reg ?_
  refine qd rfl rfl rfl (r_ldpA (cs := [v]) ag24 sz24 rfl (fun j u hj => hX11.pins _ _ _ (hbp12 _ _ (by simpa using hj)))) ?_
  refine qd rfl rfl rfl (r_move (v := (.int .i64 1048576)) rfl) ?_
  refine q1 rfl rfl rfl (o_call (vs := [(.agg [v].toArray), (.int .i64 1048576)]) Tryd.func9 nm9 rfl rfl rfl ?_)
  refine Calls.mono (szForm_spec hX11.pins (hv.mono hle10) (by omega)) ?_
  rintro _ w16 ⟨z14, G15, rfl, hz17, hx18⟩
  refine ⟨_, rfl, ?_⟩
  have hX19 := hX11.tr hx18
  refine qd rfl rfl rfl (r_assign (v := (.int .i64 z14)) rfl) ?_
  refine qe ?_
  refine s_then ?_
  refine s_seq ?_
  refine s_seq ?_
  refine c_reg ?_
  refine qd rfl rfl rfl (r_move (v := (.int .i64 z14)) rfl) ?_
  refine qd rfl rfl rfl (r_lss rfl rfl) ?_
  refine qe ?_
  refine s_then ?_
  refine c_ifd (p := (z14 : Int) < 0) rfl rfl (fun h20 => ?_) (fun h20 => ?_)
  · skip
    refine s_seq ?_
    refine c_reg ?_
    refine qd rfl rfl rfl (r_assign (v := (.bool true)) rfl) ?_
    refine qe ?_
    refine s_then ?_
    refine wp_ret ?_
    refine s_ret ?_
    refine c_ret1 (v := (.bool true)) rfl rfl rfl ?_
    exact ⟨_, rfl, hX19⟩
  refine wp_skip ?_
  refine s_then ?_
  refine s_seq ?_
  refine c_reg ?_
  have hsm : Small ns := small_of (by omega)
  refine qd rfl rfl rfl (r_ldpA (cs := [v]) ag24 sz24 rfl (fun j u hj => (Pins.of_le hX19.pins hx18.le) _ _ _ (hbp12 _ _ (by simpa using hj)))) ?_
  refine q1 rfl rfl rfl (o_call (vs := [(.agg [v].toArray)]) Tryd.func11 nm11 rfl rfl rfl ?_)
  refine Calls.mono (toForm_spec hX19.pins (hv.mono (Pin.le_trans hle10 hx18.le)) hsm) ?_
  rintro _ w23 ⟨u21, G22, rfl, hr24, hx25⟩
  refine ⟨_, rfl, ?_⟩
  have hX26 := hX19.tr hx25
  refine q1 rfl rfl rfl (o_call (vs := [(.agg [u21].toArray)]) Tryd.func27 nm27 rfl rfl rfl ?_)
  refine Calls.mono (sDominatedIn_spec hX26.pins hr24) ?_
  rintro _ w30 ⟨u27, v28, G29, rfl, hr31, hr32, hx33⟩
  refine ⟨_, rfl, ?_⟩
  have hX34 := hX26.tr hx33
  refine qd rfl rfl rfl (r_move (v := (.tuple #[u27, v28, (.bool (goodB ns))])) rfl) ?_
  refine qd rfl rfl rfl (r_extract (v := u27) rfl rfl) ?_
  refine qd rfl rfl rfl (r_extract (v := v28) rfl rfl) ?_
  refine qd rfl rfl rfl (r_extract (v := (.bool (goodB ns))) rfl rfl) ?_
  refine qd rfl rfl rfl (r_assign (v := u27) rfl) ?_
  refine qd rfl rfl rfl (r_assign (v := v28) rfl) ?_
  refine qd rfl rfl rfl (r_assign (v := (.bool (goodB ns))) rfl) ?_
  refine qe ?_
  refine s_then ?_
  refine s_seq ?_
  refine c_reg ?_
  refine qd rfl rfl rfl (r_ldpA (cs := [v]) ag24 sz24 rfl (fun j u hj => (Pins.of_le hX34.pins (Pin.le_trans (Pin.le_trans hx18.le hx25.le) hx33.le)) _ _ _ (hbp12 _ _ (by simpa using hj)))) ?_
  refine q1 rfl rfl rfl (o_call (vs := [(.agg [v].toArray)]) Tryd.func11 nm11 rfl rfl rfl ?_)
  refine Calls.mono (toForm_dspec hX34.pins (hv.mono (Pin.le_trans (Pin.le_trans (Pin.le_trans hle10 hx18.le) hx25.le) hx33.le)) hsm) ?_
  rintro _ w37 ⟨u35, G36, rfl, hd38, hx39⟩
  refine ⟨_, rfl, ?_⟩
  have hX40 := hX34.tr hx39
  have hone41 := hd38.one
  refine q1 rfl rfl rfl (o_alloc [(.slice none 0 0)] zr30 rfl hX40.pins (fun b42 w43 hk44 hb45 hp46 hl47 => ?_))
  have hX48 := hX40.step hp46 hl47
  have hd49 := hd38.below hl47
  have hs50 := Nat.le_trans (Nat.le_refl w37.heap.size) hl47.size
  have ha51 : w37.heap.size ≤ b42 ∨ b42 < w30.heap.size := Or.inl (by have e := Option.some.inj (congrArg some hk44); have := (Nat.le_refl w37.heap.size); omega)
  have hlo52 : w.heap.size ≤ b42 := by have := hX40.size; omega
  refine q0 rfl rfl rfl (o_stp (cs' := [u35]) (us := [u35]) (v := (.agg [u35].toArray)) sz30 rfl rfl rfl (ones1 hone41) hX48.pins hb45 (Nat.le_of_ble_eq_true rfl) rfl (fun w53 hb54 hp55 hg56 hz57 => ?_))
  have hX58 := hX48.write hp55 hg56 ((lo_box hlo52))
  have hd59 := hd49.kept hg56 ha51
  have hs60 := Nat.le_trans hs50 hg56.size
  obtain ⟨G61, hle62, hX63, hbp64, hf65⟩ := hb54.shut hX58 hlo52
  have hd66 := hd59.more hle62 hf65 ha51
  refine qe ?_
  refine s_then ?_
  refine s_seq ?_
  refine c_reg ?_
  refine qd rfl rfl rfl (r_ldpA (cs := [u35]) ag30 sz30 rfl (fun j u hj => hX63.pins _ _ _ (hbp64 _ _ (by simpa using hj)))) ?_
  obtain ⟨G75, hle76, hp77, hr78, _⟩ := hd66.read hX63.pins
  refine q1 rfl rfl rfl (o_call (vs := [(.agg [u35].toArray)]) Tryd.func28 nm28 rfl rfl rfl ?_)
  refine Calls.mono (iDominatedIn_spec hp77 hr78) ?_
  rintro _ w70 ⟨u67, v68, G69, rfl, ho71, ho72, ha73, hx74⟩
  refine ⟨_, rfl, ?_⟩
  have ho79 := ho71.anti flat_int (Pin.le_trans hle76 hx74.le)
  have hfr80 : ∀ k, u67.ownBlock = some k → w37.heap.size ≤ k := fun k hk => Nat.le_trans hs60 (ho71.lt k hk).1
  have ho81 := ho72.anti flat_int (Pin.le_trans hle76 hx74.le)
  have hfr82 : ∀ k, v68.ownBlock = some k → w37.heap.size ≤ k := fun k hk => Nat.le_trans hs60 (ho72.lt k hk).1
  have hx83 := deep_back hX63.pins hx74
  have hX84 := hX63.step hx83.pins hx83.below
  have hd85 := hd66.below hx83.below
  have hs86 := Nat.le_trans hs60 hx83.below.size
  have ho87 := ho79.weaken hX63.size
  have ho88 := ho81.weaken hX63.size
  refine qd rfl rfl rfl (r_move (v := (.tuple #[u67, v68, (.bool (goodB ns))])) rfl) ?_
  refine qd rfl rfl rfl (r_extract (v := u67) rfl rfl) ?_
  refine qd rfl rfl rfl (r_extract (v := v68) rfl rfl) ?_
  refine qd rfl rfl rfl (r_extract (v := (.bool (goodB ns))) rfl rfl) ?_
  refine qd rfl rfl rfl (r_assign (v := u67) rfl) ?_
  refine qd rfl rfl rfl (r_assign (v := v68) rfl) ?_
  refine qd rfl rfl rfl (r_assign (v := (.bool (goodB ns))) rfl) ?_
  refine qe ?_
  refine s_then ?_
  refine s_seq ?_
  refine s_seq ?_
  refine c_reg ?_
  refine qd rfl rfl rfl (r_move (v := u67) rfl) ?_
  refine qd rfl rfl rfl (r_move (v := u27) rfl) ?_
  refine q1 rfl rfl rfl (o_call (vs := [u67, u27]) Tryd.func22 nm22 rfl rfl rfl ?_)
  refine Calls.mono (eqIntS_same (Gadd.pins hX84.pins u67) ho87.read ((hr31.mono (Pin.le_trans hx39.le hle62)).mono (Gadd.le _ _ _))) ?_
  rintro _ w90 ⟨G89, rfl, hx91⟩
  refine ⟨_, rfl, ?_⟩
  have hx92 := deep_back hX84.pins hx91
  have hX93 := hX84.step hx92.pins hx92.below
  have ho94 := ho87.below hx92.below
  have ho95 := ho88.below hx92.below
  have hd96 := hd85.below hx92.below
  have hs97 := Nat.le_trans hs86 hx92.below.size
  refine qd rfl rfl rfl (r_not rfl) ?_
  refine qd rfl rfl rfl (r_move (v := (.bool false)) rfl) ?_
  refine qdg rfl rfl rfl rfl rfl rfl (r_move (v := v68) rfl) ?_
  refine qdg rfl rfl rfl rfl rfl rfl (r_move (v := v28) rfl) ?_
  refine q1g rfl rfl rfl rfl rfl rfl (o_call (vs := [v68, v28]) Tryd.func22 nm22 rfl rfl rfl ?_)
  refine Calls.mono (eqIntS_same (Gadd.pins hX93.pins v68) ho95.read ((hr32.mono (Pin.le_trans hx39.le hle62)).mono (Gadd.le _ _ _))) ?_
  rintro _ w99 ⟨G98, rfl, hx100⟩
  refine ⟨_, rfl, ?_⟩
  have hx101 := deep_back hX93.pins hx100
  have hX102 := hX93.step hx101.pins hx101.below
  have ho103 := ho94.below hx101.below
  have ho104 := ho95.below hx101.below
  have hd105 := hd96.below hx101.below
  have hs106 := Nat.le_trans hs97 hx101.below.size
  refine qdg rfl rfl rfl rfl rfl rfl (r_not rfl) ?_
  refine qd rfl rfl rfl (r_pickF (v := (.bool false)) rfl rfl) ?_
  refine qd rfl rfl rfl (r_move (v := (.bool false)) rfl) ?_
  refine qdg rfl rfl rfl rfl rfl rfl (r_move (v := (.bool (goodB ns))) rfl) ?_
  refine qdg rfl rfl rfl rfl rfl rfl (r_move (v := (.bool (goodB ns))) rfl) ?_
  refine qdg rfl rfl rfl rfl rfl rfl (r_neqB_same Tryd.underlying4 rfl rfl) ?_
  refine qd rfl rfl rfl (r_pickF (v := (.bool false)) rfl rfl) ?_
  refine qe ?_
  refine s_then ?_
  refine c_ifF rfl rfl ?_
  refine wp_skip ?_
  refine s_then ?_
  refine s_seq ?_
  refine s_seq ?_
  refine c_draw (S := fun wz => Pins G61 wz) (last := 5) (by kernel_rfl) rfl ?_
  have hl107 : Below w99.heap.size w99 w99.drew := (Below.refl _ _).drew
  have hp108 := hX102.pins.below hl107
  have hX109 := hX102.step hp108 hl107
  have ho110 := ho103.below hl107
  have ho111 := ho104.below hl107
  have hd112 := hd105.below hl107
  have hs113 := Nat.le_trans hs106 hl107.size
  refine dr_take (i := 0) rfl rfl rfl (want_none rfl _) (by kernel_rfl) (fun _ hS => r_ldpA (cs := [u35]) ag30 sz30 rfl (fun j u hj => hS _ _ _ (hbp64 _ _ (by simpa using hj)))) hX109.pins ?_
  refine dr_take (i := 1) rfl rfl rfl (want_none rfl _) (by kernel_rfl) (fun _ hS => r_ldpA (cs := [v]) ag24 sz24 rfl (fun j u hj => (Pins.of_le hS (Pin.le_trans (Pin.le_trans (Pin.le_trans (Pin.le_trans hx18.le hx25.le) hx33.le) hx39.le) hle62)) _ _ _ (hbp12 _ _ (by simpa using hj)))) hX109.pins ?_
  refine dr_one (i := 2) (by kernel_rfl) (drOp1 (i := 2) rfl rfl rfl (want_none rfl _) (o_call (vs := [(.agg [v].toArray)]) Tryd.func11 nm11 rfl rfl rfl ?_))
  refine Calls.mono (toForm_spec hX109.pins (hv.mono (Pin.le_trans (Pin.le_trans (Pin.le_trans (Pin.le_trans (Pin.le_trans hle10 hx18.le) hx25.le) hx33.le) hx39.le) hle62)) hsm) ?_
  rintro _ w116 ⟨u114, G115, rfl, hr117, hx118⟩
  refine ⟨_, rfl, ?_⟩
  have hX119 := hX109.tr hx118
  have ho120 := ho110.ext hx118
  have ho121 := ho111.ext hx118
  have hd122 := hd112.ext hx118
  have hs123 := Nat.le_trans hs113 hx118.size
  refine ⟨fun _ => (Pins.of_le hX119.pins hx118.le), ?_⟩
  obtain ⟨G124, hle125, hp126, hr127, _⟩ := hd122.read hX119.pins
  refine dr_one (i := 3) (by kernel_rfl) (drOp1 (i := 3) rfl rfl rfl (want_none rfl _) (o_call (vs := [(.agg [u35].toArray), (.agg [u114].toArray)]) Tryd.func13 nm13 rfl rfl rfl ?_))
  refine Calls.mono (eqForm_spec hp126 hr127 (hr117.mono hle125)) ?_
  rintro _ w129 ⟨G128, rfl, hx130⟩
  refine ⟨_, rfl, ?_⟩
  have hx131 := deep_back hX119.pins hx130
  have hX132 := hX119.step hx131.pins hx131.below
  have ho133 := ho120.below hx131.below
  have ho134 := ho121.below hx131.below
  have hd135 := hd122.below hx131.below
  have hs136 := Nat.le_trans hs123 hx131.below.size
  refine ⟨fun _ => (Pins.of_le hX132.pins hx118.le), ?_⟩
  refine dr_take (i := 4) rfl rfl rfl (want_none rfl _) (by kernel_rfl) (fun _ _ => r_not rfl) (Pins.of_le hX132.pins hx118.le) ?_
  refine dr_end (by kernel_rfl) ?_
  refine s_then ?_
  refine c_ifn rfl rfl (fun _ => ?_) (fun h => absurd rfl (of_decide_eq_false h))
  refine wp_skip ?_
  refine s_then ?_
  refine s_seq ?_
  refine c_reg ?_
  refine qd rfl rfl rfl (r_assign (v := (.int .i64 1)) rfl) ?_
  refine qe ?_
  refine s_then ?_
  refine s_seq ?_
  refine c_reg ?_
  refine qd rfl rfl rfl (r_ldpA (cs := [u35]) ag30 sz30 rfl (fun j u hj => (Pins.of_le hX132.pins hx118.le) _ _ _ (hbp64 _ _ (by simpa using hj)))) ?_
  refine qd rfl rfl rfl (r_move (v := (.int .i64 1)) rfl) ?_
  refine q1 rfl rfl rfl (o_call (vs := [(.agg [u35].toArray), (.int .i64 1)]) Tryd.func29 nm29 rfl rfl rfl ?_)
  refine Calls.mono (markForm_spec hX132.pins hd135 hs136 hsm (by omega)) ?_
  rintro _ w139 ⟨z138, rfl, hz140, hx141⟩
  refine ⟨_, rfl, ?_⟩
  have hX142 := hX132.trans hx141 (fun i hi => Or.inl (Nat.le_trans hX34.size hi.1))
  have ho143 := ho133.extS hx141 (fun k hk hi => by have h4 := hfr80 k hk; have h5 := hi.2; omega)
  have ho144 := ho134.extS hx141 (fun k hk hi => by have h4 := hfr82 k hk; have h5 := hi.2; omega)
  refine qd rfl rfl rfl (r_assign (v := (.int .i64 z138)) rfl) ?_
  refine qe ?_
  refine s_then ?_
  refine s_seq ?_
  refine s_seq ?_
  refine c_reg ?_
  refine qd rfl rfl rfl (r_move (v := (.int .i64 z138)) rfl) ?_
  refine qd rfl rfl rfl (r_lss rfl rfl) ?_
  refine qd rfl rfl rfl (r_move (v := (.bool (decide ((z138 : Int) < 0)))) rfl) ?_
  refine qbd (p := (z138 : Int) < 0) (t := 62) rfl (fun h145 => ?_) (fun h145 => ?_)
  · skip
    refine qs rfl rfl rfl rfl rfl rfl ?_
    refine qs rfl rfl rfl rfl rfl rfl ?_
    refine qs rfl rfl rfl rfl rfl rfl ?_
    refine qs rfl rfl rfl rfl rfl rfl ?_
    refine qd rfl rfl rfl (r_pickT (v := (.bool true)) rfl rfl) ?_
    refine qd rfl rfl rfl (r_move (v := (.bool true)) rfl) ?_
    refine qs rfl rfl rfl rfl rfl rfl ?_
    refine qs rfl rfl rfl rfl rfl rfl ?_
    refine qs rfl rfl rfl rfl rfl rfl ?_
    refine qs rfl rfl rfl rfl rfl rfl ?_
    refine qd rfl rfl rfl (r_pickT (v := (.bool true)) rfl rfl) ?_
    refine qd rfl rfl rfl (r_move (v := (.bool true)) rfl) ?_
    refine qs rfl rfl rfl rfl rfl rfl ?_
    refine qs rfl rfl rfl rfl rfl rfl ?_
    refine qs rfl rfl rfl rfl rfl rfl ?_
    refine qd rfl rfl rfl (r_pickT (v := (.bool true)) rfl rfl) ?_
    refine qe ?_
    refine s_then ?_
    refine c_ifT rfl rfl ?_
    refine s_seq ?_
    refine c_reg ?_
    refine qd rfl rfl rfl (r_assign (v := (.bool false)) rfl) ?_
    refine qe ?_
    refine s_then ?_
    refine wp_ret ?_
    refine s_ret ?_
    refine c_ret1 (v := (.bool false)) rfl rfl rfl ?_
    exfalso; omega
  refine qdg rfl rfl rfl rfl rfl rfl (r_move (v := u67) rfl) ?_
  refine qdg rfl rfl rfl rfl rfl rfl (r_move (v := u27) rfl) ?_
  refine q1g rfl rfl rfl rfl rfl rfl (o_call (vs := [u67, u27]) Tryd.func22 nm22 rfl rfl rfl ?_)
  refine Calls.mono (eqIntS_same (Gadd.pins hX142.pins u67) ho143.read ((hr31.mono (Pin.le_trans (Pin.le_trans hx39.le hle62) hx118.le)).mono (Gadd.le _ _ _))) ?_
  rintro _ w147 ⟨G146, rfl, hx148⟩
  refine ⟨_, rfl, ?_⟩
  have hx149 := deep_back hX142.pins hx148
  have hX150 := hX142.step hx149.pins hx149.below
  have ho151 := ho143.below hx149.below
  have ho152 := ho144.below hx149.below
  refine qdg rfl rfl rfl rfl rfl rfl (r_not rfl) ?_
  refine qd rfl rfl rfl (r_pickF (v := (.bool false)) rfl rfl) ?_
  refine qd rfl rfl rfl (r_move (v := (.bool false)) rfl) ?_
  refine qdg rfl rfl rfl rfl rfl rfl (r_move (v := v68) rfl) ?_
  refine qdg rfl rfl rfl rfl rfl rfl (r_move (v := v28) rfl) ?_
  refine q1g rfl rfl rfl rfl rfl rfl (o_call (vs := [v68, v28]) Tryd.func22 nm22 rfl rfl rfl ?_)
  refine Calls.mono (eqIntS_same (Gadd.pins hX150.pins v68) ho152.read ((hr32.mono (Pin.le_trans (Pin.le_trans hx39.le hle62) hx118.le)).mono (Gadd.le _ _ _))) ?_
  rintro _ w154 ⟨G153, rfl, hx155⟩
  refine ⟨_, rfl, ?_⟩
  have hx156 := deep_back hX150.pins hx155
  have hX157 := hX150.step hx156.pins hx156.below
  have ho158 := ho151.below hx156.below
  have ho159 := ho152.below hx156.below
  refine qdg rfl rfl rfl rfl rfl rfl (r_not rfl) ?_
  refine qd rfl rfl rfl (r_pickF (v := (.bool false)) rfl rfl) ?_
  refine qd rfl rfl rfl (r_move (v := (.bool false)) rfl) ?_
  refine qdg rfl rfl rfl rfl rfl rfl (r_move (v := (.bool (goodB ns))) rfl) ?_
  refine qdg rfl rfl rfl rfl rfl rfl (r_move (v := (.bool (goodB ns))) rfl) ?_
  refine qdg rfl rfl rfl rfl rfl rfl (r_neqB_same Tryd.underlying4 rfl rfl) ?_
  refine qd rfl rfl rfl (r_pickF (v := (.bool false)) rfl rfl) ?_
  refine qe ?_
  refine s_then ?_
  refine c_ifF rfl rfl ?_
  refine wp_skip ?_
  refine s_then ?_
  refine s_seq ?_
  refine c_reg ?_
  refine qd rfl rfl rfl (r_assign (v := (.int .i64 1)) rfl) ?_
  refine qe ?_
  refine s_then ?_
  refine s_seq ?_
  refine c_reg ?_
  refine qd rfl rfl rfl (r_move (v := u67) rfl) ?_
  refine qd rfl rfl rfl (r_move (v := (.int .i64 1)) rfl) ?_
  have hlo164 : Lo w noS u67.ownBlock := (lo_own ho158)
  refine q1 rfl rfl rfl (o_call (vs := [u67, (.int .i64 1)]) Tryd.func25 nm25 rfl rfl rfl ?_)
  refine Calls.mono (markIntS_spec hX157.pins (ho158.weaken (Nat.zero_le _)) (by omega) (by omega)) ?_
  rintro _ w160 ⟨rfl, ho161, hx162⟩
  refine ⟨_, rfl, ?_⟩
  have hx163 := inV_O hx162
  have hX165 := hX157.trans hx163 (fun i hi => hlo164 i hi)
  have ho166 := ho159.extS hx163 (notO ha73.symm)
  refine qd rfl rfl rfl (r_assign (v := (.int .i64 (1 + ((doL ns).length : Int)))) rfl) ?_
  refine qe ?_
  refine s_then ?_
  refine s_seq ?_
  refine c_reg ?_
  refine qd rfl rfl rfl (r_move (v := v68) rfl) ?_
  refine qd rfl rfl rfl (r_move (v := (.int .i64 (1 + ((doL ns).length : Int)))) rfl) ?_
  have hlo171 : Lo w noS v68.ownBlock := (lo_own ho166)
  refine q1 rfl rfl rfl (o_call (vs := [v68, (.int .i64 (1 + ((doL ns).length : Int)))]) Tryd.func25 nm25 rfl rfl rfl ?_)
  refine Calls.mono (markIntS_spec hX165.pins (ho166.weaken (Nat.zero_le _)) (by omega) (by omega)) ?_
  rintro _ w167 ⟨rfl, ho168, hx169⟩
  refine ⟨_, rfl, ?_⟩
  have hx170 := inV_O hx169
  have hX172 := hX165.trans hx170 (fun i hi => hlo171 i hi)
  have ho173 := ho161.extS hx170 (notO ha73)
  refine qd rfl rfl rfl (r_assign (v := (.int .i64 (1 + ((doL ns).length : Int) + ((doR ns).length : Int)))) rfl) ?_
  refine qe ?_
  refine s_then ?_
  refine s_seq ?_
  refine c_reg ?_
  refine qd rfl rfl rfl (r_assign (v := (.int .i64 1)) rfl) ?_
  refine qe ?_
  refine s_then ?_
  refine s_seq ?_
  refine c_reg ?_
  refine qd rfl rfl rfl (r_move (v := u67) rfl) ?_
  refine qd rfl rfl rfl (r_move (v := (.int .i64 1)) rfl) ?_
  refine q1 rfl rfl rfl (o_call (vs := [u67, (.int .i64 1)]) Tryd.func26 nm26 rfl rfl rfl ?_)
  refine Calls.mono (heldIntS_spec (n := (doL ns).length) (kz := 1) (Gadd.pins hX172.pins u67) ho173.read (by omega) (by omega)) ?_
  rintro _ _ ⟨rfl, rfl⟩
  refine ⟨_, rfl, ?_⟩
  refine qd rfl rfl rfl (r_assign (v := (.int .i64 (1 + ((doL ns).length : Int)))) rfl) ?_
  refine qe ?_
  refine s_then ?_
  refine s_seq ?_
  refine s_seq ?_
  refine c_reg ?_
  refine qd rfl rfl rfl (r_move (v := (.int .i64 (1 + ((doL ns).length : Int)))) rfl) ?_
  refine qd rfl rfl rfl (r_lss rfl rfl) ?_
  refine qe ?_
  refine s_then ?_
  refine c_ifd (p := (1 + ((doL ns).length : Int) : Int) < 0) rfl rfl (fun h174 => ?_) (fun h174 => ?_)
  · skip
    refine s_seq ?_
    refine c_reg ?_
    refine qd rfl rfl rfl (r_assign (v := (.bool false)) rfl) ?_
    refine qe ?_
    refine s_then ?_
    refine wp_ret ?_
    refine s_ret ?_
    refine c_ret1 (v := (.bool false)) rfl rfl rfl ?_
    exfalso; omega
  refine wp_skip ?_
  refine s_then ?_
  refine s_seq ?_
  refine c_reg ?_
  refine qd rfl rfl rfl (r_move (v := v68) rfl) ?_
  refine qd rfl rfl rfl (r_move (v := (.int .i64 (1 + ((doL ns).length : Int)))) rfl) ?_
  refine q1 rfl rfl rfl (o_call (vs := [v68, (.int .i64 (1 + ((doL ns).length : Int)))]) Tryd.func26 nm26 rfl rfl rfl ?_)
  refine Calls.mono (heldIntS_spec (n := (doR ns).length) (kz := 1 + ((doL ns).length : Int)) (Gadd.pins hX172.pins v68) ho168.read (by omega) (by omega)) ?_
  rintro _ _ ⟨rfl, rfl⟩
  refine ⟨_, rfl, ?_⟩
  refine qd rfl rfl rfl (r_assign (v := (.int .i64 (1 + ((doL ns).length : Int) + ((doR ns).length : Int)))) rfl) ?_
  refine qe ?_
  refine s_then ?_
  refine s_seq ?_
  refine s_seq ?_
  refine c_reg ?_
  refine qd rfl rfl rfl (r_move (v := (.int .i64 (1 + ((doL ns).length : Int) + ((doR ns).length : Int)))) rfl) ?_
  refine qd rfl rfl rfl (r_lss rfl rfl) ?_
  refine qe ?_
  refine s_then ?_
  refine c_ifd (p := (1 + ((doL ns).length : Int) + ((doR ns).length : Int) : Int) < 0) rfl rfl (fun h175 => ?_) (fun h175 => ?_)
  · skip
    refine s_seq ?_
    refine c_reg ?_
    refine qd rfl rfl rfl (r_assign (v := (.bool false)) rfl) ?_
    refine qe ?_
    refine s_then ?_
    refine wp_ret ?_
    refine s_ret ?_
    refine c_ret1 (v := (.bool false)) rfl rfl rfl ?_
    exfalso; omega
  refine wp_skip ?_
  refine s_then ?_
  refine s_seq ?_
  refine s_seq ?_
  refine c_reg ?_
  refine qd rfl rfl rfl (r_move (v := (.int .i64 (1 + ((doL ns).length : Int) + ((doR ns).length : Int)))) rfl) ?_
  refine qd rfl rfl rfl (r_move (v := (.int .i64 (1 + ((doL ns).length : Int) + ((doR ns).length : Int)))) rfl) ?_
  refine qd rfl rfl rfl (r_neq rfl rfl) ?_
  refine qe ?_
  refine s_then ?_
  refine c_ifd (p := (1 + ((doL ns).length : Int) + ((doR ns).length : Int) : Int) ≠ (1 + ((doL ns).length : Int) + ((doR ns).length : Int))) rfl rfl (fun h176 => ?_) (fun h176 => ?_)
  · skip
    refine s_seq ?_
    refine c_reg ?_
    refine qd rfl rfl rfl (r_assign (v := (.bool false)) rfl) ?_
    refine qe ?_
    refine s_then ?_
    refine wp_ret ?_
    refine s_ret ?_
    refine c_ret1 (v := (.bool false)) rfl rfl rfl ?_
    exfalso; omega
  refine wp_skip ?_
  refine s_then ?_
  refine s_seq ?_
  refine c_reg ?_
  refine qd rfl rfl rfl (r_ldpA (cs := [v]) ag24 sz24 rfl (fun j u hj => (Pins.of_le hX172.pins (Pin.le_trans (Pin.le_trans (Pin.le_trans (Pin.le_trans (Pin.le_trans hx18.le hx25.le) hx33.le) hx39.le) hle62) hx118.le)) _ _ _ (hbp12 _ _ (by simpa using hj)))) ?_
  refine q1 rfl rfl rfl (o_call (vs := [(.agg [v].toArray)]) Tryd.func11 nm11 rfl rfl rfl ?_)
  refine Calls.mono (toForm_spec hX172.pins (hv.mono (Pin.le_trans (Pin.le_trans (Pin.le_trans (Pin.le_trans (Pin.le_trans (Pin.le_trans hle10 hx18.le) hx25.le) hx33.le) hx39.le) hle62) hx118.le)) hsm) ?_
  rintro _ w179 ⟨u177, G178, rfl, hr180, hx181⟩
  refine ⟨_, rfl, ?_⟩
  have hX182 := hX172.tr hx181
  have ho183 := ho173.ext hx181
  have ho184 := ho168.ext hx181
  refine q1 rfl rfl rfl (o_call (vs := [(.agg [u177].toArray)]) Tryd.func28 nm28 rfl rfl rfl ?_)
  refine Calls.mono (iDominatedIn_spec hX182.pins hr180) ?_
  rintro _ w188 ⟨u185, v186, G187, rfl, ho189, ho190, ha191, hx192⟩
  refine ⟨_, rfl, ?_⟩
  have hX193 := hX182.tr hx192
  have ho194 := ho183.ext hx192
  have ho195 := ho184.ext hx192
  have ho198 := ho189.weaken hX182.size
  have ho201 := ho190.weaken hX182.size
  refine qd rfl rfl rfl (r_move (v := (.tuple #[u185, v186, (.bool (goodB ns))])) rfl) ?_
  refine qd rfl rfl rfl (r_extract (v := u185) rfl rfl) ?_
  refine qd rfl rfl rfl (r_extract (v := v186) rfl rfl) ?_
  refine qd rfl rfl rfl (r_extract (v := (.bool (goodB ns))) rfl rfl) ?_
  refine qd rfl rfl rfl (r_assign (v := u185) rfl) ?_
  refine qd rfl rfl rfl (r_assign (v := v186) rfl) ?_
  refine qd rfl rfl rfl (r_assign (v := (.bool (goodB ns))) rfl) ?_
  refine qe ?_
  refine s_then ?_
  refine s_seq ?_
  refine s_seq ?_
  refine c_reg ?_
  refine qd rfl rfl rfl (r_move (v := u185) rfl) ?_
  refine qd rfl rfl rfl (r_move (v := u27) rfl) ?_
  refine q1 rfl rfl rfl (o_call (vs := [u185, u27]) Tryd.func22 nm22 rfl rfl rfl ?_)
  refine Calls.mono (eqIntS_same (Gadd.pins hX193.pins u185) ho198.read ((hr31.mono (Pin.le_trans (Pin.le_trans (Pin.le_trans (Pin.le_trans hx39.le hle62) hx118.le) hx181.le) hx192.le)).mono (Gadd.le _ _ _))) ?_
  rintro _ w203 ⟨G202, rfl, hx204⟩
  refine ⟨_, rfl, ?_⟩
  have hx205 := deep_back hX193.pins hx204
  have hX206 := hX193.step hx205.pins hx205.below
  have ho207 := ho194.below hx205.below
  have ho208 := ho195.below hx205.below
  have ho210 := ho201.below hx205.below
  refine qd rfl rfl rfl (r_not rfl) ?_
  refine qd rfl rfl rfl (r_move (v := (.bool false)) rfl) ?_
  refine qdg rfl rfl rfl rfl rfl rfl (r_move (v := v186) rfl) ?_
  refine qdg rfl rfl rfl rfl rfl rfl (r_move (v := v28) rfl) ?_
  refine q1g rfl rfl rfl rfl rfl rfl (o_call (vs := [v186, v28]) Tryd.func22 nm22 rfl rfl rfl ?_)
  refine Calls.mono (eqIntS_same (Gadd.pins hX206.pins v186) ho210.read ((hr32.mono (Pin.le_trans (Pin.le_trans (Pin.le_trans (Pin.le_trans hx39.le hle62) hx118.le) hx181.le) hx192.le)).mono (Gadd.le _ _ _))) ?_
  rintro _ w212 ⟨G211, rfl, hx213⟩
  refine ⟨_, rfl, ?_⟩
  have hx214 := deep_back hX206.pins hx213
  have hX215 := hX206.step hx214.pins hx214.below
  have ho216 := ho207.below hx214.below
  have ho217 := ho208.below hx214.below
  refine qdg rfl rfl rfl rfl rfl rfl (r_not rfl) ?_
  refine qd rfl rfl rfl (r_pickF (v := (.bool false)) rfl rfl) ?_
  refine qd rfl rfl rfl (r_move (v := (.bool false)) rfl) ?_
  refine qdg rfl rfl rfl rfl rfl rfl (r_move (v := (.bool (goodB ns))) rfl) ?_
  refine qdg rfl rfl rfl rfl rfl rfl (r_move (v := (.bool (goodB ns))) rfl) ?_
  refine qdg rfl rfl rfl rfl rfl rfl (r_neqB_same Tryd.underlying4 rfl rfl) ?_
  refine qd rfl rfl rfl (r_pickF (v := (.bool false)) rfl rfl) ?_
  refine qe ?_
  refine s_then ?_
  refine c_ifF rfl rfl ?_
  refine wp_skip ?_
  refine s_then ?_
  refine s_seq ?_
  refine c_reg ?_
  refine qd rfl rfl rfl (r_assign (v := (.int .i64 1)) rfl) ?_
  refine qe ?_
  refine s_then ?_
  refine s_seq ?_
  refine c_reg ?_
  refine qd rfl rfl rfl (r_move (v := u67) rfl) ?_
  refine qd rfl rfl rfl (r_move (v := (.int .i64 1)) rfl) ?_
  refine q1 rfl rfl rfl (o_call (vs := [u67, (.int .i64 1)]) Tryd.func26 nm26 rfl rfl rfl ?_)
  refine Calls.mono (heldIntS_spec (n := (doL ns).length) (kz := 1) (Gadd.pins hX215.pins u67) ho216.read (by omega) (by omega)) ?_
  rintro _ _ ⟨rfl, rfl⟩
  refine ⟨_, rfl, ?_⟩
  refine qd rfl rfl rfl (r_assign (v := (.int .i64 (1 + ((doL ns).length : Int)))) rfl) ?_
  refine qe ?_
  refine s_then ?_
  refine s_seq ?_
  refine s_seq ?_
  refine c_reg ?_
  refine qd rfl rfl rfl (r_move (v := (.int .i64 (1 + ((doL ns).length : Int)))) rfl) ?_
  refine qd rfl rfl rfl (r_lss rfl rfl) ?_
  refine qe ?_
  refine s_then ?_
  refine c_ifd (p := (1 + ((doL ns).length : Int) : Int) < 0) rfl rfl (fun h => absurd h h174) (fun _ => ?_)
  refine wp_skip ?_
  refine s_then ?_
  refine s_seq ?_
  refine c_reg ?_
  refine qd rfl rfl rfl (r_move (v := v68) rfl) ?_
  refine qd rfl rfl rfl (r_move (v := (.int .i64 (1 + ((doL ns).length : Int)))) rfl) ?_
  refine q1 rfl rfl rfl (o_call (vs := [v68, (.int .i64 (1 + ((doL ns).length : Int)))]) Tryd.func26 nm26 rfl rfl rfl ?_)
  refine Calls.mono (heldIntS_spec (n := (doR ns).length) (kz := 1 + ((doL ns).length : Int)) (Gadd.pins hX215.pins v68) ho217.read (by omega) (by omega)) ?_
  rintro _ _ ⟨rfl, rfl⟩
  refine ⟨_, rfl, ?_⟩
  refine qd rfl rfl rfl (r_assign (v := (.int .i64 (1 + ((doL ns).length : Int) + ((doR ns).length : Int)))) rfl) ?_
  refine qe ?_
  refine s_then ?_
  refine s_seq ?_
  refine s_seq ?_
  refine c_reg ?_
  refine qd rfl rfl rfl (r_move (v := (.int .i64 (1 + ((doL ns).length : Int) + ((doR ns).length : Int)))) rfl) ?_
  refine qd rfl rfl rfl (r_lss rfl rfl) ?_
  refine qe ?_
  refine s_then ?_
  refine c_ifd (p := (1 + ((doL ns).length : Int) + ((doR ns).length : Int) : Int) < 0) rfl rfl (fun h => absurd h h175) (fun _ => ?_)
  refine wp_skip ?_
  refine s_then ?_
  refine s_seq ?_
  refine s_seq ?_
  refine c_reg ?_
  refine qd rfl rfl rfl (r_move (v := (.int .i64 (1 + ((doL ns).length : Int) + ((doR ns).length : Int)))) rfl) ?_
  refine qd rfl rfl rfl (r_move (v := (.int .i64 (1 + ((doL ns).length : Int) + ((doR ns).length : Int)))) rfl) ?_
  refine qd rfl rfl rfl (r_neq rfl rfl) ?_
  refine qe ?_
  refine s_then ?_
  refine c_ifd (p := (1 + ((doL ns).length : Int) + ((doR ns).length : Int) : Int) ≠ (1 + ((doL ns).length : Int) + ((doR ns).length : Int))) rfl rfl (fun h => absurd h h176) (fun _ => ?_)
  refine wp_skip ?_
  refine s_then ?_
  refine s_seq ?_
  refine c_reg ?_
  refine qd rfl rfl rfl (r_assign (v := (.bool true)) rfl) ?_
  refine qe ?_
  refine s_then ?_
  refine wp_ret ?_
  refine s_ret ?_
  refine c_ret1 (v := (.bool true)) rfl rfl rfl ?_
  exact ⟨_, rfl, hX215⟩

end DW1
end Go.Proofs.YtndhhpaldhlghaaDoor
